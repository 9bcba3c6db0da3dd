/- Part of the proof of the laws of this seat: W6. No conditions. -/
import Derived.Test.YtlmcphcgiclanaaGreatDoorK2
import Derived.Test.YtlmcphcgiclanaaGreatDoorK5
import Derived.Test.YtlmcphcgiclanaaGreatDoorK28
set_option linter.unusedVariables false
set_option linter.unusedSimpArgs false
set_option linter.unnecessarySimpa false
namespace Go.Proofs.YtlmcphcgiclanaaGreatDoor
open Go.Bil
open Go.RowKit (Below)
open Go.Proofs
set_option maxHeartbeats 4000000 in
theorem aAe (w : World) (b : Body) (hb : Okb b) :
  Calls Tryz.prog 198 #[(.agg (aF b).toArray)] w (fun ex w' => ∃ v, ex = .returned v ∧ (fun v w' => v = (.agg (oK b).toArray) ∧ Below w.heap.size w w') v w') := by
 refine aI #[.cell 2 239] 14 Tryz.func198 rfl Tryz.results198 Tryz.ntmps198 rfl ?_
 have M0 := Mem.refl w
 refine aE (aA (bP (.agg (List.toArray _)) M0 rfl rfl rfl (fun b1 w1 M1 => (aV wT M1 rfl rfl (fun b2 w2 M2 => (aB (aC (aE (aA (wq (aU 0 bK M2 rfl rfl rfl) rfl (bZ bIk rfl rfl (aSb _ b hb) ?_)))))))))))
 rintro v3 w3 ⟨rfl, hb3⟩
 have M3 := M2.callB hb3
 refine wq (aH (.tuple (List.toArray _)) rfl) rfl (wq (bO (.agg (List.toArray _)) rfl rfl) rfl (wq (bO (.agg (List.toArray _)) rfl rfl) rfl (aV gY M3 rfl rfl (fun b4 w4 M4 => (aV gY M4 rfl rfl (fun b5 w5 M5 => (bG 2 _ bI M5 rfl rfl rfl rfl rfl (aT rfl) rfl (fun w6 M6 => ?_))))))))
 refine bG 3 _ bI M6 rfl rfl rfl rfl rfl (aT rfl) rfl (fun w7 M7 => (aB (aC (aE (aA (wq (aU 0 bK M7 rfl rfl rfl) rfl (wq (aU 2 bI M7 rfl rfl rfl) rfl (wq (aU 3 bI M7 rfl rfl rfl) rfl (wq (cP [(0, .agg (List.toArray _)), (1, .agg (List.toArray _)), (2, .agg (List.toArray _))] _ aVa rfl rfl) rfl ?_)))))))))
 refine bG 1 _ mZ M7 rfl rfl rfl rfl rfl (aT rfl) rfl (fun w8 M8 => (aB (aC (aP (eX 1 mZ M8 rfl rfl rfl ?_)))))
 exact ⟨rfl, M8.below⟩
set_option maxHeartbeats 4000000 in
theorem bCx (w : World) (a b : Body) (ha : Okb a) (hb : Okb b) :
  Calls Tryz.prog 171 #[(.agg (aF a).toArray), (.agg (aF b).toArray)] w (fun ex w' => ∃ v, ex = .returned v ∧ (fun v w' => v = .tuple #[(.agg (oK (loB a b)).toArray), (.agg (oK (hiB a b)).toArray)] ∧ Below w.heap.size w w') v w') := by
 refine aI #[.cell 4 239, .cell 5 239] 17 Tryz.func171 rfl Tryz.results171 Tryz.ntmps171 rfl ?_
 have M0 := Mem.refl w
 refine aE (aA (bP (.agg (List.toArray _)) M0 rfl rfl rfl (fun b1 w1 M1 => (bP (.agg (List.toArray _)) M1 rfl rfl rfl (fun b2 w2 M2 => (aV wT M2 rfl rfl (fun b3 w3 M3 => (aV wT M3 rfl rfl (fun b4 w4 M4 => (aB (aC (aE (aE (aA ?_))))))))))))))
 refine wq (aD 0 dH rfl) rfl (wq (aM 0 (.int _ _) bU M4 rfl rfl rfl) rfl (wq (aD 0 dH rfl) rfl (wq (aM 1 (.int _ _) bU M4 rfl rfl rfl) rfl (cX rfl rfl rfl rfl (aB (aC ?_))))))
 refine aS rfl (fun h10 => ?_) (fun h10 => ?_)
 ·refine aA (wq (aU 1 bK M4 rfl rfl rfl) rfl (wq (aU 0 bK M4 rfl rfl rfl) rfl (bG 0 _ bK M4 rfl rfl rfl rfl rfl (aT rfl) rfl (fun w5 M5 => (bG 1 _ bK M5 rfl rfl rfl rfl rfl (aT rfl) rfl (fun w6 M6 => (aB (aC (aE ?_)))))))))
  refine bR [(0, 1), (2, 1), (1, 2), (3, 2), (4, 2), (5, 2)] mixed rfl (by kernel_rfl) (fun w7 hb7 hh7 => ?_)
  have M7 := M6.drew hb7 hh7
  refine bV rfl rfl rfl (aU 0 bK M7 rfl rfl rfl) (bV rfl rfl rfl (aU 1 bK M7 rfl rfl rfl) (dS [false, true] rfl (by kernel_rfl) (bZ aIn rfl rfl (aAe _ b hb) ?_)))
  rintro v8 w8 ⟨rfl, hb8⟩
  have M8 := M7.callB hb8
  refine aB (aC ⟨(eD (bL rfl (aU 1 bK M8 rfl rfl rfl)) dT), ?_⟩)
  refine dS [true] rfl (by kernel_rfl) (bZ aIn rfl rfl (aAe _ a ha) ?_)
  rintro v9 w9 ⟨rfl, hb9⟩
  have M9 := M8.callB hb9
  refine aB (aC ⟨dT, ?_⟩)
  refine dS [] rfl (by kernel_rfl) (bG 2 _ mZ M9 rfl rfl rfl rfl rfl (aT rfl) rfl (fun w10 M10 => ?_))
  refine aB (aC ⟨dT, ?_⟩)
  refine dS [] rfl (by kernel_rfl) (bG 3 _ mZ M10 rfl rfl rfl rfl rfl (aT rfl) rfl (fun w11 M11 => ?_))
  refine aB (aC ⟨dT, ?_⟩)
  refine bY (aC (aP (aQq 2 3 mZ M11 rfl rfl rfl rfl rfl rfl ?_)))
  exact ⟨by unfold loB hiB; first | rw [if_pos (by omega), if_pos (by omega)] | rw [if_neg (by omega), if_neg (by omega)], M11.below⟩
 ·refine aL (aC (aE (bR [(0, 1), (2, 1), (1, 2), (3, 2), (4, 2), (5, 2)] mixed rfl (by kernel_rfl) (fun w12 hb12 hh12 => ?_))))
  have M12 := M4.drew hb12 hh12
  refine bV rfl rfl rfl (aU 0 bK M12 rfl rfl rfl) (bV rfl rfl rfl (aU 1 bK M12 rfl rfl rfl) (dS [false, true] rfl (by kernel_rfl) (bZ aIn rfl rfl (aAe _ a ha) ?_)))
  rintro v13 w13 ⟨rfl, hb13⟩
  have M13 := M12.callB hb13
  refine aB (aC ⟨(eD (bL rfl (aU 1 bK M13 rfl rfl rfl)) dT), ?_⟩)
  refine dS [true] rfl (by kernel_rfl) (bZ aIn rfl rfl (aAe _ b hb) ?_)
  rintro v14 w14 ⟨rfl, hb14⟩
  have M14 := M13.callB hb14
  refine aB (aC ⟨dT, ?_⟩)
  refine dS [] rfl (by kernel_rfl) (bG 2 _ mZ M14 rfl rfl rfl rfl rfl (aT rfl) rfl (fun w15 M15 => ?_))
  refine aB (aC ⟨dT, ?_⟩)
  refine dS [] rfl (by kernel_rfl) (bG 3 _ mZ M15 rfl rfl rfl rfl rfl (aT rfl) rfl (fun w16 M16 => ?_))
  refine aB (aC ⟨dT, ?_⟩)
  refine bY (aC (aP (aQq 2 3 mZ M16 rfl rfl rfl rfl rfl rfl ?_)))
  exact ⟨by unfold loB hiB; first | rw [if_pos (by omega), if_pos (by omega)] | rw [if_neg (by omega), if_neg (by omega)], M16.below⟩
set_option maxHeartbeats 4000000 in
theorem bCu (w : World) (a b : Body) (ha : Okb a) (hb : Okb b) :
  Calls Tryz.prog 172 #[(.agg (oK a).toArray), (.agg (oK b).toArray)] w (fun ex w' => ∃ v, ex = .returned v ∧ (fun v w' => v = .tuple #[.int .i64 (pJ (nL a b)), .int .i64 (qE (nL a b)), .int .i64 (a.radius + b.radius)] ∧ Below w.heap.size w w') v w') := by
 have hra := ha.r
 have hrb := hb.r
 have hch := xK ha hb
 refine aI #[.tmp 4, .tmp 5, .tmp 6] 38 Tryz.func172 rfl Tryz.results172 Tryz.ntmps172 rfl ?_
 have M0 := Mem.refl w
 refine aE (aA (bP (.agg (List.toArray _)) M0 rfl rfl rfl (fun b1 w1 M1 => (bP (.agg (List.toArray _)) M1 rfl rfl rfl (fun b2 w2 M2 => (bC rfl rfl (bC rfl rfl (bC rfl rfl ?_))))))))
 refine aB (aC (aE (aA (wq (aD 10 aMb rfl) rfl (wq (nQ 0 _ bI M2 rfl rfl rfl rfl) rfl (wq (aD 12 aLz rfl) rfl (wq (nQ 0 _ bI M2 rfl rfl rfl rfl) rfl (wq (aD 10 aMb rfl) rfl ?_))))))))
 refine wq (nQ 1 _ bI M2 rfl rfl rfl rfl) rfl (wq (aD 12 aLz rfl) rfl (wq (nQ 1 _ bI M2 rfl rfl rfl rfl) rfl (bZ bGf rfl rfl (aPt _ (yG a) (xR a) (yG b) (xR b) (pB ha) (pB hb)) ?_)))
 rintro v3 w3 ⟨rfl, hb3⟩
 have M3 := M2.callB hb3
 refine wq (aH (.tuple (List.toArray _)) rfl) rfl (wq (bO (.agg (List.toArray _)) rfl rfl) rfl (wq (bO (.agg (List.toArray _)) rfl rfl) rfl (aV gY M3 rfl rfl (fun b4 w4 M4 => (aV gY M4 rfl rfl (fun b5 w5 M5 => (bG 2 _ bI M5 rfl rfl rfl rfl rfl (aT rfl) rfl (fun w6 M6 => ?_))))))))
 refine bG 3 _ bI M6 rfl rfl rfl rfl rfl (aT rfl) rfl (fun w7 M7 => (aB (aC (aE (aA (wq (aU 2 bI M7 rfl rfl rfl) rfl (wq (aU 3 bI M7 rfl rfl rfl) rfl (bZ aDu rfl rfl (sL _ (nL a b).1 (nL a b).2.1 hch.a.i32 hch.b.i32) ?_))))))))
 rintro v8 w8 ⟨rfl, hb8⟩
 have M8 := M7.callB hb8
 refine wq (aH (.tuple (List.toArray _)) rfl) rfl (wq (bO (.int _ _) rfl rfl) rfl (wq (bO (.int _ _) rfl rfl) rfl (bC rfl rfl (bC rfl rfl (aB (aC (aE ?_)))))))
 refine bR [(0, 0), (1, 0), (2, 0), (3, 0), (4, 1), (5, 0), (6, 0), (7, 0), (8, 1), (9, 0), (10, 0), (11, 0), (12, 0), (13, 0)] mixed rfl (by kernel_rfl) (fun w9 hb9 hh9 => ?_)
 have M9 := M8.drew hb9 hh9
 refine eF rfl rfl rfl (eF rfl rfl rfl (aX rfl rfl rfl (fun _ => aD 0 vL rfl) (aX rfl rfl rfl (fun _ => aD 1 kT rfl) (bV rfl rfl rfl (aM 0 (.int _ _) aR M9 rfl rfl rfl) (aX rfl rfl rfl (fun _ => aZ dO Tryz.underlying2 rfl (fC _ (by omega) (by omega))) ?_)))))
 refine aX rfl rfl rfl (fun _ => aD 0 vL rfl) (aX rfl rfl rfl (fun _ => aD 1 kT rfl) (bV rfl rfl rfl (aM 1 (.int _ _) aR M9 rfl rfl rfl) (aX rfl rfl rfl (fun _ => aZ dO Tryz.underlying2 rfl (fC _ (by omega) (by omega))) (aX rfl rfl rfl (fun _ => aY rfl rfl (by omega) (by omega)) ?_))))
 refine lM rfl rfl rfl (lM rfl rfl rfl (lM rfl rfl rfl (bY (aC (aP (bAp (.int _ _) (.int _ _) (.int _ _) rfl rfl rfl ?_))))))
 exact ⟨rfl, M9.below⟩
set_option maxHeartbeats 4000000 in
theorem aDm (w : World) (a b : Body) (ha : Okb a) (hb : Okb b) :
  Calls Tryz.prog 137 #[(.agg (aF a).toArray), (.agg (aF b).toArray)] w (fun ex w' => ∃ v, ex = .returned v ∧ (fun v w' => v = .tuple #[.agg (aKe (kI a b)).toArray, .bool (kI a b).isSome] ∧ Below w.heap.size w w') v w') := by
 obtain ⟨hlo, hhi⟩ := bHr ha hb
 have hd := aVn hlo hhi
 have hl := vC hd.1 hd.2
 have hss := bAv hlo hhi
 have hr1 := hlo.r
 have hr2 := hhi.r
 refine aI #[.cell 4 121, .tmp 5] 52 Tryz.func137 rfl Tryz.results137 Tryz.ntmps137 rfl ?_
 have M0 := Mem.refl w
 refine aE (aA (bP (.agg (List.toArray _)) M0 rfl rfl rfl (fun b1 w1 M1 => (bP (.agg (List.toArray _)) M1 rfl rfl rfl (fun b2 w2 M2 => (aV lT M2 rfl rfl (fun b3 w3 M3 => (wq (aJ (.bool false) rfl) rfl (aB (aC (aE (aA ?_))))))))))))
 refine wq (aU 0 bK M3 rfl rfl rfl) rfl (wq (aU 1 bK M3 rfl rfl rfl) rfl (bZ bJb rfl rfl (bCx _ a b ha hb) ?_))
 rintro v4 w4 ⟨rfl, hb4⟩
 have M4 := M3.callB hb4
 refine wq (aH (.tuple (List.toArray _)) rfl) rfl (wq (bO (.agg (List.toArray _)) rfl rfl) rfl (wq (bO (.agg (List.toArray _)) rfl rfl) rfl (aV wT M4 rfl rfl (fun b5 w5 M5 => (aV wT M5 rfl rfl (fun b6 w6 M6 => (bG 3 _ mZ M6 rfl rfl rfl rfl rfl (aT rfl) rfl (fun w7 M7 => ?_))))))))
 refine bG 4 _ mZ M7 rfl rfl rfl rfl rfl (aT rfl) rfl (fun w8 M8 => (aB (aC (aE (aA (wq (aU 3 mZ M8 rfl rfl rfl) rfl (wq (aU 4 mZ M8 rfl rfl rfl) rfl (bZ bJn rfl rfl (bCu _ (loB a b) (hiB a b) hlo hhi) ?_))))))))
 rintro v9 w9 ⟨rfl, hb9⟩
 have M9 := M8.callB hb9
 refine wq (aH (.tuple (List.toArray _)) rfl) rfl (wq (bO (.int _ _) rfl rfl) rfl (wq (bO (.int _ _) rfl rfl) rfl (wq (bO (.int _ _) rfl rfl) rfl (bC rfl rfl (bC rfl rfl ?_)))))
 refine bC rfl rfl (aB (aC (aE (aE (aA (aO rfl rfl (aO rfl rfl (bZ aPr rfl rfl (qR _ (pJ (nL (loB a b) (hiB a b))) (qE (nL (loB a b) (hiB a b))) hd.1 hd.2) ?_))))))))
 rintro v10 w10 ⟨rfl, hb10⟩
 have M10 := M9.callB hb10
 refine aO rfl rfl (aO rfl rfl (wq (eS rfl rfl (by omega) (by omega)) rfl (wq (dA lK Tryz.underlying170 rfl) rfl (aK 31 (.int .u64 ((((loB a b).radius + (hiB a b).radius).natAbs * ((loB a b).radius + (hiB a b).radius).natAbs : Nat) : Int)) (iE (bDs _ hss)) (cX rfl rfl rfl rfl ?_)))))
 refine aB (aC ?_)
 refine aS rfl (fun h32 => ?_) (fun h32 => ?_)
 ·refine aE (aA (wq (cP [] _ tK rfl rfl) rfl (bG 2 _ eL M10 rfl rfl rfl rfl rfl (aT rfl) rfl (fun w11 M11 => (wq (aJ (.bool false) rfl) rfl (aB (aC (aP (cH (rS (v2 := .bool false) 2 eL M11 rfl rfl rfl rfl ?_))))))))))
  exact ⟨by rw [aKg]; unfold jL; first | (rw [if_pos (by omega)]; rfl) | (rw [if_neg (by omega)]; rfl), M11.below⟩
 ·refine aL (aC (aE (aA (wq (aD 0 vL rfl) rfl (wq (aD 0 dH rfl) rfl (wq (aM 3 (.int _ _) bU M10 rfl rfl rfl) rfl (wq (aD 0 vL rfl) rfl (wq (aD 0 dH rfl) rfl ?_))))))))
  refine wq (aM 4 (.int _ _) bU M10 rfl rfl rfl) rfl (wq (cP [(0, .int _ _), (1, .int _ _)] _ xE rfl rfl) rfl (aV sZ M10 rfl rfl (fun b12 w12 M12 => (bG 5 _ jA M12 rfl rfl rfl rfl rfl (aT rfl) rfl (fun w13 M13 => (aB (aC (aE (bR [(0, 1), (1, 0), (2, 0), (4, 0), (5, 0), (6, 0), (3, 2), (7, 2), (8, 0), (9, 0), (10, 0), (11, 2), (12, 0)] mixed rfl (by kernel_rfl) (fun w14 hb14 hh14 => ?_))))))))))
  have M14 := M13.drew hb14 hh14
  refine bV rfl rfl rfl (aU 5 jA M14 rfl rfl rfl) (eF rfl rfl rfl (eF rfl rfl rfl (eF rfl rfl rfl (eF rfl rfl rfl (eF rfl rfl rfl ?_)))))
  refine dS [false] rfl (by kernel_rfl) (bZ bGs rfl rfl (aZm _ (pJ (nL (loB a b) (hiB a b))) (qE (nL (loB a b) (hiB a b))) hd.1 hd.2) ?_)
  rintro v15 w15 ⟨rfl, hb15⟩
  have M15 := M14.callB hb15
  refine aB (aC ⟨(eD (bL rfl (aU 5 jA M15 rfl rfl rfl)) dT), ?_⟩)
  refine dS [false] rfl (by kernel_rfl) (bZ aWs rfl rfl (aCa _ (pJ (nL (loB a b) (hiB a b))) (qE (nL (loB a b) (hiB a b))) hd.1 hd.2) ?_)
  rintro v16 w16 ⟨rfl, hb16⟩
  have M16 := M15.callB hb16
  refine aB (aC ⟨(eD (bL rfl (aU 5 jA M16 rfl rfl rfl)) dT), ?_⟩)
  refine aX rfl rfl rfl (fun _ => fX rfl rfl (by omega) (by omega)) (aX rfl rfl rfl (fun _ => dA lK Tryz.underlying21 rfl) (aX rfl rfl rfl (fun _ => cP [(0, .agg (List.toArray _)), (1, .agg (List.toArray _)), (2, .int _ _)] _ tK rfl rfl) (dS [true] rfl (by kernel_rfl) (bG 2 _ eL M16 rfl rfl rfl rfl rfl (aT rfl) rfl (fun w17 M17 => ?_)))))
  refine aB (aC ⟨dT, ?_⟩)
  refine aX rfl rfl rfl (fun _ => aJ (.bool true) rfl) (bY (aC (aP (rS (v2 := .bool true) 2 eL M17 rfl rfl rfl rfl ?_))))
  exact ⟨by rw [aKg]; unfold jL; first | (rw [if_pos (by omega)]; rfl) | (rw [if_neg (by omega)]; rfl), M17.below⟩
end Go.Proofs.YtlmcphcgiclanaaGreatDoor
