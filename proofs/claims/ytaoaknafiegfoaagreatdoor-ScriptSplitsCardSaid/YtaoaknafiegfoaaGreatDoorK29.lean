/- Part of the proof of the laws of this seat: W6. No conditions. -/
import Derived.Test.YtaoaknafiegfoaaGreatDoorK2
import Derived.Test.YtaoaknafiegfoaaGreatDoorK5
import Derived.Test.YtaoaknafiegfoaaGreatDoorK28
set_option linter.unusedVariables false
set_option linter.unusedSimpArgs false
set_option linter.unnecessarySimpa false
namespace Go.Proofs.YtaoaknafiegfoaaGreatDoor
open Go.Bil
open Go.RowKit (Below)
open Go.Proofs
set_option maxHeartbeats 4000000 in
theorem aBz (w : World) (b : Body) (hb : Okb b) :
  Calls Tryz.prog 237 #[(.agg (aF b).toArray)] w (fun ex w' => ∃ v, ex = .returned v ∧ (fun v w' => v = (.agg (oT b).toArray) ∧ Below w.heap.size w w') v w') := by
 refine aI #[.cell 2 296] 14 Tryz.func237 rfl Tryz.results237 Tryz.ntmps237 rfl ?_
 have M0 := Mem.refl w
 refine aE (aA (bJ (.agg (List.toArray _)) M0 rfl rfl rfl (fun b1 w1 M1 => (aT yF M1 rfl rfl (fun b2 w2 M2 => (aB (aC (aE (aA (wq (aX 0 bP M2 rfl rfl rfl) rfl (bY bOp rfl rfl (aWy _ b hb) ?_)))))))))))
 rintro v3 w3 ⟨rfl, hb3⟩
 have M3 := M2.callB hb3
 refine wq (aH (.tuple (List.toArray _)) rfl) rfl (wq (bN (.agg (List.toArray _)) rfl rfl) rfl (wq (bN (.agg (List.toArray _)) rfl rfl) rfl (aT iF M3 rfl rfl (fun b4 w4 M4 => (aT iF M4 rfl rfl (fun b5 w5 M5 => (bI 2 _ bM M5 rfl rfl rfl rfl rfl (aR rfl) rfl (fun w6 M6 => ?_))))))))
 refine bI 3 _ bM M6 rfl rfl rfl rfl rfl (aR rfl) rfl (fun w7 M7 => (aB (aC (aE (aA (wq (aX 0 bP M7 rfl rfl rfl) rfl (wq (aX 2 bM M7 rfl rfl rfl) rfl (wq (aX 3 bM M7 rfl rfl rfl) rfl (wq (cF [(0, .agg (List.toArray _)), (1, .agg (List.toArray _)), (2, .agg (List.toArray _))] _ aVy rfl rfl) rfl ?_)))))))))
 refine bI 1 _ nU M7 rfl rfl rfl rfl rfl (aR rfl) rfl (fun w8 M8 => (aB (aC (aO (eL 1 nU M8 rfl rfl rfl ?_)))))
 exact ⟨rfl, M8.below⟩
set_option maxHeartbeats 4000000 in
theorem bHg (w : World) (a b : Body) (ha : Okb a) (hb : Okb b) :
  Calls Tryz.prog 214 #[(.agg (aF a).toArray), (.agg (aF b).toArray)] w (fun ex w' => ∃ v, ex = .returned v ∧ (fun v w' => v = .tuple #[(.agg (oT (loB a b)).toArray), (.agg (oT (hiB a b)).toArray)] ∧ Below w.heap.size w w') v w') := by
 refine aI #[.cell 4 296, .cell 5 296] 17 Tryz.func214 rfl Tryz.results214 Tryz.ntmps214 rfl ?_
 have M0 := Mem.refl w
 refine aE (aA (bJ (.agg (List.toArray _)) M0 rfl rfl rfl (fun b1 w1 M1 => (bJ (.agg (List.toArray _)) M1 rfl rfl rfl (fun b2 w2 M2 => (aT yF M2 rfl rfl (fun b3 w3 M3 => (aT yF M3 rfl rfl (fun b4 w4 M4 => (aB (aC (aE (aE (aA ?_))))))))))))))
 refine wq (aD 0 dM rfl) rfl (wq (aM 0 (.int _ _) bW M4 rfl rfl rfl) rfl (wq (aD 0 dM rfl) rfl (wq (aM 1 (.int _ _) bW M4 rfl rfl rfl) rfl (cY rfl rfl rfl rfl (aB (aC ?_))))))
 refine aW rfl (fun h10 => ?_) (fun h10 => ?_)
 ·refine aA (wq (aX 1 bP M4 rfl rfl rfl) rfl (wq (aX 0 bP M4 rfl rfl rfl) rfl (bI 0 _ bP M4 rfl rfl rfl rfl rfl (aR rfl) rfl (fun w5 M5 => (bI 1 _ bP M5 rfl rfl rfl rfl rfl (aR rfl) rfl (fun w6 M6 => (aB (aC (aE ?_)))))))))
  refine bR [(0, 1), (2, 1), (1, 2), (3, 2), (4, 2), (5, 2)] mixed rfl (by kernel_rfl) (fun w7 hb7 hh7 => ?_)
  have M7 := M6.drew hb7 hh7
  refine bS rfl rfl rfl (aX 0 bP M7 rfl rfl rfl) (bS rfl rfl rfl (aX 1 bP M7 rfl rfl rfl) (dU [false, true] rfl (by kernel_rfl) (bY aJb rfl rfl (aBz _ b hb) ?_)))
  rintro v8 w8 ⟨rfl, hb8⟩
  have M8 := M7.callB hb8
  refine aB (aC ⟨(eD (bL rfl (aX 1 bP M8 rfl rfl rfl)) dT), ?_⟩)
  refine dU [true] rfl (by kernel_rfl) (bY aJb rfl rfl (aBz _ a ha) ?_)
  rintro v9 w9 ⟨rfl, hb9⟩
  have M9 := M8.callB hb9
  refine aB (aC ⟨dT, ?_⟩)
  refine dU [] rfl (by kernel_rfl) (bI 2 _ nU M9 rfl rfl rfl rfl rfl (aR rfl) rfl (fun w10 M10 => ?_))
  refine aB (aC ⟨dT, ?_⟩)
  refine dU [] rfl (by kernel_rfl) (bI 3 _ nU M10 rfl rfl rfl rfl rfl (aR rfl) rfl (fun w11 M11 => ?_))
  refine aB (aC ⟨dT, ?_⟩)
  refine bX (aC (aO (aSt 2 3 nU M11 rfl rfl rfl rfl rfl rfl ?_)))
  exact ⟨by unfold loB hiB; first | rw [if_pos (by omega), if_pos (by omega)] | rw [if_neg (by omega), if_neg (by omega)], M11.below⟩
 ·refine aL (aC (aE (bR [(0, 1), (2, 1), (1, 2), (3, 2), (4, 2), (5, 2)] mixed rfl (by kernel_rfl) (fun w12 hb12 hh12 => ?_))))
  have M12 := M4.drew hb12 hh12
  refine bS rfl rfl rfl (aX 0 bP M12 rfl rfl rfl) (bS rfl rfl rfl (aX 1 bP M12 rfl rfl rfl) (dU [false, true] rfl (by kernel_rfl) (bY aJb rfl rfl (aBz _ a ha) ?_)))
  rintro v13 w13 ⟨rfl, hb13⟩
  have M13 := M12.callB hb13
  refine aB (aC ⟨(eD (bL rfl (aX 1 bP M13 rfl rfl rfl)) dT), ?_⟩)
  refine dU [true] rfl (by kernel_rfl) (bY aJb rfl rfl (aBz _ b hb) ?_)
  rintro v14 w14 ⟨rfl, hb14⟩
  have M14 := M13.callB hb14
  refine aB (aC ⟨dT, ?_⟩)
  refine dU [] rfl (by kernel_rfl) (bI 2 _ nU M14 rfl rfl rfl rfl rfl (aR rfl) rfl (fun w15 M15 => ?_))
  refine aB (aC ⟨dT, ?_⟩)
  refine dU [] rfl (by kernel_rfl) (bI 3 _ nU M15 rfl rfl rfl rfl rfl (aR rfl) rfl (fun w16 M16 => ?_))
  refine aB (aC ⟨dT, ?_⟩)
  refine bX (aC (aO (aSt 2 3 nU M16 rfl rfl rfl rfl rfl rfl ?_)))
  exact ⟨by unfold loB hiB; first | rw [if_pos (by omega), if_pos (by omega)] | rw [if_neg (by omega), if_neg (by omega)], M16.below⟩
set_option maxHeartbeats 4000000 in
theorem bHm (w : World) (a b : Body) (ha : Okb a) (hb : Okb b) :
  Calls Tryz.prog 215 #[(.agg (oT a).toArray), (.agg (oT b).toArray)] w (fun ex w' => ∃ v, ex = .returned v ∧ (fun v w' => v = .tuple #[.int .i64 (pY (oE a b)), .int .i64 (rL (oE a b)), .int .i64 (a.radius + b.radius)] ∧ Below w.heap.size w w') v w') := by
 have hra := ha.r
 have hrb := hb.r
 have hch := yL ha hb
 refine aI #[.tmp 4, .tmp 5, .tmp 6] 38 Tryz.func215 rfl Tryz.results215 Tryz.ntmps215 rfl ?_
 have M0 := Mem.refl w
 refine aE (aA (bJ (.agg (List.toArray _)) M0 rfl rfl rfl (fun b1 w1 M1 => (bJ (.agg (List.toArray _)) M1 rfl rfl rfl (fun b2 w2 M2 => (bH rfl rfl (bH rfl rfl (bH rfl rfl ?_))))))))
 refine aB (aC (aE (aA (wq (aD 10 aMb rfl) rfl (wq (oQ 0 _ bM M2 rfl rfl rfl rfl) rfl (wq (aD 12 aOb rfl) rfl (wq (oQ 0 _ bM M2 rfl rfl rfl rfl) rfl (wq (aD 10 aMb rfl) rfl ?_))))))))
 refine wq (oQ 1 _ bM M2 rfl rfl rfl rfl) rfl (wq (aD 12 aOb rfl) rfl (wq (oQ 1 _ bM M2 rfl rfl rfl rfl) rfl (bY bKg rfl rfl (aSb _ (zM a) (zI a) (zM b) (zI b) (pT ha) (pT hb)) ?_)))
 rintro v3 w3 ⟨rfl, hb3⟩
 have M3 := M2.callB hb3
 refine wq (aH (.tuple (List.toArray _)) rfl) rfl (wq (bN (.agg (List.toArray _)) rfl rfl) rfl (wq (bN (.agg (List.toArray _)) rfl rfl) rfl (aT iF M3 rfl rfl (fun b4 w4 M4 => (aT iF M4 rfl rfl (fun b5 w5 M5 => (bI 2 _ bM M5 rfl rfl rfl rfl rfl (aR rfl) rfl (fun w6 M6 => ?_))))))))
 refine bI 3 _ bM M6 rfl rfl rfl rfl rfl (aR rfl) rfl (fun w7 M7 => (aB (aC (aE (aA (wq (aX 2 bM M7 rfl rfl rfl) rfl (wq (aX 3 bM M7 rfl rfl rfl) rfl (bY aEw rfl rfl (sM _ (oE a b).1 (oE a b).2.1 hch.a.i32 hch.b.i32) ?_))))))))
 rintro v8 w8 ⟨rfl, hb8⟩
 have M8 := M7.callB hb8
 refine wq (aH (.tuple (List.toArray _)) rfl) rfl (wq (bN (.int _ _) rfl rfl) rfl (wq (bN (.int _ _) rfl rfl) rfl (bH rfl rfl (bH rfl rfl (aB (aC (aE ?_)))))))
 refine bR [(0, 0), (1, 0), (2, 0), (3, 0), (4, 1), (5, 0), (6, 0), (7, 0), (8, 1), (9, 0), (10, 0), (11, 0), (12, 0), (13, 0)] mixed rfl (by kernel_rfl) (fun w9 hb9 hh9 => ?_)
 have M9 := M8.drew hb9 hh9
 refine eB rfl rfl rfl (eB rfl rfl rfl (aU rfl rfl rfl (fun _ => aD 0 yD rfl) (aU rfl rfl rfl (fun _ => aD 1 lH rfl) (bS rfl rfl rfl (aM 0 (.int _ _) aV M9 rfl rfl rfl) (aU rfl rfl rfl (fun _ => bA dP Tryz.underlying2 rfl (fG _ (by omega) (by omega))) ?_)))))
 refine aU rfl rfl rfl (fun _ => aD 0 yD rfl) (aU rfl rfl rfl (fun _ => aD 1 lH rfl) (bS rfl rfl rfl (aM 1 (.int _ _) aV M9 rfl rfl rfl) (aU rfl rfl rfl (fun _ => bA dP Tryz.underlying2 rfl (fG _ (by omega) (by omega))) (aU rfl rfl rfl (fun _ => aY rfl rfl (by omega) (by omega)) ?_))))
 refine mG rfl rfl rfl (mG rfl rfl rfl (mG rfl rfl rfl (bX (aC (aO (aZz (.int _ _) (.int _ _) (.int _ _) rfl rfl rfl ?_))))))
 exact ⟨rfl, M9.below⟩
set_option maxHeartbeats 4000000 in
theorem aDj (w : World) (a b : Body) (ha : Okb a) (hb : Okb b) :
  Calls Tryz.prog 185 #[(.agg (aF a).toArray), (.agg (aF b).toArray)] w (fun ex w' => ∃ v, ex = .returned v ∧ (fun v w' => v = .tuple #[.agg (aLd (kT a b)).toArray, .bool (kT a b).isSome] ∧ Below w.heap.size w w') v w') := by
 obtain ⟨hlo, hhi⟩ := bOn ha hb
 have hd := aZp hlo hhi
 have hl := vV hd.1 hd.2
 have hss := aZd hlo hhi
 have hr1 := hlo.r
 have hr2 := hhi.r
 refine aI #[.cell 4 211, .tmp 5] 52 Tryz.func185 rfl Tryz.results185 Tryz.ntmps185 rfl ?_
 have M0 := Mem.refl w
 refine aE (aA (bJ (.agg (List.toArray _)) M0 rfl rfl rfl (fun b1 w1 M1 => (bJ (.agg (List.toArray _)) M1 rfl rfl rfl (fun b2 w2 M2 => (aT mC M2 rfl rfl (fun b3 w3 M3 => (wq (aJ (.bool false) rfl) rfl (aB (aC (aE (aA ?_))))))))))))
 refine wq (aX 0 bP M3 rfl rfl rfl) rfl (wq (aX 1 bP M3 rfl rfl rfl) rfl (bY bOj rfl rfl (bHg _ a b ha hb) ?_))
 rintro v4 w4 ⟨rfl, hb4⟩
 have M4 := M3.callB hb4
 refine wq (aH (.tuple (List.toArray _)) rfl) rfl (wq (bN (.agg (List.toArray _)) rfl rfl) rfl (wq (bN (.agg (List.toArray _)) rfl rfl) rfl (aT yF M4 rfl rfl (fun b5 w5 M5 => (aT yF M5 rfl rfl (fun b6 w6 M6 => (bI 3 _ nU M6 rfl rfl rfl rfl rfl (aR rfl) rfl (fun w7 M7 => ?_))))))))
 refine bI 4 _ nU M7 rfl rfl rfl rfl rfl (aR rfl) rfl (fun w8 M8 => (aB (aC (aE (aA (wq (aX 3 nU M8 rfl rfl rfl) rfl (wq (aX 4 nU M8 rfl rfl rfl) rfl (bY bKi rfl rfl (bHm _ (loB a b) (hiB a b) hlo hhi) ?_))))))))
 rintro v9 w9 ⟨rfl, hb9⟩
 have M9 := M8.callB hb9
 refine wq (aH (.tuple (List.toArray _)) rfl) rfl (wq (bN (.int _ _) rfl rfl) rfl (wq (bN (.int _ _) rfl rfl) rfl (wq (bN (.int _ _) rfl rfl) rfl (bH rfl rfl (bH rfl rfl ?_)))))
 refine bH rfl rfl (aB (aC (aE (aE (aA (aP rfl rfl (aP rfl rfl (bY aPi rfl rfl (rJ _ (pY (oE (loB a b) (hiB a b))) (rL (oE (loB a b) (hiB a b))) hd.1 hd.2) ?_))))))))
 rintro v10 w10 ⟨rfl, hb10⟩
 have M10 := M9.callB hb10
 refine aP rfl rfl (aP rfl rfl (wq (fC rfl rfl (by omega) (by omega)) rfl (wq (dA lW Tryz.underlying237 rfl) rfl (aK 31 (.int .u64 ((((loB a b).radius + (hiB a b).radius).natAbs * ((loB a b).radius + (hiB a b).radius).natAbs : Nat) : Int)) (iE (bFq _ hss)) (cY rfl rfl rfl rfl ?_)))))
 refine aB (aC ?_)
 refine aW rfl (fun h32 => ?_) (fun h32 => ?_)
 ·refine aE (aA (wq (cF [] _ uX rfl rfl) rfl (bI 2 _ eV M10 rfl rfl rfl rfl rfl (aR rfl) rfl (fun w11 M11 => (wq (aJ (.bool false) rfl) rfl (aB (aC (aO (cO (tH (v2 := .bool false) 2 eV M11 rfl rfl rfl rfl ?_))))))))))
  exact ⟨by rw [aNz]; unfold jW; first | (rw [if_pos (by omega)]; rfl) | (rw [if_neg (by omega)]; rfl), M11.below⟩
 ·refine aL (aC (aE (aA (wq (aD 0 yD rfl) rfl (wq (aD 0 dM rfl) rfl (wq (aM 3 (.int _ _) bW M10 rfl rfl rfl) rfl (wq (aD 0 yD rfl) rfl (wq (aD 0 dM rfl) rfl ?_))))))))
  refine wq (aM 4 (.int _ _) bW M10 rfl rfl rfl) rfl (wq (cF [(0, .int _ _), (1, .int _ _)] _ yU rfl rfl) rfl (aT uC M10 rfl rfl (fun b12 w12 M12 => (bI 5 _ jI M12 rfl rfl rfl rfl rfl (aR rfl) rfl (fun w13 M13 => (aB (aC (aE (bR [(0, 1), (1, 0), (2, 0), (4, 0), (5, 0), (6, 0), (3, 2), (7, 2), (8, 0), (9, 0), (10, 0), (11, 2), (12, 0)] mixed rfl (by kernel_rfl) (fun w14 hb14 hh14 => ?_))))))))))
  have M14 := M13.drew hb14 hh14
  refine bS rfl rfl rfl (aX 5 jI M14 rfl rfl rfl) (eB rfl rfl rfl (eB rfl rfl rfl (eB rfl rfl rfl (eB rfl rfl rfl (eB rfl rfl rfl ?_)))))
  refine dU [false] rfl (by kernel_rfl) (bY bMb rfl rfl (bEq _ (pY (oE (loB a b) (hiB a b))) (rL (oE (loB a b) (hiB a b))) hd.1 hd.2) ?_)
  rintro v15 w15 ⟨rfl, hb15⟩
  have M15 := M14.callB hb15
  refine aB (aC ⟨(eD (bL rfl (aX 5 jI M15 rfl rfl rfl)) dT), ?_⟩)
  refine dU [false] rfl (by kernel_rfl) (bY aZu rfl rfl (aCi _ (pY (oE (loB a b) (hiB a b))) (rL (oE (loB a b) (hiB a b))) hd.1 hd.2) ?_)
  rintro v16 w16 ⟨rfl, hb16⟩
  have M16 := M15.callB hb16
  refine aB (aC ⟨(eD (bL rfl (aX 5 jI M16 rfl rfl rfl)) dT), ?_⟩)
  refine aU rfl rfl rfl (fun _ => fR rfl rfl (by omega) (by omega)) (aU rfl rfl rfl (fun _ => dA lW Tryz.underlying21 rfl) (aU rfl rfl rfl (fun _ => cF [(0, .agg (List.toArray _)), (1, .agg (List.toArray _)), (2, .int _ _)] _ uX rfl rfl) (dU [true] rfl (by kernel_rfl) (bI 2 _ eV M16 rfl rfl rfl rfl rfl (aR rfl) rfl (fun w17 M17 => ?_)))))
  refine aB (aC ⟨dT, ?_⟩)
  refine aU rfl rfl rfl (fun _ => aJ (.bool true) rfl) (bX (aC (aO (tH (v2 := .bool true) 2 eV M17 rfl rfl rfl rfl ?_))))
  exact ⟨by rw [aNz]; unfold jW; first | (rw [if_pos (by omega)]; rfl) | (rw [if_neg (by omega)]; rfl), M17.below⟩
end Go.Proofs.YtaoaknafiegfoaaGreatDoor
