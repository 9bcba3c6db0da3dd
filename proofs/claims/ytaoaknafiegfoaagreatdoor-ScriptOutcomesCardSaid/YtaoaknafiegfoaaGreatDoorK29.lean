/- Part of the proof of the laws of this seat: W6. No conditions. -/
import Derived.Test.YtaoaknafiegfoaaGreatDoorK2
import Derived.Test.YtaoaknafiegfoaaGreatDoorK5
import Derived.Test.YtaoaknafiegfoaaGreatDoorK28
set_option linter.unusedVariables false
set_option linter.unusedSimpArgs false
set_option linter.unnecessarySimpa false
namespace Go.Proofs.YtaoaknafiegfoaaGreatDoor
open Go.Bil
open Go.RowKit (Below)
open Go.Proofs
set_option maxHeartbeats 4000000 in
theorem aBs (w : World) (b : Body) (hb : Okb b) :
  Calls Tryz.prog 237 #[(.agg (aF b).toArray)] w (fun ex w' => ∃ v, ex = .returned v ∧ (fun v w' => v = (.agg (oW b).toArray) ∧ Below w.heap.size w w') v w') := by
 refine aH #[.cell 2 296] 14 Tryz.func237 rfl Tryz.results237 Tryz.ntmps237 rfl ?_
 have M0 := Mem.refl w
 refine aE (aA (bJ (.agg (List.toArray _)) M0 rfl rfl rfl (fun b1 w1 M1 => (aU wZ M1 rfl rfl (fun b2 w2 M2 => (aB (aC (aE (aA (wq (aX 0 bO M2 rfl rfl rfl) rfl (bY bMw rfl rfl (aWg _ b hb) ?_)))))))))))
 rintro v3 w3 ⟨rfl, hb3⟩
 have M3 := M2.callB hb3
 refine wq (aI (.tuple (List.toArray _)) rfl) rfl (wq (bN (.agg (List.toArray _)) rfl rfl) rfl (wq (bN (.agg (List.toArray _)) rfl rfl) rfl (aU iF M3 rfl rfl (fun b4 w4 M4 => (aU iF M4 rfl rfl (fun b5 w5 M5 => (bI 2 _ bK M5 rfl rfl rfl rfl rfl (aR rfl) rfl (fun w6 M6 => ?_))))))))
 refine bI 3 _ bK M6 rfl rfl rfl rfl rfl (aR rfl) rfl (fun w7 M7 => (aB (aC (aE (aA (wq (aX 0 bO M7 rfl rfl rfl) rfl (wq (aX 2 bK M7 rfl rfl rfl) rfl (wq (aX 3 bK M7 rfl rfl rfl) rfl (wq (cG [(0, .agg (List.toArray _)), (1, .agg (List.toArray _)), (2, .agg (List.toArray _))] _ aWs rfl rfl) rfl ?_)))))))))
 refine bI 1 _ nN M7 rfl rfl rfl rfl rfl (aR rfl) rfl (fun w8 M8 => (aB (aC (aO (eL 1 nN M8 rfl rfl rfl ?_)))))
 exact ⟨rfl, M8.below⟩
set_option maxHeartbeats 4000000 in
theorem bFs (w : World) (a b : Body) (ha : Okb a) (hb : Okb b) :
  Calls Tryz.prog 214 #[(.agg (aF a).toArray), (.agg (aF b).toArray)] w (fun ex w' => ∃ v, ex = .returned v ∧ (fun v w' => v = .tuple #[(.agg (oW (loB a b)).toArray), (.agg (oW (hiB a b)).toArray)] ∧ Below w.heap.size w w') v w') := by
 refine aH #[.cell 4 296, .cell 5 296] 17 Tryz.func214 rfl Tryz.results214 Tryz.ntmps214 rfl ?_
 have M0 := Mem.refl w
 refine aE (aA (bJ (.agg (List.toArray _)) M0 rfl rfl rfl (fun b1 w1 M1 => (bJ (.agg (List.toArray _)) M1 rfl rfl rfl (fun b2 w2 M2 => (aU wZ M2 rfl rfl (fun b3 w3 M3 => (aU wZ M3 rfl rfl (fun b4 w4 M4 => (aB (aC (aE (aE (aA ?_))))))))))))))
 refine wq (aD 0 dM rfl) rfl (wq (aM 0 (.int _ _) bW M4 rfl rfl rfl) rfl (wq (aD 0 dM rfl) rfl (wq (aM 1 (.int _ _) bW M4 rfl rfl rfl) rfl (cY rfl rfl rfl rfl (aB (aC ?_))))))
 refine aV rfl (fun h10 => ?_) (fun h10 => ?_)
 ·refine aA (wq (aX 1 bO M4 rfl rfl rfl) rfl (wq (aX 0 bO M4 rfl rfl rfl) rfl (bI 0 _ bO M4 rfl rfl rfl rfl rfl (aR rfl) rfl (fun w5 M5 => (bI 1 _ bO M5 rfl rfl rfl rfl rfl (aR rfl) rfl (fun w6 M6 => (aB (aC (aE ?_)))))))))
  refine bQ [(0, 1), (2, 1), (1, 2), (3, 2), (4, 2), (5, 2)] mixed rfl (by kernel_rfl) (fun w7 hb7 hh7 => ?_)
  have M7 := M6.drew hb7 hh7
  refine bS rfl rfl rfl (aX 0 bO M7 rfl rfl rfl) (bS rfl rfl rfl (aX 1 bO M7 rfl rfl rfl) (dU [false, true] rfl (by kernel_rfl) (bY aIn rfl rfl (aBs _ b hb) ?_)))
  rintro v8 w8 ⟨rfl, hb8⟩
  have M8 := M7.callB hb8
  refine aB (aC ⟨(eB (bM rfl (aX 1 bO M8 rfl rfl rfl)) dT), ?_⟩)
  refine dU [true] rfl (by kernel_rfl) (bY aIn rfl rfl (aBs _ a ha) ?_)
  rintro v9 w9 ⟨rfl, hb9⟩
  have M9 := M8.callB hb9
  refine aB (aC ⟨dT, ?_⟩)
  refine dU [] rfl (by kernel_rfl) (bI 2 _ nN M9 rfl rfl rfl rfl rfl (aR rfl) rfl (fun w10 M10 => ?_))
  refine aB (aC ⟨dT, ?_⟩)
  refine dU [] rfl (by kernel_rfl) (bI 3 _ nN M10 rfl rfl rfl rfl rfl (aR rfl) rfl (fun w11 M11 => ?_))
  refine aB (aC ⟨dT, ?_⟩)
  refine bX (aC (aO (aSs 2 3 nN M11 rfl rfl rfl rfl rfl rfl ?_)))
  exact ⟨by unfold loB hiB; first | rw [if_pos (by omega), if_pos (by omega)] | rw [if_neg (by omega), if_neg (by omega)], M11.below⟩
 ·refine aL (aC (aE (bQ [(0, 1), (2, 1), (1, 2), (3, 2), (4, 2), (5, 2)] mixed rfl (by kernel_rfl) (fun w12 hb12 hh12 => ?_))))
  have M12 := M4.drew hb12 hh12
  refine bS rfl rfl rfl (aX 0 bO M12 rfl rfl rfl) (bS rfl rfl rfl (aX 1 bO M12 rfl rfl rfl) (dU [false, true] rfl (by kernel_rfl) (bY aIn rfl rfl (aBs _ a ha) ?_)))
  rintro v13 w13 ⟨rfl, hb13⟩
  have M13 := M12.callB hb13
  refine aB (aC ⟨(eB (bM rfl (aX 1 bO M13 rfl rfl rfl)) dT), ?_⟩)
  refine dU [true] rfl (by kernel_rfl) (bY aIn rfl rfl (aBs _ b hb) ?_)
  rintro v14 w14 ⟨rfl, hb14⟩
  have M14 := M13.callB hb14
  refine aB (aC ⟨dT, ?_⟩)
  refine dU [] rfl (by kernel_rfl) (bI 2 _ nN M14 rfl rfl rfl rfl rfl (aR rfl) rfl (fun w15 M15 => ?_))
  refine aB (aC ⟨dT, ?_⟩)
  refine dU [] rfl (by kernel_rfl) (bI 3 _ nN M15 rfl rfl rfl rfl rfl (aR rfl) rfl (fun w16 M16 => ?_))
  refine aB (aC ⟨dT, ?_⟩)
  refine bX (aC (aO (aSs 2 3 nN M16 rfl rfl rfl rfl rfl rfl ?_)))
  exact ⟨by unfold loB hiB; first | rw [if_pos (by omega), if_pos (by omega)] | rw [if_neg (by omega), if_neg (by omega)], M16.below⟩
set_option maxHeartbeats 4000000 in
theorem bIk (w : World) (a b : Body) (ha : Okb a) (hb : Okb b) :
  Calls Tryz.prog 215 #[(.agg (oW a).toArray), (.agg (oW b).toArray)] w (fun ex w' => ∃ v, ex = .returned v ∧ (fun v w' => v = .tuple #[.int .i64 (pV (oB a b)), .int .i64 (rQ (oB a b)), .int .i64 (a.radius + b.radius)] ∧ Below w.heap.size w w') v w') := by
 have hra := ha.r
 have hrb := hb.r
 have hch := zK ha hb
 refine aH #[.tmp 4, .tmp 5, .tmp 6] 38 Tryz.func215 rfl Tryz.results215 Tryz.ntmps215 rfl ?_
 have M0 := Mem.refl w
 refine aE (aA (bJ (.agg (List.toArray _)) M0 rfl rfl rfl (fun b1 w1 M1 => (bJ (.agg (List.toArray _)) M1 rfl rfl rfl (fun b2 w2 M2 => (bH rfl rfl (bH rfl rfl (bH rfl rfl ?_))))))))
 refine aB (aC (aE (aA (wq (aD 10 aNp rfl) rfl (wq (oN 0 _ bK M2 rfl rfl rfl rfl) rfl (wq (aD 12 aLr rfl) rfl (wq (oN 0 _ bK M2 rfl rfl rfl rfl) rfl (wq (aD 10 aNp rfl) rfl ?_))))))))
 refine wq (oN 1 _ bK M2 rfl rfl rfl rfl) rfl (wq (aD 12 aLr rfl) rfl (wq (oN 1 _ bK M2 rfl rfl rfl rfl) rfl (bY bKx rfl rfl (aQd _ (zT a) (yQ a) (zT b) (yQ b) (pO ha) (pO hb)) ?_)))
 rintro v3 w3 ⟨rfl, hb3⟩
 have M3 := M2.callB hb3
 refine wq (aI (.tuple (List.toArray _)) rfl) rfl (wq (bN (.agg (List.toArray _)) rfl rfl) rfl (wq (bN (.agg (List.toArray _)) rfl rfl) rfl (aU iF M3 rfl rfl (fun b4 w4 M4 => (aU iF M4 rfl rfl (fun b5 w5 M5 => (bI 2 _ bK M5 rfl rfl rfl rfl rfl (aR rfl) rfl (fun w6 M6 => ?_))))))))
 refine bI 3 _ bK M6 rfl rfl rfl rfl rfl (aR rfl) rfl (fun w7 M7 => (aB (aC (aE (aA (wq (aX 2 bK M7 rfl rfl rfl) rfl (wq (aX 3 bK M7 rfl rfl rfl) rfl (bY aDd rfl rfl (tC _ (oB a b).1 (oB a b).2.1 hch.a.i32 hch.b.i32) ?_))))))))
 rintro v8 w8 ⟨rfl, hb8⟩
 have M8 := M7.callB hb8
 refine wq (aI (.tuple (List.toArray _)) rfl) rfl (wq (bN (.int _ _) rfl rfl) rfl (wq (bN (.int _ _) rfl rfl) rfl (bH rfl rfl (bH rfl rfl (aB (aC (aE ?_)))))))
 refine bQ [(0, 0), (1, 0), (2, 0), (3, 0), (4, 1), (5, 0), (6, 0), (7, 0), (8, 1), (9, 0), (10, 0), (11, 0), (12, 0), (13, 0)] mixed rfl (by kernel_rfl) (fun w9 hb9 hh9 => ?_)
 have M9 := M8.drew hb9 hh9
 refine eD rfl rfl rfl (eD rfl rfl rfl (aW rfl rfl rfl (fun _ => aD 0 wR rfl) (aW rfl rfl rfl (fun _ => aD 1 lH rfl) (bS rfl rfl rfl (aM 0 (.int _ _) aS M9 rfl rfl rfl) (aW rfl rfl rfl (fun _ => aZ dP Tryz.underlying2 rfl (fG _ (by omega) (by omega))) ?_)))))
 refine aW rfl rfl rfl (fun _ => aD 0 wR rfl) (aW rfl rfl rfl (fun _ => aD 1 lH rfl) (bS rfl rfl rfl (aM 1 (.int _ _) aS M9 rfl rfl rfl) (aW rfl rfl rfl (fun _ => aZ dP Tryz.underlying2 rfl (fG _ (by omega) (by omega))) (aW rfl rfl rfl (fun _ => aY rfl rfl (by omega) (by omega)) ?_))))
 refine mG rfl rfl rfl (mG rfl rfl rfl (mG rfl rfl rfl (bX (aC (aO (bCj (.int _ _) (.int _ _) (.int _ _) rfl rfl rfl ?_))))))
 exact ⟨rfl, M9.below⟩
set_option maxHeartbeats 4000000 in
theorem aDq (w : World) (a b : Body) (ha : Okb a) (hb : Okb b) :
  Calls Tryz.prog 185 #[(.agg (aF a).toArray), (.agg (aF b).toArray)] w (fun ex w' => ∃ v, ex = .returned v ∧ (fun v w' => v = .tuple #[.agg (aOa (kU a b)).toArray, .bool (kU a b).isSome] ∧ Below w.heap.size w w') v w') := by
 obtain ⟨hlo, hhi⟩ := bJw ha hb
 have hd := bAf hlo hhi
 have hl := wA hd.1 hd.2
 have hss := aZu hlo hhi
 have hr1 := hlo.r
 have hr2 := hhi.r
 refine aH #[.cell 4 211, .tmp 5] 52 Tryz.func185 rfl Tryz.results185 Tryz.ntmps185 rfl ?_
 have M0 := Mem.refl w
 refine aE (aA (bJ (.agg (List.toArray _)) M0 rfl rfl rfl (fun b1 w1 M1 => (bJ (.agg (List.toArray _)) M1 rfl rfl rfl (fun b2 w2 M2 => (aU mC M2 rfl rfl (fun b3 w3 M3 => (wq (aJ (.bool false) rfl) rfl (aB (aC (aE (aA ?_))))))))))))
 refine wq (aX 0 bO M3 rfl rfl rfl) rfl (wq (aX 1 bO M3 rfl rfl rfl) rfl (bY bOk rfl rfl (bFs _ a b ha hb) ?_))
 rintro v4 w4 ⟨rfl, hb4⟩
 have M4 := M3.callB hb4
 refine wq (aI (.tuple (List.toArray _)) rfl) rfl (wq (bN (.agg (List.toArray _)) rfl rfl) rfl (wq (bN (.agg (List.toArray _)) rfl rfl) rfl (aU wZ M4 rfl rfl (fun b5 w5 M5 => (aU wZ M5 rfl rfl (fun b6 w6 M6 => (bI 3 _ nN M6 rfl rfl rfl rfl rfl (aR rfl) rfl (fun w7 M7 => ?_))))))))
 refine bI 4 _ nN M7 rfl rfl rfl rfl rfl (aR rfl) rfl (fun w8 M8 => (aB (aC (aE (aA (wq (aX 3 nN M8 rfl rfl rfl) rfl (wq (aX 4 nN M8 rfl rfl rfl) rfl (bY bNf rfl rfl (bIk _ (loB a b) (hiB a b) hlo hhi) ?_))))))))
 rintro v9 w9 ⟨rfl, hb9⟩
 have M9 := M8.callB hb9
 refine wq (aI (.tuple (List.toArray _)) rfl) rfl (wq (bN (.int _ _) rfl rfl) rfl (wq (bN (.int _ _) rfl rfl) rfl (wq (bN (.int _ _) rfl rfl) rfl (bH rfl rfl (bH rfl rfl ?_)))))
 refine bH rfl rfl (aB (aC (aE (aE (aA (aP rfl rfl (aP rfl rfl (bY aOu rfl rfl (rP _ (pV (oB (loB a b) (hiB a b))) (rQ (oB (loB a b) (hiB a b))) hd.1 hd.2) ?_))))))))
 rintro v10 w10 ⟨rfl, hb10⟩
 have M10 := M9.callB hb10
 refine aP rfl rfl (aP rfl rfl (wq (fA rfl rfl (by omega) (by omega)) rfl (wq (dA lX Tryz.underlying237 rfl) rfl (aK 31 (.int .u64 ((((loB a b).radius + (hiB a b).radius).natAbs * ((loB a b).radius + (hiB a b).radius).natAbs : Nat) : Int)) (iE (bEv _ hss)) (cY rfl rfl rfl rfl ?_)))))
 refine aB (aC ?_)
 refine aV rfl (fun h32 => ?_) (fun h32 => ?_)
 ·refine aE (aA (wq (cG [] _ uN rfl rfl) rfl (bI 2 _ eS M10 rfl rfl rfl rfl rfl (aR rfl) rfl (fun w11 M11 => (wq (aJ (.bool false) rfl) rfl (aB (aC (aO (cM (tJ (v2 := .bool false) 2 eS M11 rfl rfl rfl rfl ?_))))))))))
  exact ⟨by rw [aNm]; unfold jW; first | (rw [if_pos (by omega)]; rfl) | (rw [if_neg (by omega)]; rfl), M11.below⟩
 ·refine aL (aC (aE (aA (wq (aD 0 wR rfl) rfl (wq (aD 0 dM rfl) rfl (wq (aM 3 (.int _ _) bW M10 rfl rfl rfl) rfl (wq (aD 0 wR rfl) rfl (wq (aD 0 dM rfl) rfl ?_))))))))
  refine wq (aM 4 (.int _ _) bW M10 rfl rfl rfl) rfl (wq (cG [(0, .int _ _), (1, .int _ _)] _ zO rfl rfl) rfl (aU uB M10 rfl rfl (fun b12 w12 M12 => (bI 5 _ jF M12 rfl rfl rfl rfl rfl (aR rfl) rfl (fun w13 M13 => (aB (aC (aE (bQ [(0, 1), (1, 0), (2, 0), (4, 0), (5, 0), (6, 0), (3, 2), (7, 2), (8, 0), (9, 0), (10, 0), (11, 2), (12, 0)] mixed rfl (by kernel_rfl) (fun w14 hb14 hh14 => ?_))))))))))
  have M14 := M13.drew hb14 hh14
  refine bS rfl rfl rfl (aX 5 jF M14 rfl rfl rfl) (eD rfl rfl rfl (eD rfl rfl rfl (eD rfl rfl rfl (eD rfl rfl rfl (eD rfl rfl rfl ?_)))))
  refine dU [false] rfl (by kernel_rfl) (bY bKa rfl rfl (bCp _ (pV (oB (loB a b) (hiB a b))) (rQ (oB (loB a b) (hiB a b))) hd.1 hd.2) ?_)
  rintro v15 w15 ⟨rfl, hb15⟩
  have M15 := M14.callB hb15
  refine aB (aC ⟨(eB (bM rfl (aX 5 jF M15 rfl rfl rfl)) dT), ?_⟩)
  refine dU [false] rfl (by kernel_rfl) (bY aZh rfl rfl (aFc _ (pV (oB (loB a b) (hiB a b))) (rQ (oB (loB a b) (hiB a b))) hd.1 hd.2) ?_)
  rintro v16 w16 ⟨rfl, hb16⟩
  have M16 := M15.callB hb16
  refine aB (aC ⟨(eB (bM rfl (aX 5 jF M16 rfl rfl rfl)) dT), ?_⟩)
  refine aW rfl rfl rfl (fun _ => fV rfl rfl (by omega) (by omega)) (aW rfl rfl rfl (fun _ => dA lX Tryz.underlying21 rfl) (aW rfl rfl rfl (fun _ => cG [(0, .agg (List.toArray _)), (1, .agg (List.toArray _)), (2, .int _ _)] _ uN rfl rfl) (dU [true] rfl (by kernel_rfl) (bI 2 _ eS M16 rfl rfl rfl rfl rfl (aR rfl) rfl (fun w17 M17 => ?_)))))
  refine aB (aC ⟨dT, ?_⟩)
  refine aW rfl rfl rfl (fun _ => aJ (.bool true) rfl) (bX (aC (aO (tJ (v2 := .bool true) 2 eS M17 rfl rfl rfl rfl ?_))))
  exact ⟨by rw [aNm]; unfold jW; first | (rw [if_pos (by omega)]; rfl) | (rw [if_neg (by omega)]; rfl), M17.below⟩
end Go.Proofs.YtaoaknafiegfoaaGreatDoor
