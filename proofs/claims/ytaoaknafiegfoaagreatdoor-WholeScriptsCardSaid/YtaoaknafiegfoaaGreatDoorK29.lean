/- Part of the proof of the laws of this seat: W6. No conditions. -/
import Derived.Test.YtaoaknafiegfoaaGreatDoorK2
import Derived.Test.YtaoaknafiegfoaaGreatDoorK5
import Derived.Test.YtaoaknafiegfoaaGreatDoorK28
set_option linter.unusedVariables false
set_option linter.unusedSimpArgs false
set_option linter.unnecessarySimpa false
namespace Go.Proofs.YtaoaknafiegfoaaGreatDoor
open Go.Bil
open Go.RowKit (Below)
open Go.Proofs
set_option maxHeartbeats 4000000 in
theorem aBz (w : World) (b : Body) (hb : Okb b) :
  Calls Tryz.prog 237 #[(.agg (aF b).toArray)] w (fun ex w' => ∃ v, ex = .returned v ∧ (fun v w' => v = (.agg (oW b).toArray) ∧ Below w.heap.size w w') v w') := by
 refine aI #[.cell 2 296] 14 Tryz.func237 rfl Tryz.results237 Tryz.ntmps237 rfl ?_
 have M0 := Mem.refl w
 refine aE (aA (bK (.agg (List.toArray _)) M0 rfl rfl rfl (fun b1 w1 M1 => (aS xP M1 rfl rfl (fun b2 w2 M2 => (aB (aC (aE (aA (wq (aX 0 bO M2 rfl rfl rfl) rfl (bY bPh rfl rfl (aXw _ b hb) ?_)))))))))))
 rintro v3 w3 ⟨rfl, hb3⟩
 have M3 := M2.callB hb3
 refine wq (aH (.tuple (List.toArray _)) rfl) rfl (wq (bN (.agg (List.toArray _)) rfl rfl) rfl (wq (bN (.agg (List.toArray _)) rfl rfl) rfl (aS iD M3 rfl rfl (fun b4 w4 M4 => (aS iD M4 rfl rfl (fun b5 w5 M5 => (bG 2 _ bL M5 rfl rfl rfl rfl rfl (aR rfl) rfl (fun w6 M6 => ?_))))))))
 refine bG 3 _ bL M6 rfl rfl rfl rfl rfl (aR rfl) rfl (fun w7 M7 => (aB (aC (aE (aA (wq (aX 0 bO M7 rfl rfl rfl) rfl (wq (aX 2 bL M7 rfl rfl rfl) rfl (wq (aX 3 bL M7 rfl rfl rfl) rfl (wq (cC [(0, .agg (List.toArray _)), (1, .agg (List.toArray _)), (2, .agg (List.toArray _))] _ aVd rfl rfl) rfl ?_)))))))))
 refine bG 1 _ nU M7 rfl rfl rfl rfl rfl (aR rfl) rfl (fun w8 M8 => (aB (aC (aO (eL 1 nU M8 rfl rfl rfl ?_)))))
 exact ⟨rfl, M8.below⟩
set_option maxHeartbeats 4000000 in
theorem bFo (w : World) (a b : Body) (ha : Okb a) (hb : Okb b) :
  Calls Tryz.prog 214 #[(.agg (aF a).toArray), (.agg (aF b).toArray)] w (fun ex w' => ∃ v, ex = .returned v ∧ (fun v w' => v = .tuple #[(.agg (oW (loB a b)).toArray), (.agg (oW (hiB a b)).toArray)] ∧ Below w.heap.size w w') v w') := by
 refine aI #[.cell 4 296, .cell 5 296] 17 Tryz.func214 rfl Tryz.results214 Tryz.ntmps214 rfl ?_
 have M0 := Mem.refl w
 refine aE (aA (bK (.agg (List.toArray _)) M0 rfl rfl rfl (fun b1 w1 M1 => (bK (.agg (List.toArray _)) M1 rfl rfl rfl (fun b2 w2 M2 => (aS xP M2 rfl rfl (fun b3 w3 M3 => (aS xP M3 rfl rfl (fun b4 w4 M4 => (aB (aC (aE (aE (aA ?_))))))))))))))
 refine wq (aD 0 dL rfl) rfl (wq (aM 0 (.int _ _) bW M4 rfl rfl rfl) rfl (wq (aD 0 dL rfl) rfl (wq (aM 1 (.int _ _) bW M4 rfl rfl rfl) rfl (cZ rfl rfl rfl rfl (aB (aC ?_))))))
 refine aW rfl (fun h10 => ?_) (fun h10 => ?_)
 ·refine aA (wq (aX 1 bO M4 rfl rfl rfl) rfl (wq (aX 0 bO M4 rfl rfl rfl) rfl (bG 0 _ bO M4 rfl rfl rfl rfl rfl (aR rfl) rfl (fun w5 M5 => (bG 1 _ bO M5 rfl rfl rfl rfl rfl (aR rfl) rfl (fun w6 M6 => (aB (aC (aE ?_)))))))))
  refine bQ [(0, 1), (2, 1), (1, 2), (3, 2), (4, 2), (5, 2)] mixed rfl (by kernel_rfl) (fun w7 hb7 hh7 => ?_)
  have M7 := M6.drew hb7 hh7
  refine bS rfl rfl rfl (aX 0 bO M7 rfl rfl rfl) (bS rfl rfl rfl (aX 1 bO M7 rfl rfl rfl) (dT [false, true] rfl (by kernel_rfl) (bY aKc rfl rfl (aBz _ b hb) ?_)))
  rintro v8 w8 ⟨rfl, hb8⟩
  have M8 := M7.callB hb8
  refine aB (aC ⟨(dZ (bM rfl (aX 1 bO M8 rfl rfl rfl)) dU), ?_⟩)
  refine dT [true] rfl (by kernel_rfl) (bY aKc rfl rfl (aBz _ a ha) ?_)
  rintro v9 w9 ⟨rfl, hb9⟩
  have M9 := M8.callB hb9
  refine aB (aC ⟨dU, ?_⟩)
  refine dT [] rfl (by kernel_rfl) (bG 2 _ nU M9 rfl rfl rfl rfl rfl (aR rfl) rfl (fun w10 M10 => ?_))
  refine aB (aC ⟨dU, ?_⟩)
  refine dT [] rfl (by kernel_rfl) (bG 3 _ nU M10 rfl rfl rfl rfl rfl (aR rfl) rfl (fun w11 M11 => ?_))
  refine aB (aC ⟨dU, ?_⟩)
  refine bX (aC (aO (aTx 2 3 nU M11 rfl rfl rfl rfl rfl rfl ?_)))
  exact ⟨by unfold loB hiB; first | rw [if_pos (by omega), if_pos (by omega)] | rw [if_neg (by omega), if_neg (by omega)], M11.below⟩
 ·refine aL (aC (aE (bQ [(0, 1), (2, 1), (1, 2), (3, 2), (4, 2), (5, 2)] mixed rfl (by kernel_rfl) (fun w12 hb12 hh12 => ?_))))
  have M12 := M4.drew hb12 hh12
  refine bS rfl rfl rfl (aX 0 bO M12 rfl rfl rfl) (bS rfl rfl rfl (aX 1 bO M12 rfl rfl rfl) (dT [false, true] rfl (by kernel_rfl) (bY aKc rfl rfl (aBz _ a ha) ?_)))
  rintro v13 w13 ⟨rfl, hb13⟩
  have M13 := M12.callB hb13
  refine aB (aC ⟨(dZ (bM rfl (aX 1 bO M13 rfl rfl rfl)) dU), ?_⟩)
  refine dT [true] rfl (by kernel_rfl) (bY aKc rfl rfl (aBz _ b hb) ?_)
  rintro v14 w14 ⟨rfl, hb14⟩
  have M14 := M13.callB hb14
  refine aB (aC ⟨dU, ?_⟩)
  refine dT [] rfl (by kernel_rfl) (bG 2 _ nU M14 rfl rfl rfl rfl rfl (aR rfl) rfl (fun w15 M15 => ?_))
  refine aB (aC ⟨dU, ?_⟩)
  refine dT [] rfl (by kernel_rfl) (bG 3 _ nU M15 rfl rfl rfl rfl rfl (aR rfl) rfl (fun w16 M16 => ?_))
  refine aB (aC ⟨dU, ?_⟩)
  refine bX (aC (aO (aTx 2 3 nU M16 rfl rfl rfl rfl rfl rfl ?_)))
  exact ⟨by unfold loB hiB; first | rw [if_pos (by omega), if_pos (by omega)] | rw [if_neg (by omega), if_neg (by omega)], M16.below⟩
set_option maxHeartbeats 4000000 in
theorem bGn (w : World) (a b : Body) (ha : Okb a) (hb : Okb b) :
  Calls Tryz.prog 215 #[(.agg (oW a).toArray), (.agg (oW b).toArray)] w (fun ex w' => ∃ v, ex = .returned v ∧ (fun v w' => v = .tuple #[.int .i64 (pZ (oC a b)), .int .i64 (rE (oC a b)), .int .i64 (a.radius + b.radius)] ∧ Below w.heap.size w w') v w') := by
 have hra := ha.r
 have hrb := hb.r
 have hch := zC ha hb
 refine aI #[.tmp 4, .tmp 5, .tmp 6] 38 Tryz.func215 rfl Tryz.results215 Tryz.ntmps215 rfl ?_
 have M0 := Mem.refl w
 refine aE (aA (bK (.agg (List.toArray _)) M0 rfl rfl rfl (fun b1 w1 M1 => (bK (.agg (List.toArray _)) M1 rfl rfl rfl (fun b2 w2 M2 => (bI rfl rfl (bI rfl rfl (bI rfl rfl ?_))))))))
 refine aB (aC (aE (aA (wq (aD 10 aNe rfl) rfl (wq (qI 0 _ bL M2 rfl rfl rfl rfl) rfl (wq (aD 12 aNn rfl) rfl (wq (qI 0 _ bL M2 rfl rfl rfl rfl) rfl (wq (aD 10 aNe rfl) rfl ?_))))))))
 refine wq (qI 1 _ bL M2 rfl rfl rfl rfl) rfl (wq (aD 12 aNn rfl) rfl (wq (qI 1 _ bL M2 rfl rfl rfl rfl) rfl (bY bMn rfl rfl (aRh _ (yY a) (yV a) (yY b) (yV b) (pM ha) (pM hb)) ?_)))
 rintro v3 w3 ⟨rfl, hb3⟩
 have M3 := M2.callB hb3
 refine wq (aH (.tuple (List.toArray _)) rfl) rfl (wq (bN (.agg (List.toArray _)) rfl rfl) rfl (wq (bN (.agg (List.toArray _)) rfl rfl) rfl (aS iD M3 rfl rfl (fun b4 w4 M4 => (aS iD M4 rfl rfl (fun b5 w5 M5 => (bG 2 _ bL M5 rfl rfl rfl rfl rfl (aR rfl) rfl (fun w6 M6 => ?_))))))))
 refine bG 3 _ bL M6 rfl rfl rfl rfl rfl (aR rfl) rfl (fun w7 M7 => (aB (aC (aE (aA (wq (aX 2 bL M7 rfl rfl rfl) rfl (wq (aX 3 bL M7 rfl rfl rfl) rfl (bY aFh rfl rfl (sU _ (oC a b).1 (oC a b).2.1 hch.a.i32 hch.b.i32) ?_))))))))
 rintro v8 w8 ⟨rfl, hb8⟩
 have M8 := M7.callB hb8
 refine wq (aH (.tuple (List.toArray _)) rfl) rfl (wq (bN (.int _ _) rfl rfl) rfl (wq (bN (.int _ _) rfl rfl) rfl (bI rfl rfl (bI rfl rfl (aB (aC (aE ?_)))))))
 refine bQ [(0, 0), (1, 0), (2, 0), (3, 0), (4, 1), (5, 0), (6, 0), (7, 0), (8, 1), (9, 0), (10, 0), (11, 0), (12, 0), (13, 0)] mixed rfl (by kernel_rfl) (fun w9 hb9 hh9 => ?_)
 have M9 := M8.drew hb9 hh9
 refine eF rfl rfl rfl (eF rfl rfl rfl (aV rfl rfl rfl (fun _ => aD 0 wU rfl) (aV rfl rfl rfl (fun _ => aD 1 lH rfl) (bS rfl rfl rfl (aM 0 (.int _ _) aT M9 rfl rfl rfl) (aV rfl rfl rfl (fun _ => aZ dQ Tryz.underlying2 rfl (fH _ (by omega) (by omega))) ?_)))))
 refine aV rfl rfl rfl (fun _ => aD 0 wU rfl) (aV rfl rfl rfl (fun _ => aD 1 lH rfl) (bS rfl rfl rfl (aM 1 (.int _ _) aT M9 rfl rfl rfl) (aV rfl rfl rfl (fun _ => aZ dQ Tryz.underlying2 rfl (fH _ (by omega) (by omega))) (aV rfl rfl rfl (fun _ => aY rfl rfl (by omega) (by omega)) ?_))))
 refine mA rfl rfl rfl (mA rfl rfl rfl (mA rfl rfl rfl (bX (aC (aO (aZj (.int _ _) (.int _ _) (.int _ _) rfl rfl rfl ?_))))))
 exact ⟨rfl, M9.below⟩
set_option maxHeartbeats 4000000 in
theorem aCl (w : World) (a b : Body) (ha : Okb a) (hb : Okb b) :
  Calls Tryz.prog 185 #[(.agg (aF a).toArray), (.agg (aF b).toArray)] w (fun ex w' => ∃ v, ex = .returned v ∧ (fun v w' => v = .tuple #[.agg (aNb (jY a b)).toArray, .bool (jY a b).isSome] ∧ Below w.heap.size w w') v w') := by
 obtain ⟨hlo, hhi⟩ := bOw ha hb
 have hd := bEf hlo hhi
 have hl := vV hd.1 hd.2
 have hss := bBt hlo hhi
 have hr1 := hlo.r
 have hr2 := hhi.r
 refine aI #[.cell 4 211, .tmp 5] 52 Tryz.func185 rfl Tryz.results185 Tryz.ntmps185 rfl ?_
 have M0 := Mem.refl w
 refine aE (aA (bK (.agg (List.toArray _)) M0 rfl rfl rfl (fun b1 w1 M1 => (bK (.agg (List.toArray _)) M1 rfl rfl rfl (fun b2 w2 M2 => (aS lZ M2 rfl rfl (fun b3 w3 M3 => (wq (aJ (.bool false) rfl) rfl (aB (aC (aE (aA ?_))))))))))))
 refine wq (aX 0 bO M3 rfl rfl rfl) rfl (wq (aX 1 bO M3 rfl rfl rfl) rfl (bY bKx rfl rfl (bFo _ a b ha hb) ?_))
 rintro v4 w4 ⟨rfl, hb4⟩
 have M4 := M3.callB hb4
 refine wq (aH (.tuple (List.toArray _)) rfl) rfl (wq (bN (.agg (List.toArray _)) rfl rfl) rfl (wq (bN (.agg (List.toArray _)) rfl rfl) rfl (aS xP M4 rfl rfl (fun b5 w5 M5 => (aS xP M5 rfl rfl (fun b6 w6 M6 => (bG 3 _ nU M6 rfl rfl rfl rfl rfl (aR rfl) rfl (fun w7 M7 => ?_))))))))
 refine bG 4 _ nU M7 rfl rfl rfl rfl rfl (aR rfl) rfl (fun w8 M8 => (aB (aC (aE (aA (wq (aX 3 nU M8 rfl rfl rfl) rfl (wq (aX 4 nU M8 rfl rfl rfl) rfl (bY bNj rfl rfl (bGn _ (loB a b) (hiB a b) hlo hhi) ?_))))))))
 rintro v9 w9 ⟨rfl, hb9⟩
 have M9 := M8.callB hb9
 refine wq (aH (.tuple (List.toArray _)) rfl) rfl (wq (bN (.int _ _) rfl rfl) rfl (wq (bN (.int _ _) rfl rfl) rfl (wq (bN (.int _ _) rfl rfl) rfl (bI rfl rfl (bI rfl rfl ?_)))))
 refine bI rfl rfl (aB (aC (aE (aE (aA (aP rfl rfl (aP rfl rfl (bY aOz rfl rfl (rO _ (pZ (oC (loB a b) (hiB a b))) (rE (oC (loB a b) (hiB a b))) hd.1 hd.2) ?_))))))))
 rintro v10 w10 ⟨rfl, hb10⟩
 have M10 := M9.callB hb10
 refine aP rfl rfl (aP rfl rfl (wq (fB rfl rfl (by omega) (by omega)) rfl (wq (dA lW Tryz.underlying237 rfl) rfl (aK 31 (.int .u64 ((((loB a b).radius + (hiB a b).radius).natAbs * ((loB a b).radius + (hiB a b).radius).natAbs : Nat) : Int)) (iE (bHl _ hss)) (cZ rfl rfl rfl rfl ?_)))))
 refine aB (aC ?_)
 refine aW rfl (fun h32 => ?_) (fun h32 => ?_)
 ·refine aE (aA (wq (cC [] _ uG rfl rfl) rfl (bG 2 _ eQ M10 rfl rfl rfl rfl rfl (aR rfl) rfl (fun w11 M11 => (wq (aJ (.bool false) rfl) rfl (aB (aC (aO (cM (tR (v2 := .bool false) 2 eQ M11 rfl rfl rfl rfl ?_))))))))))
  exact ⟨by rw [aOq]; unfold jI; first | (rw [if_pos (by omega)]; rfl) | (rw [if_neg (by omega)]; rfl), M11.below⟩
 ·refine aL (aC (aE (aA (wq (aD 0 wU rfl) rfl (wq (aD 0 dL rfl) rfl (wq (aM 3 (.int _ _) bW M10 rfl rfl rfl) rfl (wq (aD 0 wU rfl) rfl (wq (aD 0 dL rfl) rfl ?_))))))))
  refine wq (aM 4 (.int _ _) bW M10 rfl rfl rfl) rfl (wq (cC [(0, .int _ _), (1, .int _ _)] _ yU rfl rfl) rfl (aS uK M10 rfl rfl (fun b12 w12 M12 => (bG 5 _ jG M12 rfl rfl rfl rfl rfl (aR rfl) rfl (fun w13 M13 => (aB (aC (aE (bQ [(0, 1), (1, 0), (2, 0), (4, 0), (5, 0), (6, 0), (3, 2), (7, 2), (8, 0), (9, 0), (10, 0), (11, 2), (12, 0)] mixed rfl (by kernel_rfl) (fun w14 hb14 hh14 => ?_))))))))))
  have M14 := M13.drew hb14 hh14
  refine bS rfl rfl rfl (aX 5 jG M14 rfl rfl rfl) (eF rfl rfl rfl (eF rfl rfl rfl (eF rfl rfl rfl (eF rfl rfl rfl (eF rfl rfl rfl ?_)))))
  refine dT [false] rfl (by kernel_rfl) (bY bNg rfl rfl (aYw _ (pZ (oC (loB a b) (hiB a b))) (rE (oC (loB a b) (hiB a b))) hd.1 hd.2) ?_)
  rintro v15 w15 ⟨rfl, hb15⟩
  have M15 := M14.callB hb15
  refine aB (aC ⟨(dZ (bM rfl (aX 5 jG M15 rfl rfl rfl)) dU), ?_⟩)
  refine dT [false] rfl (by kernel_rfl) (bY bCr rfl rfl (aDm _ (pZ (oC (loB a b) (hiB a b))) (rE (oC (loB a b) (hiB a b))) hd.1 hd.2) ?_)
  rintro v16 w16 ⟨rfl, hb16⟩
  have M16 := M15.callB hb16
  refine aB (aC ⟨(dZ (bM rfl (aX 5 jG M16 rfl rfl rfl)) dU), ?_⟩)
  refine aV rfl rfl rfl (fun _ => fU rfl rfl (by omega) (by omega)) (aV rfl rfl rfl (fun _ => dA lW Tryz.underlying21 rfl) (aV rfl rfl rfl (fun _ => cC [(0, .agg (List.toArray _)), (1, .agg (List.toArray _)), (2, .int _ _)] _ uG rfl rfl) (dT [true] rfl (by kernel_rfl) (bG 2 _ eQ M16 rfl rfl rfl rfl rfl (aR rfl) rfl (fun w17 M17 => ?_)))))
  refine aB (aC ⟨dU, ?_⟩)
  refine aV rfl rfl rfl (fun _ => aJ (.bool true) rfl) (bX (aC (aO (tR (v2 := .bool true) 2 eQ M17 rfl rfl rfl rfl ?_))))
  exact ⟨by rw [aOq]; unfold jI; first | (rw [if_pos (by omega)]; rfl) | (rw [if_neg (by omega)]; rfl), M17.below⟩
end Go.Proofs.YtaoaknafiegfoaaGreatDoor
