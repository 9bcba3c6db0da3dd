/- Part of the proof of the laws of this seat: P22, W22a, W22b, W22c, R22a, D22, K23, S23, E23, R23, R23b, Aw23, Op23, Tp24. No conditions. -/
import Derived.Test.YtaoaknafiegfoaaGreatDoorK2
import Derived.Test.YtaoaknafiegfoaaGreatDoorK5
import Derived.Test.YtaoaknafiegfoaaGreatDoorK32
import Derived.Test.YtaoaknafiegfoaaGreatDoorK28
import Derived.Test.YtaoaknafiegfoaaGreatDoorK35
import Derived.Test.YtaoaknafiegfoaaGreatDoorK33
import Derived.Test.YtaoaknafiegfoaaGreatDoorK23
import Derived.Test.YtaoaknafiegfoaaGreatDoorK34
import Derived.Test.YtaoaknafiegfoaaGreatDoorK18
import Derived.Test.YtaoaknafiegfoaaGreatDoorK3
import Derived.Test.YtaoaknafiegfoaaGreatDoorK26
set_option linter.unusedVariables false
set_option linter.unusedSimpArgs false
set_option linter.unnecessarySimpa false
namespace Go.Proofs.YtaoaknafiegfoaaGreatDoor
open Go.Bil
open Go.RowKit (Below)
open Go.Proofs
set_option maxHeartbeats 8000000 in
theorem aZx (w : World) (b : Body) (hb : Okb b) (j : Int × Int) (hj1 : -2147483648 ≤ j.1 ∧ j.1 ≤ 2147483647) (hj2 : -2147483648 ≤ j.2 ∧ j.2 ≤ 2147483647) :
  Calls Tryz.prog 124 #[(.agg (aF b).toArray), .agg [.int .i32 j.1, .int .i32 j.2].toArray] w (fun ex w' => ∃ v, ex = .returned v ∧ (fun v w' => (∃ g : Bool, v = .tuple #[(.agg (aF (mG b j)).toArray), .bool g]) ∧ Below w.heap.size w w') v w') := by
 have hv := hb.v
 have hm := hb.m
 have hp1 := bIh hj1 hm
 have hp2 := bIh hj2 hm
 refine aI #[.cell 4 39, .tmp 5] 45 Tryz.func124 rfl Tryz.results124 Tryz.ntmps124 rfl ?_
 have M0 := Mem.refl w
 refine aE (aA (bK (.agg (List.toArray _)) M0 rfl rfl rfl (fun b1 w1 M1 => (bK (.agg (List.toArray _)) M1 rfl rfl rfl (fun b2 w2 M2 => (aS fN M2 rfl rfl (fun b3 w3 M3 => (wq (aJ (.bool false) rfl) rfl (aB (aC (aE (aA ?_))))))))))))
 refine aS aUj M3 rfl rfl (fun b4 w4 M4 => (dD 3 (.bool false) pC M4 rfl rfl rfl rfl rfl rfl (fun w5 M5 => (aB (aC (aE (aA (wq (aD 8 dV rfl) rfl (wq (aD 0 cR rfl) rfl (wq (aM 0 (.int _ _) aT M5 rfl rfl rfl) rfl ?_))))))))))
 refine wq (aZ dQ Tryz.underlying2 rfl (fH _ (by omega) (by omega))) rfl (wq (aD 0 cR rfl) rfl (wq (aM 1 (.int _ _) aT M5 rfl rfl rfl) rfl (wq (aZ dQ Tryz.underlying2 rfl (fH _ (by omega) (by omega))) rfl (wq (aD 4 eH rfl) rfl (wq (aM 0 (.int _ _) aT M5 rfl rfl rfl) rfl ?_)))))
 refine wq (aZ dQ Tryz.underlying2 rfl (fH _ (by omega) (by omega))) rfl (wq (fB rfl rfl (by omega) (by omega)) rfl (wq (jQ rfl rfl (by decide)) rfl (aK 20 (.int .i64 (j.1 * b.mass / 65536)) (iE (pL _)) (wq (aY rfl rfl (by omega) (by omega)) rfl (bI rfl rfl ?_)))))
 refine aB (aC (aE (aA (wq (aD 8 dV rfl) rfl (wq (aD 1 cO rfl) rfl (wq (aM 0 (.int _ _) aT M5 rfl rfl rfl) rfl (wq (aZ dQ Tryz.underlying2 rfl (fH _ (by omega) (by omega))) rfl (wq (aD 1 cO rfl) rfl ?_))))))))
 refine wq (aM 1 (.int _ _) aT M5 rfl rfl rfl) rfl (wq (aZ dQ Tryz.underlying2 rfl (fH _ (by omega) (by omega))) rfl (wq (aD 4 eH rfl) rfl (wq (aM 0 (.int _ _) aT M5 rfl rfl rfl) rfl (wq (aZ dQ Tryz.underlying2 rfl (fH _ (by omega) (by omega))) rfl (wq (fB rfl rfl (by omega) (by omega)) rfl ?_)))))
 refine wq (jQ rfl rfl (by decide)) rfl (aK 33 (.int .i64 (j.2 * b.mass / 65536)) (iE (pL _)) (wq (aY rfl rfl (by omega) (by omega)) rfl (bI rfl rfl (aB (aC (aE (aA (aP rfl rfl ?_))))))))
 refine cT [.pointer _] [[.pointer (some ⟨b4, 0, none⟩)]] rfl aHb M5 rfl rfl rfl rfl (dG rfl) (by decide) (fun b6 w6 M6 => ?_)
 have hlit36 := kH (T := 174) (sz := 1) (b := b6) (nn := 1) [[.pointer (some ⟨b4, 0, none⟩)]] (by simp) rfl (by decide)
 refine bY aFc rfl rfl (nP _ (b.vx + j.1 * b.mass / 65536) 16777216 ⟨by decide, by decide⟩ b4 _ _ 1 (hlit36.rd M6 (bH (i := 4) rfl)) (hlit36.awayB M6 4 3 rfl rfl rfl) (M6.ownSeg 3 1)) ?_
 rintro v7 w7 ⟨rfl, hM7⟩
 have M7 : Mem _ _ [_, _, _, _, _] _ := M6.seg 3 1 hM7
 refine aP rfl rfl (cT [.pointer _] [[.pointer (some ⟨b4, 0, none⟩)]] rfl aHb M7 rfl rfl rfl rfl (dG rfl) (by decide) (fun b8 w8 M8 => ?_))
 have hlit39 := kH (T := 174) (sz := 1) (b := b8) (nn := 1) [[.pointer (some ⟨b4, 0, none⟩)]] (by simp) rfl (by decide)
 refine bY aFc rfl rfl (nP _ (b.vy + j.2 * b.mass / 65536) 16777216 ⟨by decide, by decide⟩ b4 _ _ 1 (hlit39.rd M8 (bH (i := 5) rfl)) (hlit39.awayB M8 5 3 rfl rfl rfl) (M8.ownSeg 3 1)) ?_
 rintro v9 w9 ⟨rfl, hM9⟩
 have M9 : Mem _ _ [_, _, _, _, _, _] _ := M8.seg 3 1 hM9
 refine wq (cC [(0, .int _ _), (1, .int _ _)] _ eK rfl rfl) rfl (wq (aD 8 dV rfl) rfl (sO 0 _ bL M9 rfl rfl rfl rfl rfl (aR rfl) (Nat.le_of_ble_eq_true rfl) (fun w10 M10 => (aB (aC (aE (bQ [(0, 1), (1, 1), (2, 2), (3, 0)] mixed rfl (by kernel_rfl) (fun w11 hb11 hh11 => ?_))))))))
 have M11 := M10.drew hb11 hh11
 refine bS rfl rfl rfl (aX 0 bO M11 rfl rfl rfl) (bS rfl rfl rfl (aM 3 (.bool _) pC M11 rfl rfl rfl) (dT [false, true] rfl (by kernel_rfl) (bG 2 _ bO M11 rfl rfl rfl rfl rfl (aR rfl) rfl (fun w12 M12 => ?_))))
 refine aB (aC ⟨(dZ (bM rfl (aM 3 (.bool _) pC M12 rfl rfl rfl)) dU), ?_⟩)
 refine aV rfl rfl rfl (fun _ => aJ (.bool _) rfl) (bX (aC (aO (tR (v2 := .bool _) 2 bO M12 rfl rfl rfl rfl ?_))))
 exact ⟨⟨_, rfl⟩, M12.below⟩
set_option maxHeartbeats 8000000 in
theorem aCj (w : World) (b : Body) (hb : Okb b) (j : Int × Int) (hj1 : -2147483648 ≤ j.1 ∧ j.1 ≤ 2147483647) (hj2 : -2147483648 ≤ j.2 ∧ j.2 ≤ 2147483647) :
  Calls Tryz.prog 127 #[(.agg (aF b).toArray), .agg [.int .i32 j.1, .int .i32 j.2].toArray] w (fun ex w' => ∃ v, ex = .returned v ∧ (fun v w' => (∃ g : Bool, v = .tuple #[(.agg (aF (mG b j)).toArray), .bool g]) ∧ Below w.heap.size w w') v w') := by
 have hv := hb.v
 have hm := hb.m
 have hp1 := bIh hj1 hm
 have hp2 := bIh hj2 hm
 have hlx := eP (b.vx + j.1 * b.mass / 65536) (l := 16777216) (by decide)
 have hly := eP (b.vy + j.2 * b.mass / 65536) (l := 16777216) (by decide)
 refine aI #[.cell 4 39, .tmp 5] 57 Tryz.func127 rfl Tryz.results127 Tryz.ntmps127 rfl ?_
 have M0 := Mem.refl w
 refine aE (aA (bK (.agg (List.toArray _)) M0 rfl rfl rfl (fun b1 w1 M1 => (bK (.agg (List.toArray _)) M1 rfl rfl rfl (fun b2 w2 M2 => (aS fN M2 rfl rfl (fun b3 w3 M3 => (wq (aJ (.bool false) rfl) rfl (aB (aC (aE ?_)))))))))))
 refine bQ [(0, 0), (1, 0), (2, 1), (3, 0), (4, 0), (5, 1), (6, 0), (7, 0), (8, 1), (9, 0), (10, 0), (11, 2), (12, 0), (13, 0)] mixed rfl (by kernel_rfl) (fun w4 hb4 hh4 => ?_)
 have M4 := M3.drew hb4 hh4
 refine aV rfl rfl rfl (fun _ => aD 8 dV rfl) (aV rfl rfl rfl (fun _ => aD 0 cR rfl) (bS rfl rfl rfl (aM 0 (.int _ _) aT M4 rfl rfl rfl) (aV rfl rfl rfl (fun _ => aZ dQ Tryz.underlying2 rfl (fH _ (by omega) (by omega))) (aV rfl rfl rfl (fun _ => aD 0 cR rfl) ?_))))
 refine bS rfl rfl rfl (aM 1 (.int _ _) aT M4 rfl rfl rfl) (aV rfl rfl rfl (fun _ => aZ dQ Tryz.underlying2 rfl (fH _ (by omega) (by omega))) (aV rfl rfl rfl (fun _ => aD 4 eH rfl) (bS rfl rfl rfl (aM 0 (.int _ _) aT M4 rfl rfl rfl) (aV rfl rfl rfl (fun _ => aZ dQ Tryz.underlying2 rfl (fH _ (by omega) (by omega))) ?_))))
 refine aV rfl rfl rfl (fun _ => fB rfl rfl (by omega) (by omega)) (dT [true, true, false] rfl (by kernel_rfl) (bY kW rfl rfl (fA _ (j.1 * b.mass) 65536 (by decide) (by omega) (by omega)) ?_))
 rintro v5 w5 ⟨rfl, hb5⟩
 have M5 := M4.callB hb5
 refine aB (aC ⟨(dZ (bM rfl (aM 0 (.int _ _) aT M5 rfl rfl rfl)) dU), ?_⟩)
 refine aV rfl rfl rfl (fun _ => aY rfl rfl (by omega) (by omega)) (mA rfl rfl rfl (bX (aC (aE (bQ [(0, 0), (1, 0), (2, 1), (3, 0), (4, 0), (5, 1), (6, 0), (7, 0), (8, 1), (9, 0), (10, 0), (11, 2), (12, 0), (13, 0)] mixed rfl (by kernel_rfl) (fun w6 hb6 hh6 => ?_))))))
 have M6 := M5.drew hb6 hh6
 refine aV rfl rfl rfl (fun _ => aD 8 dV rfl) (aV rfl rfl rfl (fun _ => aD 1 cO rfl) (bS rfl rfl rfl (aM 0 (.int _ _) aT M6 rfl rfl rfl) (aV rfl rfl rfl (fun _ => aZ dQ Tryz.underlying2 rfl (fH _ (by omega) (by omega))) (aV rfl rfl rfl (fun _ => aD 1 cO rfl) ?_))))
 refine bS rfl rfl rfl (aM 1 (.int _ _) aT M6 rfl rfl rfl) (aV rfl rfl rfl (fun _ => aZ dQ Tryz.underlying2 rfl (fH _ (by omega) (by omega))) (aV rfl rfl rfl (fun _ => aD 4 eH rfl) (bS rfl rfl rfl (aM 0 (.int _ _) aT M6 rfl rfl rfl) (aV rfl rfl rfl (fun _ => aZ dQ Tryz.underlying2 rfl (fH _ (by omega) (by omega))) ?_))))
 refine aV rfl rfl rfl (fun _ => fB rfl rfl (by omega) (by omega)) (dT [true, true, false] rfl (by kernel_rfl) (bY kW rfl rfl (fA _ (j.2 * b.mass) 65536 (by decide) (by omega) (by omega)) ?_))
 rintro v7 w7 ⟨rfl, hb7⟩
 have M7 := M6.callB hb7
 refine aB (aC ⟨(dZ (bM rfl (aM 0 (.int _ _) aT M7 rfl rfl rfl)) dU), ?_⟩)
 refine aV rfl rfl rfl (fun _ => aY rfl rfl (by omega) (by omega)) (mA rfl rfl rfl (bX (aC (aE (aA (aP rfl rfl (bY wF rfl rfl (kB _ (b.vx + j.1 * b.mass / 65536) 16777216 ⟨by decide, by decide⟩) ?_)))))))
 rintro v8 w8 ⟨rfl, hb8⟩
 have M8 := M7.callB hb8
 refine wq (aZ lW Tryz.underlying21 rfl (iW _ (by omega) (by omega))) rfl (aP rfl rfl (bY wF rfl rfl (kB _ (b.vy + j.2 * b.mass / 65536) 16777216 ⟨by decide, by decide⟩) ?_))
 rintro v9 w9 ⟨rfl, hb9⟩
 have M9 := M8.callB hb9
 refine wq (aZ lW Tryz.underlying21 rfl (iW _ (by omega) (by omega))) rfl (wq (cC [(0, .int _ _), (1, .int _ _)] _ eK rfl rfl) rfl (wq (aD 8 dV rfl) rfl (sO 0 _ bL M9 rfl rfl rfl rfl rfl (aR rfl) (Nat.le_of_ble_eq_true rfl) (fun w10 M10 => (aB (aC (aE (bQ [(0, 1), (1, 0), (2, 0), (3, 1), (4, 0), (5, 0), (6, 0), (7, 0), (8, 0), (9, 0), (10, 1), (11, 0), (12, 0), (13, 0), (14, 0), (15, 2), (16, 0)] mixed rfl (by kernel_rfl) (fun w11 hb11 hh11 => ?_)))))))))
 have M11 := M10.drew hb11 hh11
 refine bS rfl rfl rfl (aX 0 bO M11 rfl rfl rfl) (aV rfl rfl rfl (fun _ => aD 8 dV rfl) (aV rfl rfl rfl (fun _ => aD 0 cR rfl) (bS rfl rfl rfl (aM 0 (.int _ _) aT M11 rfl rfl rfl) (aV rfl rfl rfl (fun _ => aZ dQ Tryz.underlying2 rfl (fH _ (by omega) (by omega))) ?_))))
 refine eF rfl rfl rfl (aV rfl rfl rfl (fun _ => bZ (.bool (decide _)) rfl rfl rfl) (aV rfl rfl rfl (fun _ => aH (.bool (decide _)) rfl) ?_))
 refine aEw 49 rfl (fun g49 => ?_) (fun g49 => ?_)
 ·refine D_s rfl rfl rfl (D_s rfl rfl rfl (zU rfl rfl rfl (D_s rfl rfl rfl (D_s rfl rfl rfl (D_s rfl rfl rfl ?_)))))
  refine aV rfl rfl rfl (fun _ => bR true (.bool true) rfl rfl) (dT [false, true, true] rfl (by kernel_rfl) (bG 2 _ bO M11 rfl rfl rfl rfl rfl (aR rfl) rfl (fun w12 M12 => ?_)))
  refine aB (aC ⟨(dZ (.inr ⟨rfl, rfl⟩) dU), ?_⟩)
  refine aV rfl rfl rfl (fun _ => aJ (.bool true) rfl) (bX (aC (aO (tR (v2 := .bool true) 2 bO M12 rfl rfl rfl rfl ?_))))
  exact ⟨⟨_, rfl⟩, M12.below⟩
 ·refine aV rfl rfl rfl (fun _ => aD 8 dV rfl) (aV rfl rfl rfl (fun _ => aD 1 cO rfl) (bS rfl rfl rfl (aM 0 (.int _ _) aT M11 rfl rfl rfl) (aV rfl rfl rfl (fun _ => aZ dQ Tryz.underlying2 rfl (fH _ (by omega) (by omega))) (eF rfl rfl rfl (aV rfl rfl rfl (fun _ => bZ (.bool (decide _)) rfl rfl rfl) ?_)))))
  refine aV rfl rfl rfl (fun _ => bR false (.bool (decide _)) rfl rfl) (dT [false, true, true] rfl (by kernel_rfl) (bG 2 _ bO M11 rfl rfl rfl rfl rfl (aR rfl) rfl (fun w13 M13 => ?_)))
  refine aB (aC ⟨(dZ (bM rfl (aM 0 (.int _ _) aT M13 rfl rfl rfl)) dU), ?_⟩)
  refine aV rfl rfl rfl (fun _ => aJ (.bool (decide _)) rfl) (bX (aC (aO (tR (v2 := .bool (decide _)) 2 bO M13 rfl rfl rfl rfl ?_))))
  exact ⟨⟨_, rfl⟩, M13.below⟩
set_option maxHeartbeats 4000000 in
theorem aDd (w : World) (b : Nat) :
  Calls Tryz.prog 60 #[.pointer (some ⟨b, 0, none⟩)] w (fun ex w' => ∃ v, ex = .returned v ∧ (fun v w' => v = .pointer (some ⟨b, 0, none⟩) ∧ Below w.heap.size w w') v w') := by
 refine aI #[.tmp 2] 8 Tryz.func60 rfl Tryz.results60 Tryz.ntmps60 rfl ?_
 have M0 := Mem.refl w
 refine aE (aA (wq (aJ (.pointer _) rfl) rfl (aB (aC (aE (aE (aA (wq (aH (.pointer _) rfl) rfl (wq (gD false Tryz.underlying25 rfl rfl) rfl (aB (aC ?_)))))))))))
 refine cJ rfl (aL (aC (aE (aA (wq (aH (.pointer _) rfl) rfl (wq (bE rfl) rfl (wq (aD 0 tL rfl) rfl (wq (aJ (.pointer _) rfl) rfl ?_))))))))
 refine aB (aC (aO (cD (.pointer _) rfl ?_)))
 exact ⟨rfl, M0.below⟩
set_option maxHeartbeats 4000000 in
theorem aVv (w : World) (b : Nat) (r : StV) (vs : List Body) (hW : dB 39 r vs) (hO : Own [(some b, bc [.slice r.A r.n r.c, .map r.p] 107), r.er, r.em] w) (x : Body) (hx : InB x) :
  Calls Tryz.prog 26 #[.pointer (some ⟨b, 0, none⟩), (.agg (aF x).toArray)] w (fun ex w' => ∃ v, ex = .returned v ∧ (fun v w' => ∃ r' : StV, v = .int .i64 (mP vs x).2 ∧ dB 39 r' ((mP vs x).1) ∧ Mem w (cE [(some b, bc [.slice r.A r.n r.c, .map r.p] 107), r.er, r.em]) [(some b, bc [.slice r'.A r'.n r'.c, .map r'.p] 107), r'.er, r'.em] w') v w') := by
 obtain ⟨hG, m, hs, hR⟩ := hW
 refine aI #[.tmp 4] 15 Tryz.func26 rfl Tryz.results26 Tryz.ntmps26 rfl ?_
 have M0 := hO.mem
 refine aE (aA (bK (.agg (List.toArray _)) M0 rfl rfl rfl (fun b1 w1 M1 => (bI rfl rfl (aB (aC (aE (aE (aA (wq (aH (.pointer _) rfl) rfl (bY bEs rfl rfl (aDd _ b) ?_)))))))))))
 rintro v2 w2 ⟨rfl, hb2⟩
 have M2 := M1.callB hb2
 refine wq (aJ (.pointer _) rfl) rfl (aB (aC (aE (aA (wq (aH (.pointer _) rfl) rfl (wq (vS true Tryz.underlying119 rfl rfl) rfl (aB (aC (cF rfl ?_)))))))))
 refine aE (bQ [(0, 0), (1, 0), (2, 0), (3, 1), (4, 2), (5, 0)] mixed rfl (by kernel_rfl) (fun w3 hb3 hh3 => ?_))
 have M3 := M2.drew hb3 hh3
 refine aV rfl rfl rfl (fun _ => aH (.pointer _) rfl) (aV rfl rfl rfl (fun _ => bE rfl) (aV rfl rfl rfl (fun _ => aD 0 qN rfl) (bS rfl rfl rfl (aX 3 bO M3 rfl rfl rfl) (dT [true] rfl (by kernel_rfl) (bY bJn rfl rfl (aSx _ _ _ _ _ _ _ _ _ hs (M3.ownSeg 0 3) x) ?_)))))
 rintro v4 w4 ⟨rfl, A4, n4, c4, p4, er4, em4, hs4, hM4⟩
 have M4 : Mem _ _ [_, _, _, _] _ := M3.seg 0 3 hM4
 refine aB (aC ⟨dU, ?_⟩)
 refine mA rfl rfl rfl (bX (aC (aO (cM (cD (.int _ _) rfl ?_)))))
 obtain ⟨q1, q2⟩ := hR.add x
 exact ⟨⟨A4, n4, c4, p4, er4, em4⟩, by rw [q2], aBo hs4 q1 (aTs (hG.inm hR) hx), M4.keep [true, true, true, false]⟩
set_option maxHeartbeats 4000000 in
theorem aJw (w : World) (b : Nat) (r : StV) (vs : List Body) (hW : dB 39 r vs) (hO : Own [(some b, bc [.slice r.A r.n r.c, .map r.p] 107), r.er, r.em] w) (key : Int) :
  Calls Tryz.prog 86 #[.pointer (some ⟨b, 0, none⟩), .int .u32 key] w (fun ex w' => ∃ v, ex = .returned v ∧ (fun v w' => ∃ r' : StV, v = .int .i64 (gQ vs key).2 ∧ dB 39 r' ((gQ vs key).1) ∧ Mem w (cE [(some b, bc [.slice r.A r.n r.c, .map r.p] 107), r.er, r.em]) [(some b, bc [.slice r'.A r'.n r'.c, .map r'.p] 107), r'.er, r'.em] w') v w') := by
 obtain ⟨hG, m, hs, hR⟩ := hW
 refine aI #[.tmp 4] 15 Tryz.func86 rfl Tryz.results86 Tryz.ntmps86 rfl ?_
 have M0 := hO.mem
 refine aE (aA (bI rfl rfl (aB (aC (aE (aE (aA (wq (aH (.pointer _) rfl) rfl (bY bEs rfl rfl (aDd _ b) ?_)))))))))
 rintro v1 w1 ⟨rfl, hb1⟩
 have M1 := M0.callB hb1
 refine wq (aJ (.pointer _) rfl) rfl (aB (aC (aE (aA (wq (aH (.pointer _) rfl) rfl (wq (vS true Tryz.underlying119 rfl rfl) rfl (aB (aC (cF rfl ?_)))))))))
 refine aE (aA (wq (aH (.pointer _) rfl) rfl (wq (bE rfl) rfl (wq (aD 0 qN rfl) rfl (aP rfl rfl (bY bPg rfl rfl (aRi _ _ _ _ _ _ _ _ _ hs (M1.ownSeg 0 3) key) ?_))))))
 rintro v2 w2 ⟨rfl, A2, n2, c2, p2, er2, em2, hs2, hM2⟩
 have M2 : Mem _ _ [_, _, _] _ := M1.seg 0 3 hM2
 refine bI rfl rfl (aB (aC (aO (cM (cD (.int _ _) rfl ?_)))))
 obtain ⟨q1, q2⟩ := hR.remove key
 exact ⟨⟨A2, n2, c2, p2, er2, em2⟩, by rw [q2], aBo hs2 q1 (aEu hs.keys (hG.inm hR)), M2.keep [true, true, true]⟩
set_option maxHeartbeats 4000000 in
theorem aVf (w : World) (b : Nat) (r : StV) (vs : List Body) (hW : dB 39 r vs) (hO : Own [(some b, bc [.slice r.A r.n r.c, .map r.p] 107), r.er, r.em] w) (key : Int) :
  Calls Tryz.prog 69 #[.pointer (some ⟨b, 0, none⟩), .int .u32 key] w (fun ex w' => ∃ v, ex = .returned v ∧ (fun v w' => v = .tuple #[(.agg (aF (qS vs key).body).toArray), .int .i64 (qS vs key).err] ∧ Mem w (cE [(some b, bc [.slice r.A r.n r.c, .map r.p] 107), r.er, r.em]) [(some b, bc [.slice r.A r.n r.c, .map r.p] 107), r.er, r.em] w') v w') := by
 obtain ⟨hG, m, hs, hR⟩ := hW
 refine aI #[.cell 4 39, .tmp 5] 19 Tryz.func69 rfl Tryz.results69 Tryz.ntmps69 rfl ?_
 have M0 := hO.mem
 refine aE (aA (aS fN M0 rfl rfl (fun b1 w1 M1 => (bI rfl rfl (aB (aC (aE (aE (aA (wq (aH (.pointer _) rfl) rfl (bY bEs rfl rfl (aDd _ b) ?_)))))))))))
 rintro v2 w2 ⟨rfl, hb2⟩
 have M2 := M1.callB hb2
 refine wq (aJ (.pointer _) rfl) rfl (aB (aC (aE (aA (wq (aH (.pointer _) rfl) rfl (wq (vS true Tryz.underlying119 rfl rfl) rfl (aB (aC (cF rfl ?_)))))))))
 refine aE (aA (wq (aH (.pointer _) rfl) rfl (wq (bE rfl) rfl (wq (aD 0 qN rfl) rfl (aP rfl rfl (bY bOc rfl rfl (bHv _ _ _ _ _ _ _ _ _ hs (M2.ownSeg 0 3) key) ?_))))))
 rintro v3 w3 ⟨⟨x3, rfl, hx3⟩, hM3⟩
 have M3 : Mem _ _ [_, _, _, _] _ := M2.seg 0 3 hM3
 have hge := bHt hR key
 obtain rfl : x3 = (qS vs key).body := by rw [hx3, hge]
 have hge2 : (aDb m key).2 = (qS vs key).err := by rw [hge]
 refine wq (bN (.agg (List.toArray _)) rfl rfl) rfl (wq (bN (.int _ _) rfl rfl) rfl (aK 17 (.int .i64 (qS vs key).err) (iE hge2) (bG 3 _ bO M3 rfl rfl rfl rfl rfl (aR rfl) rfl (fun w4 M4 => (bI rfl rfl (aB (aC (aO (cM ?_)))))))))
 refine tR (v2 := .int _ _) 3 bO M4 rfl rfl rfl rfl ?_
 exact ⟨rfl, M4.keep [true, true, true, false]⟩
set_option maxHeartbeats 4000000 in
theorem rF (w : World) (b : Nat) (r : StV) (vs : List Body) (hW : dB 39 r vs) (hO : Own [(some b, bc [.slice r.A r.n r.c, .map r.p] 107), r.er, r.em] w) :
  Calls Tryz.prog 38 #[.pointer (some ⟨b, 0, none⟩)] w (fun ex w' => ∃ v, ex = .returned v ∧ (fun v w' => ∃ q : Row, v = .slice q.A q.n q.c ∧ bC 39 10 q.A q.n q.c ((vs).map aF) q.e ∧ Mem w (cE [(some b, bc [.slice r.A r.n r.c, .map r.p] 107), r.er, r.em]) [(some b, bc [.slice r.A r.n r.c, .map r.p] 107), r.er, r.em, q.e] w') v w') := by
 have hW' := hW
 obtain ⟨hG, m, hs, hR⟩ := hW
 refine aI #[.tmp 2] 10 Tryz.func38 rfl Tryz.results38 Tryz.ntmps38 rfl ?_
 have M0 := hO.mem
 refine aE (aA (eM rfl rfl (aB (aC (aE (aE (aA (wq (aH (.pointer _) rfl) rfl (wq (gD false Tryz.underlying25 rfl rfl) rfl (aB (aC ?_)))))))))))
 refine cJ rfl (aL (aC (aE (aA (wq (aH (.pointer _) rfl) rfl (wq (bE rfl) rfl (wq (aD 0 tL rfl) rfl (wq (aD 0 qN rfl) rfl ?_))))))))
 refine bY bRw rfl rfl (aRx _ _ _ _ _ _ _ _ _ hs (M0.ownSeg 0 3)) ?_
 rintro v1 w1 ⟨A1, n1, c1, e1, rfl, hR1, hM1⟩
 have M1 : Mem _ _ [_, _, _, _] _ := M0.seg 0 3 hM1
 rw [hR.eq] at hR1
 refine eM rfl rfl (aB (aC (aO (cD (.slice _ _ _) rfl ?_))))
 exact ⟨⟨A1, n1, c1, e1⟩, rfl, hR1, M1⟩
set_option maxHeartbeats 4000000 in
theorem pB (w : World) (b : Nat) (r : StV) (vs : List Body) (hW : dB 39 r vs) (hO : Own [(some b, bc [.slice r.A r.n r.c, .map r.p] 107), r.er, r.em] w) :
  Calls Tryz.prog 24 #[.pointer (some ⟨b, 0, none⟩)] w (fun ex w' => ∃ v, ex = .returned v ∧ (fun v w' => ∃ q : Row, v = .slice q.A q.n q.c ∧ bC 5 1 q.A q.n q.c ((oG vs).map bJ) q.e ∧ Mem w (cE [(some b, bc [.slice r.A r.n r.c, .map r.p] 107), r.er, r.em]) [(some b, bc [.slice r.A r.n r.c, .map r.p] 107), r.er, r.em, q.e] w') v w') := by
 have hW' := hW
 obtain ⟨hG, m, hs, hR⟩ := hW
 refine aI #[.tmp 2] 14 Tryz.func24 rfl Tryz.results24 Tryz.ntmps24 rfl ?_
 have M0 := hO.mem
 refine aE (aA (eM rfl rfl (aB (aC (aE (aE (aA (wq (aH (.pointer _) rfl) rfl (wq (gD false Tryz.underlying25 rfl rfl) rfl (aB (aC ?_)))))))))))
 refine cJ rfl (aL (aC (aE (aA (wq (aH (.pointer _) rfl) rfl (bY aUp rfl rfl (rF _ _ r _ hW' (M0.ownSeg 0 3)) ?_))))))
 rintro v1 w1 ⟨q, rfl, hq, hM1⟩
 have M1 : Mem _ _ [_, _, _, _] _ := M0.seg 0 3 hM1
 have hqn : vs.length = q.n := by simpa using hq.1
 have hvl := hG.len
 refine bY bRu rfl rfl (aKv _ _ _ _ vs (hq.rd M1 (bH (i := 3) rfl)) (by omega) hG.chk hG.inb) ?_
 rintro v2 w2 ⟨z, rfl, hz, hM2⟩
 have M2 : Mem _ _ [_, _, _, _, _] _ := M1.call0 hM2
 refine wq (aH (.tuple (List.toArray _)) rfl) rfl (wq (bN (.slice _ _ _) rfl rfl) rfl (wq (bN (.int _ _) rfl rfl) rfl (eM rfl rfl (bI rfl rfl (aB (aC (aE (aA ?_))))))))
 refine dO rfl rfl (eM rfl rfl (aB (aC (aO (cD (.slice _ _ _) rfl ?_)))))
 exact ⟨z, rfl, hz, M2.keep [true, true, true, false, true]⟩
set_option maxHeartbeats 8000000 in
theorem aFp (w : World) (b : Nat) (r : StV) (vs : List Body) (hW : dB 39 r vs) (hO : Own [(some b, bc [.slice r.A r.n r.c, .map r.p] 107), r.er, r.em] w) (key : Int) (j : Int × Int) (hj1 : -2147483648 ≤ j.1 ∧ j.1 ≤ 2147483647) (hj2 : -2147483648 ≤ j.2 ∧ j.2 ≤ 2147483647) :
  Calls Tryz.prog 91 #[.pointer (some ⟨b, 0, none⟩), .int .u32 key, .agg [.int .i32 j.1, .int .i32 j.2].toArray] w (fun ex w' => ∃ v, ex = .returned v ∧ (fun v w' => ∃ r' : StV, v = .int .i64 (qX vs key j).2 ∧ dB 39 r' ((qX vs key j).1) ∧ Mem w (cE [(some b, bc [.slice r.A r.n r.c, .map r.p] 107), r.er, r.em]) [(some b, bc [.slice r'.A r'.n r'.c, .map r'.p] 107), r'.er, r'.em] w') v w') := by
 have hW' := hW
 obtain ⟨hG, m, hs, hR⟩ := hW
 refine aI #[.tmp 6] 30 Tryz.func91 rfl Tryz.results91 Tryz.ntmps91 rfl ?_
 have M0 := hO.mem
 refine aE (aA (bK (.agg (List.toArray _)) M0 rfl rfl rfl (fun b1 w1 M1 => (bI rfl rfl (aB (aC (aE (aA (wq (aH (.pointer _) rfl) rfl (aP rfl rfl ?_))))))))))
 refine bY bQk rfl rfl (aVf _ _ r vs hW' (M1.ownSeg 0 3) key) ?_
 rintro v2 w2 ⟨rfl, hM2⟩
 have M2 : Mem _ _ [_, _, _, _] _ := M1.seg 0 3 hM2
 refine wq (aH (.tuple (List.toArray _)) rfl) rfl (wq (bN (.agg (List.toArray _)) rfl rfl) rfl (wq (bN (.int _ _) rfl rfl) rfl (aS fN M2 rfl rfl (fun b3 w3 M3 => (bG 4 _ bO M3 rfl rfl rfl rfl rfl (aR rfl) rfl (fun w4 M4 => (bI rfl rfl ?_)))))))
 refine aB (aC (aE (aE (aA (aP rfl rfl (cZ rfl rfl rfl rfl (aB (aC ?_))))))))
 refine aW rfl (fun h16 => ?_) (fun h16 => ?_)
 ·refine aE (aA (aP rfl rfl (bI rfl rfl (aB (aC (aO (cM (cD (.int _ _) rfl ?_))))))))
  have hf : dI key vs < 0 := Decidable.byContradiction fun h => h16 (by unfold qS; rw [if_neg h]; rfl)
  exact ⟨r, by rw [tE j hf]; unfold qS; rw [if_pos hf], by rw [tE j hf]; exact hW', M4.keep [true, true, true, false, false]⟩
 ·have hf : ¬ dI key vs < 0 := fun h => h16 (by unfold qS; rw [if_pos h]; decide)
  obtain ⟨i, bb, hbi, _, hfi⟩ := (eJ key vs).resolve_left (fun h => hf (by omega))
  have hgb : (qS vs key).body = bb := by unfold qS; rw [if_neg hf]; exact tD hfi hbi
  obtain ⟨z1, z2, z3, z4⟩ := aSo hR hG j hfi hbi
  have hbo := hG.okb bb (List.mem_of_getElem? hbi)
  refine aL (aC (aE (aA (wq (aX 4 bO M4 rfl rfl rfl) rfl (aK 19 ((.agg (aF bb).toArray)) (congrArg (fun x => Value.agg (aF x).toArray) hgb) (wq (aX 3 bL M4 rfl rfl rfl) rfl (bY bNw rfl rfl (aZx _ bb hbo j hj1 hj2) ?_)))))))
  rintro v5 w5 ⟨⟨gg, rfl⟩, hb5⟩
  have M5 := M4.callB hb5
  refine wq (aH (.tuple (List.toArray _)) rfl) rfl (wq (bN (.agg (List.toArray _)) rfl rfl) rfl (wq (bN (.bool _) rfl rfl) rfl (bG 4 _ bO M5 rfl rfl rfl rfl rfl (aR rfl) rfl (fun w6 M6 => (aB (aC (aE (bQ [(0, 0), (1, 0), (2, 0), (3, 0), (4, 1), (5, 2), (6, 0)] mixed rfl (by kernel_rfl) (fun w7 hb7 hh7 => ?_)))))))))
  have M7 := M6.drew hb7 hh7
  refine aV rfl rfl rfl (fun _ => aH (.pointer _) rfl) (aV rfl rfl rfl (fun _ => bE rfl) (aV rfl rfl rfl (fun _ => aD 0 tL rfl) (aV rfl rfl rfl (fun _ => aD 0 qN rfl) (bS rfl rfl rfl (aX 4 bO M7 rfl rfl rfl) (dT [true] rfl (by kernel_rfl) ?_)))))
  refine bY bNh rfl rfl (bId _ _ _ _ _ _ _ _ _ hs (M7.ownSeg 0 3) (mG bb j)) ?_
  rintro v8 w8 ⟨rfl, A8, n8, c8, p8, er8, em8, hs8, hM8⟩
  have M8 : Mem _ _ [_, _, _, _, _] _ := M7.seg 0 3 hM8
  refine aB (aC ⟨dU, ?_⟩)
  refine mA rfl rfl rfl (bX (aC (aO (cD (.int _ _) rfl ?_))))
  exact ⟨⟨A8, n8, c8, p8, er8, em8⟩, by rw [z3, z2], aBo hs8 z1 (aTd (hG.inm hR) (aTh (hG.inb bb (List.mem_of_getElem? hbi)) j)), M8.keep [true, true, true, false, false]⟩
set_option maxHeartbeats 8000000 in
theorem qD (w : World) (b : Nat) (r : StV) (vs : List Body) (hW : dB 39 r vs) (hO : Own [(some b, bc [.slice r.A r.n r.c, .map r.p] 107), r.er, r.em] w) (A : Option Addr) (n c : Nat) (xs : List Body) (RA : Rd w 10 A n (xs.map aF)) (hX : GoodV xs) (hdA : 0 < n → ∀ q off, A = some ⟨q, off, none⟩ → q ∉ cE [(some b, bc [.slice r.A r.n r.c, .map r.p] 107), r.er, r.em]) :
  Calls Tryz.prog 78 #[.pointer (some ⟨b, 0, none⟩), .slice A n c] w (fun ex w' => ∃ v, ex = .returned v ∧ (fun v w' => ∃ r' : StV, v = .tuple #[] ∧ dB 39 r' (xs) ∧ Mem w (cE [(some b, bc [.slice r.A r.n r.c, .map r.p] 107), r.er, r.em]) [(some b, bc [.slice r'.A r'.n r'.c, .map r'.p] 107), r'.er, r'.em] w') v w') := by
 have hlen : xs.length = n := by simpa using RA.len
 have hbd := RA.bound
 have hxl := hX.len
 refine aI #[] 23 Tryz.func78 rfl Tryz.results78 Tryz.ntmps78 rfl ?_
 have M0 := hO.mem
 refine aE (aA (wq (aH (.pointer _) rfl) rfl (wq (cC [] _ aXt rfl rfl) rfl (wq (bE rfl) rfl (wq (aD 0 tL rfl) rfl (bG 0 _ bPi M0 rfl rfl rfl rfl rfl (aR rfl) rfl (fun w1 M1 => ?_)))))))
 refine aB (aC (aE (aA ?_)))
 have M2 : Mem _ _ [_, _, _] _ := (((M1.keep [true, false, false]).dummy default).dummy default)
 refine dO rfl rfl (wq (dC Tryz.underlying29 rfl) rfl (aP rfl rfl (aB (aC (aQ (dS (σ := Nat × StV) [0, 10, 11] (fun (k, r2) => [(12, .int .i64 (k : Int))]) (fun (k, r2) w' => (k ≤ n ∧ StoreIs 39 r2.A r2.n r2.c r2.p r2.er r2.em (xs.take k)) ∧ Mem w (cE [(some b, bc [.slice r.A r.n r.c, .map r.p] 107), r.er, r.em]) [(some b, bc [.slice r2.A r2.n r2.c, .map r2.p] 107), r2.er, r2.em] w') (fun (k, r2) => n - k) (0, ⟨none, 0, 0, none, (none, default), (none, default)⟩) (bA rfl eB) (⟨⟨by omega, (StoreIs.nil 39 default default)⟩, M2⟩) ?_))))))
 rintro ⟨k, r2⟩ ρ3 w3 ⟨⟨hk, hr⟩, hM3⟩
 refine aE (aA (cZ rfl rfl rfl rfl (aB (aC (aE ?_)))))
 refine aW rfl (fun h13 => ?_) (fun h13 => ?_)
 ·obtain ⟨xb, hxb⟩ := cS (xs := xs) (k := k) hlen (by omega)
  refine aL (aC (aE (aQ (aE (aA (wq (bP (k) dH rfl rfl rfl ((RA.memY hM3 hdA).below_len (aG aF hxb)) ((RA.memY hM3 hdA).someK (aG aF hxb))) rfl (wq (dN _ bO (RA.memY hM3 hdA) (aG aF hxb) rfl) rfl (aS fN hM3 rfl rfl (fun b4 w4 M4 => ?_)))))))))
  refine bG 3 _ bO M4 rfl rfl rfl rfl rfl (aR rfl) rfl (fun w5 M5 => (aB (aC (bQ [(0, 0), (1, 0), (2, 0), (3, 0), (4, 1), (5, 2)] mixed rfl (by kernel_rfl) (fun w6 hb6 hh6 => ?_)))))
  have M6 := M5.drew hb6 hh6
  refine aV rfl rfl rfl (fun _ => aH (.pointer _) rfl) (aV rfl rfl rfl (fun _ => bE rfl) (aV rfl rfl rfl (fun _ => aD 0 tL rfl) (aV rfl rfl rfl (fun _ => aD 0 qN rfl) (bS rfl rfl rfl (aX 3 bO M6 rfl rfl rfl) (dT [true] rfl (by kernel_rfl) ?_)))))
  refine bY bJn rfl rfl (aSx _ _ _ _ _ _ _ _ _ hr (M6.ownSeg 0 3) xb) ?_
  rintro v7 w7 ⟨rfl, A7, n7, c7, p7, er7, em7, hs7, hM7⟩
  have M7 : Mem _ _ [_, _, _, _] _ := M6.seg 0 3 hM7
  refine aB (aC ⟨dU, ?_⟩)
  refine bX (cV (aC (aA (wq (aY rfl rfl (by omega) (by omega)) rfl (aP rfl rfl (aB ?_))))))
  refine cG (k + 1, ⟨A7, n7, c7, p7, er7, em7⟩) (bA rfl eB) (cN rfl (cN rfl (cN rfl gV))) ?_ ?_
  ·exact ⟨⟨by omega, by rw [← aLy hX (k + 1) (by omega), aFd hxb, aLy hX k (by omega)]; exact hs7⟩, M7.keep [true, true, true, false]⟩
  ·(show n - (k + 1) < n - k; omega)
 ·obtain rfl : k = n := by omega
  rw [List.take_of_length_le (by omega)] at hr
  refine cX (dF (dK (eS (lD ?_))))
  exact ⟨r2, rfl, ⟨hX, xs, hr, xI hX.s⟩, hM3⟩
set_option maxHeartbeats 8000000 in
theorem aPy (w : World) (F : Rd w 2 (some ⟨0, 0, none⟩) 1 [[.int .u32 73856093, .int .u32 19349663]]) (N : Rd w 4 (some ⟨3, 0, none⟩) 1 [eI jO]) (b : Nat) (r : StV) (vs : List Body) (hW : dB 39 r vs) (hO : Own [(some b, bc [.slice r.A r.n r.c, .map r.p] 107), r.er, r.em] w) (hdF : 0 < 1 → ∀ q off, (some ⟨0, 0, none⟩ : Option Addr) = some ⟨q, off, none⟩ → q ∉ cE [(some b, bc [.slice r.A r.n r.c, .map r.p] 107), r.er, r.em]) (hdN : 0 < 1 → ∀ q off, (some ⟨3, 0, none⟩ : Option Addr) = some ⟨q, off, none⟩ → q ∉ cE [(some b, bc [.slice r.A r.n r.c, .map r.p] 107), r.er, r.em]) :
  Calls Tryz.prog 53 #[.pointer (some ⟨b, 0, none⟩)] w (fun ex w' => ∃ v, ex = .returned v ∧ (fun v w' => ∃ (r' : StV) (t : Nat), v = .agg [.int .i64 (t : Int), .int .i64 ((kL vs).length : Int), .bool (sJ vs)].toArray ∧ dB 39 r' (pU vs) ∧ Mem w (cE [(some b, bc [.slice r.A r.n r.c, .map r.p] 107), r.er, r.em]) [(some b, bc [.slice r'.A r'.n r'.c, .map r'.p] 107), r'.er, r'.em] w') v w') := by
 have hW' := hW
 obtain ⟨hG, m, hs, hR⟩ := hW
 have hvl := hG.len
 refine aI #[.cell 2 58] 18 Tryz.func53 rfl Tryz.results53 Tryz.ntmps53 rfl ?_
 have M0 := hO.mem
 refine aE (aA (aS wA M0 rfl rfl (fun b1 w1 M1 => (aB (aC (aE (aE (aA (wq (aH (.pointer _) rfl) rfl (wq (gD false Tryz.underlying25 rfl rfl) rfl (aB (aC ?_))))))))))))
 refine cJ rfl (aL (aC (aE (aA (wq (aH (.pointer _) rfl) rfl (bY aUp rfl rfl (rF _ _ r _ hW' (M1.ownSeg 0 3)) ?_))))))
 rintro v2 w2 ⟨q, rfl, hq, hM2⟩
 have M2 : Mem _ _ [_, _, _, _, _] _ := M1.seg 0 3 hM2
 have hqn : vs.length = q.n := by simpa using hq.1
 refine bY bJa rfl rfl (aHz _ (F.memY M2 hdF) (N.memY M2 hdN) _ _ _ vs (hq.rd M2 (bH (i := 4) rfl)) hG.okb hG.s (by omega)) ?_
 rintro v3 w3 ⟨ra, ta, rfl, h1ta, h2ta, hra, hM3⟩
 have M3 : Mem _ _ [_, _, _, _, _, _] _ := M2.call0 hM3
 refine wq (aH (.tuple (List.toArray _)) rfl) rfl (wq (bN (.slice _ _ _) rfl rfl) rfl (wq (bN (.agg (List.toArray _)) rfl rfl) rfl (aS wA M3 rfl rfl (fun b4 w4 M4 => (eM rfl rfl (bG 6 _ qK M4 rfl rfl rfl rfl rfl (aR rfl) rfl (fun w5 M5 => ?_)))))))
 refine aB (aC (aE (aA (wq (aH (.pointer _) rfl) rfl (dO rfl rfl (bY bCo rfl rfl (qD _ _ r _ hW' (M5.ownSeg 0 3) ra.A ra.n ra.c (pU vs) (hra.rd M5 (bH (i := 5) rfl)) hG.step (hra.awayS M5 0 3 5 rfl rfl)) ?_))))))
 rintro v6 w6 ⟨r2, rfl, hw2, hM6⟩
 have M6 : Mem _ _ [_, _, _, _, _, _, _] _ := M5.seg 0 3 hM6
 refine aB (aC (aE (aA (wq (aX 6 qK M6 rfl rfl rfl) rfl (bG 3 _ qK M6 rfl rfl rfl rfl rfl (aR rfl) rfl (fun w7 M7 => (aB (aC (aO (eL 3 qK M7 rfl rfl rfl ?_))))))))))
 exact ⟨r2, ta, rfl, hw2, M7.keep [true, true, true, false, false, false, false]⟩
set_option maxHeartbeats 8000000 in
theorem aGh (w : World) (b : Nat) (r : StV) (vs : List Body) (hW : dB 39 r vs) (hO : Own [(some b, bc [.slice r.A r.n r.c, .map r.p] 107), r.er, r.em] w) (BA : Option Addr) (nn cc : Nat) (ls : List Int) (RS : Rd w 1 BA nn (ls.map bJ)) (hB : jH ls) (hcap : nn ≤ cc) (hnn : nn ≤ 1000000) (hdB : 0 < nn → ∀ q off, BA = some ⟨q, off, none⟩ → q ∉ cE [(some b, bc [.slice r.A r.n r.c, .map r.p] 107), r.er, r.em]) :
  Calls Tryz.prog 74 #[.pointer (some ⟨b, 0, none⟩), .slice BA nn cc] w (fun ex w' => ∃ v, ex = .returned v ∧ (fun v w' => ∃ r' : StV, v = .int .i64 (mN ls).2 ∧ dB 39 r' (sV vs ls) ∧ Mem w (cE [(some b, bc [.slice r.A r.n r.c, .map r.p] 107), r.er, r.em]) [(some b, bc [.slice r'.A r'.n r'.c, .map r'.p] 107), r'.er, r'.em] w') v w') := by
 have hW' := hW
 obtain ⟨hG, m, hs, hR⟩ := hW
 have hlen : ls.length = nn := by simpa using RS.len
 refine aI #[.tmp 4] 20 Tryz.func74 rfl Tryz.results74 Tryz.ntmps74 rfl ?_
 have M0 := hO.mem
 refine aE (aA (bI rfl rfl (aB (aC (aE (aE (aA (wq (aH (.pointer _) rfl) rfl (wq (gD false Tryz.underlying25 rfl rfl) rfl (aB (aC ?_)))))))))))
 refine cJ rfl (aL (aC (aE (aA (dO rfl rfl (bY bJy rfl rfl (xH _ BA nn cc ls (RS.memY M0 hdB) hB hcap (by omega)) ?_))))))
 rintro v1 w1 ⟨q, rfl, hq, hM1⟩
 have M1 : Mem _ _ [_, _, _, _] _ := M0.call0 hM1
 refine wq (aH (.tuple (List.toArray _)) rfl) rfl (wq (bN (.slice _ _ _) rfl rfl) rfl (wq (bN (.int _ _) rfl rfl) rfl (eM rfl rfl (bI rfl rfl (aB (aC (aE (aE (aA ?_)))))))))
 refine aP rfl rfl (cZ rfl rfl rfl rfl (aB (aC ?_)))
 refine aW rfl (fun h15 => ?_) (fun h15 => ?_)
 ·refine aA (wq (aH (.pointer _) rfl) rfl (dO rfl rfl (bY bCo rfl rfl (qD _ _ r _ hW' (M1.ownSeg 0 3) q.A q.n q.c (mN ls).1 (hq.rd M1 (bH (i := 3) rfl)) (GoodV.dec hB (by omega) h15) (hq.awayS M1 0 3 3 rfl rfl)) ?_)))
  rintro v2 w2 ⟨r2, rfl, hw2, hM2⟩
  have M2 : Mem _ _ [_, _, _, _] _ := M1.seg 0 3 hM2
  refine aB (aC (aE (aA (aP rfl rfl (bI rfl rfl (aB (aC (aO (cD (.int _ _) rfl ?_)))))))))
  exact ⟨r2, rfl, by unfold sV; rw [if_pos h15]; exact hw2, M2.keep [true, true, true, false]⟩
 ·refine aL (aC (aE (aA (aP rfl rfl (bI rfl rfl (aB (aC (aO (cD (.int _ _) rfl ?_)))))))))
  exact ⟨r, rfl, by unfold sV; rw [if_neg h15]; exact hW', M1.keep [true, true, true, false]⟩
set_option maxHeartbeats 8000000 in
theorem aFv (w : World) (q0 : Row) (s : List Body) (hq0 : bC 39 10 q0.A q0.n q0.c ((s).map aF) q0.e) (hG : GoodV s) (hO : Own [q0.e] w) (key : Int) (j : Int × Int) (hj1 : -2147483648 ≤ j.1 ∧ j.1 ≤ 2147483647) (hj2 : -2147483648 ≤ j.2 ∧ j.2 ≤ 2147483647) :
  Calls Tryz.prog 96 #[.slice q0.A q0.n q0.c, .int .u32 key, .agg [.int .i32 j.1, .int .i32 j.2].toArray] w (fun ex w' => ∃ v, ex = .returned v ∧ (fun v w' => ∃ q : Row, v = .tuple #[.slice q.A q.n q.c, .int .i64 (qX s key j).2] ∧ bC 39 10 q.A q.n q.c (((qX s key j).1).map aF) q.e ∧ Mem w (cE [q0.e]) [q.e] w') v w') := by
 have hlen : s.length = q0.n := by simpa using hq0.1
 have hsl := hG.len
 refine aI #[.tmp 6, .tmp 7] 29 Tryz.func96 rfl Tryz.results96 Tryz.ntmps96 rfl ?_
 have M0 := hO.mem
 refine aE (aA (bK (.agg (List.toArray _)) M0 rfl rfl rfl (fun b1 w1 M1 => (eM rfl rfl (bI rfl rfl (aB (aC (aE (aA (dO rfl rfl ?_))))))))))
 refine aP rfl rfl (bY sI rfl rfl (gS _ key _ _ _ s (hq0.rd M1 (bH (i := 0) rfl))) ?_)
 rintro v2 w2 ⟨rfl, hb2⟩
 have M2 := M1.callB hb2
 refine bI rfl rfl (aB (aC (aE (aE (aA (aP rfl rfl (cZ rfl rfl rfl rfl (aB (aC ?_)))))))))
 refine aW rfl (fun h15 => ?_) (fun h15 => ?_)
 ·refine aE (aA (dO rfl rfl (eM rfl rfl (bI rfl rfl (aB (aC (aO (cM (gA (.slice _ _ _) (.int _ _) rfl rfl ?_)))))))))
  exact ⟨q0, by rw [tE j h15], by rw [tE j h15]; exact hq0, M2.keep [true, false]⟩
 ·obtain ⟨i, bb, hbi, _, hfi⟩ := (eJ key s).resolve_left (fun h => h15 (by omega))
  have hbo := hG.okb bb (List.mem_of_getElem? hbi)
  have hie : qX s key j = (vT s (mG bb j) false, 0) := by unfold qX; rw [if_neg (by omega), tD hfi hbi]
  refine aL (aC (aE (aJm [(0, 0), (1, 0), (2, 1), (3, 1), (4, 1)] 5 9 [(6, 0), (7, 0), (8, 0), (9, 2), (10, 2), (11, 0)] [(5, 2), (6, 0), (7, 0), (8, 0), (10, 2), (11, 0)] mixed rfl (by kernel_rfl) (fun w3 hb3 hh3 => ?_))))
  have M3 := M2.drew hb3 hh3
  refine rT rfl rfl rfl (fun _ => aH (.slice _ _ _) rfl) (rT rfl rfl rfl (fun _ => aH (.int _ _) rfl) (yL rfl rfl rfl (bP (i) dH rfl rfl hfi ((hq0.rd M3 (bH (i := 0) rfl)).below_len (aG aF hbi)) ((hq0.rd M3 (bH (i := 0) rfl)).someK (aG aF hbi))) (yL rfl rfl rfl (dN _ bO (hq0.rd M3 (bH (i := 0) rfl)) (aG aF hbi) rfl) ?_)))
  refine yL rfl rfl rfl (aX 1 bL M3 rfl rfl rfl) ?_
  refine aCa ?_ ?_
  ·refine dT [true, true, true] rfl (by kernel_rfl) (bY bEe rfl rfl (aCj _ bb hbo j hj1 hj2) ?_)
   rintro v4 w4 ⟨⟨gg, rfl⟩, hb4⟩
   have M4 := M3.callB hb4
   refine aB (aC ⟨dU, ?_⟩)
   refine aV rfl rfl rfl (fun _ => aH (.tuple (List.toArray _)) rfl) (aV rfl rfl rfl (fun _ => bN (.agg (List.toArray _)) rfl rfl) (aV rfl rfl rfl (fun _ => bN (.bool _) rfl rfl) (dT [] rfl (by kernel_rfl) (aS fN M4 rfl rfl (fun b5 w5 M5 => ?_)))))
   refine aB (aC ⟨dU, ?_⟩)
   refine dT [] rfl (by kernel_rfl) (bG 2 _ bO M5 rfl rfl rfl rfl rfl (aR rfl) rfl (fun w6 M6 => ?_))
   refine aB (aC ⟨dU, ?_⟩)
   refine aV rfl rfl rfl (fun _ => aJ (.bool _) rfl) (bX (aC (aE (aA (dO rfl rfl (wq (aX 2 bO M6 rfl rfl rfl) rfl (bY aJi rfl rfl (uC _ (mG bb j) false _ _ _ s (hq0.rd M6 (bH (i := 0) rfl)) (by omega)) ?_)))))))
   rintro v7 w7 ⟨A7, n7, c7, e7, rfl, hR7, hM7⟩
   have M7 : Mem _ _ [_, _, _, _] _ := M6.call0 hM7
   refine eM rfl rfl (bI rfl rfl (aB (aC (aO (gA (.slice _ _ _) (.int _ _) rfl rfl ?_)))))
   exact ⟨⟨A7, n7, c7, e7⟩, by rw [hie], by rw [hie]; exact hR7, M7.keep [false, false, false, true]⟩
  ·refine dT [false, false, false] rfl (by kernel_rfl) (aS fN M3 rfl rfl (fun b8 w8 M8 => ?_))
   refine aB (aC ⟨(dZ (bM rfl (aX 1 bL M8 rfl rfl rfl)) (dZ (bM rfl (dN _ bO (hq0.rd M8 (bH (i := 0) rfl)) (aG aF hbi) rfl)) (dZ (bM rfl (bP (i) dH rfl rfl hfi ((hq0.rd M8 (bH (i := 0) rfl)).below_len (aG aF hbi)) ((hq0.rd M8 (bH (i := 0) rfl)).someK (aG aF hbi)))) dU))), ?_⟩)
   refine dT [true, true, true] rfl (by kernel_rfl) (bY bEe rfl rfl (aCj _ bb hbo j hj1 hj2) ?_)
   rintro v9 w9 ⟨⟨gg, rfl⟩, hb9⟩
   have M9 := M8.callB hb9
   refine aB (aC ⟨dU, ?_⟩)
   refine aV rfl rfl rfl (fun _ => aH (.tuple (List.toArray _)) rfl) (aV rfl rfl rfl (fun _ => bN (.agg (List.toArray _)) rfl rfl) (aV rfl rfl rfl (fun _ => bN (.bool _) rfl rfl) (dT [] rfl (by kernel_rfl) (bG 2 _ bO M9 rfl rfl rfl rfl rfl (aR rfl) rfl (fun w10 M10 => ?_)))))
   refine aB (aC ⟨dU, ?_⟩)
   refine aV rfl rfl rfl (fun _ => aJ (.bool _) rfl) (bX (aC (aE (aA (dO rfl rfl (wq (aX 2 bO M10 rfl rfl rfl) rfl (bY aJi rfl rfl (uC _ (mG bb j) false _ _ _ s (hq0.rd M10 (bH (i := 0) rfl)) (by omega)) ?_)))))))
   rintro v11 w11 ⟨A11, n11, c11, e11, rfl, hR11, hM11⟩
   have M11 : Mem _ _ [_, _, _, _] _ := M10.call0 hM11
   refine eM rfl rfl (bI rfl rfl (aB (aC (aO (gA (.slice _ _ _) (.int _ _) rfl rfl ?_)))))
   exact ⟨⟨A11, n11, c11, e11⟩, by rw [hie], by rw [hie]; exact hR11, M11.keep [false, false, false, true]⟩
set_option maxHeartbeats 32000000 in
theorem aZt (w : World) (q0 : Row) (s : List Body) (hq0 : bC 39 10 q0.A q0.n q0.c ((s).map aF) q0.e) (hG : GoodV s) (hO : Own [q0.e] w) (o : OpI) (BA : Option Addr) (nn cc : Nat) (hP : OpOk w o BA nn cc) (hnn : nn ≤ 1000000) (hdB : 0 < nn → ∀ q off, BA = some ⟨q, off, none⟩ → q ∉ cE [q0.e]) :
  Calls Tryz.prog 56 #[.slice q0.A q0.n q0.c, .agg (fP o BA nn cc).toArray] w (fun ex w' => ∃ v, ex = .returned v ∧ (fun v w' => ∃ (q p : Row), v = .agg (bCy q.A q.n q.c p.A p.n p.c (doR s o).2).toArray ∧ bC 39 10 q.A q.n q.c (((doR s o).1).map aF) q.e ∧ bC 5 1 p.A p.n p.c (((doR s o).2.bytes).map bJ) p.e ∧ Mem w (cE [q0.e]) [q.e, p.e] w') v w') := by
 have hlen : s.length = q0.n := by simpa using hq0.1
 have hsl := hG.len
 have hbl := hP.len
 refine aI #[.cell 4 112] 93 Tryz.func56 rfl Tryz.results56 Tryz.ntmps56 rfl ?_
 have M0 := hO.mem
 refine aE (aA (bK (.agg (List.toArray _)) M0 rfl rfl rfl (fun b1 w1 M1 => (aS aIu M1 rfl rfl (fun b2 w2 M2 => (aB (aC (aE (aA (dO rfl rfl (wq (cC [(0, .slice _ _ _)] _ aYf rfl rfl) rfl ?_)))))))))))
 refine aS aIu M2 rfl rfl (fun b3 w3 M3 => (bG 3 _ fO M3 rfl rfl rfl rfl rfl (aR rfl) rfl (fun w4 M4 => (aB (aC (aE (aE (aA (wq (aD 0 aZd rfl) rfl (wq (aM 1 (.int _ _) iJ M4 rfl rfl rfl) rfl (aB (aC (aQ (aE (aA ?_)))))))))))))))
 refine cZ rfl rfl rfl rfl (wq (aJ (.bool (decide _)) rfl) rfl (aB (aC ?_)))
 refine aW rfl (fun h13 => ?_) (fun h13 => ?_)
 ·refine aA (dO rfl rfl (wq (aD 1 bBc rfl) rfl (wq (qI 1 _ bO M4 rfl rfl rfl rfl) rfl (bY bQf rfl rfl (aWi _ _ _ _ _ s hq0 (M4.ownAt (i := 0) rfl) o.body (by omega)) ?_))))
  rintro v5 w5 ⟨A5, n5, c5, e5, rfl, hR5, hM5⟩
  have M5 : Mem _ _ [_, _, _, _] _ := M4.seg 0 1 hM5
  refine wq (aH (.tuple (List.toArray _)) rfl) rfl (wq (bN (.slice _ _ _) rfl rfl) rfl (wq (bN (.int _ _) rfl rfl) rfl (wq (aD 0 rC rfl) rfl (dD 3 (.slice _ _ _) fX M5 rfl rfl rfl rfl rfl rfl (fun w6 M6 => (wq (aD 1 qZ rfl) rfl ?_))))))
  refine dD 3 (.int _ _) iJ M6 rfl rfl rfl rfl rfl rfl (fun w7 M7 => (aB (cV (aC (aE (aA (wq (aX 3 fO M7 rfl rfl rfl) rfl (bG 2 _ fO M7 rfl rfl rfl rfl rfl (aR rfl) rfl (fun w8 M8 => ?_)))))))))
  refine aB (aC (aO (eL 2 fO M8 rfl rfl rfl ?_)))
  exact ⟨⟨A5, n5, c5, e5⟩, ⟨none, 0, 0, (none, default)⟩, by rw [bDk h13]; rfl, by rw [bDk h13]; exact hR5, by rw [bDk h13]; exact bC.nil _ _ _, (M8.keep [true, false, false, false]).dummy default⟩
 ·refine aE (aA (cZ rfl rfl rfl rfl (wq (aJ (.bool (decide _)) rfl) rfl (aB (aC ?_)))))
  refine aW rfl (fun h24 => ?_) (fun h24 => ?_)
  ·refine aA (dO rfl rfl (wq (aD 11 aDq rfl) rfl (wq (aM 1 (.int _ _) bW M4 rfl rfl rfl) rfl (bY bQe rfl rfl (aKx _ _ _ _ _ s hq0 (M4.ownAt (i := 0) rfl) o.key (by omega)) ?_))))
   rintro v9 w9 ⟨A9, n9, c9, e9, rfl, hR9, hM9⟩
   have M9 : Mem _ _ [_, _, _, _] _ := M4.seg 0 1 hM9
   refine wq (aH (.tuple (List.toArray _)) rfl) rfl (wq (bN (.slice _ _ _) rfl rfl) rfl (wq (bN (.int _ _) rfl rfl) rfl (wq (aD 0 rC rfl) rfl (dD 3 (.slice _ _ _) fX M9 rfl rfl rfl rfl rfl rfl (fun w10 M10 => (wq (aD 1 qZ rfl) rfl ?_))))))
   refine dD 3 (.int _ _) iJ M10 rfl rfl rfl rfl rfl rfl (fun w11 M11 => (aB (cV (aC (aE (aA (wq (aX 3 fO M11 rfl rfl rfl) rfl (bG 2 _ fO M11 rfl rfl rfl rfl rfl (aR rfl) rfl (fun w12 M12 => ?_)))))))))
   refine aB (aC (aO (eL 2 fO M12 rfl rfl rfl ?_)))
   exact ⟨⟨A9, n9, c9, e9⟩, ⟨none, 0, 0, (none, default)⟩, by rw [bEd h24]; rfl, by rw [bEd h24]; exact hR9, by rw [bEd h24]; exact bC.nil _ _ _, (M12.keep [true, false, false, false]).dummy default⟩
  ·refine aE (aA (cZ rfl rfl rfl rfl (wq (aJ (.bool (decide _)) rfl) rfl (aB (aC ?_)))))
   refine aW rfl (fun h35 => ?_) (fun h35 => ?_)
   ·refine aA (dO rfl rfl (wq (aD 11 aDq rfl) rfl (wq (aM 1 (.int _ _) bW M4 rfl rfl rfl) rfl (wq (aD 12 bAo rfl) rfl (wq (qI 1 _ bL M4 rfl rfl rfl rfl) rfl ?_)))))
    refine bY bRt rfl rfl (aFv _ q0 s hq0 hG (M4.ownAt (i := 0) rfl) o.key o.push hP.p1 hP.p2) ?_
    rintro v13 w13 ⟨qi, rfl, hqi, hM13⟩
    have M13 : Mem _ _ [_, _, _, _] _ := M4.seg 0 1 hM13
    refine wq (aH (.tuple (List.toArray _)) rfl) rfl (wq (bN (.slice _ _ _) rfl rfl) rfl (wq (bN (.int _ _) rfl rfl) rfl (wq (aD 0 rC rfl) rfl (dD 3 (.slice _ _ _) fX M13 rfl rfl rfl rfl rfl rfl (fun w14 M14 => (wq (aD 1 qZ rfl) rfl ?_))))))
    refine dD 3 (.int _ _) iJ M14 rfl rfl rfl rfl rfl rfl (fun w15 M15 => (aB (cV (aC (aE (aA (wq (aX 3 fO M15 rfl rfl rfl) rfl (bG 2 _ fO M15 rfl rfl rfl rfl rfl (aR rfl) rfl (fun w16 M16 => ?_)))))))))
    refine aB (aC (aO (eL 2 fO M16 rfl rfl rfl ?_)))
    exact ⟨qi, ⟨none, 0, 0, (none, default)⟩, by rw [bAt h35]; rfl, by rw [bAt h35]; exact hqi, by rw [bAt h35]; exact bC.nil _ _ _, (M16.keep [true, false, false, false]).dummy default⟩
   ·refine aE (aA (cZ rfl rfl rfl rfl (wq (aJ (.bool (decide _)) rfl) rfl (aB (aC ?_)))))
    refine aW rfl (fun h48 => ?_) (fun h48 => ?_)
    ·refine aA (dO rfl rfl (bY bRm rfl rfl (aQw _ _ _ _ s (hq0.rd M4 (bH (i := 0) rfl)) hG.okb hG.s (by omega)) ?_))
     rintro v17 w17 ⟨rb, rfl, hrb, hM17⟩
     have M17 : Mem _ _ [_, _, _, _, _] _ := M4.call0 hM17
     refine wq (aH (.tuple (List.toArray _)) rfl) rfl (wq (bN (.slice _ _ _) rfl rfl) rfl (wq (bN (.int _ _) rfl rfl) rfl (wq (bN (.bool _) rfl rfl) rfl (wq (aD 0 rC rfl) rfl (dD 3 (.slice _ _ _) fX M17 rfl rfl rfl rfl rfl rfl (fun w18 M18 => ?_))))))
     refine wq (aD 13 aLe rfl) rfl (dD 3 (.int _ _) iJ M18 rfl rfl rfl rfl rfl rfl (fun w19 M19 => (wq (aD 14 aNj rfl) rfl (dD 3 (.bool _) pC M19 rfl rfl rfl rfl rfl rfl (fun w20 M20 => (aB (cV ?_)))))))
     refine aC (aE (aA (wq (aX 3 fO M20 rfl rfl rfl) rfl (bG 2 _ fO M20 rfl rfl rfl rfl rfl (aR rfl) rfl (fun w21 M21 => (aB (aC (aO (eL 2 fO M21 rfl rfl rfl ?_)))))))))
     exact ⟨rb, ⟨none, 0, 0, (none, default)⟩, by rw [bAa h48]; rfl, by rw [bAa h48]; exact hrb, by rw [bAa h48]; exact bC.nil _ _ _, (M21.keep [false, false, false, false, true]).dummy default⟩
    ·refine aE (aA (cZ rfl rfl rfl rfl (wq (aJ (.bool (decide _)) rfl) rfl (aB (aC ?_)))))
     refine aW rfl (fun h59 => ?_) (fun h59 => ?_)
     ·refine aA (dO rfl rfl (bY bJj rfl rfl (aAb _ _ _ _ s (hq0.rd M4 (bH (i := 0) rfl)) (by omega) hG.inb) ?_))
      rintro v22 w22 ⟨pb, rfl, hpb, hM22⟩
      have M22 : Mem _ _ [_, _, _, _, _] _ := M4.call0 hM22
      refine wq (aD 12 aMc rfl) rfl (dD 3 (.slice _ _ _) vJ M22 rfl rfl rfl rfl rfl rfl (fun w23 M23 => (aB (cV (aC (aE (aA (wq (aX 3 fO M23 rfl rfl rfl) rfl ?_))))))))
      refine bG 2 _ fO M23 rfl rfl rfl rfl rfl (aR rfl) rfl (fun w24 M24 => (aB (aC (aO (eL 2 fO M24 rfl rfl rfl ?_)))))
      exact ⟨q0, pb, by rw [bFe h59]; rfl, by rw [bFe h59]; exact hq0, by rw [bFe h59]; exact hpb, (M24.keep [true, false, false, false, true])⟩
     ·refine aE (aA (cZ rfl rfl rfl rfl (wq (aJ (.bool (decide _)) rfl) rfl (aB (aC ?_)))))
      refine aW rfl (fun h64 => ?_) (fun h64 => ?_)
      ·refine aE (aA (wq (aD 14 bCf rfl) rfl (wq (aM 1 (.slice _ _ _) vJ M4 rfl rfl rfl) rfl (bY bQw rfl rfl (aJv _ BA nn cc o.bytes (hP.rd.memY M4 hdB) hP.byt hP.cap (by omega)) ?_))))
       rintro v25 w25 ⟨qd, rfl, hqd, hM25⟩
       have M25 : Mem _ _ [_, _, _, _, _] _ := M4.call0 hM25
       refine wq (aH (.tuple (List.toArray _)) rfl) rfl (wq (bN (.slice _ _ _) rfl rfl) rfl (wq (bN (.int _ _) rfl rfl) rfl (eM rfl rfl (bI rfl rfl (aB (aC (aE (aA ?_))))))))
       refine aP rfl rfl (wq (aD 1 qZ rfl) rfl (dD 3 (.int _ _) iJ M25 rfl rfl rfl rfl rfl rfl (fun w26 M26 => (aB (aC (aE (aA (aP rfl rfl (cZ rfl rfl rfl rfl ?_)))))))))
       refine aB (aC ?_)
       refine aW rfl (fun h75 => ?_) (fun h75 => ?_)
       ·refine aA (dO rfl rfl (wq (aD 0 rC rfl) rfl (dD 3 (.slice _ _ _) fX M26 rfl rfl rfl rfl rfl rfl (fun w27 M27 => (aB (cV ?_))))))
        refine aC (aE (aA (wq (aX 3 fO M27 rfl rfl rfl) rfl (bG 2 _ fO M27 rfl rfl rfl rfl rfl (aR rfl) rfl (fun w28 M28 => (aB (aC (aO (eL 2 fO M28 rfl rfl rfl ?_)))))))))
        exact ⟨qd, ⟨none, 0, 0, (none, default)⟩, by rw [aLr h64]; rfl, by rw [aLr h64]; exact (by unfold sV; rw [if_pos h75]; exact hqd), by rw [aLr h64]; exact bC.nil _ _ _, (M28.keep [false, false, false, false, true]).dummy default⟩
       ·refine aL (cV (aC (aE (aA (wq (aX 3 fO M26 rfl rfl rfl) rfl (bG 2 _ fO M26 rfl rfl rfl rfl rfl (aR rfl) rfl (fun w29 M29 => (aB (aC (aO ?_))))))))))
        refine eL 2 fO M29 rfl rfl rfl ?_
        exact ⟨q0, ⟨none, 0, 0, (none, default)⟩, by rw [aLr h64]; rfl, by rw [aLr h64]; exact (by unfold sV; rw [if_neg h75]; exact hq0), by rw [aLr h64]; exact bC.nil _ _ _, (M29.keep [true, false, false, false, false]).dummy default⟩
      ·refine aE (aA (cZ rfl rfl rfl rfl (wq (aJ (.bool (decide _)) rfl) rfl (aB (aC ?_)))))
       refine aW rfl (fun h78 => ?_) (fun h78 => ?_)
       ·refine aE (aA (dO rfl rfl (wq (aD 11 aDq rfl) rfl (wq (aM 1 (.int _ _) bW M4 rfl rfl rfl) rfl (bY sI rfl rfl (gS _ o.key _ _ _ s (hq0.rd M4 (bH (i := 0) rfl))) ?_)))))
        rintro v30 w30 ⟨rfl, hb30⟩
        have M30 := M4.callB hb30
        refine bI rfl rfl (aB (aC (aE (aA (aP rfl rfl (cZ rfl rfl rfl rfl (aB (aC ?_))))))))
        refine aW rfl (fun h85 => ?_) (fun h85 => ?_)
        ·refine aA (wq (aD 1 qZ rfl) rfl (dD 3 (.int _ _) iJ M30 rfl rfl rfl rfl rfl rfl (fun w31 M31 => (aB (cV (aC (aE (aA ?_))))))))
         refine wq (aX 3 fO M31 rfl rfl rfl) rfl (bG 2 _ fO M31 rfl rfl rfl rfl rfl (aR rfl) rfl (fun w32 M32 => (aB (aC (aO (eL 2 fO M32 rfl rfl rfl ?_))))))
         exact ⟨q0, ⟨none, 0, 0, (none, default)⟩, by rw [aPt h78, zS h85]; rfl, by rw [aPt h78, zS h85]; exact hq0, by rw [aPt h78, zS h85]; exact bC.nil _ _ _, (M32.keep [true, false, false, false]).dummy default⟩
        ·obtain ⟨i, bb, hbi, _, hfi⟩ := (eJ o.key s).resolve_left (fun h => h85 (by omega))
         refine aA (dO rfl rfl (aP rfl rfl (wq (bP (i) dH rfl rfl hfi ((hq0.rd M30 (bH (i := 0) rfl)).below_len (aG aF hbi)) ((hq0.rd M30 (bH (i := 0) rfl)).someK (aG aF hbi))) rfl (wq (dN _ bO (hq0.rd M30 (bH (i := 0) rfl)) (aG aF hbi) rfl) rfl (wq (aD 2 bAu rfl) rfl ?_)))))
         refine sO 3 _ bO M30 rfl rfl rfl rfl rfl (aR rfl) (Nat.le_of_ble_eq_true rfl) (fun w33 M33 => (aB (cV (aC (aE (aA (wq (aX 3 fO M33 rfl rfl rfl) rfl (bG 2 _ fO M33 rfl rfl rfl rfl rfl (aR rfl) rfl (fun w34 M34 => ?_)))))))))
         refine aB (aC (aO (eL 2 fO M34 rfl rfl rfl ?_)))
         exact ⟨q0, ⟨none, 0, 0, (none, default)⟩, by rw [aPt h78, zD hfi hbi]; rfl, by rw [aPt h78, zD hfi hbi]; exact hq0, by rw [aPt h78, zD hfi hbi]; exact bC.nil _ _ _, (M34.keep [true, false, false, false]).dummy default⟩
       ·refine aL (cV (aC (aE (aA (wq (aX 3 fO M4 rfl rfl rfl) rfl (bG 2 _ fO M4 rfl rfl rfl rfl rfl (aR rfl) rfl (fun w35 M35 => (aB (aC (aO ?_))))))))))
        refine eL 2 fO M35 rfl rfl rfl ?_
        exact ⟨q0, ⟨none, 0, 0, (none, default)⟩, by rw [bHr h13 h24 h35 h48 h59 h64 h78]; rfl, by rw [bHr h13 h24 h35 h48 h59 h64 h78]; exact hq0, by rw [bHr h13 h24 h35 h48 h59 h64 h78]; exact bC.nil _ _ _, (M35.keep [true, false, false, false]).dummy default⟩
set_option maxHeartbeats 4000000 in
theorem aZw (w : World) :
  Calls Tryz.prog 83 #[(.func (.func 26) #[] #[] : Value), (.func (.func 84) #[] #[] : Value)] w (fun ex w' => ∃ v, ex = .returned v ∧ (fun v w' => ∃ fa ga : Nat, v = (.func (.func 120) #[] #[.pointer (some ⟨fa, 0, none⟩), .pointer (some ⟨ga, 0, none⟩)] : Value) ∧ Mem w [] [(some fa, bc [(.func (.func 26) #[] #[] : Value)] 143), (some ga, bc [(.func (.func 84) #[] #[] : Value)] 144)] w') v w') := by
 refine aI #[.tmp 4] 6 Tryz.func83 rfl Tryz.results83 Tryz.ntmps83 rfl ?_
 have M0 := Mem.refl w
 refine aE (aA (bK (.func _ _ _) M0 rfl rfl rfl (fun b1 w1 M1 => (bK (.func _ _ _) M1 rfl rfl rfl (fun b2 w2 M2 => (wq (aJ (_) rfl) rfl (aB (aC (aE (aA (wq (dR [] [.pointer _, .pointer _] rfl rfl) rfl ?_)))))))))))
 refine wq (aJ (.func _ _ _) rfl) rfl (aB (aC (aO (cD (.func _ _ _) rfl ?_))))
 exact ⟨_, _, rfl, M2⟩
set_option maxHeartbeats 4000000 in
theorem aOh (w : World) :
  Calls Tryz.prog 85 #[(.func (.func 86) #[] #[] : Value), (.func (.func 87) #[] #[] : Value)] w (fun ex w' => ∃ v, ex = .returned v ∧ (fun v w' => ∃ fa ga : Nat, v = (.func (.func 121) #[] #[.pointer (some ⟨fa, 0, none⟩), .pointer (some ⟨ga, 0, none⟩)] : Value) ∧ Mem w [] [(some fa, bc [(.func (.func 86) #[] #[] : Value)] 146), (some ga, bc [(.func (.func 87) #[] #[] : Value)] 148)] w') v w') := by
 refine aI #[.tmp 4] 6 Tryz.func85 rfl Tryz.results85 Tryz.ntmps85 rfl ?_
 have M0 := Mem.refl w
 refine aE (aA (bK (.func _ _ _) M0 rfl rfl rfl (fun b1 w1 M1 => (bK (.func _ _ _) M1 rfl rfl rfl (fun b2 w2 M2 => (wq (aJ (_) rfl) rfl (aB (aC (aE (aA (wq (dR [] [.pointer _, .pointer _] rfl rfl) rfl ?_)))))))))))
 refine wq (aJ (.func _ _ _) rfl) rfl (aB (aC (aO (cD (.func _ _ _) rfl ?_))))
 exact ⟨_, _, rfl, M2⟩
set_option maxHeartbeats 4000000 in
theorem aJu (w : World) :
  Calls Tryz.prog 88 #[(.func (.func 74) #[] #[] : Value), (.func (.func 89) #[] #[] : Value)] w (fun ex w' => ∃ v, ex = .returned v ∧ (fun v w' => ∃ fa ga : Nat, v = (.func (.func 123) #[] #[.pointer (some ⟨fa, 0, none⟩), .pointer (some ⟨ga, 0, none⟩)] : Value) ∧ Mem w [] [(some fa, bc [(.func (.func 74) #[] #[] : Value)] 150), (some ga, bc [(.func (.func 89) #[] #[] : Value)] 151)] w') v w') := by
 refine aI #[.tmp 4] 6 Tryz.func88 rfl Tryz.results88 Tryz.ntmps88 rfl ?_
 have M0 := Mem.refl w
 refine aE (aA (bK (.func _ _ _) M0 rfl rfl rfl (fun b1 w1 M1 => (bK (.func _ _ _) M1 rfl rfl rfl (fun b2 w2 M2 => (wq (aJ (_) rfl) rfl (aB (aC (aE (aA (wq (dR [] [.pointer _, .pointer _] rfl rfl) rfl ?_)))))))))))
 refine wq (aJ (.func _ _ _) rfl) rfl (aB (aC (aO (cD (.func _ _ _) rfl ?_))))
 exact ⟨_, _, rfl, M2⟩
set_option maxHeartbeats 4000000 in
theorem bNk (w : World) (o : OpI) (BA : Option Addr) (nn cc : Nat) :
  Calls Tryz.prog 84 #[.agg (fP o BA nn cc).toArray] w (fun ex w' => ∃ v, ex = .returned v ∧ (fun v w' => v = (.agg (aF o.body).toArray) ∧ Below w.heap.size w w') v w') := by
 refine aI #[.cell 2 39] 5 Tryz.func84 rfl Tryz.results84 Tryz.ntmps84 rfl ?_
 have M0 := Mem.refl w
 refine aE (aA (bK (.agg (List.toArray _)) M0 rfl rfl rfl (fun b1 w1 M1 => (aS fN M1 rfl rfl (fun b2 w2 M2 => (aB (aC (aE (aA (wq (aD 1 bGq rfl) rfl (wq (qI 0 _ bO M2 rfl rfl rfl rfl) rfl ?_)))))))))))
 refine bG 1 _ bO M2 rfl rfl rfl rfl rfl (aR rfl) rfl (fun w3 M3 => (aB (aC (aO (eL 1 bO M3 rfl rfl rfl ?_)))))
 exact ⟨rfl, M3.below⟩
set_option maxHeartbeats 4000000 in
theorem bPn (w : World) (o : OpI) (BA : Option Addr) (nn cc : Nat) :
  Calls Tryz.prog 87 #[.agg (fP o BA nn cc).toArray] w (fun ex w' => ∃ v, ex = .returned v ∧ (fun v w' => v = .int .u32 o.key ∧ Below w.heap.size w w') v w') := by
 refine aI #[.tmp 2] 5 Tryz.func87 rfl Tryz.results87 Tryz.ntmps87 rfl ?_
 have M0 := Mem.refl w
 refine aE (aA (bK (.agg (List.toArray _)) M0 rfl rfl rfl (fun b1 w1 M1 => (bI rfl rfl (aB (aC (aE (aA (wq (aD 11 aUo rfl) rfl (wq (aM 0 (.int _ _) bW M1 rfl rfl rfl) rfl ?_))))))))))
 refine bI rfl rfl (aB (aC (aO (cD (.int _ _) rfl ?_))))
 exact ⟨rfl, M1.below⟩
set_option maxHeartbeats 4000000 in
theorem bNi (w : World) (o : OpI) (BA : Option Addr) (nn cc : Nat) :
  Calls Tryz.prog 89 #[.agg (fP o BA nn cc).toArray] w (fun ex w' => ∃ v, ex = .returned v ∧ (fun v w' => v = .slice BA nn cc ∧ Below w.heap.size w w') v w') := by
 refine aI #[.tmp 2] 5 Tryz.func89 rfl Tryz.results89 Tryz.ntmps89 rfl ?_
 have M0 := Mem.refl w
 refine aE (aA (bK (.agg (List.toArray _)) M0 rfl rfl rfl (fun b1 w1 M1 => (eM rfl rfl (aB (aC (aE (aA (wq (aD 14 bIq rfl) rfl (wq (aM 0 (.slice _ _ _) vJ M1 rfl rfl rfl) rfl ?_))))))))))
 refine eM rfl rfl (aB (aC (aO (cD (.slice _ _ _) rfl ?_))))
 exact ⟨rfl, M1.below⟩
def sF (f1 g1 f2 g2 f3 g3 : Nat) (k : Int) : Option Value := if k = 5 then some (.func (.func 93) #[] #[] : Value) else if k = 4 then some (.func (.func 92) #[] #[] : Value) else if k = 3 then some (.func (.func 90) #[] #[] : Value) else if k = 6 then some (.func (.func 123) #[] #[.pointer (some ⟨f3, 0, none⟩), .pointer (some ⟨g3, 0, none⟩)] : Value) else if k = 2 then some (.func (.func 121) #[] #[.pointer (some ⟨f2, 0, none⟩), .pointer (some ⟨g2, 0, none⟩)] : Value) else if k = 1 then some (.func (.func 120) #[] #[.pointer (some ⟨f1, 0, none⟩), .pointer (some ⟨g1, 0, none⟩)] : Value) else none
theorem bAm {f1 g1 f2 g2 f3 g3 : Nat} {k : Int} (h : k = 1) : sF f1 g1 f2 g2 f3 g3 k = some (.func (.func 120) #[] #[.pointer (some ⟨f1, 0, none⟩), .pointer (some ⟨g1, 0, none⟩)] : Value) := by subst h; rfl
theorem bEo {f1 g1 f2 g2 f3 g3 : Nat} {k : Int} (h : k = 2) : sF f1 g1 f2 g2 f3 g3 k = some (.func (.func 121) #[] #[.pointer (some ⟨f2, 0, none⟩), .pointer (some ⟨g2, 0, none⟩)] : Value) := by subst h; rfl
theorem bDo {f1 g1 f2 g2 f3 g3 : Nat} {k : Int} (h : k = 6) : sF f1 g1 f2 g2 f3 g3 k = some (.func (.func 123) #[] #[.pointer (some ⟨f3, 0, none⟩), .pointer (some ⟨g3, 0, none⟩)] : Value) := by subst h; rfl
theorem bFd {f1 g1 f2 g2 f3 g3 : Nat} {k : Int} (h : k = 3) : sF f1 g1 f2 g2 f3 g3 k = some (.func (.func 90) #[] #[] : Value) := by subst h; rfl
theorem bDx {f1 g1 f2 g2 f3 g3 : Nat} {k : Int} (h : k = 4) : sF f1 g1 f2 g2 f3 g3 k = some (.func (.func 92) #[] #[] : Value) := by subst h; rfl
theorem bEp {f1 g1 f2 g2 f3 g3 : Nat} {k : Int} (h : k = 5) : sF f1 g1 f2 g2 f3 g3 k = some (.func (.func 93) #[] #[] : Value) := by subst h; rfl
theorem aZl {f1 g1 f2 g2 f3 g3 : Nat} {k : Int} (h : k < 1 ∨ 6 < k) : sF f1 g1 f2 g2 f3 g3 k = none := by unfold sF; rw [if_neg (by omega), if_neg (by omega), if_neg (by omega), if_neg (by omega), if_neg (by omega), if_neg (by omega)]
set_option maxHeartbeats 4000000 in
theorem jN (w : World) :
  Calls Tryz.prog 55 #[] w (fun ex w' => ∃ v, ex = .returned v ∧ (fun v w' => ∃ (p : Option Nat) (e : eZ) (f1 g1 f2 g2 f3 g3 : Nat), v = .map p ∧ kG .i64 (fun v : Value => v) (sF f1 g1 f2 g2 f3 g3) p e ∧ Mem w [] [e, (some f1, bc [(.func (.func 26) #[] #[] : Value)] 143), (some g1, bc [(.func (.func 84) #[] #[] : Value)] 144), (some f2, bc [(.func (.func 86) #[] #[] : Value)] 146), (some g2, bc [(.func (.func 87) #[] #[] : Value)] 148), (some f3, bc [(.func (.func 74) #[] #[] : Value)] 150), (some g3, bc [(.func (.func 89) #[] #[] : Value)] 151)] w') v w') := by
 refine aI #[.tmp 0] 6 Tryz.func55 rfl Tryz.results55 Tryz.ntmps55 rfl ?_
 have M0 := Mem.refl w
 refine aE (aA (wq (aJ (.map _) rfl) rfl (aB (aC (aE (aA (mT M0 rfl rfl (fun b1 w1 M1 => (bY bRl rfl rfl (aZw _) ?_)))))))))
 rintro v2 w2 ⟨f1, g1, rfl, hM2⟩
 have M2 : Mem _ _ [_, _, _] _ := M1.call0 hM2
 refine oK (enc := (fun v : Value => v)) (v := (.func _ _ _)) 0 mR M2 rfl rfl (kG.empty _ _ b1) rfl rfl rfl rfl (fun e3 w3 hm3 M3 => (bY bSc rfl rfl (aOh _) ?_))
 rintro v4 w4 ⟨f2, g2, rfl, hM4⟩
 have M4 : Mem _ _ [_, _, _, _, _] _ := M3.call0 hM4
 refine oK (enc := (fun v : Value => v)) (v := (.func _ _ _)) 0 mR M4 rfl rfl hm3 rfl rfl rfl rfl (fun e5 w5 hm5 M5 => (bY bPx rfl rfl (aJu _) ?_))
 rintro v6 w6 ⟨f3, g3, rfl, hM6⟩
 have M6 : Mem _ _ [_, _, _, _, _, _, _] _ := M5.call0 hM6
 refine oK (enc := (fun v : Value => v)) (v := (.func _ _ _)) 0 mR M6 rfl rfl hm5 rfl rfl rfl rfl (fun e7 w7 hm7 M7 => (oK (enc := (fun v : Value => v)) (v := (.func _ _ _)) 0 mR M7 rfl rfl hm7 rfl rfl rfl rfl (fun e8 w8 hm8 M8 => (oK (enc := (fun v : Value => v)) (v := (.func _ _ _)) 0 mR M8 rfl rfl hm8 rfl rfl rfl rfl (fun e9 w9 hm9 M9 => ?_)))))
 refine oK (enc := (fun v : Value => v)) (v := (.func _ _ _)) 0 mR M9 rfl rfl hm9 rfl rfl rfl rfl (fun e10 w10 hm10 M10 => (wq (aH (.map _) rfl) rfl (wq (aJ (.map _) rfl) rfl (aB (aC (aO (cD (.map _) rfl ?_)))))))
 exact ⟨_, _, f1, g1, f2, g2, f3, g3, rfl, hm10, M10⟩
set_option maxHeartbeats 16000000 in
theorem bDz (w : World) (b : Nat) (r : StV) (vs : List Body) (hW : dB 39 r vs) (fa ga : Nat) (hO : Own [(some b, bc [.slice r.A r.n r.c, .map r.p] 107), r.er, r.em, (some fa, bc [(.func (.func 26) #[] #[] : Value)] 143), (some ga, bc [(.func (.func 84) #[] #[] : Value)] 144)] w) (o : OpI) (BA : Option Addr) (nn cc : Nat) (hP : OpOk w o BA nn cc) (hnn : nn ≤ 1000000) (hdB : 0 < nn → ∀ q off, BA = some ⟨q, off, none⟩ → q ∉ cE [(some b, bc [.slice r.A r.n r.c, .map r.p] 107), r.er, r.em, (some fa, bc [(.func (.func 26) #[] #[] : Value)] 143), (some ga, bc [(.func (.func 84) #[] #[] : Value)] 144)]) :
  Calls Tryz.prog 120 #[.pointer (some ⟨b, 0, none⟩), .agg (fP o BA nn cc).toArray, .pointer (some ⟨fa, 0, none⟩), .pointer (some ⟨ga, 0, none⟩)] w (fun ex w' => ∃ v, ex = .returned v ∧ (fun v w' => ∃ r' : StV, v = .agg [.int .i64 (mP vs o.body).2, .slice none 0 0, .int .i64 0, .bool false].toArray ∧ dB 39 r' ((mP vs o.body).1) ∧ Mem w (cE [(some b, bc [.slice r.A r.n r.c, .map r.p] 107), r.er, r.em, (some fa, bc [(.func (.func 26) #[] #[] : Value)] 143), (some ga, bc [(.func (.func 84) #[] #[] : Value)] 144)]) [(some b, bc [.slice r'.A r'.n r'.c, .map r'.p] 107), r'.er, r'.em, (some fa, bc [(.func (.func 26) #[] #[] : Value)] 143), (some ga, bc [(.func (.func 84) #[] #[] : Value)] 144)] w') v w') := by
 have hG := hW.1
 have hbl := hP.len
 refine aI #[.cell 6 33] 14 Tryz.func120 rfl Tryz.results120 Tryz.ntmps120 rfl ?_
 have M0 := hO.mem
 refine aE (aA (bK (.agg (List.toArray _)) M0 rfl rfl rfl (fun b1 w1 M1 => (aS mC M1 rfl rfl (fun b2 w2 M2 => (aB (aC (aE (bQ [(0, 1), (1, 0), (2, 1), (3, 1), (4, 2), (5, 2), (6, 0), (7, 2)] mixed rfl (by kernel_rfl) (fun w3 hb3 hh3 => ?_))))))))))
 have M3 := M2.drew hb3 hh3
 refine bS rfl rfl rfl (aM 3 (.func _ _ _) aZe M3 rfl rfl rfl) (aV rfl rfl rfl (fun _ => aH (.pointer _) rfl) (bS rfl rfl rfl (aM 4 (.func _ _ _) bLd M3 rfl rfl rfl) (bS rfl rfl rfl (aX 5 qW M3 rfl rfl rfl) (dT [true, true, false] rfl (by kernel_rfl) (bY bSe rfl rfl (bNk _ o BA nn cc) ?_)))))
 rintro v4 w4 ⟨rfl, hb4⟩
 have M4 := M3.callB hb4
 refine aB (aC ⟨(dZ (bM rfl (aM 3 (.func _ _ _) aZe M4 rfl rfl rfl)) dU), ?_⟩)
 refine dT [true] rfl (by kernel_rfl) (bY bRj rfl rfl (aVv _ _ r vs hW (M4.ownSeg 0 3) o.body hP.body) ?_)
 rintro v5 w5 ⟨r2, rfl, hw2, hM5⟩
 have M5 : Mem _ _ [_, _, _, _, _, _, _] _ := M4.seg 0 3 hM5
 refine aB (aC ⟨dU, ?_⟩)
 refine aV rfl rfl rfl (fun _ => cC [(0, .int _ _)] _ oN rfl rfl) (dT [] rfl (by kernel_rfl) (bG 6 _ jA M5 rfl rfl rfl rfl rfl (aR rfl) rfl (fun w6 M6 => ?_)))
 refine aB (aC ⟨dU, ?_⟩)
 refine bX (aC (aO (eL 6 jA M6 rfl rfl rfl ?_)))
 exact ⟨r2, rfl, hw2, M6.keep [true, true, true, true, true, false, false]⟩
set_option maxHeartbeats 16000000 in
theorem aLm (w : World) (b : Nat) (r : StV) (vs : List Body) (hW : dB 39 r vs) (fa ga : Nat) (hO : Own [(some b, bc [.slice r.A r.n r.c, .map r.p] 107), r.er, r.em, (some fa, bc [(.func (.func 86) #[] #[] : Value)] 146), (some ga, bc [(.func (.func 87) #[] #[] : Value)] 148)] w) (o : OpI) (BA : Option Addr) (nn cc : Nat) (hP : OpOk w o BA nn cc) (hnn : nn ≤ 1000000) (hdB : 0 < nn → ∀ q off, BA = some ⟨q, off, none⟩ → q ∉ cE [(some b, bc [.slice r.A r.n r.c, .map r.p] 107), r.er, r.em, (some fa, bc [(.func (.func 86) #[] #[] : Value)] 146), (some ga, bc [(.func (.func 87) #[] #[] : Value)] 148)]) :
  Calls Tryz.prog 121 #[.pointer (some ⟨b, 0, none⟩), .agg (fP o BA nn cc).toArray, .pointer (some ⟨fa, 0, none⟩), .pointer (some ⟨ga, 0, none⟩)] w (fun ex w' => ∃ v, ex = .returned v ∧ (fun v w' => ∃ r' : StV, v = .agg [.int .i64 (gQ vs o.key).2, .slice none 0 0, .int .i64 0, .bool false].toArray ∧ dB 39 r' ((gQ vs o.key).1) ∧ Mem w (cE [(some b, bc [.slice r.A r.n r.c, .map r.p] 107), r.er, r.em, (some fa, bc [(.func (.func 86) #[] #[] : Value)] 146), (some ga, bc [(.func (.func 87) #[] #[] : Value)] 148)]) [(some b, bc [.slice r'.A r'.n r'.c, .map r'.p] 107), r'.er, r'.em, (some fa, bc [(.func (.func 86) #[] #[] : Value)] 146), (some ga, bc [(.func (.func 87) #[] #[] : Value)] 148)] w') v w') := by
 have hG := hW.1
 have hbl := hP.len
 refine aI #[.cell 6 33] 14 Tryz.func121 rfl Tryz.results121 Tryz.ntmps121 rfl ?_
 have M0 := hO.mem
 refine aE (aA (bK (.agg (List.toArray _)) M0 rfl rfl rfl (fun b1 w1 M1 => (aS mC M1 rfl rfl (fun b2 w2 M2 => (aB (aC (aE (bQ [(0, 1), (1, 0), (2, 1), (3, 1), (4, 2), (5, 2), (6, 0), (7, 2)] mixed rfl (by kernel_rfl) (fun w3 hb3 hh3 => ?_))))))))))
 have M3 := M2.drew hb3 hh3
 refine bS rfl rfl rfl (aM 3 (.func _ _ _) bEu M3 rfl rfl rfl) (aV rfl rfl rfl (fun _ => aH (.pointer _) rfl) (bS rfl rfl rfl (aM 4 (.func _ _ _) bLr M3 rfl rfl rfl) (bS rfl rfl rfl (aX 5 qW M3 rfl rfl rfl) (dT [true, true, false] rfl (by kernel_rfl) (bY bRo rfl rfl (bPn _ o BA nn cc) ?_)))))
 rintro v4 w4 ⟨rfl, hb4⟩
 have M4 := M3.callB hb4
 refine aB (aC ⟨(dZ (bM rfl (aM 3 (.func _ _ _) bEu M4 rfl rfl rfl)) dU), ?_⟩)
 refine dT [true] rfl (by kernel_rfl) (bY bSf rfl rfl (aJw _ _ r vs hW (M4.ownSeg 0 3) o.key) ?_)
 rintro v5 w5 ⟨r2, rfl, hw2, hM5⟩
 have M5 : Mem _ _ [_, _, _, _, _, _, _] _ := M4.seg 0 3 hM5
 refine aB (aC ⟨dU, ?_⟩)
 refine aV rfl rfl rfl (fun _ => cC [(0, .int _ _)] _ oN rfl rfl) (dT [] rfl (by kernel_rfl) (bG 6 _ jA M5 rfl rfl rfl rfl rfl (aR rfl) rfl (fun w6 M6 => ?_)))
 refine aB (aC ⟨dU, ?_⟩)
 refine bX (aC (aO (eL 6 jA M6 rfl rfl rfl ?_)))
 exact ⟨r2, rfl, hw2, M6.keep [true, true, true, true, true, false, false]⟩
set_option maxHeartbeats 16000000 in
theorem aKs (w : World) (b : Nat) (r : StV) (vs : List Body) (hW : dB 39 r vs) (fa ga : Nat) (hO : Own [(some b, bc [.slice r.A r.n r.c, .map r.p] 107), r.er, r.em, (some fa, bc [(.func (.func 74) #[] #[] : Value)] 150), (some ga, bc [(.func (.func 89) #[] #[] : Value)] 151)] w) (o : OpI) (BA : Option Addr) (nn cc : Nat) (hP : OpOk w o BA nn cc) (hnn : nn ≤ 1000000) (hdB : 0 < nn → ∀ q off, BA = some ⟨q, off, none⟩ → q ∉ cE [(some b, bc [.slice r.A r.n r.c, .map r.p] 107), r.er, r.em, (some fa, bc [(.func (.func 74) #[] #[] : Value)] 150), (some ga, bc [(.func (.func 89) #[] #[] : Value)] 151)]) :
  Calls Tryz.prog 123 #[.pointer (some ⟨b, 0, none⟩), .agg (fP o BA nn cc).toArray, .pointer (some ⟨fa, 0, none⟩), .pointer (some ⟨ga, 0, none⟩)] w (fun ex w' => ∃ v, ex = .returned v ∧ (fun v w' => ∃ r' : StV, v = .agg [.int .i64 (mN o.bytes).2, .slice none 0 0, .int .i64 0, .bool false].toArray ∧ dB 39 r' (sV vs o.bytes) ∧ Mem w (cE [(some b, bc [.slice r.A r.n r.c, .map r.p] 107), r.er, r.em, (some fa, bc [(.func (.func 74) #[] #[] : Value)] 150), (some ga, bc [(.func (.func 89) #[] #[] : Value)] 151)]) [(some b, bc [.slice r'.A r'.n r'.c, .map r'.p] 107), r'.er, r'.em, (some fa, bc [(.func (.func 74) #[] #[] : Value)] 150), (some ga, bc [(.func (.func 89) #[] #[] : Value)] 151)] w') v w') := by
 have hG := hW.1
 have hbl := hP.len
 refine aI #[.cell 6 33] 14 Tryz.func123 rfl Tryz.results123 Tryz.ntmps123 rfl ?_
 have M0 := hO.mem
 refine aE (aA (bK (.agg (List.toArray _)) M0 rfl rfl rfl (fun b1 w1 M1 => (aS mC M1 rfl rfl (fun b2 w2 M2 => (aB (aC (aE (bQ [(0, 1), (1, 0), (2, 1), (3, 1), (4, 2), (5, 2), (6, 0), (7, 2)] mixed rfl (by kernel_rfl) (fun w3 hb3 hh3 => ?_))))))))))
 have M3 := M2.drew hb3 hh3
 refine bS rfl rfl rfl (aM 3 (.func _ _ _) bDr M3 rfl rfl rfl) (aV rfl rfl rfl (fun _ => aH (.pointer _) rfl) (bS rfl rfl rfl (aM 4 (.func _ _ _) bNx M3 rfl rfl rfl) (bS rfl rfl rfl (aX 5 qW M3 rfl rfl rfl) (dT [true, true, false] rfl (by kernel_rfl) (bY bRq rfl rfl (bNi _ o BA nn cc) ?_)))))
 rintro v4 w4 ⟨rfl, hb4⟩
 have M4 := M3.callB hb4
 refine aB (aC ⟨(dZ (bM rfl (aM 3 (.func _ _ _) bDr M4 rfl rfl rfl)) dU), ?_⟩)
 refine dT [true] rfl (by kernel_rfl) (bY bQr rfl rfl (aGh _ _ r vs hW (M4.ownSeg 0 3) BA nn cc o.bytes (hP.rd.memY M4 hdB) hP.byt hP.cap hnn (M4.away 0 3 hP.rd hdB)) ?_)
 rintro v5 w5 ⟨r2, rfl, hw2, hM5⟩
 have M5 : Mem _ _ [_, _, _, _, _, _, _] _ := M4.seg 0 3 hM5
 refine aB (aC ⟨dU, ?_⟩)
 refine aV rfl rfl rfl (fun _ => cC [(0, .int _ _)] _ oN rfl rfl) (dT [] rfl (by kernel_rfl) (bG 6 _ jA M5 rfl rfl rfl rfl rfl (aR rfl) rfl (fun w6 M6 => ?_)))
 refine aB (aC ⟨dU, ?_⟩)
 refine bX (aC (aO (eL 6 jA M6 rfl rfl rfl ?_)))
 exact ⟨r2, rfl, hw2, M6.keep [true, true, true, true, true, false, false]⟩
set_option maxHeartbeats 32000000 in
theorem aJa (w : World)  (b : Nat) (r : StV) (vs : List Body) (hW : dB 39 r vs) (hO : Own [(some b, bc [.slice r.A r.n r.c, .map r.p] 107), r.er, r.em] w) (o : OpI) (BA : Option Addr) (nn cc : Nat) (hP : OpOk w o BA nn cc) (hnn : nn ≤ 1000000) (hdB : 0 < nn → ∀ q off, BA = some ⟨q, off, none⟩ → q ∉ cE [(some b, bc [.slice r.A r.n r.c, .map r.p] 107), r.er, r.em]) (hk : o.kind = 3) :
  Calls Tryz.prog 90 #[.pointer (some ⟨b, 0, none⟩), .agg (fP o BA nn cc).toArray] w (fun ex w' => ∃ v, ex = .returned v ∧ (fun v w' => ∃ (r' : StV) (p : Row), v = .agg (fD (jW vs o).2 p).toArray ∧ dB 39 r' (jW vs o).1 ∧ bC 5 1 p.A p.n p.c (((jW vs o).2.bytes).map bJ) p.e ∧ Mem w (cE [(some b, bc [.slice r.A r.n r.c, .map r.p] 107), r.er, r.em]) [(some b, bc [.slice r'.A r'.n r'.c, .map r'.p] 107), r'.er, r'.em, p.e] w') v w') := by
 have hG := hW.1
 have hbl := hP.len
 refine aI #[.cell 4 33] 12 Tryz.func90 rfl Tryz.results90 Tryz.ntmps90 rfl ?_
 have M0 := hO.mem
 refine aE (aA (bK (.agg (List.toArray _)) M0 rfl rfl rfl (fun b1 w1 M1 => (aS mC M1 rfl rfl (fun b2 w2 M2 => (aB (aC (aE (aA (wq (aH (.pointer _) rfl) rfl (wq (aD 11 aUo rfl) rfl ?_)))))))))))
 refine wq (aM 3 (.int _ _) bW M2 rfl rfl rfl) rfl (wq (aD 12 bIv rfl) rfl (wq (qI 3 _ bL M2 rfl rfl rfl rfl) rfl (bY bRa rfl rfl (aFp _ _ r vs hW (M2.ownSeg 0 3) o.key o.push hP.p1 hP.p2) ?_)))
 rintro v3 w3 ⟨r2, rfl, hw2, hM3⟩
 have M3 : Mem _ _ [_, _, _, _, _] _ := M2.seg 0 3 hM3
 refine wq (cC [(0, .int _ _)] _ oN rfl rfl) rfl (bG 4 _ jA M3 rfl rfl rfl rfl rfl (aR rfl) rfl (fun w4 M4 => (aB (aC (aO (eL 4 jA M4 rfl rfl rfl ?_))))))
 exact ⟨r2, ⟨none, 0, 0, (none, default)⟩, by rw [bLa hk]; rfl, by rw [bLa hk]; exact hw2, by rw [bLa hk]; exact bC.nil _ _ _, (M4.keep [true, true, true, false, false]).dummy default⟩
set_option maxHeartbeats 32000000 in
theorem aWw (w : World) (F : Rd w 2 (some ⟨0, 0, none⟩) 1 [[.int .u32 73856093, .int .u32 19349663]]) (N : Rd w 4 (some ⟨3, 0, none⟩) 1 [eI jO]) (b : Nat) (r : StV) (vs : List Body) (hW : dB 39 r vs) (hO : Own [(some b, bc [.slice r.A r.n r.c, .map r.p] 107), r.er, r.em] w) (o : OpI) (BA : Option Addr) (nn cc : Nat) (hP : OpOk w o BA nn cc) (hnn : nn ≤ 1000000) (hdB : 0 < nn → ∀ q off, BA = some ⟨q, off, none⟩ → q ∉ cE [(some b, bc [.slice r.A r.n r.c, .map r.p] 107), r.er, r.em]) (hdF : 0 < 1 → ∀ q off, (some ⟨0, 0, none⟩ : Option Addr) = some ⟨q, off, none⟩ → q ∉ cE [(some b, bc [.slice r.A r.n r.c, .map r.p] 107), r.er, r.em]) (hdN : 0 < 1 → ∀ q off, (some ⟨3, 0, none⟩ : Option Addr) = some ⟨q, off, none⟩ → q ∉ cE [(some b, bc [.slice r.A r.n r.c, .map r.p] 107), r.er, r.em]) (hk : o.kind = 4) :
  Calls Tryz.prog 92 #[.pointer (some ⟨b, 0, none⟩), .agg (fP o BA nn cc).toArray] w (fun ex w' => ∃ v, ex = .returned v ∧ (fun v w' => ∃ (r' : StV) (p : Row), v = .agg (fD (jW vs o).2 p).toArray ∧ dB 39 r' (jW vs o).1 ∧ bC 5 1 p.A p.n p.c (((jW vs o).2.bytes).map bJ) p.e ∧ Mem w (cE [(some b, bc [.slice r.A r.n r.c, .map r.p] 107), r.er, r.em]) [(some b, bc [.slice r'.A r'.n r'.c, .map r'.p] 107), r'.er, r'.em, p.e] w') v w') := by
 have hG := hW.1
 have hbl := hP.len
 refine aI #[.cell 4 33] 13 Tryz.func92 rfl Tryz.results92 Tryz.ntmps92 rfl ?_
 have M0 := hO.mem
 refine aE (aA (bK (.agg (List.toArray _)) M0 rfl rfl rfl (fun b1 w1 M1 => (aS mC M1 rfl rfl (fun b2 w2 M2 => (aB (aC (aE (aA (wq (aH (.pointer _) rfl) rfl (bY bJo rfl rfl (aPy _ (F.memY M2 hdF) (N.memY M2 hdN) _ r vs hW (M2.ownSeg 0 3) (M2.away 0 3 F hdF) (M2.away 0 3 N hdN)) ?_)))))))))))
 rintro v3 w3 ⟨r2, ts, rfl, hw2, hM3⟩
 have M3 : Mem _ _ [_, _, _, _, _] _ := M2.seg 0 3 hM3
 refine aS wA M3 rfl rfl (fun b4 w4 M4 => (bG 5 _ qK M4 rfl rfl rfl rfl rfl (aR rfl) rfl (fun w5 M5 => (aB (aC (aE (aA (wq (aD 1 aKl rfl) rfl (wq (aM 5 (.int _ _) iJ M5 rfl rfl rfl) rfl (wq (aD 2 wW rfl) rfl ?_))))))))))
 refine wq (aM 5 (.bool _) pC M5 rfl rfl rfl) rfl (wq (cC [(2, .int _ _), (3, .bool _)] _ oN rfl rfl) rfl (bG 4 _ jA M5 rfl rfl rfl rfl rfl (aR rfl) rfl (fun w6 M6 => (aB (aC (aO (eL 4 jA M6 rfl rfl rfl ?_)))))))
 exact ⟨r2, ⟨none, 0, 0, (none, default)⟩, by rw [bLt hk]; rfl, by rw [bLt hk]; exact hw2, by rw [bLt hk]; exact bC.nil _ _ _, (M6.keep [true, true, true, false, false, false]).dummy default⟩
set_option maxHeartbeats 32000000 in
theorem aGd (w : World)  (b : Nat) (r : StV) (vs : List Body) (hW : dB 39 r vs) (hO : Own [(some b, bc [.slice r.A r.n r.c, .map r.p] 107), r.er, r.em] w) (o : OpI) (BA : Option Addr) (nn cc : Nat) (hP : OpOk w o BA nn cc) (hnn : nn ≤ 1000000) (hdB : 0 < nn → ∀ q off, BA = some ⟨q, off, none⟩ → q ∉ cE [(some b, bc [.slice r.A r.n r.c, .map r.p] 107), r.er, r.em]) (hk : o.kind = 5) :
  Calls Tryz.prog 93 #[.pointer (some ⟨b, 0, none⟩), .agg (fP o BA nn cc).toArray] w (fun ex w' => ∃ v, ex = .returned v ∧ (fun v w' => ∃ (r' : StV) (p : Row), v = .agg (fD (jW vs o).2 p).toArray ∧ dB 39 r' (jW vs o).1 ∧ bC 5 1 p.A p.n p.c (((jW vs o).2.bytes).map bJ) p.e ∧ Mem w (cE [(some b, bc [.slice r.A r.n r.c, .map r.p] 107), r.er, r.em]) [(some b, bc [.slice r'.A r'.n r'.c, .map r'.p] 107), r'.er, r'.em, p.e] w') v w') := by
 have hG := hW.1
 have hbl := hP.len
 refine aI #[.cell 4 33] 8 Tryz.func93 rfl Tryz.results93 Tryz.ntmps93 rfl ?_
 have M0 := hO.mem
 refine aE (aA (bK (.agg (List.toArray _)) M0 rfl rfl rfl (fun b1 w1 M1 => (aS mC M1 rfl rfl (fun b2 w2 M2 => (aB (aC (aE (aA (wq (aH (.pointer _) rfl) rfl (bY bBa rfl rfl (pB _ _ r vs hW (M2.ownSeg 0 3)) ?_)))))))))))
 rintro v3 w3 ⟨pb, rfl, hpb, hM3⟩
 have M3 : Mem _ _ [_, _, _, _, _, _] _ := M2.seg 0 3 hM3
 refine wq (cC [(1, .slice _ _ _)] _ oN rfl rfl) rfl (bG 4 _ jA M3 rfl rfl rfl rfl rfl (aR rfl) rfl (fun w4 M4 => (aB (aC (aO (eL 4 jA M4 rfl rfl rfl ?_))))))
 exact ⟨r, pb, by rw [bKs hk]; rfl, by rw [bKs hk]; exact hW, by rw [bKs hk]; exact hpb, (M4.keep [true, true, true, false, false, true])⟩
set_option maxHeartbeats 32000000 in
theorem aSf (w : World)  (b : Nat) (r : StV) (vs : List Body) (hW : dB 39 r vs) (hO : Own [(some b, bc [.slice r.A r.n r.c, .map r.p] 107), r.er, r.em] w) (o : OpI) (BA : Option Addr) (nn cc : Nat) (hP : OpOk w o BA nn cc) (hnn : nn ≤ 1000000) (hdB : 0 < nn → ∀ q off, BA = some ⟨q, off, none⟩ → q ∉ cE [(some b, bc [.slice r.A r.n r.c, .map r.p] 107), r.er, r.em]) (hk : o.kind = 1) :
  Calls Tryz.prog 20 #[.pointer (some ⟨b, 0, none⟩), .agg (fP o BA nn cc).toArray] w (fun ex w' => ∃ v, ex = .returned v ∧ (fun v w' => ∃ (r' : StV) (p : Row), v = .agg (fD (jW vs o).2 p).toArray ∧ dB 39 r' (jW vs o).1 ∧ bC 5 1 p.A p.n p.c (((jW vs o).2.bytes).map bJ) p.e ∧ Mem w (cE [(some b, bc [.slice r.A r.n r.c, .map r.p] 107), r.er, r.em]) [(some b, bc [.slice r'.A r'.n r'.c, .map r'.p] 107), r'.er, r'.em, p.e] w') v w') := by
 have hG := hW.1
 have hbl := hP.len
 refine aI #[.cell 4 33] 21 Tryz.func20 rfl Tryz.results20 Tryz.ntmps20 rfl ?_
 have M0 := hO.mem
 refine aE (aA (bK (.agg (List.toArray _)) M0 rfl rfl rfl (fun b1 w1 M1 => (aS mC M1 rfl rfl (fun b2 w2 M2 => (aB (aC (aE (bQ [(1, 0), (2, 1), (0, 2), (3, 1), (4, 0), (5, 0), (6, 0), (7, 0), (8, 0)] mixed rfl (by kernel_rfl) (fun w3 hb3 hh3 => ?_))))))))))
 have M3 := M2.drew hb3 hh3
 refine aV rfl rfl rfl (fun _ => aD 0 rJ rfl) (bS rfl rfl rfl (aM 3 (.int _ _) iJ M3 rfl rfl rfl) (dT [false] rfl (by kernel_rfl) (bY aEr rfl rfl (jN _) ?_)))
 rintro v4 w4 ⟨pm, em, f1, g1, f2, g2, f3, g3, rfl, hmap, hM4⟩
 have M4 : Mem _ _ [_, _, _, _, _, _, _, _, _, _, _, _] _ := M3.call0 hM4
 refine aB (aC ⟨(dZ (bM rfl (aM 3 (.int _ _) iJ M4 rfl rfl rfl)) dU), ?_⟩)
 refine bS rfl rfl rfl (kE (enc := (fun v : Value => v)) .nilFunc 5 mR aPc M4 rfl hmap rfl rfl) (dX 11 (.tuple [(.func (.func 120) #[] #[.pointer (some ⟨f1, 0, none⟩), .pointer (some ⟨g1, 0, none⟩)] : Value), .bool true].toArray) (oL (bAm hk)) (aV rfl rfl rfl (fun _ => aH (.tuple (List.toArray _)) rfl) ?_))
 refine aV rfl rfl rfl (fun _ => bN (.func _ _ _) rfl rfl) (aV rfl rfl rfl (fun _ => bN (.bool true) rfl rfl) (aV rfl rfl rfl (fun _ => aJ (.func _ _ _) rfl) (aV rfl rfl rfl (fun _ => aJ (.bool true) rfl) (bX (aC (aE (aE (aA ?_))))))))
 refine wq (aH (.bool true) rfl) rfl (wq (gG false rfl rfl) rfl (aB (aC (cJ rfl (aL (aC (aE (aA (wq (aH (.func _ _ _) rfl) rfl ?_)))))))))
 refine wq (aH (.pointer _) rfl) rfl (wq (aX 3 qW M4 rfl rfl rfl) rfl (bY bPm rfl rfl (bDz _ _ r vs hW _ _ (M4.ownK [true, true, true, false, false, false, true, true, false, false, false, false]) o BA nn cc (hP.memY M4 hdB) hnn (M4.awayK [true, true, true, false, false, false, true, true, false, false, false, false] hP.rd hdB)) ?_))
 rintro v5 w5 ⟨r2, rfl, hw2, hM5⟩
 have M5 : Mem _ _ [_, _, _, _, _, _, _, _, _, _, _, _] _ := M4.callK [true, true, true, false, false, false, true, true, false, false, false, false] rfl hM5
 refine bG 6 _ jA M5 rfl rfl rfl rfl rfl (aR rfl) rfl (fun w6 M6 => (aB (aC (aO (eL 6 jA M6 rfl rfl rfl ?_)))))
 exact ⟨r2, ⟨none, 0, 0, (none, default)⟩, by rw [aWe hk]; rfl, by rw [aWe hk]; exact hw2, by rw [aWe hk]; exact bC.nil _ _ _, (M6.keep [true, true, true, false, false, false, false, false, false, false, false, false]).dummy default⟩
set_option maxHeartbeats 32000000 in
theorem aQp (w : World)  (b : Nat) (r : StV) (vs : List Body) (hW : dB 39 r vs) (hO : Own [(some b, bc [.slice r.A r.n r.c, .map r.p] 107), r.er, r.em] w) (o : OpI) (BA : Option Addr) (nn cc : Nat) (hP : OpOk w o BA nn cc) (hnn : nn ≤ 1000000) (hdB : 0 < nn → ∀ q off, BA = some ⟨q, off, none⟩ → q ∉ cE [(some b, bc [.slice r.A r.n r.c, .map r.p] 107), r.er, r.em]) (hk : o.kind = 2) :
  Calls Tryz.prog 20 #[.pointer (some ⟨b, 0, none⟩), .agg (fP o BA nn cc).toArray] w (fun ex w' => ∃ v, ex = .returned v ∧ (fun v w' => ∃ (r' : StV) (p : Row), v = .agg (fD (jW vs o).2 p).toArray ∧ dB 39 r' (jW vs o).1 ∧ bC 5 1 p.A p.n p.c (((jW vs o).2.bytes).map bJ) p.e ∧ Mem w (cE [(some b, bc [.slice r.A r.n r.c, .map r.p] 107), r.er, r.em]) [(some b, bc [.slice r'.A r'.n r'.c, .map r'.p] 107), r'.er, r'.em, p.e] w') v w') := by
 have hG := hW.1
 have hbl := hP.len
 refine aI #[.cell 4 33] 21 Tryz.func20 rfl Tryz.results20 Tryz.ntmps20 rfl ?_
 have M0 := hO.mem
 refine aE (aA (bK (.agg (List.toArray _)) M0 rfl rfl rfl (fun b1 w1 M1 => (aS mC M1 rfl rfl (fun b2 w2 M2 => (aB (aC (aE (bQ [(1, 0), (2, 1), (0, 2), (3, 1), (4, 0), (5, 0), (6, 0), (7, 0), (8, 0)] mixed rfl (by kernel_rfl) (fun w3 hb3 hh3 => ?_))))))))))
 have M3 := M2.drew hb3 hh3
 refine aV rfl rfl rfl (fun _ => aD 0 rJ rfl) (bS rfl rfl rfl (aM 3 (.int _ _) iJ M3 rfl rfl rfl) (dT [false] rfl (by kernel_rfl) (bY aEr rfl rfl (jN _) ?_)))
 rintro v4 w4 ⟨pm, em, f1, g1, f2, g2, f3, g3, rfl, hmap, hM4⟩
 have M4 : Mem _ _ [_, _, _, _, _, _, _, _, _, _, _, _] _ := M3.call0 hM4
 refine aB (aC ⟨(dZ (bM rfl (aM 3 (.int _ _) iJ M4 rfl rfl rfl)) dU), ?_⟩)
 refine bS rfl rfl rfl (kE (enc := (fun v : Value => v)) .nilFunc 5 mR aPc M4 rfl hmap rfl rfl) (dX 11 (.tuple [(.func (.func 121) #[] #[.pointer (some ⟨f2, 0, none⟩), .pointer (some ⟨g2, 0, none⟩)] : Value), .bool true].toArray) (oL (bEo hk)) (aV rfl rfl rfl (fun _ => aH (.tuple (List.toArray _)) rfl) ?_))
 refine aV rfl rfl rfl (fun _ => bN (.func _ _ _) rfl rfl) (aV rfl rfl rfl (fun _ => bN (.bool true) rfl rfl) (aV rfl rfl rfl (fun _ => aJ (.func _ _ _) rfl) (aV rfl rfl rfl (fun _ => aJ (.bool true) rfl) (bX (aC (aE (aE (aA ?_))))))))
 refine wq (aH (.bool true) rfl) rfl (wq (gG false rfl rfl) rfl (aB (aC (cJ rfl (aL (aC (aE (aA (wq (aH (.func _ _ _) rfl) rfl ?_)))))))))
 refine wq (aH (.pointer _) rfl) rfl (wq (aX 3 qW M4 rfl rfl rfl) rfl (bY bMa rfl rfl (aLm _ _ r vs hW _ _ (M4.ownK [true, true, true, false, false, false, false, false, true, true, false, false]) o BA nn cc (hP.memY M4 hdB) hnn (M4.awayK [true, true, true, false, false, false, false, false, true, true, false, false] hP.rd hdB)) ?_))
 rintro v5 w5 ⟨r2, rfl, hw2, hM5⟩
 have M5 : Mem _ _ [_, _, _, _, _, _, _, _, _, _, _, _] _ := M4.callK [true, true, true, false, false, false, false, false, true, true, false, false] rfl hM5
 refine bG 6 _ jA M5 rfl rfl rfl rfl rfl (aR rfl) rfl (fun w6 M6 => (aB (aC (aO (eL 6 jA M6 rfl rfl rfl ?_)))))
 exact ⟨r2, ⟨none, 0, 0, (none, default)⟩, by rw [bOi hk]; rfl, by rw [bOi hk]; exact hw2, by rw [bOi hk]; exact bC.nil _ _ _, (M6.keep [true, true, true, false, false, false, false, false, false, false, false, false]).dummy default⟩
set_option maxHeartbeats 32000000 in
theorem aSh (w : World)  (b : Nat) (r : StV) (vs : List Body) (hW : dB 39 r vs) (hO : Own [(some b, bc [.slice r.A r.n r.c, .map r.p] 107), r.er, r.em] w) (o : OpI) (BA : Option Addr) (nn cc : Nat) (hP : OpOk w o BA nn cc) (hnn : nn ≤ 1000000) (hdB : 0 < nn → ∀ q off, BA = some ⟨q, off, none⟩ → q ∉ cE [(some b, bc [.slice r.A r.n r.c, .map r.p] 107), r.er, r.em]) (hk : o.kind = 6) :
  Calls Tryz.prog 20 #[.pointer (some ⟨b, 0, none⟩), .agg (fP o BA nn cc).toArray] w (fun ex w' => ∃ v, ex = .returned v ∧ (fun v w' => ∃ (r' : StV) (p : Row), v = .agg (fD (jW vs o).2 p).toArray ∧ dB 39 r' (jW vs o).1 ∧ bC 5 1 p.A p.n p.c (((jW vs o).2.bytes).map bJ) p.e ∧ Mem w (cE [(some b, bc [.slice r.A r.n r.c, .map r.p] 107), r.er, r.em]) [(some b, bc [.slice r'.A r'.n r'.c, .map r'.p] 107), r'.er, r'.em, p.e] w') v w') := by
 have hG := hW.1
 have hbl := hP.len
 refine aI #[.cell 4 33] 21 Tryz.func20 rfl Tryz.results20 Tryz.ntmps20 rfl ?_
 have M0 := hO.mem
 refine aE (aA (bK (.agg (List.toArray _)) M0 rfl rfl rfl (fun b1 w1 M1 => (aS mC M1 rfl rfl (fun b2 w2 M2 => (aB (aC (aE (bQ [(1, 0), (2, 1), (0, 2), (3, 1), (4, 0), (5, 0), (6, 0), (7, 0), (8, 0)] mixed rfl (by kernel_rfl) (fun w3 hb3 hh3 => ?_))))))))))
 have M3 := M2.drew hb3 hh3
 refine aV rfl rfl rfl (fun _ => aD 0 rJ rfl) (bS rfl rfl rfl (aM 3 (.int _ _) iJ M3 rfl rfl rfl) (dT [false] rfl (by kernel_rfl) (bY aEr rfl rfl (jN _) ?_)))
 rintro v4 w4 ⟨pm, em, f1, g1, f2, g2, f3, g3, rfl, hmap, hM4⟩
 have M4 : Mem _ _ [_, _, _, _, _, _, _, _, _, _, _, _] _ := M3.call0 hM4
 refine aB (aC ⟨(dZ (bM rfl (aM 3 (.int _ _) iJ M4 rfl rfl rfl)) dU), ?_⟩)
 refine bS rfl rfl rfl (kE (enc := (fun v : Value => v)) .nilFunc 5 mR aPc M4 rfl hmap rfl rfl) (dX 11 (.tuple [(.func (.func 123) #[] #[.pointer (some ⟨f3, 0, none⟩), .pointer (some ⟨g3, 0, none⟩)] : Value), .bool true].toArray) (oL (bDo hk)) (aV rfl rfl rfl (fun _ => aH (.tuple (List.toArray _)) rfl) ?_))
 refine aV rfl rfl rfl (fun _ => bN (.func _ _ _) rfl rfl) (aV rfl rfl rfl (fun _ => bN (.bool true) rfl rfl) (aV rfl rfl rfl (fun _ => aJ (.func _ _ _) rfl) (aV rfl rfl rfl (fun _ => aJ (.bool true) rfl) (bX (aC (aE (aE (aA ?_))))))))
 refine wq (aH (.bool true) rfl) rfl (wq (gG false rfl rfl) rfl (aB (aC (cJ rfl (aL (aC (aE (aA (wq (aH (.func _ _ _) rfl) rfl ?_)))))))))
 refine wq (aH (.pointer _) rfl) rfl (wq (aX 3 qW M4 rfl rfl rfl) rfl (bY bOs rfl rfl (aKs _ _ r vs hW _ _ (M4.ownK [true, true, true, false, false, false, false, false, false, false, true, true]) o BA nn cc (hP.memY M4 hdB) hnn (M4.awayK [true, true, true, false, false, false, false, false, false, false, true, true] hP.rd hdB)) ?_))
 rintro v5 w5 ⟨r2, rfl, hw2, hM5⟩
 have M5 : Mem _ _ [_, _, _, _, _, _, _, _, _, _, _, _] _ := M4.callK [true, true, true, false, false, false, false, false, false, false, true, true] rfl hM5
 refine bG 6 _ jA M5 rfl rfl rfl rfl rfl (aR rfl) rfl (fun w6 M6 => (aB (aC (aO (eL 6 jA M6 rfl rfl rfl ?_)))))
 exact ⟨r2, ⟨none, 0, 0, (none, default)⟩, by rw [bLi hk]; rfl, by rw [bLi hk]; exact hw2, by rw [bLi hk]; exact bC.nil _ _ _, (M6.keep [true, true, true, false, false, false, false, false, false, false, false, false]).dummy default⟩
set_option maxHeartbeats 32000000 in
theorem aPf (w : World)  (b : Nat) (r : StV) (vs : List Body) (hW : dB 39 r vs) (hO : Own [(some b, bc [.slice r.A r.n r.c, .map r.p] 107), r.er, r.em] w) (o : OpI) (BA : Option Addr) (nn cc : Nat) (hP : OpOk w o BA nn cc) (hnn : nn ≤ 1000000) (hdB : 0 < nn → ∀ q off, BA = some ⟨q, off, none⟩ → q ∉ cE [(some b, bc [.slice r.A r.n r.c, .map r.p] 107), r.er, r.em]) (hk : o.kind = 3) :
  Calls Tryz.prog 20 #[.pointer (some ⟨b, 0, none⟩), .agg (fP o BA nn cc).toArray] w (fun ex w' => ∃ v, ex = .returned v ∧ (fun v w' => ∃ (r' : StV) (p : Row), v = .agg (fD (jW vs o).2 p).toArray ∧ dB 39 r' (jW vs o).1 ∧ bC 5 1 p.A p.n p.c (((jW vs o).2.bytes).map bJ) p.e ∧ Mem w (cE [(some b, bc [.slice r.A r.n r.c, .map r.p] 107), r.er, r.em]) [(some b, bc [.slice r'.A r'.n r'.c, .map r'.p] 107), r'.er, r'.em, p.e] w') v w') := by
 have hG := hW.1
 have hbl := hP.len
 refine aI #[.cell 4 33] 21 Tryz.func20 rfl Tryz.results20 Tryz.ntmps20 rfl ?_
 have M0 := hO.mem
 refine aE (aA (bK (.agg (List.toArray _)) M0 rfl rfl rfl (fun b1 w1 M1 => (aS mC M1 rfl rfl (fun b2 w2 M2 => (aB (aC (aE (bQ [(1, 0), (2, 1), (0, 2), (3, 1), (4, 0), (5, 0), (6, 0), (7, 0), (8, 0)] mixed rfl (by kernel_rfl) (fun w3 hb3 hh3 => ?_))))))))))
 have M3 := M2.drew hb3 hh3
 refine aV rfl rfl rfl (fun _ => aD 0 rJ rfl) (bS rfl rfl rfl (aM 3 (.int _ _) iJ M3 rfl rfl rfl) (dT [false] rfl (by kernel_rfl) (bY aEr rfl rfl (jN _) ?_)))
 rintro v4 w4 ⟨pm, em, f1, g1, f2, g2, f3, g3, rfl, hmap, hM4⟩
 have M4 : Mem _ _ [_, _, _, _, _, _, _, _, _, _, _, _] _ := M3.call0 hM4
 refine aB (aC ⟨(dZ (bM rfl (aM 3 (.int _ _) iJ M4 rfl rfl rfl)) dU), ?_⟩)
 refine bS rfl rfl rfl (kE (enc := (fun v : Value => v)) .nilFunc 5 mR aPc M4 rfl hmap rfl rfl) (dX 11 (.tuple [(.func (.func 90) #[] #[] : Value), .bool true].toArray) (oL (bFd hk)) (aV rfl rfl rfl (fun _ => aH (.tuple (List.toArray _)) rfl) (aV rfl rfl rfl (fun _ => bN (.func _ _ _) rfl rfl) ?_)))
 refine aV rfl rfl rfl (fun _ => bN (.bool true) rfl rfl) (aV rfl rfl rfl (fun _ => aJ (.func _ _ _) rfl) (aV rfl rfl rfl (fun _ => aJ (.bool true) rfl) (bX (aC (aE (aE (aA (wq (aH (.bool true) rfl) rfl ?_))))))))
 refine wq (gG false rfl rfl) rfl (aB (aC (cJ rfl (aL (aC (aE (aA (wq (aH (.func _ _ _) rfl) rfl (wq (aH (.pointer _) rfl) rfl ?_)))))))))
 refine wq (aX 3 qW M4 rfl rfl rfl) rfl (bY bQp rfl rfl (aJa _ _ r vs hW (M4.ownSeg 0 3) o BA nn cc (hP.memY M4 hdB) hnn (M4.away 0 3 hP.rd hdB)  hk) ?_)
 rintro v5 w5 ⟨r2, p2, rfl, hw2, hp2, hM5⟩
 have M5 : Mem _ _ [_, _, _, _, _, _, _, _, _, _, _, _, _] _ := M4.seg 0 3 hM5
 refine bG 4 _ jA M5 rfl rfl rfl rfl rfl (aR rfl) rfl (fun w6 M6 => (aB (aC (aO (eL 4 jA M6 rfl rfl rfl ?_)))))
 exact ⟨r2, p2, rfl, hw2, hp2, M6.keep [true, true, true, false, false, false, false, false, false, false, false, false, true]⟩
set_option maxHeartbeats 32000000 in
theorem aPv (w : World) (F : Rd w 2 (some ⟨0, 0, none⟩) 1 [[.int .u32 73856093, .int .u32 19349663]]) (N : Rd w 4 (some ⟨3, 0, none⟩) 1 [eI jO]) (b : Nat) (r : StV) (vs : List Body) (hW : dB 39 r vs) (hO : Own [(some b, bc [.slice r.A r.n r.c, .map r.p] 107), r.er, r.em] w) (o : OpI) (BA : Option Addr) (nn cc : Nat) (hP : OpOk w o BA nn cc) (hnn : nn ≤ 1000000) (hdB : 0 < nn → ∀ q off, BA = some ⟨q, off, none⟩ → q ∉ cE [(some b, bc [.slice r.A r.n r.c, .map r.p] 107), r.er, r.em]) (hdF : 0 < 1 → ∀ q off, (some ⟨0, 0, none⟩ : Option Addr) = some ⟨q, off, none⟩ → q ∉ cE [(some b, bc [.slice r.A r.n r.c, .map r.p] 107), r.er, r.em]) (hdN : 0 < 1 → ∀ q off, (some ⟨3, 0, none⟩ : Option Addr) = some ⟨q, off, none⟩ → q ∉ cE [(some b, bc [.slice r.A r.n r.c, .map r.p] 107), r.er, r.em]) (hk : o.kind = 4) :
  Calls Tryz.prog 20 #[.pointer (some ⟨b, 0, none⟩), .agg (fP o BA nn cc).toArray] w (fun ex w' => ∃ v, ex = .returned v ∧ (fun v w' => ∃ (r' : StV) (p : Row), v = .agg (fD (jW vs o).2 p).toArray ∧ dB 39 r' (jW vs o).1 ∧ bC 5 1 p.A p.n p.c (((jW vs o).2.bytes).map bJ) p.e ∧ Mem w (cE [(some b, bc [.slice r.A r.n r.c, .map r.p] 107), r.er, r.em]) [(some b, bc [.slice r'.A r'.n r'.c, .map r'.p] 107), r'.er, r'.em, p.e] w') v w') := by
 have hG := hW.1
 have hbl := hP.len
 refine aI #[.cell 4 33] 21 Tryz.func20 rfl Tryz.results20 Tryz.ntmps20 rfl ?_
 have M0 := hO.mem
 refine aE (aA (bK (.agg (List.toArray _)) M0 rfl rfl rfl (fun b1 w1 M1 => (aS mC M1 rfl rfl (fun b2 w2 M2 => (aB (aC (aE (bQ [(1, 0), (2, 1), (0, 2), (3, 1), (4, 0), (5, 0), (6, 0), (7, 0), (8, 0)] mixed rfl (by kernel_rfl) (fun w3 hb3 hh3 => ?_))))))))))
 have M3 := M2.drew hb3 hh3
 refine aV rfl rfl rfl (fun _ => aD 0 rJ rfl) (bS rfl rfl rfl (aM 3 (.int _ _) iJ M3 rfl rfl rfl) (dT [false] rfl (by kernel_rfl) (bY aEr rfl rfl (jN _) ?_)))
 rintro v4 w4 ⟨pm, em, f1, g1, f2, g2, f3, g3, rfl, hmap, hM4⟩
 have M4 : Mem _ _ [_, _, _, _, _, _, _, _, _, _, _, _] _ := M3.call0 hM4
 refine aB (aC ⟨(dZ (bM rfl (aM 3 (.int _ _) iJ M4 rfl rfl rfl)) dU), ?_⟩)
 refine bS rfl rfl rfl (kE (enc := (fun v : Value => v)) .nilFunc 5 mR aPc M4 rfl hmap rfl rfl) (dX 11 (.tuple [(.func (.func 92) #[] #[] : Value), .bool true].toArray) (oL (bDx hk)) (aV rfl rfl rfl (fun _ => aH (.tuple (List.toArray _)) rfl) (aV rfl rfl rfl (fun _ => bN (.func _ _ _) rfl rfl) ?_)))
 refine aV rfl rfl rfl (fun _ => bN (.bool true) rfl rfl) (aV rfl rfl rfl (fun _ => aJ (.func _ _ _) rfl) (aV rfl rfl rfl (fun _ => aJ (.bool true) rfl) (bX (aC (aE (aE (aA (wq (aH (.bool true) rfl) rfl ?_))))))))
 refine wq (gG false rfl rfl) rfl (aB (aC (cJ rfl (aL (aC (aE (aA (wq (aH (.func _ _ _) rfl) rfl (wq (aH (.pointer _) rfl) rfl ?_)))))))))
 refine wq (aX 3 qW M4 rfl rfl rfl) rfl (bY bRf rfl rfl (aWw _ (F.memY M4 hdF) (N.memY M4 hdN) _ r vs hW (M4.ownSeg 0 3) o BA nn cc (hP.memY M4 hdB) hnn (M4.away 0 3 hP.rd hdB) (M4.away 0 3 F hdF) (M4.away 0 3 N hdN) hk) ?_)
 rintro v5 w5 ⟨r2, p2, rfl, hw2, hp2, hM5⟩
 have M5 : Mem _ _ [_, _, _, _, _, _, _, _, _, _, _, _, _] _ := M4.seg 0 3 hM5
 refine bG 4 _ jA M5 rfl rfl rfl rfl rfl (aR rfl) rfl (fun w6 M6 => (aB (aC (aO (eL 4 jA M6 rfl rfl rfl ?_)))))
 exact ⟨r2, p2, rfl, hw2, hp2, M6.keep [true, true, true, false, false, false, false, false, false, false, false, false, true]⟩
set_option maxHeartbeats 32000000 in
theorem aQx (w : World)  (b : Nat) (r : StV) (vs : List Body) (hW : dB 39 r vs) (hO : Own [(some b, bc [.slice r.A r.n r.c, .map r.p] 107), r.er, r.em] w) (o : OpI) (BA : Option Addr) (nn cc : Nat) (hP : OpOk w o BA nn cc) (hnn : nn ≤ 1000000) (hdB : 0 < nn → ∀ q off, BA = some ⟨q, off, none⟩ → q ∉ cE [(some b, bc [.slice r.A r.n r.c, .map r.p] 107), r.er, r.em]) (hk : o.kind = 5) :
  Calls Tryz.prog 20 #[.pointer (some ⟨b, 0, none⟩), .agg (fP o BA nn cc).toArray] w (fun ex w' => ∃ v, ex = .returned v ∧ (fun v w' => ∃ (r' : StV) (p : Row), v = .agg (fD (jW vs o).2 p).toArray ∧ dB 39 r' (jW vs o).1 ∧ bC 5 1 p.A p.n p.c (((jW vs o).2.bytes).map bJ) p.e ∧ Mem w (cE [(some b, bc [.slice r.A r.n r.c, .map r.p] 107), r.er, r.em]) [(some b, bc [.slice r'.A r'.n r'.c, .map r'.p] 107), r'.er, r'.em, p.e] w') v w') := by
 have hG := hW.1
 have hbl := hP.len
 refine aI #[.cell 4 33] 21 Tryz.func20 rfl Tryz.results20 Tryz.ntmps20 rfl ?_
 have M0 := hO.mem
 refine aE (aA (bK (.agg (List.toArray _)) M0 rfl rfl rfl (fun b1 w1 M1 => (aS mC M1 rfl rfl (fun b2 w2 M2 => (aB (aC (aE (bQ [(1, 0), (2, 1), (0, 2), (3, 1), (4, 0), (5, 0), (6, 0), (7, 0), (8, 0)] mixed rfl (by kernel_rfl) (fun w3 hb3 hh3 => ?_))))))))))
 have M3 := M2.drew hb3 hh3
 refine aV rfl rfl rfl (fun _ => aD 0 rJ rfl) (bS rfl rfl rfl (aM 3 (.int _ _) iJ M3 rfl rfl rfl) (dT [false] rfl (by kernel_rfl) (bY aEr rfl rfl (jN _) ?_)))
 rintro v4 w4 ⟨pm, em, f1, g1, f2, g2, f3, g3, rfl, hmap, hM4⟩
 have M4 : Mem _ _ [_, _, _, _, _, _, _, _, _, _, _, _] _ := M3.call0 hM4
 refine aB (aC ⟨(dZ (bM rfl (aM 3 (.int _ _) iJ M4 rfl rfl rfl)) dU), ?_⟩)
 refine bS rfl rfl rfl (kE (enc := (fun v : Value => v)) .nilFunc 5 mR aPc M4 rfl hmap rfl rfl) (dX 11 (.tuple [(.func (.func 93) #[] #[] : Value), .bool true].toArray) (oL (bEp hk)) (aV rfl rfl rfl (fun _ => aH (.tuple (List.toArray _)) rfl) (aV rfl rfl rfl (fun _ => bN (.func _ _ _) rfl rfl) ?_)))
 refine aV rfl rfl rfl (fun _ => bN (.bool true) rfl rfl) (aV rfl rfl rfl (fun _ => aJ (.func _ _ _) rfl) (aV rfl rfl rfl (fun _ => aJ (.bool true) rfl) (bX (aC (aE (aE (aA (wq (aH (.bool true) rfl) rfl ?_))))))))
 refine wq (gG false rfl rfl) rfl (aB (aC (cJ rfl (aL (aC (aE (aA (wq (aH (.func _ _ _) rfl) rfl (wq (aH (.pointer _) rfl) rfl ?_)))))))))
 refine wq (aX 3 qW M4 rfl rfl rfl) rfl (bY bRd rfl rfl (aGd _ _ r vs hW (M4.ownSeg 0 3) o BA nn cc (hP.memY M4 hdB) hnn (M4.away 0 3 hP.rd hdB)  hk) ?_)
 rintro v5 w5 ⟨r2, p2, rfl, hw2, hp2, hM5⟩
 have M5 : Mem _ _ [_, _, _, _, _, _, _, _, _, _, _, _, _] _ := M4.seg 0 3 hM5
 refine bG 4 _ jA M5 rfl rfl rfl rfl rfl (aR rfl) rfl (fun w6 M6 => (aB (aC (aO (eL 4 jA M6 rfl rfl rfl ?_)))))
 exact ⟨r2, p2, rfl, hw2, hp2, M6.keep [true, true, true, false, false, false, false, false, false, false, false, false, true]⟩
set_option maxHeartbeats 32000000 in
theorem aPr (w : World)  (b : Nat) (r : StV) (vs : List Body) (hW : dB 39 r vs) (hO : Own [(some b, bc [.slice r.A r.n r.c, .map r.p] 107), r.er, r.em] w) (o : OpI) (BA : Option Addr) (nn cc : Nat) (hP : OpOk w o BA nn cc) (hdB : 0 < nn → ∀ q off, BA = some ⟨q, off, none⟩ → q ∉ cE [(some b, bc [.slice r.A r.n r.c, .map r.p] 107), r.er, r.em]) (hk : o.kind < 1 ∨ 6 < o.kind) :
  Calls Tryz.prog 20 #[.pointer (some ⟨b, 0, none⟩), .agg (fP o BA nn cc).toArray] w (fun ex w' => ∃ v, ex = .returned v ∧ (fun v w' => ∃ (r' : StV) (p : Row), v = .agg (fD (jW vs o).2 p).toArray ∧ dB 39 r' (jW vs o).1 ∧ bC 5 1 p.A p.n p.c (((jW vs o).2.bytes).map bJ) p.e ∧ Mem w (cE [(some b, bc [.slice r.A r.n r.c, .map r.p] 107), r.er, r.em]) [(some b, bc [.slice r'.A r'.n r'.c, .map r'.p] 107), r'.er, r'.em, p.e] w') v w') := by
 have hG := hW.1
 have hbl := hP.len
 refine aI #[.cell 4 33] 21 Tryz.func20 rfl Tryz.results20 Tryz.ntmps20 rfl ?_
 have M0 := hO.mem
 refine aE (aA (bK (.agg (List.toArray _)) M0 rfl rfl rfl (fun b1 w1 M1 => (aS mC M1 rfl rfl (fun b2 w2 M2 => (aB (aC (aE (bQ [(1, 0), (2, 1), (0, 2), (3, 1), (4, 0), (5, 0), (6, 0), (7, 0), (8, 0)] mixed rfl (by kernel_rfl) (fun w3 hb3 hh3 => ?_))))))))))
 have M3 := M2.drew hb3 hh3
 refine aV rfl rfl rfl (fun _ => aD 0 rJ rfl) (bS rfl rfl rfl (aM 3 (.int _ _) iJ M3 rfl rfl rfl) (dT [false] rfl (by kernel_rfl) (bY aEr rfl rfl (jN _) ?_)))
 rintro v4 w4 ⟨pm, em, f1, g1, f2, g2, f3, g3, rfl, hmap, hM4⟩
 have M4 : Mem _ _ [_, _, _, _, _, _, _, _, _, _, _, _] _ := M3.call0 hM4
 refine aB (aC ⟨(dZ (bM rfl (aM 3 (.int _ _) iJ M4 rfl rfl rfl)) dU), ?_⟩)
 refine bS rfl rfl rfl (kE (enc := (fun v : Value => v)) .nilFunc 5 mR aPc M4 rfl hmap rfl rfl) (dX 11 (.tuple [(.nilFunc : Value), .bool false].toArray) (aYl (aZl hk)) (aV rfl rfl rfl (fun _ => aH (.tuple (List.toArray _)) rfl) (aV rfl rfl rfl (fun _ => bN (_) rfl rfl) (aV rfl rfl rfl (fun _ => bN (.bool false) rfl rfl) ?_))))
 refine aV rfl rfl rfl (fun _ => aJ (_) rfl) (aV rfl rfl rfl (fun _ => aJ (.bool false) rfl) (bX (aC (aE (aE (aA (wq (aH (.bool false) rfl) rfl (wq (gG true rfl rfl) rfl ?_))))))))
 refine aB (aC (cF rfl (aE (aA (wq (cC [(0, .int _ _)] _ oN rfl rfl) rfl (bG 4 _ jA M4 rfl rfl rfl rfl rfl (aR rfl) rfl (fun w5 M5 => (aB (aC (aO (cM ?_)))))))))))
 refine eL 4 jA M5 rfl rfl rfl ?_
 exact ⟨r, ⟨none, 0, 0, (none, default)⟩, by rw [jK (by omega)]; rfl, by rw [jK (by omega)]; exact hW, by rw [jK (by omega)]; exact bC.nil _ _ _, (M5.keep [true, true, true, false, false, false, false, false, false, false, false, false]).dummy default⟩
theorem aHv (w : World) (F : Rd w 2 (some ⟨0, 0, none⟩) 1 [[.int .u32 73856093, .int .u32 19349663]]) (N : Rd w 4 (some ⟨3, 0, none⟩) 1 [eI jO]) (b : Nat) (r : StV) (vs : List Body) (hW : dB 39 r vs) (hO : Own [(some b, bc [.slice r.A r.n r.c, .map r.p] 107), r.er, r.em] w) (o : OpI) (BA : Option Addr) (nn cc : Nat) (hP : OpOk w o BA nn cc) (hnn : nn ≤ 1000000) (hdB : 0 < nn → ∀ q off, BA = some ⟨q, off, none⟩ → q ∉ cE [(some b, bc [.slice r.A r.n r.c, .map r.p] 107), r.er, r.em]) (hdF : 0 < 1 → ∀ q off, (some ⟨0, 0, none⟩ : Option Addr) = some ⟨q, off, none⟩ → q ∉ cE [(some b, bc [.slice r.A r.n r.c, .map r.p] 107), r.er, r.em]) (hdN : 0 < 1 → ∀ q off, (some ⟨3, 0, none⟩ : Option Addr) = some ⟨q, off, none⟩ → q ∉ cE [(some b, bc [.slice r.A r.n r.c, .map r.p] 107), r.er, r.em]) : Calls Tryz.prog 20 #[.pointer (some ⟨b, 0, none⟩), .agg (fP o BA nn cc).toArray] w (fun ex w' => ∃ v, ex = .returned v ∧ (fun v w' => ∃ (r' : StV) (p : Row), v = .agg (fD (jW vs o).2 p).toArray ∧ dB 39 r' (jW vs o).1 ∧ bC 5 1 p.A p.n p.c (((jW vs o).2.bytes).map bJ) p.e ∧ Mem w (cE [(some b, bc [.slice r.A r.n r.c, .map r.p] 107), r.er, r.em]) [(some b, bc [.slice r'.A r'.n r'.c, .map r'.p] 107), r'.er, r'.em, p.e] w') v w') := by
 by_cases h0 : o.kind < 1 ∨ 6 < o.kind
 ·exact aPr w b r vs hW hO o BA nn cc hP hdB h0
 by_cases h1 : o.kind = 1
 ·exact aSf w b r vs hW hO o BA nn cc hP hnn hdB h1
 by_cases h2 : o.kind = 2
 ·exact aQp w b r vs hW hO o BA nn cc hP hnn hdB h2
 by_cases h3 : o.kind = 3
 ·exact aPf w b r vs hW hO o BA nn cc hP hnn hdB h3
 by_cases h4 : o.kind = 4
 ·exact aPv w F N b r vs hW hO o BA nn cc hP hnn hdB hdF hdN h4
 by_cases h5 : o.kind = 5
 ·exact aQx w b r vs hW hO o BA nn cc hP hnn hdB h5
 ·exact aSh w b r vs hW hO o BA nn cc hP hnn hdB (by omega)
set_option maxHeartbeats 32000000 in
theorem aRe (w : World) (F : Rd w 2 (some ⟨0, 0, none⟩) 1 [[.int .u32 73856093, .int .u32 19349663]]) (N : Rd w 4 (some ⟨3, 0, none⟩) 1 [eI jO]) (b : Nat) (r : StV) (vs : List Body) (hW : dB 39 r vs) (hO : Own [(some b, bc [.slice r.A r.n r.c, .map r.p] 107), r.er, r.em] w) (hdF : 0 < 1 → ∀ q off, (some ⟨0, 0, none⟩ : Option Addr) = some ⟨q, off, none⟩ → q ∉ cE [(some b, bc [.slice r.A r.n r.c, .map r.p] 107), r.er, r.em]) (hdN : 0 < 1 → ∀ q off, (some ⟨3, 0, none⟩ : Option Addr) = some ⟨q, off, none⟩ → q ∉ cE [(some b, bc [.slice r.A r.n r.c, .map r.p] 107), r.er, r.em]) (A : Option Addr) (n c : Nat) (l : List OpRow) (hl : OpsRd w A n l) (hby : ∀ x ∈ l, x.n ≤ 1000000) (hn : n ≤ 1000000) (hdl : 0 < n → ∀ q off, A = some ⟨q, off, none⟩ → q ∉ cE [(some b, bc [.slice r.A r.n r.c, .map r.p] 107), r.er, r.em]) (hdo : aSu l (cE [(some b, bc [.slice r.A r.n r.c, .map r.p] 107), r.er, r.em])) :
  Calls Tryz.prog 33 #[.pointer (some ⟨b, 0, none⟩), .slice A n c] w (fun ex w' => ∃ v, ex = .returned v ∧ (fun v w' => ∃ (r' : StV) (q : Row) (rs : List Row), v = .slice q.A q.n q.c ∧ dB 39 r' (oE vs (oS l)) ∧ bC 33 4 q.A q.n q.c (aBa (wT vs (oS l)) rs) q.e ∧ OutR 5 rs (wT vs (oS l)) ∧ Mem w (cE [(some b, bc [.slice r.A r.n r.c, .map r.p] 107), r.er, r.em]) ([(some b, bc [.slice r'.A r'.n r'.c, .map r'.p] 107), r'.er, r'.em, q.e] ++ rs.map Row.e) w') v w') := by
 have hlen : l.length = n := by simpa using hl.rd.len
 have hbd := hl.rd.bound
 refine aI #[.tmp 4] 22 Tryz.func33 rfl Tryz.results33 Tryz.ntmps33 rfl ?_
 have M0 := hO.mem
 refine aE (aA (eM rfl rfl (aB (aC (aE (aA (eM rfl rfl ?_)))))))
 have M1 := M0.dummy default
 refine aB (aC (aE (aE (aA (dO rfl rfl (wq (dC Tryz.underlying27 rfl) rfl (aP rfl rfl (aB (aC (aQ (dS (σ := Nat × StV × Row × List Row) [0, 4, 8, 9] (fun (i, r', q, rs) => [(5, .slice q.A q.n q.c), (10, .int .i64 (i : Int))]) (fun (i, r', q, rs) w' => (i ≤ n ∧ dB 39 r' (oE vs ((oS l).take i)) ∧ bC 33 4 q.A q.n q.c (aBa ((wT vs ((oS l).take i))) rs) q.e ∧ OutR 5 rs (wT vs ((oS l).take i))) ∧ Mem w (cE [(some b, bc [.slice r.A r.n r.c, .map r.p] 107), r.er, r.em]) ([(some b, bc [.slice r'.A r'.n r'.c, .map r'.p] 107), r'.er, r'.em, q.e] ++ rs.map Row.e) w') (fun (i, r', q, rs) => n - i) (0, r, gT, []) (bA rfl (bA rfl eB)) (⟨⟨by omega, hW, bC.nil _ _ _, OutR.nil _⟩, M1⟩) ?_)))))))))))
 rintro ⟨i, r', q, rs⟩ ρ2 w2 ⟨⟨hi, hr, hq, hoR⟩, hM2⟩
 have hqn : (aBa (wT vs ((oS l).take i)) rs).length = q.n := hq.1
 rw [bCa hoR.len, aLk, List.length_take, aOn] at hqn
 refine aE (aA (cZ rfl rfl rfl rfl (aB (aC (aE ?_)))))
 refine aW rfl (fun h11 => ?_) (fun h11 => ?_)
 ·obtain ⟨x, hx⟩ := cS (xs := l) (k := i) hlen (by omega)
  have hxm := List.mem_of_getElem? hx
  have hP := hl.each x hxm
  have hxo := aSp hx
  refine aL (aC (aE (aQ (aE (aA (wq (bP (i) bDe rfl rfl rfl ((hl.rd.memY hM2 hdl).below_len (aG OpRow.cells hx)) ((hl.rd.memY hM2 hdl).someK (aG OpRow.cells hx))) rfl (wq (dN _ qW (hl.rd.memY hM2 hdl) (aG OpRow.cells hx) rfl) rfl (aK 13 (.agg (fP x.o x.A x.n x.c).toArray) rfl ?_))))))))
  refine aS bPf hM2 rfl rfl (fun b3 w3 M3 => ?_)
  have M4 : Mem _ _ ([_, _, _, _, _] ++ _) _ := Mem.front (L := [_, _, _, _]) M3
  refine bG 4 _ qW M4 rfl rfl rfl rfl rfl (aR rfl) rfl (fun w5 M5 => (aB (aC (aA (dO rfl rfl (wq (aH (.pointer _) rfl) rfl (wq (aX 4 qW M5 rfl rfl rfl) rfl (bY bJc rfl rfl (aHv _ (F.memY M5 hdF) (N.memY M5 hdN) _ r' _ hr (M5.ownSeg 0 3) x.o x.A x.n x.c (hP.memY M5 (hdo x hxm)) (hby x hxm) (M5.away 0 3 hP.rd (hdo x hxm)) (M5.away 0 3 F hdF) (M5.away 0 3 N hdN)) ?_))))))))
  rintro v6 w6 ⟨r2, p2, rfl, hr2, hp2, hM6⟩
  have M6 : Mem _ _ ([_, _, _, _, _, _] ++ _) _ := Mem.front (L := [_, _, _, _, _]) (M5.seg 0 3 hM6)
  refine cT [.agg (List.toArray _)] [fD (jW (oE vs ((oS l).take i)) x.o).2 p2] rfl bQl M6 rfl rfl rfl rfl (dG rfl) (by decide) (fun b7 w7 M7 => ?_)
  have M8 : Mem _ _ ([_, _, _, _, _, _, _] ++ _) _ := Mem.front (L := [_, _, _, _, _, _]) M7
  refine dJ 3 [fD (jW (oE vs ((oS l).take i)) x.o).2 p2] bQl M8 rfl rfl rfl rfl rfl hq rfl (by simp [fD, Go.Bil.one]) (dW.ofMem 6 M8 rfl) (by omega) (fun A9 c9 e9 w9 M9 hR9 => (eM rfl rfl (aB (cV (aC (aA (wq (aY rfl rfl (by omega) (by omega)) rfl ?_)))))))
  refine aP rfl rfl (aB ?_)
  refine cG (i + 1, r2, ⟨A9, q.n + 1, c9, e9⟩, rs ++ [p2]) (bA rfl (bA rfl eB)) (cN rfl (cN rfl (cN rfl (cN rfl gV)))) ?_ ?_
  ·exact ⟨⟨by omega, by rw [yR hxo]; exact hr2, by rw [aHp hxo, aVb hoR.len]; exact hR9, by rw [aHp hxo]; exact hoR.add hp2⟩, Mem.pushNew (L := [_, _, _, _]) p2 (Mem.keepL (L := [_, _, _, _, _, _, _]) [true, true, true, true, false, true, false] M9)⟩
  ·(show n - (i + 1) < n - i; omega)
 ·have hin : i = n := by omega
  rw [hin, List.take_of_length_le (by rw [aOn]; omega)] at hr hq hoR
  refine cX (dF (dK (eS (aC (aE (aA (dO rfl rfl ?_)))))))
  refine eM rfl rfl (aB (aC (aO (cD (.slice _ _ _) rfl ?_))))
  exact ⟨r', q, rs, rfl, hr, hq, hoR, hM2⟩
set_option maxHeartbeats 4000000 in
theorem wM (w : World) (F : Rd w 2 (some ⟨0, 0, none⟩) 1 [[.int .u32 73856093, .int .u32 19349663]]) (N : Rd w 4 (some ⟨3, 0, none⟩) 1 [eI jO]) (A : Option Addr) (n c : Nat) (l : List OpRow) (hl : OpsRd w A n l) (hby : ∀ x ∈ l, x.n ≤ 1000000) (hn : n ≤ 1000000) :
  Calls Tryz.prog 18 #[.slice A n c] w (fun ex w' => ∃ v, ex = .returned v ∧ (fun v w' => ∃ (b : Nat) (r' : StV), v = .pointer (some ⟨b, 0, none⟩) ∧ dB 39 r' (oE [] (oS l)) ∧ Mem w [] [(some b, bc [.slice r'.A r'.n r'.c, .map r'.p] 107), r'.er, r'.em] w') v w') := by
 have hlen : l.length = n := by simpa using hl.rd.len
 have hbd := hl.rd.bound
 refine aI #[.tmp 2] 9 Tryz.func18 rfl Tryz.results18 Tryz.ntmps18 rfl ?_
 have M0 := Mem.refl w
 refine aE (aA (wq (aJ (.pointer _) rfl) rfl (aB (aC (aE (aA (aS bIj M0 rfl rfl (fun b1 w1 M1 => ?_))))))))
 have M2 := (M1.dummy default).dummy default
 refine wq (aJ (.pointer _) rfl) rfl (aB (aC (aE (aA (wq (aH (.pointer _) rfl) rfl (dO rfl rfl (bY bRp rfl rfl (aRe _ (F.mem M2) (N.mem M2) _ ⟨none, 0, 0, none, (none, default), (none, default)⟩ _ (dB.new 39 default default) (M2.ownSeg 0 3) (M2.away 0 3 F (by simp)) (M2.away 0 3 N (by simp)) A n c l (hl.mem M2) hby hn (M2.away 0 3 hl.rd (by simp)) (fun x hx => M2.away 0 3 (hl.each x hx).rd (by simp))) ?_)))))))
 rintro v3 w3 ⟨r2, q, rs, rfl, hr2, hq, hoR, hM3⟩
 have M3 : Mem _ _ ([_, _, _, _] ++ _) _ := M2.seg 0 3 hM3
 refine aB (aC (aE (aA (wq (aH (.pointer _) rfl) rfl (wq (aJ (.pointer _) rfl) rfl (aB (aC (aO (cD (.pointer _) rfl ?_)))))))))
 exact ⟨_, r2, rfl, hr2, M3.keep [true, true, true]⟩
set_option maxHeartbeats 4000000 in
theorem aWs (w : World) (A : Option Addr) (n c : Nat) (l : List OpRow) (hl : OpsRd w A n l) :
  Calls Tryz.prog 17 #[.slice A n c] w (fun ex w' => ∃ v, ex = .returned v ∧ (fun v w' => (∃ g : Bool, v = .bool g ∧ (g = true → n ≤ 40 ∧ ∀ x ∈ l, x.n ≤ 1000)) ∧ Below w.heap.size w w') v w') := by
 have hlen : l.length = n := by simpa using hl.rd.len
 have hbd := hl.rd.bound
 refine aI #[.tmp 2] 37 Tryz.func17 rfl Tryz.results17 Tryz.ntmps17 rfl ?_
 have M0 := Mem.refl w
 refine aE (aA (wq (aJ (.bool false) rfl) rfl (aB (aC (aE (aA (bI rfl rfl (aB (aC (aE (aE (aA (bI rfl rfl ?_)))))))))))))
 refine aB (aC (aQ (dS (σ := Nat × Nat) [0] (fun (i, s) => [(3, .int .i64 (s : Int)), (4, .int .i64 (i : Int))]) (fun (i, s) w' => (i ≤ n ∧ s ≤ i ∧ ∀ (j : Nat) (x : OpRow), j < i → l[j]? = some x → x.n ≤ 1000) ∧ Mem w [] [] w') (fun (i, s) => n - i) (0, 0) (bA rfl (bA rfl eB)) (⟨⟨by omega, by omega, fun j x hj => by omega⟩, M0⟩) ?_)))
 rintro ⟨i, s⟩ ρ1 w1 ⟨⟨hi, hs, hal⟩, hM1⟩
 refine aE (aE (aA (aP rfl rfl (dO rfl rfl (wq (dC Tryz.underlying22 rfl) rfl (cZ rfl rfl rfl rfl (wq (aH (.bool (decide _)) rfl) rfl ?_)))))))
 refine dM 9 rfl (fun g9 => ?_) (fun g9 => ?_)
 ·refine aP rfl rfl (cZ rfl rfl rfl rfl (wq (bR true (.bool (decide _)) rfl rfl) rfl (aB (aC ?_))))
  refine aW rfl (fun h12 => ?_) (fun h12 => ?_)
  ·obtain ⟨x, hx⟩ := cS (xs := l) (k := i) hlen (by omega)
   refine aL (aC (aE (aQ (aE (aE (aA (dO rfl rfl (aP rfl rfl (wq (bP (i) aKo rfl rfl rfl ((hl.rd.mem hM1).below_len (aG OpRow.cells hx)) ((hl.rd.mem hM1).someK (aG OpRow.cells hx))) rfl (wq (bB 14 aJj (hl.rd.mem hM1) (Nat.lt_of_le_of_lt (Nat.zero_le _) ((hl.rd.mem hM1).below_len (aG OpRow.cells hx))) rfl) rfl ?_))))))))))
   refine wq (dY (o := 14) (.slice _ _ _) vJ (hl.rd.mem hM1) (aG OpRow.cells hx) rfl rfl) rfl (wq (dC Tryz.underlying31 rfl) rfl (cZ rfl rfl rfl rfl (aB (aC ?_))))
   refine aW rfl (fun h21 => ?_) (fun h21 => ?_)
   ·refine aE (aA (wq (aJ (.bool false) rfl) rfl (aB (aC (aO (cM (kO (cM (rS ?_)))))))))
    refine kO (cM (cD (.bool false) rfl ?_))
    exact ⟨⟨false, rfl, fun h => by cases h⟩, hM1.below⟩
   ·refine aL (aC (aE (aA (dO rfl rfl (aP rfl rfl (wq (bP (i) aKo rfl rfl rfl ((hl.rd.mem hM1).below_len (aG OpRow.cells hx)) ((hl.rd.mem hM1).someK (aG OpRow.cells hx))) rfl (wq (bB 0 xT (hl.rd.mem hM1) (Nat.lt_of_le_of_lt (Nat.zero_le _) ((hl.rd.mem hM1).below_len (aG OpRow.cells hx))) rfl) rfl ?_)))))))
    refine wq (dY (o := 0) (.int _ _) iJ (hl.rd.mem hM1) (aG OpRow.cells hx) rfl rfl) rfl (cZ rfl rfl rfl rfl (aB (aC ?_)))
    refine aW rfl (fun h27 => ?_) (fun h27 => ?_)
    ·refine aA (aP rfl rfl (wq (aY rfl rfl (by omega) (by omega)) rfl (bI rfl rfl (aB (cV ?_)))))
     refine aC (aA (aP rfl rfl (wq (aY rfl rfl (by omega) (by omega)) rfl (bI rfl rfl (aB ?_)))))
     refine cG (i + 1, s + 1) (bA rfl (bA rfl eB)) (cN rfl gV) ?_ ?_
     ·exact ⟨⟨by omega, by omega, pI (p := fun _ x => x.n ≤ 1000) hal hx (by omega)⟩, hM1⟩
     ·(show n - (i + 1) < n - i; omega)
    ·refine aL (cV (aC (aA (aP rfl rfl (wq (aY rfl rfl (by omega) (by omega)) rfl (bI rfl rfl ?_))))))
     refine aB ?_
     refine cG (i + 1, s) (bA rfl (bA rfl eB)) (cN rfl gV) ?_ ?_
     ·exact ⟨⟨by omega, by omega, pI (p := fun _ x => x.n ≤ 1000) hal hx (by omega)⟩, hM1⟩
     ·(show n - (i + 1) < n - i; omega)
  ·refine cX (dF (dK (eS (aC (aE (aA (dO rfl rfl ?_)))))))
   refine wq (dC Tryz.underlying22 rfl) rfl (cZ rfl rfl rfl rfl (wq (aH (.bool (decide _)) rfl) rfl ?_))
   refine dM 33 rfl (fun g33 => ?_) (fun g33 => ?_)
   ·refine aP rfl rfl (cZ rfl rfl rfl rfl (wq (bR true (.bool (decide _)) rfl rfl) rfl (wq (aJ (.bool (decide _)) rfl) rfl (aB (aC (aO (cD (.bool (decide _)) rfl ?_)))))))
    refine ⟨⟨_, rfl, fun hg => ?_⟩, hM1.below⟩
    first | (cases hg; done) | exact ⟨(by omega), fun x hx => (by obtain ⟨j, hj⟩ := List.getElem?_of_mem hx; exact hal j x (by have := (List.getElem?_eq_some_iff.1 hj).1; omega) hj)⟩
   ·refine aN rfl rfl (aN rfl rfl (wq (bR false (.bool false) rfl rfl) rfl (wq (aJ (.bool false) rfl) rfl (aB (aC (aO (cD (.bool false) rfl ?_)))))))
    refine ⟨⟨_, rfl, fun hg => ?_⟩, hM1.below⟩
    first | (cases hg; done) | exact ⟨(by omega), fun x hx => (by obtain ⟨j, hj⟩ := List.getElem?_of_mem hx; exact hal j x (by have := (List.getElem?_eq_some_iff.1 hj).1; omega) hj)⟩
 ·refine aN rfl rfl (aN rfl rfl (wq (bR false (.bool false) rfl rfl) rfl (aB (aC (cJ rfl (cX ?_))))))
  refine dF (dK (eS (aC (aE (aA (dO rfl rfl (wq (dC Tryz.underlying22 rfl) rfl ?_)))))))
  refine cZ rfl rfl rfl rfl (wq (aH (.bool (decide _)) rfl) rfl ?_)
  refine dM 33 rfl (fun g33 => ?_) (fun g33 => ?_)
  ·refine aP rfl rfl (cZ rfl rfl rfl rfl (wq (bR true (.bool (decide _)) rfl rfl) rfl (wq (aJ (.bool (decide _)) rfl) rfl (aB (aC (aO (cD (.bool (decide _)) rfl ?_)))))))
   refine ⟨⟨_, rfl, fun hg => ?_⟩, hM1.below⟩
   first | (cases hg; done) | exact ⟨(by omega), fun x hx => (by obtain ⟨j, hj⟩ := List.getElem?_of_mem hx; exact hal j x (by have := (List.getElem?_eq_some_iff.1 hj).1; omega) hj)⟩
  ·refine aN rfl rfl (aN rfl rfl (wq (bR false (.bool false) rfl rfl) rfl (wq (aJ (.bool false) rfl) rfl (aB (aC (aO (cD (.bool false) rfl ?_)))))))
   refine ⟨⟨_, rfl, fun hg => ?_⟩, hM1.below⟩
   first | (cases hg; done) | exact ⟨(by omega), fun x hx => (by obtain ⟨j, hj⟩ := List.getElem?_of_mem hx; exact hal j x (by have := (List.getElem?_eq_some_iff.1 hj).1; omega) hj)⟩
set_option maxHeartbeats 32000000 in
theorem aZs (w : World) (q0 : Row) (s : List Body) (hq0 : bC 39 10 q0.A q0.n q0.c ((s).map aF) q0.e) (hG : GoodV s) (hO : Own [q0.e] w) (o : OpI) (BA : Option Addr) (nn cc : Nat) (hP : OpOk w o BA nn cc) (hnn : nn ≤ 1000000) (hdB : 0 < nn → ∀ q off, BA = some ⟨q, off, none⟩ → q ∉ cE [q0.e]) :
  Calls Tryz.prog 21 #[.slice q0.A q0.n q0.c, .agg (fP o BA nn cc).toArray] w (fun ex w' => ∃ v, ex = .returned v ∧ (fun v w' => ∃ (q p : Row), v = .tuple #[.slice q.A q.n q.c, .agg (fD (jW s o).2 p).toArray] ∧ bC 39 10 q.A q.n q.c (((jW s o).1).map aF) q.e ∧ bC 5 1 p.A p.n p.c (((jW s o).2.bytes).map bJ) p.e ∧ Mem w (cE [q0.e]) [q.e, p.e] w') v w') := by
 have hlen : s.length = q0.n := by simpa using hq0.1
 have hsl := hG.len
 have hbl := hP.len
 refine aI #[.tmp 4, .cell 5 43] 42 Tryz.func21 rfl Tryz.results21 Tryz.ntmps21 rfl ?_
 have M0 := hO.mem
 refine aE (aA (bK (.agg (List.toArray _)) M0 rfl rfl rfl (fun b1 w1 M1 => (eM rfl rfl (aS bEm M1 rfl rfl (fun b2 w2 M2 => (aB (aC (aE (aE (aA (wq (aD 0 xT rfl) rfl ?_))))))))))))
 refine wq (aM 1 (.int _ _) iJ M2 rfl rfl rfl) rfl (cZ rfl rfl rfl rfl (wq (aH (.bool (decide _)) rfl) rfl ?_))
 refine dM 10 rfl (fun g10 => ?_) (fun g10 => ?_)
 ·refine aN rfl rfl (aN rfl rfl (aN rfl rfl (wq (bR true (.bool true) rfl rfl) rfl (aB (aC (cF rfl ?_))))))
  refine aE (aA (dO rfl rfl (wq (cC [(0, .int _ _)] _ xB rfl rfl) rfl (eM rfl rfl (bG 2 _ xL M2 rfl rfl rfl rfl rfl (aR rfl) rfl (fun w3 M3 => (aB (aC (aO (cM ?_))))))))))
  refine aSy (.slice _ _ _) 2 xL M3 rfl rfl rfl rfl ?_
  have hun : ¬ (1 ≤ o.kind ∧ o.kind ≤ 6) := by omega
  exact ⟨q0, ⟨none, 0, 0, (none, default)⟩, by rw [jK hun]; rfl, by rw [jK hun]; exact hq0, by rw [jK hun]; exact bC.nil _ _ _, (M3.keep [true, false, false]).dummy default⟩
 ·refine wq (aD 0 xT rfl) rfl (wq (aM 1 (.int _ _) iJ M2 rfl rfl rfl) rfl (cZ rfl rfl rfl rfl (wq (bR false (.bool (decide _)) rfl rfl) rfl (aB (aC ?_)))))
  refine aW rfl (fun h14 => ?_) (fun h14 => ?_)
  ·refine aE (aA (dO rfl rfl (wq (cC [(0, .int _ _)] _ xB rfl rfl) rfl (eM rfl rfl (bG 2 _ xL M2 rfl rfl rfl rfl rfl (aR rfl) rfl (fun w4 M4 => (aB (aC (aO (cM ?_))))))))))
   refine aSy (.slice _ _ _) 2 xL M4 rfl rfl rfl rfl ?_
   have hun : ¬ (1 ≤ o.kind ∧ o.kind ≤ 6) := by omega
   exact ⟨q0, ⟨none, 0, 0, (none, default)⟩, by rw [jK hun]; rfl, by rw [jK hun]; exact hq0, by rw [jK hun]; exact bC.nil _ _ _, (M4.keep [true, false, false]).dummy default⟩
  ·refine aL (aC (aE (aA (dO rfl rfl (wq (aD 0 xT rfl) rfl (wq (aM 1 (.int _ _) iJ M2 rfl rfl rfl) rfl (wq (fU rfl rfl (by omega) (by omega)) rfl (wq (aD 1 aUg rfl) rfl ?_))))))))
   refine wq (qI 1 _ bO M2 rfl rfl rfl rfl) rfl (wq (aD 11 aTv rfl) rfl (wq (aM 1 (.int _ _) bW M2 rfl rfl rfl) rfl (wq (aD 12 aUl rfl) rfl (wq (qI 1 _ bL M2 rfl rfl rfl rfl) rfl (wq (aD 14 aJj rfl) rfl ?_)))))
   refine wq (aM 1 (.slice _ _ _) vJ M2 rfl rfl rfl) rfl (wq (cC [(0, .int _ _), (1, .agg (List.toArray _)), (2, .int _ _), (3, .agg (List.toArray _)), (4, .slice _ _ _)] _ aXz rfl rfl) rfl (aK 29 (.agg (fP { o with kind := o.kind - 1 } BA nn cc).toArray) rfl (bY bRk rfl rfl (aZt _ q0 s hq0 hG (M2.ownAt (i := 0) rfl) { o with kind := o.kind - 1 } BA nn cc ⟨hP.rd.memY M2 hdB, hP.cap, hP.byt, hP.body, hP.p1, hP.p2⟩ hnn hdB) ?_)))
   rintro v5 w5 ⟨q2, p2, rfl, hq2, hp2, hM5⟩
   have M5 : Mem _ _ [_, _, _, _] _ := M2.seg 0 1 hM5
   refine aS aIu M5 rfl rfl (fun b6 w6 M6 => (bG 4 _ fO M6 rfl rfl rfl rfl rfl (aR rfl) rfl (fun w7 M7 => (aB (aC (aE (bQ [(0, 0), (1, 1), (2, 0), (3, 1), (4, 0), (5, 1), (6, 0), (7, 1), (8, 0), (9, 1), (10, 0), (11, 0), (12, 2)] mixed rfl (by kernel_rfl) (fun w8 hb8 hh8 => ?_))))))))
   have M8 := M7.drew hb8 hh8
   refine aV rfl rfl rfl (fun _ => aD 0 rC rfl) (bS rfl rfl rfl (aM 4 (.slice _ _ _) fX M8 rfl rfl rfl) (aV rfl rfl rfl (fun _ => aD 1 qZ rfl) (bS rfl rfl rfl (aM 4 (.int _ _) iJ M8 rfl rfl rfl) (aV rfl rfl rfl (fun _ => aD 12 aMc rfl) (bS rfl rfl rfl (aM 4 (.slice _ _ _) vJ M8 rfl rfl rfl) ?_)))))
   refine aV rfl rfl rfl (fun _ => aD 13 aLe rfl) (bS rfl rfl rfl (aM 4 (.int _ _) iJ M8 rfl rfl rfl) (aV rfl rfl rfl (fun _ => aD 14 aNj rfl) (bS rfl rfl rfl (aM 4 (.bool _) pC M8 rfl rfl rfl) (aV rfl rfl rfl (fun _ => cC [(0, .int _ _), (1, .slice _ _ _), (2, .int _ _), (3, .bool _)] _ xB rfl rfl) ?_))))
   refine aV rfl rfl rfl (fun _ => aJ (.slice _ _ _) rfl) (dT [true, true, true, true, true] rfl (by kernel_rfl) (bG 2 _ xL M8 rfl rfl rfl rfl rfl (aR rfl) rfl (fun w9 M9 => ?_)))
   refine aB (aC ⟨dU, ?_⟩)
   refine bX (aC (aO (aSy (.slice _ _ _) 2 xL M9 rfl rfl rfl rfl ?_)))
   have hdo : ¬ (o.kind < 1 ∨ 6 < o.kind) := by omega
   exact ⟨q2, p2, by rw [bCi hdo]; rfl, by rw [bCi hdo]; exact hq2, by rw [bCi hdo]; exact hp2, M9.keep [true, false, false, true, false]⟩
set_option maxHeartbeats 8000000 in
theorem aSi (w : World) (z : ResI) (r r' : Row) (RB : Rd w 1 r.A r.n (z.bytes.map bJ)) (RB' : Rd w 1 r'.A r'.n (z.bytes.map bJ)) :
  Calls Tryz.prog 57 #[.agg (fD z r).toArray, .agg (fD z r').toArray] w (fun ex w' => ∃ v, ex = .returned v ∧ (fun v w' => v = .bool true ∧ Below w.heap.size w w') v w') := by
 refine aI #[.tmp 4] 31 Tryz.func57 rfl Tryz.results57 Tryz.ntmps57 rfl ?_
 have M0 := Mem.refl w
 refine aE (aA (bK (.agg (List.toArray _)) M0 rfl rfl rfl (fun b1 w1 M1 => (bK (.agg (List.toArray _)) M1 rfl rfl rfl (fun b2 w2 M2 => (wq (aJ (.bool false) rfl) rfl (aB (aC (aE (aA (wq (aD 0 aTt rfl) rfl ?_)))))))))))
 refine wq (aM 0 (.int _ _) iJ M2 rfl rfl rfl) rfl (wq (aD 0 aTt rfl) rfl (wq (aM 1 (.int _ _) iJ M2 rfl rfl rfl) rfl (cZ rfl rfl rfl rfl (kZ 9 rfl rfl (wq (aH (.bool true) rfl) rfl ?_)))))
 refine wq (aD 1 aSn rfl) rfl (wq (aM 0 (.slice _ _ _) vJ M2 rfl rfl rfl) rfl (wq (aD 1 aSn rfl) rfl (wq (aM 1 (.slice _ _ _) vJ M2 rfl rfl rfl) rfl (bY bJm rfl rfl (aEi _ _ _ _ z.bytes (RB.mem M2) _ _ _ z.bytes (RB'.mem M2)) ?_))))
 rintro v3 w3 ⟨rfl, hb3⟩
 have M3 := M2.callB hb3
 refine kZ 15 rfl rfl (wq (bR true (.bool true) rfl rfl) rfl (wq (aH (.bool true) rfl) rfl (wq (aD 2 aTl rfl) rfl (wq (aM 0 (.int _ _) iJ M3 rfl rfl rfl) rfl (wq (aD 2 aTl rfl) rfl ?_)))))
 refine wq (aM 1 (.int _ _) iJ M3 rfl rfl rfl) rfl (cZ rfl rfl rfl rfl (kZ 22 rfl rfl (wq (bR true (.bool true) rfl rfl) rfl (wq (aH (.bool true) rfl) rfl (wq (aD 3 aUa rfl) rfl ?_)))))
 refine wq (aM 0 (.bool _) pC M3 rfl rfl rfl) rfl (wq (aD 3 aUa rfl) rfl (wq (aM 1 (.bool _) pC M3 rfl rfl rfl) rfl (wq (rR _ Tryz.underlying4 rfl rfl rfl) rfl (aK 29 (.bool true) (bv rfl (by simp)) (wq (bR true (.bool true) rfl rfl) rfl ?_)))))
 refine wq (aJ (.bool true) rfl) rfl (aB (aC (aO (cD (.bool true) rfl ?_))))
 exact ⟨rfl, M3.below⟩
set_option maxHeartbeats 8000000 in
theorem aZq (w : World) (z : ResI) (r r' : Row) (RB : Rd w 1 r.A r.n (z.bytes.map bJ)) (RB' : Rd w 1 r'.A r'.n (z.bytes.map bJ)) :
  Calls Tryz.prog 22 #[.agg (fD z r).toArray, .agg (fD z r').toArray] w (fun ex w' => ∃ v, ex = .returned v ∧ (fun v w' => v = .bool true ∧ Below w.heap.size w w') v w') := by
 refine aI #[.tmp 4] 16 Tryz.func22 rfl Tryz.results22 Tryz.ntmps22 rfl ?_
 have M0 := Mem.refl w
 refine aE (aA (bK (.agg (List.toArray _)) M0 rfl rfl rfl (fun b1 w1 M1 => (bK (.agg (List.toArray _)) M1 rfl rfl rfl (fun b2 w2 M2 => (wq (aJ (.bool false) rfl) rfl (aB (aC (aE (aA (wq (aD 0 bGo rfl) rfl ?_)))))))))))
 refine wq (aM 0 (.int _ _) aCo M2 rfl rfl rfl) rfl (wq (aD 1 bHw rfl) rfl (wq (aM 0 (.slice _ _ _) vJ M2 rfl rfl rfl) rfl (wq (aD 2 bIf rfl) rfl (wq (aM 0 (.int _ _) iJ M2 rfl rfl rfl) rfl (wq (aD 3 bIa rfl) rfl ?_)))))
 refine wq (aM 0 (.bool _) pC M2 rfl rfl rfl) rfl (wq (cC [(0, .int _ _), (1, .slice _ _ _), (2, .int _ _), (3, .bool _)] _ xB rfl rfl) rfl (aK 13 (.agg (fD z r).toArray) rfl (wq (aX 1 xL M2 rfl rfl rfl) rfl (bY bSd rfl rfl (aSi _ z r r' (RB.mem M2) (RB'.mem M2)) ?_))))
 rintro v3 w3 ⟨rfl, hb3⟩
 have M3 := M2.callB hb3
 refine wq (aJ (.bool true) rfl) rfl (aB (aC (aO (cD (.bool true) rfl ?_))))
 exact ⟨rfl, M3.below⟩
set_option maxHeartbeats 16000000 in
theorem aNq (w : World) (A : Option Addr) (n c : Nat) (l : List OpRow) (hl : OpsRd w A n l) (hn : n ≤ 1000000) :
  Calls Tryz.prog 19 #[.slice A n c] w (fun ex w' => ∃ v, ex = .returned v ∧ (fun v w' => ∃ q : Row, v = .slice q.A q.n q.c ∧ bC 41 15 q.A q.n q.c (l.map OpRow.cells) q.e ∧ Mem w [] [q.e] w') v w') := by
 have hlen : l.length = n := by simpa using hl.rd.len
 have hbd := hl.rd.bound
 refine aI #[.tmp 2] 41 Tryz.func19 rfl Tryz.results19 Tryz.ntmps19 rfl ?_
 have M0 := Mem.refl w
 refine aE (aA (eM rfl rfl (aB (aC (aE (aA (eM rfl rfl ?_)))))))
 have M1 := M0.dummy default
 refine aB (aC (aE (aE (aA (bI rfl rfl (aB (aC (aQ (dS (σ := Nat × Row) [0, 2] (fun (i, q) => [(3, .slice q.A q.n q.c), (4, .int .i64 (i : Int))]) (fun (i, q) w' => (i ≤ n ∧ bC 41 15 q.A q.n q.c ((l.take i).map OpRow.cells) q.e) ∧ Mem w [] [q.e] w') (fun (i, q) => n - i) (0, gT) (bA rfl (bA rfl eB)) (⟨⟨by omega, bC.nil _ _ _⟩, M1⟩) ?_)))))))))
 rintro ⟨i, q⟩ ρ2 w2 ⟨⟨hi, hq⟩, hM2⟩
 have hqn : ((l.take i).map OpRow.cells).length = q.n := hq.1
 rw [List.length_map, List.length_take] at hqn
 refine aE (aE (aA (aP rfl rfl (dO rfl rfl (wq (dC Tryz.underlying22 rfl) rfl (cZ rfl rfl rfl rfl (aB (aC ?_))))))))
 refine aW rfl (fun h8 => ?_) (fun h8 => ?_)
 ·obtain ⟨x, hx⟩ := cS (xs := l) (k := i) hlen (by omega)
  refine aL (aC (aE (aQ (bQ [(0, 0), (1, 0), (2, 0), (3, 1), (4, 1), (5, 1), (6, 0), (7, 0), (8, 1), (9, 1), (10, 1), (11, 0), (12, 0), (13, 1), (14, 1), (15, 1), (16, 0), (17, 0), (18, 1), (19, 1), (20, 1), (21, 0), (22, 0), (23, 1), (24, 1), (25, 1), (26, 0), (27, 2), (28, 2), (29, 0)] mixed rfl (by kernel_rfl) (fun w3 hb3 hh3 => ?_)))))
  have M3 := hM2.drew hb3 hh3
  refine jP rfl rfl rfl (jP rfl rfl rfl (eF rfl rfl rfl (bS rfl rfl rfl (bP (i) aKo rfl rfl rfl ((hl.rd.mem M3).below_len (aG OpRow.cells hx)) ((hl.rd.mem M3).someK (aG OpRow.cells hx))) (bS rfl rfl rfl (bB 0 xT (hl.rd.mem M3) (Nat.lt_of_le_of_lt (Nat.zero_le _) ((hl.rd.mem M3).below_len (aG OpRow.cells hx))) rfl) ?_))))
  refine bS rfl rfl rfl (dY (o := 0) (.int _ _) iJ (hl.rd.mem M3) (aG OpRow.cells hx) rfl rfl) (jP rfl rfl rfl (eF rfl rfl rfl (bS rfl rfl rfl (bP (i) aKo rfl rfl rfl ((hl.rd.mem M3).below_len (aG OpRow.cells hx)) ((hl.rd.mem M3).someK (aG OpRow.cells hx))) (bS rfl rfl rfl (bB 1 aUg (hl.rd.mem M3) (Nat.lt_of_le_of_lt (Nat.zero_le _) ((hl.rd.mem M3).below_len (aG OpRow.cells hx))) rfl) ?_))))
  refine bS rfl rfl rfl (rW (o := 1) _ bO (hl.rd.mem M3) (aG OpRow.cells hx) rfl rfl rfl) (jP rfl rfl rfl (eF rfl rfl rfl (bS rfl rfl rfl (bP (i) aKo rfl rfl rfl ((hl.rd.mem M3).below_len (aG OpRow.cells hx)) ((hl.rd.mem M3).someK (aG OpRow.cells hx))) (bS rfl rfl rfl (bB 11 aTv (hl.rd.mem M3) (Nat.lt_of_le_of_lt (Nat.zero_le _) ((hl.rd.mem M3).below_len (aG OpRow.cells hx))) rfl) ?_))))
  refine bS rfl rfl rfl (dY (o := 11) (.int _ _) bW (hl.rd.mem M3) (aG OpRow.cells hx) rfl rfl) (jP rfl rfl rfl (eF rfl rfl rfl (bS rfl rfl rfl (bP (i) aKo rfl rfl rfl ((hl.rd.mem M3).below_len (aG OpRow.cells hx)) ((hl.rd.mem M3).someK (aG OpRow.cells hx))) (bS rfl rfl rfl (bB 12 aUl (hl.rd.mem M3) (Nat.lt_of_le_of_lt (Nat.zero_le _) ((hl.rd.mem M3).below_len (aG OpRow.cells hx))) rfl) ?_))))
  refine bS rfl rfl rfl (rW (o := 12) _ bL (hl.rd.mem M3) (aG OpRow.cells hx) rfl rfl rfl) (jP rfl rfl rfl (eF rfl rfl rfl (bS rfl rfl rfl (bP (i) aKo rfl rfl rfl ((hl.rd.mem M3).below_len (aG OpRow.cells hx)) ((hl.rd.mem M3).someK (aG OpRow.cells hx))) (bS rfl rfl rfl (bB 14 aJj (hl.rd.mem M3) (Nat.lt_of_le_of_lt (Nat.zero_le _) ((hl.rd.mem M3).below_len (aG OpRow.cells hx))) rfl) ?_))))
  refine bS rfl rfl rfl (dY (o := 14) (.slice _ _ _) vJ (hl.rd.mem M3) (aG OpRow.cells hx) rfl rfl) (aV rfl rfl rfl (fun _ => cC [(0, .int _ _), (1, .agg (List.toArray _)), (2, .int _ _), (3, .agg (List.toArray _)), (4, .slice _ _ _)] _ xR rfl rfl) (dT [true, true, true, true, true, true, true, true, true, true, true, true, true, true, true] rfl (by kernel_rfl) ?_))
  refine cT [.agg (List.toArray _)] [x.cells] rfl bDe M3 rfl rfl rfl rfl (dG rfl) (by decide) (fun b4 w4 M4 => ?_)
  refine aB (aC ⟨dU, ?_⟩)
  refine dT [] rfl (by kernel_rfl) (dJ 0 [x.cells] bDe M4 rfl rfl rfl rfl rfl hq rfl (by simp [OpRow.cells, fP, aF, Go.Bil.one]) (dW.ofMem 1 M4 rfl) (by omega) (fun A5 c5 e5 w5 M5 hR5 => ?_))
  refine aB (aC ⟨dU, ?_⟩)
  refine aV rfl rfl rfl (fun _ => aJ (.slice _ _ _) rfl) (bX (cV (aC (aA (aP rfl rfl (wq (aY rfl rfl (by omega) (by omega)) rfl ?_))))))
  refine bI rfl rfl (aB ?_)
  refine cG (i + 1, ⟨A5, q.n + 1, c5, e5⟩) (bA rfl (bA rfl eB)) (cN rfl (cN rfl gV)) ?_ ?_
  ·exact ⟨⟨by omega, by rw [cP hx, List.map_append]; exact hR5⟩, M5.keep [true]⟩
  ·(show n - (i + 1) < n - i; omega)
 ·have hin : i = n := by omega
  rw [hin, List.take_of_length_le (by omega)] at hq
  refine cX (dF (dK (eS (aC (aE (aA (dO rfl rfl ?_)))))))
  refine eM rfl rfl (aB (aC (aO (cD (.slice _ _ _) rfl ?_))))
  exact ⟨q, rfl, hq, hM2⟩
theorem bQs : ∃ fs, OpT Tryz.prog 4 46 3 39 35 37 31 5 1 fs := ⟨_, Tryz.underlying46, by kernel_rfl, by kernel_rfl, by kernel_rfl, by kernel_rfl, by kernel_rfl, by kernel_rfl, by kernel_rfl, by kernel_rfl, by kernel_rfl, by kernel_rfl, by kernel_rfl, by kernel_rfl, gL⟩
set_option maxHeartbeats 8000000 in
theorem aNa (w : World) (F : Rd w 2 (some ⟨0, 0, none⟩) 1 [[.int .u32 73856093, .int .u32 19349663]]) (N : Rd w 4 (some ⟨3, 0, none⟩) 1 [eI jO]) (b : Nat) (r : StV) (vs : List Body) (hW : dB 39 r vs) (hO : Own [(some b, bc [.slice r.A r.n r.c, .map r.p] 107), r.er, r.em] w) (hdF : 0 < 1 → ∀ q off, (some ⟨0, 0, none⟩ : Option Addr) = some ⟨q, off, none⟩ → q ∉ cE [(some b, bc [.slice r.A r.n r.c, .map r.p] 107), r.er, r.em]) (hdN : 0 < 1 → ∀ q off, (some ⟨3, 0, none⟩ : Option Addr) = some ⟨q, off, none⟩ → q ∉ cE [(some b, bc [.slice r.A r.n r.c, .map r.p] 107), r.er, r.em]) :
  Calls Tryz.prog 53 #[.pointer (some ⟨b, 0, none⟩)] w (fun ex w' => ∃ v, ex = .returned v ∧ (fun v w' => ∃ (r' : StV) (t : Nat), v = .agg [.int .i64 (t : Int), .int .i64 ((kL vs).length : Int), .bool (sJ vs)].toArray ∧ (kL vs).length ≤ t ∧ 2 * t ≤ vs.length * (vs.length - 1) ∧ dB 39 r' (pU vs) ∧ Mem w (cE [(some b, bc [.slice r.A r.n r.c, .map r.p] 107), r.er, r.em]) [(some b, bc [.slice r'.A r'.n r'.c, .map r'.p] 107), r'.er, r'.em] w') v w') := by
 have hW' := hW
 obtain ⟨hG, m, hs, hR⟩ := hW
 have hvl := hG.len
 refine aI #[.cell 2 58] 18 Tryz.func53 rfl Tryz.results53 Tryz.ntmps53 rfl ?_
 have M0 := hO.mem
 refine aE (aA (aS wA M0 rfl rfl (fun b1 w1 M1 => (aB (aC (aE (aE (aA (wq (aH (.pointer _) rfl) rfl (wq (gD false Tryz.underlying25 rfl rfl) rfl (aB (aC ?_))))))))))))
 refine cJ rfl (aL (aC (aE (aA (wq (aH (.pointer _) rfl) rfl (bY aUp rfl rfl (rF _ _ r _ hW' (M1.ownSeg 0 3)) ?_))))))
 rintro v2 w2 ⟨q, rfl, hq, hM2⟩
 have M2 : Mem _ _ [_, _, _, _, _] _ := M1.seg 0 3 hM2
 have hqn : vs.length = q.n := by simpa using hq.1
 refine bY bJa rfl rfl (aHz _ (F.memY M2 hdF) (N.memY M2 hdN) _ _ _ vs (hq.rd M2 (bH (i := 4) rfl)) hG.okb hG.s (by omega)) ?_
 rintro v3 w3 ⟨ra, ta, rfl, h1ta, h2ta, hra, hM3⟩
 have M3 : Mem _ _ [_, _, _, _, _, _] _ := M2.call0 hM3
 refine wq (aH (.tuple (List.toArray _)) rfl) rfl (wq (bN (.slice _ _ _) rfl rfl) rfl (wq (bN (.agg (List.toArray _)) rfl rfl) rfl (aS wA M3 rfl rfl (fun b4 w4 M4 => (eM rfl rfl (bG 6 _ qK M4 rfl rfl rfl rfl rfl (aR rfl) rfl (fun w5 M5 => ?_)))))))
 refine aB (aC (aE (aA (wq (aH (.pointer _) rfl) rfl (dO rfl rfl (bY bCo rfl rfl (qD _ _ r _ hW' (M5.ownSeg 0 3) ra.A ra.n ra.c (pU vs) (hra.rd M5 (bH (i := 5) rfl)) hG.step (hra.awayS M5 0 3 5 rfl rfl)) ?_))))))
 rintro v6 w6 ⟨r2, rfl, hw2, hM6⟩
 have M6 : Mem _ _ [_, _, _, _, _, _, _] _ := M5.seg 0 3 hM6
 refine aB (aC (aE (aA (wq (aX 6 qK M6 rfl rfl rfl) rfl (bG 3 _ qK M6 rfl rfl rfl rfl rfl (aR rfl) rfl (fun w7 M7 => (aB (aC (aO (eL 3 qK M7 rfl rfl rfl ?_))))))))))
 exact ⟨r2, ta, rfl, h1ta, h2ta, hw2, M7.keep [true, true, true, false, false, false, false]⟩
set_option maxHeartbeats 4000000 in
theorem wV (w : World) (key inv x : Int) :
  Calls Tryz.prog 52 #[.int .u32 key, .int .i32 inv, .int .i32 x] w (fun ex w' => ∃ v, ex = .returned v ∧ (fun v w' => v = (.agg (aF (⟨key, 65536, 0, 0, inv, 0, x, 0, 0, 0⟩ : Body)).toArray) ∧ Below w.heap.size w w') v w') := by
 refine aI #[.cell 6 39] 12 Tryz.func52 rfl Tryz.results52 Tryz.ntmps52 rfl ?_
 have M0 := Mem.refl w
 refine aE (aA (aS fN M0 rfl rfl (fun b1 w1 M1 => (aB (aC (aE (aA (aP rfl rfl (aP rfl rfl (aP rfl rfl ?_))))))))))
 refine wq (cC [(0, .int _ _)] _ eK rfl rfl) rfl (wq (cC [(0, .int _ _), (1, .int _ _), (3, .int _ _), (5, .agg (List.toArray _))] _ sT rfl rfl) rfl (bG 0 _ bO M1 rfl rfl rfl rfl rfl (aR rfl) rfl (fun w2 M2 => (aB (aC (aO (eL 0 bO M2 rfl rfl rfl ?_)))))))
 exact ⟨rfl, M2.below⟩
set_option maxHeartbeats 100000000 in
theorem bRr (w : World) (F : Rd w 2 (some ⟨0, 0, none⟩) 1 [[.int .u32 73856093, .int .u32 19349663]]) (N : Rd w 4 (some ⟨3, 0, none⟩) 1 [eI jO]) :
  Calls Tryz.prog 16 #[] w (fun ex w' => ∃ v, ex = .returned v ∧ (fun v w' => v = .bool true ∧ Below w.heap.size w w') v w') := by
 refine aI #[.tmp 0] 79 Tryz.func16 rfl Tryz.results16 Tryz.ntmps16 rfl ?_
 have M0 := Mem.refl w
 refine aE (aA (wq (aJ (.bool false) rfl) rfl (aB (aC (aE (aA (bY aTm rfl rfl (wV _ 2 65536 0) ?_)))))))
 rintro v1 w1 ⟨rfl, hb1⟩
 have M1 := M0.callB hb1
 refine wq (cC [(0, .int _ _), (1, .agg (List.toArray _))] _ xR rfl rfl) rfl (aK 8 (.agg (OpRow.cells (opA tB2)).toArray) rfl (bY aTm rfl rfl (wV _ 1 0 100000) ?_))
 rintro v2 w2 ⟨rfl, hb2⟩
 have M2 := M1.callB hb2
 refine wq (cC [(0, .int _ _), (1, .agg (List.toArray _))] _ xR rfl rfl) rfl (aK 10 (.agg (OpRow.cells (opA pD)).toArray) rfl (bY aTm rfl rfl (wV _ 1 0 0) ?_))
 rintro v3 w3 ⟨rfl, hb3⟩
 have M3 := M2.callB hb3
 refine wq (cC [(0, .int _ _), (1, .agg (List.toArray _))] _ xR rfl rfl) rfl (aK 12 (.agg (OpRow.cells (opA tB3)).toArray) rfl (cT [.agg (List.toArray _), .agg (List.toArray _), .agg (List.toArray _)] (aFt.map OpRow.cells) rfl bDe M3 rfl rfl rfl rfl (dG rfl) (by decide) (fun b4 w4 M4 => ?_)))
 have hlit13 := kH (T := 41) (sz := 15) (b := b4) (nn := 3) (aFt.map OpRow.cells) (bGd _) rfl (by decide)
 refine bY bJr rfl rfl (wM _ (F.mem M4) (N.mem M4) _ 3 3 aFt ⟨(hlit13.rd M4 (bH (i := 0) rfl)), aXe _⟩ (fun x hx => by rw [bOd x hx]; decide) (by decide)) ?_
 rintro v5 w5 ⟨wb, r0, rfl, hr0, hM5⟩
 have M5 : Mem _ _ [_, _, _, _] _ := M4.call0 hM5
 rw [bQn] at hr0
 refine wq (aJ (.pointer _) rfl) rfl (aB (aC (aE (aA (wq (aH (.pointer _) rfl) rfl (bY bJo rfl rfl (aNa _ (F.mem M5) (N.mem M5) _ r0 _ hr0 (M5.ownSeg 1 3) (M5.away 1 3 F (by simp)) (M5.away 1 3 N (by simp))) ?_))))))
 rintro v6 w6 ⟨r1, ts, rfl, h1ts, h2ts, hr1, hM6⟩
 have M6 : Mem _ _ [_, _, _, _] _ := M5.seg 1 3 hM6
 rw [bPw] at hr1
 rw [aKf] at h1ts
 obtain rfl : ts = 1 := by have h : 2 * ts ≤ 2 := h2ts; have g : 1 ≤ ts := h1ts; omega
 refine aK 16 (.agg [.int .i64 1, .int .i64 1, .bool false].toArray) (congrArg Value.agg (by rw [aKf, bRe]; rfl)) (aS wA M6 rfl rfl (fun b7 w7 M7 => (bG 4 _ qK M7 rfl rfl rfl rfl rfl (aR rfl) rfl (fun w8 M8 => (aB (aC (aE (aA (wq (aH (.pointer _) rfl) rfl (bY aUp rfl rfl (rF _ _ r1 _ hr1 (M8.ownSeg 1 3)) ?_))))))))))
 rintro v9 w9 ⟨qv, rfl, hqv, hM9⟩
 have M9 : Mem _ _ [_, _, _, _, _, _] _ := M8.seg 1 3 hM9
 have hqv2 : 2 = qv.n := by simpa using hqv.1
 refine eM rfl rfl (aB (aC (aE (aE (aA (dO rfl rfl (wq (dC Tryz.underlying29 rfl) rfl (cZ rfl rfl rfl rfl (pE 21 rfl (by omega) ?_)))))))))
 refine aB (aC (cJ rfl (aL (aC (aE (aA (wq (aH (.pointer _) rfl) rfl (bY bBa rfl rfl (pB _ _ r1 _ hr1 (M9.ownSeg 1 3)) ?_))))))))
 rintro v10 w10 ⟨sb, rfl, hsb, hM10⟩
 have M10 : Mem _ _ [_, _, _, _, _, _, _] _ := M9.seg 1 3 hM10
 have hsn : 88 = sb.n := by have h := hsb.1; rwa [List.length_map, aMo] at h
 refine eM rfl rfl (aB (aC (aE (aA (dO rfl rfl (bY bJy rfl rfl (xH _ sb.A sb.n sb.c (oG [pD, tB4]) (hsb.rd M10 (bH (i := 6) rfl)) (aYj _) hsb.slice (by omega)) ?_))))))
 rintro v11 w11 ⟨q, rfl, hq, hM11⟩
 have M11 : Mem _ _ [_, _, _, _, _, _, _, _] _ := M10.call0 hM11
 have hsg := aXs hr1.1
 rw [hsg] at hq
 refine wq (aH (.tuple (List.toArray _)) rfl) rfl (wq (bN (.slice _ _ _) rfl rfl) rfl (wq (bN (.int _ _) rfl rfl) rfl (aK 28 (.int .i64 0) (iE (by rw [hsg])) (eM rfl rfl (bI rfl rfl ?_)))))
 refine aB (aC (aE (bQ [(0, 0), (1, 1), (2, 0), (3, 0), (4, 0), (5, 1), (6, 0), (7, 0), (8, 0), (9, 0), (10, 1), (11, 0), (12, 0), (13, 0), (14, 0), (15, 1), (16, 1), (17, 2), (18, 0), (19, 0), (20, 0), (21, 0), (22, 1), (23, 1), (24, 1), (25, 0), (26, 0), (27, 0), (28, 0), (29, 0), (30, 1), (31, 1), (32, 1), (33, 0), (34, 0), (35, 0), (36, 0), (37, 0), (38, 0), (39, 0), (40, 0), (41, 0), (42, 0), (43, 0), (44, 2), (45, 0), (46, 0), (47, 0), (48, 0), (49, 0), (50, 0)] mixed rfl (by kernel_rfl) (fun w12 hb12 hh12 => ?_))))
 have M12 := M11.drew hb12 hh12
 refine aV rfl rfl rfl (fun _ => aD 1 aKl rfl) (bS rfl rfl rfl (aM 4 (.int _ _) iJ M12 rfl rfl rfl) (aV rfl rfl rfl (fun _ => bZ (.bool (decide _)) rfl rfl rfl) (aV rfl rfl rfl (fun _ => aH (.bool true) rfl) (aV rfl rfl rfl (fun _ => aD 0 aUn rfl) (bS rfl rfl rfl (aM 4 (.int _ _) iJ M12 rfl rfl rfl) ?_)))))
 refine aV rfl rfl rfl (fun _ => bZ (.bool (decide _)) rfl rfl rfl) (aV rfl rfl rfl (fun _ => bR true (.bool true) rfl rfl) (aV rfl rfl rfl (fun _ => aH (.bool true) rfl) (aV rfl rfl rfl (fun _ => aD 2 wW rfl) (bS rfl rfl rfl (aM 4 (.bool false) pC M12 rfl rfl rfl) (aV rfl rfl rfl (fun _ => gG true rfl rfl) ?_)))))
 refine aV rfl rfl rfl (fun _ => bR true (.bool true) rfl rfl) (aV rfl rfl rfl (fun _ => aH (.bool true) rfl) (jP rfl rfl rfl (bS rfl rfl rfl (bP (0) dH rfl rfl rfl ((hqv.rd M12 (bH (i := 5) rfl)).below_len ((show ([pD, tB4].map aF)[0]? = some (aF pD) from rfl))) ((hqv.rd M12 (bH (i := 5) rfl)).someK ((show ([pD, tB4].map aF)[0]? = some (aF pD) from rfl)))) ?_)))
 refine bS rfl rfl rfl (dN _ bO (hqv.rd M12 (bH (i := 5) rfl)) ((show ([pD, tB4].map aF)[0]? = some (aF pD) from rfl)) rfl) (dT [false, false, true, true, true] rfl (by kernel_rfl) (bY aTm rfl rfl (wV _ 1 0 100000) ?_))
 rintro v13 w13 ⟨rfl, hb13⟩
 have M13 := M12.callB hb13
 refine aB (aC ⟨(dZ (bM rfl (dN _ bO (hqv.rd M13 (bH (i := 5) rfl)) ((show ([pD, tB4].map aF)[0]? = some (aF pD) from rfl)) rfl)) (dZ (bM rfl (bP (0) dH rfl rfl rfl ((hqv.rd M13 (bH (i := 5) rfl)).below_len ((show ([pD, tB4].map aF)[0]? = some (aF pD) from rfl))) ((hqv.rd M13 (bH (i := 5) rfl)).someK ((show ([pD, tB4].map aF)[0]? = some (aF pD) from rfl))))) dU)), ?_⟩)
 refine aV rfl rfl rfl (fun _ => bFb (bCh pD pD) rfl rfl) (dX 47 (.bool true) (bT rfl).symm (aV rfl rfl rfl (fun _ => bR true (.bool true) rfl rfl) (aV rfl rfl rfl (fun _ => aH (.bool true) rfl) (jP rfl rfl rfl (bS rfl rfl rfl (bP (1) dH rfl rfl rfl ((hqv.rd M13 (bH (i := 5) rfl)).below_len ((show ([pD, tB4].map aF)[1]? = some (aF tB4) from rfl))) ((hqv.rd M13 (bH (i := 5) rfl)).someK ((show ([pD, tB4].map aF)[1]? = some (aF tB4) from rfl)))) ?_)))))
 refine bS rfl rfl rfl (bB 8 dV (hqv.rd M13 (bH (i := 5) rfl)) (Nat.lt_of_le_of_lt (Nat.zero_le _) ((hqv.rd M13 (bH (i := 5) rfl)).below_len ((show ([pD, tB4].map aF)[1]? = some (aF tB4) from rfl)))) rfl) (bS rfl rfl rfl (rW (o := 8) _ bL (hqv.rd M13 (bH (i := 5) rfl)) ((show ([pD, tB4].map aF)[1]? = some (aF tB4) from rfl)) rfl rfl rfl) ?_)
 refine aV rfl rfl rfl (fun _ => cC [(1, .int _ _)] _ eK rfl rfl) (aV rfl rfl rfl (fun _ => bFb (bKg _ _ _ _) rfl rfl) (dX 55 (.bool true) (bT (by decide)).symm (aV rfl rfl rfl (fun _ => bR true (.bool true) rfl rfl) (aV rfl rfl rfl (fun _ => aH (.bool true) rfl) (jP rfl rfl rfl ?_)))))
 refine bS rfl rfl rfl (bP (1) dH rfl rfl rfl ((hqv.rd M13 (bH (i := 5) rfl)).below_len ((show ([pD, tB4].map aF)[1]? = some (aF tB4) from rfl))) ((hqv.rd M13 (bH (i := 5) rfl)).someK ((show ([pD, tB4].map aF)[1]? = some (aF tB4) from rfl)))) (bS rfl rfl rfl (bB 6 fI (hqv.rd M13 (bH (i := 5) rfl)) (Nat.lt_of_le_of_lt (Nat.zero_le _) ((hqv.rd M13 (bH (i := 5) rfl)).below_len ((show ([pD, tB4].map aF)[1]? = some (aF tB4) from rfl)))) rfl) ?_)
 refine bS rfl rfl rfl (rW (o := 6) _ bL (hqv.rd M13 (bH (i := 5) rfl)) ((show ([pD, tB4].map aF)[1]? = some (aF tB4) from rfl)) rfl rfl rfl) (aV rfl rfl rfl (fun _ => cC [(0, .int _ _), (1, .int _ _)] _ eK rfl rfl) (aV rfl rfl rfl (fun _ => bFb (bKg _ _ _ _) rfl rfl) ?_))
 refine dX 63 (.bool true) (bT (by decide)).symm (aV rfl rfl rfl (fun _ => bR true (.bool true) rfl rfl) (aV rfl rfl rfl (fun _ => aH (.bool true) rfl) (jP rfl rfl rfl (aV rfl rfl rfl (fun _ => dC Tryz.underlying31 rfl) (aV rfl rfl rfl (fun _ => bZ (.bool (decide _)) rfl rfl rfl) ?_)))))
 refine dX 68 (.bool true) (bT (by omega)).symm (aV rfl rfl rfl (fun _ => bR true (.bool true) rfl rfl) (aV rfl rfl rfl (fun _ => aH (.bool true) rfl) (jP rfl rfl rfl (jP rfl rfl rfl (dT [true, true, true, true, true, true, true, true] rfl (by kernel_rfl) ?_)))))
 refine bY bQv rfl rfl (aQe _ _ _ _ _ (hq.rd M13 (bH (i := 7) rfl)) _ _ _ _ (hqv.rd M13 (bH (i := 5) rfl))) ?_
 rintro v14 w14 ⟨rfl, hb14⟩
 have M14 := M13.callB hb14
 refine aB (aC ⟨dU, ?_⟩)
 refine dX 73 (.bool true) (bT rfl).symm (aV rfl rfl rfl (fun _ => bR true (.bool true) rfl rfl) (aV rfl rfl rfl (fun _ => aH (.bool true) rfl) (eF rfl rfl rfl (aV rfl rfl rfl (fun _ => bZ (.bool (decide _)) rfl rfl rfl) (aV rfl rfl rfl (fun _ => bR true (.bool true) rfl rfl) ?_)))))
 refine aV rfl rfl rfl (fun _ => aJ (.bool true) rfl) (bX (aC (aO (cD (.bool true) rfl ?_))))
 exact ⟨rfl, M14.below⟩
end Go.Proofs.YtaoaknafiegfoaaGreatDoor
