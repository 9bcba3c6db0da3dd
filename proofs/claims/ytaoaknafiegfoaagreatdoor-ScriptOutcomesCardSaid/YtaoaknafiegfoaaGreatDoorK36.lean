/- Part of the proof of the laws of this seat: P22, W22a, W22b, W22c, R22a, D22, K23, S23, E23, R23, R23b, Aw23, Op23. No conditions. -/
import Derived.Test.YtaoaknafiegfoaaGreatDoorK2
import Derived.Test.YtaoaknafiegfoaaGreatDoorK5
import Derived.Test.YtaoaknafiegfoaaGreatDoorK32
import Derived.Test.YtaoaknafiegfoaaGreatDoorK28
import Derived.Test.YtaoaknafiegfoaaGreatDoorK35
import Derived.Test.YtaoaknafiegfoaaGreatDoorK33
import Derived.Test.YtaoaknafiegfoaaGreatDoorK23
import Derived.Test.YtaoaknafiegfoaaGreatDoorK34
import Derived.Test.YtaoaknafiegfoaaGreatDoorK18
import Derived.Test.YtaoaknafiegfoaaGreatDoorK3
set_option linter.unusedVariables false
set_option linter.unusedSimpArgs false
set_option linter.unnecessarySimpa false
namespace Go.Proofs.YtaoaknafiegfoaaGreatDoor
open Go.Bil
open Go.RowKit (Below)
open Go.Proofs
set_option maxHeartbeats 8000000 in
theorem aYp (w : World) (b : Body) (hb : Okb b) (j : Int × Int) (hj1 : -2147483648 ≤ j.1 ∧ j.1 ≤ 2147483647) (hj2 : -2147483648 ≤ j.2 ∧ j.2 ≤ 2147483647) :
  Calls Tryz.prog 124 #[(.agg (aF b).toArray), .agg [.int .i32 j.1, .int .i32 j.2].toArray] w (fun ex w' => ∃ v, ex = .returned v ∧ (fun v w' => (∃ g : Bool, v = .tuple #[(.agg (aF (lY b j)).toArray), .bool g]) ∧ Below w.heap.size w w') v w') := by
 have hv := hb.v
 have hm := hb.m
 have hp1 := bEs hj1 hm
 have hp2 := bEs hj2 hm
 refine aH #[.cell 4 39, .tmp 5] 45 Tryz.func124 rfl Tryz.results124 Tryz.ntmps124 rfl ?_
 have M0 := Mem.refl w
 refine aE (aA (bJ (.agg (List.toArray _)) M0 rfl rfl rfl (fun b1 w1 M1 => (bJ (.agg (List.toArray _)) M1 rfl rfl rfl (fun b2 w2 M2 => (aU fN M2 rfl rfl (fun b3 w3 M3 => (wq (aJ (.bool false) rfl) rfl (aB (aC (aE (aA ?_))))))))))))
 refine aU aTa M3 rfl rfl (fun b4 w4 M4 => (dB 3 (.bool false) pD M4 rfl rfl rfl rfl rfl rfl (fun w5 M5 => (aB (aC (aE (aA (wq (aD 8 dV rfl) rfl (wq (aD 0 cT rfl) rfl (wq (aM 0 (.int _ _) aS M5 rfl rfl rfl) rfl ?_))))))))))
 refine wq (aZ dP Tryz.underlying2 rfl (fG _ (by omega) (by omega))) rfl (wq (aD 0 cT rfl) rfl (wq (aM 1 (.int _ _) aS M5 rfl rfl rfl) rfl (wq (aZ dP Tryz.underlying2 rfl (fG _ (by omega) (by omega))) rfl (wq (aD 4 eF rfl) rfl (wq (aM 0 (.int _ _) aS M5 rfl rfl rfl) rfl ?_)))))
 refine wq (aZ dP Tryz.underlying2 rfl (fG _ (by omega) (by omega))) rfl (wq (fA rfl rfl (by omega) (by omega)) rfl (wq (jQ rfl rfl (by decide)) rfl (aK 20 (.int .i64 (j.1 * b.mass / 65536)) (iE (pG _)) (wq (aY rfl rfl (by omega) (by omega)) rfl (bH rfl rfl ?_)))))
 refine aB (aC (aE (aA (wq (aD 8 dV rfl) rfl (wq (aD 1 cO rfl) rfl (wq (aM 0 (.int _ _) aS M5 rfl rfl rfl) rfl (wq (aZ dP Tryz.underlying2 rfl (fG _ (by omega) (by omega))) rfl (wq (aD 1 cO rfl) rfl ?_))))))))
 refine wq (aM 1 (.int _ _) aS M5 rfl rfl rfl) rfl (wq (aZ dP Tryz.underlying2 rfl (fG _ (by omega) (by omega))) rfl (wq (aD 4 eF rfl) rfl (wq (aM 0 (.int _ _) aS M5 rfl rfl rfl) rfl (wq (aZ dP Tryz.underlying2 rfl (fG _ (by omega) (by omega))) rfl (wq (fA rfl rfl (by omega) (by omega)) rfl ?_)))))
 refine wq (jQ rfl rfl (by decide)) rfl (aK 33 (.int .i64 (j.2 * b.mass / 65536)) (iE (pG _)) (wq (aY rfl rfl (by omega) (by omega)) rfl (bH rfl rfl (aB (aC (aE (aA (aP rfl rfl ?_))))))))
 refine cR [.pointer _] [[.pointer (some ⟨b4, 0, none⟩)]] rfl aHe M5 rfl rfl rfl rfl (dD rfl) (by decide) (fun b6 w6 M6 => ?_)
 have hlit36 := kE (T := 174) (sz := 1) (b := b6) (nn := 1) [[.pointer (some ⟨b4, 0, none⟩)]] (by simp) rfl (by decide)
 refine bY aFm rfl rfl (nF _ (b.vx + j.1 * b.mass / 65536) 16777216 ⟨by decide, by decide⟩ b4 _ _ 1 (hlit36.rd M6 (bB (i := 4) rfl)) (hlit36.awayB M6 4 3 rfl rfl rfl) (M6.ownSeg 3 1)) ?_
 rintro v7 w7 ⟨rfl, hM7⟩
 have M7 : Mem _ _ [_, _, _, _, _] _ := M6.seg 3 1 hM7
 refine aP rfl rfl (cR [.pointer _] [[.pointer (some ⟨b4, 0, none⟩)]] rfl aHe M7 rfl rfl rfl rfl (dD rfl) (by decide) (fun b8 w8 M8 => ?_))
 have hlit39 := kE (T := 174) (sz := 1) (b := b8) (nn := 1) [[.pointer (some ⟨b4, 0, none⟩)]] (by simp) rfl (by decide)
 refine bY aFm rfl rfl (nF _ (b.vy + j.2 * b.mass / 65536) 16777216 ⟨by decide, by decide⟩ b4 _ _ 1 (hlit39.rd M8 (bB (i := 5) rfl)) (hlit39.awayB M8 5 3 rfl rfl rfl) (M8.ownSeg 3 1)) ?_
 rintro v9 w9 ⟨rfl, hM9⟩
 have M9 : Mem _ _ [_, _, _, _, _, _] _ := M8.seg 3 1 hM9
 refine wq (cG [(0, .int _ _), (1, .int _ _)] _ eV rfl rfl) rfl (wq (aD 8 dV rfl) rfl (sS 0 _ bK M9 rfl rfl rfl rfl rfl (aR rfl) (Nat.le_of_ble_eq_true rfl) (fun w10 M10 => (aB (aC (aE (bQ [(0, 1), (1, 1), (2, 2), (3, 0)] mixed rfl (by kernel_rfl) (fun w11 hb11 hh11 => ?_))))))))
 have M11 := M10.drew hb11 hh11
 refine bS rfl rfl rfl (aX 0 bO M11 rfl rfl rfl) (bS rfl rfl rfl (aM 3 (.bool _) pD M11 rfl rfl rfl) (dU [false, true] rfl (by kernel_rfl) (bI 2 _ bO M11 rfl rfl rfl rfl rfl (aR rfl) rfl (fun w12 M12 => ?_))))
 refine aB (aC ⟨(eB (bM rfl (aM 3 (.bool _) pD M12 rfl rfl rfl)) dT), ?_⟩)
 refine aW rfl rfl rfl (fun _ => aJ (.bool _) rfl) (bX (aC (aO (tJ (v2 := .bool _) 2 bO M12 rfl rfl rfl rfl ?_))))
 exact ⟨⟨_, rfl⟩, M12.below⟩
set_option maxHeartbeats 8000000 in
theorem aEo (w : World) (b : Body) (hb : Okb b) (j : Int × Int) (hj1 : -2147483648 ≤ j.1 ∧ j.1 ≤ 2147483647) (hj2 : -2147483648 ≤ j.2 ∧ j.2 ≤ 2147483647) :
  Calls Tryz.prog 127 #[(.agg (aF b).toArray), .agg [.int .i32 j.1, .int .i32 j.2].toArray] w (fun ex w' => ∃ v, ex = .returned v ∧ (fun v w' => (∃ g : Bool, v = .tuple #[(.agg (aF (lY b j)).toArray), .bool g]) ∧ Below w.heap.size w w') v w') := by
 have hv := hb.v
 have hm := hb.m
 have hp1 := bEs hj1 hm
 have hp2 := bEs hj2 hm
 have hlx := eP (b.vx + j.1 * b.mass / 65536) (l := 16777216) (by decide)
 have hly := eP (b.vy + j.2 * b.mass / 65536) (l := 16777216) (by decide)
 refine aH #[.cell 4 39, .tmp 5] 57 Tryz.func127 rfl Tryz.results127 Tryz.ntmps127 rfl ?_
 have M0 := Mem.refl w
 refine aE (aA (bJ (.agg (List.toArray _)) M0 rfl rfl rfl (fun b1 w1 M1 => (bJ (.agg (List.toArray _)) M1 rfl rfl rfl (fun b2 w2 M2 => (aU fN M2 rfl rfl (fun b3 w3 M3 => (wq (aJ (.bool false) rfl) rfl (aB (aC (aE ?_)))))))))))
 refine bQ [(0, 0), (1, 0), (2, 1), (3, 0), (4, 0), (5, 1), (6, 0), (7, 0), (8, 1), (9, 0), (10, 0), (11, 2), (12, 0), (13, 0)] mixed rfl (by kernel_rfl) (fun w4 hb4 hh4 => ?_)
 have M4 := M3.drew hb4 hh4
 refine aW rfl rfl rfl (fun _ => aD 8 dV rfl) (aW rfl rfl rfl (fun _ => aD 0 cT rfl) (bS rfl rfl rfl (aM 0 (.int _ _) aS M4 rfl rfl rfl) (aW rfl rfl rfl (fun _ => aZ dP Tryz.underlying2 rfl (fG _ (by omega) (by omega))) (aW rfl rfl rfl (fun _ => aD 0 cT rfl) ?_))))
 refine bS rfl rfl rfl (aM 1 (.int _ _) aS M4 rfl rfl rfl) (aW rfl rfl rfl (fun _ => aZ dP Tryz.underlying2 rfl (fG _ (by omega) (by omega))) (aW rfl rfl rfl (fun _ => aD 4 eF rfl) (bS rfl rfl rfl (aM 0 (.int _ _) aS M4 rfl rfl rfl) (aW rfl rfl rfl (fun _ => aZ dP Tryz.underlying2 rfl (fG _ (by omega) (by omega))) ?_))))
 refine aW rfl rfl rfl (fun _ => fA rfl rfl (by omega) (by omega)) (dU [true, true, false] rfl (by kernel_rfl) (bY kW rfl rfl (fB _ (j.1 * b.mass) 65536 (by decide) (by omega) (by omega)) ?_))
 rintro v5 w5 ⟨rfl, hb5⟩
 have M5 := M4.callB hb5
 refine aB (aC ⟨(eB (bM rfl (aM 0 (.int _ _) aS M5 rfl rfl rfl)) dT), ?_⟩)
 refine aW rfl rfl rfl (fun _ => aY rfl rfl (by omega) (by omega)) (mG rfl rfl rfl (bX (aC (aE (bQ [(0, 0), (1, 0), (2, 1), (3, 0), (4, 0), (5, 1), (6, 0), (7, 0), (8, 1), (9, 0), (10, 0), (11, 2), (12, 0), (13, 0)] mixed rfl (by kernel_rfl) (fun w6 hb6 hh6 => ?_))))))
 have M6 := M5.drew hb6 hh6
 refine aW rfl rfl rfl (fun _ => aD 8 dV rfl) (aW rfl rfl rfl (fun _ => aD 1 cO rfl) (bS rfl rfl rfl (aM 0 (.int _ _) aS M6 rfl rfl rfl) (aW rfl rfl rfl (fun _ => aZ dP Tryz.underlying2 rfl (fG _ (by omega) (by omega))) (aW rfl rfl rfl (fun _ => aD 1 cO rfl) ?_))))
 refine bS rfl rfl rfl (aM 1 (.int _ _) aS M6 rfl rfl rfl) (aW rfl rfl rfl (fun _ => aZ dP Tryz.underlying2 rfl (fG _ (by omega) (by omega))) (aW rfl rfl rfl (fun _ => aD 4 eF rfl) (bS rfl rfl rfl (aM 0 (.int _ _) aS M6 rfl rfl rfl) (aW rfl rfl rfl (fun _ => aZ dP Tryz.underlying2 rfl (fG _ (by omega) (by omega))) ?_))))
 refine aW rfl rfl rfl (fun _ => fA rfl rfl (by omega) (by omega)) (dU [true, true, false] rfl (by kernel_rfl) (bY kW rfl rfl (fB _ (j.2 * b.mass) 65536 (by decide) (by omega) (by omega)) ?_))
 rintro v7 w7 ⟨rfl, hb7⟩
 have M7 := M6.callB hb7
 refine aB (aC ⟨(eB (bM rfl (aM 0 (.int _ _) aS M7 rfl rfl rfl)) dT), ?_⟩)
 refine aW rfl rfl rfl (fun _ => aY rfl rfl (by omega) (by omega)) (mG rfl rfl rfl (bX (aC (aE (aA (aP rfl rfl (bY wJ rfl rfl (kF _ (b.vx + j.1 * b.mass / 65536) 16777216 ⟨by decide, by decide⟩) ?_)))))))
 rintro v8 w8 ⟨rfl, hb8⟩
 have M8 := M7.callB hb8
 refine wq (aZ lX Tryz.underlying21 rfl (iY _ (by omega) (by omega))) rfl (aP rfl rfl (bY wJ rfl rfl (kF _ (b.vy + j.2 * b.mass / 65536) 16777216 ⟨by decide, by decide⟩) ?_))
 rintro v9 w9 ⟨rfl, hb9⟩
 have M9 := M8.callB hb9
 refine wq (aZ lX Tryz.underlying21 rfl (iY _ (by omega) (by omega))) rfl (wq (cG [(0, .int _ _), (1, .int _ _)] _ eV rfl rfl) rfl (wq (aD 8 dV rfl) rfl (sS 0 _ bK M9 rfl rfl rfl rfl rfl (aR rfl) (Nat.le_of_ble_eq_true rfl) (fun w10 M10 => (aB (aC (aE (bQ [(0, 1), (1, 0), (2, 0), (3, 1), (4, 0), (5, 0), (6, 0), (7, 0), (8, 0), (9, 0), (10, 1), (11, 0), (12, 0), (13, 0), (14, 0), (15, 2), (16, 0)] mixed rfl (by kernel_rfl) (fun w11 hb11 hh11 => ?_)))))))))
 have M11 := M10.drew hb11 hh11
 refine bS rfl rfl rfl (aX 0 bO M11 rfl rfl rfl) (aW rfl rfl rfl (fun _ => aD 8 dV rfl) (aW rfl rfl rfl (fun _ => aD 0 cT rfl) (bS rfl rfl rfl (aM 0 (.int _ _) aS M11 rfl rfl rfl) (aW rfl rfl rfl (fun _ => aZ dP Tryz.underlying2 rfl (fG _ (by omega) (by omega))) ?_))))
 refine eD rfl rfl rfl (aW rfl rfl rfl (fun _ => cB (.bool (decide _)) rfl rfl rfl) (aW rfl rfl rfl (fun _ => aI (.bool (decide _)) rfl) ?_))
 refine aDj 49 rfl (fun g49 => ?_) (fun g49 => ?_)
 ·refine D_s rfl rfl rfl (D_s rfl rfl rfl (zE rfl rfl rfl (D_s rfl rfl rfl (D_s rfl rfl rfl (D_s rfl rfl rfl ?_)))))
  refine aW rfl rfl rfl (fun _ => bR true (.bool true) rfl rfl) (dU [false, true, true] rfl (by kernel_rfl) (bI 2 _ bO M11 rfl rfl rfl rfl rfl (aR rfl) rfl (fun w12 M12 => ?_)))
  refine aB (aC ⟨(eB (.inr ⟨rfl, rfl⟩) dT), ?_⟩)
  refine aW rfl rfl rfl (fun _ => aJ (.bool true) rfl) (bX (aC (aO (tJ (v2 := .bool true) 2 bO M12 rfl rfl rfl rfl ?_))))
  exact ⟨⟨_, rfl⟩, M12.below⟩
 ·refine aW rfl rfl rfl (fun _ => aD 8 dV rfl) (aW rfl rfl rfl (fun _ => aD 1 cO rfl) (bS rfl rfl rfl (aM 0 (.int _ _) aS M11 rfl rfl rfl) (aW rfl rfl rfl (fun _ => aZ dP Tryz.underlying2 rfl (fG _ (by omega) (by omega))) (eD rfl rfl rfl (aW rfl rfl rfl (fun _ => cB (.bool (decide _)) rfl rfl rfl) ?_)))))
  refine aW rfl rfl rfl (fun _ => bR false (.bool (decide _)) rfl rfl) (dU [false, true, true] rfl (by kernel_rfl) (bI 2 _ bO M11 rfl rfl rfl rfl rfl (aR rfl) rfl (fun w13 M13 => ?_)))
  refine aB (aC ⟨(eB (bM rfl (aM 0 (.int _ _) aS M13 rfl rfl rfl)) dT), ?_⟩)
  refine aW rfl rfl rfl (fun _ => aJ (.bool (decide _)) rfl) (bX (aC (aO (tJ (v2 := .bool (decide _)) 2 bO M13 rfl rfl rfl rfl ?_))))
  exact ⟨⟨_, rfl⟩, M13.below⟩
set_option maxHeartbeats 4000000 in
theorem aDn (w : World) (b : Nat) :
  Calls Tryz.prog 60 #[.pointer (some ⟨b, 0, none⟩)] w (fun ex w' => ∃ v, ex = .returned v ∧ (fun v w' => v = .pointer (some ⟨b, 0, none⟩) ∧ Below w.heap.size w w') v w') := by
 refine aH #[.tmp 2] 8 Tryz.func60 rfl Tryz.results60 Tryz.ntmps60 rfl ?_
 have M0 := Mem.refl w
 refine aE (aA (wq (aJ (.pointer _) rfl) rfl (aB (aC (aE (aE (aA (wq (aI (.pointer _) rfl) rfl (wq (gQ false Tryz.underlying25 rfl rfl) rfl (aB (aC ?_)))))))))))
 refine cJ rfl (aL (aC (aE (aA (wq (aI (.pointer _) rfl) rfl (wq (bE rfl) rfl (wq (aD 0 tQ rfl) rfl (wq (aJ (.pointer _) rfl) rfl ?_))))))))
 refine aB (aC (aO (cD (.pointer _) rfl ?_)))
 exact ⟨rfl, M0.below⟩
set_option maxHeartbeats 4000000 in
theorem aVs (w : World) (b : Nat) (r : StV) (vs : List Body) (hW : dF 39 r vs) (hO : Own [(some b, bc [.slice r.A r.n r.c, .map r.p] 107), r.er, r.em] w) (x : Body) (hx : InB x) :
  Calls Tryz.prog 26 #[.pointer (some ⟨b, 0, none⟩), (.agg (aF x).toArray)] w (fun ex w' => ∃ v, ex = .returned v ∧ (fun v w' => ∃ r' : StV, v = .int .i64 (nO vs x).2 ∧ dF 39 r' ((nO vs x).1) ∧ Mem w (cA [(some b, bc [.slice r.A r.n r.c, .map r.p] 107), r.er, r.em]) [(some b, bc [.slice r'.A r'.n r'.c, .map r'.p] 107), r'.er, r'.em] w') v w') := by
 obtain ⟨hG, m, hs, hR⟩ := hW
 refine aH #[.tmp 4] 15 Tryz.func26 rfl Tryz.results26 Tryz.ntmps26 rfl ?_
 have M0 := hO.mem
 refine aE (aA (bJ (.agg (List.toArray _)) M0 rfl rfl rfl (fun b1 w1 M1 => (bH rfl rfl (aB (aC (aE (aE (aA (wq (aI (.pointer _) rfl) rfl (bY aZi rfl rfl (aDn _ b) ?_)))))))))))
 rintro v2 w2 ⟨rfl, hb2⟩
 have M2 := M1.callB hb2
 refine wq (aJ (.pointer _) rfl) rfl (aB (aC (aE (aA (wq (aI (.pointer _) rfl) rfl (wq (wD true Tryz.underlying119 rfl rfl) rfl (aB (aC (cF rfl ?_)))))))))
 refine aE (bQ [(0, 0), (1, 0), (2, 0), (3, 1), (4, 2), (5, 0)] mixed rfl (by kernel_rfl) (fun w3 hb3 hh3 => ?_))
 have M3 := M2.drew hb3 hh3
 refine aW rfl rfl rfl (fun _ => aI (.pointer _) rfl) (aW rfl rfl rfl (fun _ => bE rfl) (aW rfl rfl rfl (fun _ => aD 0 qM rfl) (bS rfl rfl rfl (aX 3 bO M3 rfl rfl rfl) (dU [true] rfl (by kernel_rfl) (bY bIq rfl rfl (aTj _ _ _ _ _ _ _ _ _ hs (M3.ownSeg 0 3) x) ?_)))))
 rintro v4 w4 ⟨rfl, A4, n4, c4, p4, er4, em4, hs4, hM4⟩
 have M4 : Mem _ _ [_, _, _, _] _ := M3.seg 0 3 hM4
 refine aB (aC ⟨dT, ?_⟩)
 refine mG rfl rfl rfl (bX (aC (aO (cM (cD (.int _ _) rfl ?_)))))
 obtain ⟨q1, q2⟩ := hR.add x
 exact ⟨⟨A4, n4, c4, p4, er4, em4⟩, by rw [q2], aBx hs4 q1 (aTx (hG.inm hR) hx), M4.keep [true, true, true, false]⟩
set_option maxHeartbeats 4000000 in
theorem aJf (w : World) (b : Nat) (r : StV) (vs : List Body) (hW : dF 39 r vs) (hO : Own [(some b, bc [.slice r.A r.n r.c, .map r.p] 107), r.er, r.em] w) (key : Int) :
  Calls Tryz.prog 86 #[.pointer (some ⟨b, 0, none⟩), .int .u32 key] w (fun ex w' => ∃ v, ex = .returned v ∧ (fun v w' => ∃ r' : StV, v = .int .i64 (gG vs key).2 ∧ dF 39 r' ((gG vs key).1) ∧ Mem w (cA [(some b, bc [.slice r.A r.n r.c, .map r.p] 107), r.er, r.em]) [(some b, bc [.slice r'.A r'.n r'.c, .map r'.p] 107), r'.er, r'.em] w') v w') := by
 obtain ⟨hG, m, hs, hR⟩ := hW
 refine aH #[.tmp 4] 15 Tryz.func86 rfl Tryz.results86 Tryz.ntmps86 rfl ?_
 have M0 := hO.mem
 refine aE (aA (bH rfl rfl (aB (aC (aE (aE (aA (wq (aI (.pointer _) rfl) rfl (bY aZi rfl rfl (aDn _ b) ?_)))))))))
 rintro v1 w1 ⟨rfl, hb1⟩
 have M1 := M0.callB hb1
 refine wq (aJ (.pointer _) rfl) rfl (aB (aC (aE (aA (wq (aI (.pointer _) rfl) rfl (wq (wD true Tryz.underlying119 rfl rfl) rfl (aB (aC (cF rfl ?_)))))))))
 refine aE (aA (wq (aI (.pointer _) rfl) rfl (wq (bE rfl) rfl (wq (aD 0 qM rfl) rfl (aP rfl rfl (bY bKn rfl rfl (aRl _ _ _ _ _ _ _ _ _ hs (M1.ownSeg 0 3) key) ?_))))))
 rintro v2 w2 ⟨rfl, A2, n2, c2, p2, er2, em2, hs2, hM2⟩
 have M2 : Mem _ _ [_, _, _] _ := M1.seg 0 3 hM2
 refine bH rfl rfl (aB (aC (aO (cM (cD (.int _ _) rfl ?_)))))
 obtain ⟨q1, q2⟩ := hR.remove key
 exact ⟨⟨A2, n2, c2, p2, er2, em2⟩, by rw [q2], aBx hs2 q1 (aFl hs.keys (hG.inm hR)), M2.keep [true, true, true]⟩
set_option maxHeartbeats 4000000 in
theorem aXf (w : World) (b : Nat) (r : StV) (vs : List Body) (hW : dF 39 r vs) (hO : Own [(some b, bc [.slice r.A r.n r.c, .map r.p] 107), r.er, r.em] w) (key : Int) :
  Calls Tryz.prog 69 #[.pointer (some ⟨b, 0, none⟩), .int .u32 key] w (fun ex w' => ∃ v, ex = .returned v ∧ (fun v w' => v = .tuple #[(.agg (aF (qJ vs key).body).toArray), .int .i64 (qJ vs key).err] ∧ Mem w (cA [(some b, bc [.slice r.A r.n r.c, .map r.p] 107), r.er, r.em]) [(some b, bc [.slice r.A r.n r.c, .map r.p] 107), r.er, r.em] w') v w') := by
 obtain ⟨hG, m, hs, hR⟩ := hW
 refine aH #[.cell 4 39, .tmp 5] 19 Tryz.func69 rfl Tryz.results69 Tryz.ntmps69 rfl ?_
 have M0 := hO.mem
 refine aE (aA (aU fN M0 rfl rfl (fun b1 w1 M1 => (bH rfl rfl (aB (aC (aE (aE (aA (wq (aI (.pointer _) rfl) rfl (bY aZi rfl rfl (aDn _ b) ?_)))))))))))
 rintro v2 w2 ⟨rfl, hb2⟩
 have M2 := M1.callB hb2
 refine wq (aJ (.pointer _) rfl) rfl (aB (aC (aE (aA (wq (aI (.pointer _) rfl) rfl (wq (wD true Tryz.underlying119 rfl rfl) rfl (aB (aC (cF rfl ?_)))))))))
 refine aE (aA (wq (aI (.pointer _) rfl) rfl (wq (bE rfl) rfl (wq (aD 0 qM rfl) rfl (aP rfl rfl (bY bMr rfl rfl (bGy _ _ _ _ _ _ _ _ _ hs (M2.ownSeg 0 3) key) ?_))))))
 rintro v3 w3 ⟨⟨x3, rfl, hx3⟩, hM3⟩
 have M3 : Mem _ _ [_, _, _, _] _ := M2.seg 0 3 hM3
 have hge := bGo hR key
 obtain rfl : x3 = (qJ vs key).body := by rw [hx3, hge]
 have hge2 : (aCf m key).2 = (qJ vs key).err := by rw [hge]
 refine wq (bN (.agg (List.toArray _)) rfl rfl) rfl (wq (bN (.int _ _) rfl rfl) rfl (aK 17 (.int .i64 (qJ vs key).err) (iE hge2) (bI 3 _ bO M3 rfl rfl rfl rfl rfl (aR rfl) rfl (fun w4 M4 => (bH rfl rfl (aB (aC (aO (cM ?_)))))))))
 refine tJ (v2 := .int _ _) 3 bO M4 rfl rfl rfl rfl ?_
 exact ⟨rfl, M4.keep [true, true, true, false]⟩
set_option maxHeartbeats 4000000 in
theorem rU (w : World) (b : Nat) (r : StV) (vs : List Body) (hW : dF 39 r vs) (hO : Own [(some b, bc [.slice r.A r.n r.c, .map r.p] 107), r.er, r.em] w) :
  Calls Tryz.prog 38 #[.pointer (some ⟨b, 0, none⟩)] w (fun ex w' => ∃ v, ex = .returned v ∧ (fun v w' => ∃ q : Row, v = .slice q.A q.n q.c ∧ bC 39 10 q.A q.n q.c ((vs).map aF) q.e ∧ Mem w (cA [(some b, bc [.slice r.A r.n r.c, .map r.p] 107), r.er, r.em]) [(some b, bc [.slice r.A r.n r.c, .map r.p] 107), r.er, r.em, q.e] w') v w') := by
 have hW' := hW
 obtain ⟨hG, m, hs, hR⟩ := hW
 refine aH #[.tmp 2] 10 Tryz.func38 rfl Tryz.results38 Tryz.ntmps38 rfl ?_
 have M0 := hO.mem
 refine aE (aA (eJ rfl rfl (aB (aC (aE (aE (aA (wq (aI (.pointer _) rfl) rfl (wq (gQ false Tryz.underlying25 rfl rfl) rfl (aB (aC ?_)))))))))))
 refine cJ rfl (aL (aC (aE (aA (wq (aI (.pointer _) rfl) rfl (wq (bE rfl) rfl (wq (aD 0 tQ rfl) rfl (wq (aD 0 qM rfl) rfl ?_))))))))
 refine bY bQd rfl rfl (aOn _ _ _ _ _ _ _ _ _ hs (M0.ownSeg 0 3)) ?_
 rintro v1 w1 ⟨A1, n1, c1, e1, rfl, hR1, hM1⟩
 have M1 : Mem _ _ [_, _, _, _] _ := M0.seg 0 3 hM1
 rw [hR.eq] at hR1
 refine eJ rfl rfl (aB (aC (aO (cD (.slice _ _ _) rfl ?_))))
 exact ⟨⟨A1, n1, c1, e1⟩, rfl, hR1, M1⟩
set_option maxHeartbeats 4000000 in
theorem aDi (w : World) (b : Nat) (r : StV) (vs : List Body) (hW : dF 39 r vs) (hO : Own [(some b, bc [.slice r.A r.n r.c, .map r.p] 107), r.er, r.em] w) :
  Calls Tryz.prog 24 #[.pointer (some ⟨b, 0, none⟩)] w (fun ex w' => ∃ v, ex = .returned v ∧ (fun v w' => ∃ q : Row, v = .slice q.A q.n q.c ∧ bC 5 1 q.A q.n q.c ((zS vs).map bL) q.e ∧ Mem w (cA [(some b, bc [.slice r.A r.n r.c, .map r.p] 107), r.er, r.em]) [(some b, bc [.slice r.A r.n r.c, .map r.p] 107), r.er, r.em, q.e] w') v w') := by
 have hW' := hW
 obtain ⟨hG, m, hs, hR⟩ := hW
 refine aH #[.tmp 2] 14 Tryz.func24 rfl Tryz.results24 Tryz.ntmps24 rfl ?_
 have M0 := hO.mem
 refine aE (aA (eJ rfl rfl (aB (aC (aE (aE (aA (wq (aI (.pointer _) rfl) rfl (wq (gQ false Tryz.underlying25 rfl rfl) rfl (aB (aC ?_)))))))))))
 refine cJ rfl (aL (aC (aE (aA (wq (aI (.pointer _) rfl) rfl (bY aUi rfl rfl (rU _ _ r _ hW' (M0.ownSeg 0 3)) ?_))))))
 rintro v1 w1 ⟨q, rfl, hq, hM1⟩
 have M1 : Mem _ _ [_, _, _, _] _ := M0.seg 0 3 hM1
 have hqn : vs.length = q.n := by simpa using hq.1
 have hvl := hG.len
 refine bY bQa rfl rfl (aKq _ _ _ _ vs (hq.rd M1 (bB (i := 3) rfl)) (by omega) hG.chk hG.inb) ?_
 rintro v2 w2 ⟨z, rfl, hz, hM2⟩
 have M2 : Mem _ _ [_, _, _, _, _] _ := M1.call0 hM2
 refine wq (aI (.tuple (List.toArray _)) rfl) rfl (wq (bN (.slice _ _ _) rfl rfl) rfl (wq (bN (.int _ _) rfl rfl) rfl (eJ rfl rfl (bH rfl rfl (aB (aC (aE (aA ?_))))))))
 refine dI rfl rfl (eJ rfl rfl (aB (aC (aO (cD (.slice _ _ _) rfl ?_)))))
 exact ⟨z, rfl, hz, M2.keep [true, true, true, false, true]⟩
set_option maxHeartbeats 8000000 in
theorem aGp (w : World) (b : Nat) (r : StV) (vs : List Body) (hW : dF 39 r vs) (hO : Own [(some b, bc [.slice r.A r.n r.c, .map r.p] 107), r.er, r.em] w) (key : Int) (j : Int × Int) (hj1 : -2147483648 ≤ j.1 ∧ j.1 ≤ 2147483647) (hj2 : -2147483648 ≤ j.2 ∧ j.2 ≤ 2147483647) :
  Calls Tryz.prog 91 #[.pointer (some ⟨b, 0, none⟩), .int .u32 key, .agg [.int .i32 j.1, .int .i32 j.2].toArray] w (fun ex w' => ∃ v, ex = .returned v ∧ (fun v w' => ∃ r' : StV, v = .int .i64 (qO vs key j).2 ∧ dF 39 r' ((qO vs key j).1) ∧ Mem w (cA [(some b, bc [.slice r.A r.n r.c, .map r.p] 107), r.er, r.em]) [(some b, bc [.slice r'.A r'.n r'.c, .map r'.p] 107), r'.er, r'.em] w') v w') := by
 have hW' := hW
 obtain ⟨hG, m, hs, hR⟩ := hW
 refine aH #[.tmp 6] 30 Tryz.func91 rfl Tryz.results91 Tryz.ntmps91 rfl ?_
 have M0 := hO.mem
 refine aE (aA (bJ (.agg (List.toArray _)) M0 rfl rfl rfl (fun b1 w1 M1 => (bH rfl rfl (aB (aC (aE (aA (wq (aI (.pointer _) rfl) rfl (aP rfl rfl ?_))))))))))
 refine bY bRa rfl rfl (aXf _ _ r vs hW' (M1.ownSeg 0 3) key) ?_
 rintro v2 w2 ⟨rfl, hM2⟩
 have M2 : Mem _ _ [_, _, _, _] _ := M1.seg 0 3 hM2
 refine wq (aI (.tuple (List.toArray _)) rfl) rfl (wq (bN (.agg (List.toArray _)) rfl rfl) rfl (wq (bN (.int _ _) rfl rfl) rfl (aU fN M2 rfl rfl (fun b3 w3 M3 => (bI 4 _ bO M3 rfl rfl rfl rfl rfl (aR rfl) rfl (fun w4 M4 => (bH rfl rfl ?_)))))))
 refine aB (aC (aE (aE (aA (aP rfl rfl (cY rfl rfl rfl rfl (aB (aC ?_))))))))
 refine aV rfl (fun h16 => ?_) (fun h16 => ?_)
 ·refine aE (aA (aP rfl rfl (bH rfl rfl (aB (aC (aO (cM (cD (.int _ _) rfl ?_))))))))
  have hf : dJ key vs < 0 := Decidable.byContradiction fun h => h16 (by unfold qJ; rw [if_neg h]; rfl)
  exact ⟨r, by rw [tO j hf]; unfold qJ; rw [if_pos hf], by rw [tO j hf]; exact hW', M4.keep [true, true, true, false, false]⟩
 ·have hf : ¬ dJ key vs < 0 := fun h => h16 (by unfold qJ; rw [if_pos h]; decide)
  obtain ⟨i, bb, hbi, _, hfi⟩ := (eG key vs).resolve_left (fun h => hf (by omega))
  have hgb : (qJ vs key).body = bb := by unfold qJ; rw [if_neg hf]; exact tW hfi hbi
  obtain ⟨z1, z2, z3, z4⟩ := aTs hR hG j hfi hbi
  have hbo := hG.okb bb (List.mem_of_getElem? hbi)
  refine aL (aC (aE (aA (wq (aX 4 bO M4 rfl rfl rfl) rfl (aK 19 ((.agg (aF bb).toArray)) (congrArg (fun x => Value.agg (aF x).toArray) hgb) (wq (aX 3 bK M4 rfl rfl rfl) rfl (bY bOb rfl rfl (aYp _ bb hbo j hj1 hj2) ?_)))))))
  rintro v5 w5 ⟨⟨gg, rfl⟩, hb5⟩
  have M5 := M4.callB hb5
  refine wq (aI (.tuple (List.toArray _)) rfl) rfl (wq (bN (.agg (List.toArray _)) rfl rfl) rfl (wq (bN (.bool _) rfl rfl) rfl (bI 4 _ bO M5 rfl rfl rfl rfl rfl (aR rfl) rfl (fun w6 M6 => (aB (aC (aE (bQ [(0, 0), (1, 0), (2, 0), (3, 0), (4, 1), (5, 2), (6, 0)] mixed rfl (by kernel_rfl) (fun w7 hb7 hh7 => ?_)))))))))
  have M7 := M6.drew hb7 hh7
  refine aW rfl rfl rfl (fun _ => aI (.pointer _) rfl) (aW rfl rfl rfl (fun _ => bE rfl) (aW rfl rfl rfl (fun _ => aD 0 tQ rfl) (aW rfl rfl rfl (fun _ => aD 0 qM rfl) (bS rfl rfl rfl (aX 4 bO M7 rfl rfl rfl) (dU [true] rfl (by kernel_rfl) ?_)))))
  refine bY bJt rfl rfl (bFc _ _ _ _ _ _ _ _ _ hs (M7.ownSeg 0 3) (lY bb j)) ?_
  rintro v8 w8 ⟨rfl, A8, n8, c8, p8, er8, em8, hs8, hM8⟩
  have M8 : Mem _ _ [_, _, _, _, _] _ := M7.seg 0 3 hM8
  refine aB (aC ⟨dT, ?_⟩)
  refine mG rfl rfl rfl (bX (aC (aO (cD (.int _ _) rfl ?_))))
  exact ⟨⟨A8, n8, c8, p8, er8, em8⟩, by rw [z3, z2], aBx hs8 z1 (aUh (hG.inm hR) (aTw (hG.inb bb (List.mem_of_getElem? hbi)) j)), M8.keep [true, true, true, false, false]⟩
set_option maxHeartbeats 8000000 in
theorem vG (w : World) (b : Nat) (r : StV) (vs : List Body) (hW : dF 39 r vs) (hO : Own [(some b, bc [.slice r.A r.n r.c, .map r.p] 107), r.er, r.em] w) (A : Option Addr) (n c : Nat) (xs : List Body) (RA : Rd w 10 A n (xs.map aF)) (hX : GoodV xs) (hdA : 0 < n → ∀ q off, A = some ⟨q, off, none⟩ → q ∉ cA [(some b, bc [.slice r.A r.n r.c, .map r.p] 107), r.er, r.em]) :
  Calls Tryz.prog 78 #[.pointer (some ⟨b, 0, none⟩), .slice A n c] w (fun ex w' => ∃ v, ex = .returned v ∧ (fun v w' => ∃ r' : StV, v = .tuple #[] ∧ dF 39 r' (xs) ∧ Mem w (cA [(some b, bc [.slice r.A r.n r.c, .map r.p] 107), r.er, r.em]) [(some b, bc [.slice r'.A r'.n r'.c, .map r'.p] 107), r'.er, r'.em] w') v w') := by
 have hlen : xs.length = n := by simpa using RA.len
 have hbd := RA.bound
 have hxl := hX.len
 refine aH #[] 23 Tryz.func78 rfl Tryz.results78 Tryz.ntmps78 rfl ?_
 have M0 := hO.mem
 refine aE (aA (wq (aI (.pointer _) rfl) rfl (wq (cG [] _ aXo rfl rfl) rfl (wq (bE rfl) rfl (wq (aD 0 tQ rfl) rfl (bI 0 _ bOm M0 rfl rfl rfl rfl rfl (aR rfl) rfl (fun w1 M1 => ?_)))))))
 refine aB (aC (aE (aA ?_)))
 have M2 : Mem _ _ [_, _, _] _ := (((M1.keep [true, false, false]).dummy default).dummy default)
 refine dI rfl rfl (wq (cZ Tryz.underlying29 rfl) rfl (aP rfl rfl (aB (aC (aQ (dQ (σ := Nat × StV) [0, 10, 11] (fun (k, r2) => [(12, .int .i64 (k : Int))]) (fun (k, r2) w' => (k ≤ n ∧ StoreIs 39 r2.A r2.n r2.c r2.p r2.er r2.em (xs.take k)) ∧ Mem w (cA [(some b, bc [.slice r.A r.n r.c, .map r.p] 107), r.er, r.em]) [(some b, bc [.slice r2.A r2.n r2.c, .map r2.p] 107), r2.er, r2.em] w') (fun (k, r2) => n - k) (0, ⟨none, 0, 0, none, (none, default), (none, default)⟩) (bA rfl dY) (⟨⟨by omega, (StoreIs.nil 39 default default)⟩, M2⟩) ?_))))))
 rintro ⟨k, r2⟩ ρ3 w3 ⟨⟨hk, hr⟩, hM3⟩
 refine aE (aA (cY rfl rfl rfl rfl (aB (aC (aE ?_)))))
 refine aV rfl (fun h13 => ?_) (fun h13 => ?_)
 ·obtain ⟨xb, hxb⟩ := cS (xs := xs) (k := k) hlen (by omega)
  refine aL (aC (aE (aQ (aE (aA (wq (bP (k) dH rfl rfl rfl ((RA.memY hM3 hdA).below_len (aG aF hxb)) ((RA.memY hM3 hdA).someK (aG aF hxb))) rfl (wq (dL _ bO (RA.memY hM3 hdA) (aG aF hxb) rfl) rfl (aU fN hM3 rfl rfl (fun b4 w4 M4 => ?_)))))))))
  refine bI 3 _ bO M4 rfl rfl rfl rfl rfl (aR rfl) rfl (fun w5 M5 => (aB (aC (bQ [(0, 0), (1, 0), (2, 0), (3, 0), (4, 1), (5, 2)] mixed rfl (by kernel_rfl) (fun w6 hb6 hh6 => ?_)))))
  have M6 := M5.drew hb6 hh6
  refine aW rfl rfl rfl (fun _ => aI (.pointer _) rfl) (aW rfl rfl rfl (fun _ => bE rfl) (aW rfl rfl rfl (fun _ => aD 0 tQ rfl) (aW rfl rfl rfl (fun _ => aD 0 qM rfl) (bS rfl rfl rfl (aX 3 bO M6 rfl rfl rfl) (dU [true] rfl (by kernel_rfl) ?_)))))
  refine bY bIq rfl rfl (aTj _ _ _ _ _ _ _ _ _ hr (M6.ownSeg 0 3) xb) ?_
  rintro v7 w7 ⟨rfl, A7, n7, c7, p7, er7, em7, hs7, hM7⟩
  have M7 : Mem _ _ [_, _, _, _] _ := M6.seg 0 3 hM7
  refine aB (aC ⟨dT, ?_⟩)
  refine bX (cU (aC (aA (wq (aY rfl rfl (by omega) (by omega)) rfl (aP rfl rfl (aB ?_))))))
  refine cE (k + 1, ⟨A7, n7, c7, p7, er7, em7⟩) (bA rfl dY) (cN rfl (cN rfl (cN rfl gT))) ?_ ?_
  ·exact ⟨⟨by omega, by rw [← aLa hX (k + 1) (by omega), aDk hxb, aLa hX k (by omega)]; exact hs7⟩, M7.keep [true, true, true, false]⟩
  ·(show n - (k + 1) < n - k; omega)
 ·obtain rfl : k = n := by omega
  rw [List.take_of_length_le (by omega)] at hr
  refine cV (dC (dK (eN (lA ?_))))
  exact ⟨r2, rfl, ⟨hX, xs, hr, xU hX.s⟩, hM3⟩
set_option maxHeartbeats 8000000 in
theorem aQs (w : World) (F : Rd w 2 (some ⟨0, 0, none⟩) 1 [[.int .u32 73856093, .int .u32 19349663]]) (N : Rd w 4 (some ⟨3, 0, none⟩) 1 [eK jX]) (b : Nat) (r : StV) (vs : List Body) (hW : dF 39 r vs) (hO : Own [(some b, bc [.slice r.A r.n r.c, .map r.p] 107), r.er, r.em] w) (hdF : 0 < 1 → ∀ q off, (some ⟨0, 0, none⟩ : Option Addr) = some ⟨q, off, none⟩ → q ∉ cA [(some b, bc [.slice r.A r.n r.c, .map r.p] 107), r.er, r.em]) (hdN : 0 < 1 → ∀ q off, (some ⟨3, 0, none⟩ : Option Addr) = some ⟨q, off, none⟩ → q ∉ cA [(some b, bc [.slice r.A r.n r.c, .map r.p] 107), r.er, r.em]) :
  Calls Tryz.prog 53 #[.pointer (some ⟨b, 0, none⟩)] w (fun ex w' => ∃ v, ex = .returned v ∧ (fun v w' => ∃ (r' : StV) (t : Nat), v = .agg [.int .i64 (t : Int), .int .i64 ((lN vs).length : Int), .bool (sJ vs)].toArray ∧ dF 39 r' (sF vs) ∧ Mem w (cA [(some b, bc [.slice r.A r.n r.c, .map r.p] 107), r.er, r.em]) [(some b, bc [.slice r'.A r'.n r'.c, .map r'.p] 107), r'.er, r'.em] w') v w') := by
 have hW' := hW
 obtain ⟨hG, m, hs, hR⟩ := hW
 have hvl := hG.len
 refine aH #[.cell 2 58] 18 Tryz.func53 rfl Tryz.results53 Tryz.ntmps53 rfl ?_
 have M0 := hO.mem
 refine aE (aA (aU aKs M0 rfl rfl (fun b1 w1 M1 => (aB (aC (aE (aE (aA (wq (aI (.pointer _) rfl) rfl (wq (gQ false Tryz.underlying25 rfl rfl) rfl (aB (aC ?_))))))))))))
 refine cJ rfl (aL (aC (aE (aA (wq (aI (.pointer _) rfl) rfl (bY aUi rfl rfl (rU _ _ r _ hW' (M1.ownSeg 0 3)) ?_))))))
 rintro v2 w2 ⟨q, rfl, hq, hM2⟩
 have M2 : Mem _ _ [_, _, _, _, _] _ := M1.seg 0 3 hM2
 have hqn : vs.length = q.n := by simpa using hq.1
 refine bY bPh rfl rfl (aVn _ (F.memY M2 hdF) (N.memY M2 hdN) _ _ _ vs (hq.rd M2 (bB (i := 4) rfl)) hG.okb hG.s (by omega)) ?_
 rintro v3 w3 ⟨ra, ta, rfl, h1ta, h2ta, hra, hM3⟩
 have M3 : Mem _ _ [_, _, _, _, _, _] _ := M2.call0 hM3
 refine wq (aI (.tuple (List.toArray _)) rfl) rfl (wq (bN (.slice _ _ _) rfl rfl) rfl (wq (bN (.agg (List.toArray _)) rfl rfl) rfl (aU aKs M3 rfl rfl (fun b4 w4 M4 => (eJ rfl rfl (bI 6 _ aAj M4 rfl rfl rfl rfl rfl (aR rfl) rfl (fun w5 M5 => ?_)))))))
 refine aB (aC (aE (aA (wq (aI (.pointer _) rfl) rfl (dI rfl rfl (bY bIv rfl rfl (vG _ _ r _ hW' (M5.ownSeg 0 3) ra.A ra.n ra.c (sF vs) (hra.rd M5 (bB (i := 5) rfl)) hG.step (hra.awayS M5 0 3 5 rfl rfl)) ?_))))))
 rintro v6 w6 ⟨r2, rfl, hw2, hM6⟩
 have M6 : Mem _ _ [_, _, _, _, _, _, _] _ := M5.seg 0 3 hM6
 refine aB (aC (aE (aA (wq (aX 6 aAj M6 rfl rfl rfl) rfl (bI 3 _ aAj M6 rfl rfl rfl rfl rfl (aR rfl) rfl (fun w7 M7 => (aB (aC (aO (eL 3 aAj M7 rfl rfl rfl ?_))))))))))
 exact ⟨r2, ta, rfl, hw2, M7.keep [true, true, true, false, false, false, false]⟩
set_option maxHeartbeats 8000000 in
theorem aFs (w : World) (b : Nat) (r : StV) (vs : List Body) (hW : dF 39 r vs) (hO : Own [(some b, bc [.slice r.A r.n r.c, .map r.p] 107), r.er, r.em] w) (BA : Option Addr) (nn cc : Nat) (ls : List Int) (RS : Rd w 1 BA nn (ls.map bL)) (hB : lS ls) (hcap : nn ≤ cc) (hnn : nn ≤ 1000000) (hdB : 0 < nn → ∀ q off, BA = some ⟨q, off, none⟩ → q ∉ cA [(some b, bc [.slice r.A r.n r.c, .map r.p] 107), r.er, r.em]) :
  Calls Tryz.prog 74 #[.pointer (some ⟨b, 0, none⟩), .slice BA nn cc] w (fun ex w' => ∃ v, ex = .returned v ∧ (fun v w' => ∃ r' : StV, v = .int .i64 (nP ls).2 ∧ dF 39 r' (tB vs ls) ∧ Mem w (cA [(some b, bc [.slice r.A r.n r.c, .map r.p] 107), r.er, r.em]) [(some b, bc [.slice r'.A r'.n r'.c, .map r'.p] 107), r'.er, r'.em] w') v w') := by
 have hW' := hW
 obtain ⟨hG, m, hs, hR⟩ := hW
 have hlen : ls.length = nn := by simpa using RS.len
 refine aH #[.tmp 4] 20 Tryz.func74 rfl Tryz.results74 Tryz.ntmps74 rfl ?_
 have M0 := hO.mem
 refine aE (aA (bH rfl rfl (aB (aC (aE (aE (aA (wq (aI (.pointer _) rfl) rfl (wq (gQ false Tryz.underlying25 rfl rfl) rfl (aB (aC ?_)))))))))))
 refine cJ rfl (aL (aC (aE (aA (dI rfl rfl (bY bPg rfl rfl (aJg _ BA nn cc ls (RS.memY M0 hdB) hB hcap (by omega)) ?_))))))
 rintro v1 w1 ⟨q, rfl, hq, hM1⟩
 have M1 : Mem _ _ [_, _, _, _] _ := M0.call0 hM1
 refine wq (aI (.tuple (List.toArray _)) rfl) rfl (wq (bN (.slice _ _ _) rfl rfl) rfl (wq (bN (.int _ _) rfl rfl) rfl (eJ rfl rfl (bH rfl rfl (aB (aC (aE (aE (aA ?_)))))))))
 refine aP rfl rfl (cY rfl rfl rfl rfl (aB (aC ?_)))
 refine aV rfl (fun h15 => ?_) (fun h15 => ?_)
 ·refine aA (wq (aI (.pointer _) rfl) rfl (dI rfl rfl (bY bIv rfl rfl (vG _ _ r _ hW' (M1.ownSeg 0 3) q.A q.n q.c (nP ls).1 (hq.rd M1 (bB (i := 3) rfl)) (GoodV.dec hB (by omega) h15) (hq.awayS M1 0 3 3 rfl rfl)) ?_)))
  rintro v2 w2 ⟨r2, rfl, hw2, hM2⟩
  have M2 : Mem _ _ [_, _, _, _] _ := M1.seg 0 3 hM2
  refine aB (aC (aE (aA (aP rfl rfl (bH rfl rfl (aB (aC (aO (cD (.int _ _) rfl ?_)))))))))
  exact ⟨r2, rfl, by unfold tB; rw [if_pos h15]; exact hw2, M2.keep [true, true, true, false]⟩
 ·refine aL (aC (aE (aA (aP rfl rfl (bH rfl rfl (aB (aC (aO (cD (.int _ _) rfl ?_)))))))))
  exact ⟨r, rfl, by unfold tB; rw [if_neg h15]; exact hW', M1.keep [true, true, true, false]⟩
set_option maxHeartbeats 8000000 in
theorem aGb (w : World) (q0 : Row) (s : List Body) (hq0 : bC 39 10 q0.A q0.n q0.c ((s).map aF) q0.e) (hG : GoodV s) (hO : Own [q0.e] w) (key : Int) (j : Int × Int) (hj1 : -2147483648 ≤ j.1 ∧ j.1 ≤ 2147483647) (hj2 : -2147483648 ≤ j.2 ∧ j.2 ≤ 2147483647) :
  Calls Tryz.prog 96 #[.slice q0.A q0.n q0.c, .int .u32 key, .agg [.int .i32 j.1, .int .i32 j.2].toArray] w (fun ex w' => ∃ v, ex = .returned v ∧ (fun v w' => ∃ q : Row, v = .tuple #[.slice q.A q.n q.c, .int .i64 (qO s key j).2] ∧ bC 39 10 q.A q.n q.c (((qO s key j).1).map aF) q.e ∧ Mem w (cA [q0.e]) [q.e] w') v w') := by
 have hlen : s.length = q0.n := by simpa using hq0.1
 have hsl := hG.len
 refine aH #[.tmp 6, .tmp 7] 29 Tryz.func96 rfl Tryz.results96 Tryz.ntmps96 rfl ?_
 have M0 := hO.mem
 refine aE (aA (bJ (.agg (List.toArray _)) M0 rfl rfl rfl (fun b1 w1 M1 => (eJ rfl rfl (bH rfl rfl (aB (aC (aE (aA (dI rfl rfl ?_))))))))))
 refine aP rfl rfl (bY sD rfl rfl (gS _ key _ _ _ s (hq0.rd M1 (bB (i := 0) rfl))) ?_)
 rintro v2 w2 ⟨rfl, hb2⟩
 have M2 := M1.callB hb2
 refine bH rfl rfl (aB (aC (aE (aE (aA (aP rfl rfl (cY rfl rfl rfl rfl (aB (aC ?_)))))))))
 refine aV rfl (fun h15 => ?_) (fun h15 => ?_)
 ·refine aE (aA (dI rfl rfl (eJ rfl rfl (bH rfl rfl (aB (aC (aO (cM (fY (.slice _ _ _) (.int _ _) rfl rfl ?_)))))))))
  exact ⟨q0, by rw [tO j h15], by rw [tO j h15]; exact hq0, M2.keep [true, false]⟩
 ·obtain ⟨i, bb, hbi, _, hfi⟩ := (eG key s).resolve_left (fun h => h15 (by omega))
  have hbo := hG.okb bb (List.mem_of_getElem? hbi)
  have hie : qO s key j = (wI s (lY bb j) false, 0) := by unfold qO; rw [if_neg (by omega), tW hfi hbi]
  refine aL (aC (aE (aKc [(0, 0), (1, 0), (2, 1), (3, 1), (4, 1)] 5 9 [(6, 0), (7, 0), (8, 0), (9, 2), (10, 2), (11, 0)] [(5, 2), (6, 0), (7, 0), (8, 0), (10, 2), (11, 0)] mixed rfl (by kernel_rfl) (fun w3 hb3 hh3 => ?_))))
  have M3 := M2.drew hb3 hh3
  refine rR rfl rfl rfl (fun _ => aI (.slice _ _ _) rfl) (rR rfl rfl rfl (fun _ => aI (.int _ _) rfl) (yX rfl rfl rfl (bP (i) dH rfl rfl hfi ((hq0.rd M3 (bB (i := 0) rfl)).below_len (aG aF hbi)) ((hq0.rd M3 (bB (i := 0) rfl)).someK (aG aF hbi))) (yX rfl rfl rfl (dL _ bO (hq0.rd M3 (bB (i := 0) rfl)) (aG aF hbi) rfl) ?_)))
  refine yX rfl rfl rfl (aX 1 bK M3 rfl rfl rfl) ?_
  refine aBn ?_ ?_
  ·refine dU [true, true, true] rfl (by kernel_rfl) (bY bCm rfl rfl (aEo _ bb hbo j hj1 hj2) ?_)
   rintro v4 w4 ⟨⟨gg, rfl⟩, hb4⟩
   have M4 := M3.callB hb4
   refine aB (aC ⟨dT, ?_⟩)
   refine aW rfl rfl rfl (fun _ => aI (.tuple (List.toArray _)) rfl) (aW rfl rfl rfl (fun _ => bN (.agg (List.toArray _)) rfl rfl) (aW rfl rfl rfl (fun _ => bN (.bool _) rfl rfl) (dU [] rfl (by kernel_rfl) (aU fN M4 rfl rfl (fun b5 w5 M5 => ?_)))))
   refine aB (aC ⟨dT, ?_⟩)
   refine dU [] rfl (by kernel_rfl) (bI 2 _ bO M5 rfl rfl rfl rfl rfl (aR rfl) rfl (fun w6 M6 => ?_))
   refine aB (aC ⟨dT, ?_⟩)
   refine aW rfl rfl rfl (fun _ => aJ (.bool _) rfl) (bX (aC (aE (aA (dI rfl rfl (wq (aX 2 bO M6 rfl rfl rfl) rfl (bY aJl rfl rfl (uO _ (lY bb j) false _ _ _ s (hq0.rd M6 (bB (i := 0) rfl)) (by omega)) ?_)))))))
   rintro v7 w7 ⟨A7, n7, c7, e7, rfl, hR7, hM7⟩
   have M7 : Mem _ _ [_, _, _, _] _ := M6.call0 hM7
   refine eJ rfl rfl (bH rfl rfl (aB (aC (aO (fY (.slice _ _ _) (.int _ _) rfl rfl ?_)))))
   exact ⟨⟨A7, n7, c7, e7⟩, by rw [hie], by rw [hie]; exact hR7, M7.keep [false, false, false, true]⟩
  ·refine dU [false, false, false] rfl (by kernel_rfl) (aU fN M3 rfl rfl (fun b8 w8 M8 => ?_))
   refine aB (aC ⟨(eB (bM rfl (aX 1 bK M8 rfl rfl rfl)) (eB (bM rfl (dL _ bO (hq0.rd M8 (bB (i := 0) rfl)) (aG aF hbi) rfl)) (eB (bM rfl (bP (i) dH rfl rfl hfi ((hq0.rd M8 (bB (i := 0) rfl)).below_len (aG aF hbi)) ((hq0.rd M8 (bB (i := 0) rfl)).someK (aG aF hbi)))) dT))), ?_⟩)
   refine dU [true, true, true] rfl (by kernel_rfl) (bY bCm rfl rfl (aEo _ bb hbo j hj1 hj2) ?_)
   rintro v9 w9 ⟨⟨gg, rfl⟩, hb9⟩
   have M9 := M8.callB hb9
   refine aB (aC ⟨dT, ?_⟩)
   refine aW rfl rfl rfl (fun _ => aI (.tuple (List.toArray _)) rfl) (aW rfl rfl rfl (fun _ => bN (.agg (List.toArray _)) rfl rfl) (aW rfl rfl rfl (fun _ => bN (.bool _) rfl rfl) (dU [] rfl (by kernel_rfl) (bI 2 _ bO M9 rfl rfl rfl rfl rfl (aR rfl) rfl (fun w10 M10 => ?_)))))
   refine aB (aC ⟨dT, ?_⟩)
   refine aW rfl rfl rfl (fun _ => aJ (.bool _) rfl) (bX (aC (aE (aA (dI rfl rfl (wq (aX 2 bO M10 rfl rfl rfl) rfl (bY aJl rfl rfl (uO _ (lY bb j) false _ _ _ s (hq0.rd M10 (bB (i := 0) rfl)) (by omega)) ?_)))))))
   rintro v11 w11 ⟨A11, n11, c11, e11, rfl, hR11, hM11⟩
   have M11 : Mem _ _ [_, _, _, _] _ := M10.call0 hM11
   refine eJ rfl rfl (bH rfl rfl (aB (aC (aO (fY (.slice _ _ _) (.int _ _) rfl rfl ?_)))))
   exact ⟨⟨A11, n11, c11, e11⟩, by rw [hie], by rw [hie]; exact hR11, M11.keep [false, false, false, true]⟩
set_option maxHeartbeats 32000000 in
theorem bAm (w : World) (q0 : Row) (s : List Body) (hq0 : bC 39 10 q0.A q0.n q0.c ((s).map aF) q0.e) (hG : GoodV s) (hO : Own [q0.e] w) (o : OpI) (BA : Option Addr) (nn cc : Nat) (hP : OpOk w o BA nn cc) (hnn : nn ≤ 1000000) (hdB : 0 < nn → ∀ q off, BA = some ⟨q, off, none⟩ → q ∉ cA [q0.e]) :
  Calls Tryz.prog 56 #[.slice q0.A q0.n q0.c, .agg (fJ o BA nn cc).toArray] w (fun ex w' => ∃ v, ex = .returned v ∧ (fun v w' => ∃ (q p : Row), v = .agg (bAj q.A q.n q.c p.A p.n p.c (doR s o).2).toArray ∧ bC 39 10 q.A q.n q.c (((doR s o).1).map aF) q.e ∧ bC 5 1 p.A p.n p.c (((doR s o).2.bytes).map bL) p.e ∧ Mem w (cA [q0.e]) [q.e, p.e] w') v w') := by
 have hlen : s.length = q0.n := by simpa using hq0.1
 have hsl := hG.len
 have hbl := hP.len
 refine aH #[.cell 4 112] 93 Tryz.func56 rfl Tryz.results56 Tryz.ntmps56 rfl ?_
 have M0 := hO.mem
 refine aE (aA (bJ (.agg (List.toArray _)) M0 rfl rfl rfl (fun b1 w1 M1 => (aU aJe M1 rfl rfl (fun b2 w2 M2 => (aB (aC (aE (aA (dI rfl rfl (wq (cG [(0, .slice _ _ _)] _ aWb rfl rfl) rfl ?_)))))))))))
 refine aU aJe M2 rfl rfl (fun b3 w3 M3 => (bI 3 _ fP M3 rfl rfl rfl rfl rfl (aR rfl) rfl (fun w4 M4 => (aB (aC (aE (aE (aA (wq (aD 0 bEl rfl) rfl (wq (aM 1 (.int _ _) iP M4 rfl rfl rfl) rfl (aB (aC (aQ (aE (aA ?_)))))))))))))))
 refine cY rfl rfl rfl rfl (wq (aJ (.bool (decide _)) rfl) rfl (aB (aC ?_)))
 refine aV rfl (fun h13 => ?_) (fun h13 => ?_)
 ·refine aA (dI rfl rfl (wq (aD 1 aYo rfl) rfl (wq (oN 1 _ bO M4 rfl rfl rfl rfl) rfl (bY bQg rfl rfl (aVl _ _ _ _ _ s hq0 (M4.ownAt (i := 0) rfl) o.body (by omega)) ?_))))
  rintro v5 w5 ⟨A5, n5, c5, e5, rfl, hR5, hM5⟩
  have M5 : Mem _ _ [_, _, _, _] _ := M4.seg 0 1 hM5
  refine wq (aI (.tuple (List.toArray _)) rfl) rfl (wq (bN (.slice _ _ _) rfl rfl) rfl (wq (bN (.int _ _) rfl rfl) rfl (wq (aD 0 qP rfl) rfl (dB 3 (.slice _ _ _) gA M5 rfl rfl rfl rfl rfl rfl (fun w6 M6 => (wq (aD 1 qU rfl) rfl ?_))))))
  refine dB 3 (.int _ _) iP M6 rfl rfl rfl rfl rfl rfl (fun w7 M7 => (aB (cU (aC (aE (aA (wq (aX 3 fP M7 rfl rfl rfl) rfl (bI 2 _ fP M7 rfl rfl rfl rfl rfl (aR rfl) rfl (fun w8 M8 => ?_)))))))))
  refine aB (aC (aO (eL 2 fP M8 rfl rfl rfl ?_)))
  exact ⟨⟨A5, n5, c5, e5⟩, ⟨none, 0, 0, (none, default)⟩, by rw [bBa h13]; rfl, by rw [bBa h13]; exact hR5, by rw [bBa h13]; exact bC.nil _ _ _, (M8.keep [true, false, false, false]).dummy default⟩
 ·refine aE (aA (cY rfl rfl rfl rfl (wq (aJ (.bool (decide _)) rfl) rfl (aB (aC ?_)))))
  refine aV rfl (fun h24 => ?_) (fun h24 => ?_)
  ·refine aA (dI rfl rfl (wq (aD 11 aEl rfl) rfl (wq (aM 1 (.int _ _) bW M4 rfl rfl rfl) rfl (bY bRh rfl rfl (aKr _ _ _ _ _ s hq0 (M4.ownAt (i := 0) rfl) o.key (by omega)) ?_))))
   rintro v9 w9 ⟨A9, n9, c9, e9, rfl, hR9, hM9⟩
   have M9 : Mem _ _ [_, _, _, _] _ := M4.seg 0 1 hM9
   refine wq (aI (.tuple (List.toArray _)) rfl) rfl (wq (bN (.slice _ _ _) rfl rfl) rfl (wq (bN (.int _ _) rfl rfl) rfl (wq (aD 0 qP rfl) rfl (dB 3 (.slice _ _ _) gA M9 rfl rfl rfl rfl rfl rfl (fun w10 M10 => (wq (aD 1 qU rfl) rfl ?_))))))
   refine dB 3 (.int _ _) iP M10 rfl rfl rfl rfl rfl rfl (fun w11 M11 => (aB (cU (aC (aE (aA (wq (aX 3 fP M11 rfl rfl rfl) rfl (bI 2 _ fP M11 rfl rfl rfl rfl rfl (aR rfl) rfl (fun w12 M12 => ?_)))))))))
   refine aB (aC (aO (eL 2 fP M12 rfl rfl rfl ?_)))
   exact ⟨⟨A9, n9, c9, e9⟩, ⟨none, 0, 0, (none, default)⟩, by rw [bBe h24]; rfl, by rw [bBe h24]; exact hR9, by rw [bBe h24]; exact bC.nil _ _ _, (M12.keep [true, false, false, false]).dummy default⟩
  ·refine aE (aA (cY rfl rfl rfl rfl (wq (aJ (.bool (decide _)) rfl) rfl (aB (aC ?_)))))
   refine aV rfl (fun h35 => ?_) (fun h35 => ?_)
   ·refine aA (dI rfl rfl (wq (aD 11 aEl rfl) rfl (wq (aM 1 (.int _ _) bW M4 rfl rfl rfl) rfl (wq (aD 12 bBd rfl) rfl (wq (oN 1 _ bK M4 rfl rfl rfl rfl) rfl ?_)))))
    refine bY bQp rfl rfl (aGb _ q0 s hq0 hG (M4.ownAt (i := 0) rfl) o.key o.push hP.p1 hP.p2) ?_
    rintro v13 w13 ⟨qi, rfl, hqi, hM13⟩
    have M13 : Mem _ _ [_, _, _, _] _ := M4.seg 0 1 hM13
    refine wq (aI (.tuple (List.toArray _)) rfl) rfl (wq (bN (.slice _ _ _) rfl rfl) rfl (wq (bN (.int _ _) rfl rfl) rfl (wq (aD 0 qP rfl) rfl (dB 3 (.slice _ _ _) gA M13 rfl rfl rfl rfl rfl rfl (fun w14 M14 => (wq (aD 1 qU rfl) rfl ?_))))))
    refine dB 3 (.int _ _) iP M14 rfl rfl rfl rfl rfl rfl (fun w15 M15 => (aB (cU (aC (aE (aA (wq (aX 3 fP M15 rfl rfl rfl) rfl (bI 2 _ fP M15 rfl rfl rfl rfl rfl (aR rfl) rfl (fun w16 M16 => ?_)))))))))
    refine aB (aC (aO (eL 2 fP M16 rfl rfl rfl ?_)))
    exact ⟨qi, ⟨none, 0, 0, (none, default)⟩, by rw [aZd h35]; rfl, by rw [aZd h35]; exact hqi, by rw [aZd h35]; exact bC.nil _ _ _, (M16.keep [true, false, false, false]).dummy default⟩
   ·refine aE (aA (cY rfl rfl rfl rfl (wq (aJ (.bool (decide _)) rfl) rfl (aB (aC ?_)))))
    refine aV rfl (fun h48 => ?_) (fun h48 => ?_)
    ·refine aA (dI rfl rfl (bY bQb rfl rfl (aOq _ _ _ _ s (hq0.rd M4 (bB (i := 0) rfl)) hG.okb hG.s (by omega)) ?_))
     rintro v17 w17 ⟨rb, rfl, hrb, hM17⟩
     have M17 : Mem _ _ [_, _, _, _, _] _ := M4.call0 hM17
     refine wq (aI (.tuple (List.toArray _)) rfl) rfl (wq (bN (.slice _ _ _) rfl rfl) rfl (wq (bN (.int _ _) rfl rfl) rfl (wq (bN (.bool _) rfl rfl) rfl (wq (aD 0 qP rfl) rfl (dB 3 (.slice _ _ _) gA M17 rfl rfl rfl rfl rfl rfl (fun w18 M18 => ?_))))))
     refine wq (aD 13 aMc rfl) rfl (dB 3 (.int _ _) iP M18 rfl rfl rfl rfl rfl rfl (fun w19 M19 => (wq (aD 14 aMk rfl) rfl (dB 3 (.bool _) pD M19 rfl rfl rfl rfl rfl rfl (fun w20 M20 => (aB (cU ?_)))))))
     refine aC (aE (aA (wq (aX 3 fP M20 rfl rfl rfl) rfl (bI 2 _ fP M20 rfl rfl rfl rfl rfl (aR rfl) rfl (fun w21 M21 => (aB (aC (aO (eL 2 fP M21 rfl rfl rfl ?_)))))))))
     exact ⟨rb, ⟨none, 0, 0, (none, default)⟩, by rw [bAp h48]; rfl, by rw [bAp h48]; exact hrb, by rw [bAp h48]; exact bC.nil _ _ _, (M21.keep [false, false, false, false, true]).dummy default⟩
    ·refine aE (aA (cY rfl rfl rfl rfl (wq (aJ (.bool (decide _)) rfl) rfl (aB (aC ?_)))))
     refine aV rfl (fun h59 => ?_) (fun h59 => ?_)
     ·refine aA (dI rfl rfl (bY bQm rfl rfl (aNh _ _ _ _ s (hq0.rd M4 (bB (i := 0) rfl)) (by omega) hG.inb) ?_))
      rintro v22 w22 ⟨pb, rfl, hpb, hM22⟩
      have M22 : Mem _ _ [_, _, _, _, _] _ := M4.call0 hM22
      refine wq (aD 12 aMh rfl) rfl (dB 3 (.slice _ _ _) sP M22 rfl rfl rfl rfl rfl rfl (fun w23 M23 => (aB (cU (aC (aE (aA (wq (aX 3 fP M23 rfl rfl rfl) rfl ?_))))))))
      refine bI 2 _ fP M23 rfl rfl rfl rfl rfl (aR rfl) rfl (fun w24 M24 => (aB (aC (aO (eL 2 fP M24 rfl rfl rfl ?_)))))
      exact ⟨q0, pb, by rw [bEj h59]; rfl, by rw [bEj h59]; exact hq0, by rw [bEj h59]; exact hpb, (M24.keep [true, false, false, false, true])⟩
     ·refine aE (aA (cY rfl rfl rfl rfl (wq (aJ (.bool (decide _)) rfl) rfl (aB (aC ?_)))))
      refine aV rfl (fun h64 => ?_) (fun h64 => ?_)
      ·refine aE (aA (wq (aD 14 bDs rfl) rfl (wq (aM 1 (.slice _ _ _) sP M4 rfl rfl rfl) rfl (bY bQr rfl rfl (aIu _ BA nn cc o.bytes (hP.rd.memY M4 hdB) hP.byt hP.cap (by omega)) ?_))))
       rintro v25 w25 ⟨qd, rfl, hqd, hM25⟩
       have M25 : Mem _ _ [_, _, _, _, _] _ := M4.call0 hM25
       refine wq (aI (.tuple (List.toArray _)) rfl) rfl (wq (bN (.slice _ _ _) rfl rfl) rfl (wq (bN (.int _ _) rfl rfl) rfl (eJ rfl rfl (bH rfl rfl (aB (aC (aE (aA ?_))))))))
       refine aP rfl rfl (wq (aD 1 qU rfl) rfl (dB 3 (.int _ _) iP M25 rfl rfl rfl rfl rfl rfl (fun w26 M26 => (aB (aC (aE (aA (aP rfl rfl (cY rfl rfl rfl rfl ?_)))))))))
       refine aB (aC ?_)
       refine aV rfl (fun h75 => ?_) (fun h75 => ?_)
       ·refine aA (dI rfl rfl (wq (aD 0 qP rfl) rfl (dB 3 (.slice _ _ _) gA M26 rfl rfl rfl rfl rfl rfl (fun w27 M27 => (aB (cU ?_))))))
        refine aC (aE (aA (wq (aX 3 fP M27 rfl rfl rfl) rfl (bI 2 _ fP M27 rfl rfl rfl rfl rfl (aR rfl) rfl (fun w28 M28 => (aB (aC (aO (eL 2 fP M28 rfl rfl rfl ?_)))))))))
        exact ⟨qd, ⟨none, 0, 0, (none, default)⟩, by rw [aLy h64]; rfl, by rw [aLy h64]; exact (by unfold tB; rw [if_pos h75]; exact hqd), by rw [aLy h64]; exact bC.nil _ _ _, (M28.keep [false, false, false, false, true]).dummy default⟩
       ·refine aL (cU (aC (aE (aA (wq (aX 3 fP M26 rfl rfl rfl) rfl (bI 2 _ fP M26 rfl rfl rfl rfl rfl (aR rfl) rfl (fun w29 M29 => (aB (aC (aO ?_))))))))))
        refine eL 2 fP M29 rfl rfl rfl ?_
        exact ⟨q0, ⟨none, 0, 0, (none, default)⟩, by rw [aLy h64]; rfl, by rw [aLy h64]; exact (by unfold tB; rw [if_neg h75]; exact hq0), by rw [aLy h64]; exact bC.nil _ _ _, (M29.keep [true, false, false, false, false]).dummy default⟩
      ·refine aE (aA (cY rfl rfl rfl rfl (wq (aJ (.bool (decide _)) rfl) rfl (aB (aC ?_)))))
       refine aV rfl (fun h78 => ?_) (fun h78 => ?_)
       ·refine aE (aA (dI rfl rfl (wq (aD 11 aEl rfl) rfl (wq (aM 1 (.int _ _) bW M4 rfl rfl rfl) rfl (bY sD rfl rfl (gS _ o.key _ _ _ s (hq0.rd M4 (bB (i := 0) rfl))) ?_)))))
        rintro v30 w30 ⟨rfl, hb30⟩
        have M30 := M4.callB hb30
        refine bH rfl rfl (aB (aC (aE (aA (aP rfl rfl (cY rfl rfl rfl rfl (aB (aC ?_))))))))
        refine aV rfl (fun h85 => ?_) (fun h85 => ?_)
        ·refine aA (wq (aD 1 qU rfl) rfl (dB 3 (.int _ _) iP M30 rfl rfl rfl rfl rfl rfl (fun w31 M31 => (aB (cU (aC (aE (aA ?_))))))))
         refine wq (aX 3 fP M31 rfl rfl rfl) rfl (bI 2 _ fP M31 rfl rfl rfl rfl rfl (aR rfl) rfl (fun w32 M32 => (aB (aC (aO (eL 2 fP M32 rfl rfl rfl ?_))))))
         exact ⟨q0, ⟨none, 0, 0, (none, default)⟩, by rw [aPf h78, zF h85]; rfl, by rw [aPf h78, zF h85]; exact hq0, by rw [aPf h78, zF h85]; exact bC.nil _ _ _, (M32.keep [true, false, false, false]).dummy default⟩
        ·obtain ⟨i, bb, hbi, _, hfi⟩ := (eG o.key s).resolve_left (fun h => h85 (by omega))
         refine aA (dI rfl rfl (aP rfl rfl (wq (bP (i) dH rfl rfl hfi ((hq0.rd M30 (bB (i := 0) rfl)).below_len (aG aF hbi)) ((hq0.rd M30 (bB (i := 0) rfl)).someK (aG aF hbi))) rfl (wq (dL _ bO (hq0.rd M30 (bB (i := 0) rfl)) (aG aF hbi) rfl) rfl (wq (aD 2 bDw rfl) rfl ?_)))))
         refine sS 3 _ bO M30 rfl rfl rfl rfl rfl (aR rfl) (Nat.le_of_ble_eq_true rfl) (fun w33 M33 => (aB (cU (aC (aE (aA (wq (aX 3 fP M33 rfl rfl rfl) rfl (bI 2 _ fP M33 rfl rfl rfl rfl rfl (aR rfl) rfl (fun w34 M34 => ?_)))))))))
         refine aB (aC (aO (eL 2 fP M34 rfl rfl rfl ?_)))
         exact ⟨q0, ⟨none, 0, 0, (none, default)⟩, by rw [aPf h78, yR hfi hbi]; rfl, by rw [aPf h78, yR hfi hbi]; exact hq0, by rw [aPf h78, yR hfi hbi]; exact bC.nil _ _ _, (M34.keep [true, false, false, false]).dummy default⟩
       ·refine aL (cU (aC (aE (aA (wq (aX 3 fP M4 rfl rfl rfl) rfl (bI 2 _ fP M4 rfl rfl rfl rfl rfl (aR rfl) rfl (fun w35 M35 => (aB (aC (aO ?_))))))))))
        refine eL 2 fP M35 rfl rfl rfl ?_
        exact ⟨q0, ⟨none, 0, 0, (none, default)⟩, by rw [bEz h13 h24 h35 h48 h59 h64 h78]; rfl, by rw [bEz h13 h24 h35 h48 h59 h64 h78]; exact hq0, by rw [bEz h13 h24 h35 h48 h59 h64 h78]; exact bC.nil _ _ _, (M35.keep [true, false, false, false]).dummy default⟩
set_option maxHeartbeats 4000000 in
theorem aZr (w : World) :
  Calls Tryz.prog 83 #[(.func (.func 26) #[] #[] : Value), (.func (.func 84) #[] #[] : Value)] w (fun ex w' => ∃ v, ex = .returned v ∧ (fun v w' => ∃ fa ga : Nat, v = (.func (.func 120) #[] #[.pointer (some ⟨fa, 0, none⟩), .pointer (some ⟨ga, 0, none⟩)] : Value) ∧ Mem w [] [(some fa, bc [(.func (.func 26) #[] #[] : Value)] 143), (some ga, bc [(.func (.func 84) #[] #[] : Value)] 144)] w') v w') := by
 refine aH #[.tmp 4] 6 Tryz.func83 rfl Tryz.results83 Tryz.ntmps83 rfl ?_
 have M0 := Mem.refl w
 refine aE (aA (bJ (.func _ _ _) M0 rfl rfl rfl (fun b1 w1 M1 => (bJ (.func _ _ _) M1 rfl rfl rfl (fun b2 w2 M2 => (wq (aJ (_) rfl) rfl (aB (aC (aE (aA (wq (dR [] [.pointer _, .pointer _] rfl rfl) rfl ?_)))))))))))
 refine wq (aJ (.func _ _ _) rfl) rfl (aB (aC (aO (cD (.func _ _ _) rfl ?_))))
 exact ⟨_, _, rfl, M2⟩
set_option maxHeartbeats 4000000 in
theorem aLi (w : World) :
  Calls Tryz.prog 85 #[(.func (.func 86) #[] #[] : Value), (.func (.func 87) #[] #[] : Value)] w (fun ex w' => ∃ v, ex = .returned v ∧ (fun v w' => ∃ fa ga : Nat, v = (.func (.func 121) #[] #[.pointer (some ⟨fa, 0, none⟩), .pointer (some ⟨ga, 0, none⟩)] : Value) ∧ Mem w [] [(some fa, bc [(.func (.func 86) #[] #[] : Value)] 146), (some ga, bc [(.func (.func 87) #[] #[] : Value)] 148)] w') v w') := by
 refine aH #[.tmp 4] 6 Tryz.func85 rfl Tryz.results85 Tryz.ntmps85 rfl ?_
 have M0 := Mem.refl w
 refine aE (aA (bJ (.func _ _ _) M0 rfl rfl rfl (fun b1 w1 M1 => (bJ (.func _ _ _) M1 rfl rfl rfl (fun b2 w2 M2 => (wq (aJ (_) rfl) rfl (aB (aC (aE (aA (wq (dR [] [.pointer _, .pointer _] rfl rfl) rfl ?_)))))))))))
 refine wq (aJ (.func _ _ _) rfl) rfl (aB (aC (aO (cD (.func _ _ _) rfl ?_))))
 exact ⟨_, _, rfl, M2⟩
set_option maxHeartbeats 4000000 in
theorem aJp (w : World) :
  Calls Tryz.prog 88 #[(.func (.func 74) #[] #[] : Value), (.func (.func 89) #[] #[] : Value)] w (fun ex w' => ∃ v, ex = .returned v ∧ (fun v w' => ∃ fa ga : Nat, v = (.func (.func 123) #[] #[.pointer (some ⟨fa, 0, none⟩), .pointer (some ⟨ga, 0, none⟩)] : Value) ∧ Mem w [] [(some fa, bc [(.func (.func 74) #[] #[] : Value)] 150), (some ga, bc [(.func (.func 89) #[] #[] : Value)] 151)] w') v w') := by
 refine aH #[.tmp 4] 6 Tryz.func88 rfl Tryz.results88 Tryz.ntmps88 rfl ?_
 have M0 := Mem.refl w
 refine aE (aA (bJ (.func _ _ _) M0 rfl rfl rfl (fun b1 w1 M1 => (bJ (.func _ _ _) M1 rfl rfl rfl (fun b2 w2 M2 => (wq (aJ (_) rfl) rfl (aB (aC (aE (aA (wq (dR [] [.pointer _, .pointer _] rfl rfl) rfl ?_)))))))))))
 refine wq (aJ (.func _ _ _) rfl) rfl (aB (aC (aO (cD (.func _ _ _) rfl ?_))))
 exact ⟨_, _, rfl, M2⟩
set_option maxHeartbeats 4000000 in
theorem bLd (w : World) (o : OpI) (BA : Option Addr) (nn cc : Nat) :
  Calls Tryz.prog 84 #[.agg (fJ o BA nn cc).toArray] w (fun ex w' => ∃ v, ex = .returned v ∧ (fun v w' => v = (.agg (aF o.body).toArray) ∧ Below w.heap.size w w') v w') := by
 refine aH #[.cell 2 39] 5 Tryz.func84 rfl Tryz.results84 Tryz.ntmps84 rfl ?_
 have M0 := Mem.refl w
 refine aE (aA (bJ (.agg (List.toArray _)) M0 rfl rfl rfl (fun b1 w1 M1 => (aU fN M1 rfl rfl (fun b2 w2 M2 => (aB (aC (aE (aA (wq (aD 1 bIj rfl) rfl (wq (oN 0 _ bO M2 rfl rfl rfl rfl) rfl ?_)))))))))))
 refine bI 1 _ bO M2 rfl rfl rfl rfl rfl (aR rfl) rfl (fun w3 M3 => (aB (aC (aO (eL 1 bO M3 rfl rfl rfl ?_)))))
 exact ⟨rfl, M3.below⟩
set_option maxHeartbeats 4000000 in
theorem bLk (w : World) (o : OpI) (BA : Option Addr) (nn cc : Nat) :
  Calls Tryz.prog 87 #[.agg (fJ o BA nn cc).toArray] w (fun ex w' => ∃ v, ex = .returned v ∧ (fun v w' => v = .int .u32 o.key ∧ Below w.heap.size w w') v w') := by
 refine aH #[.tmp 2] 5 Tryz.func87 rfl Tryz.results87 Tryz.ntmps87 rfl ?_
 have M0 := Mem.refl w
 refine aE (aA (bJ (.agg (List.toArray _)) M0 rfl rfl rfl (fun b1 w1 M1 => (bH rfl rfl (aB (aC (aE (aA (wq (aD 11 aRz rfl) rfl (wq (aM 0 (.int _ _) bW M1 rfl rfl rfl) rfl ?_))))))))))
 refine bH rfl rfl (aB (aC (aO (cD (.int _ _) rfl ?_))))
 exact ⟨rfl, M1.below⟩
set_option maxHeartbeats 4000000 in
theorem bJv (w : World) (o : OpI) (BA : Option Addr) (nn cc : Nat) :
  Calls Tryz.prog 89 #[.agg (fJ o BA nn cc).toArray] w (fun ex w' => ∃ v, ex = .returned v ∧ (fun v w' => v = .slice BA nn cc ∧ Below w.heap.size w w') v w') := by
 refine aH #[.tmp 2] 5 Tryz.func89 rfl Tryz.results89 Tryz.ntmps89 rfl ?_
 have M0 := Mem.refl w
 refine aE (aA (bJ (.agg (List.toArray _)) M0 rfl rfl rfl (fun b1 w1 M1 => (eJ rfl rfl (aB (aC (aE (aA (wq (aD 14 bIa rfl) rfl (wq (aM 0 (.slice _ _ _) sP M1 rfl rfl rfl) rfl ?_))))))))))
 refine eJ rfl rfl (aB (aC (aO (cD (.slice _ _ _) rfl ?_))))
 exact ⟨rfl, M1.below⟩
def rG (f1 g1 f2 g2 f3 g3 : Nat) (k : Int) : Option Value := if k = 5 then some (.func (.func 93) #[] #[] : Value) else if k = 4 then some (.func (.func 92) #[] #[] : Value) else if k = 3 then some (.func (.func 90) #[] #[] : Value) else if k = 6 then some (.func (.func 123) #[] #[.pointer (some ⟨f3, 0, none⟩), .pointer (some ⟨g3, 0, none⟩)] : Value) else if k = 2 then some (.func (.func 121) #[] #[.pointer (some ⟨f2, 0, none⟩), .pointer (some ⟨g2, 0, none⟩)] : Value) else if k = 1 then some (.func (.func 120) #[] #[.pointer (some ⟨f1, 0, none⟩), .pointer (some ⟨g1, 0, none⟩)] : Value) else none
theorem aZz {f1 g1 f2 g2 f3 g3 : Nat} {k : Int} (h : k = 1) : rG f1 g1 f2 g2 f3 g3 k = some (.func (.func 120) #[] #[.pointer (some ⟨f1, 0, none⟩), .pointer (some ⟨g1, 0, none⟩)] : Value) := by subst h; rfl
theorem bDc {f1 g1 f2 g2 f3 g3 : Nat} {k : Int} (h : k = 2) : rG f1 g1 f2 g2 f3 g3 k = some (.func (.func 121) #[] #[.pointer (some ⟨f2, 0, none⟩), .pointer (some ⟨g2, 0, none⟩)] : Value) := by subst h; rfl
theorem aZt {f1 g1 f2 g2 f3 g3 : Nat} {k : Int} (h : k = 6) : rG f1 g1 f2 g2 f3 g3 k = some (.func (.func 123) #[] #[.pointer (some ⟨f3, 0, none⟩), .pointer (some ⟨g3, 0, none⟩)] : Value) := by subst h; rfl
theorem bDd {f1 g1 f2 g2 f3 g3 : Nat} {k : Int} (h : k = 3) : rG f1 g1 f2 g2 f3 g3 k = some (.func (.func 90) #[] #[] : Value) := by subst h; rfl
theorem aZa {f1 g1 f2 g2 f3 g3 : Nat} {k : Int} (h : k = 4) : rG f1 g1 f2 g2 f3 g3 k = some (.func (.func 92) #[] #[] : Value) := by subst h; rfl
theorem bAi {f1 g1 f2 g2 f3 g3 : Nat} {k : Int} (h : k = 5) : rG f1 g1 f2 g2 f3 g3 k = some (.func (.func 93) #[] #[] : Value) := by subst h; rfl
theorem bAx {f1 g1 f2 g2 f3 g3 : Nat} {k : Int} (h : k < 1 ∨ 6 < k) : rG f1 g1 f2 g2 f3 g3 k = none := by unfold rG; rw [if_neg (by omega), if_neg (by omega), if_neg (by omega), if_neg (by omega), if_neg (by omega), if_neg (by omega)]
set_option maxHeartbeats 4000000 in
theorem jK (w : World) :
  Calls Tryz.prog 55 #[] w (fun ex w' => ∃ v, ex = .returned v ∧ (fun v w' => ∃ (p : Option Nat) (e : eZ) (f1 g1 f2 g2 f3 g3 : Nat), v = .map p ∧ kA .i64 (fun v : Value => v) (rG f1 g1 f2 g2 f3 g3) p e ∧ Mem w [] [e, (some f1, bc [(.func (.func 26) #[] #[] : Value)] 143), (some g1, bc [(.func (.func 84) #[] #[] : Value)] 144), (some f2, bc [(.func (.func 86) #[] #[] : Value)] 146), (some g2, bc [(.func (.func 87) #[] #[] : Value)] 148), (some f3, bc [(.func (.func 74) #[] #[] : Value)] 150), (some g3, bc [(.func (.func 89) #[] #[] : Value)] 151)] w') v w') := by
 refine aH #[.tmp 0] 6 Tryz.func55 rfl Tryz.results55 Tryz.ntmps55 rfl ?_
 have M0 := Mem.refl w
 refine aE (aA (wq (aJ (.map _) rfl) rfl (aB (aC (aE (aA (mP M0 rfl rfl (fun b1 w1 M1 => (bY bQo rfl rfl (aZr _) ?_)))))))))
 rintro v2 w2 ⟨f1, g1, rfl, hM2⟩
 have M2 : Mem _ _ [_, _, _] _ := M1.call0 hM2
 refine oD (enc := (fun v : Value => v)) (v := (.func _ _ _)) 0 mQ M2 rfl rfl (kA.empty _ _ b1) rfl rfl rfl rfl (fun e3 w3 hm3 M3 => (bY bQq rfl rfl (aLi _) ?_))
 rintro v4 w4 ⟨f2, g2, rfl, hM4⟩
 have M4 : Mem _ _ [_, _, _, _, _] _ := M3.call0 hM4
 refine oD (enc := (fun v : Value => v)) (v := (.func _ _ _)) 0 mQ M4 rfl rfl hm3 rfl rfl rfl rfl (fun e5 w5 hm5 M5 => (bY bQj rfl rfl (aJp _) ?_))
 rintro v6 w6 ⟨f3, g3, rfl, hM6⟩
 have M6 : Mem _ _ [_, _, _, _, _, _, _] _ := M5.call0 hM6
 refine oD (enc := (fun v : Value => v)) (v := (.func _ _ _)) 0 mQ M6 rfl rfl hm5 rfl rfl rfl rfl (fun e7 w7 hm7 M7 => (oD (enc := (fun v : Value => v)) (v := (.func _ _ _)) 0 mQ M7 rfl rfl hm7 rfl rfl rfl rfl (fun e8 w8 hm8 M8 => (oD (enc := (fun v : Value => v)) (v := (.func _ _ _)) 0 mQ M8 rfl rfl hm8 rfl rfl rfl rfl (fun e9 w9 hm9 M9 => ?_)))))
 refine oD (enc := (fun v : Value => v)) (v := (.func _ _ _)) 0 mQ M9 rfl rfl hm9 rfl rfl rfl rfl (fun e10 w10 hm10 M10 => (wq (aI (.map _) rfl) rfl (wq (aJ (.map _) rfl) rfl (aB (aC (aO (cD (.map _) rfl ?_)))))))
 exact ⟨_, _, f1, g1, f2, g2, f3, g3, rfl, hm10, M10⟩
set_option maxHeartbeats 16000000 in
theorem bDe (w : World) (b : Nat) (r : StV) (vs : List Body) (hW : dF 39 r vs) (fa ga : Nat) (hO : Own [(some b, bc [.slice r.A r.n r.c, .map r.p] 107), r.er, r.em, (some fa, bc [(.func (.func 26) #[] #[] : Value)] 143), (some ga, bc [(.func (.func 84) #[] #[] : Value)] 144)] w) (o : OpI) (BA : Option Addr) (nn cc : Nat) (hP : OpOk w o BA nn cc) (hnn : nn ≤ 1000000) (hdB : 0 < nn → ∀ q off, BA = some ⟨q, off, none⟩ → q ∉ cA [(some b, bc [.slice r.A r.n r.c, .map r.p] 107), r.er, r.em, (some fa, bc [(.func (.func 26) #[] #[] : Value)] 143), (some ga, bc [(.func (.func 84) #[] #[] : Value)] 144)]) :
  Calls Tryz.prog 120 #[.pointer (some ⟨b, 0, none⟩), .agg (fJ o BA nn cc).toArray, .pointer (some ⟨fa, 0, none⟩), .pointer (some ⟨ga, 0, none⟩)] w (fun ex w' => ∃ v, ex = .returned v ∧ (fun v w' => ∃ r' : StV, v = .agg [.int .i64 (nO vs o.body).2, .slice none 0 0, .int .i64 0, .bool false].toArray ∧ dF 39 r' ((nO vs o.body).1) ∧ Mem w (cA [(some b, bc [.slice r.A r.n r.c, .map r.p] 107), r.er, r.em, (some fa, bc [(.func (.func 26) #[] #[] : Value)] 143), (some ga, bc [(.func (.func 84) #[] #[] : Value)] 144)]) [(some b, bc [.slice r'.A r'.n r'.c, .map r'.p] 107), r'.er, r'.em, (some fa, bc [(.func (.func 26) #[] #[] : Value)] 143), (some ga, bc [(.func (.func 84) #[] #[] : Value)] 144)] w') v w') := by
 have hG := hW.1
 have hbl := hP.len
 refine aH #[.cell 6 33] 14 Tryz.func120 rfl Tryz.results120 Tryz.ntmps120 rfl ?_
 have M0 := hO.mem
 refine aE (aA (bJ (.agg (List.toArray _)) M0 rfl rfl rfl (fun b1 w1 M1 => (aU mS M1 rfl rfl (fun b2 w2 M2 => (aB (aC (aE (bQ [(0, 1), (1, 0), (2, 1), (3, 1), (4, 2), (5, 2), (6, 0), (7, 2)] mixed rfl (by kernel_rfl) (fun w3 hb3 hh3 => ?_))))))))))
 have M3 := M2.drew hb3 hh3
 refine bS rfl rfl rfl (aM 3 (.func _ _ _) bDz M3 rfl rfl rfl) (aW rfl rfl rfl (fun _ => aI (.pointer _) rfl) (bS rfl rfl rfl (aM 4 (.func _ _ _) bNb M3 rfl rfl rfl) (bS rfl rfl rfl (aX 5 pR M3 rfl rfl rfl) (dU [true, true, false] rfl (by kernel_rfl) (bY bQu rfl rfl (bLd _ o BA nn cc) ?_)))))
 rintro v4 w4 ⟨rfl, hb4⟩
 have M4 := M3.callB hb4
 refine aB (aC ⟨(eB (bM rfl (aM 3 (.func _ _ _) bDz M4 rfl rfl rfl)) dT), ?_⟩)
 refine dU [true] rfl (by kernel_rfl) (bY bQk rfl rfl (aVs _ _ r vs hW (M4.ownSeg 0 3) o.body hP.body) ?_)
 rintro v5 w5 ⟨r2, rfl, hw2, hM5⟩
 have M5 : Mem _ _ [_, _, _, _, _, _, _] _ := M4.seg 0 3 hM5
 refine aB (aC ⟨dT, ?_⟩)
 refine aW rfl rfl rfl (fun _ => cG [(0, .int _ _)] _ oR rfl rfl) (dU [] rfl (by kernel_rfl) (bI 6 _ jC M5 rfl rfl rfl rfl rfl (aR rfl) rfl (fun w6 M6 => ?_)))
 refine aB (aC ⟨dT, ?_⟩)
 refine bX (aC (aO (eL 6 jC M6 rfl rfl rfl ?_)))
 exact ⟨r2, rfl, hw2, M6.keep [true, true, true, true, true, false, false]⟩
set_option maxHeartbeats 16000000 in
theorem aMj (w : World) (b : Nat) (r : StV) (vs : List Body) (hW : dF 39 r vs) (fa ga : Nat) (hO : Own [(some b, bc [.slice r.A r.n r.c, .map r.p] 107), r.er, r.em, (some fa, bc [(.func (.func 86) #[] #[] : Value)] 146), (some ga, bc [(.func (.func 87) #[] #[] : Value)] 148)] w) (o : OpI) (BA : Option Addr) (nn cc : Nat) (hP : OpOk w o BA nn cc) (hnn : nn ≤ 1000000) (hdB : 0 < nn → ∀ q off, BA = some ⟨q, off, none⟩ → q ∉ cA [(some b, bc [.slice r.A r.n r.c, .map r.p] 107), r.er, r.em, (some fa, bc [(.func (.func 86) #[] #[] : Value)] 146), (some ga, bc [(.func (.func 87) #[] #[] : Value)] 148)]) :
  Calls Tryz.prog 121 #[.pointer (some ⟨b, 0, none⟩), .agg (fJ o BA nn cc).toArray, .pointer (some ⟨fa, 0, none⟩), .pointer (some ⟨ga, 0, none⟩)] w (fun ex w' => ∃ v, ex = .returned v ∧ (fun v w' => ∃ r' : StV, v = .agg [.int .i64 (gG vs o.key).2, .slice none 0 0, .int .i64 0, .bool false].toArray ∧ dF 39 r' ((gG vs o.key).1) ∧ Mem w (cA [(some b, bc [.slice r.A r.n r.c, .map r.p] 107), r.er, r.em, (some fa, bc [(.func (.func 86) #[] #[] : Value)] 146), (some ga, bc [(.func (.func 87) #[] #[] : Value)] 148)]) [(some b, bc [.slice r'.A r'.n r'.c, .map r'.p] 107), r'.er, r'.em, (some fa, bc [(.func (.func 86) #[] #[] : Value)] 146), (some ga, bc [(.func (.func 87) #[] #[] : Value)] 148)] w') v w') := by
 have hG := hW.1
 have hbl := hP.len
 refine aH #[.cell 6 33] 14 Tryz.func121 rfl Tryz.results121 Tryz.ntmps121 rfl ?_
 have M0 := hO.mem
 refine aE (aA (bJ (.agg (List.toArray _)) M0 rfl rfl rfl (fun b1 w1 M1 => (aU mS M1 rfl rfl (fun b2 w2 M2 => (aB (aC (aE (bQ [(0, 1), (1, 0), (2, 1), (3, 1), (4, 2), (5, 2), (6, 0), (7, 2)] mixed rfl (by kernel_rfl) (fun w3 hb3 hh3 => ?_))))))))))
 have M3 := M2.drew hb3 hh3
 refine bS rfl rfl rfl (aM 3 (.func _ _ _) bDr M3 rfl rfl rfl) (aW rfl rfl rfl (fun _ => aI (.pointer _) rfl) (bS rfl rfl rfl (aM 4 (.func _ _ _) bOv M3 rfl rfl rfl) (bS rfl rfl rfl (aX 5 pR M3 rfl rfl rfl) (dU [true, true, false] rfl (by kernel_rfl) (bY bPu rfl rfl (bLk _ o BA nn cc) ?_)))))
 rintro v4 w4 ⟨rfl, hb4⟩
 have M4 := M3.callB hb4
 refine aB (aC ⟨(eB (bM rfl (aM 3 (.func _ _ _) bDr M4 rfl rfl rfl)) dT), ?_⟩)
 refine dU [true] rfl (by kernel_rfl) (bY bPc rfl rfl (aJf _ _ r vs hW (M4.ownSeg 0 3) o.key) ?_)
 rintro v5 w5 ⟨r2, rfl, hw2, hM5⟩
 have M5 : Mem _ _ [_, _, _, _, _, _, _] _ := M4.seg 0 3 hM5
 refine aB (aC ⟨dT, ?_⟩)
 refine aW rfl rfl rfl (fun _ => cG [(0, .int _ _)] _ oR rfl rfl) (dU [] rfl (by kernel_rfl) (bI 6 _ jC M5 rfl rfl rfl rfl rfl (aR rfl) rfl (fun w6 M6 => ?_)))
 refine aB (aC ⟨dT, ?_⟩)
 refine bX (aC (aO (eL 6 jC M6 rfl rfl rfl ?_)))
 exact ⟨r2, rfl, hw2, M6.keep [true, true, true, true, true, false, false]⟩
set_option maxHeartbeats 16000000 in
theorem aIt (w : World) (b : Nat) (r : StV) (vs : List Body) (hW : dF 39 r vs) (fa ga : Nat) (hO : Own [(some b, bc [.slice r.A r.n r.c, .map r.p] 107), r.er, r.em, (some fa, bc [(.func (.func 74) #[] #[] : Value)] 150), (some ga, bc [(.func (.func 89) #[] #[] : Value)] 151)] w) (o : OpI) (BA : Option Addr) (nn cc : Nat) (hP : OpOk w o BA nn cc) (hnn : nn ≤ 1000000) (hdB : 0 < nn → ∀ q off, BA = some ⟨q, off, none⟩ → q ∉ cA [(some b, bc [.slice r.A r.n r.c, .map r.p] 107), r.er, r.em, (some fa, bc [(.func (.func 74) #[] #[] : Value)] 150), (some ga, bc [(.func (.func 89) #[] #[] : Value)] 151)]) :
  Calls Tryz.prog 123 #[.pointer (some ⟨b, 0, none⟩), .agg (fJ o BA nn cc).toArray, .pointer (some ⟨fa, 0, none⟩), .pointer (some ⟨ga, 0, none⟩)] w (fun ex w' => ∃ v, ex = .returned v ∧ (fun v w' => ∃ r' : StV, v = .agg [.int .i64 (nP o.bytes).2, .slice none 0 0, .int .i64 0, .bool false].toArray ∧ dF 39 r' (tB vs o.bytes) ∧ Mem w (cA [(some b, bc [.slice r.A r.n r.c, .map r.p] 107), r.er, r.em, (some fa, bc [(.func (.func 74) #[] #[] : Value)] 150), (some ga, bc [(.func (.func 89) #[] #[] : Value)] 151)]) [(some b, bc [.slice r'.A r'.n r'.c, .map r'.p] 107), r'.er, r'.em, (some fa, bc [(.func (.func 74) #[] #[] : Value)] 150), (some ga, bc [(.func (.func 89) #[] #[] : Value)] 151)] w') v w') := by
 have hG := hW.1
 have hbl := hP.len
 refine aH #[.cell 6 33] 14 Tryz.func123 rfl Tryz.results123 Tryz.ntmps123 rfl ?_
 have M0 := hO.mem
 refine aE (aA (bJ (.agg (List.toArray _)) M0 rfl rfl rfl (fun b1 w1 M1 => (aU mS M1 rfl rfl (fun b2 w2 M2 => (aB (aC (aE (bQ [(0, 1), (1, 0), (2, 1), (3, 1), (4, 2), (5, 2), (6, 0), (7, 2)] mixed rfl (by kernel_rfl) (fun w3 hb3 hh3 => ?_))))))))))
 have M3 := M2.drew hb3 hh3
 refine bS rfl rfl rfl (aM 3 (.func _ _ _) bAh M3 rfl rfl rfl) (aW rfl rfl rfl (fun _ => aI (.pointer _) rfl) (bS rfl rfl rfl (aM 4 (.func _ _ _) bNn M3 rfl rfl rfl) (bS rfl rfl rfl (aX 5 pR M3 rfl rfl rfl) (dU [true, true, false] rfl (by kernel_rfl) (bY bRc rfl rfl (bJv _ o BA nn cc) ?_)))))
 rintro v4 w4 ⟨rfl, hb4⟩
 have M4 := M3.callB hb4
 refine aB (aC ⟨(eB (bM rfl (aM 3 (.func _ _ _) bAh M4 rfl rfl rfl)) dT), ?_⟩)
 refine dU [true] rfl (by kernel_rfl) (bY bPn rfl rfl (aFs _ _ r vs hW (M4.ownSeg 0 3) BA nn cc o.bytes (hP.rd.memY M4 hdB) hP.byt hP.cap hnn (M4.away 0 3 hP.rd hdB)) ?_)
 rintro v5 w5 ⟨r2, rfl, hw2, hM5⟩
 have M5 : Mem _ _ [_, _, _, _, _, _, _] _ := M4.seg 0 3 hM5
 refine aB (aC ⟨dT, ?_⟩)
 refine aW rfl rfl rfl (fun _ => cG [(0, .int _ _)] _ oR rfl rfl) (dU [] rfl (by kernel_rfl) (bI 6 _ jC M5 rfl rfl rfl rfl rfl (aR rfl) rfl (fun w6 M6 => ?_)))
 refine aB (aC ⟨dT, ?_⟩)
 refine bX (aC (aO (eL 6 jC M6 rfl rfl rfl ?_)))
 exact ⟨r2, rfl, hw2, M6.keep [true, true, true, true, true, false, false]⟩
set_option maxHeartbeats 32000000 in
theorem aJc (w : World)  (b : Nat) (r : StV) (vs : List Body) (hW : dF 39 r vs) (hO : Own [(some b, bc [.slice r.A r.n r.c, .map r.p] 107), r.er, r.em] w) (o : OpI) (BA : Option Addr) (nn cc : Nat) (hP : OpOk w o BA nn cc) (hnn : nn ≤ 1000000) (hdB : 0 < nn → ∀ q off, BA = some ⟨q, off, none⟩ → q ∉ cA [(some b, bc [.slice r.A r.n r.c, .map r.p] 107), r.er, r.em]) (hk : o.kind = 3) :
  Calls Tryz.prog 90 #[.pointer (some ⟨b, 0, none⟩), .agg (fJ o BA nn cc).toArray] w (fun ex w' => ∃ v, ex = .returned v ∧ (fun v w' => ∃ (r' : StV) (p : Row), v = .agg (eH (iT vs o).2 p).toArray ∧ dF 39 r' (iT vs o).1 ∧ bC 5 1 p.A p.n p.c (((iT vs o).2.bytes).map bL) p.e ∧ Mem w (cA [(some b, bc [.slice r.A r.n r.c, .map r.p] 107), r.er, r.em]) [(some b, bc [.slice r'.A r'.n r'.c, .map r'.p] 107), r'.er, r'.em, p.e] w') v w') := by
 have hG := hW.1
 have hbl := hP.len
 refine aH #[.cell 4 33] 12 Tryz.func90 rfl Tryz.results90 Tryz.ntmps90 rfl ?_
 have M0 := hO.mem
 refine aE (aA (bJ (.agg (List.toArray _)) M0 rfl rfl rfl (fun b1 w1 M1 => (aU mS M1 rfl rfl (fun b2 w2 M2 => (aB (aC (aE (aA (wq (aI (.pointer _) rfl) rfl (wq (aD 11 aRz rfl) rfl ?_)))))))))))
 refine wq (aM 3 (.int _ _) bW M2 rfl rfl rfl) rfl (wq (aD 12 bGq rfl) rfl (wq (oN 3 _ bK M2 rfl rfl rfl rfl) rfl (bY bQl rfl rfl (aGp _ _ r vs hW (M2.ownSeg 0 3) o.key o.push hP.p1 hP.p2) ?_)))
 rintro v3 w3 ⟨r2, rfl, hw2, hM3⟩
 have M3 : Mem _ _ [_, _, _, _, _] _ := M2.seg 0 3 hM3
 refine wq (cG [(0, .int _ _)] _ oR rfl rfl) rfl (bI 4 _ jC M3 rfl rfl rfl rfl rfl (aR rfl) rfl (fun w4 M4 => (aB (aC (aO (eL 4 jC M4 rfl rfl rfl ?_))))))
 exact ⟨r2, ⟨none, 0, 0, (none, default)⟩, by rw [bNe hk]; rfl, by rw [bNe hk]; exact hw2, by rw [bNe hk]; exact bC.nil _ _ _, (M4.keep [true, true, true, false, false]).dummy default⟩
set_option maxHeartbeats 32000000 in
theorem aVw (w : World) (F : Rd w 2 (some ⟨0, 0, none⟩) 1 [[.int .u32 73856093, .int .u32 19349663]]) (N : Rd w 4 (some ⟨3, 0, none⟩) 1 [eK jX]) (b : Nat) (r : StV) (vs : List Body) (hW : dF 39 r vs) (hO : Own [(some b, bc [.slice r.A r.n r.c, .map r.p] 107), r.er, r.em] w) (o : OpI) (BA : Option Addr) (nn cc : Nat) (hP : OpOk w o BA nn cc) (hnn : nn ≤ 1000000) (hdB : 0 < nn → ∀ q off, BA = some ⟨q, off, none⟩ → q ∉ cA [(some b, bc [.slice r.A r.n r.c, .map r.p] 107), r.er, r.em]) (hdF : 0 < 1 → ∀ q off, (some ⟨0, 0, none⟩ : Option Addr) = some ⟨q, off, none⟩ → q ∉ cA [(some b, bc [.slice r.A r.n r.c, .map r.p] 107), r.er, r.em]) (hdN : 0 < 1 → ∀ q off, (some ⟨3, 0, none⟩ : Option Addr) = some ⟨q, off, none⟩ → q ∉ cA [(some b, bc [.slice r.A r.n r.c, .map r.p] 107), r.er, r.em]) (hk : o.kind = 4) :
  Calls Tryz.prog 92 #[.pointer (some ⟨b, 0, none⟩), .agg (fJ o BA nn cc).toArray] w (fun ex w' => ∃ v, ex = .returned v ∧ (fun v w' => ∃ (r' : StV) (p : Row), v = .agg (eH (iT vs o).2 p).toArray ∧ dF 39 r' (iT vs o).1 ∧ bC 5 1 p.A p.n p.c (((iT vs o).2.bytes).map bL) p.e ∧ Mem w (cA [(some b, bc [.slice r.A r.n r.c, .map r.p] 107), r.er, r.em]) [(some b, bc [.slice r'.A r'.n r'.c, .map r'.p] 107), r'.er, r'.em, p.e] w') v w') := by
 have hG := hW.1
 have hbl := hP.len
 refine aH #[.cell 4 33] 13 Tryz.func92 rfl Tryz.results92 Tryz.ntmps92 rfl ?_
 have M0 := hO.mem
 refine aE (aA (bJ (.agg (List.toArray _)) M0 rfl rfl rfl (fun b1 w1 M1 => (aU mS M1 rfl rfl (fun b2 w2 M2 => (aB (aC (aE (aA (wq (aI (.pointer _) rfl) rfl (bY bPf rfl rfl (aQs _ (F.memY M2 hdF) (N.memY M2 hdN) _ r vs hW (M2.ownSeg 0 3) (M2.away 0 3 F hdF) (M2.away 0 3 N hdN)) ?_)))))))))))
 rintro v3 w3 ⟨r2, ts, rfl, hw2, hM3⟩
 have M3 : Mem _ _ [_, _, _, _, _] _ := M2.seg 0 3 hM3
 refine aU aKs M3 rfl rfl (fun b4 w4 M4 => (bI 5 _ aAj M4 rfl rfl rfl rfl rfl (aR rfl) rfl (fun w5 M5 => (aB (aC (aE (aA (wq (aD 1 aSy rfl) rfl (wq (aM 5 (.int _ _) iP M5 rfl rfl rfl) rfl (wq (aD 2 aBz rfl) rfl ?_))))))))))
 refine wq (aM 5 (.bool _) pD M5 rfl rfl rfl) rfl (wq (cG [(2, .int _ _), (3, .bool _)] _ oR rfl rfl) rfl (bI 4 _ jC M5 rfl rfl rfl rfl rfl (aR rfl) rfl (fun w6 M6 => (aB (aC (aO (eL 4 jC M6 rfl rfl rfl ?_)))))))
 exact ⟨r2, ⟨none, 0, 0, (none, default)⟩, by rw [bGx hk]; rfl, by rw [bGx hk]; exact hw2, by rw [bGx hk]; exact bC.nil _ _ _, (M6.keep [true, true, true, false, false, false]).dummy default⟩
set_option maxHeartbeats 32000000 in
theorem aFy (w : World)  (b : Nat) (r : StV) (vs : List Body) (hW : dF 39 r vs) (hO : Own [(some b, bc [.slice r.A r.n r.c, .map r.p] 107), r.er, r.em] w) (o : OpI) (BA : Option Addr) (nn cc : Nat) (hP : OpOk w o BA nn cc) (hnn : nn ≤ 1000000) (hdB : 0 < nn → ∀ q off, BA = some ⟨q, off, none⟩ → q ∉ cA [(some b, bc [.slice r.A r.n r.c, .map r.p] 107), r.er, r.em]) (hk : o.kind = 5) :
  Calls Tryz.prog 93 #[.pointer (some ⟨b, 0, none⟩), .agg (fJ o BA nn cc).toArray] w (fun ex w' => ∃ v, ex = .returned v ∧ (fun v w' => ∃ (r' : StV) (p : Row), v = .agg (eH (iT vs o).2 p).toArray ∧ dF 39 r' (iT vs o).1 ∧ bC 5 1 p.A p.n p.c (((iT vs o).2.bytes).map bL) p.e ∧ Mem w (cA [(some b, bc [.slice r.A r.n r.c, .map r.p] 107), r.er, r.em]) [(some b, bc [.slice r'.A r'.n r'.c, .map r'.p] 107), r'.er, r'.em, p.e] w') v w') := by
 have hG := hW.1
 have hbl := hP.len
 refine aH #[.cell 4 33] 8 Tryz.func93 rfl Tryz.results93 Tryz.ntmps93 rfl ?_
 have M0 := hO.mem
 refine aE (aA (bJ (.agg (List.toArray _)) M0 rfl rfl rfl (fun b1 w1 M1 => (aU mS M1 rfl rfl (fun b2 w2 M2 => (aB (aC (aE (aA (wq (aI (.pointer _) rfl) rfl (bY bRg rfl rfl (aDi _ _ r vs hW (M2.ownSeg 0 3)) ?_)))))))))))
 rintro v3 w3 ⟨pb, rfl, hpb, hM3⟩
 have M3 : Mem _ _ [_, _, _, _, _, _] _ := M2.seg 0 3 hM3
 refine wq (cG [(1, .slice _ _ _)] _ oR rfl rfl) rfl (bI 4 _ jC M3 rfl rfl rfl rfl rfl (aR rfl) rfl (fun w4 M4 => (aB (aC (aO (eL 4 jC M4 rfl rfl rfl ?_))))))
 exact ⟨r, pb, by rw [bGa hk]; rfl, by rw [bGa hk]; exact hW, by rw [bGa hk]; exact hpb, (M4.keep [true, true, true, false, false, true])⟩
set_option maxHeartbeats 32000000 in
theorem aQe (w : World)  (b : Nat) (r : StV) (vs : List Body) (hW : dF 39 r vs) (hO : Own [(some b, bc [.slice r.A r.n r.c, .map r.p] 107), r.er, r.em] w) (o : OpI) (BA : Option Addr) (nn cc : Nat) (hP : OpOk w o BA nn cc) (hnn : nn ≤ 1000000) (hdB : 0 < nn → ∀ q off, BA = some ⟨q, off, none⟩ → q ∉ cA [(some b, bc [.slice r.A r.n r.c, .map r.p] 107), r.er, r.em]) (hk : o.kind = 1) :
  Calls Tryz.prog 20 #[.pointer (some ⟨b, 0, none⟩), .agg (fJ o BA nn cc).toArray] w (fun ex w' => ∃ v, ex = .returned v ∧ (fun v w' => ∃ (r' : StV) (p : Row), v = .agg (eH (iT vs o).2 p).toArray ∧ dF 39 r' (iT vs o).1 ∧ bC 5 1 p.A p.n p.c (((iT vs o).2.bytes).map bL) p.e ∧ Mem w (cA [(some b, bc [.slice r.A r.n r.c, .map r.p] 107), r.er, r.em]) [(some b, bc [.slice r'.A r'.n r'.c, .map r'.p] 107), r'.er, r'.em, p.e] w') v w') := by
 have hG := hW.1
 have hbl := hP.len
 refine aH #[.cell 4 33] 21 Tryz.func20 rfl Tryz.results20 Tryz.ntmps20 rfl ?_
 have M0 := hO.mem
 refine aE (aA (bJ (.agg (List.toArray _)) M0 rfl rfl rfl (fun b1 w1 M1 => (aU mS M1 rfl rfl (fun b2 w2 M2 => (aB (aC (aE (bQ [(1, 0), (2, 1), (0, 2), (3, 1), (4, 0), (5, 0), (6, 0), (7, 0), (8, 0)] mixed rfl (by kernel_rfl) (fun w3 hb3 hh3 => ?_))))))))))
 have M3 := M2.drew hb3 hh3
 refine aW rfl rfl rfl (fun _ => aD 0 rT rfl) (bS rfl rfl rfl (aM 3 (.int _ _) iP M3 rfl rfl rfl) (dU [false] rfl (by kernel_rfl) (bY aCt rfl rfl (jK _) ?_)))
 rintro v4 w4 ⟨pm, em, f1, g1, f2, g2, f3, g3, rfl, hmap, hM4⟩
 have M4 : Mem _ _ [_, _, _, _, _, _, _, _, _, _, _, _] _ := M3.call0 hM4
 refine aB (aC ⟨(eB (bM rfl (aM 3 (.int _ _) iP M4 rfl rfl rfl)) dT), ?_⟩)
 refine bS rfl rfl rfl (kD (enc := (fun v : Value => v)) .nilFunc 5 mQ aOy M4 rfl hmap rfl rfl) (dW 11 (.tuple [(.func (.func 120) #[] #[.pointer (some ⟨f1, 0, none⟩), .pointer (some ⟨g1, 0, none⟩)] : Value), .bool true].toArray) (oE (aZz hk)) (aW rfl rfl rfl (fun _ => aI (.tuple (List.toArray _)) rfl) ?_))
 refine aW rfl rfl rfl (fun _ => bN (.func _ _ _) rfl rfl) (aW rfl rfl rfl (fun _ => bN (.bool true) rfl rfl) (aW rfl rfl rfl (fun _ => aJ (.func _ _ _) rfl) (aW rfl rfl rfl (fun _ => aJ (.bool true) rfl) (bX (aC (aE (aE (aA ?_))))))))
 refine wq (aI (.bool true) rfl) rfl (wq (gU false rfl rfl) rfl (aB (aC (cJ rfl (aL (aC (aE (aA (wq (aI (.func _ _ _) rfl) rfl ?_)))))))))
 refine wq (aI (.pointer _) rfl) rfl (wq (aX 3 pR M4 rfl rfl rfl) rfl (bY bOj rfl rfl (bDe _ _ r vs hW _ _ (M4.ownK [true, true, true, false, false, false, true, true, false, false, false, false]) o BA nn cc (hP.memY M4 hdB) hnn (M4.awayK [true, true, true, false, false, false, true, true, false, false, false, false] hP.rd hdB)) ?_))
 rintro v5 w5 ⟨r2, rfl, hw2, hM5⟩
 have M5 : Mem _ _ [_, _, _, _, _, _, _, _, _, _, _, _] _ := M4.callK [true, true, true, false, false, false, true, true, false, false, false, false] rfl hM5
 refine bI 6 _ jC M5 rfl rfl rfl rfl rfl (aR rfl) rfl (fun w6 M6 => (aB (aC (aO (eL 6 jC M6 rfl rfl rfl ?_)))))
 exact ⟨r2, ⟨none, 0, 0, (none, default)⟩, by rw [bHj hk]; rfl, by rw [bHj hk]; exact hw2, by rw [bHj hk]; exact bC.nil _ _ _, (M6.keep [true, true, true, false, false, false, false, false, false, false, false, false]).dummy default⟩
set_option maxHeartbeats 32000000 in
theorem aPh (w : World)  (b : Nat) (r : StV) (vs : List Body) (hW : dF 39 r vs) (hO : Own [(some b, bc [.slice r.A r.n r.c, .map r.p] 107), r.er, r.em] w) (o : OpI) (BA : Option Addr) (nn cc : Nat) (hP : OpOk w o BA nn cc) (hnn : nn ≤ 1000000) (hdB : 0 < nn → ∀ q off, BA = some ⟨q, off, none⟩ → q ∉ cA [(some b, bc [.slice r.A r.n r.c, .map r.p] 107), r.er, r.em]) (hk : o.kind = 2) :
  Calls Tryz.prog 20 #[.pointer (some ⟨b, 0, none⟩), .agg (fJ o BA nn cc).toArray] w (fun ex w' => ∃ v, ex = .returned v ∧ (fun v w' => ∃ (r' : StV) (p : Row), v = .agg (eH (iT vs o).2 p).toArray ∧ dF 39 r' (iT vs o).1 ∧ bC 5 1 p.A p.n p.c (((iT vs o).2.bytes).map bL) p.e ∧ Mem w (cA [(some b, bc [.slice r.A r.n r.c, .map r.p] 107), r.er, r.em]) [(some b, bc [.slice r'.A r'.n r'.c, .map r'.p] 107), r'.er, r'.em, p.e] w') v w') := by
 have hG := hW.1
 have hbl := hP.len
 refine aH #[.cell 4 33] 21 Tryz.func20 rfl Tryz.results20 Tryz.ntmps20 rfl ?_
 have M0 := hO.mem
 refine aE (aA (bJ (.agg (List.toArray _)) M0 rfl rfl rfl (fun b1 w1 M1 => (aU mS M1 rfl rfl (fun b2 w2 M2 => (aB (aC (aE (bQ [(1, 0), (2, 1), (0, 2), (3, 1), (4, 0), (5, 0), (6, 0), (7, 0), (8, 0)] mixed rfl (by kernel_rfl) (fun w3 hb3 hh3 => ?_))))))))))
 have M3 := M2.drew hb3 hh3
 refine aW rfl rfl rfl (fun _ => aD 0 rT rfl) (bS rfl rfl rfl (aM 3 (.int _ _) iP M3 rfl rfl rfl) (dU [false] rfl (by kernel_rfl) (bY aCt rfl rfl (jK _) ?_)))
 rintro v4 w4 ⟨pm, em, f1, g1, f2, g2, f3, g3, rfl, hmap, hM4⟩
 have M4 : Mem _ _ [_, _, _, _, _, _, _, _, _, _, _, _] _ := M3.call0 hM4
 refine aB (aC ⟨(eB (bM rfl (aM 3 (.int _ _) iP M4 rfl rfl rfl)) dT), ?_⟩)
 refine bS rfl rfl rfl (kD (enc := (fun v : Value => v)) .nilFunc 5 mQ aOy M4 rfl hmap rfl rfl) (dW 11 (.tuple [(.func (.func 121) #[] #[.pointer (some ⟨f2, 0, none⟩), .pointer (some ⟨g2, 0, none⟩)] : Value), .bool true].toArray) (oE (bDc hk)) (aW rfl rfl rfl (fun _ => aI (.tuple (List.toArray _)) rfl) ?_))
 refine aW rfl rfl rfl (fun _ => bN (.func _ _ _) rfl rfl) (aW rfl rfl rfl (fun _ => bN (.bool true) rfl rfl) (aW rfl rfl rfl (fun _ => aJ (.func _ _ _) rfl) (aW rfl rfl rfl (fun _ => aJ (.bool true) rfl) (bX (aC (aE (aE (aA ?_))))))))
 refine wq (aI (.bool true) rfl) rfl (wq (gU false rfl rfl) rfl (aB (aC (cJ rfl (aL (aC (aE (aA (wq (aI (.func _ _ _) rfl) rfl ?_)))))))))
 refine wq (aI (.pointer _) rfl) rfl (wq (aX 3 pR M4 rfl rfl rfl) rfl (bY bNk rfl rfl (aMj _ _ r vs hW _ _ (M4.ownK [true, true, true, false, false, false, false, false, true, true, false, false]) o BA nn cc (hP.memY M4 hdB) hnn (M4.awayK [true, true, true, false, false, false, false, false, true, true, false, false] hP.rd hdB)) ?_))
 rintro v5 w5 ⟨r2, rfl, hw2, hM5⟩
 have M5 : Mem _ _ [_, _, _, _, _, _, _, _, _, _, _, _] _ := M4.callK [true, true, true, false, false, false, false, false, true, true, false, false] rfl hM5
 refine bI 6 _ jC M5 rfl rfl rfl rfl rfl (aR rfl) rfl (fun w6 M6 => (aB (aC (aO (eL 6 jC M6 rfl rfl rfl ?_)))))
 exact ⟨r2, ⟨none, 0, 0, (none, default)⟩, by rw [bId hk]; rfl, by rw [bId hk]; exact hw2, by rw [bId hk]; exact bC.nil _ _ _, (M6.keep [true, true, true, false, false, false, false, false, false, false, false, false]).dummy default⟩
set_option maxHeartbeats 32000000 in
theorem aQv (w : World)  (b : Nat) (r : StV) (vs : List Body) (hW : dF 39 r vs) (hO : Own [(some b, bc [.slice r.A r.n r.c, .map r.p] 107), r.er, r.em] w) (o : OpI) (BA : Option Addr) (nn cc : Nat) (hP : OpOk w o BA nn cc) (hnn : nn ≤ 1000000) (hdB : 0 < nn → ∀ q off, BA = some ⟨q, off, none⟩ → q ∉ cA [(some b, bc [.slice r.A r.n r.c, .map r.p] 107), r.er, r.em]) (hk : o.kind = 6) :
  Calls Tryz.prog 20 #[.pointer (some ⟨b, 0, none⟩), .agg (fJ o BA nn cc).toArray] w (fun ex w' => ∃ v, ex = .returned v ∧ (fun v w' => ∃ (r' : StV) (p : Row), v = .agg (eH (iT vs o).2 p).toArray ∧ dF 39 r' (iT vs o).1 ∧ bC 5 1 p.A p.n p.c (((iT vs o).2.bytes).map bL) p.e ∧ Mem w (cA [(some b, bc [.slice r.A r.n r.c, .map r.p] 107), r.er, r.em]) [(some b, bc [.slice r'.A r'.n r'.c, .map r'.p] 107), r'.er, r'.em, p.e] w') v w') := by
 have hG := hW.1
 have hbl := hP.len
 refine aH #[.cell 4 33] 21 Tryz.func20 rfl Tryz.results20 Tryz.ntmps20 rfl ?_
 have M0 := hO.mem
 refine aE (aA (bJ (.agg (List.toArray _)) M0 rfl rfl rfl (fun b1 w1 M1 => (aU mS M1 rfl rfl (fun b2 w2 M2 => (aB (aC (aE (bQ [(1, 0), (2, 1), (0, 2), (3, 1), (4, 0), (5, 0), (6, 0), (7, 0), (8, 0)] mixed rfl (by kernel_rfl) (fun w3 hb3 hh3 => ?_))))))))))
 have M3 := M2.drew hb3 hh3
 refine aW rfl rfl rfl (fun _ => aD 0 rT rfl) (bS rfl rfl rfl (aM 3 (.int _ _) iP M3 rfl rfl rfl) (dU [false] rfl (by kernel_rfl) (bY aCt rfl rfl (jK _) ?_)))
 rintro v4 w4 ⟨pm, em, f1, g1, f2, g2, f3, g3, rfl, hmap, hM4⟩
 have M4 : Mem _ _ [_, _, _, _, _, _, _, _, _, _, _, _] _ := M3.call0 hM4
 refine aB (aC ⟨(eB (bM rfl (aM 3 (.int _ _) iP M4 rfl rfl rfl)) dT), ?_⟩)
 refine bS rfl rfl rfl (kD (enc := (fun v : Value => v)) .nilFunc 5 mQ aOy M4 rfl hmap rfl rfl) (dW 11 (.tuple [(.func (.func 123) #[] #[.pointer (some ⟨f3, 0, none⟩), .pointer (some ⟨g3, 0, none⟩)] : Value), .bool true].toArray) (oE (aZt hk)) (aW rfl rfl rfl (fun _ => aI (.tuple (List.toArray _)) rfl) ?_))
 refine aW rfl rfl rfl (fun _ => bN (.func _ _ _) rfl rfl) (aW rfl rfl rfl (fun _ => bN (.bool true) rfl rfl) (aW rfl rfl rfl (fun _ => aJ (.func _ _ _) rfl) (aW rfl rfl rfl (fun _ => aJ (.bool true) rfl) (bX (aC (aE (aE (aA ?_))))))))
 refine wq (aI (.bool true) rfl) rfl (wq (gU false rfl rfl) rfl (aB (aC (cJ rfl (aL (aC (aE (aA (wq (aI (.func _ _ _) rfl) rfl ?_)))))))))
 refine wq (aI (.pointer _) rfl) rfl (wq (aX 3 pR M4 rfl rfl rfl) rfl (bY bNz rfl rfl (aIt _ _ r vs hW _ _ (M4.ownK [true, true, true, false, false, false, false, false, false, false, true, true]) o BA nn cc (hP.memY M4 hdB) hnn (M4.awayK [true, true, true, false, false, false, false, false, false, false, true, true] hP.rd hdB)) ?_))
 rintro v5 w5 ⟨r2, rfl, hw2, hM5⟩
 have M5 : Mem _ _ [_, _, _, _, _, _, _, _, _, _, _, _] _ := M4.callK [true, true, true, false, false, false, false, false, false, false, true, true] rfl hM5
 refine bI 6 _ jC M5 rfl rfl rfl rfl rfl (aR rfl) rfl (fun w6 M6 => (aB (aC (aO (eL 6 jC M6 rfl rfl rfl ?_)))))
 exact ⟨r2, ⟨none, 0, 0, (none, default)⟩, by rw [bNy hk]; rfl, by rw [bNy hk]; exact hw2, by rw [bNy hk]; exact bC.nil _ _ _, (M6.keep [true, true, true, false, false, false, false, false, false, false, false, false]).dummy default⟩
set_option maxHeartbeats 32000000 in
theorem aPn (w : World)  (b : Nat) (r : StV) (vs : List Body) (hW : dF 39 r vs) (hO : Own [(some b, bc [.slice r.A r.n r.c, .map r.p] 107), r.er, r.em] w) (o : OpI) (BA : Option Addr) (nn cc : Nat) (hP : OpOk w o BA nn cc) (hnn : nn ≤ 1000000) (hdB : 0 < nn → ∀ q off, BA = some ⟨q, off, none⟩ → q ∉ cA [(some b, bc [.slice r.A r.n r.c, .map r.p] 107), r.er, r.em]) (hk : o.kind = 3) :
  Calls Tryz.prog 20 #[.pointer (some ⟨b, 0, none⟩), .agg (fJ o BA nn cc).toArray] w (fun ex w' => ∃ v, ex = .returned v ∧ (fun v w' => ∃ (r' : StV) (p : Row), v = .agg (eH (iT vs o).2 p).toArray ∧ dF 39 r' (iT vs o).1 ∧ bC 5 1 p.A p.n p.c (((iT vs o).2.bytes).map bL) p.e ∧ Mem w (cA [(some b, bc [.slice r.A r.n r.c, .map r.p] 107), r.er, r.em]) [(some b, bc [.slice r'.A r'.n r'.c, .map r'.p] 107), r'.er, r'.em, p.e] w') v w') := by
 have hG := hW.1
 have hbl := hP.len
 refine aH #[.cell 4 33] 21 Tryz.func20 rfl Tryz.results20 Tryz.ntmps20 rfl ?_
 have M0 := hO.mem
 refine aE (aA (bJ (.agg (List.toArray _)) M0 rfl rfl rfl (fun b1 w1 M1 => (aU mS M1 rfl rfl (fun b2 w2 M2 => (aB (aC (aE (bQ [(1, 0), (2, 1), (0, 2), (3, 1), (4, 0), (5, 0), (6, 0), (7, 0), (8, 0)] mixed rfl (by kernel_rfl) (fun w3 hb3 hh3 => ?_))))))))))
 have M3 := M2.drew hb3 hh3
 refine aW rfl rfl rfl (fun _ => aD 0 rT rfl) (bS rfl rfl rfl (aM 3 (.int _ _) iP M3 rfl rfl rfl) (dU [false] rfl (by kernel_rfl) (bY aCt rfl rfl (jK _) ?_)))
 rintro v4 w4 ⟨pm, em, f1, g1, f2, g2, f3, g3, rfl, hmap, hM4⟩
 have M4 : Mem _ _ [_, _, _, _, _, _, _, _, _, _, _, _] _ := M3.call0 hM4
 refine aB (aC ⟨(eB (bM rfl (aM 3 (.int _ _) iP M4 rfl rfl rfl)) dT), ?_⟩)
 refine bS rfl rfl rfl (kD (enc := (fun v : Value => v)) .nilFunc 5 mQ aOy M4 rfl hmap rfl rfl) (dW 11 (.tuple [(.func (.func 90) #[] #[] : Value), .bool true].toArray) (oE (bDd hk)) (aW rfl rfl rfl (fun _ => aI (.tuple (List.toArray _)) rfl) (aW rfl rfl rfl (fun _ => bN (.func _ _ _) rfl rfl) ?_)))
 refine aW rfl rfl rfl (fun _ => bN (.bool true) rfl rfl) (aW rfl rfl rfl (fun _ => aJ (.func _ _ _) rfl) (aW rfl rfl rfl (fun _ => aJ (.bool true) rfl) (bX (aC (aE (aE (aA (wq (aI (.bool true) rfl) rfl ?_))))))))
 refine wq (gU false rfl rfl) rfl (aB (aC (cJ rfl (aL (aC (aE (aA (wq (aI (.func _ _ _) rfl) rfl (wq (aI (.pointer _) rfl) rfl ?_)))))))))
 refine wq (aX 3 pR M4 rfl rfl rfl) rfl (bY bPl rfl rfl (aJc _ _ r vs hW (M4.ownSeg 0 3) o BA nn cc (hP.memY M4 hdB) hnn (M4.away 0 3 hP.rd hdB)  hk) ?_)
 rintro v5 w5 ⟨r2, p2, rfl, hw2, hp2, hM5⟩
 have M5 : Mem _ _ [_, _, _, _, _, _, _, _, _, _, _, _, _] _ := M4.seg 0 3 hM5
 refine bI 4 _ jC M5 rfl rfl rfl rfl rfl (aR rfl) rfl (fun w6 M6 => (aB (aC (aO (eL 4 jC M6 rfl rfl rfl ?_)))))
 exact ⟨r2, p2, rfl, hw2, hp2, M6.keep [true, true, true, false, false, false, false, false, false, false, false, false, true]⟩
set_option maxHeartbeats 32000000 in
theorem aPk (w : World) (F : Rd w 2 (some ⟨0, 0, none⟩) 1 [[.int .u32 73856093, .int .u32 19349663]]) (N : Rd w 4 (some ⟨3, 0, none⟩) 1 [eK jX]) (b : Nat) (r : StV) (vs : List Body) (hW : dF 39 r vs) (hO : Own [(some b, bc [.slice r.A r.n r.c, .map r.p] 107), r.er, r.em] w) (o : OpI) (BA : Option Addr) (nn cc : Nat) (hP : OpOk w o BA nn cc) (hnn : nn ≤ 1000000) (hdB : 0 < nn → ∀ q off, BA = some ⟨q, off, none⟩ → q ∉ cA [(some b, bc [.slice r.A r.n r.c, .map r.p] 107), r.er, r.em]) (hdF : 0 < 1 → ∀ q off, (some ⟨0, 0, none⟩ : Option Addr) = some ⟨q, off, none⟩ → q ∉ cA [(some b, bc [.slice r.A r.n r.c, .map r.p] 107), r.er, r.em]) (hdN : 0 < 1 → ∀ q off, (some ⟨3, 0, none⟩ : Option Addr) = some ⟨q, off, none⟩ → q ∉ cA [(some b, bc [.slice r.A r.n r.c, .map r.p] 107), r.er, r.em]) (hk : o.kind = 4) :
  Calls Tryz.prog 20 #[.pointer (some ⟨b, 0, none⟩), .agg (fJ o BA nn cc).toArray] w (fun ex w' => ∃ v, ex = .returned v ∧ (fun v w' => ∃ (r' : StV) (p : Row), v = .agg (eH (iT vs o).2 p).toArray ∧ dF 39 r' (iT vs o).1 ∧ bC 5 1 p.A p.n p.c (((iT vs o).2.bytes).map bL) p.e ∧ Mem w (cA [(some b, bc [.slice r.A r.n r.c, .map r.p] 107), r.er, r.em]) [(some b, bc [.slice r'.A r'.n r'.c, .map r'.p] 107), r'.er, r'.em, p.e] w') v w') := by
 have hG := hW.1
 have hbl := hP.len
 refine aH #[.cell 4 33] 21 Tryz.func20 rfl Tryz.results20 Tryz.ntmps20 rfl ?_
 have M0 := hO.mem
 refine aE (aA (bJ (.agg (List.toArray _)) M0 rfl rfl rfl (fun b1 w1 M1 => (aU mS M1 rfl rfl (fun b2 w2 M2 => (aB (aC (aE (bQ [(1, 0), (2, 1), (0, 2), (3, 1), (4, 0), (5, 0), (6, 0), (7, 0), (8, 0)] mixed rfl (by kernel_rfl) (fun w3 hb3 hh3 => ?_))))))))))
 have M3 := M2.drew hb3 hh3
 refine aW rfl rfl rfl (fun _ => aD 0 rT rfl) (bS rfl rfl rfl (aM 3 (.int _ _) iP M3 rfl rfl rfl) (dU [false] rfl (by kernel_rfl) (bY aCt rfl rfl (jK _) ?_)))
 rintro v4 w4 ⟨pm, em, f1, g1, f2, g2, f3, g3, rfl, hmap, hM4⟩
 have M4 : Mem _ _ [_, _, _, _, _, _, _, _, _, _, _, _] _ := M3.call0 hM4
 refine aB (aC ⟨(eB (bM rfl (aM 3 (.int _ _) iP M4 rfl rfl rfl)) dT), ?_⟩)
 refine bS rfl rfl rfl (kD (enc := (fun v : Value => v)) .nilFunc 5 mQ aOy M4 rfl hmap rfl rfl) (dW 11 (.tuple [(.func (.func 92) #[] #[] : Value), .bool true].toArray) (oE (aZa hk)) (aW rfl rfl rfl (fun _ => aI (.tuple (List.toArray _)) rfl) (aW rfl rfl rfl (fun _ => bN (.func _ _ _) rfl rfl) ?_)))
 refine aW rfl rfl rfl (fun _ => bN (.bool true) rfl rfl) (aW rfl rfl rfl (fun _ => aJ (.func _ _ _) rfl) (aW rfl rfl rfl (fun _ => aJ (.bool true) rfl) (bX (aC (aE (aE (aA (wq (aI (.bool true) rfl) rfl ?_))))))))
 refine wq (gU false rfl rfl) rfl (aB (aC (cJ rfl (aL (aC (aE (aA (wq (aI (.func _ _ _) rfl) rfl (wq (aI (.pointer _) rfl) rfl ?_)))))))))
 refine wq (aX 3 pR M4 rfl rfl rfl) rfl (bY bPt rfl rfl (aVw _ (F.memY M4 hdF) (N.memY M4 hdN) _ r vs hW (M4.ownSeg 0 3) o BA nn cc (hP.memY M4 hdB) hnn (M4.away 0 3 hP.rd hdB) (M4.away 0 3 F hdF) (M4.away 0 3 N hdN) hk) ?_)
 rintro v5 w5 ⟨r2, p2, rfl, hw2, hp2, hM5⟩
 have M5 : Mem _ _ [_, _, _, _, _, _, _, _, _, _, _, _, _] _ := M4.seg 0 3 hM5
 refine bI 4 _ jC M5 rfl rfl rfl rfl rfl (aR rfl) rfl (fun w6 M6 => (aB (aC (aO (eL 4 jC M6 rfl rfl rfl ?_)))))
 exact ⟨r2, p2, rfl, hw2, hp2, M6.keep [true, true, true, false, false, false, false, false, false, false, false, false, true]⟩
set_option maxHeartbeats 32000000 in
theorem aPg (w : World)  (b : Nat) (r : StV) (vs : List Body) (hW : dF 39 r vs) (hO : Own [(some b, bc [.slice r.A r.n r.c, .map r.p] 107), r.er, r.em] w) (o : OpI) (BA : Option Addr) (nn cc : Nat) (hP : OpOk w o BA nn cc) (hnn : nn ≤ 1000000) (hdB : 0 < nn → ∀ q off, BA = some ⟨q, off, none⟩ → q ∉ cA [(some b, bc [.slice r.A r.n r.c, .map r.p] 107), r.er, r.em]) (hk : o.kind = 5) :
  Calls Tryz.prog 20 #[.pointer (some ⟨b, 0, none⟩), .agg (fJ o BA nn cc).toArray] w (fun ex w' => ∃ v, ex = .returned v ∧ (fun v w' => ∃ (r' : StV) (p : Row), v = .agg (eH (iT vs o).2 p).toArray ∧ dF 39 r' (iT vs o).1 ∧ bC 5 1 p.A p.n p.c (((iT vs o).2.bytes).map bL) p.e ∧ Mem w (cA [(some b, bc [.slice r.A r.n r.c, .map r.p] 107), r.er, r.em]) [(some b, bc [.slice r'.A r'.n r'.c, .map r'.p] 107), r'.er, r'.em, p.e] w') v w') := by
 have hG := hW.1
 have hbl := hP.len
 refine aH #[.cell 4 33] 21 Tryz.func20 rfl Tryz.results20 Tryz.ntmps20 rfl ?_
 have M0 := hO.mem
 refine aE (aA (bJ (.agg (List.toArray _)) M0 rfl rfl rfl (fun b1 w1 M1 => (aU mS M1 rfl rfl (fun b2 w2 M2 => (aB (aC (aE (bQ [(1, 0), (2, 1), (0, 2), (3, 1), (4, 0), (5, 0), (6, 0), (7, 0), (8, 0)] mixed rfl (by kernel_rfl) (fun w3 hb3 hh3 => ?_))))))))))
 have M3 := M2.drew hb3 hh3
 refine aW rfl rfl rfl (fun _ => aD 0 rT rfl) (bS rfl rfl rfl (aM 3 (.int _ _) iP M3 rfl rfl rfl) (dU [false] rfl (by kernel_rfl) (bY aCt rfl rfl (jK _) ?_)))
 rintro v4 w4 ⟨pm, em, f1, g1, f2, g2, f3, g3, rfl, hmap, hM4⟩
 have M4 : Mem _ _ [_, _, _, _, _, _, _, _, _, _, _, _] _ := M3.call0 hM4
 refine aB (aC ⟨(eB (bM rfl (aM 3 (.int _ _) iP M4 rfl rfl rfl)) dT), ?_⟩)
 refine bS rfl rfl rfl (kD (enc := (fun v : Value => v)) .nilFunc 5 mQ aOy M4 rfl hmap rfl rfl) (dW 11 (.tuple [(.func (.func 93) #[] #[] : Value), .bool true].toArray) (oE (bAi hk)) (aW rfl rfl rfl (fun _ => aI (.tuple (List.toArray _)) rfl) (aW rfl rfl rfl (fun _ => bN (.func _ _ _) rfl rfl) ?_)))
 refine aW rfl rfl rfl (fun _ => bN (.bool true) rfl rfl) (aW rfl rfl rfl (fun _ => aJ (.func _ _ _) rfl) (aW rfl rfl rfl (fun _ => aJ (.bool true) rfl) (bX (aC (aE (aE (aA (wq (aI (.bool true) rfl) rfl ?_))))))))
 refine wq (gU false rfl rfl) rfl (aB (aC (cJ rfl (aL (aC (aE (aA (wq (aI (.func _ _ _) rfl) rfl (wq (aI (.pointer _) rfl) rfl ?_)))))))))
 refine wq (aX 3 pR M4 rfl rfl rfl) rfl (bY bPr rfl rfl (aFy _ _ r vs hW (M4.ownSeg 0 3) o BA nn cc (hP.memY M4 hdB) hnn (M4.away 0 3 hP.rd hdB)  hk) ?_)
 rintro v5 w5 ⟨r2, p2, rfl, hw2, hp2, hM5⟩
 have M5 : Mem _ _ [_, _, _, _, _, _, _, _, _, _, _, _, _] _ := M4.seg 0 3 hM5
 refine bI 4 _ jC M5 rfl rfl rfl rfl rfl (aR rfl) rfl (fun w6 M6 => (aB (aC (aO (eL 4 jC M6 rfl rfl rfl ?_)))))
 exact ⟨r2, p2, rfl, hw2, hp2, M6.keep [true, true, true, false, false, false, false, false, false, false, false, false, true]⟩
set_option maxHeartbeats 32000000 in
theorem aOt (w : World)  (b : Nat) (r : StV) (vs : List Body) (hW : dF 39 r vs) (hO : Own [(some b, bc [.slice r.A r.n r.c, .map r.p] 107), r.er, r.em] w) (o : OpI) (BA : Option Addr) (nn cc : Nat) (hP : OpOk w o BA nn cc) (hdB : 0 < nn → ∀ q off, BA = some ⟨q, off, none⟩ → q ∉ cA [(some b, bc [.slice r.A r.n r.c, .map r.p] 107), r.er, r.em]) (hk : o.kind < 1 ∨ 6 < o.kind) :
  Calls Tryz.prog 20 #[.pointer (some ⟨b, 0, none⟩), .agg (fJ o BA nn cc).toArray] w (fun ex w' => ∃ v, ex = .returned v ∧ (fun v w' => ∃ (r' : StV) (p : Row), v = .agg (eH (iT vs o).2 p).toArray ∧ dF 39 r' (iT vs o).1 ∧ bC 5 1 p.A p.n p.c (((iT vs o).2.bytes).map bL) p.e ∧ Mem w (cA [(some b, bc [.slice r.A r.n r.c, .map r.p] 107), r.er, r.em]) [(some b, bc [.slice r'.A r'.n r'.c, .map r'.p] 107), r'.er, r'.em, p.e] w') v w') := by
 have hG := hW.1
 have hbl := hP.len
 refine aH #[.cell 4 33] 21 Tryz.func20 rfl Tryz.results20 Tryz.ntmps20 rfl ?_
 have M0 := hO.mem
 refine aE (aA (bJ (.agg (List.toArray _)) M0 rfl rfl rfl (fun b1 w1 M1 => (aU mS M1 rfl rfl (fun b2 w2 M2 => (aB (aC (aE (bQ [(1, 0), (2, 1), (0, 2), (3, 1), (4, 0), (5, 0), (6, 0), (7, 0), (8, 0)] mixed rfl (by kernel_rfl) (fun w3 hb3 hh3 => ?_))))))))))
 have M3 := M2.drew hb3 hh3
 refine aW rfl rfl rfl (fun _ => aD 0 rT rfl) (bS rfl rfl rfl (aM 3 (.int _ _) iP M3 rfl rfl rfl) (dU [false] rfl (by kernel_rfl) (bY aCt rfl rfl (jK _) ?_)))
 rintro v4 w4 ⟨pm, em, f1, g1, f2, g2, f3, g3, rfl, hmap, hM4⟩
 have M4 : Mem _ _ [_, _, _, _, _, _, _, _, _, _, _, _] _ := M3.call0 hM4
 refine aB (aC ⟨(eB (bM rfl (aM 3 (.int _ _) iP M4 rfl rfl rfl)) dT), ?_⟩)
 refine bS rfl rfl rfl (kD (enc := (fun v : Value => v)) .nilFunc 5 mQ aOy M4 rfl hmap rfl rfl) (dW 11 (.tuple [(.nilFunc : Value), .bool false].toArray) (aWe (bAx hk)) (aW rfl rfl rfl (fun _ => aI (.tuple (List.toArray _)) rfl) (aW rfl rfl rfl (fun _ => bN (_) rfl rfl) (aW rfl rfl rfl (fun _ => bN (.bool false) rfl rfl) ?_))))
 refine aW rfl rfl rfl (fun _ => aJ (_) rfl) (aW rfl rfl rfl (fun _ => aJ (.bool false) rfl) (bX (aC (aE (aE (aA (wq (aI (.bool false) rfl) rfl (wq (gU true rfl rfl) rfl ?_))))))))
 refine aB (aC (cF rfl (aE (aA (wq (cG [(0, .int _ _)] _ oR rfl rfl) rfl (bI 4 _ jC M4 rfl rfl rfl rfl rfl (aR rfl) rfl (fun w5 M5 => (aB (aC (aO (cM ?_)))))))))))
 refine eL 4 jC M5 rfl rfl rfl ?_
 exact ⟨r, ⟨none, 0, 0, (none, default)⟩, by rw [iU (by omega)]; rfl, by rw [iU (by omega)]; exact hW, by rw [iU (by omega)]; exact bC.nil _ _ _, (M5.keep [true, true, true, false, false, false, false, false, false, false, false, false]).dummy default⟩
theorem aXe (w : World) (F : Rd w 2 (some ⟨0, 0, none⟩) 1 [[.int .u32 73856093, .int .u32 19349663]]) (N : Rd w 4 (some ⟨3, 0, none⟩) 1 [eK jX]) (b : Nat) (r : StV) (vs : List Body) (hW : dF 39 r vs) (hO : Own [(some b, bc [.slice r.A r.n r.c, .map r.p] 107), r.er, r.em] w) (o : OpI) (BA : Option Addr) (nn cc : Nat) (hP : OpOk w o BA nn cc) (hnn : nn ≤ 1000000) (hdB : 0 < nn → ∀ q off, BA = some ⟨q, off, none⟩ → q ∉ cA [(some b, bc [.slice r.A r.n r.c, .map r.p] 107), r.er, r.em]) (hdF : 0 < 1 → ∀ q off, (some ⟨0, 0, none⟩ : Option Addr) = some ⟨q, off, none⟩ → q ∉ cA [(some b, bc [.slice r.A r.n r.c, .map r.p] 107), r.er, r.em]) (hdN : 0 < 1 → ∀ q off, (some ⟨3, 0, none⟩ : Option Addr) = some ⟨q, off, none⟩ → q ∉ cA [(some b, bc [.slice r.A r.n r.c, .map r.p] 107), r.er, r.em]) : Calls Tryz.prog 20 #[.pointer (some ⟨b, 0, none⟩), .agg (fJ o BA nn cc).toArray] w (fun ex w' => ∃ v, ex = .returned v ∧ (fun v w' => ∃ (r' : StV) (p : Row), v = .agg (eH (iT vs o).2 p).toArray ∧ dF 39 r' (iT vs o).1 ∧ bC 5 1 p.A p.n p.c (((iT vs o).2.bytes).map bL) p.e ∧ Mem w (cA [(some b, bc [.slice r.A r.n r.c, .map r.p] 107), r.er, r.em]) [(some b, bc [.slice r'.A r'.n r'.c, .map r'.p] 107), r'.er, r'.em, p.e] w') v w') := by
 by_cases h0 : o.kind < 1 ∨ 6 < o.kind
 ·exact aOt w b r vs hW hO o BA nn cc hP hdB h0
 by_cases h1 : o.kind = 1
 ·exact aQe w b r vs hW hO o BA nn cc hP hnn hdB h1
 by_cases h2 : o.kind = 2
 ·exact aPh w b r vs hW hO o BA nn cc hP hnn hdB h2
 by_cases h3 : o.kind = 3
 ·exact aPn w b r vs hW hO o BA nn cc hP hnn hdB h3
 by_cases h4 : o.kind = 4
 ·exact aPk w F N b r vs hW hO o BA nn cc hP hnn hdB hdF hdN h4
 by_cases h5 : o.kind = 5
 ·exact aPg w b r vs hW hO o BA nn cc hP hnn hdB h5
 ·exact aQv w b r vs hW hO o BA nn cc hP hnn hdB (by omega)
set_option maxHeartbeats 32000000 in
theorem vZ (w : World) (F : Rd w 2 (some ⟨0, 0, none⟩) 1 [[.int .u32 73856093, .int .u32 19349663]]) (N : Rd w 4 (some ⟨3, 0, none⟩) 1 [eK jX]) (b : Nat) (r : StV) (vs : List Body) (hW : dF 39 r vs) (hO : Own [(some b, bc [.slice r.A r.n r.c, .map r.p] 107), r.er, r.em] w) (hdF : 0 < 1 → ∀ q off, (some ⟨0, 0, none⟩ : Option Addr) = some ⟨q, off, none⟩ → q ∉ cA [(some b, bc [.slice r.A r.n r.c, .map r.p] 107), r.er, r.em]) (hdN : 0 < 1 → ∀ q off, (some ⟨3, 0, none⟩ : Option Addr) = some ⟨q, off, none⟩ → q ∉ cA [(some b, bc [.slice r.A r.n r.c, .map r.p] 107), r.er, r.em]) (A : Option Addr) (n c : Nat) (l : List OpRow) (hl : OpsRd w A n l) (hby : ∀ x ∈ l, x.n ≤ 1000000) (hn : n ≤ 1000000) (hdl : 0 < n → ∀ q off, A = some ⟨q, off, none⟩ → q ∉ cA [(some b, bc [.slice r.A r.n r.c, .map r.p] 107), r.er, r.em]) (hdo : aBy l (cA [(some b, bc [.slice r.A r.n r.c, .map r.p] 107), r.er, r.em])) :
  Calls Tryz.prog 33 #[.pointer (some ⟨b, 0, none⟩), .slice A n c] w (fun ex w' => ∃ v, ex = .returned v ∧ (fun v w' => ∃ (r' : StV) (q : Row) (rs : List Row), v = .slice q.A q.n q.c ∧ dF 39 r' (pT vs (jM l)) ∧ bC 33 4 q.A q.n q.c (nK (lB vs (jM l)) rs) q.e ∧ OutR 5 rs (lB vs (jM l)) ∧ Mem w (cA [(some b, bc [.slice r.A r.n r.c, .map r.p] 107), r.er, r.em]) ([(some b, bc [.slice r'.A r'.n r'.c, .map r'.p] 107), r'.er, r'.em, q.e] ++ rs.map Row.e) w') v w') := by
 have hlen : l.length = n := by simpa using hl.rd.len
 have hbd := hl.rd.bound
 refine aH #[.tmp 4] 22 Tryz.func33 rfl Tryz.results33 Tryz.ntmps33 rfl ?_
 have M0 := hO.mem
 refine aE (aA (eJ rfl rfl (aB (aC (aE (aA (eJ rfl rfl ?_)))))))
 have M1 := M0.dummy default
 refine aB (aC (aE (aE (aA (dI rfl rfl (wq (cZ Tryz.underlying27 rfl) rfl (aP rfl rfl (aB (aC (aQ (dQ (σ := Nat × StV × Row × List Row) [0, 4, 8, 9] (fun (i, r', q, rs) => [(5, .slice q.A q.n q.c), (10, .int .i64 (i : Int))]) (fun (i, r', q, rs) w' => (i ≤ n ∧ dF 39 r' (pT vs ((jM l).take i)) ∧ bC 33 4 q.A q.n q.c (nK ((lB vs ((jM l).take i))) rs) q.e ∧ OutR 5 rs (lB vs ((jM l).take i))) ∧ Mem w (cA [(some b, bc [.slice r.A r.n r.c, .map r.p] 107), r.er, r.em]) ([(some b, bc [.slice r'.A r'.n r'.c, .map r'.p] 107), r'.er, r'.em, q.e] ++ rs.map Row.e) w') (fun (i, r', q, rs) => n - i) (0, r, fW, []) (bA rfl (bA rfl dY)) (⟨⟨by omega, hW, bC.nil _ _ _, OutR.nil _⟩, M1⟩) ?_)))))))))))
 rintro ⟨i, r', q, rs⟩ ρ2 w2 ⟨⟨hi, hr, hq, hoR⟩, hM2⟩
 have hqn : (nK (lB vs ((jM l).take i)) rs).length = q.n := hq.1
 rw [tU hoR.len, qW, List.length_take, oQ] at hqn
 refine aE (aA (cY rfl rfl rfl rfl (aB (aC (aE ?_)))))
 refine aV rfl (fun h11 => ?_) (fun h11 => ?_)
 ·obtain ⟨x, hx⟩ := cS (xs := l) (k := i) hlen (by omega)
  have hxm := List.mem_of_getElem? hx
  have hP := hl.each x hxm
  have hxo := aSd hx
  refine aL (aC (aE (aQ (aE (aA (wq (bP (i) bHa rfl rfl rfl ((hl.rd.memY hM2 hdl).below_len (aG OpRow.cells hx)) ((hl.rd.memY hM2 hdl).someK (aG OpRow.cells hx))) rfl (wq (dL _ pR (hl.rd.memY hM2 hdl) (aG OpRow.cells hx) rfl) rfl (aK 13 (.agg (fJ x.o x.A x.n x.c).toArray) rfl ?_))))))))
  refine aU aYf hM2 rfl rfl (fun b3 w3 M3 => ?_)
  have M4 : Mem _ _ ([_, _, _, _, _] ++ _) _ := Mem.front (L := [_, _, _, _]) M3
  refine bI 4 _ pR M4 rfl rfl rfl rfl rfl (aR rfl) rfl (fun w5 M5 => (aB (aC (aA (dI rfl rfl (wq (aI (.pointer _) rfl) rfl (wq (aX 4 pR M5 rfl rfl rfl) rfl (bY bQs rfl rfl (aXe _ (F.memY M5 hdF) (N.memY M5 hdN) _ r' _ hr (M5.ownSeg 0 3) x.o x.A x.n x.c (hP.memY M5 (hdo x hxm)) (hby x hxm) (M5.away 0 3 hP.rd (hdo x hxm)) (M5.away 0 3 F hdF) (M5.away 0 3 N hdN)) ?_))))))))
  rintro v6 w6 ⟨r2, p2, rfl, hr2, hp2, hM6⟩
  have M6 : Mem _ _ ([_, _, _, _, _, _] ++ _) _ := Mem.front (L := [_, _, _, _, _]) (M5.seg 0 3 hM6)
  refine cR [.agg (List.toArray _)] [eH (iT (pT vs ((jM l).take i)) x.o).2 p2] rfl aKm M6 rfl rfl rfl rfl (dD rfl) (by decide) (fun b7 w7 M7 => ?_)
  have M8 : Mem _ _ ([_, _, _, _, _, _, _] ++ _) _ := Mem.front (L := [_, _, _, _, _, _]) M7
  refine dG 3 [eH (iT (pT vs ((jM l).take i)) x.o).2 p2] aKm M8 rfl rfl rfl rfl rfl hq rfl (by simp [eH, Go.Bil.one]) (dS.ofMem 6 M8 rfl) (by omega) (fun A9 c9 e9 w9 M9 hR9 => (eJ rfl rfl (aB (cU (aC (aA (wq (aY rfl rfl (by omega) (by omega)) rfl ?_)))))))
  refine aP rfl rfl (aB ?_)
  refine cE (i + 1, r2, ⟨A9, q.n + 1, c9, e9⟩, rs ++ [p2]) (bA rfl (bA rfl dY)) (cN rfl (cN rfl (cN rfl (cN rfl gT)))) ?_ ?_
  ·exact ⟨⟨by omega, by rw [aHs hxo]; exact hr2, by rw [uS hxo, aHz hoR.len]; exact hR9, by rw [uS hxo]; exact hoR.add hp2⟩, Mem.pushNew (L := [_, _, _, _]) p2 (Mem.keepL (L := [_, _, _, _, _, _, _]) [true, true, true, true, false, true, false] M9)⟩
  ·(show n - (i + 1) < n - i; omega)
 ·have hin : i = n := by omega
  rw [hin, List.take_of_length_le (by rw [oQ]; omega)] at hr hq hoR
  refine cV (dC (dK (eN (aC (aE (aA (dI rfl rfl ?_)))))))
  refine eJ rfl rfl (aB (aC (aO (cD (.slice _ _ _) rfl ?_))))
  exact ⟨r', q, rs, rfl, hr, hq, hoR, hM2⟩
set_option maxHeartbeats 4000000 in
theorem rW (w : World) (F : Rd w 2 (some ⟨0, 0, none⟩) 1 [[.int .u32 73856093, .int .u32 19349663]]) (N : Rd w 4 (some ⟨3, 0, none⟩) 1 [eK jX]) (A : Option Addr) (n c : Nat) (l : List OpRow) (hl : OpsRd w A n l) (hby : ∀ x ∈ l, x.n ≤ 1000000) (hn : n ≤ 1000000) :
  Calls Tryz.prog 18 #[.slice A n c] w (fun ex w' => ∃ v, ex = .returned v ∧ (fun v w' => ∃ (b : Nat) (r' : StV), v = .pointer (some ⟨b, 0, none⟩) ∧ dF 39 r' (pT [] (jM l)) ∧ Mem w [] [(some b, bc [.slice r'.A r'.n r'.c, .map r'.p] 107), r'.er, r'.em] w') v w') := by
 have hlen : l.length = n := by simpa using hl.rd.len
 have hbd := hl.rd.bound
 refine aH #[.tmp 2] 9 Tryz.func18 rfl Tryz.results18 Tryz.ntmps18 rfl ?_
 have M0 := Mem.refl w
 refine aE (aA (wq (aJ (.pointer _) rfl) rfl (aB (aC (aE (aA (aU bFt M0 rfl rfl (fun b1 w1 M1 => ?_))))))))
 have M2 := (M1.dummy default).dummy default
 refine wq (aJ (.pointer _) rfl) rfl (aB (aC (aE (aA (wq (aI (.pointer _) rfl) rfl (dI rfl rfl (bY bEg rfl rfl (vZ _ (F.mem M2) (N.mem M2) _ ⟨none, 0, 0, none, (none, default), (none, default)⟩ _ (dF.new 39 default default) (M2.ownSeg 0 3) (M2.away 0 3 F (by simp)) (M2.away 0 3 N (by simp)) A n c l (hl.mem M2) hby hn (M2.away 0 3 hl.rd (by simp)) (fun x hx => M2.away 0 3 (hl.each x hx).rd (by simp))) ?_)))))))
 rintro v3 w3 ⟨r2, q, rs, rfl, hr2, hq, hoR, hM3⟩
 have M3 : Mem _ _ ([_, _, _, _] ++ _) _ := M2.seg 0 3 hM3
 refine aB (aC (aE (aA (wq (aI (.pointer _) rfl) rfl (wq (aJ (.pointer _) rfl) rfl (aB (aC (aO (cD (.pointer _) rfl ?_)))))))))
 exact ⟨_, r2, rfl, hr2, M3.keep [true, true, true]⟩
set_option maxHeartbeats 4000000 in
theorem aVp (w : World) (A : Option Addr) (n c : Nat) (l : List OpRow) (hl : OpsRd w A n l) :
  Calls Tryz.prog 17 #[.slice A n c] w (fun ex w' => ∃ v, ex = .returned v ∧ (fun v w' => (∃ g : Bool, v = .bool g ∧ (g = true → n ≤ 40 ∧ ∀ x ∈ l, x.n ≤ 1000)) ∧ Below w.heap.size w w') v w') := by
 have hlen : l.length = n := by simpa using hl.rd.len
 have hbd := hl.rd.bound
 refine aH #[.tmp 2] 37 Tryz.func17 rfl Tryz.results17 Tryz.ntmps17 rfl ?_
 have M0 := Mem.refl w
 refine aE (aA (wq (aJ (.bool false) rfl) rfl (aB (aC (aE (aA (bH rfl rfl (aB (aC (aE (aE (aA (bH rfl rfl ?_)))))))))))))
 refine aB (aC (aQ (dQ (σ := Nat × Nat) [0] (fun (i, s) => [(3, .int .i64 (s : Int)), (4, .int .i64 (i : Int))]) (fun (i, s) w' => (i ≤ n ∧ s ≤ i ∧ ∀ (j : Nat) (x : OpRow), j < i → l[j]? = some x → x.n ≤ 1000) ∧ Mem w [] [] w') (fun (i, s) => n - i) (0, 0) (bA rfl (bA rfl dY)) (⟨⟨by omega, by omega, fun j x hj => by omega⟩, M0⟩) ?_)))
 rintro ⟨i, s⟩ ρ1 w1 ⟨⟨hi, hs, hal⟩, hM1⟩
 refine aE (aE (aA (aP rfl rfl (dI rfl rfl (wq (cZ Tryz.underlying22 rfl) rfl (cY rfl rfl rfl rfl (wq (aI (.bool (decide _)) rfl) rfl ?_)))))))
 refine dN 9 rfl (fun g9 => ?_) (fun g9 => ?_)
 ·refine aP rfl rfl (cY rfl rfl rfl rfl (wq (bR true (.bool (decide _)) rfl rfl) rfl (aB (aC ?_))))
  refine aV rfl (fun h12 => ?_) (fun h12 => ?_)
  ·obtain ⟨x, hx⟩ := cS (xs := l) (k := i) hlen (by omega)
   refine aL (aC (aE (aQ (aE (aE (aA (dI rfl rfl (aP rfl rfl (wq (bP (i) bAd rfl rfl rfl ((hl.rd.mem hM1).below_len (aG OpRow.cells hx)) ((hl.rd.mem hM1).someK (aG OpRow.cells hx))) rfl (wq (bG 14 aJa (hl.rd.mem hM1) (Nat.lt_of_le_of_lt (Nat.zero_le _) ((hl.rd.mem hM1).below_len (aG OpRow.cells hx))) rfl) rfl ?_))))))))))
   refine wq (dX (o := 14) (.slice _ _ _) sP (hl.rd.mem hM1) (aG OpRow.cells hx) rfl rfl) rfl (wq (cZ Tryz.underlying31 rfl) rfl (cY rfl rfl rfl rfl (aB (aC ?_))))
   refine aV rfl (fun h21 => ?_) (fun h21 => ?_)
   ·refine aE (aA (wq (aJ (.bool false) rfl) rfl (aB (aC (aO (cM (kR (cM (rB ?_)))))))))
    refine kR (cM (cD (.bool false) rfl ?_))
    exact ⟨⟨false, rfl, fun h => by cases h⟩, hM1.below⟩
   ·refine aL (aC (aE (aA (dI rfl rfl (aP rfl rfl (wq (bP (i) bAd rfl rfl rfl ((hl.rd.mem hM1).below_len (aG OpRow.cells hx)) ((hl.rd.mem hM1).someK (aG OpRow.cells hx))) rfl (wq (bG 0 xW (hl.rd.mem hM1) (Nat.lt_of_le_of_lt (Nat.zero_le _) ((hl.rd.mem hM1).below_len (aG OpRow.cells hx))) rfl) rfl ?_)))))))
    refine wq (dX (o := 0) (.int _ _) iP (hl.rd.mem hM1) (aG OpRow.cells hx) rfl rfl) rfl (cY rfl rfl rfl rfl (aB (aC ?_)))
    refine aV rfl (fun h27 => ?_) (fun h27 => ?_)
    ·refine aA (aP rfl rfl (wq (aY rfl rfl (by omega) (by omega)) rfl (bH rfl rfl (aB (cU ?_)))))
     refine aC (aA (aP rfl rfl (wq (aY rfl rfl (by omega) (by omega)) rfl (bH rfl rfl (aB ?_)))))
     refine cE (i + 1, s + 1) (bA rfl (bA rfl dY)) (cN rfl gT) ?_ ?_
     ·exact ⟨⟨by omega, by omega, pF (p := fun _ x => x.n ≤ 1000) hal hx (by omega)⟩, hM1⟩
     ·(show n - (i + 1) < n - i; omega)
    ·refine aL (cU (aC (aA (aP rfl rfl (wq (aY rfl rfl (by omega) (by omega)) rfl (bH rfl rfl ?_))))))
     refine aB ?_
     refine cE (i + 1, s) (bA rfl (bA rfl dY)) (cN rfl gT) ?_ ?_
     ·exact ⟨⟨by omega, by omega, pF (p := fun _ x => x.n ≤ 1000) hal hx (by omega)⟩, hM1⟩
     ·(show n - (i + 1) < n - i; omega)
  ·refine cV (dC (dK (eN (aC (aE (aA (dI rfl rfl ?_)))))))
   refine wq (cZ Tryz.underlying22 rfl) rfl (cY rfl rfl rfl rfl (wq (aI (.bool (decide _)) rfl) rfl ?_))
   refine dN 33 rfl (fun g33 => ?_) (fun g33 => ?_)
   ·refine aP rfl rfl (cY rfl rfl rfl rfl (wq (bR true (.bool (decide _)) rfl rfl) rfl (wq (aJ (.bool (decide _)) rfl) rfl (aB (aC (aO (cD (.bool (decide _)) rfl ?_)))))))
    refine ⟨⟨_, rfl, fun hg => ?_⟩, hM1.below⟩
    first | (cases hg; done) | exact ⟨(by omega), fun x hx => (by obtain ⟨j, hj⟩ := List.getElem?_of_mem hx; exact hal j x (by have := (List.getElem?_eq_some_iff.1 hj).1; omega) hj)⟩
   ·refine aN rfl rfl (aN rfl rfl (wq (bR false (.bool false) rfl rfl) rfl (wq (aJ (.bool false) rfl) rfl (aB (aC (aO (cD (.bool false) rfl ?_)))))))
    refine ⟨⟨_, rfl, fun hg => ?_⟩, hM1.below⟩
    first | (cases hg; done) | exact ⟨(by omega), fun x hx => (by obtain ⟨j, hj⟩ := List.getElem?_of_mem hx; exact hal j x (by have := (List.getElem?_eq_some_iff.1 hj).1; omega) hj)⟩
 ·refine aN rfl rfl (aN rfl rfl (wq (bR false (.bool false) rfl rfl) rfl (aB (aC (cJ rfl (cV ?_))))))
  refine dC (dK (eN (aC (aE (aA (dI rfl rfl (wq (cZ Tryz.underlying22 rfl) rfl ?_)))))))
  refine cY rfl rfl rfl rfl (wq (aI (.bool (decide _)) rfl) rfl ?_)
  refine dN 33 rfl (fun g33 => ?_) (fun g33 => ?_)
  ·refine aP rfl rfl (cY rfl rfl rfl rfl (wq (bR true (.bool (decide _)) rfl rfl) rfl (wq (aJ (.bool (decide _)) rfl) rfl (aB (aC (aO (cD (.bool (decide _)) rfl ?_)))))))
   refine ⟨⟨_, rfl, fun hg => ?_⟩, hM1.below⟩
   first | (cases hg; done) | exact ⟨(by omega), fun x hx => (by obtain ⟨j, hj⟩ := List.getElem?_of_mem hx; exact hal j x (by have := (List.getElem?_eq_some_iff.1 hj).1; omega) hj)⟩
  ·refine aN rfl rfl (aN rfl rfl (wq (bR false (.bool false) rfl rfl) rfl (wq (aJ (.bool false) rfl) rfl (aB (aC (aO (cD (.bool false) rfl ?_)))))))
   refine ⟨⟨_, rfl, fun hg => ?_⟩, hM1.below⟩
   first | (cases hg; done) | exact ⟨(by omega), fun x hx => (by obtain ⟨j, hj⟩ := List.getElem?_of_mem hx; exact hal j x (by have := (List.getElem?_eq_some_iff.1 hj).1; omega) hj)⟩
set_option maxHeartbeats 32000000 in
theorem bAa (w : World) (q0 : Row) (s : List Body) (hq0 : bC 39 10 q0.A q0.n q0.c ((s).map aF) q0.e) (hG : GoodV s) (hO : Own [q0.e] w) (o : OpI) (BA : Option Addr) (nn cc : Nat) (hP : OpOk w o BA nn cc) (hnn : nn ≤ 1000000) (hdB : 0 < nn → ∀ q off, BA = some ⟨q, off, none⟩ → q ∉ cA [q0.e]) :
  Calls Tryz.prog 21 #[.slice q0.A q0.n q0.c, .agg (fJ o BA nn cc).toArray] w (fun ex w' => ∃ v, ex = .returned v ∧ (fun v w' => ∃ (q p : Row), v = .tuple #[.slice q.A q.n q.c, .agg (eH (iT s o).2 p).toArray] ∧ bC 39 10 q.A q.n q.c (((iT s o).1).map aF) q.e ∧ bC 5 1 p.A p.n p.c (((iT s o).2.bytes).map bL) p.e ∧ Mem w (cA [q0.e]) [q.e, p.e] w') v w') := by
 have hlen : s.length = q0.n := by simpa using hq0.1
 have hsl := hG.len
 have hbl := hP.len
 refine aH #[.tmp 4, .cell 5 43] 42 Tryz.func21 rfl Tryz.results21 Tryz.ntmps21 rfl ?_
 have M0 := hO.mem
 refine aE (aA (bJ (.agg (List.toArray _)) M0 rfl rfl rfl (fun b1 w1 M1 => (eJ rfl rfl (aU bAv M1 rfl rfl (fun b2 w2 M2 => (aB (aC (aE (aE (aA (wq (aD 0 xW rfl) rfl ?_))))))))))))
 refine wq (aM 1 (.int _ _) iP M2 rfl rfl rfl) rfl (cY rfl rfl rfl rfl (wq (aI (.bool (decide _)) rfl) rfl ?_))
 refine dN 10 rfl (fun g10 => ?_) (fun g10 => ?_)
 ·refine aN rfl rfl (aN rfl rfl (aN rfl rfl (wq (bR true (.bool true) rfl rfl) rfl (aB (aC (cF rfl ?_))))))
  refine aE (aA (dI rfl rfl (wq (cG [(0, .int _ _)] _ sR rfl rfl) rfl (eJ rfl rfl (bI 2 _ vP M2 rfl rfl rfl rfl rfl (aR rfl) rfl (fun w3 M3 => (aB (aC (aO (cM ?_))))))))))
  refine aUl (.slice _ _ _) 2 vP M3 rfl rfl rfl rfl ?_
  have hun : ¬ (1 ≤ o.kind ∧ o.kind ≤ 6) := by omega
  exact ⟨q0, ⟨none, 0, 0, (none, default)⟩, by rw [iU hun]; rfl, by rw [iU hun]; exact hq0, by rw [iU hun]; exact bC.nil _ _ _, (M3.keep [true, false, false]).dummy default⟩
 ·refine wq (aD 0 xW rfl) rfl (wq (aM 1 (.int _ _) iP M2 rfl rfl rfl) rfl (cY rfl rfl rfl rfl (wq (bR false (.bool (decide _)) rfl rfl) rfl (aB (aC ?_)))))
  refine aV rfl (fun h14 => ?_) (fun h14 => ?_)
  ·refine aE (aA (dI rfl rfl (wq (cG [(0, .int _ _)] _ sR rfl rfl) rfl (eJ rfl rfl (bI 2 _ vP M2 rfl rfl rfl rfl rfl (aR rfl) rfl (fun w4 M4 => (aB (aC (aO (cM ?_))))))))))
   refine aUl (.slice _ _ _) 2 vP M4 rfl rfl rfl rfl ?_
   have hun : ¬ (1 ≤ o.kind ∧ o.kind ≤ 6) := by omega
   exact ⟨q0, ⟨none, 0, 0, (none, default)⟩, by rw [iU hun]; rfl, by rw [iU hun]; exact hq0, by rw [iU hun]; exact bC.nil _ _ _, (M4.keep [true, false, false]).dummy default⟩
  ·refine aL (aC (aE (aA (dI rfl rfl (wq (aD 0 xW rfl) rfl (wq (aM 1 (.int _ _) iP M2 rfl rfl rfl) rfl (wq (fV rfl rfl (by omega) (by omega)) rfl (wq (aD 1 aUg rfl) rfl ?_))))))))
   refine wq (oN 1 _ bO M2 rfl rfl rfl rfl) rfl (wq (aD 11 aTf rfl) rfl (wq (aM 1 (.int _ _) bW M2 rfl rfl rfl) rfl (wq (aD 12 aUm rfl) rfl (wq (oN 1 _ bK M2 rfl rfl rfl rfl) rfl (wq (aD 14 aJa rfl) rfl ?_)))))
   refine wq (aM 1 (.slice _ _ _) sP M2 rfl rfl rfl) rfl (wq (cG [(0, .int _ _), (1, .agg (List.toArray _)), (2, .int _ _), (3, .agg (List.toArray _)), (4, .slice _ _ _)] _ aXs rfl rfl) rfl (aK 29 (.agg (fJ { o with kind := o.kind - 1 } BA nn cc).toArray) rfl (bY bQn rfl rfl (bAm _ q0 s hq0 hG (M2.ownAt (i := 0) rfl) { o with kind := o.kind - 1 } BA nn cc ⟨hP.rd.memY M2 hdB, hP.cap, hP.byt, hP.body, hP.p1, hP.p2⟩ hnn hdB) ?_)))
   rintro v5 w5 ⟨q2, p2, rfl, hq2, hp2, hM5⟩
   have M5 : Mem _ _ [_, _, _, _] _ := M2.seg 0 1 hM5
   refine aU aJe M5 rfl rfl (fun b6 w6 M6 => (bI 4 _ fP M6 rfl rfl rfl rfl rfl (aR rfl) rfl (fun w7 M7 => (aB (aC (aE (bQ [(0, 0), (1, 1), (2, 0), (3, 1), (4, 0), (5, 1), (6, 0), (7, 1), (8, 0), (9, 1), (10, 0), (11, 0), (12, 2)] mixed rfl (by kernel_rfl) (fun w8 hb8 hh8 => ?_))))))))
   have M8 := M7.drew hb8 hh8
   refine aW rfl rfl rfl (fun _ => aD 0 qP rfl) (bS rfl rfl rfl (aM 4 (.slice _ _ _) gA M8 rfl rfl rfl) (aW rfl rfl rfl (fun _ => aD 1 qU rfl) (bS rfl rfl rfl (aM 4 (.int _ _) iP M8 rfl rfl rfl) (aW rfl rfl rfl (fun _ => aD 12 aMh rfl) (bS rfl rfl rfl (aM 4 (.slice _ _ _) sP M8 rfl rfl rfl) ?_)))))
   refine aW rfl rfl rfl (fun _ => aD 13 aMc rfl) (bS rfl rfl rfl (aM 4 (.int _ _) iP M8 rfl rfl rfl) (aW rfl rfl rfl (fun _ => aD 14 aMk rfl) (bS rfl rfl rfl (aM 4 (.bool _) pD M8 rfl rfl rfl) (aW rfl rfl rfl (fun _ => cG [(0, .int _ _), (1, .slice _ _ _), (2, .int _ _), (3, .bool _)] _ sR rfl rfl) ?_))))
   refine aW rfl rfl rfl (fun _ => aJ (.slice _ _ _) rfl) (dU [true, true, true, true, true] rfl (by kernel_rfl) (bI 2 _ vP M8 rfl rfl rfl rfl rfl (aR rfl) rfl (fun w9 M9 => ?_)))
   refine aB (aC ⟨dT, ?_⟩)
   refine bX (aC (aO (aUl (.slice _ _ _) 2 vP M9 rfl rfl rfl rfl ?_)))
   have hdo : ¬ (o.kind < 1 ∨ 6 < o.kind) := by omega
   exact ⟨q2, p2, by rw [aZv hdo]; rfl, by rw [aZv hdo]; exact hq2, by rw [aZv hdo]; exact hp2, M9.keep [true, false, false, true, false]⟩
set_option maxHeartbeats 32000000 in
theorem aWo (w : World) (q0 : Row) (s : List Body) (hq0 : bC 39 10 q0.A q0.n q0.c ((s).map aF) q0.e) (hG : GoodV s) (hO : Own [q0.e] w) (A : Option Addr) (n c : Nat) (l : List OpRow) (hl : OpsRd w A n l) (hby : ∀ x ∈ l, x.n ≤ 1000000) (hn : n ≤ 1000000) (hdl : 0 < n → ∀ q off, A = some ⟨q, off, none⟩ → q ∉ cA [q0.e]) (hdo : aBy l (cA [q0.e])) :
  Calls Tryz.prog 35 #[.slice q0.A q0.n q0.c, .slice A n c] w (fun ex w' => ∃ v, ex = .returned v ∧ (fun v w' => ∃ (q o : Row) (rs : List Row), v = .tuple #[.slice q.A q.n q.c, .slice o.A o.n o.c] ∧ bC 39 10 q.A q.n q.c (((pT s (jM l))).map aF) q.e ∧ bC 43 4 o.A o.n o.c (nK (lB s (jM l)) rs) o.e ∧ OutR 5 rs (lB s (jM l)) ∧ Mem w (cA [q0.e]) ([q.e, o.e] ++ rs.map Row.e) w') v w') := by
 have hlen : l.length = n := by simpa using hl.rd.len
 have hbd := hl.rd.bound
 have hlo : ∀ o ∈ jM l, OkO o := hl.okO hby
 refine aH #[.tmp 4, .tmp 5] 32 Tryz.func35 rfl Tryz.results35 Tryz.ntmps35 rfl ?_
 have M0 := hO.mem
 refine aE (aA (eJ rfl rfl (eJ rfl rfl (aB (aC (aE (aA (eJ rfl rfl ?_))))))))
 have M1 := M0.dummy default
 refine aB (aC (aE (aE (aA (bH rfl rfl (aB (aC (aQ (dQ (σ := Nat × Row × Row × List Row) [1, 4, 5] (fun (i, q, o, rs) => [(0, .slice q.A q.n q.c), (6, .slice o.A o.n o.c), (7, .int .i64 (i : Int))]) (fun (i, q, o, rs) w' => (i ≤ n ∧ bC 39 10 q.A q.n q.c (((pT s ((jM l).take i))).map aF) q.e ∧ bC 43 4 o.A o.n o.c (nK ((lB s ((jM l).take i))) rs) o.e ∧ OutR 5 rs (lB s ((jM l).take i))) ∧ Mem w (cA [q0.e]) ([q.e, o.e] ++ rs.map Row.e) w') (fun (i, q, o, rs) => n - i) (0, q0, fW, []) (bA rfl (bA rfl (bA rfl dY))) (⟨⟨by omega, hq0, bC.nil _ _ _, OutR.nil _⟩, M1⟩) ?_)))))))))
 rintro ⟨i, q, o, rs⟩ ρ2 w2 ⟨⟨hi, hq, ho, hoR⟩, hM2⟩
 have hqn : (nK (lB s ((jM l).take i)) rs).length = o.n := ho.1
 rw [tU hoR.len, qW, List.length_take, oQ] at hqn
 have hGi : GoodV (pT s ((jM l).take i)) := aNv hG (fun z hz => hlo z (List.mem_of_mem_take hz))
 refine aE (aE (aA (aP rfl rfl (dI rfl rfl (wq (cZ Tryz.underlying22 rfl) rfl (cY rfl rfl rfl rfl (aB (aC ?_))))))))
 refine aV rfl (fun h13 => ?_) (fun h13 => ?_)
 ·obtain ⟨x, hx⟩ := cS (xs := l) (k := i) hlen (by omega)
  have hxm := List.mem_of_getElem? hx
  have hP := hl.each x hxm
  have hxo := aSd hx
  refine aL (aC (aE (aQ (aE (aA (dI rfl rfl (dI rfl rfl (aP rfl rfl (wq (bP (i) bAd rfl rfl rfl ((hl.rd.memY hM2 hdl).below_len (aG OpRow.cells hx)) ((hl.rd.memY hM2 hdl).someK (aG OpRow.cells hx))) rfl (wq (dL _ bJn (hl.rd.memY hM2 hdl) (aG OpRow.cells hx) rfl) rfl ?_))))))))))
  refine aK 21 (.agg (fJ x.o x.A x.n x.c).toArray) rfl (bY bPv rfl rfl (bAa _ q _ hq hGi (hM2.ownAt (i := 0) rfl) x.o x.A x.n x.c (hP.memY hM2 (hdo x hxm)) (hby x hxm) (hM2.away 0 1 hP.rd (hdo x hxm))) ?_)
  rintro v3 w3 ⟨q2, p2, rfl, hq2, hp2, hM3⟩
  have M3 : Mem _ _ ([_, _, _] ++ _) _ := Mem.front (L := [_, _]) (hM2.seg 0 1 hM3)
  refine wq (aI (.tuple (List.toArray _)) rfl) rfl (wq (bN (.slice _ _ _) rfl rfl) rfl (wq (bN (.agg (List.toArray _)) rfl rfl) rfl (aU bAv M3 rfl rfl (fun b4 w4 M4 => ?_))))
  have M5 : Mem _ _ ([_, _, _, _] ++ _) _ := Mem.front (L := [_, _, _]) M4
  refine eJ rfl rfl (bI 3 _ vP M5 rfl rfl rfl rfl rfl (aR rfl) rfl (fun w6 M6 => (aB (aC (aE (aA (dI rfl rfl (eJ rfl rfl (aB (aC (aA ?_)))))))))))
  refine dI rfl rfl (wq (aX 3 vP M6 rfl rfl rfl) rfl (cR [.agg (List.toArray _)] [eH (iT (pT s ((jM l).take i)) x.o).2 p2] rfl bLn M6 rfl rfl rfl rfl (dD rfl) (by decide) (fun b7 w7 M7 => ?_)))
  have M8 : Mem _ _ ([_, _, _, _, _] ++ _) _ := Mem.front (L := [_, _, _, _]) M7
  refine dG 1 [eH (iT (pT s ((jM l).take i)) x.o).2 p2] bLn M8 rfl rfl rfl rfl rfl ho rfl (by simp [eH, Go.Bil.one]) (dS.ofMem 4 M8 rfl) (by omega) (fun A9 c9 e9 w9 M9 hR9 => (eJ rfl rfl (aB (cU (aC (aA (aP rfl rfl ?_)))))))
  refine wq (aY rfl rfl (by omega) (by omega)) rfl (bH rfl rfl (aB ?_))
  refine cE (i + 1, q2, ⟨A9, o.n + 1, c9, e9⟩, rs ++ [p2]) (bA rfl (bA rfl (bA rfl dY))) (cN rfl (cN rfl (cN rfl gT))) ?_ ?_
  ·exact ⟨⟨by omega, by rw [aHs hxo]; exact hq2, by rw [uS hxo, aHz hoR.len]; exact hR9, by rw [uS hxo]; exact hoR.add hp2⟩, Mem.pushNew (L := [_, _]) p2 (Mem.keepL (L := [_, _, _, _, _]) [true, true, true, false, false] M9)⟩
  ·(show n - (i + 1) < n - i; omega)
 ·have hin : i = n := by omega
  rw [hin, List.take_of_length_le (by rw [oQ]; omega)] at hq ho hoR
  refine cV (dC (dK (eN (aC (aE (aA (dI rfl rfl ?_)))))))
  refine dI rfl rfl (eJ rfl rfl (eJ rfl rfl (aB (aC (aO (fY (.slice _ _ _) (.slice _ _ _) rfl rfl ?_))))))
  exact ⟨q, o, rs, rfl, hq, ho, hoR, hM2⟩
set_option maxHeartbeats 8000000 in
theorem aRk (w : World) (z : ResI) (r r' : Row) (RB : Rd w 1 r.A r.n (z.bytes.map bL)) (RB' : Rd w 1 r'.A r'.n (z.bytes.map bL)) :
  Calls Tryz.prog 57 #[.agg (eH z r).toArray, .agg (eH z r').toArray] w (fun ex w' => ∃ v, ex = .returned v ∧ (fun v w' => v = .bool true ∧ Below w.heap.size w w') v w') := by
 refine aH #[.tmp 4] 31 Tryz.func57 rfl Tryz.results57 Tryz.ntmps57 rfl ?_
 have M0 := Mem.refl w
 refine aE (aA (bJ (.agg (List.toArray _)) M0 rfl rfl rfl (fun b1 w1 M1 => (bJ (.agg (List.toArray _)) M1 rfl rfl rfl (fun b2 w2 M2 => (wq (aJ (.bool false) rfl) rfl (aB (aC (aE (aA (wq (aD 0 aSw rfl) rfl ?_)))))))))))
 refine wq (aM 0 (.int _ _) iP M2 rfl rfl rfl) rfl (wq (aD 0 aSw rfl) rfl (wq (aM 1 (.int _ _) iP M2 rfl rfl rfl) rfl (cY rfl rfl rfl rfl (kB 9 rfl rfl (wq (aI (.bool true) rfl) rfl ?_)))))
 refine wq (aD 1 aUn rfl) rfl (wq (aM 0 (.slice _ _ _) sP M2 rfl rfl rfl) rfl (wq (aD 1 aUn rfl) rfl (wq (aM 1 (.slice _ _ _) sP M2 rfl rfl rfl) rfl (bY bRk rfl rfl (aQj _ _ _ _ z.bytes (RB.mem M2) _ _ _ z.bytes (RB'.mem M2)) ?_))))
 rintro v3 w3 ⟨rfl, hb3⟩
 have M3 := M2.callB hb3
 refine kB 15 rfl rfl (wq (bR true (.bool true) rfl rfl) rfl (wq (aI (.bool true) rfl) rfl (wq (aD 2 aUa rfl) rfl (wq (aM 0 (.int _ _) iP M3 rfl rfl rfl) rfl (wq (aD 2 aUa rfl) rfl ?_)))))
 refine wq (aM 1 (.int _ _) iP M3 rfl rfl rfl) rfl (cY rfl rfl rfl rfl (kB 22 rfl rfl (wq (bR true (.bool true) rfl rfl) rfl (wq (aI (.bool true) rfl) rfl (wq (aD 3 aTl rfl) rfl ?_)))))
 refine wq (aM 0 (.bool _) pD M3 rfl rfl rfl) rfl (wq (aD 3 aTl rfl) rfl (wq (aM 1 (.bool _) pD M3 rfl rfl rfl) rfl (wq (rS _ Tryz.underlying4 rfl rfl rfl) rfl (aK 29 (.bool true) (bv rfl (by simp)) (wq (bR true (.bool true) rfl rfl) rfl ?_)))))
 refine wq (aJ (.bool true) rfl) rfl (aB (aC (aO (cD (.bool true) rfl ?_))))
 exact ⟨rfl, M3.below⟩
set_option maxHeartbeats 8000000 in
theorem aDc (w : World) (z : ResI) (r r' : Row) (RB : Rd w 1 r.A r.n (z.bytes.map bL)) (RB' : Rd w 1 r'.A r'.n (z.bytes.map bL)) :
  Calls Tryz.prog 36 #[.agg (eH z r).toArray, .agg (eH z r').toArray] w (fun ex w' => ∃ v, ex = .returned v ∧ (fun v w' => v = .bool true ∧ Below w.heap.size w w') v w') := by
 refine aH #[.tmp 4] 16 Tryz.func36 rfl Tryz.results36 Tryz.ntmps36 rfl ?_
 have M0 := Mem.refl w
 refine aE (aA (bJ (.agg (List.toArray _)) M0 rfl rfl rfl (fun b1 w1 M1 => (bJ (.agg (List.toArray _)) M1 rfl rfl rfl (fun b2 w2 M2 => (wq (aJ (.bool false) rfl) rfl (aB (aC (aE (aA (wq (aD 0 xL rfl) rfl ?_)))))))))))
 refine wq (aM 0 (.int _ _) tX M2 rfl rfl rfl) rfl (wq (aD 1 aSt rfl) rfl (wq (aM 0 (.slice _ _ _) sP M2 rfl rfl rfl) rfl (wq (aD 2 bHl rfl) rfl (wq (aM 0 (.int _ _) iP M2 rfl rfl rfl) rfl (wq (aD 3 bGg rfl) rfl ?_)))))
 refine wq (aM 0 (.bool _) pD M2 rfl rfl rfl) rfl (wq (cG [(0, .int _ _), (1, .slice _ _ _), (2, .int _ _), (3, .bool _)] _ sR rfl rfl) rfl (aK 13 (.agg (eH z r).toArray) rfl (wq (aX 1 vP M2 rfl rfl rfl) rfl (bY bQw rfl rfl (aRk _ z r r' (RB.mem M2) (RB'.mem M2)) ?_))))
 rintro v3 w3 ⟨rfl, hb3⟩
 have M3 := M2.callB hb3
 refine wq (aJ (.bool true) rfl) rfl (aB (aC (aO (cD (.bool true) rfl ?_))))
 exact ⟨rfl, M3.below⟩
set_option maxHeartbeats 4000000 in
theorem aGl (w : World) (o : OpI) (BA : Option Addr) (nn cc : Nat) :
  Calls Tryz.prog 39 #[.agg (fJ o BA nn cc).toArray] w (fun ex w' => ∃ v, ex = .returned v ∧ (fun v w' => v = .agg (fJ o BA nn cc).toArray ∧ Below w.heap.size w w') v w') := by
 refine aH #[.cell 2 41] 14 Tryz.func39 rfl Tryz.results39 Tryz.ntmps39 rfl ?_
 have M0 := Mem.refl w
 refine aE (aA (bJ (.agg (List.toArray _)) M0 rfl rfl rfl (fun b1 w1 M1 => (aU aYf M1 rfl rfl (fun b2 w2 M2 => (aB (aC (aE (aA (wq (aD 0 xW rfl) rfl (wq (aM 0 (.int _ _) iP M2 rfl rfl rfl) rfl ?_)))))))))))
 refine wq (aD 1 aUg rfl) rfl (wq (oN 0 _ bO M2 rfl rfl rfl rfl) rfl (wq (aD 11 aTf rfl) rfl (wq (aM 0 (.int _ _) bW M2 rfl rfl rfl) rfl (wq (aD 12 aUm rfl) rfl (wq (oN 0 _ bK M2 rfl rfl rfl rfl) rfl ?_)))))
 refine wq (aD 14 aJa rfl) rfl (wq (aM 0 (.slice _ _ _) sP M2 rfl rfl rfl) rfl (wq (cG [(0, .int _ _), (1, .agg (List.toArray _)), (2, .int _ _), (3, .agg (List.toArray _)), (4, .slice _ _ _)] _ qN rfl rfl) rfl (bI 1 _ pR M2 rfl rfl rfl rfl rfl (aR rfl) rfl (fun w3 M3 => ?_))))
 refine aB (aC (aO (eL 1 pR M3 rfl rfl rfl ?_)))
 exact ⟨rfl, M3.below⟩
set_option maxHeartbeats 16000000 in
theorem aGy (w : World) (A : Option Addr) (n c : Nat) (l : List OpRow) (hl : OpsRd w A n l) (hn : n ≤ 1000000) :
  Calls Tryz.prog 34 #[.slice A n c] w (fun ex w' => ∃ v, ex = .returned v ∧ (fun v w' => ∃ q : Row, v = .slice q.A q.n q.c ∧ bC 41 15 q.A q.n q.c (l.map OpRow.cells) q.e ∧ Mem w [] [q.e] w') v w') := by
 have hlen : l.length = n := by simpa using hl.rd.len
 have hbd := hl.rd.bound
 refine aH #[.tmp 2] 20 Tryz.func34 rfl Tryz.results34 Tryz.ntmps34 rfl ?_
 have M0 := Mem.refl w
 refine aE (aA (eJ rfl rfl (aB (aC (aE (aA (eJ rfl rfl ?_)))))))
 have M1 := M0.dummy default
 refine aB (aC (aE (aE (aA (bH rfl rfl (aB (aC (aQ (dQ (σ := Nat × Row) [0, 2] (fun (i, q) => [(3, .slice q.A q.n q.c), (4, .int .i64 (i : Int))]) (fun (i, q) w' => (i ≤ n ∧ bC 41 15 q.A q.n q.c ((l.take i).map OpRow.cells) q.e) ∧ Mem w [] [q.e] w') (fun (i, q) => n - i) (0, fW) (bA rfl (bA rfl dY)) (⟨⟨by omega, bC.nil _ _ _⟩, M1⟩) ?_)))))))))
 rintro ⟨i, q⟩ ρ2 w2 ⟨⟨hi, hq⟩, hM2⟩
 have hqn : ((l.take i).map OpRow.cells).length = q.n := hq.1
 rw [List.length_map, List.length_take] at hqn
 refine aE (aE (aA (aP rfl rfl (dI rfl rfl (wq (cZ Tryz.underlying22 rfl) rfl (cY rfl rfl rfl rfl (aB (aC ?_))))))))
 refine aV rfl (fun h8 => ?_) (fun h8 => ?_)
 ·obtain ⟨x, hx⟩ := cS (xs := l) (k := i) hlen (by omega)
  refine aL (aC (aE (aQ (aA (dI rfl rfl (dI rfl rfl (aP rfl rfl (wq (bP (i) bAd rfl rfl rfl ((hl.rd.mem hM2).below_len (aG OpRow.cells hx)) ((hl.rd.mem hM2).someK (aG OpRow.cells hx))) rfl (wq (dL _ bJn (hl.rd.mem hM2) (aG OpRow.cells hx) rfl) rfl ?_)))))))))
  refine aK 15 (.agg (fJ x.o x.A x.n x.c).toArray) rfl (bY bQi rfl rfl (aGl _ x.o x.A x.n x.c) ?_)
  rintro v3 w3 ⟨rfl, hb3⟩
  have M3 := hM2.callB hb3
  refine cR [.agg (List.toArray _)] [x.cells] rfl bHa M3 rfl rfl rfl rfl (dD rfl) (by decide) (fun b4 w4 M4 => (dG 0 [x.cells] bHa M4 rfl rfl rfl rfl rfl hq rfl (by simp [OpRow.cells, fJ, aF, Go.Bil.one]) (dS.ofMem 1 M4 rfl) (by omega) (fun A5 c5 e5 w5 M5 hR5 => (eJ rfl rfl ?_))))
  refine aB (cU (aC (aA (aP rfl rfl (wq (aY rfl rfl (by omega) (by omega)) rfl (bH rfl rfl ?_))))))
  refine aB ?_
  refine cE (i + 1, ⟨A5, q.n + 1, c5, e5⟩) (bA rfl (bA rfl dY)) (cN rfl (cN rfl gT)) ?_ ?_
  ·exact ⟨⟨by omega, by rw [cP hx, List.map_append]; exact hR5⟩, M5.keep [true]⟩
  ·(show n - (i + 1) < n - i; omega)
 ·have hin : i = n := by omega
  rw [hin, List.take_of_length_le (by omega)] at hq
  refine cV (dC (dK (eN (aC (aE (aA (dI rfl rfl ?_)))))))
  refine eJ rfl rfl (aB (aC (aO (cD (.slice _ _ _) rfl ?_))))
  exact ⟨q, rfl, hq, hM2⟩
theorem aRj (w : World) (A : Option Addr) (n c : Nat) (l : List OpRow) (hl : OpsRd w A n l) (hby : ∀ x ∈ l, x.n ≤ 1000000) (hn : n ≤ 1000000) : Calls Tryz.prog 35 #[.slice none 0 0, .slice A n c] w (fun ex w' => ∃ v, ex = .returned v ∧ (fun v w' => ∃ (q o : Row) (rs : List Row), v = .tuple #[.slice q.A q.n q.c, .slice o.A o.n o.c] ∧ bC 39 10 q.A q.n q.c (((pT [] (jM l))).map aF) q.e ∧ bC 43 4 o.A o.n o.c (nK (lB [] (jM l)) rs) o.e ∧ OutR 5 rs (lB [] (jM l)) ∧ Mem w [] ([q.e, o.e] ++ rs.map Row.e) w') v w') := (aWo w fW [] (bC.nil _ _ _) GoodV.nil (Own.dummy w default) A n c l hl hby hn (by simp [cA, fW]) (by intro x _ _ q off _; simp [cA, fW])).mono fun _ _ h => h
set_option maxHeartbeats 100000000 in
theorem bPq (w : World) (F : Rd w 2 (some ⟨0, 0, none⟩) 1 [[.int .u32 73856093, .int .u32 19349663]]) (N : Rd w 4 (some ⟨3, 0, none⟩) 1 [eK jX]) :
  Calls Tryz.prog 32 #[] w (fun ex w' => ∃ v, ex = .returned v ∧ (fun v w' => v = .bool true ∧ Below w.heap.size w w') v w') := by
 refine aH #[.tmp 0] 54 Tryz.func32 rfl Tryz.results32 Tryz.ntmps32 rfl ?_
 have M0 := Mem.refl w
 refine aE (aA (wq (aJ (.bool false) rfl) rfl (aB (aC (aE (aA (bY bDm rfl rfl (rW _ (F.mem M0) (N.mem M0) none 0 0 [] (OpsRd.none _) (by simp) (by decide)) ?_)))))))
 rintro v1 w1 ⟨wb, r0, rfl, hr0, hM1⟩
 have M1 : Mem _ _ [_, _, _] _ := M0.call0 hM1
 have hr0 : dF 39 r0 [] := hr0
 refine wq (cG [(0, .int _ _)] _ qN rfl rfl) rfl (wq (cG [(0, .int _ _)] _ qN rfl rfl) rfl (wq (cG [(0, .int _ _)] _ qN rfl rfl) rfl (wq (cG [(0, .int _ _)] _ qN rfl rfl) rfl (wq (cG [(0, .int _ _)] _ qN rfl rfl) rfl (cR [.agg (List.toArray _), .agg (List.toArray _), .agg (List.toArray _), .agg (List.toArray _), .agg (List.toArray _)] (xD.map OpRow.cells) rfl bHa M1 rfl rfl rfl rfl (dD rfl) (by decide) (fun b2 w2 M2 => ?_))))))
 have hlit8 := kE (T := 41) (sz := 15) (b := b2) (nn := 5) (xD.map OpRow.cells) (bGh _) rfl (by decide)
 refine bY bEg rfl rfl (vZ _ (F.mem M2) (N.mem M2) _ r0 _ hr0 (M2.ownSeg 0 3) (M2.away 0 3 F (by simp)) (M2.away 0 3 N (by simp)) _ 5 5 xD ⟨(hlit8.rd M2 (bB (i := 3) rfl)), aXg _⟩ (fun x hx => by rw [aYr x hx]; decide) (by decide) (hlit8.awayS M2 0 3 3 rfl rfl) (bRb aYr)) ?_
 rintro v3 w3 ⟨r2, q, rs, rfl, hr2, hq, hoR, hM3⟩
 have M3 : Mem _ _ ([_, _, _, _, _] ++ _) _ := M2.seg 0 3 hM3
 have hqn : (nK (lB [] (jM xD)) rs).length = q.n := hq.1
 rw [tU hoR.len, aAz] at hqn
 have hq5 : 5 = q.n := hqn
 obtain ⟨p0, hp0, hs0⟩ := rI (j := 0) (zs := lB [] (jM xD)) hoR.len (by rw [aAz]; rfl)
 obtain ⟨p1, hp1, hs1⟩ := rI (j := 1) (zs := lB [] (jM xD)) hoR.len (by rw [aAz]; rfl)
 obtain ⟨p2, hp2, hs2⟩ := rI (j := 2) (zs := lB [] (jM xD)) hoR.len (by rw [aAz]; rfl)
 obtain ⟨p3, hp3, hs3⟩ := rI (j := 3) (zs := lB [] (jM xD)) hoR.len (by rw [aAz]; rfl)
 obtain ⟨p4, hp4, hs4⟩ := rI (j := 4) (zs := lB [] (jM xD)) hoR.len (by rw [aAz]; rfl)
 have hb1 := hoR.row 1 p1 { jO with bytes := zS [] } hp1 (by rw [aAz]; rfl)
 have hb8 : 8 = p1.n := by have h := hb1.1; rwa [List.length_map, bDq] at h
 refine eJ rfl rfl (aB (aC (aE (aE (aA (dI rfl rfl (wq (cZ Tryz.underlying63 rfl) rfl (cY rfl rfl rfl rfl (pA 12 rfl (by omega) ?_)))))))))
 refine aB (aC (cJ rfl (aL (aC (aE (aA (dI rfl rfl (wq (bP (0) aKm rfl rfl rfl ((hq.rd M3 (bB (i := 4) rfl)).below_len (hs0)) ((hq.rd M3 (bB (i := 4) rfl)).someK (hs0))) rfl (wq (bG 0 xL (hq.rd M3 (bB (i := 4) rfl)) (Nat.lt_of_le_of_lt (Nat.zero_le _) ((hq.rd M3 (bB (i := 4) rfl)).below_len (hs0))) rfl) rfl ?_)))))))))
 refine wq (dX (o := 0) (.int _ _) tX (hq.rd M3 (bB (i := 4) rfl)) (hs0) rfl rfl) rfl (cY rfl rfl rfl rfl (kB 17 rfl rfl (wq (aI (.bool true) rfl) rfl (dI rfl rfl (wq (bP (1) aKm rfl rfl rfl ((hq.rd M3 (bB (i := 4) rfl)).below_len (hs1)) ((hq.rd M3 (bB (i := 4) rfl)).someK (hs1))) rfl ?_)))))
 refine wq (bG 0 xL (hq.rd M3 (bB (i := 4) rfl)) (Nat.lt_of_le_of_lt (Nat.zero_le _) ((hq.rd M3 (bB (i := 4) rfl)).below_len (hs1))) rfl) rfl (wq (dX (o := 0) (.int _ _) tX (hq.rd M3 (bB (i := 4) rfl)) (hs1) rfl rfl) rfl (cY rfl rfl rfl rfl (kB 23 rfl rfl (wq (bR true (.bool true) rfl rfl) rfl ?_))))
 refine wq (aI (.bool true) rfl) rfl (dI rfl rfl (wq (bP (1) aKm rfl rfl rfl ((hq.rd M3 (bB (i := 4) rfl)).below_len (hs1)) ((hq.rd M3 (bB (i := 4) rfl)).someK (hs1))) rfl (wq (bG 1 aSt (hq.rd M3 (bB (i := 4) rfl)) (Nat.lt_of_le_of_lt (Nat.zero_le _) ((hq.rd M3 (bB (i := 4) rfl)).below_len (hs1))) rfl) rfl ?_)))
 refine wq (dX (o := 1) (.slice _ _ _) sP (hq.rd M3 (bB (i := 4) rfl)) (hs1) rfl rfl) rfl (wq (cZ Tryz.underlying31 rfl) rfl (cY rfl rfl rfl rfl (kB 31 rfl (by omega) (wq (bR true (.bool true) rfl rfl) rfl (wq (aI (.bool true) rfl) rfl ?_)))))
 refine dI rfl rfl (wq (bP (2) aKm rfl rfl rfl ((hq.rd M3 (bB (i := 4) rfl)).below_len (hs2)) ((hq.rd M3 (bB (i := 4) rfl)).someK (hs2))) rfl (wq (bG 0 xL (hq.rd M3 (bB (i := 4) rfl)) (Nat.lt_of_le_of_lt (Nat.zero_le _) ((hq.rd M3 (bB (i := 4) rfl)).below_len (hs2))) rfl) rfl ?_))
 refine wq (dX (o := 0) (.int _ _) tX (hq.rd M3 (bB (i := 4) rfl)) (hs2) rfl rfl) rfl (cY rfl rfl rfl rfl (kB 38 rfl rfl (wq (bR true (.bool true) rfl rfl) rfl (wq (aI (.bool true) rfl) rfl (dI rfl rfl ?_)))))
 refine wq (bP (3) aKm rfl rfl rfl ((hq.rd M3 (bB (i := 4) rfl)).below_len (hs3)) ((hq.rd M3 (bB (i := 4) rfl)).someK (hs3))) rfl (wq (bG 0 xL (hq.rd M3 (bB (i := 4) rfl)) (Nat.lt_of_le_of_lt (Nat.zero_le _) ((hq.rd M3 (bB (i := 4) rfl)).below_len (hs3))) rfl) rfl (wq (dX (o := 0) (.int _ _) tX (hq.rd M3 (bB (i := 4) rfl)) (hs3) rfl rfl) rfl ?_))
 refine cY rfl rfl rfl rfl (kB 45 rfl rfl (wq (bR true (.bool true) rfl rfl) rfl (wq (aI (.bool true) rfl) rfl (dI rfl rfl (wq (bP (4) aKm rfl rfl rfl ((hq.rd M3 (bB (i := 4) rfl)).below_len (hs4)) ((hq.rd M3 (bB (i := 4) rfl)).someK (hs4))) rfl ?_)))))
 refine wq (dL _ jC (hq.rd M3 (bB (i := 4) rfl)) (hs4) rfl) rfl (aK 50 (.agg (eH jO p4).toArray) rfl (wq (cG [] _ sR rfl rfl) rfl (bY bIx rfl rfl (aDc _ jO p4 fW (hoR.rd M3 (bGp bOi) hp4 (by rw [aAz]; rfl)) (Rd.nil _ _ _)) ?_)))
 rintro v4 w4 ⟨rfl, hb4⟩
 have M4 := M3.callB hb4
 refine wq (bR true (.bool true) rfl rfl) rfl (wq (aJ (.bool true) rfl) rfl (aB (aC (aO (cD (.bool true) rfl ?_)))))
 exact ⟨rfl, M4.below⟩
theorem bRe : ∃ fs, OpT Tryz.prog 4 46 3 39 35 37 31 5 1 fs := ⟨_, Tryz.underlying46, by kernel_rfl, by kernel_rfl, by kernel_rfl, by kernel_rfl, by kernel_rfl, by kernel_rfl, by kernel_rfl, by kernel_rfl, by kernel_rfl, by kernel_rfl, by kernel_rfl, by kernel_rfl, gL⟩
end Go.Proofs.YtaoaknafiegfoaaGreatDoor
