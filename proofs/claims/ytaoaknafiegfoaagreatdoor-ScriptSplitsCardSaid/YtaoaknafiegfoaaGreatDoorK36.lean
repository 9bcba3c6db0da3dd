/- Part of the proof of the laws of this seat: P22, W22a, W22b, W22c, R22a, D22, K23, S23, E23, R23, R23b, Aw23, Op23. No conditions. -/
import Derived.Test.YtaoaknafiegfoaaGreatDoorK2
import Derived.Test.YtaoaknafiegfoaaGreatDoorK5
import Derived.Test.YtaoaknafiegfoaaGreatDoorK32
import Derived.Test.YtaoaknafiegfoaaGreatDoorK28
import Derived.Test.YtaoaknafiegfoaaGreatDoorK35
import Derived.Test.YtaoaknafiegfoaaGreatDoorK33
import Derived.Test.YtaoaknafiegfoaaGreatDoorK23
import Derived.Test.YtaoaknafiegfoaaGreatDoorK34
import Derived.Test.YtaoaknafiegfoaaGreatDoorK18
import Derived.Test.YtaoaknafiegfoaaGreatDoorK3
set_option linter.unusedVariables false
set_option linter.unusedSimpArgs false
set_option linter.unnecessarySimpa false
namespace Go.Proofs.YtaoaknafiegfoaaGreatDoor
open Go.Bil
open Go.RowKit (Below)
open Go.Proofs
set_option maxHeartbeats 8000000 in
theorem bDb (w : World) (b : Body) (hb : Okb b) (j : Int × Int) (hj1 : -2147483648 ≤ j.1 ∧ j.1 ≤ 2147483647) (hj2 : -2147483648 ≤ j.2 ∧ j.2 ≤ 2147483647) :
  Calls Tryz.prog 124 #[(.agg (aF b).toArray), .agg [.int .i32 j.1, .int .i32 j.2].toArray] w (fun ex w' => ∃ v, ex = .returned v ∧ (fun v w' => (∃ g : Bool, v = .tuple #[(.agg (aF (mH b j)).toArray), .bool g]) ∧ Below w.heap.size w w') v w') := by
 have hv := hb.v
 have hm := hb.m
 have hp1 := bGk hj1 hm
 have hp2 := bGk hj2 hm
 refine aI #[.cell 4 39, .tmp 5] 45 Tryz.func124 rfl Tryz.results124 Tryz.ntmps124 rfl ?_
 have M0 := Mem.refl w
 refine aE (aA (bJ (.agg (List.toArray _)) M0 rfl rfl rfl (fun b1 w1 M1 => (bJ (.agg (List.toArray _)) M1 rfl rfl rfl (fun b2 w2 M2 => (aT fO M2 rfl rfl (fun b3 w3 M3 => (wq (aJ (.bool false) rfl) rfl (aB (aC (aE (aA ?_))))))))))))
 refine aT aUn M3 rfl rfl (fun b4 w4 M4 => (dB 3 (.bool false) pG M4 rfl rfl rfl rfl rfl rfl (fun w5 M5 => (aB (aC (aE (aA (wq (aD 8 dW rfl) rfl (wq (aD 0 cS rfl) rfl (wq (aM 0 (.int _ _) aV M5 rfl rfl rfl) rfl ?_))))))))))
 refine wq (bA dP Tryz.underlying2 rfl (fG _ (by omega) (by omega))) rfl (wq (aD 0 cS rfl) rfl (wq (aM 1 (.int _ _) aV M5 rfl rfl rfl) rfl (wq (bA dP Tryz.underlying2 rfl (fG _ (by omega) (by omega))) rfl (wq (aD 4 eG rfl) rfl (wq (aM 0 (.int _ _) aV M5 rfl rfl rfl) rfl ?_)))))
 refine wq (bA dP Tryz.underlying2 rfl (fG _ (by omega) (by omega))) rfl (wq (fC rfl rfl (by omega) (by omega)) rfl (wq (jT rfl rfl (by decide)) rfl (aK 20 (.int .i64 (j.1 * b.mass / 65536)) (iE (pS _)) (wq (aY rfl rfl (by omega) (by omega)) rfl (bH rfl rfl ?_)))))
 refine aB (aC (aE (aA (wq (aD 8 dW rfl) rfl (wq (aD 1 cN rfl) rfl (wq (aM 0 (.int _ _) aV M5 rfl rfl rfl) rfl (wq (bA dP Tryz.underlying2 rfl (fG _ (by omega) (by omega))) rfl (wq (aD 1 cN rfl) rfl ?_))))))))
 refine wq (aM 1 (.int _ _) aV M5 rfl rfl rfl) rfl (wq (bA dP Tryz.underlying2 rfl (fG _ (by omega) (by omega))) rfl (wq (aD 4 eG rfl) rfl (wq (aM 0 (.int _ _) aV M5 rfl rfl rfl) rfl (wq (bA dP Tryz.underlying2 rfl (fG _ (by omega) (by omega))) rfl (wq (fC rfl rfl (by omega) (by omega)) rfl ?_)))))
 refine wq (jT rfl rfl (by decide)) rfl (aK 33 (.int .i64 (j.2 * b.mass / 65536)) (iE (pS _)) (wq (aY rfl rfl (by omega) (by omega)) rfl (bH rfl rfl (aB (aC (aE (aA (aP rfl rfl ?_))))))))
 refine cR [.pointer _] [[.pointer (some ⟨b4, 0, none⟩)]] rfl aHo M5 rfl rfl rfl rfl (dD rfl) (by decide) (fun b6 w6 M6 => ?_)
 have hlit36 := kB (T := 174) (sz := 1) (b := b6) (nn := 1) [[.pointer (some ⟨b4, 0, none⟩)]] (by simp) rfl (by decide)
 refine bY aDt rfl rfl (nJ _ (b.vx + j.1 * b.mass / 65536) 16777216 ⟨by decide, by decide⟩ b4 _ _ 1 (hlit36.rd M6 (aZ (i := 4) rfl)) (hlit36.awayB M6 4 3 rfl rfl rfl) (M6.ownSeg 3 1)) ?_
 rintro v7 w7 ⟨rfl, hM7⟩
 have M7 : Mem _ _ [_, _, _, _, _] _ := M6.seg 3 1 hM7
 refine aP rfl rfl (cR [.pointer _] [[.pointer (some ⟨b4, 0, none⟩)]] rfl aHo M7 rfl rfl rfl rfl (dD rfl) (by decide) (fun b8 w8 M8 => ?_))
 have hlit39 := kB (T := 174) (sz := 1) (b := b8) (nn := 1) [[.pointer (some ⟨b4, 0, none⟩)]] (by simp) rfl (by decide)
 refine bY aDt rfl rfl (nJ _ (b.vy + j.2 * b.mass / 65536) 16777216 ⟨by decide, by decide⟩ b4 _ _ 1 (hlit39.rd M8 (aZ (i := 5) rfl)) (hlit39.awayB M8 5 3 rfl rfl rfl) (M8.ownSeg 3 1)) ?_
 rintro v9 w9 ⟨rfl, hM9⟩
 have M9 : Mem _ _ [_, _, _, _, _, _] _ := M8.seg 3 1 hM9
 refine wq (cF [(0, .int _ _), (1, .int _ _)] _ fA rfl rfl) rfl (wq (aD 8 dW rfl) rfl (tN 0 _ bM M9 rfl rfl rfl rfl rfl (aR rfl) (Nat.le_of_ble_eq_true rfl) (fun w10 M10 => (aB (aC (aE (bR [(0, 1), (1, 1), (2, 2), (3, 0)] mixed rfl (by kernel_rfl) (fun w11 hb11 hh11 => ?_))))))))
 have M11 := M10.drew hb11 hh11
 refine bS rfl rfl rfl (aX 0 bP M11 rfl rfl rfl) (bS rfl rfl rfl (aM 3 (.bool _) pG M11 rfl rfl rfl) (dU [false, true] rfl (by kernel_rfl) (bI 2 _ bP M11 rfl rfl rfl rfl rfl (aR rfl) rfl (fun w12 M12 => ?_))))
 refine aB (aC ⟨(eD (bL rfl (aM 3 (.bool _) pG M12 rfl rfl rfl)) dT), ?_⟩)
 refine aU rfl rfl rfl (fun _ => aJ (.bool _) rfl) (bX (aC (aO (tH (v2 := .bool _) 2 bP M12 rfl rfl rfl rfl ?_))))
 exact ⟨⟨_, rfl⟩, M12.below⟩
set_option maxHeartbeats 8000000 in
theorem aEd (w : World) (b : Body) (hb : Okb b) (j : Int × Int) (hj1 : -2147483648 ≤ j.1 ∧ j.1 ≤ 2147483647) (hj2 : -2147483648 ≤ j.2 ∧ j.2 ≤ 2147483647) :
  Calls Tryz.prog 127 #[(.agg (aF b).toArray), .agg [.int .i32 j.1, .int .i32 j.2].toArray] w (fun ex w' => ∃ v, ex = .returned v ∧ (fun v w' => (∃ g : Bool, v = .tuple #[(.agg (aF (mH b j)).toArray), .bool g]) ∧ Below w.heap.size w w') v w') := by
 have hv := hb.v
 have hm := hb.m
 have hp1 := bGk hj1 hm
 have hp2 := bGk hj2 hm
 have hlx := eO (b.vx + j.1 * b.mass / 65536) (l := 16777216) (by decide)
 have hly := eO (b.vy + j.2 * b.mass / 65536) (l := 16777216) (by decide)
 refine aI #[.cell 4 39, .tmp 5] 57 Tryz.func127 rfl Tryz.results127 Tryz.ntmps127 rfl ?_
 have M0 := Mem.refl w
 refine aE (aA (bJ (.agg (List.toArray _)) M0 rfl rfl rfl (fun b1 w1 M1 => (bJ (.agg (List.toArray _)) M1 rfl rfl rfl (fun b2 w2 M2 => (aT fO M2 rfl rfl (fun b3 w3 M3 => (wq (aJ (.bool false) rfl) rfl (aB (aC (aE ?_)))))))))))
 refine bR [(0, 0), (1, 0), (2, 1), (3, 0), (4, 0), (5, 1), (6, 0), (7, 0), (8, 1), (9, 0), (10, 0), (11, 2), (12, 0), (13, 0)] mixed rfl (by kernel_rfl) (fun w4 hb4 hh4 => ?_)
 have M4 := M3.drew hb4 hh4
 refine aU rfl rfl rfl (fun _ => aD 8 dW rfl) (aU rfl rfl rfl (fun _ => aD 0 cS rfl) (bS rfl rfl rfl (aM 0 (.int _ _) aV M4 rfl rfl rfl) (aU rfl rfl rfl (fun _ => bA dP Tryz.underlying2 rfl (fG _ (by omega) (by omega))) (aU rfl rfl rfl (fun _ => aD 0 cS rfl) ?_))))
 refine bS rfl rfl rfl (aM 1 (.int _ _) aV M4 rfl rfl rfl) (aU rfl rfl rfl (fun _ => bA dP Tryz.underlying2 rfl (fG _ (by omega) (by omega))) (aU rfl rfl rfl (fun _ => aD 4 eG rfl) (bS rfl rfl rfl (aM 0 (.int _ _) aV M4 rfl rfl rfl) (aU rfl rfl rfl (fun _ => bA dP Tryz.underlying2 rfl (fG _ (by omega) (by omega))) ?_))))
 refine aU rfl rfl rfl (fun _ => fC rfl rfl (by omega) (by omega)) (dU [true, true, false] rfl (by kernel_rfl) (bY kW rfl rfl (fB _ (j.1 * b.mass) 65536 (by decide) (by omega) (by omega)) ?_))
 rintro v5 w5 ⟨rfl, hb5⟩
 have M5 := M4.callB hb5
 refine aB (aC ⟨(eD (bL rfl (aM 0 (.int _ _) aV M5 rfl rfl rfl)) dT), ?_⟩)
 refine aU rfl rfl rfl (fun _ => aY rfl rfl (by omega) (by omega)) (mG rfl rfl rfl (bX (aC (aE (bR [(0, 0), (1, 0), (2, 1), (3, 0), (4, 0), (5, 1), (6, 0), (7, 0), (8, 1), (9, 0), (10, 0), (11, 2), (12, 0), (13, 0)] mixed rfl (by kernel_rfl) (fun w6 hb6 hh6 => ?_))))))
 have M6 := M5.drew hb6 hh6
 refine aU rfl rfl rfl (fun _ => aD 8 dW rfl) (aU rfl rfl rfl (fun _ => aD 1 cN rfl) (bS rfl rfl rfl (aM 0 (.int _ _) aV M6 rfl rfl rfl) (aU rfl rfl rfl (fun _ => bA dP Tryz.underlying2 rfl (fG _ (by omega) (by omega))) (aU rfl rfl rfl (fun _ => aD 1 cN rfl) ?_))))
 refine bS rfl rfl rfl (aM 1 (.int _ _) aV M6 rfl rfl rfl) (aU rfl rfl rfl (fun _ => bA dP Tryz.underlying2 rfl (fG _ (by omega) (by omega))) (aU rfl rfl rfl (fun _ => aD 4 eG rfl) (bS rfl rfl rfl (aM 0 (.int _ _) aV M6 rfl rfl rfl) (aU rfl rfl rfl (fun _ => bA dP Tryz.underlying2 rfl (fG _ (by omega) (by omega))) ?_))))
 refine aU rfl rfl rfl (fun _ => fC rfl rfl (by omega) (by omega)) (dU [true, true, false] rfl (by kernel_rfl) (bY kW rfl rfl (fB _ (j.2 * b.mass) 65536 (by decide) (by omega) (by omega)) ?_))
 rintro v7 w7 ⟨rfl, hb7⟩
 have M7 := M6.callB hb7
 refine aB (aC ⟨(eD (bL rfl (aM 0 (.int _ _) aV M7 rfl rfl rfl)) dT), ?_⟩)
 refine aU rfl rfl rfl (fun _ => aY rfl rfl (by omega) (by omega)) (mG rfl rfl rfl (bX (aC (aE (aA (aP rfl rfl (bY wC rfl rfl (kE _ (b.vx + j.1 * b.mass / 65536) 16777216 ⟨by decide, by decide⟩) ?_)))))))
 rintro v8 w8 ⟨rfl, hb8⟩
 have M8 := M7.callB hb8
 refine wq (bA lW Tryz.underlying21 rfl (jC _ (by omega) (by omega))) rfl (aP rfl rfl (bY wC rfl rfl (kE _ (b.vy + j.2 * b.mass / 65536) 16777216 ⟨by decide, by decide⟩) ?_))
 rintro v9 w9 ⟨rfl, hb9⟩
 have M9 := M8.callB hb9
 refine wq (bA lW Tryz.underlying21 rfl (jC _ (by omega) (by omega))) rfl (wq (cF [(0, .int _ _), (1, .int _ _)] _ fA rfl rfl) rfl (wq (aD 8 dW rfl) rfl (tN 0 _ bM M9 rfl rfl rfl rfl rfl (aR rfl) (Nat.le_of_ble_eq_true rfl) (fun w10 M10 => (aB (aC (aE (bR [(0, 1), (1, 0), (2, 0), (3, 1), (4, 0), (5, 0), (6, 0), (7, 0), (8, 0), (9, 0), (10, 1), (11, 0), (12, 0), (13, 0), (14, 0), (15, 2), (16, 0)] mixed rfl (by kernel_rfl) (fun w11 hb11 hh11 => ?_)))))))))
 have M11 := M10.drew hb11 hh11
 refine bS rfl rfl rfl (aX 0 bP M11 rfl rfl rfl) (aU rfl rfl rfl (fun _ => aD 8 dW rfl) (aU rfl rfl rfl (fun _ => aD 0 cS rfl) (bS rfl rfl rfl (aM 0 (.int _ _) aV M11 rfl rfl rfl) (aU rfl rfl rfl (fun _ => bA dP Tryz.underlying2 rfl (fG _ (by omega) (by omega))) ?_))))
 refine eB rfl rfl rfl (aU rfl rfl rfl (fun _ => cA (.bool (decide _)) rfl rfl rfl) (aU rfl rfl rfl (fun _ => aH (.bool (decide _)) rfl) ?_))
 refine wW 49 rfl (fun g49 => ?_) (fun g49 => ?_)
 ·refine rB rfl rfl rfl (rB rfl rfl rfl (nN rfl rfl rfl (rB rfl rfl rfl (rB rfl rfl rfl (rB rfl rfl rfl ?_)))))
  refine aU rfl rfl rfl (fun _ => bQ true (.bool true) rfl rfl) (dU [false, true, true] rfl (by kernel_rfl) (bI 2 _ bP M11 rfl rfl rfl rfl rfl (aR rfl) rfl (fun w12 M12 => ?_)))
  refine aB (aC ⟨(eD (.inr ⟨rfl, rfl⟩) dT), ?_⟩)
  refine aU rfl rfl rfl (fun _ => aJ (.bool true) rfl) (bX (aC (aO (tH (v2 := .bool true) 2 bP M12 rfl rfl rfl rfl ?_))))
  exact ⟨⟨_, rfl⟩, M12.below⟩
 ·refine aU rfl rfl rfl (fun _ => aD 8 dW rfl) (aU rfl rfl rfl (fun _ => aD 1 cN rfl) (bS rfl rfl rfl (aM 0 (.int _ _) aV M11 rfl rfl rfl) (aU rfl rfl rfl (fun _ => bA dP Tryz.underlying2 rfl (fG _ (by omega) (by omega))) (eB rfl rfl rfl (aU rfl rfl rfl (fun _ => cA (.bool (decide _)) rfl rfl rfl) ?_)))))
  refine aU rfl rfl rfl (fun _ => bQ false (.bool (decide _)) rfl rfl) (dU [false, true, true] rfl (by kernel_rfl) (bI 2 _ bP M11 rfl rfl rfl rfl rfl (aR rfl) rfl (fun w13 M13 => ?_)))
  refine aB (aC ⟨(eD (bL rfl (aM 0 (.int _ _) aV M13 rfl rfl rfl)) dT), ?_⟩)
  refine aU rfl rfl rfl (fun _ => aJ (.bool (decide _)) rfl) (bX (aC (aO (tH (v2 := .bool (decide _)) 2 bP M13 rfl rfl rfl rfl ?_))))
  exact ⟨⟨_, rfl⟩, M13.below⟩
set_option maxHeartbeats 4000000 in
theorem aEc (w : World) (b : Nat) :
  Calls Tryz.prog 60 #[.pointer (some ⟨b, 0, none⟩)] w (fun ex w' => ∃ v, ex = .returned v ∧ (fun v w' => v = .pointer (some ⟨b, 0, none⟩) ∧ Below w.heap.size w w') v w') := by
 refine aI #[.tmp 2] 8 Tryz.func60 rfl Tryz.results60 Tryz.ntmps60 rfl ?_
 have M0 := Mem.refl w
 refine aE (aA (wq (aJ (.pointer _) rfl) rfl (aB (aC (aE (aE (aA (wq (aH (.pointer _) rfl) rfl (wq (gV false Tryz.underlying25 rfl rfl) rfl (aB (aC ?_)))))))))))
 refine cJ rfl (aL (aC (aE (aA (wq (aH (.pointer _) rfl) rfl (wq (bE rfl) rfl (wq (aD 0 tR rfl) rfl (wq (aJ (.pointer _) rfl) rfl ?_))))))))
 refine aB (aC (aO (cG (.pointer _) rfl ?_)))
 exact ⟨rfl, M0.below⟩
set_option maxHeartbeats 4000000 in
theorem aWg (w : World) (b : Nat) (r : StV) (vs : List Body) (hW : dF 39 r vs) (hO : Own [(some b, bc [.slice r.A r.n r.c, .map r.p] 107), r.er, r.em] w) (x : Body) (hx : InB x) :
  Calls Tryz.prog 26 #[.pointer (some ⟨b, 0, none⟩), (.agg (aF x).toArray)] w (fun ex w' => ∃ v, ex = .returned v ∧ (fun v w' => ∃ r' : StV, v = .int .i64 (nV vs x).2 ∧ dF 39 r' ((nV vs x).1) ∧ Mem w (cB [(some b, bc [.slice r.A r.n r.c, .map r.p] 107), r.er, r.em]) [(some b, bc [.slice r'.A r'.n r'.c, .map r'.p] 107), r'.er, r'.em] w') v w') := by
 obtain ⟨hG, m, hs, hR⟩ := hW
 refine aI #[.tmp 4] 15 Tryz.func26 rfl Tryz.results26 Tryz.ntmps26 rfl ?_
 have M0 := hO.mem
 refine aE (aA (bJ (.agg (List.toArray _)) M0 rfl rfl rfl (fun b1 w1 M1 => (bH rfl rfl (aB (aC (aE (aE (aA (wq (aH (.pointer _) rfl) rfl (bY bCx rfl rfl (aEc _ b) ?_)))))))))))
 rintro v2 w2 ⟨rfl, hb2⟩
 have M2 := M1.callB hb2
 refine wq (aJ (.pointer _) rfl) rfl (aB (aC (aE (aA (wq (aH (.pointer _) rfl) rfl (wq (wA true Tryz.underlying119 rfl rfl) rfl (aB (aC (cE rfl ?_)))))))))
 refine aE (bR [(0, 0), (1, 0), (2, 0), (3, 1), (4, 2), (5, 0)] mixed rfl (by kernel_rfl) (fun w3 hb3 hh3 => ?_))
 have M3 := M2.drew hb3 hh3
 refine aU rfl rfl rfl (fun _ => aH (.pointer _) rfl) (aU rfl rfl rfl (fun _ => bE rfl) (aU rfl rfl rfl (fun _ => aD 0 qL rfl) (bS rfl rfl rfl (aX 3 bP M3 rfl rfl rfl) (dU [true] rfl (by kernel_rfl) (bY bJv rfl rfl (aTi _ _ _ _ _ _ _ _ _ hs (M3.ownSeg 0 3) x) ?_)))))
 rintro v4 w4 ⟨rfl, A4, n4, c4, p4, er4, em4, hs4, hM4⟩
 have M4 : Mem _ _ [_, _, _, _] _ := M3.seg 0 3 hM4
 refine aB (aC ⟨dT, ?_⟩)
 refine mG rfl rfl rfl (bX (aC (aO (cO (cG (.int _ _) rfl ?_)))))
 obtain ⟨q1, q2⟩ := hR.add x
 exact ⟨⟨A4, n4, c4, p4, er4, em4⟩, by rw [q2], aBw hs4 q1 (aTy (hG.inm hR) hx), M4.keep [true, true, true, false]⟩
set_option maxHeartbeats 4000000 in
theorem aJs (w : World) (b : Nat) (r : StV) (vs : List Body) (hW : dF 39 r vs) (hO : Own [(some b, bc [.slice r.A r.n r.c, .map r.p] 107), r.er, r.em] w) (key : Int) :
  Calls Tryz.prog 86 #[.pointer (some ⟨b, 0, none⟩), .int .u32 key] w (fun ex w' => ∃ v, ex = .returned v ∧ (fun v w' => ∃ r' : StV, v = .int .i64 (gK vs key).2 ∧ dF 39 r' ((gK vs key).1) ∧ Mem w (cB [(some b, bc [.slice r.A r.n r.c, .map r.p] 107), r.er, r.em]) [(some b, bc [.slice r'.A r'.n r'.c, .map r'.p] 107), r'.er, r'.em] w') v w') := by
 obtain ⟨hG, m, hs, hR⟩ := hW
 refine aI #[.tmp 4] 15 Tryz.func86 rfl Tryz.results86 Tryz.ntmps86 rfl ?_
 have M0 := hO.mem
 refine aE (aA (bH rfl rfl (aB (aC (aE (aE (aA (wq (aH (.pointer _) rfl) rfl (bY bCx rfl rfl (aEc _ b) ?_)))))))))
 rintro v1 w1 ⟨rfl, hb1⟩
 have M1 := M0.callB hb1
 refine wq (aJ (.pointer _) rfl) rfl (aB (aC (aE (aA (wq (aH (.pointer _) rfl) rfl (wq (wA true Tryz.underlying119 rfl rfl) rfl (aB (aC (cE rfl ?_)))))))))
 refine aE (aA (wq (aH (.pointer _) rfl) rfl (wq (bE rfl) rfl (wq (aD 0 qL rfl) rfl (aP rfl rfl (bY bKr rfl rfl (aQr _ _ _ _ _ _ _ _ _ hs (M1.ownSeg 0 3) key) ?_))))))
 rintro v2 w2 ⟨rfl, A2, n2, c2, p2, er2, em2, hs2, hM2⟩
 have M2 : Mem _ _ [_, _, _] _ := M1.seg 0 3 hM2
 refine bH rfl rfl (aB (aC (aO (cO (cG (.int _ _) rfl ?_)))))
 obtain ⟨q1, q2⟩ := hR.remove key
 exact ⟨⟨A2, n2, c2, p2, er2, em2⟩, by rw [q2], aBw hs2 q1 (aCg hs.keys (hG.inm hR)), M2.keep [true, true, true]⟩
set_option maxHeartbeats 4000000 in
theorem aXa (w : World) (b : Nat) (r : StV) (vs : List Body) (hW : dF 39 r vs) (hO : Own [(some b, bc [.slice r.A r.n r.c, .map r.p] 107), r.er, r.em] w) (key : Int) :
  Calls Tryz.prog 69 #[.pointer (some ⟨b, 0, none⟩), .int .u32 key] w (fun ex w' => ∃ v, ex = .returned v ∧ (fun v w' => v = .tuple #[(.agg (aF (rA vs key).body).toArray), .int .i64 (rA vs key).err] ∧ Mem w (cB [(some b, bc [.slice r.A r.n r.c, .map r.p] 107), r.er, r.em]) [(some b, bc [.slice r.A r.n r.c, .map r.p] 107), r.er, r.em] w') v w') := by
 obtain ⟨hG, m, hs, hR⟩ := hW
 refine aI #[.cell 4 39, .tmp 5] 19 Tryz.func69 rfl Tryz.results69 Tryz.ntmps69 rfl ?_
 have M0 := hO.mem
 refine aE (aA (aT fO M0 rfl rfl (fun b1 w1 M1 => (bH rfl rfl (aB (aC (aE (aE (aA (wq (aH (.pointer _) rfl) rfl (bY bCx rfl rfl (aEc _ b) ?_)))))))))))
 rintro v2 w2 ⟨rfl, hb2⟩
 have M2 := M1.callB hb2
 refine wq (aJ (.pointer _) rfl) rfl (aB (aC (aE (aA (wq (aH (.pointer _) rfl) rfl (wq (wA true Tryz.underlying119 rfl rfl) rfl (aB (aC (cE rfl ?_)))))))))
 refine aE (aA (wq (aH (.pointer _) rfl) rfl (wq (bE rfl) rfl (wq (aD 0 qL rfl) rfl (aP rfl rfl (bY bLi rfl rfl (bFn _ _ _ _ _ _ _ _ _ hs (M2.ownSeg 0 3) key) ?_))))))
 rintro v3 w3 ⟨⟨x3, rfl, hx3⟩, hM3⟩
 have M3 : Mem _ _ [_, _, _, _] _ := M2.seg 0 3 hM3
 have hge := bFz hR key
 obtain rfl : x3 = (rA vs key).body := by rw [hx3, hge]
 have hge2 : (aDg m key).2 = (rA vs key).err := by rw [hge]
 refine wq (bN (.agg (List.toArray _)) rfl rfl) rfl (wq (bN (.int _ _) rfl rfl) rfl (aK 17 (.int .i64 (rA vs key).err) (iE hge2) (bI 3 _ bP M3 rfl rfl rfl rfl rfl (aR rfl) rfl (fun w4 M4 => (bH rfl rfl (aB (aC (aO (cO ?_)))))))))
 refine tH (v2 := .int _ _) 3 bP M4 rfl rfl rfl rfl ?_
 exact ⟨rfl, M4.keep [true, true, true, false]⟩
set_option maxHeartbeats 4000000 in
theorem aEo (w : World) (b : Nat) (r : StV) (vs : List Body) (hW : dF 39 r vs) (hO : Own [(some b, bc [.slice r.A r.n r.c, .map r.p] 107), r.er, r.em] w) :
  Calls Tryz.prog 38 #[.pointer (some ⟨b, 0, none⟩)] w (fun ex w' => ∃ v, ex = .returned v ∧ (fun v w' => ∃ q : Row, v = .slice q.A q.n q.c ∧ bC 39 10 q.A q.n q.c ((vs).map aF) q.e ∧ Mem w (cB [(some b, bc [.slice r.A r.n r.c, .map r.p] 107), r.er, r.em]) [(some b, bc [.slice r.A r.n r.c, .map r.p] 107), r.er, r.em, q.e] w') v w') := by
 have hW' := hW
 obtain ⟨hG, m, hs, hR⟩ := hW
 refine aI #[.tmp 2] 10 Tryz.func38 rfl Tryz.results38 Tryz.ntmps38 rfl ?_
 have M0 := hO.mem
 refine aE (aA (eI rfl rfl (aB (aC (aE (aE (aA (wq (aH (.pointer _) rfl) rfl (wq (gV false Tryz.underlying25 rfl rfl) rfl (aB (aC ?_)))))))))))
 refine cJ rfl (aL (aC (aE (aA (wq (aH (.pointer _) rfl) rfl (wq (bE rfl) rfl (wq (aD 0 tR rfl) rfl (wq (aD 0 qL rfl) rfl ?_))))))))
 refine bY bRn rfl rfl (aRq _ _ _ _ _ _ _ _ _ hs (M0.ownSeg 0 3)) ?_
 rintro v1 w1 ⟨A1, n1, c1, e1, rfl, hR1, hM1⟩
 have M1 : Mem _ _ [_, _, _, _] _ := M0.seg 0 3 hM1
 rw [hR.eq] at hR1
 refine eI rfl rfl (aB (aC (aO (cG (.slice _ _ _) rfl ?_))))
 exact ⟨⟨A1, n1, c1, e1⟩, rfl, hR1, M1⟩
set_option maxHeartbeats 4000000 in
theorem aEx (w : World) (b : Nat) (r : StV) (vs : List Body) (hW : dF 39 r vs) (hO : Own [(some b, bc [.slice r.A r.n r.c, .map r.p] 107), r.er, r.em] w) :
  Calls Tryz.prog 24 #[.pointer (some ⟨b, 0, none⟩)] w (fun ex w' => ∃ v, ex = .returned v ∧ (fun v w' => ∃ q : Row, v = .slice q.A q.n q.c ∧ bC 5 1 q.A q.n q.c ((zJ vs).map bK) q.e ∧ Mem w (cB [(some b, bc [.slice r.A r.n r.c, .map r.p] 107), r.er, r.em]) [(some b, bc [.slice r.A r.n r.c, .map r.p] 107), r.er, r.em, q.e] w') v w') := by
 have hW' := hW
 obtain ⟨hG, m, hs, hR⟩ := hW
 refine aI #[.tmp 2] 14 Tryz.func24 rfl Tryz.results24 Tryz.ntmps24 rfl ?_
 have M0 := hO.mem
 refine aE (aA (eI rfl rfl (aB (aC (aE (aE (aA (wq (aH (.pointer _) rfl) rfl (wq (gV false Tryz.underlying25 rfl rfl) rfl (aB (aC ?_)))))))))))
 refine cJ rfl (aL (aC (aE (aA (wq (aH (.pointer _) rfl) rfl (bY bJp rfl rfl (aEo _ _ r _ hW' (M0.ownSeg 0 3)) ?_))))))
 rintro v1 w1 ⟨q, rfl, hq, hM1⟩
 have M1 : Mem _ _ [_, _, _, _] _ := M0.seg 0 3 hM1
 have hqn : vs.length = q.n := by simpa using hq.1
 have hvl := hG.len
 refine bY bPx rfl rfl (aKn _ _ _ _ vs (hq.rd M1 (aZ (i := 3) rfl)) (by omega) hG.chk hG.inb) ?_
 rintro v2 w2 ⟨z, rfl, hz, hM2⟩
 have M2 : Mem _ _ [_, _, _, _, _] _ := M1.call0 hM2
 refine wq (aH (.tuple (List.toArray _)) rfl) rfl (wq (bN (.slice _ _ _) rfl rfl) rfl (wq (bN (.int _ _) rfl rfl) rfl (eI rfl rfl (bH rfl rfl (aB (aC (aE (aA ?_))))))))
 refine dH rfl rfl (eI rfl rfl (aB (aC (aO (cG (.slice _ _ _) rfl ?_)))))
 exact ⟨z, rfl, hz, M2.keep [true, true, true, false, true]⟩
set_option maxHeartbeats 8000000 in
theorem aGb (w : World) (b : Nat) (r : StV) (vs : List Body) (hW : dF 39 r vs) (hO : Own [(some b, bc [.slice r.A r.n r.c, .map r.p] 107), r.er, r.em] w) (key : Int) (j : Int × Int) (hj1 : -2147483648 ≤ j.1 ∧ j.1 ≤ 2147483647) (hj2 : -2147483648 ≤ j.2 ∧ j.2 ≤ 2147483647) :
  Calls Tryz.prog 91 #[.pointer (some ⟨b, 0, none⟩), .int .u32 key, .agg [.int .i32 j.1, .int .i32 j.2].toArray] w (fun ex w' => ∃ v, ex = .returned v ∧ (fun v w' => ∃ r' : StV, v = .int .i64 (qF vs key j).2 ∧ dF 39 r' ((qF vs key j).1) ∧ Mem w (cB [(some b, bc [.slice r.A r.n r.c, .map r.p] 107), r.er, r.em]) [(some b, bc [.slice r'.A r'.n r'.c, .map r'.p] 107), r'.er, r'.em] w') v w') := by
 have hW' := hW
 obtain ⟨hG, m, hs, hR⟩ := hW
 refine aI #[.tmp 6] 30 Tryz.func91 rfl Tryz.results91 Tryz.ntmps91 rfl ?_
 have M0 := hO.mem
 refine aE (aA (bJ (.agg (List.toArray _)) M0 rfl rfl rfl (fun b1 w1 M1 => (bH rfl rfl (aB (aC (aE (aA (wq (aH (.pointer _) rfl) rfl (aP rfl rfl ?_))))))))))
 refine bY bQm rfl rfl (aXa _ _ r vs hW' (M1.ownSeg 0 3) key) ?_
 rintro v2 w2 ⟨rfl, hM2⟩
 have M2 : Mem _ _ [_, _, _, _] _ := M1.seg 0 3 hM2
 refine wq (aH (.tuple (List.toArray _)) rfl) rfl (wq (bN (.agg (List.toArray _)) rfl rfl) rfl (wq (bN (.int _ _) rfl rfl) rfl (aT fO M2 rfl rfl (fun b3 w3 M3 => (bI 4 _ bP M3 rfl rfl rfl rfl rfl (aR rfl) rfl (fun w4 M4 => (bH rfl rfl ?_)))))))
 refine aB (aC (aE (aE (aA (aP rfl rfl (cY rfl rfl rfl rfl (aB (aC ?_))))))))
 refine aW rfl (fun h16 => ?_) (fun h16 => ?_)
 ·refine aE (aA (aP rfl rfl (bH rfl rfl (aB (aC (aO (cO (cG (.int _ _) rfl ?_))))))))
  have hf : dJ key vs < 0 := Decidable.byContradiction fun h => h16 (by unfold rA; rw [if_neg h]; rfl)
  exact ⟨r, by rw [tD j hf]; unfold rA; rw [if_pos hf], by rw [tD j hf]; exact hW', M4.keep [true, true, true, false, false]⟩
 ·have hf : ¬ dJ key vs < 0 := fun h => h16 (by unfold rA; rw [if_pos h]; decide)
  obtain ⟨i, bb, hbi, _, hfi⟩ := (eH key vs).resolve_left (fun h => hf (by omega))
  have hgb : (rA vs key).body = bb := by unfold rA; rw [if_neg hf]; exact tO hfi hbi
  obtain ⟨z1, z2, z3, z4⟩ := aSs hR hG j hfi hbi
  have hbo := hG.okb bb (List.mem_of_getElem? hbi)
  refine aL (aC (aE (aA (wq (aX 4 bP M4 rfl rfl rfl) rfl (aK 19 ((.agg (aF bb).toArray)) (congrArg (fun x => Value.agg (aF x).toArray) hgb) (wq (aX 3 bM M4 rfl rfl rfl) rfl (bY bNi rfl rfl (bDb _ bb hbo j hj1 hj2) ?_)))))))
  rintro v5 w5 ⟨⟨gg, rfl⟩, hb5⟩
  have M5 := M4.callB hb5
  refine wq (aH (.tuple (List.toArray _)) rfl) rfl (wq (bN (.agg (List.toArray _)) rfl rfl) rfl (wq (bN (.bool _) rfl rfl) rfl (bI 4 _ bP M5 rfl rfl rfl rfl rfl (aR rfl) rfl (fun w6 M6 => (aB (aC (aE (bR [(0, 0), (1, 0), (2, 0), (3, 0), (4, 1), (5, 2), (6, 0)] mixed rfl (by kernel_rfl) (fun w7 hb7 hh7 => ?_)))))))))
  have M7 := M6.drew hb7 hh7
  refine aU rfl rfl rfl (fun _ => aH (.pointer _) rfl) (aU rfl rfl rfl (fun _ => bE rfl) (aU rfl rfl rfl (fun _ => aD 0 tR rfl) (aU rfl rfl rfl (fun _ => aD 0 qL rfl) (bS rfl rfl rfl (aX 4 bP M7 rfl rfl rfl) (dU [true] rfl (by kernel_rfl) ?_)))))
  refine bY bOt rfl rfl (bFw _ _ _ _ _ _ _ _ _ hs (M7.ownSeg 0 3) (mH bb j)) ?_
  rintro v8 w8 ⟨rfl, A8, n8, c8, p8, er8, em8, hs8, hM8⟩
  have M8 : Mem _ _ [_, _, _, _, _] _ := M7.seg 0 3 hM8
  refine aB (aC ⟨dT, ?_⟩)
  refine mG rfl rfl rfl (bX (aC (aO (cG (.int _ _) rfl ?_))))
  exact ⟨⟨A8, n8, c8, p8, er8, em8⟩, by rw [z3, z2], aBw hs8 z1 (aUr (hG.inm hR) (aSp (hG.inb bb (List.mem_of_getElem? hbi)) j)), M8.keep [true, true, true, false, false]⟩
set_option maxHeartbeats 8000000 in
theorem vM (w : World) (b : Nat) (r : StV) (vs : List Body) (hW : dF 39 r vs) (hO : Own [(some b, bc [.slice r.A r.n r.c, .map r.p] 107), r.er, r.em] w) (A : Option Addr) (n c : Nat) (xs : List Body) (RA : Rd w 10 A n (xs.map aF)) (hX : GoodV xs) (hdA : 0 < n → ∀ q off, A = some ⟨q, off, none⟩ → q ∉ cB [(some b, bc [.slice r.A r.n r.c, .map r.p] 107), r.er, r.em]) :
  Calls Tryz.prog 78 #[.pointer (some ⟨b, 0, none⟩), .slice A n c] w (fun ex w' => ∃ v, ex = .returned v ∧ (fun v w' => ∃ r' : StV, v = .tuple #[] ∧ dF 39 r' (xs) ∧ Mem w (cB [(some b, bc [.slice r.A r.n r.c, .map r.p] 107), r.er, r.em]) [(some b, bc [.slice r'.A r'.n r'.c, .map r'.p] 107), r'.er, r'.em] w') v w') := by
 have hlen : xs.length = n := by simpa using RA.len
 have hbd := RA.bound
 have hxl := hX.len
 refine aI #[] 23 Tryz.func78 rfl Tryz.results78 Tryz.ntmps78 rfl ?_
 have M0 := hO.mem
 refine aE (aA (wq (aH (.pointer _) rfl) rfl (wq (cF [] _ aXr rfl rfl) rfl (wq (bE rfl) rfl (wq (aD 0 tR rfl) rfl (bI 0 _ bMq M0 rfl rfl rfl rfl rfl (aR rfl) rfl (fun w1 M1 => ?_)))))))
 refine aB (aC (aE (aA ?_)))
 have M2 : Mem _ _ [_, _, _] _ := (((M1.keep [true, false, false]).dummy default).dummy default)
 refine dH rfl rfl (wq (cZ Tryz.underlying29 rfl) rfl (aP rfl rfl (aB (aC (aQ (dS (σ := Nat × StV) [0, 10, 11] (fun (k, r2) => [(12, .int .i64 (k : Int))]) (fun (k, r2) w' => (k ≤ n ∧ StoreIs 39 r2.A r2.n r2.c r2.p r2.er r2.em (xs.take k)) ∧ Mem w (cB [(some b, bc [.slice r.A r.n r.c, .map r.p] 107), r.er, r.em]) [(some b, bc [.slice r2.A r2.n r2.c, .map r2.p] 107), r2.er, r2.em] w') (fun (k, r2) => n - k) (0, ⟨none, 0, 0, none, (none, default), (none, default)⟩) (bB rfl dZ) (⟨⟨by omega, (StoreIs.nil 39 default default)⟩, M2⟩) ?_))))))
 rintro ⟨k, r2⟩ ρ3 w3 ⟨⟨hk, hr⟩, hM3⟩
 refine aE (aA (cY rfl rfl rfl rfl (aB (aC (aE ?_)))))
 refine aW rfl (fun h13 => ?_) (fun h13 => ?_)
 ·obtain ⟨xb, hxb⟩ := cV (xs := xs) (k := k) hlen (by omega)
  refine aL (aC (aE (aQ (aE (aA (wq (bO (k) dK rfl rfl rfl ((RA.memY hM3 hdA).below_len (aG aF hxb)) ((RA.memY hM3 hdA).someK (aG aF hxb))) rfl (wq (dI _ bP (RA.memY hM3 hdA) (aG aF hxb) rfl) rfl (aT fO hM3 rfl rfl (fun b4 w4 M4 => ?_)))))))))
  refine bI 3 _ bP M4 rfl rfl rfl rfl rfl (aR rfl) rfl (fun w5 M5 => (aB (aC (bR [(0, 0), (1, 0), (2, 0), (3, 0), (4, 1), (5, 2)] mixed rfl (by kernel_rfl) (fun w6 hb6 hh6 => ?_)))))
  have M6 := M5.drew hb6 hh6
  refine aU rfl rfl rfl (fun _ => aH (.pointer _) rfl) (aU rfl rfl rfl (fun _ => bE rfl) (aU rfl rfl rfl (fun _ => aD 0 tR rfl) (aU rfl rfl rfl (fun _ => aD 0 qL rfl) (bS rfl rfl rfl (aX 3 bP M6 rfl rfl rfl) (dU [true] rfl (by kernel_rfl) ?_)))))
  refine bY bJv rfl rfl (aTi _ _ _ _ _ _ _ _ _ hr (M6.ownSeg 0 3) xb) ?_
  rintro v7 w7 ⟨rfl, A7, n7, c7, p7, er7, em7, hs7, hM7⟩
  have M7 : Mem _ _ [_, _, _, _] _ := M6.seg 0 3 hM7
  refine aB (aC ⟨dT, ?_⟩)
  refine bX (cT (aC (aA (wq (aY rfl rfl (by omega) (by omega)) rfl (aP rfl rfl (aB ?_))))))
  refine cD (k + 1, ⟨A7, n7, c7, p7, er7, em7⟩) (bB rfl dZ) (cK rfl (cK rfl (cK rfl gW))) ?_ ?_
  ·exact ⟨⟨by omega, by rw [← aNc hX (k + 1) (by omega), aDo hxb, aNc hX k (by omega)]; exact hs7⟩, M7.keep [true, true, true, false]⟩
  ·(show n - (k + 1) < n - k; omega)
 ·obtain rfl : k = n := by omega
  rw [List.take_of_length_le (by omega)] at hr
  refine cW (dE (dL (eS (lB ?_))))
  exact ⟨r2, rfl, ⟨hX, xs, hr, wQ hX.s⟩, hM3⟩
set_option maxHeartbeats 8000000 in
theorem aRv (w : World) (F : Rd w 2 (some ⟨0, 0, none⟩) 1 [[.int .u32 73856093, .int .u32 19349663]]) (N : Rd w 4 (some ⟨3, 0, none⟩) 1 [eK jY]) (b : Nat) (r : StV) (vs : List Body) (hW : dF 39 r vs) (hO : Own [(some b, bc [.slice r.A r.n r.c, .map r.p] 107), r.er, r.em] w) (hdF : 0 < 1 → ∀ q off, (some ⟨0, 0, none⟩ : Option Addr) = some ⟨q, off, none⟩ → q ∉ cB [(some b, bc [.slice r.A r.n r.c, .map r.p] 107), r.er, r.em]) (hdN : 0 < 1 → ∀ q off, (some ⟨3, 0, none⟩ : Option Addr) = some ⟨q, off, none⟩ → q ∉ cB [(some b, bc [.slice r.A r.n r.c, .map r.p] 107), r.er, r.em]) :
  Calls Tryz.prog 53 #[.pointer (some ⟨b, 0, none⟩)] w (fun ex w' => ∃ v, ex = .returned v ∧ (fun v w' => ∃ (r' : StV) (t : Nat), v = .agg [.int .i64 (t : Int), .int .i64 ((lL vs).length : Int), .bool (tW vs)].toArray ∧ dF 39 r' (sE vs) ∧ Mem w (cB [(some b, bc [.slice r.A r.n r.c, .map r.p] 107), r.er, r.em]) [(some b, bc [.slice r'.A r'.n r'.c, .map r'.p] 107), r'.er, r'.em] w') v w') := by
 have hW' := hW
 obtain ⟨hG, m, hs, hR⟩ := hW
 have hvl := hG.len
 refine aI #[.cell 2 58] 18 Tryz.func53 rfl Tryz.results53 Tryz.ntmps53 rfl ?_
 have M0 := hO.mem
 refine aE (aA (aT aIu M0 rfl rfl (fun b1 w1 M1 => (aB (aC (aE (aE (aA (wq (aH (.pointer _) rfl) rfl (wq (gV false Tryz.underlying25 rfl rfl) rfl (aB (aC ?_))))))))))))
 refine cJ rfl (aL (aC (aE (aA (wq (aH (.pointer _) rfl) rfl (bY bJp rfl rfl (aEo _ _ r _ hW' (M1.ownSeg 0 3)) ?_))))))
 rintro v2 w2 ⟨q, rfl, hq, hM2⟩
 have M2 : Mem _ _ [_, _, _, _, _] _ := M1.seg 0 3 hM2
 have hqn : vs.length = q.n := by simpa using hq.1
 refine bY bRh rfl rfl (aVb _ (F.memY M2 hdF) (N.memY M2 hdN) _ _ _ vs (hq.rd M2 (aZ (i := 4) rfl)) hG.okb hG.s (by omega)) ?_
 rintro v3 w3 ⟨ra, ta, rfl, h1ta, h2ta, hra, hM3⟩
 have M3 : Mem _ _ [_, _, _, _, _, _] _ := M2.call0 hM3
 refine wq (aH (.tuple (List.toArray _)) rfl) rfl (wq (bN (.slice _ _ _) rfl rfl) rfl (wq (bN (.agg (List.toArray _)) rfl rfl) rfl (aT aIu M3 rfl rfl (fun b4 w4 M4 => (eI rfl rfl (bI 6 _ zV M4 rfl rfl rfl rfl rfl (aR rfl) rfl (fun w5 M5 => ?_)))))))
 refine aB (aC (aE (aA (wq (aH (.pointer _) rfl) rfl (dH rfl rfl (bY bIy rfl rfl (vM _ _ r _ hW' (M5.ownSeg 0 3) ra.A ra.n ra.c (sE vs) (hra.rd M5 (aZ (i := 5) rfl)) hG.step (hra.awayS M5 0 3 5 rfl rfl)) ?_))))))
 rintro v6 w6 ⟨r2, rfl, hw2, hM6⟩
 have M6 : Mem _ _ [_, _, _, _, _, _, _] _ := M5.seg 0 3 hM6
 refine aB (aC (aE (aA (wq (aX 6 zV M6 rfl rfl rfl) rfl (bI 3 _ zV M6 rfl rfl rfl rfl rfl (aR rfl) rfl (fun w7 M7 => (aB (aC (aO (eL 3 zV M7 rfl rfl rfl ?_))))))))))
 exact ⟨r2, ta, rfl, hw2, M7.keep [true, true, true, false, false, false, false]⟩
set_option maxHeartbeats 8000000 in
theorem aFq (w : World) (b : Nat) (r : StV) (vs : List Body) (hW : dF 39 r vs) (hO : Own [(some b, bc [.slice r.A r.n r.c, .map r.p] 107), r.er, r.em] w) (BA : Option Addr) (nn cc : Nat) (ls : List Int) (RS : Rd w 1 BA nn (ls.map bK)) (hB : lS ls) (hcap : nn ≤ cc) (hnn : nn ≤ 1000000) (hdB : 0 < nn → ∀ q off, BA = some ⟨q, off, none⟩ → q ∉ cB [(some b, bc [.slice r.A r.n r.c, .map r.p] 107), r.er, r.em]) :
  Calls Tryz.prog 74 #[.pointer (some ⟨b, 0, none⟩), .slice BA nn cc] w (fun ex w' => ∃ v, ex = .returned v ∧ (fun v w' => ∃ r' : StV, v = .int .i64 (nR ls).2 ∧ dF 39 r' (sK vs ls) ∧ Mem w (cB [(some b, bc [.slice r.A r.n r.c, .map r.p] 107), r.er, r.em]) [(some b, bc [.slice r'.A r'.n r'.c, .map r'.p] 107), r'.er, r'.em] w') v w') := by
 have hW' := hW
 obtain ⟨hG, m, hs, hR⟩ := hW
 have hlen : ls.length = nn := by simpa using RS.len
 refine aI #[.tmp 4] 20 Tryz.func74 rfl Tryz.results74 Tryz.ntmps74 rfl ?_
 have M0 := hO.mem
 refine aE (aA (bH rfl rfl (aB (aC (aE (aE (aA (wq (aH (.pointer _) rfl) rfl (wq (gV false Tryz.underlying25 rfl rfl) rfl (aB (aC ?_)))))))))))
 refine cJ rfl (aL (aC (aE (aA (dH rfl rfl (bY bQs rfl rfl (aKj _ BA nn cc ls (RS.memY M0 hdB) hB hcap (by omega)) ?_))))))
 rintro v1 w1 ⟨q, rfl, hq, hM1⟩
 have M1 : Mem _ _ [_, _, _, _] _ := M0.call0 hM1
 refine wq (aH (.tuple (List.toArray _)) rfl) rfl (wq (bN (.slice _ _ _) rfl rfl) rfl (wq (bN (.int _ _) rfl rfl) rfl (eI rfl rfl (bH rfl rfl (aB (aC (aE (aE (aA ?_)))))))))
 refine aP rfl rfl (cY rfl rfl rfl rfl (aB (aC ?_)))
 refine aW rfl (fun h15 => ?_) (fun h15 => ?_)
 ·refine aA (wq (aH (.pointer _) rfl) rfl (dH rfl rfl (bY bIy rfl rfl (vM _ _ r _ hW' (M1.ownSeg 0 3) q.A q.n q.c (nR ls).1 (hq.rd M1 (aZ (i := 3) rfl)) (GoodV.dec hB (by omega) h15) (hq.awayS M1 0 3 3 rfl rfl)) ?_)))
  rintro v2 w2 ⟨r2, rfl, hw2, hM2⟩
  have M2 : Mem _ _ [_, _, _, _] _ := M1.seg 0 3 hM2
  refine aB (aC (aE (aA (aP rfl rfl (bH rfl rfl (aB (aC (aO (cG (.int _ _) rfl ?_)))))))))
  exact ⟨r2, rfl, by unfold sK; rw [if_pos h15]; exact hw2, M2.keep [true, true, true, false]⟩
 ·refine aL (aC (aE (aA (aP rfl rfl (bH rfl rfl (aB (aC (aO (cG (.int _ _) rfl ?_)))))))))
  exact ⟨r, rfl, by unfold sK; rw [if_neg h15]; exact hW', M1.keep [true, true, true, false]⟩
set_option maxHeartbeats 8000000 in
theorem aGq (w : World) (q0 : Row) (s : List Body) (hq0 : bC 39 10 q0.A q0.n q0.c ((s).map aF) q0.e) (hG : GoodV s) (hO : Own [q0.e] w) (key : Int) (j : Int × Int) (hj1 : -2147483648 ≤ j.1 ∧ j.1 ≤ 2147483647) (hj2 : -2147483648 ≤ j.2 ∧ j.2 ≤ 2147483647) :
  Calls Tryz.prog 96 #[.slice q0.A q0.n q0.c, .int .u32 key, .agg [.int .i32 j.1, .int .i32 j.2].toArray] w (fun ex w' => ∃ v, ex = .returned v ∧ (fun v w' => ∃ q : Row, v = .tuple #[.slice q.A q.n q.c, .int .i64 (qF s key j).2] ∧ bC 39 10 q.A q.n q.c (((qF s key j).1).map aF) q.e ∧ Mem w (cB [q0.e]) [q.e] w') v w') := by
 have hlen : s.length = q0.n := by simpa using hq0.1
 have hsl := hG.len
 refine aI #[.tmp 6, .tmp 7] 29 Tryz.func96 rfl Tryz.results96 Tryz.ntmps96 rfl ?_
 have M0 := hO.mem
 refine aE (aA (bJ (.agg (List.toArray _)) M0 rfl rfl rfl (fun b1 w1 M1 => (eI rfl rfl (bH rfl rfl (aB (aC (aE (aA (dH rfl rfl ?_))))))))))
 refine aP rfl rfl (bY sH rfl rfl (gS _ key _ _ _ s (hq0.rd M1 (aZ (i := 0) rfl))) ?_)
 rintro v2 w2 ⟨rfl, hb2⟩
 have M2 := M1.callB hb2
 refine bH rfl rfl (aB (aC (aE (aE (aA (aP rfl rfl (cY rfl rfl rfl rfl (aB (aC ?_)))))))))
 refine aW rfl (fun h15 => ?_) (fun h15 => ?_)
 ·refine aE (aA (dH rfl rfl (eI rfl rfl (bH rfl rfl (aB (aC (aO (cO (fY (.slice _ _ _) (.int _ _) rfl rfl ?_)))))))))
  exact ⟨q0, by rw [tD j h15], by rw [tD j h15]; exact hq0, M2.keep [true, false]⟩
 ·obtain ⟨i, bb, hbi, _, hfi⟩ := (eH key s).resolve_left (fun h => h15 (by omega))
  have hbo := hG.okb bb (List.mem_of_getElem? hbi)
  have hie : qF s key j = (wE s (mH bb j) false, 0) := by unfold qF; rw [if_neg (by omega), tO hfi hbi]
  refine aL (aC (aE (aIx [(0, 0), (1, 0), (2, 1), (3, 1), (4, 1)] 5 9 [(6, 0), (7, 0), (8, 0), (9, 2), (10, 2), (11, 0)] [(5, 2), (6, 0), (7, 0), (8, 0), (10, 2), (11, 0)] mixed rfl (by kernel_rfl) (fun w3 hb3 hh3 => ?_))))
  have M3 := M2.drew hb3 hh3
  refine rG rfl rfl rfl (fun _ => aH (.slice _ _ _) rfl) (rG rfl rfl rfl (fun _ => aH (.int _ _) rfl) (yO rfl rfl rfl (bO (i) dK rfl rfl hfi ((hq0.rd M3 (aZ (i := 0) rfl)).below_len (aG aF hbi)) ((hq0.rd M3 (aZ (i := 0) rfl)).someK (aG aF hbi))) (yO rfl rfl rfl (dI _ bP (hq0.rd M3 (aZ (i := 0) rfl)) (aG aF hbi) rfl) ?_)))
  refine yO rfl rfl rfl (aX 1 bM M3 rfl rfl rfl) ?_
  refine aCd ?_ ?_
  ·refine dU [true, true, true] rfl (by kernel_rfl) (bY bAa rfl rfl (aEd _ bb hbo j hj1 hj2) ?_)
   rintro v4 w4 ⟨⟨gg, rfl⟩, hb4⟩
   have M4 := M3.callB hb4
   refine aB (aC ⟨dT, ?_⟩)
   refine aU rfl rfl rfl (fun _ => aH (.tuple (List.toArray _)) rfl) (aU rfl rfl rfl (fun _ => bN (.agg (List.toArray _)) rfl rfl) (aU rfl rfl rfl (fun _ => bN (.bool _) rfl rfl) (dU [] rfl (by kernel_rfl) (aT fO M4 rfl rfl (fun b5 w5 M5 => ?_)))))
   refine aB (aC ⟨dT, ?_⟩)
   refine dU [] rfl (by kernel_rfl) (bI 2 _ bP M5 rfl rfl rfl rfl rfl (aR rfl) rfl (fun w6 M6 => ?_))
   refine aB (aC ⟨dT, ?_⟩)
   refine aU rfl rfl rfl (fun _ => aJ (.bool _) rfl) (bX (aC (aE (aA (dH rfl rfl (wq (aX 2 bP M6 rfl rfl rfl) rfl (bY aIs rfl rfl (uF _ (mH bb j) false _ _ _ s (hq0.rd M6 (aZ (i := 0) rfl)) (by omega)) ?_)))))))
   rintro v7 w7 ⟨A7, n7, c7, e7, rfl, hR7, hM7⟩
   have M7 : Mem _ _ [_, _, _, _] _ := M6.call0 hM7
   refine eI rfl rfl (bH rfl rfl (aB (aC (aO (fY (.slice _ _ _) (.int _ _) rfl rfl ?_)))))
   exact ⟨⟨A7, n7, c7, e7⟩, by rw [hie], by rw [hie]; exact hR7, M7.keep [false, false, false, true]⟩
  ·refine dU [false, false, false] rfl (by kernel_rfl) (aT fO M3 rfl rfl (fun b8 w8 M8 => ?_))
   refine aB (aC ⟨(eD (bL rfl (aX 1 bM M8 rfl rfl rfl)) (eD (bL rfl (dI _ bP (hq0.rd M8 (aZ (i := 0) rfl)) (aG aF hbi) rfl)) (eD (bL rfl (bO (i) dK rfl rfl hfi ((hq0.rd M8 (aZ (i := 0) rfl)).below_len (aG aF hbi)) ((hq0.rd M8 (aZ (i := 0) rfl)).someK (aG aF hbi)))) dT))), ?_⟩)
   refine dU [true, true, true] rfl (by kernel_rfl) (bY bAa rfl rfl (aEd _ bb hbo j hj1 hj2) ?_)
   rintro v9 w9 ⟨⟨gg, rfl⟩, hb9⟩
   have M9 := M8.callB hb9
   refine aB (aC ⟨dT, ?_⟩)
   refine aU rfl rfl rfl (fun _ => aH (.tuple (List.toArray _)) rfl) (aU rfl rfl rfl (fun _ => bN (.agg (List.toArray _)) rfl rfl) (aU rfl rfl rfl (fun _ => bN (.bool _) rfl rfl) (dU [] rfl (by kernel_rfl) (bI 2 _ bP M9 rfl rfl rfl rfl rfl (aR rfl) rfl (fun w10 M10 => ?_)))))
   refine aB (aC ⟨dT, ?_⟩)
   refine aU rfl rfl rfl (fun _ => aJ (.bool _) rfl) (bX (aC (aE (aA (dH rfl rfl (wq (aX 2 bP M10 rfl rfl rfl) rfl (bY aIs rfl rfl (uF _ (mH bb j) false _ _ _ s (hq0.rd M10 (aZ (i := 0) rfl)) (by omega)) ?_)))))))
   rintro v11 w11 ⟨A11, n11, c11, e11, rfl, hR11, hM11⟩
   have M11 : Mem _ _ [_, _, _, _] _ := M10.call0 hM11
   refine eI rfl rfl (bH rfl rfl (aB (aC (aO (fY (.slice _ _ _) (.int _ _) rfl rfl ?_)))))
   exact ⟨⟨A11, n11, c11, e11⟩, by rw [hie], by rw [hie]; exact hR11, M11.keep [false, false, false, true]⟩
set_option maxHeartbeats 32000000 in
theorem aZw (w : World) (q0 : Row) (s : List Body) (hq0 : bC 39 10 q0.A q0.n q0.c ((s).map aF) q0.e) (hG : GoodV s) (hO : Own [q0.e] w) (o : OpI) (BA : Option Addr) (nn cc : Nat) (hP : OpOk w o BA nn cc) (hnn : nn ≤ 1000000) (hdB : 0 < nn → ∀ q off, BA = some ⟨q, off, none⟩ → q ∉ cB [q0.e]) :
  Calls Tryz.prog 56 #[.slice q0.A q0.n q0.c, .agg (fJ o BA nn cc).toArray] w (fun ex w' => ∃ v, ex = .returned v ∧ (fun v w' => ∃ (q p : Row), v = .agg (bEb q.A q.n q.c p.A p.n p.c (doR s o).2).toArray ∧ bC 39 10 q.A q.n q.c (((doR s o).1).map aF) q.e ∧ bC 5 1 p.A p.n p.c (((doR s o).2.bytes).map bK) p.e ∧ Mem w (cB [q0.e]) [q.e, p.e] w') v w') := by
 have hlen : s.length = q0.n := by simpa using hq0.1
 have hsl := hG.len
 have hbl := hP.len
 refine aI #[.cell 4 112] 93 Tryz.func56 rfl Tryz.results56 Tryz.ntmps56 rfl ?_
 have M0 := hO.mem
 refine aE (aA (bJ (.agg (List.toArray _)) M0 rfl rfl rfl (fun b1 w1 M1 => (aT aKm M1 rfl rfl (fun b2 w2 M2 => (aB (aC (aE (aA (dH rfl rfl (wq (cF [(0, .slice _ _ _)] _ aXb rfl rfl) rfl ?_)))))))))))
 refine aT aKm M2 rfl rfl (fun b3 w3 M3 => (bI 3 _ fP M3 rfl rfl rfl rfl rfl (aR rfl) rfl (fun w4 M4 => (aB (aC (aE (aE (aA (wq (aD 0 aYu rfl) rfl (wq (aM 1 (.int _ _) iP M4 rfl rfl rfl) rfl (aB (aC (aQ (aE (aA ?_)))))))))))))))
 refine cY rfl rfl rfl rfl (wq (aJ (.bool (decide _)) rfl) rfl (aB (aC ?_)))
 refine aW rfl (fun h13 => ?_) (fun h13 => ?_)
 ·refine aA (dH rfl rfl (wq (aD 1 bDn rfl) rfl (wq (oQ 1 _ bP M4 rfl rfl rfl rfl) rfl (bY bRi rfl rfl (aVl _ _ _ _ _ s hq0 (M4.ownAt (i := 0) rfl) o.body (by omega)) ?_))))
  rintro v5 w5 ⟨A5, n5, c5, e5, rfl, hR5, hM5⟩
  have M5 : Mem _ _ [_, _, _, _] _ := M4.seg 0 1 hM5
  refine wq (aH (.tuple (List.toArray _)) rfl) rfl (wq (bN (.slice _ _ _) rfl rfl) rfl (wq (bN (.int _ _) rfl rfl) rfl (wq (aD 0 qN rfl) rfl (dB 3 (.slice _ _ _) gA M5 rfl rfl rfl rfl rfl rfl (fun w6 M6 => (wq (aD 1 qJ rfl) rfl ?_))))))
  refine dB 3 (.int _ _) iP M6 rfl rfl rfl rfl rfl rfl (fun w7 M7 => (aB (cT (aC (aE (aA (wq (aX 3 fP M7 rfl rfl rfl) rfl (bI 2 _ fP M7 rfl rfl rfl rfl rfl (aR rfl) rfl (fun w8 M8 => ?_)))))))))
  refine aB (aC (aO (eL 2 fP M8 rfl rfl rfl ?_)))
  exact ⟨⟨A5, n5, c5, e5⟩, ⟨none, 0, 0, (none, default)⟩, by rw [aYs h13]; rfl, by rw [aYs h13]; exact hR5, by rw [aYs h13]; exact bC.nil _ _ _, (M8.keep [true, false, false, false]).dummy default⟩
 ·refine aE (aA (cY rfl rfl rfl rfl (wq (aJ (.bool (decide _)) rfl) rfl (aB (aC ?_)))))
  refine aW rfl (fun h24 => ?_) (fun h24 => ?_)
  ·refine aA (dH rfl rfl (wq (aD 11 aEu rfl) rfl (wq (aM 1 (.int _ _) bW M4 rfl rfl rfl) rfl (bY bPh rfl rfl (aJh _ _ _ _ _ s hq0 (M4.ownAt (i := 0) rfl) o.key (by omega)) ?_))))
   rintro v9 w9 ⟨A9, n9, c9, e9, rfl, hR9, hM9⟩
   have M9 : Mem _ _ [_, _, _, _] _ := M4.seg 0 1 hM9
   refine wq (aH (.tuple (List.toArray _)) rfl) rfl (wq (bN (.slice _ _ _) rfl rfl) rfl (wq (bN (.int _ _) rfl rfl) rfl (wq (aD 0 qN rfl) rfl (dB 3 (.slice _ _ _) gA M9 rfl rfl rfl rfl rfl rfl (fun w10 M10 => (wq (aD 1 qJ rfl) rfl ?_))))))
   refine dB 3 (.int _ _) iP M10 rfl rfl rfl rfl rfl rfl (fun w11 M11 => (aB (cT (aC (aE (aA (wq (aX 3 fP M11 rfl rfl rfl) rfl (bI 2 _ fP M11 rfl rfl rfl rfl rfl (aR rfl) rfl (fun w12 M12 => ?_)))))))))
   refine aB (aC (aO (eL 2 fP M12 rfl rfl rfl ?_)))
   exact ⟨⟨A9, n9, c9, e9⟩, ⟨none, 0, 0, (none, default)⟩, by rw [bCt h24]; rfl, by rw [bCt h24]; exact hR9, by rw [bCt h24]; exact bC.nil _ _ _, (M12.keep [true, false, false, false]).dummy default⟩
  ·refine aE (aA (cY rfl rfl rfl rfl (wq (aJ (.bool (decide _)) rfl) rfl (aB (aC ?_)))))
   refine aW rfl (fun h35 => ?_) (fun h35 => ?_)
   ·refine aA (dH rfl rfl (wq (aD 11 aEu rfl) rfl (wq (aM 1 (.int _ _) bW M4 rfl rfl rfl) rfl (wq (aD 12 bDd rfl) rfl (wq (oQ 1 _ bM M4 rfl rfl rfl rfl) rfl ?_)))))
    refine bY bQz rfl rfl (aGq _ q0 s hq0 hG (M4.ownAt (i := 0) rfl) o.key o.push hP.p1 hP.p2) ?_
    rintro v13 w13 ⟨qi, rfl, hqi, hM13⟩
    have M13 : Mem _ _ [_, _, _, _] _ := M4.seg 0 1 hM13
    refine wq (aH (.tuple (List.toArray _)) rfl) rfl (wq (bN (.slice _ _ _) rfl rfl) rfl (wq (bN (.int _ _) rfl rfl) rfl (wq (aD 0 qN rfl) rfl (dB 3 (.slice _ _ _) gA M13 rfl rfl rfl rfl rfl rfl (fun w14 M14 => (wq (aD 1 qJ rfl) rfl ?_))))))
    refine dB 3 (.int _ _) iP M14 rfl rfl rfl rfl rfl rfl (fun w15 M15 => (aB (cT (aC (aE (aA (wq (aX 3 fP M15 rfl rfl rfl) rfl (bI 2 _ fP M15 rfl rfl rfl rfl rfl (aR rfl) rfl (fun w16 M16 => ?_)))))))))
    refine aB (aC (aO (eL 2 fP M16 rfl rfl rfl ?_)))
    exact ⟨qi, ⟨none, 0, 0, (none, default)⟩, by rw [bAg h35]; rfl, by rw [bAg h35]; exact hqi, by rw [bAg h35]; exact bC.nil _ _ _, (M16.keep [true, false, false, false]).dummy default⟩
   ·refine aE (aA (cY rfl rfl rfl rfl (wq (aJ (.bool (decide _)) rfl) rfl (aB (aC ?_)))))
    refine aW rfl (fun h48 => ?_) (fun h48 => ?_)
    ·refine aA (dH rfl rfl (bY bPt rfl rfl (aQx _ _ _ _ s (hq0.rd M4 (aZ (i := 0) rfl)) hG.okb hG.s (by omega)) ?_))
     rintro v17 w17 ⟨rb, rfl, hrb, hM17⟩
     have M17 : Mem _ _ [_, _, _, _, _] _ := M4.call0 hM17
     refine wq (aH (.tuple (List.toArray _)) rfl) rfl (wq (bN (.slice _ _ _) rfl rfl) rfl (wq (bN (.int _ _) rfl rfl) rfl (wq (bN (.bool _) rfl rfl) rfl (wq (aD 0 qN rfl) rfl (dB 3 (.slice _ _ _) gA M17 rfl rfl rfl rfl rfl rfl (fun w18 M18 => ?_))))))
     refine wq (aD 13 aNe rfl) rfl (dB 3 (.int _ _) iP M18 rfl rfl rfl rfl rfl rfl (fun w19 M19 => (wq (aD 14 aNi rfl) rfl (dB 3 (.bool _) pG M19 rfl rfl rfl rfl rfl rfl (fun w20 M20 => (aB (cT ?_)))))))
     refine aC (aE (aA (wq (aX 3 fP M20 rfl rfl rfl) rfl (bI 2 _ fP M20 rfl rfl rfl rfl rfl (aR rfl) rfl (fun w21 M21 => (aB (aC (aO (eL 2 fP M21 rfl rfl rfl ?_)))))))))
     exact ⟨rb, ⟨none, 0, 0, (none, default)⟩, by rw [bAs h48]; rfl, by rw [bAs h48]; exact hrb, by rw [bAs h48]; exact bC.nil _ _ _, (M21.keep [false, false, false, false, true]).dummy default⟩
    ·refine aE (aA (cY rfl rfl rfl rfl (wq (aJ (.bool (decide _)) rfl) rfl (aB (aC ?_)))))
     refine aW rfl (fun h59 => ?_) (fun h59 => ?_)
     ·refine aA (dH rfl rfl (bY bPs rfl rfl (aLt _ _ _ _ s (hq0.rd M4 (aZ (i := 0) rfl)) (by omega) hG.inb) ?_))
      rintro v22 w22 ⟨pb, rfl, hpb, hM22⟩
      have M22 : Mem _ _ [_, _, _, _, _] _ := M4.call0 hM22
      refine wq (aD 12 aOc rfl) rfl (dB 3 (.slice _ _ _) tY M22 rfl rfl rfl rfl rfl rfl (fun w23 M23 => (aB (cT (aC (aE (aA (wq (aX 3 fP M23 rfl rfl rfl) rfl ?_))))))))
      refine bI 2 _ fP M23 rfl rfl rfl rfl rfl (aR rfl) rfl (fun w24 M24 => (aB (aC (aO (eL 2 fP M24 rfl rfl rfl ?_)))))
      exact ⟨q0, pb, by rw [bBx h59]; rfl, by rw [bBx h59]; exact hq0, by rw [bBx h59]; exact hpb, (M24.keep [true, false, false, false, true])⟩
     ·refine aE (aA (cY rfl rfl rfl rfl (wq (aJ (.bool (decide _)) rfl) rfl (aB (aC ?_)))))
      refine aW rfl (fun h64 => ?_) (fun h64 => ?_)
      ·refine aE (aA (wq (aD 14 bEa rfl) rfl (wq (aM 1 (.slice _ _ _) tY M4 rfl rfl rfl) rfl (bY bPd rfl rfl (aJt _ BA nn cc o.bytes (hP.rd.memY M4 hdB) hP.byt hP.cap (by omega)) ?_))))
       rintro v25 w25 ⟨qd, rfl, hqd, hM25⟩
       have M25 : Mem _ _ [_, _, _, _, _] _ := M4.call0 hM25
       refine wq (aH (.tuple (List.toArray _)) rfl) rfl (wq (bN (.slice _ _ _) rfl rfl) rfl (wq (bN (.int _ _) rfl rfl) rfl (eI rfl rfl (bH rfl rfl (aB (aC (aE (aA ?_))))))))
       refine aP rfl rfl (wq (aD 1 qJ rfl) rfl (dB 3 (.int _ _) iP M25 rfl rfl rfl rfl rfl rfl (fun w26 M26 => (aB (aC (aE (aA (aP rfl rfl (cY rfl rfl rfl rfl ?_)))))))))
       refine aB (aC ?_)
       refine aW rfl (fun h75 => ?_) (fun h75 => ?_)
       ·refine aA (dH rfl rfl (wq (aD 0 qN rfl) rfl (dB 3 (.slice _ _ _) gA M26 rfl rfl rfl rfl rfl rfl (fun w27 M27 => (aB (cT ?_))))))
        refine aC (aE (aA (wq (aX 3 fP M27 rfl rfl rfl) rfl (bI 2 _ fP M27 rfl rfl rfl rfl rfl (aR rfl) rfl (fun w28 M28 => (aB (aC (aO (eL 2 fP M28 rfl rfl rfl ?_)))))))))
        exact ⟨qd, ⟨none, 0, 0, (none, default)⟩, by rw [aLi h64]; rfl, by rw [aLi h64]; exact (by unfold sK; rw [if_pos h75]; exact hqd), by rw [aLi h64]; exact bC.nil _ _ _, (M28.keep [false, false, false, false, true]).dummy default⟩
       ·refine aL (cT (aC (aE (aA (wq (aX 3 fP M26 rfl rfl rfl) rfl (bI 2 _ fP M26 rfl rfl rfl rfl rfl (aR rfl) rfl (fun w29 M29 => (aB (aC (aO ?_))))))))))
        refine eL 2 fP M29 rfl rfl rfl ?_
        exact ⟨q0, ⟨none, 0, 0, (none, default)⟩, by rw [aLi h64]; rfl, by rw [aLi h64]; exact (by unfold sK; rw [if_neg h75]; exact hq0), by rw [aLi h64]; exact bC.nil _ _ _, (M29.keep [true, false, false, false, false]).dummy default⟩
      ·refine aE (aA (cY rfl rfl rfl rfl (wq (aJ (.bool (decide _)) rfl) rfl (aB (aC ?_)))))
       refine aW rfl (fun h78 => ?_) (fun h78 => ?_)
       ·refine aE (aA (dH rfl rfl (wq (aD 11 aEu rfl) rfl (wq (aM 1 (.int _ _) bW M4 rfl rfl rfl) rfl (bY sH rfl rfl (gS _ o.key _ _ _ s (hq0.rd M4 (aZ (i := 0) rfl))) ?_)))))
        rintro v30 w30 ⟨rfl, hb30⟩
        have M30 := M4.callB hb30
        refine bH rfl rfl (aB (aC (aE (aA (aP rfl rfl (cY rfl rfl rfl rfl (aB (aC ?_))))))))
        refine aW rfl (fun h85 => ?_) (fun h85 => ?_)
        ·refine aA (wq (aD 1 qJ rfl) rfl (dB 3 (.int _ _) iP M30 rfl rfl rfl rfl rfl rfl (fun w31 M31 => (aB (cT (aC (aE (aA ?_))))))))
         refine wq (aX 3 fP M31 rfl rfl rfl) rfl (bI 2 _ fP M31 rfl rfl rfl rfl rfl (aR rfl) rfl (fun w32 M32 => (aB (aC (aO (eL 2 fP M32 rfl rfl rfl ?_))))))
         exact ⟨q0, ⟨none, 0, 0, (none, default)⟩, by rw [aOs h78, zG h85]; rfl, by rw [aOs h78, zG h85]; exact hq0, by rw [aOs h78, zG h85]; exact bC.nil _ _ _, (M32.keep [true, false, false, false]).dummy default⟩
        ·obtain ⟨i, bb, hbi, _, hfi⟩ := (eH o.key s).resolve_left (fun h => h85 (by omega))
         refine aA (dH rfl rfl (aP rfl rfl (wq (bO (i) dK rfl rfl hfi ((hq0.rd M30 (aZ (i := 0) rfl)).below_len (aG aF hbi)) ((hq0.rd M30 (aZ (i := 0) rfl)).someK (aG aF hbi))) rfl (wq (dI _ bP (hq0.rd M30 (aZ (i := 0) rfl)) (aG aF hbi) rfl) rfl (wq (aD 2 bDi rfl) rfl ?_)))))
         refine tN 3 _ bP M30 rfl rfl rfl rfl rfl (aR rfl) (Nat.le_of_ble_eq_true rfl) (fun w33 M33 => (aB (cT (aC (aE (aA (wq (aX 3 fP M33 rfl rfl rfl) rfl (bI 2 _ fP M33 rfl rfl rfl rfl rfl (aR rfl) rfl (fun w34 M34 => ?_)))))))))
         refine aB (aC (aO (eL 2 fP M34 rfl rfl rfl ?_)))
         exact ⟨q0, ⟨none, 0, 0, (none, default)⟩, by rw [aOs h78, yS hfi hbi]; rfl, by rw [aOs h78, yS hfi hbi]; exact hq0, by rw [aOs h78, yS hfi hbi]; exact bC.nil _ _ _, (M34.keep [true, false, false, false]).dummy default⟩
       ·refine aL (cT (aC (aE (aA (wq (aX 3 fP M4 rfl rfl rfl) rfl (bI 2 _ fP M4 rfl rfl rfl rfl rfl (aR rfl) rfl (fun w35 M35 => (aB (aC (aO ?_))))))))))
        refine eL 2 fP M35 rfl rfl rfl ?_
        exact ⟨q0, ⟨none, 0, 0, (none, default)⟩, by rw [bFt h13 h24 h35 h48 h59 h64 h78]; rfl, by rw [bFt h13 h24 h35 h48 h59 h64 h78]; exact hq0, by rw [bFt h13 h24 h35 h48 h59 h64 h78]; exact bC.nil _ _ _, (M35.keep [true, false, false, false]).dummy default⟩
set_option maxHeartbeats 4000000 in
theorem bBc (w : World) :
  Calls Tryz.prog 83 #[(.func (.func 26) #[] #[] : Value), (.func (.func 84) #[] #[] : Value)] w (fun ex w' => ∃ v, ex = .returned v ∧ (fun v w' => ∃ fa ga : Nat, v = (.func (.func 120) #[] #[.pointer (some ⟨fa, 0, none⟩), .pointer (some ⟨ga, 0, none⟩)] : Value) ∧ Mem w [] [(some fa, bc [(.func (.func 26) #[] #[] : Value)] 143), (some ga, bc [(.func (.func 84) #[] #[] : Value)] 144)] w') v w') := by
 refine aI #[.tmp 4] 6 Tryz.func83 rfl Tryz.results83 Tryz.ntmps83 rfl ?_
 have M0 := Mem.refl w
 refine aE (aA (bJ (.func _ _ _) M0 rfl rfl rfl (fun b1 w1 M1 => (bJ (.func _ _ _) M1 rfl rfl rfl (fun b2 w2 M2 => (wq (aJ (_) rfl) rfl (aB (aC (aE (aA (wq (dR [] [.pointer _, .pointer _] rfl rfl) rfl ?_)))))))))))
 refine wq (aJ (.func _ _ _) rfl) rfl (aB (aC (aO (cG (.func _ _ _) rfl ?_))))
 exact ⟨_, _, rfl, M2⟩
set_option maxHeartbeats 4000000 in
theorem aOe (w : World) :
  Calls Tryz.prog 85 #[(.func (.func 86) #[] #[] : Value), (.func (.func 87) #[] #[] : Value)] w (fun ex w' => ∃ v, ex = .returned v ∧ (fun v w' => ∃ fa ga : Nat, v = (.func (.func 121) #[] #[.pointer (some ⟨fa, 0, none⟩), .pointer (some ⟨ga, 0, none⟩)] : Value) ∧ Mem w [] [(some fa, bc [(.func (.func 86) #[] #[] : Value)] 146), (some ga, bc [(.func (.func 87) #[] #[] : Value)] 148)] w') v w') := by
 refine aI #[.tmp 4] 6 Tryz.func85 rfl Tryz.results85 Tryz.ntmps85 rfl ?_
 have M0 := Mem.refl w
 refine aE (aA (bJ (.func _ _ _) M0 rfl rfl rfl (fun b1 w1 M1 => (bJ (.func _ _ _) M1 rfl rfl rfl (fun b2 w2 M2 => (wq (aJ (_) rfl) rfl (aB (aC (aE (aA (wq (dR [] [.pointer _, .pointer _] rfl rfl) rfl ?_)))))))))))
 refine wq (aJ (.func _ _ _) rfl) rfl (aB (aC (aO (cG (.func _ _ _) rfl ?_))))
 exact ⟨_, _, rfl, M2⟩
set_option maxHeartbeats 4000000 in
theorem aJj (w : World) :
  Calls Tryz.prog 88 #[(.func (.func 74) #[] #[] : Value), (.func (.func 89) #[] #[] : Value)] w (fun ex w' => ∃ v, ex = .returned v ∧ (fun v w' => ∃ fa ga : Nat, v = (.func (.func 123) #[] #[.pointer (some ⟨fa, 0, none⟩), .pointer (some ⟨ga, 0, none⟩)] : Value) ∧ Mem w [] [(some fa, bc [(.func (.func 74) #[] #[] : Value)] 150), (some ga, bc [(.func (.func 89) #[] #[] : Value)] 151)] w') v w') := by
 refine aI #[.tmp 4] 6 Tryz.func88 rfl Tryz.results88 Tryz.ntmps88 rfl ?_
 have M0 := Mem.refl w
 refine aE (aA (bJ (.func _ _ _) M0 rfl rfl rfl (fun b1 w1 M1 => (bJ (.func _ _ _) M1 rfl rfl rfl (fun b2 w2 M2 => (wq (aJ (_) rfl) rfl (aB (aC (aE (aA (wq (dR [] [.pointer _, .pointer _] rfl rfl) rfl ?_)))))))))))
 refine wq (aJ (.func _ _ _) rfl) rfl (aB (aC (aO (cG (.func _ _ _) rfl ?_))))
 exact ⟨_, _, rfl, M2⟩
set_option maxHeartbeats 4000000 in
theorem bNb (w : World) (o : OpI) (BA : Option Addr) (nn cc : Nat) :
  Calls Tryz.prog 84 #[.agg (fJ o BA nn cc).toArray] w (fun ex w' => ∃ v, ex = .returned v ∧ (fun v w' => v = (.agg (aF o.body).toArray) ∧ Below w.heap.size w w') v w') := by
 refine aI #[.cell 2 39] 5 Tryz.func84 rfl Tryz.results84 Tryz.ntmps84 rfl ?_
 have M0 := Mem.refl w
 refine aE (aA (bJ (.agg (List.toArray _)) M0 rfl rfl rfl (fun b1 w1 M1 => (aT fO M1 rfl rfl (fun b2 w2 M2 => (aB (aC (aE (aA (wq (aD 1 bHk rfl) rfl (wq (oQ 0 _ bP M2 rfl rfl rfl rfl) rfl ?_)))))))))))
 refine bI 1 _ bP M2 rfl rfl rfl rfl rfl (aR rfl) rfl (fun w3 M3 => (aB (aC (aO (eL 1 bP M3 rfl rfl rfl ?_)))))
 exact ⟨rfl, M3.below⟩
set_option maxHeartbeats 4000000 in
theorem bNo (w : World) (o : OpI) (BA : Option Addr) (nn cc : Nat) :
  Calls Tryz.prog 87 #[.agg (fJ o BA nn cc).toArray] w (fun ex w' => ∃ v, ex = .returned v ∧ (fun v w' => v = .int .u32 o.key ∧ Below w.heap.size w w') v w') := by
 refine aI #[.tmp 2] 5 Tryz.func87 rfl Tryz.results87 Tryz.ntmps87 rfl ?_
 have M0 := Mem.refl w
 refine aE (aA (bJ (.agg (List.toArray _)) M0 rfl rfl rfl (fun b1 w1 M1 => (bH rfl rfl (aB (aC (aE (aA (wq (aD 11 aTc rfl) rfl (wq (aM 0 (.int _ _) bW M1 rfl rfl rfl) rfl ?_))))))))))
 refine bH rfl rfl (aB (aC (aO (cG (.int _ _) rfl ?_))))
 exact ⟨rfl, M1.below⟩
set_option maxHeartbeats 4000000 in
theorem bLa (w : World) (o : OpI) (BA : Option Addr) (nn cc : Nat) :
  Calls Tryz.prog 89 #[.agg (fJ o BA nn cc).toArray] w (fun ex w' => ∃ v, ex = .returned v ∧ (fun v w' => v = .slice BA nn cc ∧ Below w.heap.size w w') v w') := by
 refine aI #[.tmp 2] 5 Tryz.func89 rfl Tryz.results89 Tryz.ntmps89 rfl ?_
 have M0 := Mem.refl w
 refine aE (aA (bJ (.agg (List.toArray _)) M0 rfl rfl rfl (fun b1 w1 M1 => (eI rfl rfl (aB (aC (aE (aA (wq (aD 14 bHb rfl) rfl (wq (aM 0 (.slice _ _ _) tY M1 rfl rfl rfl) rfl ?_))))))))))
 refine eI rfl rfl (aB (aC (aO (cG (.slice _ _ _) rfl ?_))))
 exact ⟨rfl, M1.below⟩
def sB (f1 g1 f2 g2 f3 g3 : Nat) (k : Int) : Option Value := if k = 5 then some (.func (.func 93) #[] #[] : Value) else if k = 4 then some (.func (.func 92) #[] #[] : Value) else if k = 3 then some (.func (.func 90) #[] #[] : Value) else if k = 6 then some (.func (.func 123) #[] #[.pointer (some ⟨f3, 0, none⟩), .pointer (some ⟨g3, 0, none⟩)] : Value) else if k = 2 then some (.func (.func 121) #[] #[.pointer (some ⟨f2, 0, none⟩), .pointer (some ⟨g2, 0, none⟩)] : Value) else if k = 1 then some (.func (.func 120) #[] #[.pointer (some ⟨f1, 0, none⟩), .pointer (some ⟨g1, 0, none⟩)] : Value) else none
theorem bAo {f1 g1 f2 g2 f3 g3 : Nat} {k : Int} (h : k = 1) : sB f1 g1 f2 g2 f3 g3 k = some (.func (.func 120) #[] #[.pointer (some ⟨f1, 0, none⟩), .pointer (some ⟨g1, 0, none⟩)] : Value) := by subst h; rfl
theorem bDh {f1 g1 f2 g2 f3 g3 : Nat} {k : Int} (h : k = 2) : sB f1 g1 f2 g2 f3 g3 k = some (.func (.func 121) #[] #[.pointer (some ⟨f2, 0, none⟩), .pointer (some ⟨g2, 0, none⟩)] : Value) := by subst h; rfl
theorem bCd {f1 g1 f2 g2 f3 g3 : Nat} {k : Int} (h : k = 6) : sB f1 g1 f2 g2 f3 g3 k = some (.func (.func 123) #[] #[.pointer (some ⟨f3, 0, none⟩), .pointer (some ⟨g3, 0, none⟩)] : Value) := by subst h; rfl
theorem bCs {f1 g1 f2 g2 f3 g3 : Nat} {k : Int} (h : k = 3) : sB f1 g1 f2 g2 f3 g3 k = some (.func (.func 90) #[] #[] : Value) := by subst h; rfl
theorem aZh {f1 g1 f2 g2 f3 g3 : Nat} {k : Int} (h : k = 4) : sB f1 g1 f2 g2 f3 g3 k = some (.func (.func 92) #[] #[] : Value) := by subst h; rfl
theorem bBt {f1 g1 f2 g2 f3 g3 : Nat} {k : Int} (h : k = 5) : sB f1 g1 f2 g2 f3 g3 k = some (.func (.func 93) #[] #[] : Value) := by subst h; rfl
theorem bCv {f1 g1 f2 g2 f3 g3 : Nat} {k : Int} (h : k < 1 ∨ 6 < k) : sB f1 g1 f2 g2 f3 g3 k = none := by unfold sB; rw [if_neg (by omega), if_neg (by omega), if_neg (by omega), if_neg (by omega), if_neg (by omega), if_neg (by omega)]
set_option maxHeartbeats 4000000 in
theorem jN (w : World) :
  Calls Tryz.prog 55 #[] w (fun ex w' => ∃ v, ex = .returned v ∧ (fun v w' => ∃ (p : Option Nat) (e : eX) (f1 g1 f2 g2 f3 g3 : Nat), v = .map p ∧ kA .i64 (fun v : Value => v) (sB f1 g1 f2 g2 f3 g3) p e ∧ Mem w [] [e, (some f1, bc [(.func (.func 26) #[] #[] : Value)] 143), (some g1, bc [(.func (.func 84) #[] #[] : Value)] 144), (some f2, bc [(.func (.func 86) #[] #[] : Value)] 146), (some g2, bc [(.func (.func 87) #[] #[] : Value)] 148), (some f3, bc [(.func (.func 74) #[] #[] : Value)] 150), (some g3, bc [(.func (.func 89) #[] #[] : Value)] 151)] w') v w') := by
 refine aI #[.tmp 0] 6 Tryz.func55 rfl Tryz.results55 Tryz.ntmps55 rfl ?_
 have M0 := Mem.refl w
 refine aE (aA (wq (aJ (.map _) rfl) rfl (aB (aC (aE (aA (mM M0 rfl rfl (fun b1 w1 M1 => (bY bQw rfl rfl (bBc _) ?_)))))))))
 rintro v2 w2 ⟨f1, g1, rfl, hM2⟩
 have M2 : Mem _ _ [_, _, _] _ := M1.call0 hM2
 refine oI (enc := (fun v : Value => v)) (v := (.func _ _ _)) 0 mR M2 rfl rfl (kA.empty _ _ b1) rfl rfl rfl rfl (fun e3 w3 hm3 M3 => (bY bRo rfl rfl (aOe _) ?_))
 rintro v4 w4 ⟨f2, g2, rfl, hM4⟩
 have M4 : Mem _ _ [_, _, _, _, _] _ := M3.call0 hM4
 refine oI (enc := (fun v : Value => v)) (v := (.func _ _ _)) 0 mR M4 rfl rfl hm3 rfl rfl rfl rfl (fun e5 w5 hm5 M5 => (bY bPf rfl rfl (aJj _) ?_))
 rintro v6 w6 ⟨f3, g3, rfl, hM6⟩
 have M6 : Mem _ _ [_, _, _, _, _, _, _] _ := M5.call0 hM6
 refine oI (enc := (fun v : Value => v)) (v := (.func _ _ _)) 0 mR M6 rfl rfl hm5 rfl rfl rfl rfl (fun e7 w7 hm7 M7 => (oI (enc := (fun v : Value => v)) (v := (.func _ _ _)) 0 mR M7 rfl rfl hm7 rfl rfl rfl rfl (fun e8 w8 hm8 M8 => (oI (enc := (fun v : Value => v)) (v := (.func _ _ _)) 0 mR M8 rfl rfl hm8 rfl rfl rfl rfl (fun e9 w9 hm9 M9 => ?_)))))
 refine oI (enc := (fun v : Value => v)) (v := (.func _ _ _)) 0 mR M9 rfl rfl hm9 rfl rfl rfl rfl (fun e10 w10 hm10 M10 => (wq (aH (.map _) rfl) rfl (wq (aJ (.map _) rfl) rfl (aB (aC (aO (cG (.map _) rfl ?_)))))))
 exact ⟨_, _, f1, g1, f2, g2, f3, g3, rfl, hm10, M10⟩
set_option maxHeartbeats 16000000 in
theorem bDv (w : World) (b : Nat) (r : StV) (vs : List Body) (hW : dF 39 r vs) (fa ga : Nat) (hO : Own [(some b, bc [.slice r.A r.n r.c, .map r.p] 107), r.er, r.em, (some fa, bc [(.func (.func 26) #[] #[] : Value)] 143), (some ga, bc [(.func (.func 84) #[] #[] : Value)] 144)] w) (o : OpI) (BA : Option Addr) (nn cc : Nat) (hP : OpOk w o BA nn cc) (hnn : nn ≤ 1000000) (hdB : 0 < nn → ∀ q off, BA = some ⟨q, off, none⟩ → q ∉ cB [(some b, bc [.slice r.A r.n r.c, .map r.p] 107), r.er, r.em, (some fa, bc [(.func (.func 26) #[] #[] : Value)] 143), (some ga, bc [(.func (.func 84) #[] #[] : Value)] 144)]) :
  Calls Tryz.prog 120 #[.pointer (some ⟨b, 0, none⟩), .agg (fJ o BA nn cc).toArray, .pointer (some ⟨fa, 0, none⟩), .pointer (some ⟨ga, 0, none⟩)] w (fun ex w' => ∃ v, ex = .returned v ∧ (fun v w' => ∃ r' : StV, v = .agg [.int .i64 (nV vs o.body).2, .slice none 0 0, .int .i64 0, .bool false].toArray ∧ dF 39 r' ((nV vs o.body).1) ∧ Mem w (cB [(some b, bc [.slice r.A r.n r.c, .map r.p] 107), r.er, r.em, (some fa, bc [(.func (.func 26) #[] #[] : Value)] 143), (some ga, bc [(.func (.func 84) #[] #[] : Value)] 144)]) [(some b, bc [.slice r'.A r'.n r'.c, .map r'.p] 107), r'.er, r'.em, (some fa, bc [(.func (.func 26) #[] #[] : Value)] 143), (some ga, bc [(.func (.func 84) #[] #[] : Value)] 144)] w') v w') := by
 have hG := hW.1
 have hbl := hP.len
 refine aI #[.cell 6 33] 14 Tryz.func120 rfl Tryz.results120 Tryz.ntmps120 rfl ?_
 have M0 := hO.mem
 refine aE (aA (bJ (.agg (List.toArray _)) M0 rfl rfl rfl (fun b1 w1 M1 => (aT mN M1 rfl rfl (fun b2 w2 M2 => (aB (aC (aE (bR [(0, 1), (1, 0), (2, 1), (3, 1), (4, 2), (5, 2), (6, 0), (7, 2)] mixed rfl (by kernel_rfl) (fun w3 hb3 hh3 => ?_))))))))))
 have M3 := M2.drew hb3 hh3
 refine bS rfl rfl rfl (aM 3 (.func _ _ _) bEt M3 rfl rfl rfl) (aU rfl rfl rfl (fun _ => aH (.pointer _) rfl) (bS rfl rfl rfl (aM 4 (.func _ _ _) bNf M3 rfl rfl rfl) (bS rfl rfl rfl (aX 5 pO M3 rfl rfl rfl) (dU [true, true, false] rfl (by kernel_rfl) (bY bQb rfl rfl (bNb _ o BA nn cc) ?_)))))
 rintro v4 w4 ⟨rfl, hb4⟩
 have M4 := M3.callB hb4
 refine aB (aC ⟨(eD (bL rfl (aM 3 (.func _ _ _) bEt M4 rfl rfl rfl)) dT), ?_⟩)
 refine dU [true] rfl (by kernel_rfl) (bY bQq rfl rfl (aWg _ _ r vs hW (M4.ownSeg 0 3) o.body hP.body) ?_)
 rintro v5 w5 ⟨r2, rfl, hw2, hM5⟩
 have M5 : Mem _ _ [_, _, _, _, _, _, _] _ := M4.seg 0 3 hM5
 refine aB (aC ⟨dT, ?_⟩)
 refine aU rfl rfl rfl (fun _ => cF [(0, .int _ _)] _ oX rfl rfl) (dU [] rfl (by kernel_rfl) (bI 6 _ iL M5 rfl rfl rfl rfl rfl (aR rfl) rfl (fun w6 M6 => ?_)))
 refine aB (aC ⟨dT, ?_⟩)
 refine bX (aC (aO (eL 6 iL M6 rfl rfl rfl ?_)))
 exact ⟨r2, rfl, hw2, M6.keep [true, true, true, true, true, false, false]⟩
set_option maxHeartbeats 16000000 in
theorem aMg (w : World) (b : Nat) (r : StV) (vs : List Body) (hW : dF 39 r vs) (fa ga : Nat) (hO : Own [(some b, bc [.slice r.A r.n r.c, .map r.p] 107), r.er, r.em, (some fa, bc [(.func (.func 86) #[] #[] : Value)] 146), (some ga, bc [(.func (.func 87) #[] #[] : Value)] 148)] w) (o : OpI) (BA : Option Addr) (nn cc : Nat) (hP : OpOk w o BA nn cc) (hnn : nn ≤ 1000000) (hdB : 0 < nn → ∀ q off, BA = some ⟨q, off, none⟩ → q ∉ cB [(some b, bc [.slice r.A r.n r.c, .map r.p] 107), r.er, r.em, (some fa, bc [(.func (.func 86) #[] #[] : Value)] 146), (some ga, bc [(.func (.func 87) #[] #[] : Value)] 148)]) :
  Calls Tryz.prog 121 #[.pointer (some ⟨b, 0, none⟩), .agg (fJ o BA nn cc).toArray, .pointer (some ⟨fa, 0, none⟩), .pointer (some ⟨ga, 0, none⟩)] w (fun ex w' => ∃ v, ex = .returned v ∧ (fun v w' => ∃ r' : StV, v = .agg [.int .i64 (gK vs o.key).2, .slice none 0 0, .int .i64 0, .bool false].toArray ∧ dF 39 r' ((gK vs o.key).1) ∧ Mem w (cB [(some b, bc [.slice r.A r.n r.c, .map r.p] 107), r.er, r.em, (some fa, bc [(.func (.func 86) #[] #[] : Value)] 146), (some ga, bc [(.func (.func 87) #[] #[] : Value)] 148)]) [(some b, bc [.slice r'.A r'.n r'.c, .map r'.p] 107), r'.er, r'.em, (some fa, bc [(.func (.func 86) #[] #[] : Value)] 146), (some ga, bc [(.func (.func 87) #[] #[] : Value)] 148)] w') v w') := by
 have hG := hW.1
 have hbl := hP.len
 refine aI #[.cell 6 33] 14 Tryz.func121 rfl Tryz.results121 Tryz.ntmps121 rfl ?_
 have M0 := hO.mem
 refine aE (aA (bJ (.agg (List.toArray _)) M0 rfl rfl rfl (fun b1 w1 M1 => (aT mN M1 rfl rfl (fun b2 w2 M2 => (aB (aC (aE (bR [(0, 1), (1, 0), (2, 1), (3, 1), (4, 2), (5, 2), (6, 0), (7, 2)] mixed rfl (by kernel_rfl) (fun w3 hb3 hh3 => ?_))))))))))
 have M3 := M2.drew hb3 hh3
 refine bS rfl rfl rfl (aM 3 (.func _ _ _) bDo M3 rfl rfl rfl) (aU rfl rfl rfl (fun _ => aH (.pointer _) rfl) (bS rfl rfl rfl (aM 4 (.func _ _ _) bKa M3 rfl rfl rfl) (bS rfl rfl rfl (aX 5 pO M3 rfl rfl rfl) (dU [true, true, false] rfl (by kernel_rfl) (bY bRa rfl rfl (bNo _ o BA nn cc) ?_)))))
 rintro v4 w4 ⟨rfl, hb4⟩
 have M4 := M3.callB hb4
 refine aB (aC ⟨(eD (bL rfl (aM 3 (.func _ _ _) bDo M4 rfl rfl rfl)) dT), ?_⟩)
 refine dU [true] rfl (by kernel_rfl) (bY bQt rfl rfl (aJs _ _ r vs hW (M4.ownSeg 0 3) o.key) ?_)
 rintro v5 w5 ⟨r2, rfl, hw2, hM5⟩
 have M5 : Mem _ _ [_, _, _, _, _, _, _] _ := M4.seg 0 3 hM5
 refine aB (aC ⟨dT, ?_⟩)
 refine aU rfl rfl rfl (fun _ => cF [(0, .int _ _)] _ oX rfl rfl) (dU [] rfl (by kernel_rfl) (bI 6 _ iL M5 rfl rfl rfl rfl rfl (aR rfl) rfl (fun w6 M6 => ?_)))
 refine aB (aC ⟨dT, ?_⟩)
 refine bX (aC (aO (eL 6 iL M6 rfl rfl rfl ?_)))
 exact ⟨r2, rfl, hw2, M6.keep [true, true, true, true, true, false, false]⟩
set_option maxHeartbeats 16000000 in
theorem aKx (w : World) (b : Nat) (r : StV) (vs : List Body) (hW : dF 39 r vs) (fa ga : Nat) (hO : Own [(some b, bc [.slice r.A r.n r.c, .map r.p] 107), r.er, r.em, (some fa, bc [(.func (.func 74) #[] #[] : Value)] 150), (some ga, bc [(.func (.func 89) #[] #[] : Value)] 151)] w) (o : OpI) (BA : Option Addr) (nn cc : Nat) (hP : OpOk w o BA nn cc) (hnn : nn ≤ 1000000) (hdB : 0 < nn → ∀ q off, BA = some ⟨q, off, none⟩ → q ∉ cB [(some b, bc [.slice r.A r.n r.c, .map r.p] 107), r.er, r.em, (some fa, bc [(.func (.func 74) #[] #[] : Value)] 150), (some ga, bc [(.func (.func 89) #[] #[] : Value)] 151)]) :
  Calls Tryz.prog 123 #[.pointer (some ⟨b, 0, none⟩), .agg (fJ o BA nn cc).toArray, .pointer (some ⟨fa, 0, none⟩), .pointer (some ⟨ga, 0, none⟩)] w (fun ex w' => ∃ v, ex = .returned v ∧ (fun v w' => ∃ r' : StV, v = .agg [.int .i64 (nR o.bytes).2, .slice none 0 0, .int .i64 0, .bool false].toArray ∧ dF 39 r' (sK vs o.bytes) ∧ Mem w (cB [(some b, bc [.slice r.A r.n r.c, .map r.p] 107), r.er, r.em, (some fa, bc [(.func (.func 74) #[] #[] : Value)] 150), (some ga, bc [(.func (.func 89) #[] #[] : Value)] 151)]) [(some b, bc [.slice r'.A r'.n r'.c, .map r'.p] 107), r'.er, r'.em, (some fa, bc [(.func (.func 74) #[] #[] : Value)] 150), (some ga, bc [(.func (.func 89) #[] #[] : Value)] 151)] w') v w') := by
 have hG := hW.1
 have hbl := hP.len
 refine aI #[.cell 6 33] 14 Tryz.func123 rfl Tryz.results123 Tryz.ntmps123 rfl ?_
 have M0 := hO.mem
 refine aE (aA (bJ (.agg (List.toArray _)) M0 rfl rfl rfl (fun b1 w1 M1 => (aT mN M1 rfl rfl (fun b2 w2 M2 => (aB (aC (aE (bR [(0, 1), (1, 0), (2, 1), (3, 1), (4, 2), (5, 2), (6, 0), (7, 2)] mixed rfl (by kernel_rfl) (fun w3 hb3 hh3 => ?_))))))))))
 have M3 := M2.drew hb3 hh3
 refine bS rfl rfl rfl (aM 3 (.func _ _ _) bEm M3 rfl rfl rfl) (aU rfl rfl rfl (fun _ => aH (.pointer _) rfl) (bS rfl rfl rfl (aM 4 (.func _ _ _) bMs M3 rfl rfl rfl) (bS rfl rfl rfl (aX 5 pO M3 rfl rfl rfl) (dU [true, true, false] rfl (by kernel_rfl) (bY bPu rfl rfl (bLa _ o BA nn cc) ?_)))))
 rintro v4 w4 ⟨rfl, hb4⟩
 have M4 := M3.callB hb4
 refine aB (aC ⟨(eD (bL rfl (aM 3 (.func _ _ _) bEm M4 rfl rfl rfl)) dT), ?_⟩)
 refine dU [true] rfl (by kernel_rfl) (bY bQy rfl rfl (aFq _ _ r vs hW (M4.ownSeg 0 3) BA nn cc o.bytes (hP.rd.memY M4 hdB) hP.byt hP.cap hnn (M4.away 0 3 hP.rd hdB)) ?_)
 rintro v5 w5 ⟨r2, rfl, hw2, hM5⟩
 have M5 : Mem _ _ [_, _, _, _, _, _, _] _ := M4.seg 0 3 hM5
 refine aB (aC ⟨dT, ?_⟩)
 refine aU rfl rfl rfl (fun _ => cF [(0, .int _ _)] _ oX rfl rfl) (dU [] rfl (by kernel_rfl) (bI 6 _ iL M5 rfl rfl rfl rfl rfl (aR rfl) rfl (fun w6 M6 => ?_)))
 refine aB (aC ⟨dT, ?_⟩)
 refine bX (aC (aO (eL 6 iL M6 rfl rfl rfl ?_)))
 exact ⟨r2, rfl, hw2, M6.keep [true, true, true, true, true, false, false]⟩
set_option maxHeartbeats 32000000 in
theorem aJc (w : World)  (b : Nat) (r : StV) (vs : List Body) (hW : dF 39 r vs) (hO : Own [(some b, bc [.slice r.A r.n r.c, .map r.p] 107), r.er, r.em] w) (o : OpI) (BA : Option Addr) (nn cc : Nat) (hP : OpOk w o BA nn cc) (hnn : nn ≤ 1000000) (hdB : 0 < nn → ∀ q off, BA = some ⟨q, off, none⟩ → q ∉ cB [(some b, bc [.slice r.A r.n r.c, .map r.p] 107), r.er, r.em]) (hk : o.kind = 3) :
  Calls Tryz.prog 90 #[.pointer (some ⟨b, 0, none⟩), .agg (fJ o BA nn cc).toArray] w (fun ex w' => ∃ v, ex = .returned v ∧ (fun v w' => ∃ (r' : StV) (p : Row), v = .agg (dY (iV vs o).2 p).toArray ∧ dF 39 r' (iV vs o).1 ∧ bC 5 1 p.A p.n p.c (((iV vs o).2.bytes).map bK) p.e ∧ Mem w (cB [(some b, bc [.slice r.A r.n r.c, .map r.p] 107), r.er, r.em]) [(some b, bc [.slice r'.A r'.n r'.c, .map r'.p] 107), r'.er, r'.em, p.e] w') v w') := by
 have hG := hW.1
 have hbl := hP.len
 refine aI #[.cell 4 33] 12 Tryz.func90 rfl Tryz.results90 Tryz.ntmps90 rfl ?_
 have M0 := hO.mem
 refine aE (aA (bJ (.agg (List.toArray _)) M0 rfl rfl rfl (fun b1 w1 M1 => (aT mN M1 rfl rfl (fun b2 w2 M2 => (aB (aC (aE (aA (wq (aH (.pointer _) rfl) rfl (wq (aD 11 aTc rfl) rfl ?_)))))))))))
 refine wq (aM 3 (.int _ _) bW M2 rfl rfl rfl) rfl (wq (aD 12 bGc rfl) rfl (wq (oQ 3 _ bM M2 rfl rfl rfl rfl) rfl (bY bRe rfl rfl (aGb _ _ r vs hW (M2.ownSeg 0 3) o.key o.push hP.p1 hP.p2) ?_)))
 rintro v3 w3 ⟨r2, rfl, hw2, hM3⟩
 have M3 : Mem _ _ [_, _, _, _, _] _ := M2.seg 0 3 hM3
 refine wq (cF [(0, .int _ _)] _ oX rfl rfl) rfl (bI 4 _ iL M3 rfl rfl rfl rfl rfl (aR rfl) rfl (fun w4 M4 => (aB (aC (aO (eL 4 iL M4 rfl rfl rfl ?_))))))
 exact ⟨r2, ⟨none, 0, 0, (none, default)⟩, by rw [bLb hk]; rfl, by rw [bLb hk]; exact hw2, by rw [bLb hk]; exact bC.nil _ _ _, (M4.keep [true, true, true, false, false]).dummy default⟩
set_option maxHeartbeats 32000000 in
theorem aWs (w : World) (F : Rd w 2 (some ⟨0, 0, none⟩) 1 [[.int .u32 73856093, .int .u32 19349663]]) (N : Rd w 4 (some ⟨3, 0, none⟩) 1 [eK jY]) (b : Nat) (r : StV) (vs : List Body) (hW : dF 39 r vs) (hO : Own [(some b, bc [.slice r.A r.n r.c, .map r.p] 107), r.er, r.em] w) (o : OpI) (BA : Option Addr) (nn cc : Nat) (hP : OpOk w o BA nn cc) (hnn : nn ≤ 1000000) (hdB : 0 < nn → ∀ q off, BA = some ⟨q, off, none⟩ → q ∉ cB [(some b, bc [.slice r.A r.n r.c, .map r.p] 107), r.er, r.em]) (hdF : 0 < 1 → ∀ q off, (some ⟨0, 0, none⟩ : Option Addr) = some ⟨q, off, none⟩ → q ∉ cB [(some b, bc [.slice r.A r.n r.c, .map r.p] 107), r.er, r.em]) (hdN : 0 < 1 → ∀ q off, (some ⟨3, 0, none⟩ : Option Addr) = some ⟨q, off, none⟩ → q ∉ cB [(some b, bc [.slice r.A r.n r.c, .map r.p] 107), r.er, r.em]) (hk : o.kind = 4) :
  Calls Tryz.prog 92 #[.pointer (some ⟨b, 0, none⟩), .agg (fJ o BA nn cc).toArray] w (fun ex w' => ∃ v, ex = .returned v ∧ (fun v w' => ∃ (r' : StV) (p : Row), v = .agg (dY (iV vs o).2 p).toArray ∧ dF 39 r' (iV vs o).1 ∧ bC 5 1 p.A p.n p.c (((iV vs o).2.bytes).map bK) p.e ∧ Mem w (cB [(some b, bc [.slice r.A r.n r.c, .map r.p] 107), r.er, r.em]) [(some b, bc [.slice r'.A r'.n r'.c, .map r'.p] 107), r'.er, r'.em, p.e] w') v w') := by
 have hG := hW.1
 have hbl := hP.len
 refine aI #[.cell 4 33] 13 Tryz.func92 rfl Tryz.results92 Tryz.ntmps92 rfl ?_
 have M0 := hO.mem
 refine aE (aA (bJ (.agg (List.toArray _)) M0 rfl rfl rfl (fun b1 w1 M1 => (aT mN M1 rfl rfl (fun b2 w2 M2 => (aB (aC (aE (aA (wq (aH (.pointer _) rfl) rfl (bY bRb rfl rfl (aRv _ (F.memY M2 hdF) (N.memY M2 hdN) _ r vs hW (M2.ownSeg 0 3) (M2.away 0 3 F hdF) (M2.away 0 3 N hdN)) ?_)))))))))))
 rintro v3 w3 ⟨r2, ts, rfl, hw2, hM3⟩
 have M3 : Mem _ _ [_, _, _, _, _] _ := M2.seg 0 3 hM3
 refine aT aIu M3 rfl rfl (fun b4 w4 M4 => (bI 5 _ zV M4 rfl rfl rfl rfl rfl (aR rfl) rfl (fun w5 M5 => (aB (aC (aE (aA (wq (aD 1 aUk rfl) rfl (wq (aM 5 (.int _ _) iP M5 rfl rfl rfl) rfl (wq (aD 2 aBx rfl) rfl ?_))))))))))
 refine wq (aM 5 (.bool _) pG M5 rfl rfl rfl) rfl (wq (cF [(2, .int _ _), (3, .bool _)] _ oX rfl rfl) rfl (bI 4 _ iL M5 rfl rfl rfl rfl rfl (aR rfl) rfl (fun w6 M6 => (aB (aC (aO (eL 4 iL M6 rfl rfl rfl ?_)))))))
 exact ⟨r2, ⟨none, 0, 0, (none, default)⟩, by rw [bHd hk]; rfl, by rw [bHd hk]; exact hw2, by rw [bHd hk]; exact bC.nil _ _ _, (M6.keep [true, true, true, false, false, false]).dummy default⟩
set_option maxHeartbeats 32000000 in
theorem aGj (w : World)  (b : Nat) (r : StV) (vs : List Body) (hW : dF 39 r vs) (hO : Own [(some b, bc [.slice r.A r.n r.c, .map r.p] 107), r.er, r.em] w) (o : OpI) (BA : Option Addr) (nn cc : Nat) (hP : OpOk w o BA nn cc) (hnn : nn ≤ 1000000) (hdB : 0 < nn → ∀ q off, BA = some ⟨q, off, none⟩ → q ∉ cB [(some b, bc [.slice r.A r.n r.c, .map r.p] 107), r.er, r.em]) (hk : o.kind = 5) :
  Calls Tryz.prog 93 #[.pointer (some ⟨b, 0, none⟩), .agg (fJ o BA nn cc).toArray] w (fun ex w' => ∃ v, ex = .returned v ∧ (fun v w' => ∃ (r' : StV) (p : Row), v = .agg (dY (iV vs o).2 p).toArray ∧ dF 39 r' (iV vs o).1 ∧ bC 5 1 p.A p.n p.c (((iV vs o).2.bytes).map bK) p.e ∧ Mem w (cB [(some b, bc [.slice r.A r.n r.c, .map r.p] 107), r.er, r.em]) [(some b, bc [.slice r'.A r'.n r'.c, .map r'.p] 107), r'.er, r'.em, p.e] w') v w') := by
 have hG := hW.1
 have hbl := hP.len
 refine aI #[.cell 4 33] 8 Tryz.func93 rfl Tryz.results93 Tryz.ntmps93 rfl ?_
 have M0 := hO.mem
 refine aE (aA (bJ (.agg (List.toArray _)) M0 rfl rfl rfl (fun b1 w1 M1 => (aT mN M1 rfl rfl (fun b2 w2 M2 => (aB (aC (aE (aA (wq (aH (.pointer _) rfl) rfl (bY bQg rfl rfl (aEx _ _ r vs hW (M2.ownSeg 0 3)) ?_)))))))))))
 rintro v3 w3 ⟨pb, rfl, hpb, hM3⟩
 have M3 : Mem _ _ [_, _, _, _, _, _] _ := M2.seg 0 3 hM3
 refine wq (cF [(1, .slice _ _ _)] _ oX rfl rfl) rfl (bI 4 _ iL M3 rfl rfl rfl rfl rfl (aR rfl) rfl (fun w4 M4 => (aB (aC (aO (eL 4 iL M4 rfl rfl rfl ?_))))))
 exact ⟨r, pb, by rw [bFx hk]; rfl, by rw [bFx hk]; exact hW, by rw [bFx hk]; exact hpb, (M4.keep [true, true, true, false, false, true])⟩
set_option maxHeartbeats 32000000 in
theorem aSa (w : World)  (b : Nat) (r : StV) (vs : List Body) (hW : dF 39 r vs) (hO : Own [(some b, bc [.slice r.A r.n r.c, .map r.p] 107), r.er, r.em] w) (o : OpI) (BA : Option Addr) (nn cc : Nat) (hP : OpOk w o BA nn cc) (hnn : nn ≤ 1000000) (hdB : 0 < nn → ∀ q off, BA = some ⟨q, off, none⟩ → q ∉ cB [(some b, bc [.slice r.A r.n r.c, .map r.p] 107), r.er, r.em]) (hk : o.kind = 1) :
  Calls Tryz.prog 20 #[.pointer (some ⟨b, 0, none⟩), .agg (fJ o BA nn cc).toArray] w (fun ex w' => ∃ v, ex = .returned v ∧ (fun v w' => ∃ (r' : StV) (p : Row), v = .agg (dY (iV vs o).2 p).toArray ∧ dF 39 r' (iV vs o).1 ∧ bC 5 1 p.A p.n p.c (((iV vs o).2.bytes).map bK) p.e ∧ Mem w (cB [(some b, bc [.slice r.A r.n r.c, .map r.p] 107), r.er, r.em]) [(some b, bc [.slice r'.A r'.n r'.c, .map r'.p] 107), r'.er, r'.em, p.e] w') v w') := by
 have hG := hW.1
 have hbl := hP.len
 refine aI #[.cell 4 33] 21 Tryz.func20 rfl Tryz.results20 Tryz.ntmps20 rfl ?_
 have M0 := hO.mem
 refine aE (aA (bJ (.agg (List.toArray _)) M0 rfl rfl rfl (fun b1 w1 M1 => (aT mN M1 rfl rfl (fun b2 w2 M2 => (aB (aC (aE (bR [(1, 0), (2, 1), (0, 2), (3, 1), (4, 0), (5, 0), (6, 0), (7, 0), (8, 0)] mixed rfl (by kernel_rfl) (fun w3 hb3 hh3 => ?_))))))))))
 have M3 := M2.drew hb3 hh3
 refine aU rfl rfl rfl (fun _ => aD 0 rW rfl) (bS rfl rfl rfl (aM 3 (.int _ _) iP M3 rfl rfl rfl) (dU [false] rfl (by kernel_rfl) (bY aFn rfl rfl (jN _) ?_)))
 rintro v4 w4 ⟨pm, em, f1, g1, f2, g2, f3, g3, rfl, hmap, hM4⟩
 have M4 : Mem _ _ [_, _, _, _, _, _, _, _, _, _, _, _] _ := M3.call0 hM4
 refine aB (aC ⟨(eD (bL rfl (aM 3 (.int _ _) iP M4 rfl rfl rfl)) dT), ?_⟩)
 refine bS rfl rfl rfl (kD (enc := (fun v : Value => v)) .nilFunc 5 mR aPh M4 rfl hmap rfl rfl) (dQ 11 (.tuple [(.func (.func 120) #[] #[.pointer (some ⟨f1, 0, none⟩), .pointer (some ⟨g1, 0, none⟩)] : Value), .bool true].toArray) (oJ (bAo hk)) (aU rfl rfl rfl (fun _ => aH (.tuple (List.toArray _)) rfl) ?_))
 refine aU rfl rfl rfl (fun _ => bN (.func _ _ _) rfl rfl) (aU rfl rfl rfl (fun _ => bN (.bool true) rfl rfl) (aU rfl rfl rfl (fun _ => aJ (.func _ _ _) rfl) (aU rfl rfl rfl (fun _ => aJ (.bool true) rfl) (bX (aC (aE (aE (aA ?_))))))))
 refine wq (aH (.bool true) rfl) rfl (wq (gI false rfl rfl) rfl (aB (aC (cJ rfl (aL (aC (aE (aA (wq (aH (.func _ _ _) rfl) rfl ?_)))))))))
 refine wq (aH (.pointer _) rfl) rfl (wq (aX 3 pO M4 rfl rfl rfl) rfl (bY bMt rfl rfl (bDv _ _ r vs hW _ _ (M4.ownK [true, true, true, false, false, false, true, true, false, false, false, false]) o BA nn cc (hP.memY M4 hdB) hnn (M4.awayK [true, true, true, false, false, false, true, true, false, false, false, false] hP.rd hdB)) ?_))
 rintro v5 w5 ⟨r2, rfl, hw2, hM5⟩
 have M5 : Mem _ _ [_, _, _, _, _, _, _, _, _, _, _, _] _ := M4.callK [true, true, true, false, false, false, true, true, false, false, false, false] rfl hM5
 refine bI 6 _ iL M5 rfl rfl rfl rfl rfl (aR rfl) rfl (fun w6 M6 => (aB (aC (aO (eL 6 iL M6 rfl rfl rfl ?_)))))
 exact ⟨r2, ⟨none, 0, 0, (none, default)⟩, by rw [bFg hk]; rfl, by rw [bFg hk]; exact hw2, by rw [bFg hk]; exact bC.nil _ _ _, (M6.keep [true, true, true, false, false, false, false, false, false, false, false, false]).dummy default⟩
set_option maxHeartbeats 32000000 in
theorem aRj (w : World)  (b : Nat) (r : StV) (vs : List Body) (hW : dF 39 r vs) (hO : Own [(some b, bc [.slice r.A r.n r.c, .map r.p] 107), r.er, r.em] w) (o : OpI) (BA : Option Addr) (nn cc : Nat) (hP : OpOk w o BA nn cc) (hnn : nn ≤ 1000000) (hdB : 0 < nn → ∀ q off, BA = some ⟨q, off, none⟩ → q ∉ cB [(some b, bc [.slice r.A r.n r.c, .map r.p] 107), r.er, r.em]) (hk : o.kind = 2) :
  Calls Tryz.prog 20 #[.pointer (some ⟨b, 0, none⟩), .agg (fJ o BA nn cc).toArray] w (fun ex w' => ∃ v, ex = .returned v ∧ (fun v w' => ∃ (r' : StV) (p : Row), v = .agg (dY (iV vs o).2 p).toArray ∧ dF 39 r' (iV vs o).1 ∧ bC 5 1 p.A p.n p.c (((iV vs o).2.bytes).map bK) p.e ∧ Mem w (cB [(some b, bc [.slice r.A r.n r.c, .map r.p] 107), r.er, r.em]) [(some b, bc [.slice r'.A r'.n r'.c, .map r'.p] 107), r'.er, r'.em, p.e] w') v w') := by
 have hG := hW.1
 have hbl := hP.len
 refine aI #[.cell 4 33] 21 Tryz.func20 rfl Tryz.results20 Tryz.ntmps20 rfl ?_
 have M0 := hO.mem
 refine aE (aA (bJ (.agg (List.toArray _)) M0 rfl rfl rfl (fun b1 w1 M1 => (aT mN M1 rfl rfl (fun b2 w2 M2 => (aB (aC (aE (bR [(1, 0), (2, 1), (0, 2), (3, 1), (4, 0), (5, 0), (6, 0), (7, 0), (8, 0)] mixed rfl (by kernel_rfl) (fun w3 hb3 hh3 => ?_))))))))))
 have M3 := M2.drew hb3 hh3
 refine aU rfl rfl rfl (fun _ => aD 0 rW rfl) (bS rfl rfl rfl (aM 3 (.int _ _) iP M3 rfl rfl rfl) (dU [false] rfl (by kernel_rfl) (bY aFn rfl rfl (jN _) ?_)))
 rintro v4 w4 ⟨pm, em, f1, g1, f2, g2, f3, g3, rfl, hmap, hM4⟩
 have M4 : Mem _ _ [_, _, _, _, _, _, _, _, _, _, _, _] _ := M3.call0 hM4
 refine aB (aC ⟨(eD (bL rfl (aM 3 (.int _ _) iP M4 rfl rfl rfl)) dT), ?_⟩)
 refine bS rfl rfl rfl (kD (enc := (fun v : Value => v)) .nilFunc 5 mR aPh M4 rfl hmap rfl rfl) (dQ 11 (.tuple [(.func (.func 121) #[] #[.pointer (some ⟨f2, 0, none⟩), .pointer (some ⟨g2, 0, none⟩)] : Value), .bool true].toArray) (oJ (bDh hk)) (aU rfl rfl rfl (fun _ => aH (.tuple (List.toArray _)) rfl) ?_))
 refine aU rfl rfl rfl (fun _ => bN (.func _ _ _) rfl rfl) (aU rfl rfl rfl (fun _ => bN (.bool true) rfl rfl) (aU rfl rfl rfl (fun _ => aJ (.func _ _ _) rfl) (aU rfl rfl rfl (fun _ => aJ (.bool true) rfl) (bX (aC (aE (aE (aA ?_))))))))
 refine wq (aH (.bool true) rfl) rfl (wq (gI false rfl rfl) rfl (aB (aC (cJ rfl (aL (aC (aE (aA (wq (aH (.func _ _ _) rfl) rfl ?_)))))))))
 refine wq (aH (.pointer _) rfl) rfl (wq (aX 3 pO M4 rfl rfl rfl) rfl (bY bLx rfl rfl (aMg _ _ r vs hW _ _ (M4.ownK [true, true, true, false, false, false, false, false, true, true, false, false]) o BA nn cc (hP.memY M4 hdB) hnn (M4.awayK [true, true, true, false, false, false, false, false, true, true, false, false] hP.rd hdB)) ?_))
 rintro v5 w5 ⟨r2, rfl, hw2, hM5⟩
 have M5 : Mem _ _ [_, _, _, _, _, _, _, _, _, _, _, _] _ := M4.callK [true, true, true, false, false, false, false, false, true, true, false, false] rfl hM5
 refine bI 6 _ iL M5 rfl rfl rfl rfl rfl (aR rfl) rfl (fun w6 M6 => (aB (aC (aO (eL 6 iL M6 rfl rfl rfl ?_)))))
 exact ⟨r2, ⟨none, 0, 0, (none, default)⟩, by rw [bGy hk]; rfl, by rw [bGy hk]; exact hw2, by rw [bGy hk]; exact bC.nil _ _ _, (M6.keep [true, true, true, false, false, false, false, false, false, false, false, false]).dummy default⟩
set_option maxHeartbeats 32000000 in
theorem aOt (w : World)  (b : Nat) (r : StV) (vs : List Body) (hW : dF 39 r vs) (hO : Own [(some b, bc [.slice r.A r.n r.c, .map r.p] 107), r.er, r.em] w) (o : OpI) (BA : Option Addr) (nn cc : Nat) (hP : OpOk w o BA nn cc) (hnn : nn ≤ 1000000) (hdB : 0 < nn → ∀ q off, BA = some ⟨q, off, none⟩ → q ∉ cB [(some b, bc [.slice r.A r.n r.c, .map r.p] 107), r.er, r.em]) (hk : o.kind = 6) :
  Calls Tryz.prog 20 #[.pointer (some ⟨b, 0, none⟩), .agg (fJ o BA nn cc).toArray] w (fun ex w' => ∃ v, ex = .returned v ∧ (fun v w' => ∃ (r' : StV) (p : Row), v = .agg (dY (iV vs o).2 p).toArray ∧ dF 39 r' (iV vs o).1 ∧ bC 5 1 p.A p.n p.c (((iV vs o).2.bytes).map bK) p.e ∧ Mem w (cB [(some b, bc [.slice r.A r.n r.c, .map r.p] 107), r.er, r.em]) [(some b, bc [.slice r'.A r'.n r'.c, .map r'.p] 107), r'.er, r'.em, p.e] w') v w') := by
 have hG := hW.1
 have hbl := hP.len
 refine aI #[.cell 4 33] 21 Tryz.func20 rfl Tryz.results20 Tryz.ntmps20 rfl ?_
 have M0 := hO.mem
 refine aE (aA (bJ (.agg (List.toArray _)) M0 rfl rfl rfl (fun b1 w1 M1 => (aT mN M1 rfl rfl (fun b2 w2 M2 => (aB (aC (aE (bR [(1, 0), (2, 1), (0, 2), (3, 1), (4, 0), (5, 0), (6, 0), (7, 0), (8, 0)] mixed rfl (by kernel_rfl) (fun w3 hb3 hh3 => ?_))))))))))
 have M3 := M2.drew hb3 hh3
 refine aU rfl rfl rfl (fun _ => aD 0 rW rfl) (bS rfl rfl rfl (aM 3 (.int _ _) iP M3 rfl rfl rfl) (dU [false] rfl (by kernel_rfl) (bY aFn rfl rfl (jN _) ?_)))
 rintro v4 w4 ⟨pm, em, f1, g1, f2, g2, f3, g3, rfl, hmap, hM4⟩
 have M4 : Mem _ _ [_, _, _, _, _, _, _, _, _, _, _, _] _ := M3.call0 hM4
 refine aB (aC ⟨(eD (bL rfl (aM 3 (.int _ _) iP M4 rfl rfl rfl)) dT), ?_⟩)
 refine bS rfl rfl rfl (kD (enc := (fun v : Value => v)) .nilFunc 5 mR aPh M4 rfl hmap rfl rfl) (dQ 11 (.tuple [(.func (.func 123) #[] #[.pointer (some ⟨f3, 0, none⟩), .pointer (some ⟨g3, 0, none⟩)] : Value), .bool true].toArray) (oJ (bCd hk)) (aU rfl rfl rfl (fun _ => aH (.tuple (List.toArray _)) rfl) ?_))
 refine aU rfl rfl rfl (fun _ => bN (.func _ _ _) rfl rfl) (aU rfl rfl rfl (fun _ => bN (.bool true) rfl rfl) (aU rfl rfl rfl (fun _ => aJ (.func _ _ _) rfl) (aU rfl rfl rfl (fun _ => aJ (.bool true) rfl) (bX (aC (aE (aE (aA ?_))))))))
 refine wq (aH (.bool true) rfl) rfl (wq (gI false rfl rfl) rfl (aB (aC (cJ rfl (aL (aC (aE (aA (wq (aH (.func _ _ _) rfl) rfl ?_)))))))))
 refine wq (aH (.pointer _) rfl) rfl (wq (aX 3 pO M4 rfl rfl rfl) rfl (bY bLl rfl rfl (aKx _ _ r vs hW _ _ (M4.ownK [true, true, true, false, false, false, false, false, false, false, true, true]) o BA nn cc (hP.memY M4 hdB) hnn (M4.awayK [true, true, true, false, false, false, false, false, false, false, true, true] hP.rd hdB)) ?_))
 rintro v5 w5 ⟨r2, rfl, hw2, hM5⟩
 have M5 : Mem _ _ [_, _, _, _, _, _, _, _, _, _, _, _] _ := M4.callK [true, true, true, false, false, false, false, false, false, false, true, true] rfl hM5
 refine bI 6 _ iL M5 rfl rfl rfl rfl rfl (aR rfl) rfl (fun w6 M6 => (aB (aC (aO (eL 6 iL M6 rfl rfl rfl ?_)))))
 exact ⟨r2, ⟨none, 0, 0, (none, default)⟩, by rw [bNd hk]; rfl, by rw [bNd hk]; exact hw2, by rw [bNd hk]; exact bC.nil _ _ _, (M6.keep [true, true, true, false, false, false, false, false, false, false, false, false]).dummy default⟩
set_option maxHeartbeats 32000000 in
theorem aRa (w : World)  (b : Nat) (r : StV) (vs : List Body) (hW : dF 39 r vs) (hO : Own [(some b, bc [.slice r.A r.n r.c, .map r.p] 107), r.er, r.em] w) (o : OpI) (BA : Option Addr) (nn cc : Nat) (hP : OpOk w o BA nn cc) (hnn : nn ≤ 1000000) (hdB : 0 < nn → ∀ q off, BA = some ⟨q, off, none⟩ → q ∉ cB [(some b, bc [.slice r.A r.n r.c, .map r.p] 107), r.er, r.em]) (hk : o.kind = 3) :
  Calls Tryz.prog 20 #[.pointer (some ⟨b, 0, none⟩), .agg (fJ o BA nn cc).toArray] w (fun ex w' => ∃ v, ex = .returned v ∧ (fun v w' => ∃ (r' : StV) (p : Row), v = .agg (dY (iV vs o).2 p).toArray ∧ dF 39 r' (iV vs o).1 ∧ bC 5 1 p.A p.n p.c (((iV vs o).2.bytes).map bK) p.e ∧ Mem w (cB [(some b, bc [.slice r.A r.n r.c, .map r.p] 107), r.er, r.em]) [(some b, bc [.slice r'.A r'.n r'.c, .map r'.p] 107), r'.er, r'.em, p.e] w') v w') := by
 have hG := hW.1
 have hbl := hP.len
 refine aI #[.cell 4 33] 21 Tryz.func20 rfl Tryz.results20 Tryz.ntmps20 rfl ?_
 have M0 := hO.mem
 refine aE (aA (bJ (.agg (List.toArray _)) M0 rfl rfl rfl (fun b1 w1 M1 => (aT mN M1 rfl rfl (fun b2 w2 M2 => (aB (aC (aE (bR [(1, 0), (2, 1), (0, 2), (3, 1), (4, 0), (5, 0), (6, 0), (7, 0), (8, 0)] mixed rfl (by kernel_rfl) (fun w3 hb3 hh3 => ?_))))))))))
 have M3 := M2.drew hb3 hh3
 refine aU rfl rfl rfl (fun _ => aD 0 rW rfl) (bS rfl rfl rfl (aM 3 (.int _ _) iP M3 rfl rfl rfl) (dU [false] rfl (by kernel_rfl) (bY aFn rfl rfl (jN _) ?_)))
 rintro v4 w4 ⟨pm, em, f1, g1, f2, g2, f3, g3, rfl, hmap, hM4⟩
 have M4 : Mem _ _ [_, _, _, _, _, _, _, _, _, _, _, _] _ := M3.call0 hM4
 refine aB (aC ⟨(eD (bL rfl (aM 3 (.int _ _) iP M4 rfl rfl rfl)) dT), ?_⟩)
 refine bS rfl rfl rfl (kD (enc := (fun v : Value => v)) .nilFunc 5 mR aPh M4 rfl hmap rfl rfl) (dQ 11 (.tuple [(.func (.func 90) #[] #[] : Value), .bool true].toArray) (oJ (bCs hk)) (aU rfl rfl rfl (fun _ => aH (.tuple (List.toArray _)) rfl) (aU rfl rfl rfl (fun _ => bN (.func _ _ _) rfl rfl) ?_)))
 refine aU rfl rfl rfl (fun _ => bN (.bool true) rfl rfl) (aU rfl rfl rfl (fun _ => aJ (.func _ _ _) rfl) (aU rfl rfl rfl (fun _ => aJ (.bool true) rfl) (bX (aC (aE (aE (aA (wq (aH (.bool true) rfl) rfl ?_))))))))
 refine wq (gI false rfl rfl) rfl (aB (aC (cJ rfl (aL (aC (aE (aA (wq (aH (.func _ _ _) rfl) rfl (wq (aH (.pointer _) rfl) rfl ?_)))))))))
 refine wq (aX 3 pO M4 rfl rfl rfl) rfl (bY bQx rfl rfl (aJc _ _ r vs hW (M4.ownSeg 0 3) o BA nn cc (hP.memY M4 hdB) hnn (M4.away 0 3 hP.rd hdB)  hk) ?_)
 rintro v5 w5 ⟨r2, p2, rfl, hw2, hp2, hM5⟩
 have M5 : Mem _ _ [_, _, _, _, _, _, _, _, _, _, _, _, _] _ := M4.seg 0 3 hM5
 refine bI 4 _ iL M5 rfl rfl rfl rfl rfl (aR rfl) rfl (fun w6 M6 => (aB (aC (aO (eL 4 iL M6 rfl rfl rfl ?_)))))
 exact ⟨r2, p2, rfl, hw2, hp2, M6.keep [true, true, true, false, false, false, false, false, false, false, false, false, true]⟩
set_option maxHeartbeats 32000000 in
theorem aRx (w : World) (F : Rd w 2 (some ⟨0, 0, none⟩) 1 [[.int .u32 73856093, .int .u32 19349663]]) (N : Rd w 4 (some ⟨3, 0, none⟩) 1 [eK jY]) (b : Nat) (r : StV) (vs : List Body) (hW : dF 39 r vs) (hO : Own [(some b, bc [.slice r.A r.n r.c, .map r.p] 107), r.er, r.em] w) (o : OpI) (BA : Option Addr) (nn cc : Nat) (hP : OpOk w o BA nn cc) (hnn : nn ≤ 1000000) (hdB : 0 < nn → ∀ q off, BA = some ⟨q, off, none⟩ → q ∉ cB [(some b, bc [.slice r.A r.n r.c, .map r.p] 107), r.er, r.em]) (hdF : 0 < 1 → ∀ q off, (some ⟨0, 0, none⟩ : Option Addr) = some ⟨q, off, none⟩ → q ∉ cB [(some b, bc [.slice r.A r.n r.c, .map r.p] 107), r.er, r.em]) (hdN : 0 < 1 → ∀ q off, (some ⟨3, 0, none⟩ : Option Addr) = some ⟨q, off, none⟩ → q ∉ cB [(some b, bc [.slice r.A r.n r.c, .map r.p] 107), r.er, r.em]) (hk : o.kind = 4) :
  Calls Tryz.prog 20 #[.pointer (some ⟨b, 0, none⟩), .agg (fJ o BA nn cc).toArray] w (fun ex w' => ∃ v, ex = .returned v ∧ (fun v w' => ∃ (r' : StV) (p : Row), v = .agg (dY (iV vs o).2 p).toArray ∧ dF 39 r' (iV vs o).1 ∧ bC 5 1 p.A p.n p.c (((iV vs o).2.bytes).map bK) p.e ∧ Mem w (cB [(some b, bc [.slice r.A r.n r.c, .map r.p] 107), r.er, r.em]) [(some b, bc [.slice r'.A r'.n r'.c, .map r'.p] 107), r'.er, r'.em, p.e] w') v w') := by
 have hG := hW.1
 have hbl := hP.len
 refine aI #[.cell 4 33] 21 Tryz.func20 rfl Tryz.results20 Tryz.ntmps20 rfl ?_
 have M0 := hO.mem
 refine aE (aA (bJ (.agg (List.toArray _)) M0 rfl rfl rfl (fun b1 w1 M1 => (aT mN M1 rfl rfl (fun b2 w2 M2 => (aB (aC (aE (bR [(1, 0), (2, 1), (0, 2), (3, 1), (4, 0), (5, 0), (6, 0), (7, 0), (8, 0)] mixed rfl (by kernel_rfl) (fun w3 hb3 hh3 => ?_))))))))))
 have M3 := M2.drew hb3 hh3
 refine aU rfl rfl rfl (fun _ => aD 0 rW rfl) (bS rfl rfl rfl (aM 3 (.int _ _) iP M3 rfl rfl rfl) (dU [false] rfl (by kernel_rfl) (bY aFn rfl rfl (jN _) ?_)))
 rintro v4 w4 ⟨pm, em, f1, g1, f2, g2, f3, g3, rfl, hmap, hM4⟩
 have M4 : Mem _ _ [_, _, _, _, _, _, _, _, _, _, _, _] _ := M3.call0 hM4
 refine aB (aC ⟨(eD (bL rfl (aM 3 (.int _ _) iP M4 rfl rfl rfl)) dT), ?_⟩)
 refine bS rfl rfl rfl (kD (enc := (fun v : Value => v)) .nilFunc 5 mR aPh M4 rfl hmap rfl rfl) (dQ 11 (.tuple [(.func (.func 92) #[] #[] : Value), .bool true].toArray) (oJ (aZh hk)) (aU rfl rfl rfl (fun _ => aH (.tuple (List.toArray _)) rfl) (aU rfl rfl rfl (fun _ => bN (.func _ _ _) rfl rfl) ?_)))
 refine aU rfl rfl rfl (fun _ => bN (.bool true) rfl rfl) (aU rfl rfl rfl (fun _ => aJ (.func _ _ _) rfl) (aU rfl rfl rfl (fun _ => aJ (.bool true) rfl) (bX (aC (aE (aE (aA (wq (aH (.bool true) rfl) rfl ?_))))))))
 refine wq (gI false rfl rfl) rfl (aB (aC (cJ rfl (aL (aC (aE (aA (wq (aH (.func _ _ _) rfl) rfl (wq (aH (.pointer _) rfl) rfl ?_)))))))))
 refine wq (aX 3 pO M4 rfl rfl rfl) rfl (bY bPo rfl rfl (aWs _ (F.memY M4 hdF) (N.memY M4 hdN) _ r vs hW (M4.ownSeg 0 3) o BA nn cc (hP.memY M4 hdB) hnn (M4.away 0 3 hP.rd hdB) (M4.away 0 3 F hdF) (M4.away 0 3 N hdN) hk) ?_)
 rintro v5 w5 ⟨r2, p2, rfl, hw2, hp2, hM5⟩
 have M5 : Mem _ _ [_, _, _, _, _, _, _, _, _, _, _, _, _] _ := M4.seg 0 3 hM5
 refine bI 4 _ iL M5 rfl rfl rfl rfl rfl (aR rfl) rfl (fun w6 M6 => (aB (aC (aO (eL 4 iL M6 rfl rfl rfl ?_)))))
 exact ⟨r2, p2, rfl, hw2, hp2, M6.keep [true, true, true, false, false, false, false, false, false, false, false, false, true]⟩
set_option maxHeartbeats 32000000 in
theorem aRd (w : World)  (b : Nat) (r : StV) (vs : List Body) (hW : dF 39 r vs) (hO : Own [(some b, bc [.slice r.A r.n r.c, .map r.p] 107), r.er, r.em] w) (o : OpI) (BA : Option Addr) (nn cc : Nat) (hP : OpOk w o BA nn cc) (hnn : nn ≤ 1000000) (hdB : 0 < nn → ∀ q off, BA = some ⟨q, off, none⟩ → q ∉ cB [(some b, bc [.slice r.A r.n r.c, .map r.p] 107), r.er, r.em]) (hk : o.kind = 5) :
  Calls Tryz.prog 20 #[.pointer (some ⟨b, 0, none⟩), .agg (fJ o BA nn cc).toArray] w (fun ex w' => ∃ v, ex = .returned v ∧ (fun v w' => ∃ (r' : StV) (p : Row), v = .agg (dY (iV vs o).2 p).toArray ∧ dF 39 r' (iV vs o).1 ∧ bC 5 1 p.A p.n p.c (((iV vs o).2.bytes).map bK) p.e ∧ Mem w (cB [(some b, bc [.slice r.A r.n r.c, .map r.p] 107), r.er, r.em]) [(some b, bc [.slice r'.A r'.n r'.c, .map r'.p] 107), r'.er, r'.em, p.e] w') v w') := by
 have hG := hW.1
 have hbl := hP.len
 refine aI #[.cell 4 33] 21 Tryz.func20 rfl Tryz.results20 Tryz.ntmps20 rfl ?_
 have M0 := hO.mem
 refine aE (aA (bJ (.agg (List.toArray _)) M0 rfl rfl rfl (fun b1 w1 M1 => (aT mN M1 rfl rfl (fun b2 w2 M2 => (aB (aC (aE (bR [(1, 0), (2, 1), (0, 2), (3, 1), (4, 0), (5, 0), (6, 0), (7, 0), (8, 0)] mixed rfl (by kernel_rfl) (fun w3 hb3 hh3 => ?_))))))))))
 have M3 := M2.drew hb3 hh3
 refine aU rfl rfl rfl (fun _ => aD 0 rW rfl) (bS rfl rfl rfl (aM 3 (.int _ _) iP M3 rfl rfl rfl) (dU [false] rfl (by kernel_rfl) (bY aFn rfl rfl (jN _) ?_)))
 rintro v4 w4 ⟨pm, em, f1, g1, f2, g2, f3, g3, rfl, hmap, hM4⟩
 have M4 : Mem _ _ [_, _, _, _, _, _, _, _, _, _, _, _] _ := M3.call0 hM4
 refine aB (aC ⟨(eD (bL rfl (aM 3 (.int _ _) iP M4 rfl rfl rfl)) dT), ?_⟩)
 refine bS rfl rfl rfl (kD (enc := (fun v : Value => v)) .nilFunc 5 mR aPh M4 rfl hmap rfl rfl) (dQ 11 (.tuple [(.func (.func 93) #[] #[] : Value), .bool true].toArray) (oJ (bBt hk)) (aU rfl rfl rfl (fun _ => aH (.tuple (List.toArray _)) rfl) (aU rfl rfl rfl (fun _ => bN (.func _ _ _) rfl rfl) ?_)))
 refine aU rfl rfl rfl (fun _ => bN (.bool true) rfl rfl) (aU rfl rfl rfl (fun _ => aJ (.func _ _ _) rfl) (aU rfl rfl rfl (fun _ => aJ (.bool true) rfl) (bX (aC (aE (aE (aA (wq (aH (.bool true) rfl) rfl ?_))))))))
 refine wq (gI false rfl rfl) rfl (aB (aC (cJ rfl (aL (aC (aE (aA (wq (aH (.func _ _ _) rfl) rfl (wq (aH (.pointer _) rfl) rfl ?_)))))))))
 refine wq (aX 3 pO M4 rfl rfl rfl) rfl (bY bRd rfl rfl (aGj _ _ r vs hW (M4.ownSeg 0 3) o BA nn cc (hP.memY M4 hdB) hnn (M4.away 0 3 hP.rd hdB)  hk) ?_)
 rintro v5 w5 ⟨r2, p2, rfl, hw2, hp2, hM5⟩
 have M5 : Mem _ _ [_, _, _, _, _, _, _, _, _, _, _, _, _] _ := M4.seg 0 3 hM5
 refine bI 4 _ iL M5 rfl rfl rfl rfl rfl (aR rfl) rfl (fun w6 M6 => (aB (aC (aO (eL 4 iL M6 rfl rfl rfl ?_)))))
 exact ⟨r2, p2, rfl, hw2, hp2, M6.keep [true, true, true, false, false, false, false, false, false, false, false, false, true]⟩
set_option maxHeartbeats 32000000 in
theorem aPz (w : World)  (b : Nat) (r : StV) (vs : List Body) (hW : dF 39 r vs) (hO : Own [(some b, bc [.slice r.A r.n r.c, .map r.p] 107), r.er, r.em] w) (o : OpI) (BA : Option Addr) (nn cc : Nat) (hP : OpOk w o BA nn cc) (hdB : 0 < nn → ∀ q off, BA = some ⟨q, off, none⟩ → q ∉ cB [(some b, bc [.slice r.A r.n r.c, .map r.p] 107), r.er, r.em]) (hk : o.kind < 1 ∨ 6 < o.kind) :
  Calls Tryz.prog 20 #[.pointer (some ⟨b, 0, none⟩), .agg (fJ o BA nn cc).toArray] w (fun ex w' => ∃ v, ex = .returned v ∧ (fun v w' => ∃ (r' : StV) (p : Row), v = .agg (dY (iV vs o).2 p).toArray ∧ dF 39 r' (iV vs o).1 ∧ bC 5 1 p.A p.n p.c (((iV vs o).2.bytes).map bK) p.e ∧ Mem w (cB [(some b, bc [.slice r.A r.n r.c, .map r.p] 107), r.er, r.em]) [(some b, bc [.slice r'.A r'.n r'.c, .map r'.p] 107), r'.er, r'.em, p.e] w') v w') := by
 have hG := hW.1
 have hbl := hP.len
 refine aI #[.cell 4 33] 21 Tryz.func20 rfl Tryz.results20 Tryz.ntmps20 rfl ?_
 have M0 := hO.mem
 refine aE (aA (bJ (.agg (List.toArray _)) M0 rfl rfl rfl (fun b1 w1 M1 => (aT mN M1 rfl rfl (fun b2 w2 M2 => (aB (aC (aE (bR [(1, 0), (2, 1), (0, 2), (3, 1), (4, 0), (5, 0), (6, 0), (7, 0), (8, 0)] mixed rfl (by kernel_rfl) (fun w3 hb3 hh3 => ?_))))))))))
 have M3 := M2.drew hb3 hh3
 refine aU rfl rfl rfl (fun _ => aD 0 rW rfl) (bS rfl rfl rfl (aM 3 (.int _ _) iP M3 rfl rfl rfl) (dU [false] rfl (by kernel_rfl) (bY aFn rfl rfl (jN _) ?_)))
 rintro v4 w4 ⟨pm, em, f1, g1, f2, g2, f3, g3, rfl, hmap, hM4⟩
 have M4 : Mem _ _ [_, _, _, _, _, _, _, _, _, _, _, _] _ := M3.call0 hM4
 refine aB (aC ⟨(eD (bL rfl (aM 3 (.int _ _) iP M4 rfl rfl rfl)) dT), ?_⟩)
 refine bS rfl rfl rfl (kD (enc := (fun v : Value => v)) .nilFunc 5 mR aPh M4 rfl hmap rfl rfl) (dQ 11 (.tuple [(.nilFunc : Value), .bool false].toArray) (aXu (bCv hk)) (aU rfl rfl rfl (fun _ => aH (.tuple (List.toArray _)) rfl) (aU rfl rfl rfl (fun _ => bN (_) rfl rfl) (aU rfl rfl rfl (fun _ => bN (.bool false) rfl rfl) ?_))))
 refine aU rfl rfl rfl (fun _ => aJ (_) rfl) (aU rfl rfl rfl (fun _ => aJ (.bool false) rfl) (bX (aC (aE (aE (aA (wq (aH (.bool false) rfl) rfl (wq (gI true rfl rfl) rfl ?_))))))))
 refine aB (aC (cE rfl (aE (aA (wq (cF [(0, .int _ _)] _ oX rfl rfl) rfl (bI 4 _ iL M4 rfl rfl rfl rfl rfl (aR rfl) rfl (fun w5 M5 => (aB (aC (aO (cO ?_)))))))))))
 refine eL 4 iL M5 rfl rfl rfl ?_
 exact ⟨r, ⟨none, 0, 0, (none, default)⟩, by rw [iY (by omega)]; rfl, by rw [iY (by omega)]; exact hW, by rw [iY (by omega)]; exact bC.nil _ _ _, (M5.keep [true, true, true, false, false, false, false, false, false, false, false, false]).dummy default⟩
theorem aWx (w : World) (F : Rd w 2 (some ⟨0, 0, none⟩) 1 [[.int .u32 73856093, .int .u32 19349663]]) (N : Rd w 4 (some ⟨3, 0, none⟩) 1 [eK jY]) (b : Nat) (r : StV) (vs : List Body) (hW : dF 39 r vs) (hO : Own [(some b, bc [.slice r.A r.n r.c, .map r.p] 107), r.er, r.em] w) (o : OpI) (BA : Option Addr) (nn cc : Nat) (hP : OpOk w o BA nn cc) (hnn : nn ≤ 1000000) (hdB : 0 < nn → ∀ q off, BA = some ⟨q, off, none⟩ → q ∉ cB [(some b, bc [.slice r.A r.n r.c, .map r.p] 107), r.er, r.em]) (hdF : 0 < 1 → ∀ q off, (some ⟨0, 0, none⟩ : Option Addr) = some ⟨q, off, none⟩ → q ∉ cB [(some b, bc [.slice r.A r.n r.c, .map r.p] 107), r.er, r.em]) (hdN : 0 < 1 → ∀ q off, (some ⟨3, 0, none⟩ : Option Addr) = some ⟨q, off, none⟩ → q ∉ cB [(some b, bc [.slice r.A r.n r.c, .map r.p] 107), r.er, r.em]) : Calls Tryz.prog 20 #[.pointer (some ⟨b, 0, none⟩), .agg (fJ o BA nn cc).toArray] w (fun ex w' => ∃ v, ex = .returned v ∧ (fun v w' => ∃ (r' : StV) (p : Row), v = .agg (dY (iV vs o).2 p).toArray ∧ dF 39 r' (iV vs o).1 ∧ bC 5 1 p.A p.n p.c (((iV vs o).2.bytes).map bK) p.e ∧ Mem w (cB [(some b, bc [.slice r.A r.n r.c, .map r.p] 107), r.er, r.em]) [(some b, bc [.slice r'.A r'.n r'.c, .map r'.p] 107), r'.er, r'.em, p.e] w') v w') := by
 by_cases h0 : o.kind < 1 ∨ 6 < o.kind
 ·exact aPz w b r vs hW hO o BA nn cc hP hdB h0
 by_cases h1 : o.kind = 1
 ·exact aSa w b r vs hW hO o BA nn cc hP hnn hdB h1
 by_cases h2 : o.kind = 2
 ·exact aRj w b r vs hW hO o BA nn cc hP hnn hdB h2
 by_cases h3 : o.kind = 3
 ·exact aRa w b r vs hW hO o BA nn cc hP hnn hdB h3
 by_cases h4 : o.kind = 4
 ·exact aRx w F N b r vs hW hO o BA nn cc hP hnn hdB hdF hdN h4
 by_cases h5 : o.kind = 5
 ·exact aRd w b r vs hW hO o BA nn cc hP hnn hdB h5
 ·exact aOt w b r vs hW hO o BA nn cc hP hnn hdB (by omega)
set_option maxHeartbeats 32000000 in
theorem oW (w : World) (F : Rd w 2 (some ⟨0, 0, none⟩) 1 [[.int .u32 73856093, .int .u32 19349663]]) (N : Rd w 4 (some ⟨3, 0, none⟩) 1 [eK jY]) (b : Nat) (r : StV) (vs : List Body) (hW : dF 39 r vs) (hO : Own [(some b, bc [.slice r.A r.n r.c, .map r.p] 107), r.er, r.em] w) (hdF : 0 < 1 → ∀ q off, (some ⟨0, 0, none⟩ : Option Addr) = some ⟨q, off, none⟩ → q ∉ cB [(some b, bc [.slice r.A r.n r.c, .map r.p] 107), r.er, r.em]) (hdN : 0 < 1 → ∀ q off, (some ⟨3, 0, none⟩ : Option Addr) = some ⟨q, off, none⟩ → q ∉ cB [(some b, bc [.slice r.A r.n r.c, .map r.p] 107), r.er, r.em]) (A : Option Addr) (n c : Nat) (l : List OpRow) (hl : OpsRd w A n l) (hby : ∀ x ∈ l, x.n ≤ 1000000) (hn : n ≤ 1000000) (hdl : 0 < n → ∀ q off, A = some ⟨q, off, none⟩ → q ∉ cB [(some b, bc [.slice r.A r.n r.c, .map r.p] 107), r.er, r.em]) (hdo : aCf l (cB [(some b, bc [.slice r.A r.n r.c, .map r.p] 107), r.er, r.em])) :
  Calls Tryz.prog 33 #[.pointer (some ⟨b, 0, none⟩), .slice A n c] w (fun ex w' => ∃ v, ex = .returned v ∧ (fun v w' => ∃ (r' : StV) (q : Row) (rs : List Row), v = .slice q.A q.n q.c ∧ dF 39 r' (nS vs (gH l)) ∧ bC 33 4 q.A q.n q.c (mD (jF vs (gH l)) rs) q.e ∧ OutR 5 rs (jF vs (gH l)) ∧ Mem w (cB [(some b, bc [.slice r.A r.n r.c, .map r.p] 107), r.er, r.em]) ([(some b, bc [.slice r'.A r'.n r'.c, .map r'.p] 107), r'.er, r'.em, q.e] ++ rs.map Row.e) w') v w') := by
 have hlen : l.length = n := by simpa using hl.rd.len
 have hbd := hl.rd.bound
 refine aI #[.tmp 4] 22 Tryz.func33 rfl Tryz.results33 Tryz.ntmps33 rfl ?_
 have M0 := hO.mem
 refine aE (aA (eI rfl rfl (aB (aC (aE (aA (eI rfl rfl ?_)))))))
 have M1 := M0.dummy default
 refine aB (aC (aE (aE (aA (dH rfl rfl (wq (cZ Tryz.underlying27 rfl) rfl (aP rfl rfl (aB (aC (aQ (dS (σ := Nat × StV × Row × List Row) [0, 4, 8, 9] (fun (i, r', q, rs) => [(5, .slice q.A q.n q.c), (10, .int .i64 (i : Int))]) (fun (i, r', q, rs) w' => (i ≤ n ∧ dF 39 r' (nS vs ((gH l).take i)) ∧ bC 33 4 q.A q.n q.c (mD ((jF vs ((gH l).take i))) rs) q.e ∧ OutR 5 rs (jF vs ((gH l).take i))) ∧ Mem w (cB [(some b, bc [.slice r.A r.n r.c, .map r.p] 107), r.er, r.em]) ([(some b, bc [.slice r'.A r'.n r'.c, .map r'.p] 107), r'.er, r'.em, q.e] ++ rs.map Row.e) w') (fun (i, r', q, rs) => n - i) (0, r, fV, []) (bB rfl (bB rfl dZ)) (⟨⟨by omega, hW, bC.nil _ _ _, OutR.nil _⟩, M1⟩) ?_)))))))))))
 rintro ⟨i, r', q, rs⟩ ρ2 w2 ⟨⟨hi, hr, hq, hoR⟩, hM2⟩
 have hqn : (mD (jF vs ((gH l).take i)) rs).length = q.n := hq.1
 rw [oL hoR.len, nI, List.length_take, lZ] at hqn
 refine aE (aA (cY rfl rfl rfl rfl (aB (aC (aE ?_)))))
 refine aW rfl (fun h11 => ?_) (fun h11 => ?_)
 ·obtain ⟨x, hx⟩ := cV (xs := l) (k := i) hlen (by omega)
  have hxm := List.mem_of_getElem? hx
  have hP := hl.each x hxm
  have hxo := aSq hx
  refine aL (aC (aE (aQ (aE (aA (wq (bO (i) bFr rfl rfl rfl ((hl.rd.memY hM2 hdl).below_len (aG OpRow.cells hx)) ((hl.rd.memY hM2 hdl).someK (aG OpRow.cells hx))) rfl (wq (dI _ pO (hl.rd.memY hM2 hdl) (aG OpRow.cells hx) rfl) rfl (aK 13 (.agg (fJ x.o x.A x.n x.c).toArray) rfl ?_))))))))
  refine aT bBp hM2 rfl rfl (fun b3 w3 M3 => ?_)
  have M4 : Mem _ _ ([_, _, _, _, _] ++ _) _ := Mem.front (L := [_, _, _, _]) M3
  refine bI 4 _ pO M4 rfl rfl rfl rfl rfl (aR rfl) rfl (fun w5 M5 => (aB (aC (aA (dH rfl rfl (wq (aH (.pointer _) rfl) rfl (wq (aX 4 pO M5 rfl rfl rfl) rfl (bY bPk rfl rfl (aWx _ (F.memY M5 hdF) (N.memY M5 hdN) _ r' _ hr (M5.ownSeg 0 3) x.o x.A x.n x.c (hP.memY M5 (hdo x hxm)) (hby x hxm) (M5.away 0 3 hP.rd (hdo x hxm)) (M5.away 0 3 F hdF) (M5.away 0 3 N hdN)) ?_))))))))
  rintro v6 w6 ⟨r2, p2, rfl, hr2, hp2, hM6⟩
  have M6 : Mem _ _ ([_, _, _, _, _, _] ++ _) _ := Mem.front (L := [_, _, _, _, _]) (M5.seg 0 3 hM6)
  refine cR [.agg (List.toArray _)] [dY (iV (nS vs ((gH l).take i)) x.o).2 p2] rfl aCz M6 rfl rfl rfl rfl (dD rfl) (by decide) (fun b7 w7 M7 => ?_)
  have M8 : Mem _ _ ([_, _, _, _, _, _, _] ++ _) _ := Mem.front (L := [_, _, _, _, _, _]) M7
  refine dG 3 [dY (iV (nS vs ((gH l).take i)) x.o).2 p2] aCz M8 rfl rfl rfl rfl rfl hq rfl (by simp [dY, Go.Bil.one]) (dV.ofMem 6 M8 rfl) (by omega) (fun A9 c9 e9 w9 M9 hR9 => (eI rfl rfl (aB (cT (aC (aA (wq (aY rfl rfl (by omega) (by omega)) rfl ?_)))))))
  refine aP rfl rfl (aB ?_)
  refine cD (i + 1, r2, ⟨A9, q.n + 1, c9, e9⟩, rs ++ [p2]) (bB rfl (bB rfl dZ)) (cK rfl (cK rfl (cK rfl (cK rfl gW)))) ?_ ?_
  ·exact ⟨⟨by omega, by rw [aIc hxo]; exact hr2, by rw [uD hxo, aHk hoR.len]; exact hR9, by rw [uD hxo]; exact hoR.add hp2⟩, Mem.pushNew (L := [_, _, _, _]) p2 (Mem.keepL (L := [_, _, _, _, _, _, _]) [true, true, true, true, false, true, false] M9)⟩
  ·(show n - (i + 1) < n - i; omega)
 ·have hin : i = n := by omega
  rw [hin, List.take_of_length_le (by rw [lZ]; omega)] at hr hq hoR
  refine cW (dE (dL (eS (aC (aE (aA (dH rfl rfl ?_)))))))
  refine eI rfl rfl (aB (aC (aO (cG (.slice _ _ _) rfl ?_))))
  exact ⟨r', q, rs, rfl, hr, hq, hoR, hM2⟩
set_option maxHeartbeats 4000000 in
theorem rY (w : World) (F : Rd w 2 (some ⟨0, 0, none⟩) 1 [[.int .u32 73856093, .int .u32 19349663]]) (N : Rd w 4 (some ⟨3, 0, none⟩) 1 [eK jY]) (A : Option Addr) (n c : Nat) (l : List OpRow) (hl : OpsRd w A n l) (hby : ∀ x ∈ l, x.n ≤ 1000000) (hn : n ≤ 1000000) :
  Calls Tryz.prog 18 #[.slice A n c] w (fun ex w' => ∃ v, ex = .returned v ∧ (fun v w' => ∃ (b : Nat) (r' : StV), v = .pointer (some ⟨b, 0, none⟩) ∧ dF 39 r' (nS [] (gH l)) ∧ Mem w [] [(some b, bc [.slice r'.A r'.n r'.c, .map r'.p] 107), r'.er, r'.em] w') v w') := by
 have hlen : l.length = n := by simpa using hl.rd.len
 have hbd := hl.rd.bound
 refine aI #[.tmp 2] 9 Tryz.func18 rfl Tryz.results18 Tryz.ntmps18 rfl ?_
 have M0 := Mem.refl w
 refine aE (aA (wq (aJ (.pointer _) rfl) rfl (aB (aC (aE (aA (aT bEy M0 rfl rfl (fun b1 w1 M1 => ?_))))))))
 have M2 := (M1.dummy default).dummy default
 refine wq (aJ (.pointer _) rfl) rfl (aB (aC (aE (aA (wq (aH (.pointer _) rfl) rfl (dH rfl rfl (bY aNd rfl rfl (oW _ (F.mem M2) (N.mem M2) _ ⟨none, 0, 0, none, (none, default), (none, default)⟩ _ (dF.new 39 default default) (M2.ownSeg 0 3) (M2.away 0 3 F (by simp)) (M2.away 0 3 N (by simp)) A n c l (hl.mem M2) hby hn (M2.away 0 3 hl.rd (by simp)) (fun x hx => M2.away 0 3 (hl.each x hx).rd (by simp))) ?_)))))))
 rintro v3 w3 ⟨r2, q, rs, rfl, hr2, hq, hoR, hM3⟩
 have M3 : Mem _ _ ([_, _, _, _] ++ _) _ := M2.seg 0 3 hM3
 refine aB (aC (aE (aA (wq (aH (.pointer _) rfl) rfl (wq (aJ (.pointer _) rfl) rfl (aB (aC (aO (cG (.pointer _) rfl ?_)))))))))
 exact ⟨_, r2, rfl, hr2, M3.keep [true, true, true]⟩
set_option maxHeartbeats 4000000 in
theorem aXp (w : World) (A : Option Addr) (n c : Nat) (l : List OpRow) (hl : OpsRd w A n l) :
  Calls Tryz.prog 17 #[.slice A n c] w (fun ex w' => ∃ v, ex = .returned v ∧ (fun v w' => (∃ g : Bool, v = .bool g ∧ (g = true → n ≤ 40 ∧ ∀ x ∈ l, x.n ≤ 1000)) ∧ Below w.heap.size w w') v w') := by
 have hlen : l.length = n := by simpa using hl.rd.len
 have hbd := hl.rd.bound
 refine aI #[.tmp 2] 37 Tryz.func17 rfl Tryz.results17 Tryz.ntmps17 rfl ?_
 have M0 := Mem.refl w
 refine aE (aA (wq (aJ (.bool false) rfl) rfl (aB (aC (aE (aA (bH rfl rfl (aB (aC (aE (aE (aA (bH rfl rfl ?_)))))))))))))
 refine aB (aC (aQ (dS (σ := Nat × Nat) [0] (fun (i, s) => [(3, .int .i64 (s : Int)), (4, .int .i64 (i : Int))]) (fun (i, s) w' => (i ≤ n ∧ s ≤ i ∧ ∀ (j : Nat) (x : OpRow), j < i → l[j]? = some x → x.n ≤ 1000) ∧ Mem w [] [] w') (fun (i, s) => n - i) (0, 0) (bB rfl (bB rfl dZ)) (⟨⟨by omega, by omega, fun j x hj => by omega⟩, M0⟩) ?_)))
 rintro ⟨i, s⟩ ρ1 w1 ⟨⟨hi, hs, hal⟩, hM1⟩
 refine aE (aE (aA (aP rfl rfl (dH rfl rfl (wq (cZ Tryz.underlying22 rfl) rfl (cY rfl rfl rfl rfl (wq (aH (.bool (decide _)) rfl) rfl ?_)))))))
 refine dN 9 rfl (fun g9 => ?_) (fun g9 => ?_)
 ·refine aP rfl rfl (cY rfl rfl rfl rfl (wq (bQ true (.bool (decide _)) rfl rfl) rfl (aB (aC ?_))))
  refine aW rfl (fun h12 => ?_) (fun h12 => ?_)
  ·obtain ⟨x, hx⟩ := cV (xs := l) (k := i) hlen (by omega)
   refine aL (aC (aE (aQ (aE (aE (aA (dH rfl rfl (aP rfl rfl (wq (bO (i) aGl rfl rfl rfl ((hl.rd.mem hM1).below_len (aG OpRow.cells hx)) ((hl.rd.mem hM1).someK (aG OpRow.cells hx))) rfl (wq (bG 14 aIz (hl.rd.mem hM1) (Nat.lt_of_le_of_lt (Nat.zero_le _) ((hl.rd.mem hM1).below_len (aG OpRow.cells hx))) rfl) rfl ?_))))))))))
   refine wq (dX (o := 14) (.slice _ _ _) tY (hl.rd.mem hM1) (aG OpRow.cells hx) rfl rfl) rfl (wq (cZ Tryz.underlying31 rfl) rfl (cY rfl rfl rfl rfl (aB (aC ?_))))
   refine aW rfl (fun h21 => ?_) (fun h21 => ?_)
   ·refine aE (aA (wq (aJ (.bool false) rfl) rfl (aB (aC (aO (cO (lD (cO (tS ?_)))))))))
    refine lD (cO (cG (.bool false) rfl ?_))
    exact ⟨⟨false, rfl, fun h => by cases h⟩, hM1.below⟩
   ·refine aL (aC (aE (aA (dH rfl rfl (aP rfl rfl (wq (bO (i) aGl rfl rfl rfl ((hl.rd.mem hM1).below_len (aG OpRow.cells hx)) ((hl.rd.mem hM1).someK (aG OpRow.cells hx))) rfl (wq (bG 0 xO (hl.rd.mem hM1) (Nat.lt_of_le_of_lt (Nat.zero_le _) ((hl.rd.mem hM1).below_len (aG OpRow.cells hx))) rfl) rfl ?_)))))))
    refine wq (dX (o := 0) (.int _ _) iP (hl.rd.mem hM1) (aG OpRow.cells hx) rfl rfl) rfl (cY rfl rfl rfl rfl (aB (aC ?_)))
    refine aW rfl (fun h27 => ?_) (fun h27 => ?_)
    ·refine aA (aP rfl rfl (wq (aY rfl rfl (by omega) (by omega)) rfl (bH rfl rfl (aB (cT ?_)))))
     refine aC (aA (aP rfl rfl (wq (aY rfl rfl (by omega) (by omega)) rfl (bH rfl rfl (aB ?_)))))
     refine cD (i + 1, s + 1) (bB rfl (bB rfl dZ)) (cK rfl gW) ?_ ?_
     ·exact ⟨⟨by omega, by omega, rF (p := fun _ x => x.n ≤ 1000) hal hx (by omega)⟩, hM1⟩
     ·(show n - (i + 1) < n - i; omega)
    ·refine aL (cT (aC (aA (aP rfl rfl (wq (aY rfl rfl (by omega) (by omega)) rfl (bH rfl rfl ?_))))))
     refine aB ?_
     refine cD (i + 1, s) (bB rfl (bB rfl dZ)) (cK rfl gW) ?_ ?_
     ·exact ⟨⟨by omega, by omega, rF (p := fun _ x => x.n ≤ 1000) hal hx (by omega)⟩, hM1⟩
     ·(show n - (i + 1) < n - i; omega)
  ·refine cW (dE (dL (eS (aC (aE (aA (dH rfl rfl ?_)))))))
   refine wq (cZ Tryz.underlying22 rfl) rfl (cY rfl rfl rfl rfl (wq (aH (.bool (decide _)) rfl) rfl ?_))
   refine dN 33 rfl (fun g33 => ?_) (fun g33 => ?_)
   ·refine aP rfl rfl (cY rfl rfl rfl rfl (wq (bQ true (.bool (decide _)) rfl rfl) rfl (wq (aJ (.bool (decide _)) rfl) rfl (aB (aC (aO (cG (.bool (decide _)) rfl ?_)))))))
    refine ⟨⟨_, rfl, fun hg => ?_⟩, hM1.below⟩
    first | (cases hg; done) | exact ⟨(by omega), fun x hx => (by obtain ⟨j, hj⟩ := List.getElem?_of_mem hx; exact hal j x (by have := (List.getElem?_eq_some_iff.1 hj).1; omega) hj)⟩
   ·refine aN rfl rfl (aN rfl rfl (wq (bQ false (.bool false) rfl rfl) rfl (wq (aJ (.bool false) rfl) rfl (aB (aC (aO (cG (.bool false) rfl ?_)))))))
    refine ⟨⟨_, rfl, fun hg => ?_⟩, hM1.below⟩
    first | (cases hg; done) | exact ⟨(by omega), fun x hx => (by obtain ⟨j, hj⟩ := List.getElem?_of_mem hx; exact hal j x (by have := (List.getElem?_eq_some_iff.1 hj).1; omega) hj)⟩
 ·refine aN rfl rfl (aN rfl rfl (wq (bQ false (.bool false) rfl rfl) rfl (aB (aC (cJ rfl (cW ?_))))))
  refine dE (dL (eS (aC (aE (aA (dH rfl rfl (wq (cZ Tryz.underlying22 rfl) rfl ?_)))))))
  refine cY rfl rfl rfl rfl (wq (aH (.bool (decide _)) rfl) rfl ?_)
  refine dN 33 rfl (fun g33 => ?_) (fun g33 => ?_)
  ·refine aP rfl rfl (cY rfl rfl rfl rfl (wq (bQ true (.bool (decide _)) rfl rfl) rfl (wq (aJ (.bool (decide _)) rfl) rfl (aB (aC (aO (cG (.bool (decide _)) rfl ?_)))))))
   refine ⟨⟨_, rfl, fun hg => ?_⟩, hM1.below⟩
   first | (cases hg; done) | exact ⟨(by omega), fun x hx => (by obtain ⟨j, hj⟩ := List.getElem?_of_mem hx; exact hal j x (by have := (List.getElem?_eq_some_iff.1 hj).1; omega) hj)⟩
  ·refine aN rfl rfl (aN rfl rfl (wq (bQ false (.bool false) rfl rfl) rfl (wq (aJ (.bool false) rfl) rfl (aB (aC (aO (cG (.bool false) rfl ?_)))))))
   refine ⟨⟨_, rfl, fun hg => ?_⟩, hM1.below⟩
   first | (cases hg; done) | exact ⟨(by omega), fun x hx => (by obtain ⟨j, hj⟩ := List.getElem?_of_mem hx; exact hal j x (by have := (List.getElem?_eq_some_iff.1 hj).1; omega) hj)⟩
set_option maxHeartbeats 32000000 in
theorem bEg (w : World) (q0 : Row) (s : List Body) (hq0 : bC 39 10 q0.A q0.n q0.c ((s).map aF) q0.e) (hG : GoodV s) (hO : Own [q0.e] w) (o : OpI) (BA : Option Addr) (nn cc : Nat) (hP : OpOk w o BA nn cc) (hnn : nn ≤ 1000000) (hdB : 0 < nn → ∀ q off, BA = some ⟨q, off, none⟩ → q ∉ cB [q0.e]) :
  Calls Tryz.prog 21 #[.slice q0.A q0.n q0.c, .agg (fJ o BA nn cc).toArray] w (fun ex w' => ∃ v, ex = .returned v ∧ (fun v w' => ∃ (q p : Row), v = .tuple #[.slice q.A q.n q.c, .agg (dY (iV s o).2 p).toArray] ∧ bC 39 10 q.A q.n q.c (((iV s o).1).map aF) q.e ∧ bC 5 1 p.A p.n p.c (((iV s o).2.bytes).map bK) p.e ∧ Mem w (cB [q0.e]) [q.e, p.e] w') v w') := by
 have hlen : s.length = q0.n := by simpa using hq0.1
 have hsl := hG.len
 have hbl := hP.len
 refine aI #[.tmp 4, .cell 5 43] 42 Tryz.func21 rfl Tryz.results21 Tryz.ntmps21 rfl ?_
 have M0 := hO.mem
 refine aE (aA (bJ (.agg (List.toArray _)) M0 rfl rfl rfl (fun b1 w1 M1 => (eI rfl rfl (aT aYz M1 rfl rfl (fun b2 w2 M2 => (aB (aC (aE (aE (aA (wq (aD 0 xO rfl) rfl ?_))))))))))))
 refine wq (aM 1 (.int _ _) iP M2 rfl rfl rfl) rfl (cY rfl rfl rfl rfl (wq (aH (.bool (decide _)) rfl) rfl ?_))
 refine dN 10 rfl (fun g10 => ?_) (fun g10 => ?_)
 ·refine aN rfl rfl (aN rfl rfl (aN rfl rfl (wq (bQ true (.bool true) rfl rfl) rfl (aB (aC (cE rfl ?_))))))
  refine aE (aA (dH rfl rfl (wq (cF [(0, .int _ _)] _ sU rfl rfl) rfl (eI rfl rfl (bI 2 _ sG M2 rfl rfl rfl rfl rfl (aR rfl) rfl (fun w3 M3 => (aB (aC (aO (cO ?_))))))))))
  refine aTq (.slice _ _ _) 2 sG M3 rfl rfl rfl rfl ?_
  have hun : ¬ (1 ≤ o.kind ∧ o.kind ≤ 6) := by omega
  exact ⟨q0, ⟨none, 0, 0, (none, default)⟩, by rw [iY hun]; rfl, by rw [iY hun]; exact hq0, by rw [iY hun]; exact bC.nil _ _ _, (M3.keep [true, false, false]).dummy default⟩
 ·refine wq (aD 0 xO rfl) rfl (wq (aM 1 (.int _ _) iP M2 rfl rfl rfl) rfl (cY rfl rfl rfl rfl (wq (bQ false (.bool (decide _)) rfl rfl) rfl (aB (aC ?_)))))
  refine aW rfl (fun h14 => ?_) (fun h14 => ?_)
  ·refine aE (aA (dH rfl rfl (wq (cF [(0, .int _ _)] _ sU rfl rfl) rfl (eI rfl rfl (bI 2 _ sG M2 rfl rfl rfl rfl rfl (aR rfl) rfl (fun w4 M4 => (aB (aC (aO (cO ?_))))))))))
   refine aTq (.slice _ _ _) 2 sG M4 rfl rfl rfl rfl ?_
   have hun : ¬ (1 ≤ o.kind ∧ o.kind ≤ 6) := by omega
   exact ⟨q0, ⟨none, 0, 0, (none, default)⟩, by rw [iY hun]; rfl, by rw [iY hun]; exact hq0, by rw [iY hun]; exact bC.nil _ _ _, (M4.keep [true, false, false]).dummy default⟩
  ·refine aL (aC (aE (aA (dH rfl rfl (wq (aD 0 xO rfl) rfl (wq (aM 1 (.int _ _) iP M2 rfl rfl rfl) rfl (wq (fR rfl rfl (by omega) (by omega)) rfl (wq (aD 1 aSk rfl) rfl ?_))))))))
   refine wq (oQ 1 _ bP M2 rfl rfl rfl rfl) rfl (wq (aD 11 aTg rfl) rfl (wq (aM 1 (.int _ _) bW M2 rfl rfl rfl) rfl (wq (aD 12 aSw rfl) rfl (wq (oQ 1 _ bM M2 rfl rfl rfl rfl) rfl (wq (aD 14 aIz rfl) rfl ?_)))))
   refine wq (aM 1 (.slice _ _ _) tY M2 rfl rfl rfl) rfl (wq (cF [(0, .int _ _), (1, .agg (List.toArray _)), (2, .int _ _), (3, .agg (List.toArray _)), (4, .slice _ _ _)] _ aWh rfl rfl) rfl (aK 29 (.agg (fJ { o with kind := o.kind - 1 } BA nn cc).toArray) rfl (bY bPy rfl rfl (aZw _ q0 s hq0 hG (M2.ownAt (i := 0) rfl) { o with kind := o.kind - 1 } BA nn cc ⟨hP.rd.memY M2 hdB, hP.cap, hP.byt, hP.body, hP.p1, hP.p2⟩ hnn hdB) ?_)))
   rintro v5 w5 ⟨q2, p2, rfl, hq2, hp2, hM5⟩
   have M5 : Mem _ _ [_, _, _, _] _ := M2.seg 0 1 hM5
   refine aT aKm M5 rfl rfl (fun b6 w6 M6 => (bI 4 _ fP M6 rfl rfl rfl rfl rfl (aR rfl) rfl (fun w7 M7 => (aB (aC (aE (bR [(0, 0), (1, 1), (2, 0), (3, 1), (4, 0), (5, 1), (6, 0), (7, 1), (8, 0), (9, 1), (10, 0), (11, 0), (12, 2)] mixed rfl (by kernel_rfl) (fun w8 hb8 hh8 => ?_))))))))
   have M8 := M7.drew hb8 hh8
   refine aU rfl rfl rfl (fun _ => aD 0 qN rfl) (bS rfl rfl rfl (aM 4 (.slice _ _ _) gA M8 rfl rfl rfl) (aU rfl rfl rfl (fun _ => aD 1 qJ rfl) (bS rfl rfl rfl (aM 4 (.int _ _) iP M8 rfl rfl rfl) (aU rfl rfl rfl (fun _ => aD 12 aOc rfl) (bS rfl rfl rfl (aM 4 (.slice _ _ _) tY M8 rfl rfl rfl) ?_)))))
   refine aU rfl rfl rfl (fun _ => aD 13 aNe rfl) (bS rfl rfl rfl (aM 4 (.int _ _) iP M8 rfl rfl rfl) (aU rfl rfl rfl (fun _ => aD 14 aNi rfl) (bS rfl rfl rfl (aM 4 (.bool _) pG M8 rfl rfl rfl) (aU rfl rfl rfl (fun _ => cF [(0, .int _ _), (1, .slice _ _ _), (2, .int _ _), (3, .bool _)] _ sU rfl rfl) ?_))))
   refine aU rfl rfl rfl (fun _ => aJ (.slice _ _ _) rfl) (dU [true, true, true, true, true] rfl (by kernel_rfl) (bI 2 _ sG M8 rfl rfl rfl rfl rfl (aR rfl) rfl (fun w9 M9 => ?_)))
   refine aB (aC ⟨dT, ?_⟩)
   refine bX (aC (aO (aTq (.slice _ _ _) 2 sG M9 rfl rfl rfl rfl ?_)))
   have hdo : ¬ (o.kind < 1 ∨ 6 < o.kind) := by omega
   exact ⟨q2, p2, by rw [aYt hdo]; rfl, by rw [aYt hdo]; exact hq2, by rw [aYt hdo]; exact hp2, M9.keep [true, false, false, true, false]⟩
set_option maxHeartbeats 32000000 in
theorem aVv (w : World) (q0 : Row) (s : List Body) (hq0 : bC 39 10 q0.A q0.n q0.c ((s).map aF) q0.e) (hG : GoodV s) (hO : Own [q0.e] w) (A : Option Addr) (n c : Nat) (l : List OpRow) (hl : OpsRd w A n l) (hby : ∀ x ∈ l, x.n ≤ 1000000) (hn : n ≤ 1000000) (hdl : 0 < n → ∀ q off, A = some ⟨q, off, none⟩ → q ∉ cB [q0.e]) (hdo : aCf l (cB [q0.e])) :
  Calls Tryz.prog 35 #[.slice q0.A q0.n q0.c, .slice A n c] w (fun ex w' => ∃ v, ex = .returned v ∧ (fun v w' => ∃ (q o : Row) (rs : List Row), v = .tuple #[.slice q.A q.n q.c, .slice o.A o.n o.c] ∧ bC 39 10 q.A q.n q.c (((nS s (gH l))).map aF) q.e ∧ bC 43 4 o.A o.n o.c (mD (jF s (gH l)) rs) o.e ∧ OutR 5 rs (jF s (gH l)) ∧ Mem w (cB [q0.e]) ([q.e, o.e] ++ rs.map Row.e) w') v w') := by
 have hlen : l.length = n := by simpa using hl.rd.len
 have hbd := hl.rd.bound
 have hlo : ∀ o ∈ gH l, OkO o := hl.okO hby
 refine aI #[.tmp 4, .tmp 5] 32 Tryz.func35 rfl Tryz.results35 Tryz.ntmps35 rfl ?_
 have M0 := hO.mem
 refine aE (aA (eI rfl rfl (eI rfl rfl (aB (aC (aE (aA (eI rfl rfl ?_))))))))
 have M1 := M0.dummy default
 refine aB (aC (aE (aE (aA (bH rfl rfl (aB (aC (aQ (dS (σ := Nat × Row × Row × List Row) [1, 4, 5] (fun (i, q, o, rs) => [(0, .slice q.A q.n q.c), (6, .slice o.A o.n o.c), (7, .int .i64 (i : Int))]) (fun (i, q, o, rs) w' => (i ≤ n ∧ bC 39 10 q.A q.n q.c (((nS s ((gH l).take i))).map aF) q.e ∧ bC 43 4 o.A o.n o.c (mD ((jF s ((gH l).take i))) rs) o.e ∧ OutR 5 rs (jF s ((gH l).take i))) ∧ Mem w (cB [q0.e]) ([q.e, o.e] ++ rs.map Row.e) w') (fun (i, q, o, rs) => n - i) (0, q0, fV, []) (bB rfl (bB rfl (bB rfl dZ))) (⟨⟨by omega, hq0, bC.nil _ _ _, OutR.nil _⟩, M1⟩) ?_)))))))))
 rintro ⟨i, q, o, rs⟩ ρ2 w2 ⟨⟨hi, hq, ho, hoR⟩, hM2⟩
 have hqn : (mD (jF s ((gH l).take i)) rs).length = o.n := ho.1
 rw [oL hoR.len, nI, List.length_take, lZ] at hqn
 have hGi : GoodV (nS s ((gH l).take i)) := aNy hG (fun z hz => hlo z (List.mem_of_mem_take hz))
 refine aE (aE (aA (aP rfl rfl (dH rfl rfl (wq (cZ Tryz.underlying22 rfl) rfl (cY rfl rfl rfl rfl (aB (aC ?_))))))))
 refine aW rfl (fun h13 => ?_) (fun h13 => ?_)
 ·obtain ⟨x, hx⟩ := cV (xs := l) (k := i) hlen (by omega)
  have hxm := List.mem_of_getElem? hx
  have hP := hl.each x hxm
  have hxo := aSq hx
  refine aL (aC (aE (aQ (aE (aA (dH rfl rfl (dH rfl rfl (aP rfl rfl (wq (bO (i) aGl rfl rfl rfl ((hl.rd.memY hM2 hdl).below_len (aG OpRow.cells hx)) ((hl.rd.memY hM2 hdl).someK (aG OpRow.cells hx))) rfl (wq (dI _ bJu (hl.rd.memY hM2 hdl) (aG OpRow.cells hx) rfl) rfl ?_))))))))))
  refine aK 21 (.agg (fJ x.o x.A x.n x.c).toArray) rfl (bY bQr rfl rfl (bEg _ q _ hq hGi (hM2.ownAt (i := 0) rfl) x.o x.A x.n x.c (hP.memY hM2 (hdo x hxm)) (hby x hxm) (hM2.away 0 1 hP.rd (hdo x hxm))) ?_)
  rintro v3 w3 ⟨q2, p2, rfl, hq2, hp2, hM3⟩
  have M3 : Mem _ _ ([_, _, _] ++ _) _ := Mem.front (L := [_, _]) (hM2.seg 0 1 hM3)
  refine wq (aH (.tuple (List.toArray _)) rfl) rfl (wq (bN (.slice _ _ _) rfl rfl) rfl (wq (bN (.agg (List.toArray _)) rfl rfl) rfl (aT aYz M3 rfl rfl (fun b4 w4 M4 => ?_))))
  have M5 : Mem _ _ ([_, _, _, _] ++ _) _ := Mem.front (L := [_, _, _]) M4
  refine eI rfl rfl (bI 3 _ sG M5 rfl rfl rfl rfl rfl (aR rfl) rfl (fun w6 M6 => (aB (aC (aE (aA (dH rfl rfl (eI rfl rfl (aB (aC (aA ?_)))))))))))
  refine dH rfl rfl (wq (aX 3 sG M6 rfl rfl rfl) rfl (cR [.agg (List.toArray _)] [dY (iV (nS s ((gH l).take i)) x.o).2 p2] rfl bEi M6 rfl rfl rfl rfl (dD rfl) (by decide) (fun b7 w7 M7 => ?_)))
  have M8 : Mem _ _ ([_, _, _, _, _] ++ _) _ := Mem.front (L := [_, _, _, _]) M7
  refine dG 1 [dY (iV (nS s ((gH l).take i)) x.o).2 p2] bEi M8 rfl rfl rfl rfl rfl ho rfl (by simp [dY, Go.Bil.one]) (dV.ofMem 4 M8 rfl) (by omega) (fun A9 c9 e9 w9 M9 hR9 => (eI rfl rfl (aB (cT (aC (aA (aP rfl rfl ?_)))))))
  refine wq (aY rfl rfl (by omega) (by omega)) rfl (bH rfl rfl (aB ?_))
  refine cD (i + 1, q2, ⟨A9, o.n + 1, c9, e9⟩, rs ++ [p2]) (bB rfl (bB rfl (bB rfl dZ))) (cK rfl (cK rfl (cK rfl gW))) ?_ ?_
  ·exact ⟨⟨by omega, by rw [aIc hxo]; exact hq2, by rw [uD hxo, aHk hoR.len]; exact hR9, by rw [uD hxo]; exact hoR.add hp2⟩, Mem.pushNew (L := [_, _]) p2 (Mem.keepL (L := [_, _, _, _, _]) [true, true, true, false, false] M9)⟩
  ·(show n - (i + 1) < n - i; omega)
 ·have hin : i = n := by omega
  rw [hin, List.take_of_length_le (by rw [lZ]; omega)] at hq ho hoR
  refine cW (dE (dL (eS (aC (aE (aA (dH rfl rfl ?_)))))))
  refine dH rfl rfl (eI rfl rfl (eI rfl rfl (aB (aC (aO (fY (.slice _ _ _) (.slice _ _ _) rfl rfl ?_))))))
  exact ⟨q, o, rs, rfl, hq, ho, hoR, hM2⟩
set_option maxHeartbeats 8000000 in
theorem aQe (w : World) (z : ResI) (r r' : Row) (RB : Rd w 1 r.A r.n (z.bytes.map bK)) (RB' : Rd w 1 r'.A r'.n (z.bytes.map bK)) :
  Calls Tryz.prog 57 #[.agg (dY z r).toArray, .agg (dY z r').toArray] w (fun ex w' => ∃ v, ex = .returned v ∧ (fun v w' => v = .bool true ∧ Below w.heap.size w w') v w') := by
 refine aI #[.tmp 4] 31 Tryz.func57 rfl Tryz.results57 Tryz.ntmps57 rfl ?_
 have M0 := Mem.refl w
 refine aE (aA (bJ (.agg (List.toArray _)) M0 rfl rfl rfl (fun b1 w1 M1 => (bJ (.agg (List.toArray _)) M1 rfl rfl rfl (fun b2 w2 M2 => (wq (aJ (.bool false) rfl) rfl (aB (aC (aE (aA (wq (aD 0 aTd rfl) rfl ?_)))))))))))
 refine wq (aM 0 (.int _ _) iP M2 rfl rfl rfl) rfl (wq (aD 0 aTd rfl) rfl (wq (aM 1 (.int _ _) iP M2 rfl rfl rfl) rfl (cY rfl rfl rfl rfl (kH 9 rfl rfl (wq (aH (.bool true) rfl) rfl ?_)))))
 refine wq (aD 1 aUe rfl) rfl (wq (aM 0 (.slice _ _ _) tY M2 rfl rfl rfl) rfl (wq (aD 1 aUe rfl) rfl (wq (aM 1 (.slice _ _ _) tY M2 rfl rfl rfl) rfl (bY bPj rfl rfl (aRk _ _ _ _ z.bytes (RB.mem M2) _ _ _ z.bytes (RB'.mem M2)) ?_))))
 rintro v3 w3 ⟨rfl, hb3⟩
 have M3 := M2.callB hb3
 refine kH 15 rfl rfl (wq (bQ true (.bool true) rfl rfl) rfl (wq (aH (.bool true) rfl) rfl (wq (aD 2 aSe rfl) rfl (wq (aM 0 (.int _ _) iP M3 rfl rfl rfl) rfl (wq (aD 2 aSe rfl) rfl ?_)))))
 refine wq (aM 1 (.int _ _) iP M3 rfl rfl rfl) rfl (cY rfl rfl rfl rfl (kH 22 rfl rfl (wq (bQ true (.bool true) rfl rfl) rfl (wq (aH (.bool true) rfl) rfl (wq (aD 3 aUj rfl) rfl ?_)))))
 refine wq (aM 0 (.bool _) pG M3 rfl rfl rfl) rfl (wq (aD 3 aUj rfl) rfl (wq (aM 1 (.bool _) pG M3 rfl rfl rfl) rfl (wq (rP _ Tryz.underlying4 rfl rfl rfl) rfl (aK 29 (.bool true) (bv rfl (by simp)) (wq (bQ true (.bool true) rfl rfl) rfl ?_)))))
 refine wq (aJ (.bool true) rfl) rfl (aB (aC (aO (cG (.bool true) rfl ?_))))
 exact ⟨rfl, M3.below⟩
set_option maxHeartbeats 8000000 in
theorem rR (w : World) (z : ResI) (r r' : Row) (RB : Rd w 1 r.A r.n (z.bytes.map bK)) (RB' : Rd w 1 r'.A r'.n (z.bytes.map bK)) :
  Calls Tryz.prog 36 #[.agg (dY z r).toArray, .agg (dY z r').toArray] w (fun ex w' => ∃ v, ex = .returned v ∧ (fun v w' => v = .bool true ∧ Below w.heap.size w w') v w') := by
 refine aI #[.tmp 4] 16 Tryz.func36 rfl Tryz.results36 Tryz.ntmps36 rfl ?_
 have M0 := Mem.refl w
 refine aE (aA (bJ (.agg (List.toArray _)) M0 rfl rfl rfl (fun b1 w1 M1 => (bJ (.agg (List.toArray _)) M1 rfl rfl rfl (fun b2 w2 M2 => (wq (aJ (.bool false) rfl) rfl (aB (aC (aE (aA (wq (aD 0 xL rfl) rfl ?_)))))))))))
 refine wq (aM 0 (.int _ _) tL M2 rfl rfl rfl) rfl (wq (aD 1 aTt rfl) rfl (wq (aM 0 (.slice _ _ _) tY M2 rfl rfl rfl) rfl (wq (aD 2 bFa rfl) rfl (wq (aM 0 (.int _ _) iP M2 rfl rfl rfl) rfl (wq (aD 3 bIe rfl) rfl ?_)))))
 refine wq (aM 0 (.bool _) pG M2 rfl rfl rfl) rfl (wq (cF [(0, .int _ _), (1, .slice _ _ _), (2, .int _ _), (3, .bool _)] _ sU rfl rfl) rfl (aK 13 (.agg (dY z r).toArray) rfl (wq (aX 1 sG M2 rfl rfl rfl) rfl (bY bQo rfl rfl (aQe _ z r r' (RB.mem M2) (RB'.mem M2)) ?_))))
 rintro v3 w3 ⟨rfl, hb3⟩
 have M3 := M2.callB hb3
 refine wq (aJ (.bool true) rfl) rfl (aB (aC (aO (cG (.bool true) rfl ?_))))
 exact ⟨rfl, M3.below⟩
set_option maxHeartbeats 4000000 in
theorem aGg (w : World) (o : OpI) (BA : Option Addr) (nn cc : Nat) :
  Calls Tryz.prog 39 #[.agg (fJ o BA nn cc).toArray] w (fun ex w' => ∃ v, ex = .returned v ∧ (fun v w' => v = .agg (fJ o BA nn cc).toArray ∧ Below w.heap.size w w') v w') := by
 refine aI #[.cell 2 41] 14 Tryz.func39 rfl Tryz.results39 Tryz.ntmps39 rfl ?_
 have M0 := Mem.refl w
 refine aE (aA (bJ (.agg (List.toArray _)) M0 rfl rfl rfl (fun b1 w1 M1 => (aT bBp M1 rfl rfl (fun b2 w2 M2 => (aB (aC (aE (aA (wq (aD 0 xO rfl) rfl (wq (aM 0 (.int _ _) iP M2 rfl rfl rfl) rfl ?_)))))))))))
 refine wq (aD 1 aSk rfl) rfl (wq (oQ 0 _ bP M2 rfl rfl rfl rfl) rfl (wq (aD 11 aTg rfl) rfl (wq (aM 0 (.int _ _) bW M2 rfl rfl rfl) rfl (wq (aD 12 aSw rfl) rfl (wq (oQ 0 _ bM M2 rfl rfl rfl rfl) rfl ?_)))))
 refine wq (aD 14 aIz rfl) rfl (wq (aM 0 (.slice _ _ _) tY M2 rfl rfl rfl) rfl (wq (cF [(0, .int _ _), (1, .agg (List.toArray _)), (2, .int _ _), (3, .agg (List.toArray _)), (4, .slice _ _ _)] _ qY rfl rfl) rfl (bI 1 _ pO M2 rfl rfl rfl rfl rfl (aR rfl) rfl (fun w3 M3 => ?_))))
 refine aB (aC (aO (eL 1 pO M3 rfl rfl rfl ?_)))
 exact ⟨rfl, M3.below⟩
set_option maxHeartbeats 16000000 in
theorem uE (w : World) (A : Option Addr) (n c : Nat) (l : List OpRow) (hl : OpsRd w A n l) (hn : n ≤ 1000000) :
  Calls Tryz.prog 34 #[.slice A n c] w (fun ex w' => ∃ v, ex = .returned v ∧ (fun v w' => ∃ q : Row, v = .slice q.A q.n q.c ∧ bC 41 15 q.A q.n q.c (l.map OpRow.cells) q.e ∧ Mem w [] [q.e] w') v w') := by
 have hlen : l.length = n := by simpa using hl.rd.len
 have hbd := hl.rd.bound
 refine aI #[.tmp 2] 20 Tryz.func34 rfl Tryz.results34 Tryz.ntmps34 rfl ?_
 have M0 := Mem.refl w
 refine aE (aA (eI rfl rfl (aB (aC (aE (aA (eI rfl rfl ?_)))))))
 have M1 := M0.dummy default
 refine aB (aC (aE (aE (aA (bH rfl rfl (aB (aC (aQ (dS (σ := Nat × Row) [0, 2] (fun (i, q) => [(3, .slice q.A q.n q.c), (4, .int .i64 (i : Int))]) (fun (i, q) w' => (i ≤ n ∧ bC 41 15 q.A q.n q.c ((l.take i).map OpRow.cells) q.e) ∧ Mem w [] [q.e] w') (fun (i, q) => n - i) (0, fV) (bB rfl (bB rfl dZ)) (⟨⟨by omega, bC.nil _ _ _⟩, M1⟩) ?_)))))))))
 rintro ⟨i, q⟩ ρ2 w2 ⟨⟨hi, hq⟩, hM2⟩
 have hqn : ((l.take i).map OpRow.cells).length = q.n := hq.1
 rw [List.length_map, List.length_take] at hqn
 refine aE (aE (aA (aP rfl rfl (dH rfl rfl (wq (cZ Tryz.underlying22 rfl) rfl (cY rfl rfl rfl rfl (aB (aC ?_))))))))
 refine aW rfl (fun h8 => ?_) (fun h8 => ?_)
 ·obtain ⟨x, hx⟩ := cV (xs := l) (k := i) hlen (by omega)
  refine aL (aC (aE (aQ (aA (dH rfl rfl (dH rfl rfl (aP rfl rfl (wq (bO (i) aGl rfl rfl rfl ((hl.rd.mem hM2).below_len (aG OpRow.cells hx)) ((hl.rd.mem hM2).someK (aG OpRow.cells hx))) rfl (wq (dI _ bJu (hl.rd.mem hM2) (aG OpRow.cells hx) rfl) rfl ?_)))))))))
  refine aK 15 (.agg (fJ x.o x.A x.n x.c).toArray) rfl (bY bQi rfl rfl (aGg _ x.o x.A x.n x.c) ?_)
  rintro v3 w3 ⟨rfl, hb3⟩
  have M3 := hM2.callB hb3
  refine cR [.agg (List.toArray _)] [x.cells] rfl bFr M3 rfl rfl rfl rfl (dD rfl) (by decide) (fun b4 w4 M4 => (dG 0 [x.cells] bFr M4 rfl rfl rfl rfl rfl hq rfl (by simp [OpRow.cells, fJ, aF, Go.Bil.one]) (dV.ofMem 1 M4 rfl) (by omega) (fun A5 c5 e5 w5 M5 hR5 => (eI rfl rfl ?_))))
  refine aB (cT (aC (aA (aP rfl rfl (wq (aY rfl rfl (by omega) (by omega)) rfl (bH rfl rfl ?_))))))
  refine aB ?_
  refine cD (i + 1, ⟨A5, q.n + 1, c5, e5⟩) (bB rfl (bB rfl dZ)) (cK rfl (cK rfl gW)) ?_ ?_
  ·exact ⟨⟨by omega, by rw [cP hx, List.map_append]; exact hR5⟩, M5.keep [true]⟩
  ·(show n - (i + 1) < n - i; omega)
 ·have hin : i = n := by omega
  rw [hin, List.take_of_length_le (by omega)] at hq
  refine cW (dE (dL (eS (aC (aE (aA (dH rfl rfl ?_)))))))
  refine eI rfl rfl (aB (aC (aO (cG (.slice _ _ _) rfl ?_))))
  exact ⟨q, rfl, hq, hM2⟩
theorem aQd (w : World) (A : Option Addr) (n c : Nat) (l : List OpRow) (hl : OpsRd w A n l) (hby : ∀ x ∈ l, x.n ≤ 1000000) (hn : n ≤ 1000000) : Calls Tryz.prog 35 #[.slice none 0 0, .slice A n c] w (fun ex w' => ∃ v, ex = .returned v ∧ (fun v w' => ∃ (q o : Row) (rs : List Row), v = .tuple #[.slice q.A q.n q.c, .slice o.A o.n o.c] ∧ bC 39 10 q.A q.n q.c (((nS [] (gH l))).map aF) q.e ∧ bC 43 4 o.A o.n o.c (mD (jF [] (gH l)) rs) o.e ∧ OutR 5 rs (jF [] (gH l)) ∧ Mem w [] ([q.e, o.e] ++ rs.map Row.e) w') v w') := (aVv w fV [] (bC.nil _ _ _) GoodV.nil (Own.dummy w default) A n c l hl hby hn (by simp [cB, fV]) (by intro x _ _ q off _; simp [cB, fV])).mono fun _ _ h => h
set_option maxHeartbeats 100000000 in
theorem bRm (w : World) (F : Rd w 2 (some ⟨0, 0, none⟩) 1 [[.int .u32 73856093, .int .u32 19349663]]) (N : Rd w 4 (some ⟨3, 0, none⟩) 1 [eK jY]) :
  Calls Tryz.prog 32 #[] w (fun ex w' => ∃ v, ex = .returned v ∧ (fun v w' => v = .bool true ∧ Below w.heap.size w w') v w') := by
 refine aI #[.tmp 0] 54 Tryz.func32 rfl Tryz.results32 Tryz.ntmps32 rfl ?_
 have M0 := Mem.refl w
 refine aE (aA (wq (aJ (.bool false) rfl) rfl (aB (aC (aE (aA (bY bAn rfl rfl (rY _ (F.mem M0) (N.mem M0) none 0 0 [] (OpsRd.none _) (by simp) (by decide)) ?_)))))))
 rintro v1 w1 ⟨wb, r0, rfl, hr0, hM1⟩
 have M1 : Mem _ _ [_, _, _] _ := M0.call0 hM1
 have hr0 : dF 39 r0 [] := hr0
 refine wq (cF [(0, .int _ _)] _ qY rfl rfl) rfl (wq (cF [(0, .int _ _)] _ qY rfl rfl) rfl (wq (cF [(0, .int _ _)] _ qY rfl rfl) rfl (wq (cF [(0, .int _ _)] _ qY rfl rfl) rfl (wq (cF [(0, .int _ _)] _ qY rfl rfl) rfl (cR [.agg (List.toArray _), .agg (List.toArray _), .agg (List.toArray _), .agg (List.toArray _), .agg (List.toArray _)] (wT.map OpRow.cells) rfl bFr M1 rfl rfl rfl rfl (dD rfl) (by decide) (fun b2 w2 M2 => ?_))))))
 have hlit8 := kB (T := 41) (sz := 15) (b := b2) (nn := 5) (wT.map OpRow.cells) (bHr _) rfl (by decide)
 refine bY aNd rfl rfl (oW _ (F.mem M2) (N.mem M2) _ r0 _ hr0 (M2.ownSeg 0 3) (M2.away 0 3 F (by simp)) (M2.away 0 3 N (by simp)) _ 5 5 wT ⟨(hlit8.rd M2 (aZ (i := 3) rfl)), aXg _⟩ (fun x hx => by rw [bDf x hx]; decide) (by decide) (hlit8.awayS M2 0 3 3 rfl rfl) (bQp bDf)) ?_
 rintro v3 w3 ⟨r2, q, rs, rfl, hr2, hq, hoR, hM3⟩
 have M3 : Mem _ _ ([_, _, _, _, _] ++ _) _ := M2.seg 0 3 hM3
 have hqn : (mD (jF [] (gH wT)) rs).length = q.n := hq.1
 rw [oL hoR.len, aAe] at hqn
 have hq5 : 5 = q.n := hqn
 obtain ⟨p0, hp0, hs0⟩ := oD (j := 0) (zs := jF [] (gH wT)) hoR.len (by rw [aAe]; rfl)
 obtain ⟨p1, hp1, hs1⟩ := oD (j := 1) (zs := jF [] (gH wT)) hoR.len (by rw [aAe]; rfl)
 obtain ⟨p2, hp2, hs2⟩ := oD (j := 2) (zs := jF [] (gH wT)) hoR.len (by rw [aAe]; rfl)
 obtain ⟨p3, hp3, hs3⟩ := oD (j := 3) (zs := jF [] (gH wT)) hoR.len (by rw [aAe]; rfl)
 obtain ⟨p4, hp4, hs4⟩ := oD (j := 4) (zs := jF [] (gH wT)) hoR.len (by rw [aAe]; rfl)
 have hb1 := hoR.row 1 p1 { jP with bytes := zJ [] } hp1 (by rw [aAe]; rfl)
 have hb8 : 8 = p1.n := by have h := hb1.1; rwa [List.length_map, bCm] at h
 refine eI rfl rfl (aB (aC (aE (aE (aA (dH rfl rfl (wq (cZ Tryz.underlying63 rfl) rfl (cY rfl rfl rfl rfl (oG 12 rfl (by omega) ?_)))))))))
 refine aB (aC (cJ rfl (aL (aC (aE (aA (dH rfl rfl (wq (bO (0) aCz rfl rfl rfl ((hq.rd M3 (aZ (i := 4) rfl)).below_len (hs0)) ((hq.rd M3 (aZ (i := 4) rfl)).someK (hs0))) rfl (wq (bG 0 xL (hq.rd M3 (aZ (i := 4) rfl)) (Nat.lt_of_le_of_lt (Nat.zero_le _) ((hq.rd M3 (aZ (i := 4) rfl)).below_len (hs0))) rfl) rfl ?_)))))))))
 refine wq (dX (o := 0) (.int _ _) tL (hq.rd M3 (aZ (i := 4) rfl)) (hs0) rfl rfl) rfl (cY rfl rfl rfl rfl (kH 17 rfl rfl (wq (aH (.bool true) rfl) rfl (dH rfl rfl (wq (bO (1) aCz rfl rfl rfl ((hq.rd M3 (aZ (i := 4) rfl)).below_len (hs1)) ((hq.rd M3 (aZ (i := 4) rfl)).someK (hs1))) rfl ?_)))))
 refine wq (bG 0 xL (hq.rd M3 (aZ (i := 4) rfl)) (Nat.lt_of_le_of_lt (Nat.zero_le _) ((hq.rd M3 (aZ (i := 4) rfl)).below_len (hs1))) rfl) rfl (wq (dX (o := 0) (.int _ _) tL (hq.rd M3 (aZ (i := 4) rfl)) (hs1) rfl rfl) rfl (cY rfl rfl rfl rfl (kH 23 rfl rfl (wq (bQ true (.bool true) rfl rfl) rfl ?_))))
 refine wq (aH (.bool true) rfl) rfl (dH rfl rfl (wq (bO (1) aCz rfl rfl rfl ((hq.rd M3 (aZ (i := 4) rfl)).below_len (hs1)) ((hq.rd M3 (aZ (i := 4) rfl)).someK (hs1))) rfl (wq (bG 1 aTt (hq.rd M3 (aZ (i := 4) rfl)) (Nat.lt_of_le_of_lt (Nat.zero_le _) ((hq.rd M3 (aZ (i := 4) rfl)).below_len (hs1))) rfl) rfl ?_)))
 refine wq (dX (o := 1) (.slice _ _ _) tY (hq.rd M3 (aZ (i := 4) rfl)) (hs1) rfl rfl) rfl (wq (cZ Tryz.underlying31 rfl) rfl (cY rfl rfl rfl rfl (kH 31 rfl (by omega) (wq (bQ true (.bool true) rfl rfl) rfl (wq (aH (.bool true) rfl) rfl ?_)))))
 refine dH rfl rfl (wq (bO (2) aCz rfl rfl rfl ((hq.rd M3 (aZ (i := 4) rfl)).below_len (hs2)) ((hq.rd M3 (aZ (i := 4) rfl)).someK (hs2))) rfl (wq (bG 0 xL (hq.rd M3 (aZ (i := 4) rfl)) (Nat.lt_of_le_of_lt (Nat.zero_le _) ((hq.rd M3 (aZ (i := 4) rfl)).below_len (hs2))) rfl) rfl ?_))
 refine wq (dX (o := 0) (.int _ _) tL (hq.rd M3 (aZ (i := 4) rfl)) (hs2) rfl rfl) rfl (cY rfl rfl rfl rfl (kH 38 rfl rfl (wq (bQ true (.bool true) rfl rfl) rfl (wq (aH (.bool true) rfl) rfl (dH rfl rfl ?_)))))
 refine wq (bO (3) aCz rfl rfl rfl ((hq.rd M3 (aZ (i := 4) rfl)).below_len (hs3)) ((hq.rd M3 (aZ (i := 4) rfl)).someK (hs3))) rfl (wq (bG 0 xL (hq.rd M3 (aZ (i := 4) rfl)) (Nat.lt_of_le_of_lt (Nat.zero_le _) ((hq.rd M3 (aZ (i := 4) rfl)).below_len (hs3))) rfl) rfl (wq (dX (o := 0) (.int _ _) tL (hq.rd M3 (aZ (i := 4) rfl)) (hs3) rfl rfl) rfl ?_))
 refine cY rfl rfl rfl rfl (kH 45 rfl rfl (wq (bQ true (.bool true) rfl rfl) rfl (wq (aH (.bool true) rfl) rfl (dH rfl rfl (wq (bO (4) aCz rfl rfl rfl ((hq.rd M3 (aZ (i := 4) rfl)).below_len (hs4)) ((hq.rd M3 (aZ (i := 4) rfl)).someK (hs4))) rfl ?_)))))
 refine wq (dI _ iL (hq.rd M3 (aZ (i := 4) rfl)) (hs4) rfl) rfl (aK 50 (.agg (dY jP p4).toArray) rfl (wq (cF [] _ sU rfl rfl) rfl (bY aSn rfl rfl (rR _ jP p4 fV (hoR.rd M3 (aBj aQs) hp4 (by rw [aAe]; rfl)) (Rd.nil _ _ _)) ?_)))
 rintro v4 w4 ⟨rfl, hb4⟩
 have M4 := M3.callB hb4
 refine wq (bQ true (.bool true) rfl rfl) rfl (wq (aJ (.bool true) rfl) rfl (aB (aC (aO (cG (.bool true) rfl ?_)))))
 exact ⟨rfl, M4.below⟩
theorem bQe : ∃ fs, OpT Tryz.prog 4 46 3 39 35 37 31 5 1 fs := ⟨_, Tryz.underlying46, by kernel_rfl, by kernel_rfl, by kernel_rfl, by kernel_rfl, by kernel_rfl, by kernel_rfl, by kernel_rfl, by kernel_rfl, by kernel_rfl, by kernel_rfl, by kernel_rfl, by kernel_rfl, gP⟩
end Go.Proofs.YtaoaknafiegfoaaGreatDoor
