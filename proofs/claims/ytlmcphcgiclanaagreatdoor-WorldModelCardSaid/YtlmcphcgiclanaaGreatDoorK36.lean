/- Part of the proof of the laws of this seat: P22, W22a, W22b, W22c, R22a, D22, Aw22, Op22. No conditions. -/
import Derived.Test.YtlmcphcgiclanaaGreatDoorK2
import Derived.Test.YtlmcphcgiclanaaGreatDoorK5
import Derived.Test.YtlmcphcgiclanaaGreatDoorK32
import Derived.Test.YtlmcphcgiclanaaGreatDoorK28
import Derived.Test.YtlmcphcgiclanaaGreatDoorK35
import Derived.Test.YtlmcphcgiclanaaGreatDoorK33
import Derived.Test.YtlmcphcgiclanaaGreatDoorK23
import Derived.Test.YtlmcphcgiclanaaGreatDoorK34
import Derived.Test.YtlmcphcgiclanaaGreatDoorK3
set_option linter.unusedVariables false
set_option linter.unusedSimpArgs false
set_option linter.unnecessarySimpa false
namespace Go.Proofs.YtlmcphcgiclanaaGreatDoor
open Go.Bil
open Go.RowKit (Below)
open Go.Proofs
set_option maxHeartbeats 8000000 in
theorem bAb (w : World) (b : Body) (hb : Okb b) (j : Int × Int) (hj1 : -2147483648 ≤ j.1 ∧ j.1 ≤ 2147483647) (hj2 : -2147483648 ≤ j.2 ∧ j.2 ≤ 2147483647) :
  Calls Tryz.prog 87 #[(.agg (aF b).toArray), .agg [.int .i32 j.1, .int .i32 j.2].toArray] w (fun ex w' => ∃ v, ex = .returned v ∧ (fun v w' => (∃ g : Bool, v = .tuple #[(.agg (aF (mW b j)).toArray), .bool g]) ∧ Below w.heap.size w w') v w') := by
 have hv := hb.v
 have hm := hb.m
 have hp1 := bBn hj1 hm
 have hp2 := bBn hj2 hm
 refine aI #[.cell 4 40, .tmp 5] 45 Tryz.func87 rfl Tryz.results87 Tryz.ntmps87 rfl ?_
 have M0 := Mem.refl w
 refine aE (aA (bP (.agg (List.toArray _)) M0 rfl rfl rfl (fun b1 w1 M1 => (bP (.agg (List.toArray _)) M1 rfl rfl rfl (fun b2 w2 M2 => (aV fJ M2 rfl rfl (fun b3 w3 M3 => (wq (aJ (.bool false) rfl) rfl (aB (aC (aE (aA ?_))))))))))))
 refine aV aRy M3 rfl rfl (fun b4 w4 M4 => (cZ 3 (.bool false) oL M4 rfl rfl rfl rfl rfl rfl (fun w5 M5 => (aB (aC (aE (aA (wq (aD 8 dP rfl) rfl (wq (aD 0 cQ rfl) rfl (wq (aM 0 (.int _ _) aR M5 rfl rfl rfl) rfl ?_))))))))))
 refine wq (aZ dO Tryz.underlying2 rfl (fC _ (by omega) (by omega))) rfl (wq (aD 0 cQ rfl) rfl (wq (aM 1 (.int _ _) aR M5 rfl rfl rfl) rfl (wq (aZ dO Tryz.underlying2 rfl (fC _ (by omega) (by omega))) rfl (wq (aD 4 eC rfl) rfl (wq (aM 0 (.int _ _) aR M5 rfl rfl rfl) rfl ?_)))))
 refine wq (aZ dO Tryz.underlying2 rfl (fC _ (by omega) (by omega))) rfl (wq (eS rfl rfl (by omega) (by omega)) rfl (wq (jH rfl rfl (by decide)) rfl (aK 20 (.int .i64 (j.1 * b.mass / 65536)) (iE (oO _)) (wq (aY rfl rfl (by omega) (by omega)) rfl (bC rfl rfl ?_)))))
 refine aB (aC (aE (aA (wq (aD 8 dP rfl) rfl (wq (aD 1 cK rfl) rfl (wq (aM 0 (.int _ _) aR M5 rfl rfl rfl) rfl (wq (aZ dO Tryz.underlying2 rfl (fC _ (by omega) (by omega))) rfl (wq (aD 1 cK rfl) rfl ?_))))))))
 refine wq (aM 1 (.int _ _) aR M5 rfl rfl rfl) rfl (wq (aZ dO Tryz.underlying2 rfl (fC _ (by omega) (by omega))) rfl (wq (aD 4 eC rfl) rfl (wq (aM 0 (.int _ _) aR M5 rfl rfl rfl) rfl (wq (aZ dO Tryz.underlying2 rfl (fC _ (by omega) (by omega))) rfl (wq (eS rfl rfl (by omega) (by omega)) rfl ?_)))))
 refine wq (jH rfl rfl (by decide)) rfl (aK 33 (.int .i64 (j.2 * b.mass / 65536)) (iE (oO _)) (wq (aY rfl rfl (by omega) (by omega)) rfl (bC rfl rfl (aB (aC (aE (aA (aO rfl rfl ?_))))))))
 refine cU [.pointer _] [[.pointer (some ⟨b4, 0, none⟩)]] rfl aFv M5 rfl rfl rfl rfl (dE rfl) (by decide) (fun b6 w6 M6 => ?_)
 have hlit36 := jT (T := 133) (sz := 1) (b := b6) (nn := 1) [[.pointer (some ⟨b4, 0, none⟩)]] (by simp) rfl (by decide)
 refine bZ aJw rfl rfl (mU _ (b.vx + j.1 * b.mass / 65536) 16777216 ⟨by decide, by decide⟩ b4 _ _ 1 (hlit36.rd M6 (bJ (i := 4) rfl)) (hlit36.awayB M6 4 3 rfl rfl rfl) (M6.ownSeg 3 1)) ?_
 rintro v7 w7 ⟨rfl, hM7⟩
 have M7 : Mem _ _ [_, _, _, _, _] _ := M6.seg 3 1 hM7
 refine aO rfl rfl (cU [.pointer _] [[.pointer (some ⟨b4, 0, none⟩)]] rfl aFv M7 rfl rfl rfl rfl (dE rfl) (by decide) (fun b8 w8 M8 => ?_))
 have hlit39 := jT (T := 133) (sz := 1) (b := b8) (nn := 1) [[.pointer (some ⟨b4, 0, none⟩)]] (by simp) rfl (by decide)
 refine bZ aJw rfl rfl (mU _ (b.vy + j.2 * b.mass / 65536) 16777216 ⟨by decide, by decide⟩ b4 _ _ 1 (hlit39.rd M8 (bJ (i := 5) rfl)) (hlit39.awayB M8 5 3 rfl rfl rfl) (M8.ownSeg 3 1)) ?_
 rintro v9 w9 ⟨rfl, hM9⟩
 have M9 : Mem _ _ [_, _, _, _, _, _] _ := M8.seg 3 1 hM9
 refine wq (cP [(0, .int _ _), (1, .int _ _)] _ eG rfl rfl) rfl (wq (aD 8 dP rfl) rfl (qP 0 _ bI M9 rfl rfl rfl rfl rfl (aT rfl) (Nat.le_of_ble_eq_true rfl) (fun w10 M10 => (aB (aC (aE (bR [(0, 1), (1, 1), (2, 2), (3, 0)] mixed rfl (by kernel_rfl) (fun w11 hb11 hh11 => ?_))))))))
 have M11 := M10.drew hb11 hh11
 refine bV rfl rfl rfl (aU 0 bK M11 rfl rfl rfl) (bV rfl rfl rfl (aM 3 (.bool _) oL M11 rfl rfl rfl) (dS [false, true] rfl (by kernel_rfl) (bG 2 _ bK M11 rfl rfl rfl rfl rfl (aT rfl) rfl (fun w12 M12 => ?_))))
 refine aB (aC ⟨(eD (bL rfl (aM 3 (.bool _) oL M12 rfl rfl rfl)) dT), ?_⟩)
 refine aX rfl rfl rfl (fun _ => aJ (.bool _) rfl) (bY (aC (aP (rS (v2 := .bool _) 2 bK M12 rfl rfl rfl rfl ?_))))
 exact ⟨⟨_, rfl⟩, M12.below⟩
set_option maxHeartbeats 8000000 in
theorem aCw (w : World) (b : Body) (hb : Okb b) (j : Int × Int) (hj1 : -2147483648 ≤ j.1 ∧ j.1 ≤ 2147483647) (hj2 : -2147483648 ≤ j.2 ∧ j.2 ≤ 2147483647) :
  Calls Tryz.prog 91 #[(.agg (aF b).toArray), .agg [.int .i32 j.1, .int .i32 j.2].toArray] w (fun ex w' => ∃ v, ex = .returned v ∧ (fun v w' => (∃ g : Bool, v = .tuple #[(.agg (aF (mW b j)).toArray), .bool g]) ∧ Below w.heap.size w w') v w') := by
 have hv := hb.v
 have hm := hb.m
 have hp1 := bBn hj1 hm
 have hp2 := bBn hj2 hm
 have hlx := eJ (b.vx + j.1 * b.mass / 65536) (l := 16777216) (by decide)
 have hly := eJ (b.vy + j.2 * b.mass / 65536) (l := 16777216) (by decide)
 refine aI #[.cell 4 40, .tmp 5] 57 Tryz.func91 rfl Tryz.results91 Tryz.ntmps91 rfl ?_
 have M0 := Mem.refl w
 refine aE (aA (bP (.agg (List.toArray _)) M0 rfl rfl rfl (fun b1 w1 M1 => (bP (.agg (List.toArray _)) M1 rfl rfl rfl (fun b2 w2 M2 => (aV fJ M2 rfl rfl (fun b3 w3 M3 => (wq (aJ (.bool false) rfl) rfl (aB (aC (aE ?_)))))))))))
 refine bR [(0, 0), (1, 0), (2, 1), (3, 0), (4, 0), (5, 1), (6, 0), (7, 0), (8, 1), (9, 0), (10, 0), (11, 2), (12, 0), (13, 0)] mixed rfl (by kernel_rfl) (fun w4 hb4 hh4 => ?_)
 have M4 := M3.drew hb4 hh4
 refine aX rfl rfl rfl (fun _ => aD 8 dP rfl) (aX rfl rfl rfl (fun _ => aD 0 cQ rfl) (bV rfl rfl rfl (aM 0 (.int _ _) aR M4 rfl rfl rfl) (aX rfl rfl rfl (fun _ => aZ dO Tryz.underlying2 rfl (fC _ (by omega) (by omega))) (aX rfl rfl rfl (fun _ => aD 0 cQ rfl) ?_))))
 refine bV rfl rfl rfl (aM 1 (.int _ _) aR M4 rfl rfl rfl) (aX rfl rfl rfl (fun _ => aZ dO Tryz.underlying2 rfl (fC _ (by omega) (by omega))) (aX rfl rfl rfl (fun _ => aD 4 eC rfl) (bV rfl rfl rfl (aM 0 (.int _ _) aR M4 rfl rfl rfl) (aX rfl rfl rfl (fun _ => aZ dO Tryz.underlying2 rfl (fC _ (by omega) (by omega))) ?_))))
 refine aX rfl rfl rfl (fun _ => eS rfl rfl (by omega) (by omega)) (dS [true, true, false] rfl (by kernel_rfl) (bZ nH rfl rfl (eT _ (j.1 * b.mass) 65536 (by decide) (by omega) (by omega)) ?_))
 rintro v5 w5 ⟨rfl, hb5⟩
 have M5 := M4.callB hb5
 refine aB (aC ⟨(eD (bL rfl (aM 0 (.int _ _) aR M5 rfl rfl rfl)) dT), ?_⟩)
 refine aX rfl rfl rfl (fun _ => aY rfl rfl (by omega) (by omega)) (lM rfl rfl rfl (bY (aC (aE (bR [(0, 0), (1, 0), (2, 1), (3, 0), (4, 0), (5, 1), (6, 0), (7, 0), (8, 1), (9, 0), (10, 0), (11, 2), (12, 0), (13, 0)] mixed rfl (by kernel_rfl) (fun w6 hb6 hh6 => ?_))))))
 have M6 := M5.drew hb6 hh6
 refine aX rfl rfl rfl (fun _ => aD 8 dP rfl) (aX rfl rfl rfl (fun _ => aD 1 cK rfl) (bV rfl rfl rfl (aM 0 (.int _ _) aR M6 rfl rfl rfl) (aX rfl rfl rfl (fun _ => aZ dO Tryz.underlying2 rfl (fC _ (by omega) (by omega))) (aX rfl rfl rfl (fun _ => aD 1 cK rfl) ?_))))
 refine bV rfl rfl rfl (aM 1 (.int _ _) aR M6 rfl rfl rfl) (aX rfl rfl rfl (fun _ => aZ dO Tryz.underlying2 rfl (fC _ (by omega) (by omega))) (aX rfl rfl rfl (fun _ => aD 4 eC rfl) (bV rfl rfl rfl (aM 0 (.int _ _) aR M6 rfl rfl rfl) (aX rfl rfl rfl (fun _ => aZ dO Tryz.underlying2 rfl (fC _ (by omega) (by omega))) ?_))))
 refine aX rfl rfl rfl (fun _ => eS rfl rfl (by omega) (by omega)) (dS [true, true, false] rfl (by kernel_rfl) (bZ nH rfl rfl (eT _ (j.2 * b.mass) 65536 (by decide) (by omega) (by omega)) ?_))
 rintro v7 w7 ⟨rfl, hb7⟩
 have M7 := M6.callB hb7
 refine aB (aC ⟨(eD (bL rfl (aM 0 (.int _ _) aR M7 rfl rfl rfl)) dT), ?_⟩)
 refine aX rfl rfl rfl (fun _ => aY rfl rfl (by omega) (by omega)) (lM rfl rfl rfl (bY (aC (aE (aA (aO rfl rfl (bZ aBs rfl rfl (jR _ (b.vx + j.1 * b.mass / 65536) 16777216 ⟨by decide, by decide⟩) ?_)))))))
 rintro v8 w8 ⟨rfl, hb8⟩
 have M8 := M7.callB hb8
 refine wq (aZ lK Tryz.underlying21 rfl (iP _ (by omega) (by omega))) rfl (aO rfl rfl (bZ aBs rfl rfl (jR _ (b.vy + j.2 * b.mass / 65536) 16777216 ⟨by decide, by decide⟩) ?_))
 rintro v9 w9 ⟨rfl, hb9⟩
 have M9 := M8.callB hb9
 refine wq (aZ lK Tryz.underlying21 rfl (iP _ (by omega) (by omega))) rfl (wq (cP [(0, .int _ _), (1, .int _ _)] _ eG rfl rfl) rfl (wq (aD 8 dP rfl) rfl (qP 0 _ bI M9 rfl rfl rfl rfl rfl (aT rfl) (Nat.le_of_ble_eq_true rfl) (fun w10 M10 => (aB (aC (aE (bR [(0, 1), (1, 0), (2, 0), (3, 1), (4, 0), (5, 0), (6, 0), (7, 0), (8, 0), (9, 0), (10, 1), (11, 0), (12, 0), (13, 0), (14, 0), (15, 2), (16, 0)] mixed rfl (by kernel_rfl) (fun w11 hb11 hh11 => ?_)))))))))
 have M11 := M10.drew hb11 hh11
 refine bV rfl rfl rfl (aU 0 bK M11 rfl rfl rfl) (aX rfl rfl rfl (fun _ => aD 8 dP rfl) (aX rfl rfl rfl (fun _ => aD 0 cQ rfl) (bV rfl rfl rfl (aM 0 (.int _ _) aR M11 rfl rfl rfl) (aX rfl rfl rfl (fun _ => aZ dO Tryz.underlying2 rfl (fC _ (by omega) (by omega))) ?_))))
 refine eF rfl rfl rfl (aX rfl rfl rfl (fun _ => cA (.bool (decide _)) rfl rfl rfl) (aX rfl rfl rfl (fun _ => aH (.bool (decide _)) rfl) ?_))
 refine aDy 49 rfl (fun g49 => ?_) (fun g49 => ?_)
 ·refine D_s rfl rfl rfl (D_s rfl rfl rfl (xJ rfl rfl rfl (D_s rfl rfl rfl (D_s rfl rfl rfl (D_s rfl rfl rfl ?_)))))
  refine aX rfl rfl rfl (fun _ => bM true (.bool true) rfl rfl) (dS [false, true, true] rfl (by kernel_rfl) (bG 2 _ bK M11 rfl rfl rfl rfl rfl (aT rfl) rfl (fun w12 M12 => ?_)))
  refine aB (aC ⟨(eD (.inr ⟨rfl, rfl⟩) dT), ?_⟩)
  refine aX rfl rfl rfl (fun _ => aJ (.bool true) rfl) (bY (aC (aP (rS (v2 := .bool true) 2 bK M12 rfl rfl rfl rfl ?_))))
  exact ⟨⟨_, rfl⟩, M12.below⟩
 ·refine aX rfl rfl rfl (fun _ => aD 8 dP rfl) (aX rfl rfl rfl (fun _ => aD 1 cK rfl) (bV rfl rfl rfl (aM 0 (.int _ _) aR M11 rfl rfl rfl) (aX rfl rfl rfl (fun _ => aZ dO Tryz.underlying2 rfl (fC _ (by omega) (by omega))) (eF rfl rfl rfl (aX rfl rfl rfl (fun _ => cA (.bool (decide _)) rfl rfl rfl) ?_)))))
  refine aX rfl rfl rfl (fun _ => bM false (.bool (decide _)) rfl rfl) (dS [false, true, true] rfl (by kernel_rfl) (bG 2 _ bK M11 rfl rfl rfl rfl rfl (aT rfl) rfl (fun w13 M13 => ?_)))
  refine aB (aC ⟨(eD (bL rfl (aM 0 (.int _ _) aR M13 rfl rfl rfl)) dT), ?_⟩)
  refine aX rfl rfl rfl (fun _ => aJ (.bool (decide _)) rfl) (bY (aC (aP (rS (v2 := .bool (decide _)) 2 bK M13 rfl rfl rfl rfl ?_))))
  exact ⟨⟨_, rfl⟩, M13.below⟩
set_option maxHeartbeats 4000000 in
theorem aCh (w : World) (b : Nat) :
  Calls Tryz.prog 65 #[.pointer (some ⟨b, 0, none⟩)] w (fun ex w' => ∃ v, ex = .returned v ∧ (fun v w' => v = .pointer (some ⟨b, 0, none⟩) ∧ Below w.heap.size w w') v w') := by
 refine aI #[.tmp 2] 8 Tryz.func65 rfl Tryz.results65 Tryz.ntmps65 rfl ?_
 have M0 := Mem.refl w
 refine aE (aA (wq (aJ (.pointer _) rfl) rfl (aB (aC (aE (aE (aA (wq (aH (.pointer _) rfl) rfl (wq (fP false Tryz.underlying63 rfl rfl) rfl (aB (aC ?_)))))))))))
 refine cM rfl (aL (aC (aE (aA (wq (aH (.pointer _) rfl) rfl (wq (bB rfl) rfl (wq (aD 0 vE rfl) rfl (wq (aJ (.pointer _) rfl) rfl ?_))))))))
 refine aB (aC (aP (cE (.pointer _) rfl ?_)))
 exact ⟨rfl, M0.below⟩
set_option maxHeartbeats 4000000 in
theorem aKm (w : World) :
  Calls Tryz.prog 65 #[.pointer none] w (fun ex w' => ∃ v, ex = .returned v ∧ (fun v w' => v = .pointer none ∧ Below w.heap.size w w') v w') := by
 refine aI #[.tmp 2] 8 Tryz.func65 rfl Tryz.results65 Tryz.ntmps65 rfl ?_
 have M0 := Mem.refl w
 refine aE (aA (wq (aJ (.pointer _) rfl) rfl (aB (aC (aE (aE (aA (wq (aH (.pointer _) rfl) rfl (wq (fP true Tryz.underlying63 rfl rfl) rfl (aB (aC ?_)))))))))))
 refine cC rfl (aE (aA (wq (aJ (.pointer _) rfl) rfl (aB (aC (aP (cH (cE (.pointer _) rfl ?_))))))))
 exact ⟨rfl, M0.below⟩
set_option maxHeartbeats 4000000 in
theorem aIu (w : World) (x : Body) :
  Calls Tryz.prog 32 #[.pointer none, (.agg (aF x).toArray)] w (fun ex w' => ∃ v, ex = .returned v ∧ (fun v w' => v = .int .i64 1 ∧ Below w.heap.size w w') v w') := by
 refine aI #[.tmp 4] 15 Tryz.func32 rfl Tryz.results32 Tryz.ntmps32 rfl ?_
 have M0 := Mem.refl w
 refine aE (aA (bP (.agg (List.toArray _)) M0 rfl rfl rfl (fun b1 w1 M1 => (bC rfl rfl (aB (aC (aE (aE (aA (wq (aH (.pointer _) rfl) rfl (bZ aPw rfl rfl (aKm _) ?_)))))))))))
 rintro v2 w2 ⟨rfl, hb2⟩
 have M2 := M1.callB hb2
 refine wq (aJ (.pointer _) rfl) rfl (aB (aC (aE (aA (wq (aH (.pointer _) rfl) rfl (wq (qC false Tryz.underlying107 rfl rfl) rfl (aB (aC (cM rfl ?_)))))))))
 refine aL (aC (aE (aA (bC rfl rfl (aB (aC (aP (cE (.int _ _) rfl ?_))))))))
 exact ⟨rfl, M2.below⟩
set_option maxHeartbeats 4000000 in
theorem aEy (w : World) :
  Calls Tryz.prog 31 #[.pointer none] w (fun ex w' => ∃ v, ex = .returned v ∧ (fun v w' => v = .slice none 0 0 ∧ Below w.heap.size w w') v w') := by
 refine aI #[.tmp 2] 10 Tryz.func31 rfl Tryz.results31 Tryz.ntmps31 rfl ?_
 have M0 := Mem.refl w
 refine aE (aA (eN rfl rfl (aB (aC (aE (aE (aA (wq (aH (.pointer _) rfl) rfl (wq (fP true Tryz.underlying63 rfl rfl) rfl (aB (aC ?_)))))))))))
 refine cC rfl (aE (aA (eN rfl rfl (aB (aC (aP (cH (cE (.slice _ _ _) rfl ?_))))))))
 exact ⟨rfl, M0.below⟩
set_option maxHeartbeats 4000000 in
theorem xT (w : World) (b : Nat) (r : StV) (vs : List Body) (hW : fT 40 r vs) (hO : Own [(some b, bc [.slice r.A r.n r.c, .map r.p] 56), r.er, r.em] w) (x : Body) (hx : InB x) :
  Calls Tryz.prog 32 #[.pointer (some ⟨b, 0, none⟩), (.agg (aF x).toArray)] w (fun ex w' => ∃ v, ex = .returned v ∧ (fun v w' => ∃ r' : StV, v = .int .i64 (pH vs x).2 ∧ fT 40 r' ((pH vs x).1) ∧ Mem w (cY [(some b, bc [.slice r.A r.n r.c, .map r.p] 56), r.er, r.em]) [(some b, bc [.slice r'.A r'.n r'.c, .map r'.p] 56), r'.er, r'.em] w') v w') := by
 obtain ⟨hG, m, hs, hR⟩ := hW
 refine aI #[.tmp 4] 15 Tryz.func32 rfl Tryz.results32 Tryz.ntmps32 rfl ?_
 have M0 := hO.mem
 refine aE (aA (bP (.agg (List.toArray _)) M0 rfl rfl rfl (fun b1 w1 M1 => (bC rfl rfl (aB (aC (aE (aE (aA (wq (aH (.pointer _) rfl) rfl (bZ aPw rfl rfl (aCh _ b) ?_)))))))))))
 rintro v2 w2 ⟨rfl, hb2⟩
 have M2 := M1.callB hb2
 refine wq (aJ (.pointer _) rfl) rfl (aB (aC (aE (aA (wq (aH (.pointer _) rfl) rfl (wq (qC true Tryz.underlying107 rfl rfl) rfl (aB (aC (cC rfl ?_)))))))))
 refine aE (bR [(0, 0), (1, 0), (2, 0), (3, 1), (4, 2), (5, 0)] mixed rfl (by kernel_rfl) (fun w3 hb3 hh3 => ?_))
 have M3 := M2.drew hb3 hh3
 refine aX rfl rfl rfl (fun _ => aH (.pointer _) rfl) (aX rfl rfl rfl (fun _ => bB rfl) (aX rfl rfl rfl (fun _ => aD 0 sQ rfl) (bV rfl rfl rfl (aU 3 bK M3 rfl rfl rfl) (dS [true] rfl (by kernel_rfl) (bZ bFg rfl rfl (aRb _ _ _ _ _ _ _ _ _ hs (M3.ownSeg 0 3) x) ?_)))))
 rintro v4 w4 ⟨rfl, A4, n4, c4, p4, er4, em4, hs4, hM4⟩
 have M4 : Mem _ _ [_, _, _, _] _ := M3.seg 0 3 hM4
 refine aB (aC ⟨dT, ?_⟩)
 refine lM rfl rfl rfl (bY (aC (aP (cH (cE (.int _ _) rfl ?_)))))
 obtain ⟨q1, q2⟩ := hR.add x
 exact ⟨⟨A4, n4, c4, p4, er4, em4⟩, by rw [q2], aAo hs4 q1 (bCt (hG.inm hR) hx), M4.keep [true, true, true, false]⟩
set_option maxHeartbeats 4000000 in
theorem vO (w : World) (b : Nat) (r : StV) (vs : List Body) (hW : fT 40 r vs) (hO : Own [(some b, bc [.slice r.A r.n r.c, .map r.p] 56), r.er, r.em] w) (key : Int) :
  Calls Tryz.prog 58 #[.pointer (some ⟨b, 0, none⟩), .int .u32 key] w (fun ex w' => ∃ v, ex = .returned v ∧ (fun v w' => ∃ r' : StV, v = .int .i64 (iV vs key).2 ∧ fT 40 r' ((iV vs key).1) ∧ Mem w (cY [(some b, bc [.slice r.A r.n r.c, .map r.p] 56), r.er, r.em]) [(some b, bc [.slice r'.A r'.n r'.c, .map r'.p] 56), r'.er, r'.em] w') v w') := by
 obtain ⟨hG, m, hs, hR⟩ := hW
 refine aI #[.tmp 4] 15 Tryz.func58 rfl Tryz.results58 Tryz.ntmps58 rfl ?_
 have M0 := hO.mem
 refine aE (aA (bC rfl rfl (aB (aC (aE (aE (aA (wq (aH (.pointer _) rfl) rfl (bZ aPw rfl rfl (aCh _ b) ?_)))))))))
 rintro v1 w1 ⟨rfl, hb1⟩
 have M1 := M0.callB hb1
 refine wq (aJ (.pointer _) rfl) rfl (aB (aC (aE (aA (wq (aH (.pointer _) rfl) rfl (wq (qC true Tryz.underlying107 rfl rfl) rfl (aB (aC (cC rfl ?_)))))))))
 refine aE (aA (wq (aH (.pointer _) rfl) rfl (wq (bB rfl) rfl (wq (aD 0 sQ rfl) rfl (aO rfl rfl (bZ bMi rfl rfl (aNs _ _ _ _ _ _ _ _ _ hs (M1.ownSeg 0 3) key) ?_))))))
 rintro v2 w2 ⟨rfl, A2, n2, c2, p2, er2, em2, hs2, hM2⟩
 have M2 : Mem _ _ [_, _, _] _ := M1.seg 0 3 hM2
 refine bC rfl rfl (aB (aC (aP (cH (cE (.int _ _) rfl ?_)))))
 obtain ⟨q1, q2⟩ := hR.remove key
 exact ⟨⟨A2, n2, c2, p2, er2, em2⟩, by rw [q2], aAo hs2 q1 (aOz hs.keys (hG.inm hR)), M2.keep [true, true, true]⟩
set_option maxHeartbeats 4000000 in
theorem xD (w : World) (b : Nat) (r : StV) (vs : List Body) (hW : fT 40 r vs) (hO : Own [(some b, bc [.slice r.A r.n r.c, .map r.p] 56), r.er, r.em] w) (key : Int) :
  Calls Tryz.prog 37 #[.pointer (some ⟨b, 0, none⟩), .int .u32 key] w (fun ex w' => ∃ v, ex = .returned v ∧ (fun v w' => v = .tuple #[(.agg (aF (mR vs key).body).toArray), .int .i64 (mR vs key).err] ∧ Mem w (cY [(some b, bc [.slice r.A r.n r.c, .map r.p] 56), r.er, r.em]) [(some b, bc [.slice r.A r.n r.c, .map r.p] 56), r.er, r.em] w') v w') := by
 obtain ⟨hG, m, hs, hR⟩ := hW
 refine aI #[.cell 4 40, .tmp 5] 19 Tryz.func37 rfl Tryz.results37 Tryz.ntmps37 rfl ?_
 have M0 := hO.mem
 refine aE (aA (aV fJ M0 rfl rfl (fun b1 w1 M1 => (bC rfl rfl (aB (aC (aE (aE (aA (wq (aH (.pointer _) rfl) rfl (bZ aPw rfl rfl (aCh _ b) ?_)))))))))))
 rintro v2 w2 ⟨rfl, hb2⟩
 have M2 := M1.callB hb2
 refine wq (aJ (.pointer _) rfl) rfl (aB (aC (aE (aA (wq (aH (.pointer _) rfl) rfl (wq (qC true Tryz.underlying107 rfl rfl) rfl (aB (aC (cC rfl ?_)))))))))
 refine aE (aA (wq (aH (.pointer _) rfl) rfl (wq (bB rfl) rfl (wq (aD 0 sQ rfl) rfl (aO rfl rfl (bZ bKu rfl rfl (bDg _ _ _ _ _ _ _ _ _ hs (M2.ownSeg 0 3) key) ?_))))))
 rintro v3 w3 ⟨⟨x3, rfl, hx3⟩, hM3⟩
 have M3 : Mem _ _ [_, _, _, _] _ := M2.seg 0 3 hM3
 have hge := bCz hR key
 obtain rfl : x3 = (mR vs key).body := by rw [hx3, hge]
 have hge2 : (aCy m key).2 = (mR vs key).err := by rw [hge]
 refine wq (bO (.agg (List.toArray _)) rfl rfl) rfl (wq (bO (.int _ _) rfl rfl) rfl (aK 17 (.int .i64 (mR vs key).err) (iE hge2) (bG 3 _ bK M3 rfl rfl rfl rfl rfl (aT rfl) rfl (fun w4 M4 => (bC rfl rfl (aB (aC (aP (cH ?_)))))))))
 refine rS (v2 := .int _ _) 3 bK M4 rfl rfl rfl rfl ?_
 exact ⟨rfl, M4.keep [true, true, true, false]⟩
set_option maxHeartbeats 4000000 in
theorem oD (w : World) (b : Nat) (r : StV) (vs : List Body) (hW : fT 40 r vs) (hO : Own [(some b, bc [.slice r.A r.n r.c, .map r.p] 56), r.er, r.em] w) :
  Calls Tryz.prog 31 #[.pointer (some ⟨b, 0, none⟩)] w (fun ex w' => ∃ v, ex = .returned v ∧ (fun v w' => ∃ q : Row, v = .slice q.A q.n q.c ∧ bH 40 10 q.A q.n q.c ((vs).map aF) q.e ∧ Mem w (cY [(some b, bc [.slice r.A r.n r.c, .map r.p] 56), r.er, r.em]) [(some b, bc [.slice r.A r.n r.c, .map r.p] 56), r.er, r.em, q.e] w') v w') := by
 have hW' := hW
 obtain ⟨hG, m, hs, hR⟩ := hW
 refine aI #[.tmp 2] 10 Tryz.func31 rfl Tryz.results31 Tryz.ntmps31 rfl ?_
 have M0 := hO.mem
 refine aE (aA (eN rfl rfl (aB (aC (aE (aE (aA (wq (aH (.pointer _) rfl) rfl (wq (fP false Tryz.underlying63 rfl rfl) rfl (aB (aC ?_)))))))))))
 refine cM rfl (aL (aC (aE (aA (wq (aH (.pointer _) rfl) rfl (wq (bB rfl) rfl (wq (aD 0 vE rfl) rfl (wq (aD 0 sQ rfl) rfl ?_))))))))
 refine bZ bLo rfl rfl (aOp _ _ _ _ _ _ _ _ _ hs (M0.ownSeg 0 3)) ?_
 rintro v1 w1 ⟨A1, n1, c1, e1, rfl, hR1, hM1⟩
 have M1 : Mem _ _ [_, _, _, _] _ := M0.seg 0 3 hM1
 rw [hR.eq] at hR1
 refine eN rfl rfl (aB (aC (aP (cE (.slice _ _ _) rfl ?_))))
 exact ⟨⟨A1, n1, c1, e1⟩, rfl, hR1, M1⟩
set_option maxHeartbeats 4000000 in
theorem rL (w : World) (b : Nat) (r : StV) (vs : List Body) (hW : fT 40 r vs) (hO : Own [(some b, bc [.slice r.A r.n r.c, .map r.p] 56), r.er, r.em] w) :
  Calls Tryz.prog 34 #[.pointer (some ⟨b, 0, none⟩)] w (fun ex w' => ∃ v, ex = .returned v ∧ (fun v w' => ∃ q : Row, v = .slice q.A q.n q.c ∧ bH 5 1 q.A q.n q.c ((aJe vs).map bQ) q.e ∧ Mem w (cY [(some b, bc [.slice r.A r.n r.c, .map r.p] 56), r.er, r.em]) [(some b, bc [.slice r.A r.n r.c, .map r.p] 56), r.er, r.em, q.e] w') v w') := by
 have hW' := hW
 obtain ⟨hG, m, hs, hR⟩ := hW
 refine aI #[.tmp 2] 14 Tryz.func34 rfl Tryz.results34 Tryz.ntmps34 rfl ?_
 have M0 := hO.mem
 refine aE (aA (eN rfl rfl (aB (aC (aE (aE (aA (wq (aH (.pointer _) rfl) rfl (wq (fP false Tryz.underlying63 rfl rfl) rfl (aB (aC ?_)))))))))))
 refine cM rfl (aL (aC (aE (aA (wq (aH (.pointer _) rfl) rfl (bZ aGv rfl rfl (oD _ _ r _ hW' (M0.ownSeg 0 3)) ?_))))))
 rintro v1 w1 ⟨q, rfl, hq, hM1⟩
 have M1 : Mem _ _ [_, _, _, _] _ := M0.seg 0 3 hM1
 have hqn : vs.length = q.n := by simpa using hq.1
 have hvl := hG.len
 refine bZ bKx rfl rfl (aIk _ _ _ _ vs (hq.rd M1 (bJ (i := 3) rfl)) (by omega) hG.chk hG.inb) ?_
 rintro v2 w2 ⟨z, rfl, hz, hM2⟩
 have M2 : Mem _ _ [_, _, _, _, _] _ := M1.call0 hM2
 refine wq (aH (.tuple (List.toArray _)) rfl) rfl (wq (bO (.slice _ _ _) rfl rfl) rfl (wq (bO (.int _ _) rfl rfl) rfl (eN rfl rfl (bC rfl rfl (aB (aC (aE (aA ?_))))))))
 refine dN rfl rfl (eN rfl rfl (aB (aC (aP (cE (.slice _ _ _) rfl ?_)))))
 exact ⟨z, rfl, hz, M2.keep [true, true, true, false, true]⟩
set_option maxHeartbeats 8000000 in
theorem uD (w : World) (b : Nat) (r : StV) (vs : List Body) (hW : fT 40 r vs) (hO : Own [(some b, bc [.slice r.A r.n r.c, .map r.p] 56), r.er, r.em] w) (key : Int) (j : Int × Int) (hj1 : -2147483648 ≤ j.1 ∧ j.1 ≤ 2147483647) (hj2 : -2147483648 ≤ j.2 ∧ j.2 ≤ 2147483647) :
  Calls Tryz.prog 56 #[.pointer (some ⟨b, 0, none⟩), .int .u32 key, .agg [.int .i32 j.1, .int .i32 j.2].toArray] w (fun ex w' => ∃ v, ex = .returned v ∧ (fun v w' => ∃ r' : StV, v = .int .i64 (rE vs key j).2 ∧ fT 40 r' ((rE vs key j).1) ∧ Mem w (cY [(some b, bc [.slice r.A r.n r.c, .map r.p] 56), r.er, r.em]) [(some b, bc [.slice r'.A r'.n r'.c, .map r'.p] 56), r'.er, r'.em] w') v w') := by
 have hW' := hW
 obtain ⟨hG, m, hs, hR⟩ := hW
 refine aI #[.tmp 6] 30 Tryz.func56 rfl Tryz.results56 Tryz.ntmps56 rfl ?_
 have M0 := hO.mem
 refine aE (aA (bP (.agg (List.toArray _)) M0 rfl rfl rfl (fun b1 w1 M1 => (bC rfl rfl (aB (aC (aE (aA (wq (aH (.pointer _) rfl) rfl (aO rfl rfl ?_))))))))))
 refine bZ aZz rfl rfl (xD _ _ r vs hW' (M1.ownSeg 0 3) key) ?_
 rintro v2 w2 ⟨rfl, hM2⟩
 have M2 : Mem _ _ [_, _, _, _] _ := M1.seg 0 3 hM2
 refine wq (aH (.tuple (List.toArray _)) rfl) rfl (wq (bO (.agg (List.toArray _)) rfl rfl) rfl (wq (bO (.int _ _) rfl rfl) rfl (aV fJ M2 rfl rfl (fun b3 w3 M3 => (bG 4 _ bK M3 rfl rfl rfl rfl rfl (aT rfl) rfl (fun w4 M4 => (bC rfl rfl ?_)))))))
 refine aB (aC (aE (aE (aA (aO rfl rfl (cX rfl rfl rfl rfl (aB (aC ?_))))))))
 refine aS rfl (fun h16 => ?_) (fun h16 => ?_)
 ·refine aE (aA (aO rfl rfl (bC rfl rfl (aB (aC (aP (cH (cE (.int _ _) rfl ?_))))))))
  have hf : dG key vs < 0 := Decidable.byContradiction fun h => h16 (by unfold mR; rw [if_neg h]; rfl)
  exact ⟨r, by rw [wV j hf]; unfold mR; rw [if_pos hf], by rw [wV j hf]; exact hW', M4.keep [true, true, true, false, false]⟩
 ·have hf : ¬ dG key vs < 0 := fun h => h16 (by unfold mR; rw [if_pos h]; decide)
  obtain ⟨i, bb, hbi, _, hfi⟩ := (eI key vs).resolve_left (fun h => hf (by omega))
  have hgb : (mR vs key).body = bb := by unfold mR; rw [if_neg hf]; exact sK hfi hbi
  obtain ⟨z1, z2, z3, z4⟩ := bCr hR hG j hfi hbi
  have hbo := hG.okb bb (List.mem_of_getElem? hbi)
  refine aL (aC (aE (aA (wq (aU 4 bK M4 rfl rfl rfl) rfl (aK 19 ((.agg (aF bb).toArray)) (congrArg (fun x => Value.agg (aF x).toArray) hgb) (wq (aU 3 bI M4 rfl rfl rfl) rfl (bZ bMh rfl rfl (bAb _ bb hbo j hj1 hj2) ?_)))))))
  rintro v5 w5 ⟨⟨gg, rfl⟩, hb5⟩
  have M5 := M4.callB hb5
  refine wq (aH (.tuple (List.toArray _)) rfl) rfl (wq (bO (.agg (List.toArray _)) rfl rfl) rfl (wq (bO (.bool _) rfl rfl) rfl (bG 4 _ bK M5 rfl rfl rfl rfl rfl (aT rfl) rfl (fun w6 M6 => (aB (aC (aE (bR [(0, 0), (1, 0), (2, 0), (3, 0), (4, 1), (5, 2), (6, 0)] mixed rfl (by kernel_rfl) (fun w7 hb7 hh7 => ?_)))))))))
  have M7 := M6.drew hb7 hh7
  refine aX rfl rfl rfl (fun _ => aH (.pointer _) rfl) (aX rfl rfl rfl (fun _ => bB rfl) (aX rfl rfl rfl (fun _ => aD 0 vE rfl) (aX rfl rfl rfl (fun _ => aD 0 sQ rfl) (bV rfl rfl rfl (aU 4 bK M7 rfl rfl rfl) (dS [true] rfl (by kernel_rfl) ?_)))))
  refine bZ bLw rfl rfl (bDa _ _ _ _ _ _ _ _ _ hs (M7.ownSeg 0 3) (mW bb j)) ?_
  rintro v8 w8 ⟨rfl, A8, n8, c8, p8, er8, em8, hs8, hM8⟩
  have M8 : Mem _ _ [_, _, _, _, _] _ := M7.seg 0 3 hM8
  refine aB (aC ⟨dT, ?_⟩)
  refine lM rfl rfl rfl (bY (aC (aP (cE (.int _ _) rfl ?_))))
  exact ⟨⟨A8, n8, c8, p8, er8, em8⟩, by rw [z3, z2], aAo hs8 z1 (bEc (hG.inm hR) (bCy (hG.inb bb (List.mem_of_getElem? hbi)) j)), M8.keep [true, true, true, false, false]⟩
set_option maxHeartbeats 8000000 in
theorem tZ (w : World) (b : Nat) (r : StV) (vs : List Body) (hW : fT 40 r vs) (hO : Own [(some b, bc [.slice r.A r.n r.c, .map r.p] 56), r.er, r.em] w) (A : Option Addr) (n c : Nat) (xs : List Body) (RA : Rd w 10 A n (xs.map aF)) (hX : GoodV xs) (hdA : 0 < n → ∀ q off, A = some ⟨q, off, none⟩ → q ∉ cY [(some b, bc [.slice r.A r.n r.c, .map r.p] 56), r.er, r.em]) :
  Calls Tryz.prog 69 #[.pointer (some ⟨b, 0, none⟩), .slice A n c] w (fun ex w' => ∃ v, ex = .returned v ∧ (fun v w' => ∃ r' : StV, v = .tuple #[] ∧ fT 40 r' (xs) ∧ Mem w (cY [(some b, bc [.slice r.A r.n r.c, .map r.p] 56), r.er, r.em]) [(some b, bc [.slice r'.A r'.n r'.c, .map r'.p] 56), r'.er, r'.em] w') v w') := by
 have hlen : xs.length = n := by simpa using RA.len
 have hbd := RA.bound
 have hxl := hX.len
 refine aI #[] 23 Tryz.func69 rfl Tryz.results69 Tryz.ntmps69 rfl ?_
 have M0 := hO.mem
 refine aE (aA (wq (aH (.pointer _) rfl) rfl (wq (cP [] _ aZw rfl rfl) rfl (wq (bB rfl) rfl (wq (aD 0 vE rfl) rfl (bG 0 _ bLy M0 rfl rfl rfl rfl rfl (aT rfl) rfl (fun w1 M1 => ?_)))))))
 refine aB (aC (aE (aA ?_)))
 have M2 : Mem _ _ [_, _, _] _ := (((M1.keep [true, false, false]).dummy default).dummy default)
 refine dN rfl rfl (wq (dB Tryz.underlying22 rfl) rfl (aO rfl rfl (aB (aC (aQ (dQ (σ := Nat × StV) [0, 10, 11] (fun (k, r2) => [(12, .int .i64 (k : Int))]) (fun (k, r2) w' => (k ≤ n ∧ StoreIs 40 r2.A r2.n r2.c r2.p r2.er r2.em (xs.take k)) ∧ Mem w (cY [(some b, bc [.slice r.A r.n r.c, .map r.p] 56), r.er, r.em]) [(some b, bc [.slice r2.A r2.n r2.c, .map r2.p] 56), r2.er, r2.em] w') (fun (k, r2) => n - k) (0, ⟨none, 0, 0, none, (none, default), (none, default)⟩) (bA rfl dX) (⟨⟨by omega, (StoreIs.nil 40 default default)⟩, M2⟩) ?_))))))
 rintro ⟨k, r2⟩ ρ3 w3 ⟨⟨hk, hr⟩, hM3⟩
 refine aE (aA (cX rfl rfl rfl rfl (aB (aC (aE ?_)))))
 refine aS rfl (fun h13 => ?_) (fun h13 => ?_)
 ·obtain ⟨xb, hxb⟩ := cT (xs := xs) (k := k) hlen (by omega)
  refine aL (aC (aE (aQ (aE (aA (wq (bN (k) dF rfl rfl rfl ((RA.memY hM3 hdA).below_len (aG aF hxb)) ((RA.memY hM3 hdA).someK (aG aF hxb))) rfl (wq (dJ _ bK (RA.memY hM3 hdA) (aG aF hxb) rfl) rfl (aV fJ hM3 rfl rfl (fun b4 w4 M4 => ?_)))))))))
  refine bG 3 _ bK M4 rfl rfl rfl rfl rfl (aT rfl) rfl (fun w5 M5 => (aB (aC (bR [(0, 0), (1, 0), (2, 0), (3, 0), (4, 1), (5, 2)] mixed rfl (by kernel_rfl) (fun w6 hb6 hh6 => ?_)))))
  have M6 := M5.drew hb6 hh6
  refine aX rfl rfl rfl (fun _ => aH (.pointer _) rfl) (aX rfl rfl rfl (fun _ => bB rfl) (aX rfl rfl rfl (fun _ => aD 0 vE rfl) (aX rfl rfl rfl (fun _ => aD 0 sQ rfl) (bV rfl rfl rfl (aU 3 bK M6 rfl rfl rfl) (dS [true] rfl (by kernel_rfl) ?_)))))
  refine bZ bFg rfl rfl (aRb _ _ _ _ _ _ _ _ _ hr (M6.ownSeg 0 3) xb) ?_
  rintro v7 w7 ⟨rfl, A7, n7, c7, p7, er7, em7, hs7, hM7⟩
  have M7 : Mem _ _ [_, _, _, _] _ := M6.seg 0 3 hM7
  refine aB (aC ⟨dT, ?_⟩)
  refine bY (cO (aC (aA (wq (aY rfl rfl (by omega) (by omega)) rfl (aO rfl rfl (aB ?_))))))
  refine cD (k + 1, ⟨A7, n7, c7, p7, er7, em7⟩) (bA rfl dX) (cL rfl (cL rfl (cL rfl gO))) ?_ ?_
  ·exact ⟨⟨by omega, by rw [← aKz hX (k + 1) (by omega), aBw hxb, aKz hX k (by omega)]; exact hs7⟩, M7.keep [true, true, true, false]⟩
  ·(show n - (k + 1) < n - k; omega)
 ·obtain rfl : k = n := by omega
  rw [List.take_of_length_le (by omega)] at hr
  refine cV (dD (dK (eO (kR ?_))))
  exact ⟨r2, rfl, ⟨hX, xs, hr, aZv hX.s⟩, hM3⟩
set_option maxHeartbeats 8000000 in
theorem aDk (w : World) (F : Rd w 2 (some ⟨0, 0, none⟩) 1 [[.int .u32 73856093, .int .u32 19349663]]) (N : Rd w 4 (some ⟨3, 0, none⟩) 1 [eQ lG]) (b : Nat) (r : StV) (vs : List Body) (hW : fT 40 r vs) (hO : Own [(some b, bc [.slice r.A r.n r.c, .map r.p] 56), r.er, r.em] w) (hdF : 0 < 1 → ∀ q off, (some ⟨0, 0, none⟩ : Option Addr) = some ⟨q, off, none⟩ → q ∉ cY [(some b, bc [.slice r.A r.n r.c, .map r.p] 56), r.er, r.em]) (hdN : 0 < 1 → ∀ q off, (some ⟨3, 0, none⟩ : Option Addr) = some ⟨q, off, none⟩ → q ∉ cY [(some b, bc [.slice r.A r.n r.c, .map r.p] 56), r.er, r.em]) :
  Calls Tryz.prog 57 #[.pointer (some ⟨b, 0, none⟩)] w (fun ex w' => ∃ v, ex = .returned v ∧ (fun v w' => ∃ (r' : StV) (t : Nat), v = .agg [.int .i64 (t : Int), .int .i64 ((lL vs).length : Int), .bool (uH vs)].toArray ∧ fT 40 r' (rM vs) ∧ Mem w (cY [(some b, bc [.slice r.A r.n r.c, .map r.p] 56), r.er, r.em]) [(some b, bc [.slice r'.A r'.n r'.c, .map r'.p] 56), r'.er, r'.em] w') v w') := by
 have hW' := hW
 obtain ⟨hG, m, hs, hR⟩ := hW
 have hvl := hG.len
 refine aI #[.cell 2 27] 18 Tryz.func57 rfl Tryz.results57 Tryz.ntmps57 rfl ?_
 have M0 := hO.mem
 refine aE (aA (aV aEd M0 rfl rfl (fun b1 w1 M1 => (aB (aC (aE (aE (aA (wq (aH (.pointer _) rfl) rfl (wq (fP false Tryz.underlying63 rfl rfl) rfl (aB (aC ?_))))))))))))
 refine cM rfl (aL (aC (aE (aA (wq (aH (.pointer _) rfl) rfl (bZ aGv rfl rfl (oD _ _ r _ hW' (M1.ownSeg 0 3)) ?_))))))
 rintro v2 w2 ⟨q, rfl, hq, hM2⟩
 have M2 : Mem _ _ [_, _, _, _, _] _ := M1.seg 0 3 hM2
 have hqn : vs.length = q.n := by simpa using hq.1
 refine bZ bLx rfl rfl (aUu _ (F.memY M2 hdF) (N.memY M2 hdN) _ _ _ vs (hq.rd M2 (bJ (i := 4) rfl)) hG.okb hG.s (by omega)) ?_
 rintro v3 w3 ⟨ra, ta, rfl, h1ta, h2ta, hra, hM3⟩
 have M3 : Mem _ _ [_, _, _, _, _, _] _ := M2.call0 hM3
 refine wq (aH (.tuple (List.toArray _)) rfl) rfl (wq (bO (.slice _ _ _) rfl rfl) rfl (wq (bO (.agg (List.toArray _)) rfl rfl) rfl (aV aEd M3 rfl rfl (fun b4 w4 M4 => (eN rfl rfl (bG 6 _ wE M4 rfl rfl rfl rfl rfl (aT rfl) rfl (fun w5 M5 => ?_)))))))
 refine aB (aC (aE (aA (wq (aH (.pointer _) rfl) rfl (dN rfl rfl (bZ bEl rfl rfl (tZ _ _ r _ hW' (M5.ownSeg 0 3) ra.A ra.n ra.c (rM vs) (hra.rd M5 (bJ (i := 5) rfl)) hG.step (hra.awayS M5 0 3 5 rfl rfl)) ?_))))))
 rintro v6 w6 ⟨r2, rfl, hw2, hM6⟩
 have M6 : Mem _ _ [_, _, _, _, _, _, _] _ := M5.seg 0 3 hM6
 refine aB (aC (aE (aA (wq (aU 6 wE M6 rfl rfl rfl) rfl (bG 3 _ wE M6 rfl rfl rfl rfl rfl (aT rfl) rfl (fun w7 M7 => (aB (aC (aP (eX 3 wE M7 rfl rfl rfl ?_))))))))))
 exact ⟨r2, ta, rfl, hw2, M7.keep [true, true, true, false, false, false, false]⟩
set_option maxHeartbeats 8000000 in
theorem uE (w : World) (b : Nat) (r : StV) (vs : List Body) (hW : fT 40 r vs) (hO : Own [(some b, bc [.slice r.A r.n r.c, .map r.p] 56), r.er, r.em] w) (BA : Option Addr) (nn cc : Nat) (ls : List Int) (RS : Rd w 1 BA nn (ls.map bQ)) (hB : lW ls) (hcap : nn ≤ cc) (hnn : nn ≤ 1000000) (hdB : 0 < nn → ∀ q off, BA = some ⟨q, off, none⟩ → q ∉ cY [(some b, bc [.slice r.A r.n r.c, .map r.p] 56), r.er, r.em]) :
  Calls Tryz.prog 35 #[.pointer (some ⟨b, 0, none⟩), .slice BA nn cc] w (fun ex w' => ∃ v, ex = .returned v ∧ (fun v w' => ∃ r' : StV, v = .int .i64 (nM ls).2 ∧ fT 40 r' (wL vs ls) ∧ Mem w (cY [(some b, bc [.slice r.A r.n r.c, .map r.p] 56), r.er, r.em]) [(some b, bc [.slice r'.A r'.n r'.c, .map r'.p] 56), r'.er, r'.em] w') v w') := by
 have hW' := hW
 obtain ⟨hG, m, hs, hR⟩ := hW
 have hlen : ls.length = nn := by simpa using RS.len
 refine aI #[.tmp 4] 20 Tryz.func35 rfl Tryz.results35 Tryz.ntmps35 rfl ?_
 have M0 := hO.mem
 refine aE (aA (bC rfl rfl (aB (aC (aE (aE (aA (wq (aH (.pointer _) rfl) rfl (wq (fP false Tryz.underlying63 rfl rfl) rfl (aB (aC ?_)))))))))))
 refine cM rfl (aL (aC (aE (aA (dN rfl rfl (bZ bMl rfl rfl (aIa _ BA nn cc ls (RS.memY M0 hdB) hB hcap (by omega)) ?_))))))
 rintro v1 w1 ⟨q, rfl, hq, hM1⟩
 have M1 : Mem _ _ [_, _, _, _] _ := M0.call0 hM1
 refine wq (aH (.tuple (List.toArray _)) rfl) rfl (wq (bO (.slice _ _ _) rfl rfl) rfl (wq (bO (.int _ _) rfl rfl) rfl (eN rfl rfl (bC rfl rfl (aB (aC (aE (aE (aA ?_)))))))))
 refine aO rfl rfl (cX rfl rfl rfl rfl (aB (aC ?_)))
 refine aS rfl (fun h15 => ?_) (fun h15 => ?_)
 ·refine aA (wq (aH (.pointer _) rfl) rfl (dN rfl rfl (bZ bEl rfl rfl (tZ _ _ r _ hW' (M1.ownSeg 0 3) q.A q.n q.c (nM ls).1 (hq.rd M1 (bJ (i := 3) rfl)) (GoodV.dec hB (by omega) h15) (hq.awayS M1 0 3 3 rfl rfl)) ?_)))
  rintro v2 w2 ⟨r2, rfl, hw2, hM2⟩
  have M2 : Mem _ _ [_, _, _, _] _ := M1.seg 0 3 hM2
  refine aB (aC (aE (aA (aO rfl rfl (bC rfl rfl (aB (aC (aP (cE (.int _ _) rfl ?_)))))))))
  exact ⟨r2, rfl, by unfold wL; rw [if_pos h15]; exact hw2, M2.keep [true, true, true, false]⟩
 ·refine aL (aC (aE (aA (aO rfl rfl (bC rfl rfl (aB (aC (aP (cE (.int _ _) rfl ?_)))))))))
  exact ⟨r, rfl, by unfold wL; rw [if_neg h15]; exact hW', M1.keep [true, true, true, false]⟩
set_option maxHeartbeats 8000000 in
theorem aEm (w : World) (q0 : Row) (s : List Body) (hq0 : bH 40 10 q0.A q0.n q0.c ((s).map aF) q0.e) (hG : GoodV s) (hO : Own [q0.e] w) (key : Int) (j : Int × Int) (hj1 : -2147483648 ≤ j.1 ∧ j.1 ≤ 2147483647) (hj2 : -2147483648 ≤ j.2 ∧ j.2 ≤ 2147483647) :
  Calls Tryz.prog 61 #[.slice q0.A q0.n q0.c, .int .u32 key, .agg [.int .i32 j.1, .int .i32 j.2].toArray] w (fun ex w' => ∃ v, ex = .returned v ∧ (fun v w' => ∃ q : Row, v = .tuple #[.slice q.A q.n q.c, .int .i64 (rE s key j).2] ∧ bH 40 10 q.A q.n q.c (((rE s key j).1).map aF) q.e ∧ Mem w (cY [q0.e]) [q.e] w') v w') := by
 have hlen : s.length = q0.n := by simpa using hq0.1
 have hsl := hG.len
 refine aI #[.tmp 6, .tmp 7] 29 Tryz.func61 rfl Tryz.results61 Tryz.ntmps61 rfl ?_
 have M0 := hO.mem
 refine aE (aA (bP (.agg (List.toArray _)) M0 rfl rfl rfl (fun b1 w1 M1 => (eN rfl rfl (bC rfl rfl (aB (aC (aE (aA (dN rfl rfl ?_))))))))))
 refine aO rfl rfl (bZ rA rfl rfl (gM _ key _ _ _ s (hq0.rd M1 (bJ (i := 0) rfl))) ?_)
 rintro v2 w2 ⟨rfl, hb2⟩
 have M2 := M1.callB hb2
 refine bC rfl rfl (aB (aC (aE (aE (aA (aO rfl rfl (cX rfl rfl rfl rfl (aB (aC ?_)))))))))
 refine aS rfl (fun h15 => ?_) (fun h15 => ?_)
 ·refine aE (aA (dN rfl rfl (eN rfl rfl (bC rfl rfl (aB (aC (aP (cH (gA (.slice _ _ _) (.int _ _) rfl rfl ?_)))))))))
  exact ⟨q0, by rw [wV j h15], by rw [wV j h15]; exact hq0, M2.keep [true, false]⟩
 ·obtain ⟨i, bb, hbi, _, hfi⟩ := (eI key s).resolve_left (fun h => h15 (by omega))
  have hbo := hG.okb bb (List.mem_of_getElem? hbi)
  have hie : rE s key j = (uL s (mW bb j) false, 0) := by unfold rE; rw [if_neg (by omega), sK hfi hbi]
  refine aL (aC (aE (aHf [(0, 0), (1, 0), (2, 1), (3, 1), (4, 1)] 5 9 [(6, 0), (7, 0), (8, 0), (9, 2), (10, 2), (11, 0)] [(5, 2), (6, 0), (7, 0), (8, 0), (10, 2), (11, 0)] mixed rfl (by kernel_rfl) (fun w3 hb3 hh3 => ?_))))
  have M3 := M2.drew hb3 hh3
  refine qT rfl rfl rfl (fun _ => aH (.slice _ _ _) rfl) (qT rfl rfl rfl (fun _ => aH (.int _ _) rfl) (yC rfl rfl rfl (bN (i) dF rfl rfl hfi ((hq0.rd M3 (bJ (i := 0) rfl)).below_len (aG aF hbi)) ((hq0.rd M3 (bJ (i := 0) rfl)).someK (aG aF hbi))) (yC rfl rfl rfl (dJ _ bK (hq0.rd M3 (bJ (i := 0) rfl)) (aG aF hbi) rfl) ?_)))
  refine yC rfl rfl rfl (aU 1 bI M3 rfl rfl rfl) ?_
  refine aAi ?_ ?_
  ·refine dS [true, true, true] rfl (by kernel_rfl) (bZ bEo rfl rfl (aCw _ bb hbo j hj1 hj2) ?_)
   rintro v4 w4 ⟨⟨gg, rfl⟩, hb4⟩
   have M4 := M3.callB hb4
   refine aB (aC ⟨dT, ?_⟩)
   refine aX rfl rfl rfl (fun _ => aH (.tuple (List.toArray _)) rfl) (aX rfl rfl rfl (fun _ => bO (.agg (List.toArray _)) rfl rfl) (aX rfl rfl rfl (fun _ => bO (.bool _) rfl rfl) (dS [] rfl (by kernel_rfl) (aV fJ M4 rfl rfl (fun b5 w5 M5 => ?_)))))
   refine aB (aC ⟨dT, ?_⟩)
   refine dS [] rfl (by kernel_rfl) (bG 2 _ bK M5 rfl rfl rfl rfl rfl (aT rfl) rfl (fun w6 M6 => ?_))
   refine aB (aC ⟨dT, ?_⟩)
   refine aX rfl rfl rfl (fun _ => aJ (.bool _) rfl) (bY (aC (aE (aA (dN rfl rfl (wq (aU 2 bK M6 rfl rfl rfl) rfl (bZ aQg rfl rfl (tG _ (mW bb j) false _ _ _ s (hq0.rd M6 (bJ (i := 0) rfl)) (by omega)) ?_)))))))
   rintro v7 w7 ⟨A7, n7, c7, e7, rfl, hR7, hM7⟩
   have M7 : Mem _ _ [_, _, _, _] _ := M6.call0 hM7
   refine eN rfl rfl (bC rfl rfl (aB (aC (aP (gA (.slice _ _ _) (.int _ _) rfl rfl ?_)))))
   exact ⟨⟨A7, n7, c7, e7⟩, by rw [hie], by rw [hie]; exact hR7, M7.keep [false, false, false, true]⟩
  ·refine dS [false, false, false] rfl (by kernel_rfl) (aV fJ M3 rfl rfl (fun b8 w8 M8 => ?_))
   refine aB (aC ⟨(eD (bL rfl (aU 1 bI M8 rfl rfl rfl)) (eD (bL rfl (dJ _ bK (hq0.rd M8 (bJ (i := 0) rfl)) (aG aF hbi) rfl)) (eD (bL rfl (bN (i) dF rfl rfl hfi ((hq0.rd M8 (bJ (i := 0) rfl)).below_len (aG aF hbi)) ((hq0.rd M8 (bJ (i := 0) rfl)).someK (aG aF hbi)))) dT))), ?_⟩)
   refine dS [true, true, true] rfl (by kernel_rfl) (bZ bEo rfl rfl (aCw _ bb hbo j hj1 hj2) ?_)
   rintro v9 w9 ⟨⟨gg, rfl⟩, hb9⟩
   have M9 := M8.callB hb9
   refine aB (aC ⟨dT, ?_⟩)
   refine aX rfl rfl rfl (fun _ => aH (.tuple (List.toArray _)) rfl) (aX rfl rfl rfl (fun _ => bO (.agg (List.toArray _)) rfl rfl) (aX rfl rfl rfl (fun _ => bO (.bool _) rfl rfl) (dS [] rfl (by kernel_rfl) (bG 2 _ bK M9 rfl rfl rfl rfl rfl (aT rfl) rfl (fun w10 M10 => ?_)))))
   refine aB (aC ⟨dT, ?_⟩)
   refine aX rfl rfl rfl (fun _ => aJ (.bool _) rfl) (bY (aC (aE (aA (dN rfl rfl (wq (aU 2 bK M10 rfl rfl rfl) rfl (bZ aQg rfl rfl (tG _ (mW bb j) false _ _ _ s (hq0.rd M10 (bJ (i := 0) rfl)) (by omega)) ?_)))))))
   rintro v11 w11 ⟨A11, n11, c11, e11, rfl, hR11, hM11⟩
   have M11 : Mem _ _ [_, _, _, _] _ := M10.call0 hM11
   refine eN rfl rfl (bC rfl rfl (aB (aC (aP (gA (.slice _ _ _) (.int _ _) rfl rfl ?_)))))
   exact ⟨⟨A11, n11, c11, e11⟩, by rw [hie], by rw [hie]; exact hR11, M11.keep [false, false, false, true]⟩
set_option maxHeartbeats 32000000 in
theorem aLo (w : World) (q0 : Row) (s : List Body) (hq0 : bH 40 10 q0.A q0.n q0.c ((s).map aF) q0.e) (hG : GoodV s) (hO : Own [q0.e] w) (o : OpI) (BA : Option Addr) (nn cc : Nat) (hP : OpOk w o BA nn cc) (hnn : nn ≤ 1000000) (hdB : 0 < nn → ∀ q off, BA = some ⟨q, off, none⟩ → q ∉ cY [q0.e]) :
  Calls Tryz.prog 29 #[.slice q0.A q0.n q0.c, .agg (qQ o BA nn cc).toArray] w (fun ex w' => ∃ v, ex = .returned v ∧ (fun v w' => ∃ (q p : Row), v = .agg (wQ q.A q.n q.c p.A p.n p.c (doR s o).2).toArray ∧ bH 40 10 q.A q.n q.c (((doR s o).1).map aF) q.e ∧ bH 5 1 p.A p.n p.c (((doR s o).2.bytes).map bQ) p.e ∧ Mem w (cY [q0.e]) [q.e, p.e] w') v w') := by
 have hlen : s.length = q0.n := by simpa using hq0.1
 have hsl := hG.len
 have hbl := hP.len
 refine aI #[.cell 4 61] 93 Tryz.func29 rfl Tryz.results29 Tryz.ntmps29 rfl ?_
 have M0 := hO.mem
 refine aE (aA (bP (.agg (List.toArray _)) M0 rfl rfl rfl (fun b1 w1 M1 => (aV sO M1 rfl rfl (fun b2 w2 M2 => (aB (aC (aE (aA (dN rfl rfl (wq (cP [(0, .slice _ _ _)] _ aXg rfl rfl) rfl ?_)))))))))))
 refine aV sO M2 rfl rfl (fun b3 w3 M3 => (bG 3 _ dZ M3 rfl rfl rfl rfl rfl (aT rfl) rfl (fun w4 M4 => (aB (aC (aE (aE (aA (wq (aD 0 aAk rfl) rfl (wq (aM 1 (.int _ _) kK M4 rfl rfl rfl) rfl (aB (aC (aQ (aE (aA ?_)))))))))))))))
 refine cX rfl rfl rfl rfl (wq (aJ (.bool (decide _)) rfl) rfl (aB (aC ?_)))
 refine aS rfl (fun h13 => ?_) (fun h13 => ?_)
 ·refine aA (dN rfl rfl (wq (aD 1 aQz rfl) rfl (wq (nQ 1 _ bK M4 rfl rfl rfl rfl) rfl (bZ bLa rfl rfl (aTk _ _ _ _ _ s hq0 (M4.ownAt (i := 0) rfl) o.body (by omega)) ?_))))
  rintro v5 w5 ⟨A5, n5, c5, e5, rfl, hR5, hM5⟩
  have M5 : Mem _ _ [_, _, _, _] _ := M4.seg 0 1 hM5
  refine wq (aH (.tuple (List.toArray _)) rfl) rfl (wq (bO (.slice _ _ _) rfl rfl) rfl (wq (bO (.int _ _) rfl rfl) rfl (wq (aD 0 qI rfl) rfl (cZ 3 (.slice _ _ _) fQ M5 rfl rfl rfl rfl rfl rfl (fun w6 M6 => (wq (aD 1 kW rfl) rfl ?_))))))
  refine cZ 3 (.int _ _) kK M6 rfl rfl rfl rfl rfl rfl (fun w7 M7 => (aB (cO (aC (aE (aA (wq (aU 3 dZ M7 rfl rfl rfl) rfl (bG 2 _ dZ M7 rfl rfl rfl rfl rfl (aT rfl) rfl (fun w8 M8 => ?_)))))))))
  refine aB (aC (aP (eX 2 dZ M8 rfl rfl rfl ?_)))
  exact ⟨⟨A5, n5, c5, e5⟩, ⟨none, 0, 0, (none, default)⟩, by rw [aSc h13]; rfl, by rw [aSc h13]; exact hR5, by rw [aSc h13]; exact bH.nil _ _ _, (M8.keep [true, false, false, false]).dummy default⟩
 ·refine aE (aA (cX rfl rfl rfl rfl (wq (aJ (.bool (decide _)) rfl) rfl (aB (aC ?_)))))
  refine aS rfl (fun h24 => ?_) (fun h24 => ?_)
  ·refine aA (dN rfl rfl (wq (aD 11 tF rfl) rfl (wq (aM 1 (.int _ _) bU M4 rfl rfl rfl) rfl (bZ bKh rfl rfl (aIt _ _ _ _ _ s hq0 (M4.ownAt (i := 0) rfl) o.key (by omega)) ?_))))
   rintro v9 w9 ⟨A9, n9, c9, e9, rfl, hR9, hM9⟩
   have M9 : Mem _ _ [_, _, _, _] _ := M4.seg 0 1 hM9
   refine wq (aH (.tuple (List.toArray _)) rfl) rfl (wq (bO (.slice _ _ _) rfl rfl) rfl (wq (bO (.int _ _) rfl rfl) rfl (wq (aD 0 qI rfl) rfl (cZ 3 (.slice _ _ _) fQ M9 rfl rfl rfl rfl rfl rfl (fun w10 M10 => (wq (aD 1 kW rfl) rfl ?_))))))
   refine cZ 3 (.int _ _) kK M10 rfl rfl rfl rfl rfl rfl (fun w11 M11 => (aB (cO (aC (aE (aA (wq (aU 3 dZ M11 rfl rfl rfl) rfl (bG 2 _ dZ M11 rfl rfl rfl rfl rfl (aT rfl) rfl (fun w12 M12 => ?_)))))))))
   refine aB (aC (aP (eX 2 dZ M12 rfl rfl rfl ?_)))
   exact ⟨⟨A9, n9, c9, e9⟩, ⟨none, 0, 0, (none, default)⟩, by rw [aSm h24]; rfl, by rw [aSm h24]; exact hR9, by rw [aSm h24]; exact bH.nil _ _ _, (M12.keep [true, false, false, false]).dummy default⟩
  ·refine aE (aA (cX rfl rfl rfl rfl (wq (aJ (.bool (decide _)) rfl) rfl (aB (aC ?_)))))
   refine aS rfl (fun h35 => ?_) (fun h35 => ?_)
   ·refine aA (dN rfl rfl (wq (aD 11 tF rfl) rfl (wq (aM 1 (.int _ _) bU M4 rfl rfl rfl) rfl (wq (aD 12 aQa rfl) rfl (wq (nQ 1 _ bI M4 rfl rfl rfl rfl) rfl ?_)))))
    refine bZ bKv rfl rfl (aEm _ q0 s hq0 hG (M4.ownAt (i := 0) rfl) o.key o.push hP.p1 hP.p2) ?_
    rintro v13 w13 ⟨qi, rfl, hqi, hM13⟩
    have M13 : Mem _ _ [_, _, _, _] _ := M4.seg 0 1 hM13
    refine wq (aH (.tuple (List.toArray _)) rfl) rfl (wq (bO (.slice _ _ _) rfl rfl) rfl (wq (bO (.int _ _) rfl rfl) rfl (wq (aD 0 qI rfl) rfl (cZ 3 (.slice _ _ _) fQ M13 rfl rfl rfl rfl rfl rfl (fun w14 M14 => (wq (aD 1 kW rfl) rfl ?_))))))
    refine cZ 3 (.int _ _) kK M14 rfl rfl rfl rfl rfl rfl (fun w15 M15 => (aB (cO (aC (aE (aA (wq (aU 3 dZ M15 rfl rfl rfl) rfl (bG 2 _ dZ M15 rfl rfl rfl rfl rfl (aT rfl) rfl (fun w16 M16 => ?_)))))))))
    refine aB (aC (aP (eX 2 dZ M16 rfl rfl rfl ?_)))
    exact ⟨qi, ⟨none, 0, 0, (none, default)⟩, by rw [aSp h35]; rfl, by rw [aSp h35]; exact hqi, by rw [aSp h35]; exact bH.nil _ _ _, (M16.keep [true, false, false, false]).dummy default⟩
   ·refine aE (aA (cX rfl rfl rfl rfl (wq (aJ (.bool (decide _)) rfl) rfl (aB (aC ?_)))))
    refine aS rfl (fun h48 => ?_) (fun h48 => ?_)
    ·refine aA (dN rfl rfl (bZ bLe rfl rfl (aPe _ _ _ _ s (hq0.rd M4 (bJ (i := 0) rfl)) hG.okb hG.s (by omega)) ?_))
     rintro v17 w17 ⟨rb, rfl, hrb, hM17⟩
     have M17 : Mem _ _ [_, _, _, _, _] _ := M4.call0 hM17
     refine wq (aH (.tuple (List.toArray _)) rfl) rfl (wq (bO (.slice _ _ _) rfl rfl) rfl (wq (bO (.int _ _) rfl rfl) rfl (wq (bO (.bool _) rfl rfl) rfl (wq (aD 0 qI rfl) rfl (cZ 3 (.slice _ _ _) fQ M17 rfl rfl rfl rfl rfl rfl (fun w18 M18 => ?_))))))
     refine wq (aD 13 aAs rfl) rfl (cZ 3 (.int _ _) kK M18 rfl rfl rfl rfl rfl rfl (fun w19 M19 => (wq (aD 14 aAv rfl) rfl (cZ 3 (.bool _) oL M19 rfl rfl rfl rfl rfl rfl (fun w20 M20 => (aB (cO ?_)))))))
     refine aC (aE (aA (wq (aU 3 dZ M20 rfl rfl rfl) rfl (bG 2 _ dZ M20 rfl rfl rfl rfl rfl (aT rfl) rfl (fun w21 M21 => (aB (aC (aP (eX 2 dZ M21 rfl rfl rfl ?_)))))))))
     exact ⟨rb, ⟨none, 0, 0, (none, default)⟩, by rw [aSv h48]; rfl, by rw [aSv h48]; exact hrb, by rw [aSv h48]; exact bH.nil _ _ _, (M21.keep [false, false, false, false, true]).dummy default⟩
    ·refine aE (aA (cX rfl rfl rfl rfl (wq (aJ (.bool (decide _)) rfl) rfl (aB (aC ?_)))))
     refine aS rfl (fun h59 => ?_) (fun h59 => ?_)
     ·refine aA (dN rfl rfl (bZ bKq rfl rfl (aLj _ _ _ _ s (hq0.rd M4 (bJ (i := 0) rfl)) (by omega) hG.inb) ?_))
      rintro v22 w22 ⟨pb, rfl, hpb, hM22⟩
      have M22 : Mem _ _ [_, _, _, _, _] _ := M4.call0 hM22
      refine wq (aD 12 aAq rfl) rfl (cZ 3 (.slice _ _ _) aBt M22 rfl rfl rfl rfl rfl rfl (fun w23 M23 => (aB (cO (aC (aE (aA (wq (aU 3 dZ M23 rfl rfl rfl) rfl ?_))))))))
      refine bG 2 _ dZ M23 rfl rfl rfl rfl rfl (aT rfl) rfl (fun w24 M24 => (aB (aC (aP (eX 2 dZ M24 rfl rfl rfl ?_)))))
      exact ⟨q0, pb, by rw [aTt h59]; rfl, by rw [aTt h59]; exact hq0, by rw [aTt h59]; exact hpb, (M24.keep [true, false, false, false, true])⟩
     ·refine aE (aA (cX rfl rfl rfl rfl (wq (aJ (.bool (decide _)) rfl) rfl (aB (aC ?_)))))
      refine aS rfl (fun h64 => ?_) (fun h64 => ?_)
      ·refine aE (aA (wq (aD 14 aJd rfl) rfl (wq (aM 1 (.slice _ _ _) aBt M4 rfl rfl rfl) rfl (bZ bKj rfl rfl (aHp _ BA nn cc o.bytes (hP.rd.memY M4 hdB) hP.byt hP.cap (by omega)) ?_))))
       rintro v25 w25 ⟨qd, rfl, hqd, hM25⟩
       have M25 : Mem _ _ [_, _, _, _, _] _ := M4.call0 hM25
       refine wq (aH (.tuple (List.toArray _)) rfl) rfl (wq (bO (.slice _ _ _) rfl rfl) rfl (wq (bO (.int _ _) rfl rfl) rfl (eN rfl rfl (bC rfl rfl (aB (aC (aE (aA ?_))))))))
       refine aO rfl rfl (wq (aD 1 kW rfl) rfl (cZ 3 (.int _ _) kK M25 rfl rfl rfl rfl rfl rfl (fun w26 M26 => (aB (aC (aE (aA (aO rfl rfl (cX rfl rfl rfl rfl ?_)))))))))
       refine aB (aC ?_)
       refine aS rfl (fun h75 => ?_) (fun h75 => ?_)
       ·refine aA (dN rfl rfl (wq (aD 0 qI rfl) rfl (cZ 3 (.slice _ _ _) fQ M26 rfl rfl rfl rfl rfl rfl (fun w27 M27 => (aB (cO ?_))))))
        refine aC (aE (aA (wq (aU 3 dZ M27 rfl rfl rfl) rfl (bG 2 _ dZ M27 rfl rfl rfl rfl rfl (aT rfl) rfl (fun w28 M28 => (aB (aC (aP (eX 2 dZ M28 rfl rfl rfl ?_)))))))))
        exact ⟨qd, ⟨none, 0, 0, (none, default)⟩, by rw [aJf h64]; rfl, by rw [aJf h64]; exact (by unfold wL; rw [if_pos h75]; exact hqd), by rw [aJf h64]; exact bH.nil _ _ _, (M28.keep [false, false, false, false, true]).dummy default⟩
       ·refine aL (cO (aC (aE (aA (wq (aU 3 dZ M26 rfl rfl rfl) rfl (bG 2 _ dZ M26 rfl rfl rfl rfl rfl (aT rfl) rfl (fun w29 M29 => (aB (aC (aP ?_))))))))))
        refine eX 2 dZ M29 rfl rfl rfl ?_
        exact ⟨q0, ⟨none, 0, 0, (none, default)⟩, by rw [aJf h64]; rfl, by rw [aJf h64]; exact (by unfold wL; rw [if_neg h75]; exact hq0), by rw [aJf h64]; exact bH.nil _ _ _, (M29.keep [true, false, false, false, false]).dummy default⟩
      ·refine aE (aA (cX rfl rfl rfl rfl (wq (aJ (.bool (decide _)) rfl) rfl (aB (aC ?_)))))
       refine aS rfl (fun h78 => ?_) (fun h78 => ?_)
       ·refine aE (aA (dN rfl rfl (wq (aD 11 tF rfl) rfl (wq (aM 1 (.int _ _) bU M4 rfl rfl rfl) rfl (bZ rA rfl rfl (gM _ o.key _ _ _ s (hq0.rd M4 (bJ (i := 0) rfl))) ?_)))))
        rintro v30 w30 ⟨rfl, hb30⟩
        have M30 := M4.callB hb30
        refine bC rfl rfl (aB (aC (aE (aA (aO rfl rfl (cX rfl rfl rfl rfl (aB (aC ?_))))))))
        refine aS rfl (fun h85 => ?_) (fun h85 => ?_)
        ·refine aA (wq (aD 1 kW rfl) rfl (cZ 3 (.int _ _) kK M30 rfl rfl rfl rfl rfl rfl (fun w31 M31 => (aB (cO (aC (aE (aA ?_))))))))
         refine wq (aU 3 dZ M31 rfl rfl rfl) rfl (bG 2 _ dZ M31 rfl rfl rfl rfl rfl (aT rfl) rfl (fun w32 M32 => (aB (aC (aP (eX 2 dZ M32 rfl rfl rfl ?_))))))
         exact ⟨q0, ⟨none, 0, 0, (none, default)⟩, by rw [aHh h78, yD h85]; rfl, by rw [aHh h78, yD h85]; exact hq0, by rw [aHh h78, yD h85]; exact bH.nil _ _ _, (M32.keep [true, false, false, false]).dummy default⟩
        ·obtain ⟨i, bb, hbi, _, hfi⟩ := (eI o.key s).resolve_left (fun h => h85 (by omega))
         refine aA (dN rfl rfl (aO rfl rfl (wq (bN (i) dF rfl rfl hfi ((hq0.rd M30 (bJ (i := 0) rfl)).below_len (aG aF hbi)) ((hq0.rd M30 (bJ (i := 0) rfl)).someK (aG aF hbi))) rfl (wq (dJ _ bK (hq0.rd M30 (bJ (i := 0) rfl)) (aG aF hbi) rfl) rfl (wq (aD 2 zW rfl) rfl ?_)))))
         refine qP 3 _ bK M30 rfl rfl rfl rfl rfl (aT rfl) (Nat.le_of_ble_eq_true rfl) (fun w33 M33 => (aB (cO (aC (aE (aA (wq (aU 3 dZ M33 rfl rfl rfl) rfl (bG 2 _ dZ M33 rfl rfl rfl rfl rfl (aT rfl) rfl (fun w34 M34 => ?_)))))))))
         refine aB (aC (aP (eX 2 dZ M34 rfl rfl rfl ?_)))
         exact ⟨q0, ⟨none, 0, 0, (none, default)⟩, by rw [aHh h78, xA hfi hbi]; rfl, by rw [aHh h78, xA hfi hbi]; exact hq0, by rw [aHh h78, xA hfi hbi]; exact bH.nil _ _ _, (M34.keep [true, false, false, false]).dummy default⟩
       ·refine aL (cO (aC (aE (aA (wq (aU 3 dZ M4 rfl rfl rfl) rfl (bG 2 _ dZ M4 rfl rfl rfl rfl rfl (aT rfl) rfl (fun w35 M35 => (aB (aC (aP ?_))))))))))
        refine eX 2 dZ M35 rfl rfl rfl ?_
        exact ⟨q0, ⟨none, 0, 0, (none, default)⟩, by rw [aTc h13 h24 h35 h48 h59 h64 h78]; rfl, by rw [aTc h13 h24 h35 h48 h59 h64 h78]; exact hq0, by rw [aTc h13 h24 h35 h48 h59 h64 h78]; exact bH.nil _ _ _, (M35.keep [true, false, false, false]).dummy default⟩
set_option maxHeartbeats 32000000 in
theorem aMd (w : World) (F : Rd w 2 (some ⟨0, 0, none⟩) 1 [[.int .u32 73856093, .int .u32 19349663]]) (N : Rd w 4 (some ⟨3, 0, none⟩) 1 [eQ lG]) (b : Nat) (r : StV) (vs : List Body) (hW : fT 40 r vs) (hO : Own [(some b, bc [.slice r.A r.n r.c, .map r.p] 56), r.er, r.em] w) (hdF : 0 < 1 → ∀ q off, (some ⟨0, 0, none⟩ : Option Addr) = some ⟨q, off, none⟩ → q ∉ cY [(some b, bc [.slice r.A r.n r.c, .map r.p] 56), r.er, r.em]) (hdN : 0 < 1 → ∀ q off, (some ⟨3, 0, none⟩ : Option Addr) = some ⟨q, off, none⟩ → q ∉ cY [(some b, bc [.slice r.A r.n r.c, .map r.p] 56), r.er, r.em]) (o : OpI) (BA : Option Addr) (nn cc : Nat) (hP : OpOk w o BA nn cc) (hnn : nn ≤ 1000000) (hdB : 0 < nn → ∀ q off, BA = some ⟨q, off, none⟩ → q ∉ cY [(some b, bc [.slice r.A r.n r.c, .map r.p] 56), r.er, r.em]) :
  Calls Tryz.prog 28 #[.pointer (some ⟨b, 0, none⟩), .agg (qQ o BA nn cc).toArray] w (fun ex w' => ∃ v, ex = .returned v ∧ (fun v w' => ∃ (r' : StV) (p : Row), v = .agg (wQ none 0 0 p.A p.n p.c (doR vs o).2).toArray ∧ fT 40 r' (doR vs o).1 ∧ bH 5 1 p.A p.n p.c (((doR vs o).2.bytes).map bQ) p.e ∧ Mem w (cY [(some b, bc [.slice r.A r.n r.c, .map r.p] 56), r.er, r.em]) [(some b, bc [.slice r'.A r'.n r'.c, .map r'.p] 56), r'.er, r'.em, p.e] w') v w') := by
 have hG := hW.1
 have hbl := hP.len
 refine aI #[.cell 4 61] 70 Tryz.func28 rfl Tryz.results28 Tryz.ntmps28 rfl ?_
 have M0 := hO.mem
 refine aE (aA (bP (.agg (List.toArray _)) M0 rfl rfl rfl (fun b1 w1 M1 => (aV sO M1 rfl rfl (fun b2 w2 M2 => (aB (aC (aE (aA (aV sO M2 rfl rfl (fun b3 w3 M3 => (aB (aC (aE (aE (aA ?_))))))))))))))))
 refine wq (aD 0 aAk rfl) rfl (wq (aM 3 (.int _ _) kK M3 rfl rfl rfl) rfl (aB (aC (aQ (aE (aA (cX rfl rfl rfl rfl (wq (aJ (.bool (decide _)) rfl) rfl (aB (aC ?_))))))))))
 refine aS rfl (fun h11 => ?_) (fun h11 => ?_)
 ·refine aA (wq (aH (.pointer _) rfl) rfl (wq (aD 1 aQz rfl) rfl (wq (nQ 3 _ bK M3 rfl rfl rfl rfl) rfl (bZ aQu rfl rfl (xT _ _ r vs hW (M3.ownSeg 0 3) o.body hP.body) ?_))))
  rintro v4 w4 ⟨r2, rfl, hw2, hM4⟩
  have M4 : Mem _ _ [_, _, _, _, _, _] _ := M3.seg 0 3 hM4
  refine wq (aD 1 kW rfl) rfl (cZ 5 (.int _ _) kK M4 rfl rfl rfl rfl rfl rfl (fun w5 M5 => (aB (cO (aC (aE (aA (wq (aU 5 dZ M5 rfl rfl rfl) rfl ?_))))))))
  refine bG 4 _ dZ M5 rfl rfl rfl rfl rfl (aT rfl) rfl (fun w6 M6 => (aB (aC (aP (eX 4 dZ M6 rfl rfl rfl ?_)))))
  exact ⟨r2, ⟨none, 0, 0, (none, default)⟩, by rw [aSc h11]; rfl, by rw [aSc h11]; exact hw2, by rw [aSc h11]; exact bH.nil _ _ _, (M6.keep [true, true, true, false, false, false]).dummy default⟩
 ·refine aE (aA (cX rfl rfl rfl rfl (wq (aJ (.bool (decide _)) rfl) rfl (aB (aC ?_)))))
  refine aS rfl (fun h18 => ?_) (fun h18 => ?_)
  ·refine aA (wq (aH (.pointer _) rfl) rfl (wq (aD 11 tF rfl) rfl (wq (aM 3 (.int _ _) bU M3 rfl rfl rfl) rfl (bZ bGa rfl rfl (vO _ _ r vs hW (M3.ownSeg 0 3) o.key) ?_))))
   rintro v7 w7 ⟨r2, rfl, hw2, hM7⟩
   have M7 : Mem _ _ [_, _, _, _, _, _] _ := M3.seg 0 3 hM7
   refine wq (aD 1 kW rfl) rfl (cZ 5 (.int _ _) kK M7 rfl rfl rfl rfl rfl rfl (fun w8 M8 => (aB (cO (aC (aE (aA (wq (aU 5 dZ M8 rfl rfl rfl) rfl ?_))))))))
   refine bG 4 _ dZ M8 rfl rfl rfl rfl rfl (aT rfl) rfl (fun w9 M9 => (aB (aC (aP (eX 4 dZ M9 rfl rfl rfl ?_)))))
   exact ⟨r2, ⟨none, 0, 0, (none, default)⟩, by rw [aSm h18]; rfl, by rw [aSm h18]; exact hw2, by rw [aSm h18]; exact bH.nil _ _ _, (M9.keep [true, true, true, false, false, false]).dummy default⟩
  ·refine aE (aA (cX rfl rfl rfl rfl (wq (aJ (.bool (decide _)) rfl) rfl (aB (aC ?_)))))
   refine aS rfl (fun h25 => ?_) (fun h25 => ?_)
   ·refine aA (wq (aH (.pointer _) rfl) rfl (wq (aD 11 tF rfl) rfl (wq (aM 3 (.int _ _) bU M3 rfl rfl rfl) rfl (wq (aD 12 aQa rfl) rfl (wq (nQ 3 _ bI M3 rfl rfl rfl rfl) rfl ?_)))))
    refine bZ bEz rfl rfl (uD _ _ r vs hW (M3.ownSeg 0 3) o.key o.push hP.p1 hP.p2) ?_
    rintro v10 w10 ⟨r2, rfl, hw2, hM10⟩
    have M10 : Mem _ _ [_, _, _, _, _, _] _ := M3.seg 0 3 hM10
    refine wq (aD 1 kW rfl) rfl (cZ 5 (.int _ _) kK M10 rfl rfl rfl rfl rfl rfl (fun w11 M11 => (aB (cO (aC (aE (aA (wq (aU 5 dZ M11 rfl rfl rfl) rfl ?_))))))))
    refine bG 4 _ dZ M11 rfl rfl rfl rfl rfl (aT rfl) rfl (fun w12 M12 => (aB (aC (aP (eX 4 dZ M12 rfl rfl rfl ?_)))))
    exact ⟨r2, ⟨none, 0, 0, (none, default)⟩, by rw [aSp h25]; rfl, by rw [aSp h25]; exact hw2, by rw [aSp h25]; exact bH.nil _ _ _, (M12.keep [true, true, true, false, false, false]).dummy default⟩
   ·refine aE (aA (cX rfl rfl rfl rfl (wq (aJ (.bool (decide _)) rfl) rfl (aB (aC ?_)))))
    refine aS rfl (fun h34 => ?_) (fun h34 => ?_)
    ·refine aE (aA (wq (aH (.pointer _) rfl) rfl (bZ bFc rfl rfl (aDk _ (F.memY M3 hdF) (N.memY M3 hdN) _ r vs hW (M3.ownSeg 0 3) (M3.away 0 3 F hdF) (M3.away 0 3 N hdN)) ?_)))
     rintro v13 w13 ⟨r2, ts, rfl, hw2, hM13⟩
     have M13 : Mem _ _ [_, _, _, _, _, _] _ := M3.seg 0 3 hM13
     refine aV aEd M13 rfl rfl (fun b14 w14 M14 => (bG 6 _ wE M14 rfl rfl rfl rfl rfl (aT rfl) rfl (fun w15 M15 => (aB (aC (aE (aA (wq (aD 1 aIx rfl) rfl (wq (aM 6 (.int _ _) kK M15 rfl rfl rfl) rfl (wq (aD 13 aAs rfl) rfl ?_))))))))))
     refine cZ 5 (.int _ _) kK M15 rfl rfl rfl rfl rfl rfl (fun w16 M16 => (aB (aC (aA (wq (aD 2 vR rfl) rfl (wq (aM 6 (.bool _) oL M16 rfl rfl rfl) rfl (wq (aD 14 aAv rfl) rfl (cZ 5 (.bool _) oL M16 rfl rfl rfl rfl rfl rfl (fun w17 M17 => ?_)))))))))
     refine aB (cO (aC (aE (aA (wq (aU 5 dZ M17 rfl rfl rfl) rfl (bG 4 _ dZ M17 rfl rfl rfl rfl rfl (aT rfl) rfl (fun w18 M18 => (aB (aC (aP ?_))))))))))
     refine eX 4 dZ M18 rfl rfl rfl ?_
     exact ⟨r2, ⟨none, 0, 0, (none, default)⟩, by rw [aSv h34]; rfl, by rw [aSv h34]; exact hw2, by rw [aSv h34]; exact bH.nil _ _ _, (M18.keep [true, true, true, false, false, false, false]).dummy default⟩
    ·refine aE (aA (cX rfl rfl rfl rfl (wq (aJ (.bool (decide _)) rfl) rfl (aB (aC ?_)))))
     refine aS rfl (fun h44 => ?_) (fun h44 => ?_)
     ·refine aA (wq (aH (.pointer _) rfl) rfl (bZ bFz rfl rfl (rL _ _ r vs hW (M3.ownSeg 0 3)) ?_))
      rintro v19 w19 ⟨pb, rfl, hpb, hM19⟩
      have M19 : Mem _ _ [_, _, _, _, _, _, _] _ := M3.seg 0 3 hM19
      refine wq (aD 12 aAq rfl) rfl (cZ 5 (.slice _ _ _) aBt M19 rfl rfl rfl rfl rfl rfl (fun w20 M20 => (aB (cO (aC (aE (aA (wq (aU 5 dZ M20 rfl rfl rfl) rfl ?_))))))))
      refine bG 4 _ dZ M20 rfl rfl rfl rfl rfl (aT rfl) rfl (fun w21 M21 => (aB (aC (aP (eX 4 dZ M21 rfl rfl rfl ?_)))))
      exact ⟨r, pb, by rw [aTt h44]; rfl, by rw [aTt h44]; exact hW, by rw [aTt h44]; exact hpb, (M21.keep [true, true, true, false, false, false, true])⟩
     ·refine aE (aA (cX rfl rfl rfl rfl (wq (aJ (.bool (decide _)) rfl) rfl (aB (aC ?_)))))
      refine aS rfl (fun h49 => ?_) (fun h49 => ?_)
      ·refine aA (wq (aH (.pointer _) rfl) rfl (wq (aD 14 aJd rfl) rfl (wq (aM 3 (.slice _ _ _) aBt M3 rfl rfl rfl) rfl (bZ bEs rfl rfl (uE _ _ r vs hW (M3.ownSeg 0 3) BA nn cc o.bytes (hP.rd.memY M3 hdB) hP.byt hP.cap hnn (M3.away 0 3 hP.rd hdB)) ?_))))
       rintro v22 w22 ⟨r2, rfl, hw2, hM22⟩
       have M22 : Mem _ _ [_, _, _, _, _, _] _ := M3.seg 0 3 hM22
       refine wq (aD 1 kW rfl) rfl (cZ 5 (.int _ _) kK M22 rfl rfl rfl rfl rfl rfl (fun w23 M23 => (aB (cO (aC (aE (aA (wq (aU 5 dZ M23 rfl rfl rfl) rfl ?_))))))))
       refine bG 4 _ dZ M23 rfl rfl rfl rfl rfl (aT rfl) rfl (fun w24 M24 => (aB (aC (aP (eX 4 dZ M24 rfl rfl rfl ?_)))))
       exact ⟨r2, ⟨none, 0, 0, (none, default)⟩, by rw [aJf h49]; rfl, by rw [aJf h49]; exact hw2, by rw [aJf h49]; exact bH.nil _ _ _, (M24.keep [true, true, true, false, false, false]).dummy default⟩
      ·refine aE (aA (cX rfl rfl rfl rfl (wq (aJ (.bool (decide _)) rfl) rfl (aB (aC ?_)))))
       refine aS rfl (fun h56 => ?_) (fun h56 => ?_)
       ·refine aE (aA (wq (aH (.pointer _) rfl) rfl (wq (aD 11 tF rfl) rfl (wq (aM 3 (.int _ _) bU M3 rfl rfl rfl) rfl (bZ aZz rfl rfl (xD _ _ r vs hW (M3.ownSeg 0 3) o.key) ?_)))))
        rintro v25 w25 ⟨rfl, hM25⟩
        have M25 : Mem _ _ [_, _, _, _, _, _] _ := M3.seg 0 3 hM25
        refine wq (aH (.tuple (List.toArray _)) rfl) rfl (wq (bO (.agg (List.toArray _)) rfl rfl) rfl (wq (bO (.int _ _) rfl rfl) rfl (aV fJ M25 rfl rfl (fun b26 w26 M26 => (bG 6 _ bK M26 rfl rfl rfl rfl rfl (aT rfl) rfl (fun w27 M27 => (bC rfl rfl ?_)))))))
        refine aB (aC (aE (aA (wq (aU 6 bK M27 rfl rfl rfl) rfl (wq (aD 2 zW rfl) rfl (qP 5 _ bK M27 rfl rfl rfl rfl rfl (aT rfl) (Nat.le_of_ble_eq_true rfl) (fun w28 M28 => (aB (aC (aA (aO rfl rfl ?_)))))))))))
        refine wq (aD 1 kW rfl) rfl (cZ 5 (.int _ _) kK M28 rfl rfl rfl rfl rfl rfl (fun w29 M29 => (aB (cO (aC (aE (aA (wq (aU 5 dZ M29 rfl rfl rfl) rfl ?_))))))))
        refine bG 4 _ dZ M29 rfl rfl rfl rfl rfl (aT rfl) rfl (fun w30 M30 => (aB (aC (aP (eX 4 dZ M30 rfl rfl rfl ?_)))))
        exact ⟨r, ⟨none, 0, 0, (none, default)⟩, by rw [aHh h56, aMn]; rfl, by rw [aHh h56]; exact hW, by rw [aHh h56, aMn]; exact bH.nil _ _ _, (M30.keep [true, true, true, false, false, false, false]).dummy default⟩
       ·refine aL (cO (aC (aE (aA (wq (aU 5 dZ M3 rfl rfl rfl) rfl (bG 4 _ dZ M3 rfl rfl rfl rfl rfl (aT rfl) rfl (fun w31 M31 => (aB (aC (aP ?_))))))))))
        refine eX 4 dZ M31 rfl rfl rfl ?_
        exact ⟨r, ⟨none, 0, 0, (none, default)⟩, by rw [aTc h11 h18 h25 h34 h44 h49 h56]; rfl, by rw [aTc h11 h18 h25 h34 h44 h49 h56]; exact hW, by rw [aTc h11 h18 h25 h34 h44 h49 h56]; exact bH.nil _ _ _, (M31.keep [true, true, true, false, false, false]).dummy default⟩
set_option maxHeartbeats 8000000 in
theorem aBm (w : World) (z : ResI) (A : Option Addr) (n c : Nat) (A' : Option Addr) (n' c' : Nat) (B : Option Addr) (m d : Nat) (RB : Rd w 1 B m (z.bytes.map bQ)) (B' : Option Addr) (m' d' : Nat) (RB' : Rd w 1 B' m' (z.bytes.map bQ)) :
  Calls Tryz.prog 30 #[.agg (wQ A n c B m d z).toArray, .agg (wQ A' n' c' B' m' d' z).toArray] w (fun ex w' => ∃ v, ex = .returned v ∧ (fun v w' => v = .bool true ∧ Below w.heap.size w w') v w') := by
 refine aI #[.tmp 4] 38 Tryz.func30 rfl Tryz.results30 Tryz.ntmps30 rfl ?_
 have M0 := Mem.refl w
 refine aE (aA (bP (.agg (List.toArray _)) M0 rfl rfl rfl (fun b1 w1 M1 => (bP (.agg (List.toArray _)) M1 rfl rfl rfl (fun b2 w2 M2 => (wq (aJ (.bool false) rfl) rfl (aB (aC (aE (aA (wq (aD 1 kW rfl) rfl ?_)))))))))))
 refine wq (aM 0 (.int _ _) kK M2 rfl rfl rfl) rfl (wq (aD 1 kW rfl) rfl (wq (aM 1 (.int _ _) kK M2 rfl rfl rfl) rfl (cX rfl rfl rfl rfl (jB 9 rfl rfl (wq (aH (.bool true) rfl) rfl ?_)))))
 refine wq (aD 2 zW rfl) rfl (wq (nQ 0 _ bK M2 rfl rfl rfl rfl) rfl (wq (aD 2 zW rfl) rfl (wq (nQ 1 _ bK M2 rfl rfl rfl rfl) rfl (wq (aVl (aZk z.body z.body) rfl rfl) rfl (jB 15 rfl rfl ?_)))))
 refine wq (bM true (.bool true) rfl rfl) rfl (wq (aH (.bool true) rfl) rfl (wq (aD 12 aAq rfl) rfl (wq (aM 0 (.slice _ _ _) aBt M2 rfl rfl rfl) rfl (wq (aD 12 aAq rfl) rfl (wq (aM 1 (.slice _ _ _) aBt M2 rfl rfl rfl) rfl ?_)))))
 refine bZ bLz rfl rfl (aPl _ _ _ _ z.bytes (RB.mem M2) _ _ _ z.bytes (RB'.mem M2)) ?_
 rintro v3 w3 ⟨rfl, hb3⟩
 have M3 := M2.callB hb3
 refine jB 22 rfl rfl (wq (bM true (.bool true) rfl rfl) rfl (wq (aH (.bool true) rfl) rfl (wq (aD 13 aAs rfl) rfl (wq (aM 0 (.int _ _) kK M3 rfl rfl rfl) rfl (wq (aD 13 aAs rfl) rfl ?_)))))
 refine wq (aM 1 (.int _ _) kK M3 rfl rfl rfl) rfl (cX rfl rfl rfl rfl (jB 29 rfl rfl (wq (bM true (.bool true) rfl rfl) rfl (wq (aH (.bool true) rfl) rfl (wq (aD 14 aAv rfl) rfl ?_)))))
 refine wq (aM 0 (.bool _) oL M3 rfl rfl rfl) rfl (wq (aD 14 aAv rfl) rfl (wq (aM 1 (.bool _) oL M3 rfl rfl rfl) rfl (wq (qL _ Tryz.underlying4 rfl rfl rfl) rfl (aK 36 (.bool true) (bv rfl (by simp)) (wq (bM true (.bool true) rfl rfl) rfl ?_)))))
 refine wq (aJ (.bool true) rfl) rfl (aB (aC (aP (cE (.bool true) rfl ?_))))
 exact ⟨rfl, M3.below⟩
set_option maxHeartbeats 4000000 in
theorem aSt (w : World) (A : Option Addr) (n c : Nat) (l : List OpRow) (hl : OpsRd w A n l) :
  Calls Tryz.prog 26 #[.slice A n c] w (fun ex w' => ∃ v, ex = .returned v ∧ (fun v w' => (∃ g : Bool, v = .bool g ∧ (g = true → n ≤ 40 ∧ ∀ x ∈ l, x.n ≤ 1000)) ∧ Below w.heap.size w w') v w') := by
 have hlen : l.length = n := by simpa using hl.rd.len
 have hbd := hl.rd.bound
 refine aI #[.tmp 2] 37 Tryz.func26 rfl Tryz.results26 Tryz.ntmps26 rfl ?_
 have M0 := Mem.refl w
 refine aE (aA (wq (aJ (.bool false) rfl) rfl (aB (aC (aE (aA (bC rfl rfl (aB (aC (aE (aE (aA (bC rfl rfl ?_)))))))))))))
 refine aB (aC (aQ (dQ (σ := Nat × Nat) [0] (fun (i, s) => [(3, .int .i64 (s : Int)), (4, .int .i64 (i : Int))]) (fun (i, s) w' => (i ≤ n ∧ s ≤ i ∧ ∀ (j : Nat) (x : OpRow), j < i → l[j]? = some x → x.n ≤ 1000) ∧ Mem w [] [] w') (fun (i, s) => n - i) (0, 0) (bA rfl (bA rfl dX)) (⟨⟨by omega, by omega, fun j x hj => by omega⟩, M0⟩) ?_)))
 rintro ⟨i, s⟩ ρ1 w1 ⟨⟨hi, hs, hal⟩, hM1⟩
 refine aE (aE (aA (aO rfl rfl (dN rfl rfl (wq (dB Tryz.underlying48 rfl) rfl (cX rfl rfl rfl rfl (wq (aH (.bool (decide _)) rfl) rfl ?_)))))))
 refine dI 9 rfl (fun g9 => ?_) (fun g9 => ?_)
 ·refine aO rfl rfl (cX rfl rfl rfl rfl (wq (bM true (.bool (decide _)) rfl rfl) rfl (aB (aC ?_))))
  refine aS rfl (fun h12 => ?_) (fun h12 => ?_)
  ·obtain ⟨x, hx⟩ := cT (xs := l) (k := i) hlen (by omega)
   refine aL (aC (aE (aQ (aE (aE (aA (dN rfl rfl (aO rfl rfl (wq (bN (i) aKf rfl rfl rfl ((hl.rd.mem hM1).below_len (aG OpRow.cells hx)) ((hl.rd.mem hM1).someK (aG OpRow.cells hx))) rfl (wq (bE 14 aJd (hl.rd.mem hM1) (Nat.lt_of_le_of_lt (Nat.zero_le _) ((hl.rd.mem hM1).below_len (aG OpRow.cells hx))) rfl) rfl ?_))))))))))
   refine wq (dV (o := 14) (.slice _ _ _) aBt (hl.rd.mem hM1) (aG OpRow.cells hx) rfl rfl) rfl (wq (dB Tryz.underlying57 rfl) rfl (cX rfl rfl rfl rfl (aB (aC ?_))))
   refine aS rfl (fun h21 => ?_) (fun h21 => ?_)
   ·refine aE (aA (wq (aJ (.bool false) rfl) rfl (aB (aC (aP (cH (jP (cH (pD ?_)))))))))
    refine jP (cH (cE (.bool false) rfl ?_))
    exact ⟨⟨false, rfl, fun h => by cases h⟩, hM1.below⟩
   ·refine aL (aC (aE (aA (dN rfl rfl (aO rfl rfl (wq (bN (i) aKf rfl rfl rfl ((hl.rd.mem hM1).below_len (aG OpRow.cells hx)) ((hl.rd.mem hM1).someK (aG OpRow.cells hx))) rfl (wq (bE 0 aAk (hl.rd.mem hM1) (Nat.lt_of_le_of_lt (Nat.zero_le _) ((hl.rd.mem hM1).below_len (aG OpRow.cells hx))) rfl) rfl ?_)))))))
    refine wq (dV (o := 0) (.int _ _) kK (hl.rd.mem hM1) (aG OpRow.cells hx) rfl rfl) rfl (cX rfl rfl rfl rfl (aB (aC ?_)))
    refine aS rfl (fun h27 => ?_) (fun h27 => ?_)
    ·refine aA (aO rfl rfl (wq (aY rfl rfl (by omega) (by omega)) rfl (bC rfl rfl (aB (cO ?_)))))
     refine aC (aA (aO rfl rfl (wq (aY rfl rfl (by omega) (by omega)) rfl (bC rfl rfl (aB ?_)))))
     refine cD (i + 1, s + 1) (bA rfl (bA rfl dX)) (cL rfl gO) ?_ ?_
     ·exact ⟨⟨by omega, by omega, oS (p := fun _ x => x.n ≤ 1000) hal hx (by omega)⟩, hM1⟩
     ·(show n - (i + 1) < n - i; omega)
    ·refine aL (cO (aC (aA (aO rfl rfl (wq (aY rfl rfl (by omega) (by omega)) rfl (bC rfl rfl ?_))))))
     refine aB ?_
     refine cD (i + 1, s) (bA rfl (bA rfl dX)) (cL rfl gO) ?_ ?_
     ·exact ⟨⟨by omega, by omega, oS (p := fun _ x => x.n ≤ 1000) hal hx (by omega)⟩, hM1⟩
     ·(show n - (i + 1) < n - i; omega)
  ·refine cV (dD (dK (eO (aC (aE (aA (dN rfl rfl ?_)))))))
   refine wq (dB Tryz.underlying48 rfl) rfl (cX rfl rfl rfl rfl (wq (aH (.bool (decide _)) rfl) rfl ?_))
   refine dI 33 rfl (fun g33 => ?_) (fun g33 => ?_)
   ·refine aO rfl rfl (cX rfl rfl rfl rfl (wq (bM true (.bool (decide _)) rfl rfl) rfl (wq (aJ (.bool (decide _)) rfl) rfl (aB (aC (aP (cE (.bool (decide _)) rfl ?_)))))))
    refine ⟨⟨_, rfl, fun hg => ?_⟩, hM1.below⟩
    first | (cases hg; done) | exact ⟨(by omega), fun x hx => (by obtain ⟨j, hj⟩ := List.getElem?_of_mem hx; exact hal j x (by have := (List.getElem?_eq_some_iff.1 hj).1; omega) hj)⟩
   ·refine aN rfl rfl (aN rfl rfl (wq (bM false (.bool false) rfl rfl) rfl (wq (aJ (.bool false) rfl) rfl (aB (aC (aP (cE (.bool false) rfl ?_)))))))
    refine ⟨⟨_, rfl, fun hg => ?_⟩, hM1.below⟩
    first | (cases hg; done) | exact ⟨(by omega), fun x hx => (by obtain ⟨j, hj⟩ := List.getElem?_of_mem hx; exact hal j x (by have := (List.getElem?_eq_some_iff.1 hj).1; omega) hj)⟩
 ·refine aN rfl rfl (aN rfl rfl (wq (bM false (.bool false) rfl rfl) rfl (aB (aC (cM rfl (cV ?_))))))
  refine dD (dK (eO (aC (aE (aA (dN rfl rfl (wq (dB Tryz.underlying48 rfl) rfl ?_)))))))
  refine cX rfl rfl rfl rfl (wq (aH (.bool (decide _)) rfl) rfl ?_)
  refine dI 33 rfl (fun g33 => ?_) (fun g33 => ?_)
  ·refine aO rfl rfl (cX rfl rfl rfl rfl (wq (bM true (.bool (decide _)) rfl rfl) rfl (wq (aJ (.bool (decide _)) rfl) rfl (aB (aC (aP (cE (.bool (decide _)) rfl ?_)))))))
   refine ⟨⟨_, rfl, fun hg => ?_⟩, hM1.below⟩
   first | (cases hg; done) | exact ⟨(by omega), fun x hx => (by obtain ⟨j, hj⟩ := List.getElem?_of_mem hx; exact hal j x (by have := (List.getElem?_eq_some_iff.1 hj).1; omega) hj)⟩
  ·refine aN rfl rfl (aN rfl rfl (wq (bM false (.bool false) rfl rfl) rfl (wq (aJ (.bool false) rfl) rfl (aB (aC (aP (cE (.bool false) rfl ?_)))))))
   refine ⟨⟨_, rfl, fun hg => ?_⟩, hM1.below⟩
   first | (cases hg; done) | exact ⟨(by omega), fun x hx => (by obtain ⟨j, hj⟩ := List.getElem?_of_mem hx; exact hal j x (by have := (List.getElem?_eq_some_iff.1 hj).1; omega) hj)⟩
set_option maxHeartbeats 4000000 in
theorem aLt (w : World) (A : Option Addr) (n c : Nat) :
  Calls Tryz.prog 27 #[.slice A n c] w (fun ex w' => ∃ v, ex = .returned v ∧ (fun v w' => v = .bool (decide ((n : Int) ≤ 30)) ∧ Below w.heap.size w w') v w') := by
 refine aI #[.tmp 2] 6 Tryz.func27 rfl Tryz.results27 Tryz.ntmps27 rfl ?_
 have M0 := Mem.refl w
 refine aE (aA (wq (aJ (.bool false) rfl) rfl (aB (aC (aE (aA (dN rfl rfl (wq (dB Tryz.underlying22 rfl) rfl (cX rfl rfl rfl rfl ?_)))))))))
 refine wq (aJ (.bool (decide _)) rfl) rfl (aB (aC (aP (cE (.bool (decide _)) rfl ?_))))
 exact ⟨rfl, M0.below⟩
theorem aXi : pH ([] : List Body) ⟨5, 65536, 0, 0, 65536, 0, 0, 0, 0, 0⟩ = (([⟨5, 65536, 0, 0, 65536, 0, 0, 0, 0, 0⟩] : List Body), 0) := by decide
theorem aVq : pH ([⟨5, 65536, 0, 0, 65536, 0, 0, 0, 0, 0⟩] : List Body) ⟨2, 65536, 0, 0, 0, 0, 200000, 0, 0, 0⟩ = (([⟨2, 65536, 0, 0, 0, 0, 200000, 0, 0, 0⟩, ⟨5, 65536, 0, 0, 65536, 0, 0, 0, 0, 0⟩] : List Body), 0) := by decide
theorem bAw : rE ([⟨2, 65536, 0, 0, 0, 0, 200000, 0, 0, 0⟩, ⟨5, 65536, 0, 0, 65536, 0, 0, 0, 0, 0⟩] : List Body) 5 (64, 1024) = (([⟨2, 65536, 0, 0, 0, 0, 200000, 0, 0, 0⟩, ⟨5, 65536, 0, 0, 65536, 0, 0, 0, 64, 1024⟩] : List Body), 0) := by decide
theorem aNf : lL ([⟨2, 65536, 0, 0, 0, 0, 200000, 0, 0, 0⟩, ⟨5, 65536, 0, 0, 65536, 0, 0, 0, 64, 1024⟩] : List Body) = [] := by decide +kernel
theorem bIu : rM ([⟨2, 65536, 0, 0, 0, 0, 200000, 0, 0, 0⟩, ⟨5, 65536, 0, 0, 65536, 0, 0, 0, 64, 1024⟩] : List Body) = ([⟨2, 65536, 0, 0, 0, 0, 200000, 0, 0, 0⟩, ⟨5, 65536, 0, 0, 65536, 0, 1, 0, 64, 0⟩] : List Body) := by
 unfold rM kV
 rw [aNf]
 decide +kernel
theorem bJj : uH ([⟨2, 65536, 0, 0, 0, 0, 200000, 0, 0, 0⟩, ⟨5, 65536, 0, 0, 65536, 0, 0, 0, 64, 1024⟩] : List Body) = false := by
 unfold uH kV
 rw [aNf]
 decide +kernel
theorem aWe : mR ([⟨2, 65536, 0, 0, 0, 0, 200000, 0, 0, 0⟩, ⟨5, 65536, 0, 0, 65536, 0, 1, 0, 64, 0⟩] : List Body) 5 = ⟨0, ⟨5, 65536, 0, 0, 65536, 0, 1, 0, 64, 0⟩, [], 0, false⟩ := by unfold mR; rw [if_neg (by decide)]; rfl
theorem aVy : nM jQ = ([], 13) := qV (fun h => by have := h.1; revert this; decide)
theorem bHh : wL ([⟨2, 65536, 0, 0, 0, 0, 200000, 0, 0, 0⟩, ⟨5, 65536, 0, 0, 65536, 0, 1, 0, 64, 0⟩] : List Body) jQ = ([⟨2, 65536, 0, 0, 0, 0, 200000, 0, 0, 0⟩, ⟨5, 65536, 0, 0, 65536, 0, 1, 0, 64, 0⟩] : List Body) := by unfold wL; rw [if_neg (by rw [aVy]; decide)]
theorem aXk : iV ([⟨2, 65536, 0, 0, 0, 0, 200000, 0, 0, 0⟩, ⟨5, 65536, 0, 0, 65536, 0, 1, 0, 64, 0⟩] : List Body) 7 = (([⟨2, 65536, 0, 0, 0, 0, 200000, 0, 0, 0⟩, ⟨5, 65536, 0, 0, 65536, 0, 1, 0, 64, 0⟩] : List Body), 11) := by decide
theorem bHx : lW jQ := by decide
set_option maxHeartbeats 100000000 in
theorem bLs (w : World) (F : Rd w 2 (some ⟨0, 0, none⟩) 1 [[.int .u32 73856093, .int .u32 19349663]]) (N : Rd w 4 (some ⟨3, 0, none⟩) 1 [eQ lG]) :
  Calls Tryz.prog 25 #[] w (fun ex w' => ∃ v, ex = .returned v ∧ (fun v w' => v = .bool true ∧ Below w.heap.size w w') v w') := by
 refine aI #[.tmp 0] 93 Tryz.func25 rfl Tryz.results25 Tryz.ntmps25 rfl ?_
 have M0 := Mem.refl w
 refine aE (aA (wq (aJ (.bool false) rfl) rfl (aB (aC (aE (aA (aV aVm M0 rfl rfl (fun b1 w1 M1 => ?_))))))))
 have M2 := (M1.dummy default).dummy default
 refine aB (aC (aE (aA (wq (aJ (.pointer _) rfl) rfl (aB (aC (aE (aA (wq (cP [(0, .int _ _), (1, .int _ _), (3, .int _ _)] _ nT rfl rfl) rfl (bZ aQu rfl rfl (xT _ _ ⟨none, 0, 0, none, (none, default), (none, default)⟩ _ (fT.new 40 default default) (M2.ownSeg 0 3) ⟨5, 65536, 0, 0, 65536, 0, 0, 0, 0, 0⟩ ⟨by decide, by decide, by decide, by decide, by decide, by decide, by decide, by decide, by decide, by decide⟩) ?_))))))))))
 rintro v3 w3 ⟨r1, rfl, hr1, hM3⟩
 have M3 : Mem _ _ [_, _, _] _ := M2.seg 0 3 hM3
 rw [aXi] at hr1
 refine aK 12 (.int .i64 0) (iE (by rw [aXi])) (bC rfl rfl (aB (aC (aE (aA (wq (cP [(0, .int _ _)] _ eG rfl rfl) rfl (wq (cP [(0, .int _ _), (1, .int _ _), (5, .agg (List.toArray _))] _ nT rfl rfl) rfl (bZ aQu rfl rfl (xT _ _ r1 _ hr1 (M3.ownSeg 0 3) ⟨2, 65536, 0, 0, 0, 0, 200000, 0, 0, 0⟩ ⟨by decide, by decide, by decide, by decide, by decide, by decide, by decide, by decide, by decide, by decide⟩) ?_))))))))
 rintro v4 w4 ⟨r2, rfl, hr2, hM4⟩
 have M4 : Mem _ _ [_, _, _] _ := M3.seg 0 3 hM4
 rw [aVq] at hr2
 refine aK 15 (.int .i64 0) (iE (by rw [aVq])) (bC rfl rfl (aB (aC (aE (aA (wq (cP [(0, .int _ _), (1, .int _ _)] _ eG rfl rfl) rfl (bZ bEz rfl rfl (uD _ _ r2 _ hr2 (M4.ownSeg 0 3) 5 (64, 1024) (by decide) (by decide)) ?_)))))))
 rintro v5 w5 ⟨r3, rfl, hr3, hM5⟩
 have M5 : Mem _ _ [_, _, _] _ := M4.seg 0 3 hM5
 rw [bAw] at hr3
 refine aK 17 (.int .i64 0) (iE (by rw [bAw])) (bC rfl rfl (aB (aC (aE (aA (bZ bFc rfl rfl (aDk _ (F.mem M5) (N.mem M5) _ r3 _ hr3 (M5.ownSeg 0 3) (M5.away 0 3 F (by simp)) (M5.away 0 3 N (by simp))) ?_))))))
 rintro v6 w6 ⟨r4, ts, rfl, hr4, hM6⟩
 have M6 : Mem _ _ [_, _, _] _ := M5.seg 0 3 hM6
 rw [bIu] at hr4
 refine aK 18 (.agg [.int .i64 (ts : Int), .int .i64 0, .bool false].toArray) (congrArg Value.agg (by rw [aNf, bJj]; rfl)) (aV aEd M6 rfl rfl (fun b7 w7 M7 => (bG 3 _ wE M7 rfl rfl rfl rfl rfl (aT rfl) rfl (fun w8 M8 => (aB (aC (aE (aA (bZ aZz rfl rfl (xD _ _ r4 _ hr4 (M8.ownSeg 0 3) 5) ?_)))))))))
 rintro v9 w9 ⟨rfl, hM9⟩
 have M9 : Mem _ _ [_, _, _, _] _ := M8.seg 0 3 hM9
 refine wq (aH (.tuple (List.toArray _)) rfl) rfl (wq (bO (.agg (List.toArray _)) rfl rfl) rfl (aK 21 ((.agg (aF (⟨5, 65536, 0, 0, 65536, 0, 1, 0, 64, 0⟩ : Body)).toArray)) (congrArg (fun x : ResI => Value.agg (aF x.body).toArray) aWe) (wq (bO (.int _ _) rfl rfl) rfl (aK 22 (.int .i64 0) (iE (by rw [aWe])) ?_))))
 refine aV fJ M9 rfl rfl (fun b10 w10 M10 => (bG 4 _ bK M10 rfl rfl rfl rfl rfl (aT rfl) rfl (fun w11 M11 => (bC rfl rfl (aB (aC (aE (aA (cU [.int _ _, .int _ _, .int _ _, .int _ _] (jQ.map bQ) rfl gE M11 rfl rfl rfl rfl (dE rfl) (by decide) (fun b12 w12 M12 => ?_))))))))))
 have hlit23 := jT (T := 5) (b := b12) (jQ.map bQ) (oH _) rfl (by decide)
 refine aHd 5 Tryz.underlying57 Tryz.underlying5 M12 rfl rfl rfl rfl hlit23 (by decide) (fun e13 w13 M13 hR13 => (bZ bEs rfl rfl (uE _ _ r4 _ hr4 (M13.ownSeg 0 3) _ 4 4 jQ (hR13.rd M13 (bJ (i := 5) rfl)) bHx (by decide) (by decide) (hR13.awayS M13 0 3 5 rfl rfl)) ?_))
 rintro v14 w14 ⟨r5, rfl, hr5, hM14⟩
 have M14 : Mem _ _ [_, _, _, _, _, _] _ := M13.seg 0 3 hM14
 rw [bHh] at hr5
 refine aK 25 (.int .i64 13) (iE (by rw [aVy])) (bC rfl rfl (aB (aC (aE (aA (bZ bGa rfl rfl (vO _ _ r5 _ hr5 (M14.ownSeg 0 3) 7) ?_))))))
 rintro v15 w15 ⟨r6, rfl, hr6, hM15⟩
 have M15 : Mem _ _ [_, _, _, _, _, _] _ := M14.seg 0 3 hM15
 rw [aXk] at hr6
 refine aK 26 (.int .i64 11) (iE (by rw [aXk])) (bC rfl rfl (aB (aC (aE (aA (aO rfl rfl (cX rfl rfl rfl rfl (jB 28 rfl (by first | decide | omega) ?_))))))))
 refine wq (aH (.bool true) rfl) rfl (aO rfl rfl (cX rfl rfl rfl rfl (jB 31 rfl (by first | decide | omega) (wq (bM true (.bool true) rfl rfl) rfl (wq (aH (.bool true) rfl) rfl ?_)))))
 refine aO rfl rfl (cX rfl rfl rfl rfl (jB 35 rfl (by first | decide | omega) (wq (bM true (.bool true) rfl rfl) rfl (wq (aH (.bool true) rfl) rfl (wq (aD 2 vR rfl) rfl ?_)))))
 refine wq (aM 3 (.bool false) oL M15 rfl rfl rfl) rfl (wq (iD true rfl rfl) rfl (wq (bM true (.bool true) rfl rfl) rfl (wq (aH (.bool true) rfl) rfl (wq (aD 1 aIx rfl) rfl (wq (aM 3 (.int _ _) kK M15 rfl rfl rfl) rfl ?_)))))
 refine cX rfl rfl rfl rfl (jB 45 rfl rfl (wq (bM true (.bool true) rfl rfl) rfl (wq (aH (.bool true) rfl) rfl (wq (aD 6 fD rfl) rfl (wq (nQ 4 _ bI M15 rfl rfl rfl rfl) rfl ?_)))))
 refine wq (cP [(0, .int _ _)] _ eG rfl rfl) rfl (wq (aVl (bFo _ _ _ _) rfl rfl) rfl (jB 51 rfl (by decide) (wq (bM true (.bool true) rfl rfl) rfl (wq (aH (.bool true) rfl) rfl (wq (aD 8 dP rfl) rfl ?_)))))
 refine wq (nQ 4 _ bI M15 rfl rfl rfl rfl) rfl (wq (cP [(0, .int _ _)] _ eG rfl rfl) rfl (wq (aVl (bFo _ _ _ _) rfl rfl) rfl (jB 57 rfl (by decide) (wq (bM true (.bool true) rfl rfl) rfl (wq (aH (.bool true) rfl) rfl ?_)))))
 refine aO rfl rfl (cX rfl rfl rfl rfl (jB 61 rfl (by first | decide | omega) (wq (bM true (.bool true) rfl rfl) rfl (wq (aH (.bool true) rfl) rfl (aO rfl rfl ?_)))))
 refine cX rfl rfl rfl rfl (jB 65 rfl (by first | decide | omega) (wq (bM true (.bool true) rfl rfl) rfl (wq (aH (.bool true) rfl) rfl (aO rfl rfl (cX rfl rfl rfl rfl ?_)))))
 refine jB 69 rfl (by first | decide | omega) (wq (bM true (.bool true) rfl rfl) rfl (wq (aH (.bool true) rfl) rfl (bZ bFz rfl rfl (rL _ _ r6 _ hr6 (M15.ownSeg 0 3)) ?_)))
 rintro v16 w16 ⟨pb, rfl, hpb, hM16⟩
 have M16 : Mem _ _ [_, _, _, _, _, _, _] _ := M15.seg 0 3 hM16
 have hsn : 88 = pb.n := by have h := hpb.1; rwa [List.length_map, aVt] at h
 refine wq (dB Tryz.underlying57 rfl) rfl (cX rfl rfl rfl rfl (jB 74 rfl (by omega) (wq (bM true (.bool true) rfl rfl) rfl (wq (aH (.bool true) rfl) rfl (bZ aGv rfl rfl (oD _ _ r6 _ hr6 (M16.ownSeg 0 3)) ?_)))))
 rintro v17 w17 ⟨qv, rfl, hqv, hM17⟩
 have M17 : Mem _ _ [_, _, _, _, _, _, _, _] _ := M16.seg 0 3 hM17
 have hqv2 : 2 = qv.n := by simpa using hqv.1
 refine wq (dB Tryz.underlying22 rfl) rfl (cX rfl rfl rfl rfl (jB 79 rfl (by omega) (wq (bM true (.bool true) rfl rfl) rfl (wq (aH (.bool true) rfl) rfl (wq (aH (.pointer _) rfl) rfl ?_)))))
 refine wq (cP [] _ nT rfl rfl) rfl (bZ aQu rfl rfl (aIu _ ⟨0, 0, 0, 0, 0, 0, 0, 0, 0, 0⟩) ?_)
 rintro v18 w18 ⟨rfl, hb18⟩
 have M18 := M17.callB hb18
 refine cX rfl rfl rfl rfl (jB 85 rfl (by first | decide | omega) (wq (bM true (.bool true) rfl rfl) rfl (wq (aH (.bool true) rfl) rfl (wq (aH (.pointer _) rfl) rfl (bZ aGv rfl rfl (aEy _) ?_)))))
 rintro v19 w19 ⟨rfl, hb19⟩
 have M19 := M18.callB hb19
 refine wq (dB Tryz.underlying22 rfl) rfl (cX rfl rfl rfl rfl (jB 91 rfl rfl (wq (bM true (.bool true) rfl rfl) rfl (wq (aJ (.bool true) rfl) rfl (aB (aC (aP ?_)))))))
 refine cE (.bool true) rfl ?_
 exact ⟨rfl, M19.below⟩
theorem opT : ∃ fs, OpT Tryz.prog 4 59 3 40 36 38 57 5 1 fs := ⟨_, Tryz.underlying59, by kernel_rfl, by kernel_rfl, by kernel_rfl, by kernel_rfl, by kernel_rfl, by kernel_rfl, by kernel_rfl, by kernel_rfl, by kernel_rfl, by kernel_rfl, by kernel_rfl, by kernel_rfl, gE⟩
end Go.Proofs.YtlmcphcgiclanaaGreatDoor
