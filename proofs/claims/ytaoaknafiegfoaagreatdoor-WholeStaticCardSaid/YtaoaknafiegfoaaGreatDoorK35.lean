/- Part of the proof of the laws of this seat: P22, W22a, W22b, W22c, R22a, D22, K23, S23, E23, R23, R23b, Aw23, Op23, Tp24. No conditions. -/
import Derived.Test.YtaoaknafiegfoaaGreatDoorK2
import Derived.Test.YtaoaknafiegfoaaGreatDoorK5
import Derived.Test.YtaoaknafiegfoaaGreatDoorK31
import Derived.Test.YtaoaknafiegfoaaGreatDoorK28
import Derived.Test.YtaoaknafiegfoaaGreatDoorK34
import Derived.Test.YtaoaknafiegfoaaGreatDoorK32
import Derived.Test.YtaoaknafiegfoaaGreatDoorK23
import Derived.Test.YtaoaknafiegfoaaGreatDoorK33
import Derived.Test.YtaoaknafiegfoaaGreatDoorK18
import Derived.Test.YtaoaknafiegfoaaGreatDoorK3
import Derived.Test.YtaoaknafiegfoaaGreatDoorK26
set_option linter.unusedVariables false
set_option linter.unusedSimpArgs false
set_option linter.unnecessarySimpa false
namespace Go.Proofs.YtaoaknafiegfoaaGreatDoor
open Go.Bil
open Go.RowKit (Below)
open Go.Proofs
set_option maxHeartbeats 8000000 in
theorem aTq (w : World) (b : Body) (hb : Okb b) (j : Int × Int) (hj1 : -2147483648 ≤ j.1 ∧ j.1 ≤ 2147483647) (hj2 : -2147483648 ≤ j.2 ∧ j.2 ≤ 2147483647) :
  Calls Tryz.prog 124 #[(.agg (aF b).toArray), .agg [.int .i32 j.1, .int .i32 j.2].toArray] w (fun ex w' => ∃ v, ex = .returned v ∧ (fun v w' => (∃ g : Bool, v = .tuple #[(.agg (aF (oB b j)).toArray), .bool g]) ∧ Below w.heap.size w w') v w') := by
 have hv := hb.v
 have hm := hb.m
 have hp1 := bIj hj1 hm
 have hp2 := bIj hj2 hm
 refine aH #[.cell 4 39, .tmp 5] 45 Tryz.func124 rfl Tryz.results124 Tryz.ntmps124 rfl ?_
 have M0 := Mem.refl w
 refine aD (aA (bG (.agg (List.toArray _)) M0 rfl rfl rfl (fun b1 w1 M1 => (bG (.agg (List.toArray _)) M1 rfl rfl rfl (fun b2 w2 M2 => (aP gH M2 rfl rfl (fun b3 w3 M3 => (wq (aI (.bool false) rfl) rfl (aB (aC (aD (aA ?_))))))))))))
 refine aP aOu M3 rfl rfl (fun b4 w4 M4 => (dX 3 (.bool false) mV M4 rfl rfl rfl rfl rfl rfl (fun w5 M5 => (aB (aC (aD (aA (wq (aE 8 eK rfl) rfl (wq (aE 0 dS rfl) rfl (wq (aM 0 (.int _ _) aW M5 rfl rfl rfl) rfl ?_))))))))))
 refine wq (bY gB Tryz.underlying2 rfl (kT _ (by omega) (by omega))) rfl (wq (aE 0 dS rfl) rfl (wq (aM 1 (.int _ _) aW M5 rfl rfl rfl) rfl (wq (bY gB Tryz.underlying2 rfl (kT _ (by omega) (by omega))) rfl (wq (aE 4 eQ rfl) rfl (wq (aM 0 (.int _ _) aW M5 rfl rfl rfl) rfl ?_)))))
 refine wq (bY gB Tryz.underlying2 rfl (kT _ (by omega) (by omega))) rfl (wq (gJ rfl rfl (by omega) (by omega)) rfl (wq (gT rfl rfl (by decide)) rfl (aV 20 (.int .i64 (j.1 * b.mass / 65536)) (iE (nF _)) (wq (bP rfl rfl (by omega) (by omega)) rfl (bI rfl rfl ?_)))))
 refine aB (aC (aD (aA (wq (aE 8 eK rfl) rfl (wq (aE 1 dG rfl) rfl (wq (aM 0 (.int _ _) aW M5 rfl rfl rfl) rfl (wq (bY gB Tryz.underlying2 rfl (kT _ (by omega) (by omega))) rfl (wq (aE 1 dG rfl) rfl ?_))))))))
 refine wq (aM 1 (.int _ _) aW M5 rfl rfl rfl) rfl (wq (bY gB Tryz.underlying2 rfl (kT _ (by omega) (by omega))) rfl (wq (aE 4 eQ rfl) rfl (wq (aM 0 (.int _ _) aW M5 rfl rfl rfl) rfl (wq (bY gB Tryz.underlying2 rfl (kT _ (by omega) (by omega))) rfl (wq (gJ rfl rfl (by omega) (by omega)) rfl ?_)))))
 refine wq (gT rfl rfl (by decide)) rfl (aV 33 (.int .i64 (j.2 * b.mass / 65536)) (iE (nF _)) (wq (bP rfl rfl (by omega) (by omega)) rfl (bI rfl rfl (aB (aC (aD (aA (aZ rfl rfl ?_))))))))
 refine cS [.pointer _] [[.pointer (some ⟨b4, 0, none⟩)]] rfl aCk M5 rfl rfl rfl rfl (cY rfl) (by decide) (fun b6 w6 M6 => ?_)
 have hlit36 := jK (T := 174) (sz := 1) (b := b6) (nn := 1) [[.pointer (some ⟨b4, 0, none⟩)]] (by simp) rfl (by decide)
 refine bZ aAs rfl rfl (kX _ (b.vx + j.1 * b.mass / 65536) 16777216 ⟨by decide, by decide⟩ b4 _ _ 1 (hlit36.rd M6 (aS (i := 4) rfl)) (hlit36.awayB M6 4 3 rfl rfl rfl) (M6.ownSeg 3 1)) ?_
 rintro v7 w7 ⟨rfl, hM7⟩
 have M7 : Mem _ _ [_, _, _, _, _] _ := M6.seg 3 1 hM7
 refine aZ rfl rfl (cS [.pointer _] [[.pointer (some ⟨b4, 0, none⟩)]] rfl aCk M7 rfl rfl rfl rfl (cY rfl) (by decide) (fun b8 w8 M8 => ?_))
 have hlit39 := jK (T := 174) (sz := 1) (b := b8) (nn := 1) [[.pointer (some ⟨b4, 0, none⟩)]] (by simp) rfl (by decide)
 refine bZ aAs rfl rfl (kX _ (b.vy + j.2 * b.mass / 65536) 16777216 ⟨by decide, by decide⟩ b4 _ _ 1 (hlit39.rd M8 (aS (i := 5) rfl)) (hlit39.awayB M8 5 3 rfl rfl rfl) (M8.ownSeg 3 1)) ?_
 rintro v9 w9 ⟨rfl, hM9⟩
 have M9 : Mem _ _ [_, _, _, _, _, _] _ := M8.seg 3 1 hM9
 refine wq (cH [(0, .int _ _), (1, .int _ _)] _ fD rfl rfl) rfl (wq (aE 8 eK rfl) rfl (aEa 0 _ bK M9 rfl rfl rfl rfl rfl (aQ rfl) (Nat.le_of_ble_eq_true rfl) (fun w10 M10 => (aB (aC (aD (bO [(0, 1), (1, 1), (2, 2), (3, 0)] mixed rfl (by kernel_rfl) (fun w11 hb11 hh11 => ?_))))))))
 have M11 := M10.drew hb11 hh11
 refine bW rfl rfl rfl (bC 0 bJ M11 rfl rfl rfl) (bW rfl rfl rfl (aM 3 (.bool _) mV M11 rfl rfl rfl) (dU [false, true] rfl (by kernel_rfl) (bA 2 _ bJ M11 rfl rfl rfl rfl rfl (aQ rfl) rfl (fun w12 M12 => ?_))))
 refine aB (aC ⟨(eL (bQ rfl (aM 3 (.bool _) mV M12 rfl rfl rfl)) dT), ?_⟩)
 refine aY rfl rfl rfl (fun _ => aI (.bool _) rfl) (cB (aC (aL (aDd (v2 := .bool _) 2 bJ M12 rfl rfl rfl rfl ?_))))
 exact ⟨⟨_, rfl⟩, M12.below⟩
set_option maxHeartbeats 4000000 in
theorem zH (w : World) (b : Nat) :
  Calls Tryz.prog 60 #[.pointer (some ⟨b, 0, none⟩)] w (fun ex w' => ∃ v, ex = .returned v ∧ (fun v w' => v = .pointer (some ⟨b, 0, none⟩) ∧ Below w.heap.size w w') v w') := by
 refine aH #[.tmp 2] 8 Tryz.func60 rfl Tryz.results60 Tryz.ntmps60 rfl ?_
 have M0 := Mem.refl w
 refine aD (aA (wq (aI (.pointer _) rfl) rfl (aB (aC (aD (aD (aA (wq (aG (.pointer _) rfl) rfl (wq (eN false Tryz.underlying25 rfl rfl) rfl (aB (aC ?_)))))))))))
 refine cC rfl (aK (aC (aD (aA (wq (aG (.pointer _) rfl) rfl (wq (aN rfl) rfl (wq (aE 0 pV rfl) rfl (wq (aI (.pointer _) rfl) rfl ?_))))))))
 refine aB (aC (aL (cA (.pointer _) rfl ?_)))
 exact ⟨rfl, M0.below⟩
set_option maxHeartbeats 4000000 in
theorem aRj (w : World) (b : Nat) (r : StV) (vs : List Body) (hW : cF 39 r vs) (hO : Own [(some b, bc [.slice r.A r.n r.c, .map r.p] 107), r.er, r.em] w) (x : Body) (hx : InB x) :
  Calls Tryz.prog 26 #[.pointer (some ⟨b, 0, none⟩), (.agg (aF x).toArray)] w (fun ex w' => ∃ v, ex = .returned v ∧ (fun v w' => ∃ r' : StV, v = .int .i64 (iX vs x).2 ∧ cF 39 r' ((iX vs x).1) ∧ Mem w (bH [(some b, bc [.slice r.A r.n r.c, .map r.p] 107), r.er, r.em]) [(some b, bc [.slice r'.A r'.n r'.c, .map r'.p] 107), r'.er, r'.em] w') v w') := by
 obtain ⟨hG, m, hs, hR⟩ := hW
 refine aH #[.tmp 4] 15 Tryz.func26 rfl Tryz.results26 Tryz.ntmps26 rfl ?_
 have M0 := hO.mem
 refine aD (aA (bG (.agg (List.toArray _)) M0 rfl rfl rfl (fun b1 w1 M1 => (bI rfl rfl (aB (aC (aD (aD (aA (wq (aG (.pointer _) rfl) rfl (bZ aXu rfl rfl (zH _ b) ?_)))))))))))
 rintro v2 w2 ⟨rfl, hb2⟩
 have M2 := M1.callB hb2
 refine wq (aI (.pointer _) rfl) rfl (aB (aC (aD (aA (wq (aG (.pointer _) rfl) rfl (wq (sA true Tryz.underlying119 rfl rfl) rfl (aB (aC (cQ rfl ?_)))))))))
 refine aD (bO [(0, 0), (1, 0), (2, 0), (3, 1), (4, 2), (5, 0)] mixed rfl (by kernel_rfl) (fun w3 hb3 hh3 => ?_))
 have M3 := M2.drew hb3 hh3
 refine aY rfl rfl rfl (fun _ => aG (.pointer _) rfl) (aY rfl rfl rfl (fun _ => aN rfl) (aY rfl rfl rfl (fun _ => aE 0 nZ rfl) (bW rfl rfl rfl (bC 3 bJ M3 rfl rfl rfl) (dU [true] rfl (by kernel_rfl) (bZ bDg rfl rfl (aNi _ _ _ _ _ _ _ _ _ hs (M3.ownSeg 0 3) x) ?_)))))
 rintro v4 w4 ⟨rfl, A4, n4, c4, p4, er4, em4, hs4, hM4⟩
 have M4 : Mem _ _ [_, _, _, _] _ := M3.seg 0 3 hM4
 refine aB (aC ⟨dT, ?_⟩)
 refine qO rfl rfl rfl (cB (aC (aL (cD (cA (.int _ _) rfl ?_)))))
 obtain ⟨q1, q2⟩ := hR.add x
 exact ⟨⟨A4, n4, c4, p4, er4, em4⟩, by rw [q2], xO hs4 q1 (bBw (hG.inm hR) hx), M4.keep [true, true, true, false]⟩
set_option maxHeartbeats 4000000 in
theorem aEw (w : World) (b : Nat) (r : StV) (vs : List Body) (hW : cF 39 r vs) (hO : Own [(some b, bc [.slice r.A r.n r.c, .map r.p] 107), r.er, r.em] w) (key : Int) :
  Calls Tryz.prog 86 #[.pointer (some ⟨b, 0, none⟩), .int .u32 key] w (fun ex w' => ∃ v, ex = .returned v ∧ (fun v w' => ∃ r' : StV, v = .int .i64 (iR vs key).2 ∧ cF 39 r' ((iR vs key).1) ∧ Mem w (bH [(some b, bc [.slice r.A r.n r.c, .map r.p] 107), r.er, r.em]) [(some b, bc [.slice r'.A r'.n r'.c, .map r'.p] 107), r'.er, r'.em] w') v w') := by
 obtain ⟨hG, m, hs, hR⟩ := hW
 refine aH #[.tmp 4] 15 Tryz.func86 rfl Tryz.results86 Tryz.ntmps86 rfl ?_
 have M0 := hO.mem
 refine aD (aA (bI rfl rfl (aB (aC (aD (aD (aA (wq (aG (.pointer _) rfl) rfl (bZ aXu rfl rfl (zH _ b) ?_)))))))))
 rintro v1 w1 ⟨rfl, hb1⟩
 have M1 := M0.callB hb1
 refine wq (aI (.pointer _) rfl) rfl (aB (aC (aD (aA (wq (aG (.pointer _) rfl) rfl (wq (sA true Tryz.underlying119 rfl rfl) rfl (aB (aC (cQ rfl ?_)))))))))
 refine aD (aA (wq (aG (.pointer _) rfl) rfl (wq (aN rfl) rfl (wq (aE 0 nZ rfl) rfl (aZ rfl rfl (bZ bDo rfl rfl (aMp _ _ _ _ _ _ _ _ _ hs (M1.ownSeg 0 3) key) ?_))))))
 rintro v2 w2 ⟨rfl, A2, n2, c2, p2, er2, em2, hs2, hM2⟩
 have M2 : Mem _ _ [_, _, _] _ := M1.seg 0 3 hM2
 refine bI rfl rfl (aB (aC (aL (cD (cA (.int _ _) rfl ?_)))))
 obtain ⟨q1, q2⟩ := hR.remove key
 exact ⟨⟨A2, n2, c2, p2, er2, em2⟩, by rw [q2], xO hs2 q1 (aMb hs.keys (hG.inm hR)), M2.keep [true, true, true]⟩
set_option maxHeartbeats 4000000 in
theorem aSo (w : World) (b : Nat) (r : StV) (vs : List Body) (hW : cF 39 r vs) (hO : Own [(some b, bc [.slice r.A r.n r.c, .map r.p] 107), r.er, r.em] w) (key : Int) :
  Calls Tryz.prog 69 #[.pointer (some ⟨b, 0, none⟩), .int .u32 key] w (fun ex w' => ∃ v, ex = .returned v ∧ (fun v w' => v = .tuple #[(.agg (aF (sH vs key).body).toArray), .int .i64 (sH vs key).err] ∧ Mem w (bH [(some b, bc [.slice r.A r.n r.c, .map r.p] 107), r.er, r.em]) [(some b, bc [.slice r.A r.n r.c, .map r.p] 107), r.er, r.em] w') v w') := by
 obtain ⟨hG, m, hs, hR⟩ := hW
 refine aH #[.cell 4 39, .tmp 5] 19 Tryz.func69 rfl Tryz.results69 Tryz.ntmps69 rfl ?_
 have M0 := hO.mem
 refine aD (aA (aP gH M0 rfl rfl (fun b1 w1 M1 => (bI rfl rfl (aB (aC (aD (aD (aA (wq (aG (.pointer _) rfl) rfl (bZ aXu rfl rfl (zH _ b) ?_)))))))))))
 rintro v2 w2 ⟨rfl, hb2⟩
 have M2 := M1.callB hb2
 refine wq (aI (.pointer _) rfl) rfl (aB (aC (aD (aA (wq (aG (.pointer _) rfl) rfl (wq (sA true Tryz.underlying119 rfl rfl) rfl (aB (aC (cQ rfl ?_)))))))))
 refine aD (aA (wq (aG (.pointer _) rfl) rfl (wq (aN rfl) rfl (wq (aE 0 nZ rfl) rfl (aZ rfl rfl (bZ bHh rfl rfl (bAe _ _ _ _ _ _ _ _ _ hs (M2.ownSeg 0 3) key) ?_))))))
 rintro v3 w3 ⟨⟨x3, rfl, hx3⟩, hM3⟩
 have M3 : Mem _ _ [_, _, _, _] _ := M2.seg 0 3 hM3
 have hge := aYs hR key
 obtain rfl : x3 = (sH vs key).body := by rw [hx3, hge]
 have hge2 : (zD m key).2 = (sH vs key).err := by rw [hge]
 refine wq (bB (.agg (List.toArray _)) rfl rfl) rfl (wq (bB (.int _ _) rfl rfl) rfl (aV 17 (.int .i64 (sH vs key).err) (iE hge2) (bA 3 _ bJ M3 rfl rfl rfl rfl rfl (aQ rfl) rfl (fun w4 M4 => (bI rfl rfl (aB (aC (aL (cD ?_)))))))))
 refine aDd (v2 := .int _ _) 3 bJ M4 rfl rfl rfl rfl ?_
 exact ⟨rfl, M4.keep [true, true, true, false]⟩
set_option maxHeartbeats 4000000 in
theorem oQ (w : World) (b : Nat) (r : StV) (vs : List Body) (hW : cF 39 r vs) (hO : Own [(some b, bc [.slice r.A r.n r.c, .map r.p] 107), r.er, r.em] w) :
  Calls Tryz.prog 38 #[.pointer (some ⟨b, 0, none⟩)] w (fun ex w' => ∃ v, ex = .returned v ∧ (fun v w' => ∃ q : Row, v = .slice q.A q.n q.c ∧ aU 39 10 q.A q.n q.c ((vs).map aF) q.e ∧ Mem w (bH [(some b, bc [.slice r.A r.n r.c, .map r.p] 107), r.er, r.em]) [(some b, bc [.slice r.A r.n r.c, .map r.p] 107), r.er, r.em, q.e] w') v w') := by
 have hW' := hW
 obtain ⟨hG, m, hs, hR⟩ := hW
 refine aH #[.tmp 2] 10 Tryz.func38 rfl Tryz.results38 Tryz.ntmps38 rfl ?_
 have M0 := hO.mem
 refine aD (aA (eG rfl rfl (aB (aC (aD (aD (aA (wq (aG (.pointer _) rfl) rfl (wq (eN false Tryz.underlying25 rfl rfl) rfl (aB (aC ?_)))))))))))
 refine cC rfl (aK (aC (aD (aA (wq (aG (.pointer _) rfl) rfl (wq (aN rfl) rfl (wq (aE 0 pV rfl) rfl (wq (aE 0 nZ rfl) rfl ?_))))))))
 refine bZ bIt rfl rfl (aKh _ _ _ _ _ _ _ _ _ hs (M0.ownSeg 0 3)) ?_
 rintro v1 w1 ⟨A1, n1, c1, e1, rfl, hR1, hM1⟩
 have M1 : Mem _ _ [_, _, _, _] _ := M0.seg 0 3 hM1
 rw [hR.eq] at hR1
 refine eG rfl rfl (aB (aC (aL (cA (.slice _ _ _) rfl ?_))))
 exact ⟨⟨A1, n1, c1, e1⟩, rfl, hR1, M1⟩
set_option maxHeartbeats 4000000 in
theorem qF (w : World) (b : Nat) (r : StV) (vs : List Body) (hW : cF 39 r vs) (hO : Own [(some b, bc [.slice r.A r.n r.c, .map r.p] 107), r.er, r.em] w) :
  Calls Tryz.prog 24 #[.pointer (some ⟨b, 0, none⟩)] w (fun ex w' => ∃ v, ex = .returned v ∧ (fun v w' => ∃ q : Row, v = .slice q.A q.n q.c ∧ aU 5 1 q.A q.n q.c ((mS vs).map bX) q.e ∧ Mem w (bH [(some b, bc [.slice r.A r.n r.c, .map r.p] 107), r.er, r.em]) [(some b, bc [.slice r.A r.n r.c, .map r.p] 107), r.er, r.em, q.e] w') v w') := by
 have hW' := hW
 obtain ⟨hG, m, hs, hR⟩ := hW
 refine aH #[.tmp 2] 14 Tryz.func24 rfl Tryz.results24 Tryz.ntmps24 rfl ?_
 have M0 := hO.mem
 refine aD (aA (eG rfl rfl (aB (aC (aD (aD (aA (wq (aG (.pointer _) rfl) rfl (wq (eN false Tryz.underlying25 rfl rfl) rfl (aB (aC ?_)))))))))))
 refine cC rfl (aK (aC (aD (aA (wq (aG (.pointer _) rfl) rfl (bZ aOq rfl rfl (oQ _ _ r _ hW' (M0.ownSeg 0 3)) ?_))))))
 rintro v1 w1 ⟨q, rfl, hq, hM1⟩
 have M1 : Mem _ _ [_, _, _, _] _ := M0.seg 0 3 hM1
 have hqn : vs.length = q.n := by simpa using hq.1
 have hvl := hG.len
 refine bZ bKc rfl rfl (aEv _ _ _ _ vs (hq.rd M1 (aS (i := 3) rfl)) (by omega) hG.chk hG.inb) ?_
 rintro v2 w2 ⟨z, rfl, hz, hM2⟩
 have M2 : Mem _ _ [_, _, _, _, _] _ := M1.call0 hM2
 refine wq (aG (.tuple (List.toArray _)) rfl) rfl (wq (bB (.slice _ _ _) rfl rfl) rfl (wq (bB (.int _ _) rfl rfl) rfl (eG rfl rfl (bI rfl rfl (aB (aC (aD (aA ?_))))))))
 refine dN rfl rfl (eG rfl rfl (aB (aC (aL (cA (.slice _ _ _) rfl ?_)))))
 exact ⟨z, rfl, hz, M2.keep [true, true, true, false, true]⟩
set_option maxHeartbeats 8000000 in
theorem aBn (w : World) (b : Nat) (r : StV) (vs : List Body) (hW : cF 39 r vs) (hO : Own [(some b, bc [.slice r.A r.n r.c, .map r.p] 107), r.er, r.em] w) (key : Int) (j : Int × Int) (hj1 : -2147483648 ≤ j.1 ∧ j.1 ≤ 2147483647) (hj2 : -2147483648 ≤ j.2 ∧ j.2 ≤ 2147483647) :
  Calls Tryz.prog 91 #[.pointer (some ⟨b, 0, none⟩), .int .u32 key, .agg [.int .i32 j.1, .int .i32 j.2].toArray] w (fun ex w' => ∃ v, ex = .returned v ∧ (fun v w' => ∃ r' : StV, v = .int .i64 (sB vs key j).2 ∧ cF 39 r' ((sB vs key j).1) ∧ Mem w (bH [(some b, bc [.slice r.A r.n r.c, .map r.p] 107), r.er, r.em]) [(some b, bc [.slice r'.A r'.n r'.c, .map r'.p] 107), r'.er, r'.em] w') v w') := by
 have hW' := hW
 obtain ⟨hG, m, hs, hR⟩ := hW
 refine aH #[.tmp 6] 30 Tryz.func91 rfl Tryz.results91 Tryz.ntmps91 rfl ?_
 have M0 := hO.mem
 refine aD (aA (bG (.agg (List.toArray _)) M0 rfl rfl rfl (fun b1 w1 M1 => (bI rfl rfl (aB (aC (aD (aA (wq (aG (.pointer _) rfl) rfl (aZ rfl rfl ?_))))))))))
 refine bZ bIp rfl rfl (aSo _ _ r vs hW' (M1.ownSeg 0 3) key) ?_
 rintro v2 w2 ⟨rfl, hM2⟩
 have M2 : Mem _ _ [_, _, _, _] _ := M1.seg 0 3 hM2
 refine wq (aG (.tuple (List.toArray _)) rfl) rfl (wq (bB (.agg (List.toArray _)) rfl rfl) rfl (wq (bB (.int _ _) rfl rfl) rfl (aP gH M2 rfl rfl (fun b3 w3 M3 => (bA 4 _ bJ M3 rfl rfl rfl rfl rfl (aQ rfl) rfl (fun w4 M4 => (bI rfl rfl ?_)))))))
 refine aB (aC (aD (aD (aA (aZ rfl rfl (dB rfl rfl rfl rfl (aB (aC ?_))))))))
 refine aX rfl (fun h16 => ?_) (fun h16 => ?_)
 ·refine aD (aA (aZ rfl rfl (bI rfl rfl (aB (aC (aL (cD (cA (.int _ _) rfl ?_))))))))
  have hf : cI key vs < 0 := Decidable.byContradiction fun h => h16 (by unfold sH; rw [if_neg h]; rfl)
  exact ⟨r, by rw [aGk j hf]; unfold sH; rw [if_pos hf], by rw [aGk j hf]; exact hW', M4.keep [true, true, true, false, false]⟩
 ·have hf : ¬ cI key vs < 0 := fun h => h16 (by unfold sH; rw [if_pos h]; decide)
  obtain ⟨i, bb, hbi, _, hfi⟩ := (dM key vs).resolve_left (fun h => hf (by omega))
  have hgb : (sH vs key).body = bb := by unfold sH; rw [if_neg hf]; exact yS hfi hbi
  obtain ⟨z1, z2, z3, z4⟩ := bAm hR hG j hfi hbi
  have hbo := hG.okb bb (List.mem_of_getElem? hbi)
  refine aK (aC (aD (aA (wq (bC 4 bJ M4 rfl rfl rfl) rfl (aV 19 ((.agg (aF bb).toArray)) (congrArg (fun x => Value.agg (aF x).toArray) hgb) (wq (bC 3 bK M4 rfl rfl rfl) rfl (bZ bHr rfl rfl (aTq _ bb hbo j hj1 hj2) ?_)))))))
  rintro v5 w5 ⟨⟨gg, rfl⟩, hb5⟩
  have M5 := M4.callB hb5
  refine wq (aG (.tuple (List.toArray _)) rfl) rfl (wq (bB (.agg (List.toArray _)) rfl rfl) rfl (wq (bB (.bool _) rfl rfl) rfl (bA 4 _ bJ M5 rfl rfl rfl rfl rfl (aQ rfl) rfl (fun w6 M6 => (aB (aC (aD (bO [(0, 0), (1, 0), (2, 0), (3, 0), (4, 1), (5, 2), (6, 0)] mixed rfl (by kernel_rfl) (fun w7 hb7 hh7 => ?_)))))))))
  have M7 := M6.drew hb7 hh7
  refine aY rfl rfl rfl (fun _ => aG (.pointer _) rfl) (aY rfl rfl rfl (fun _ => aN rfl) (aY rfl rfl rfl (fun _ => aE 0 pV rfl) (aY rfl rfl rfl (fun _ => aE 0 nZ rfl) (bW rfl rfl rfl (bC 4 bJ M7 rfl rfl rfl) (dU [true] rfl (by kernel_rfl) ?_)))))
  refine bZ bHw rfl rfl (bCd _ _ _ _ _ _ _ _ _ hs (M7.ownSeg 0 3) (oB bb j)) ?_
  rintro v8 w8 ⟨rfl, A8, n8, c8, p8, er8, em8, hs8, hM8⟩
  have M8 : Mem _ _ [_, _, _, _, _] _ := M7.seg 0 3 hM8
  refine aB (aC ⟨dT, ?_⟩)
  refine qO rfl rfl rfl (cB (aC (aL (cA (.int _ _) rfl ?_))))
  exact ⟨⟨A8, n8, c8, p8, er8, em8⟩, by rw [z3, z2], xO hs8 z1 (bAz (hG.inm hR) (bBd (hG.inb bb (List.mem_of_getElem? hbi)) j)), M8.keep [true, true, true, false, false]⟩
set_option maxHeartbeats 8000000 in
theorem nK (w : World) (b : Nat) (r : StV) (vs : List Body) (hW : cF 39 r vs) (hO : Own [(some b, bc [.slice r.A r.n r.c, .map r.p] 107), r.er, r.em] w) (A : Option Addr) (n c : Nat) (xs : List Body) (RA : Rd w 10 A n (xs.map aF)) (hX : GoodV xs) (hdA : 0 < n → ∀ q off, A = some ⟨q, off, none⟩ → q ∉ bH [(some b, bc [.slice r.A r.n r.c, .map r.p] 107), r.er, r.em]) :
  Calls Tryz.prog 78 #[.pointer (some ⟨b, 0, none⟩), .slice A n c] w (fun ex w' => ∃ v, ex = .returned v ∧ (fun v w' => ∃ r' : StV, v = .tuple #[] ∧ cF 39 r' (xs) ∧ Mem w (bH [(some b, bc [.slice r.A r.n r.c, .map r.p] 107), r.er, r.em]) [(some b, bc [.slice r'.A r'.n r'.c, .map r'.p] 107), r'.er, r'.em] w') v w') := by
 have hlen : xs.length = n := by simpa using RA.len
 have hbd := RA.bound
 have hxl := hX.len
 refine aH #[] 23 Tryz.func78 rfl Tryz.results78 Tryz.ntmps78 rfl ?_
 have M0 := hO.mem
 refine aD (aA (wq (aG (.pointer _) rfl) rfl (wq (cH [] _ aQk rfl rfl) rfl (wq (aN rfl) rfl (wq (aE 0 pV rfl) rfl (bA 0 _ bGu M0 rfl rfl rfl rfl rfl (aQ rfl) rfl (fun w1 M1 => ?_)))))))
 refine aB (aC (aD (aA ?_)))
 have M2 : Mem _ _ [_, _, _] _ := (((M1.keep [true, false, false]).dummy default).dummy default)
 refine dN rfl rfl (wq (cT Tryz.underlying29 rfl) rfl (aZ rfl rfl (aB (aC (aT (dI (σ := Nat × StV) [0, 10, 11] (fun (k, r2) => [(12, .int .i64 (k : Int))]) (fun (k, r2) w' => (k ≤ n ∧ StoreIs 39 r2.A r2.n r2.c r2.p r2.er r2.em (xs.take k)) ∧ Mem w (bH [(some b, bc [.slice r.A r.n r.c, .map r.p] 107), r.er, r.em]) [(some b, bc [.slice r2.A r2.n r2.c, .map r2.p] 107), r2.er, r2.em] w') (fun (k, r2) => n - k) (0, ⟨none, 0, 0, none, (none, default), (none, default)⟩) (bM rfl eP) (⟨⟨by omega, (StoreIs.nil 39 default default)⟩, M2⟩) ?_))))))
 rintro ⟨k, r2⟩ ρ3 w3 ⟨⟨hk, hr⟩, hM3⟩
 refine aD (aA (dB rfl rfl rfl rfl (aB (aC (aD ?_)))))
 refine aX rfl (fun h13 => ?_) (fun h13 => ?_)
 ·obtain ⟨xb, hxb⟩ := cM (xs := xs) (k := k) hlen (by omega)
  refine aK (aC (aD (aT (aD (aA (wq (bR (k) dF rfl rfl rfl ((RA.memY hM3 hdA).below_len (aJ aF hxb)) ((RA.memY hM3 hdA).someK (aJ aF hxb))) rfl (wq (dJ _ bJ (RA.memY hM3 hdA) (aJ aF hxb) rfl) rfl (aP gH hM3 rfl rfl (fun b4 w4 M4 => ?_)))))))))
  refine bA 3 _ bJ M4 rfl rfl rfl rfl rfl (aQ rfl) rfl (fun w5 M5 => (aB (aC (bO [(0, 0), (1, 0), (2, 0), (3, 0), (4, 1), (5, 2)] mixed rfl (by kernel_rfl) (fun w6 hb6 hh6 => ?_)))))
  have M6 := M5.drew hb6 hh6
  refine aY rfl rfl rfl (fun _ => aG (.pointer _) rfl) (aY rfl rfl rfl (fun _ => aN rfl) (aY rfl rfl rfl (fun _ => aE 0 pV rfl) (aY rfl rfl rfl (fun _ => aE 0 nZ rfl) (bW rfl rfl rfl (bC 3 bJ M6 rfl rfl rfl) (dU [true] rfl (by kernel_rfl) ?_)))))
  refine bZ bDg rfl rfl (aNi _ _ _ _ _ _ _ _ _ hr (M6.ownSeg 0 3) xb) ?_
  rintro v7 w7 ⟨rfl, A7, n7, c7, p7, er7, em7, hs7, hM7⟩
  have M7 : Mem _ _ [_, _, _, _] _ := M6.seg 0 3 hM7
  refine aB (aC ⟨dT, ?_⟩)
  refine cB (dD (aC (aA (wq (bP rfl rfl (by omega) (by omega)) rfl (aZ rfl rfl (aB ?_))))))
  refine cO (k + 1, ⟨A7, n7, c7, p7, er7, em7⟩) (bM rfl eP) (cU rfl (cU rfl (cU rfl jT))) ?_ ?_
  ·exact ⟨⟨by omega, by rw [← aJe hX (k + 1) (by omega), aAu hxb, aJe hX k (by omega)]; exact hs7⟩, M7.keep [true, true, true, false]⟩
  ·(show n - (k + 1) < n - k; omega)
 ·obtain rfl : k = n := by omega
  rw [List.take_of_length_le (by omega)] at hr
  refine cR (dC (dA (eZ (jD ?_))))
  exact ⟨r2, rfl, ⟨hX, xs, hr, aXv hX.s⟩, hM3⟩
set_option maxHeartbeats 8000000 in
theorem aLv (w : World) (F : Rd w 2 (some ⟨0, 0, none⟩) 1 [[.int .u32 73856093, .int .u32 19349663]]) (N : Rd w 4 (some ⟨3, 0, none⟩) 1 [cX gL]) (b : Nat) (r : StV) (vs : List Body) (hW : cF 39 r vs) (hO : Own [(some b, bc [.slice r.A r.n r.c, .map r.p] 107), r.er, r.em] w) (hdF : 0 < 1 → ∀ q off, (some ⟨0, 0, none⟩ : Option Addr) = some ⟨q, off, none⟩ → q ∉ bH [(some b, bc [.slice r.A r.n r.c, .map r.p] 107), r.er, r.em]) (hdN : 0 < 1 → ∀ q off, (some ⟨3, 0, none⟩ : Option Addr) = some ⟨q, off, none⟩ → q ∉ bH [(some b, bc [.slice r.A r.n r.c, .map r.p] 107), r.er, r.em]) :
  Calls Tryz.prog 53 #[.pointer (some ⟨b, 0, none⟩)] w (fun ex w' => ∃ v, ex = .returned v ∧ (fun v w' => ∃ (r' : StV) (t : Nat), v = .agg [.int .i64 (t : Int), .int .i64 ((kJ vs).length : Int), .bool (pG vs)].toArray ∧ cF 39 r' (lM vs) ∧ Mem w (bH [(some b, bc [.slice r.A r.n r.c, .map r.p] 107), r.er, r.em]) [(some b, bc [.slice r'.A r'.n r'.c, .map r'.p] 107), r'.er, r'.em] w') v w') := by
 have hW' := hW
 obtain ⟨hG, m, hs, hR⟩ := hW
 have hvl := hG.len
 refine aH #[.cell 2 58] 18 Tryz.func53 rfl Tryz.results53 Tryz.ntmps53 rfl ?_
 have M0 := hO.mem
 refine aD (aA (aP mE M0 rfl rfl (fun b1 w1 M1 => (aB (aC (aD (aD (aA (wq (aG (.pointer _) rfl) rfl (wq (eN false Tryz.underlying25 rfl rfl) rfl (aB (aC ?_))))))))))))
 refine cC rfl (aK (aC (aD (aA (wq (aG (.pointer _) rfl) rfl (bZ aOq rfl rfl (oQ _ _ r _ hW' (M1.ownSeg 0 3)) ?_))))))
 rintro v2 w2 ⟨q, rfl, hq, hM2⟩
 have M2 : Mem _ _ [_, _, _, _, _] _ := M1.seg 0 3 hM2
 have hqn : vs.length = q.n := by simpa using hq.1
 refine bZ aVl rfl rfl (vG _ (F.memY M2 hdF) (N.memY M2 hdN) _ _ _ vs (hq.rd M2 (aS (i := 4) rfl)) hG.okb hG.s (by omega)) ?_
 rintro v3 w3 ⟨ra, ta, rfl, h1ta, h2ta, hra, hM3⟩
 have M3 : Mem _ _ [_, _, _, _, _, _] _ := M2.call0 hM3
 refine wq (aG (.tuple (List.toArray _)) rfl) rfl (wq (bB (.slice _ _ _) rfl rfl) rfl (wq (bB (.agg (List.toArray _)) rfl rfl) rfl (aP mE M3 rfl rfl (fun b4 w4 M4 => (eG rfl rfl (bA 6 _ kC M4 rfl rfl rfl rfl rfl (aQ rfl) rfl (fun w5 M5 => ?_)))))))
 refine aB (aC (aD (aA (wq (aG (.pointer _) rfl) rfl (dN rfl rfl (bZ aXk rfl rfl (nK _ _ r _ hW' (M5.ownSeg 0 3) ra.A ra.n ra.c (lM vs) (hra.rd M5 (aS (i := 5) rfl)) hG.step (hra.awayS M5 0 3 5 rfl rfl)) ?_))))))
 rintro v6 w6 ⟨r2, rfl, hw2, hM6⟩
 have M6 : Mem _ _ [_, _, _, _, _, _, _] _ := M5.seg 0 3 hM6
 refine aB (aC (aD (aA (wq (bC 6 kC M6 rfl rfl rfl) rfl (bA 3 _ kC M6 rfl rfl rfl rfl rfl (aQ rfl) rfl (fun w7 M7 => (aB (aC (aL (eO 3 kC M7 rfl rfl rfl ?_))))))))))
 exact ⟨r2, ta, rfl, hw2, M7.keep [true, true, true, false, false, false, false]⟩
set_option maxHeartbeats 8000000 in
theorem aBt (w : World) (b : Nat) (r : StV) (vs : List Body) (hW : cF 39 r vs) (hO : Own [(some b, bc [.slice r.A r.n r.c, .map r.p] 107), r.er, r.em] w) (BA : Option Addr) (nn cc : Nat) (ls : List Int) (RS : Rd w 1 BA nn (ls.map bX)) (hB : iW ls) (hcap : nn ≤ cc) (hnn : nn ≤ 1000000) (hdB : 0 < nn → ∀ q off, BA = some ⟨q, off, none⟩ → q ∉ bH [(some b, bc [.slice r.A r.n r.c, .map r.p] 107), r.er, r.em]) :
  Calls Tryz.prog 74 #[.pointer (some ⟨b, 0, none⟩), .slice BA nn cc] w (fun ex w' => ∃ v, ex = .returned v ∧ (fun v w' => ∃ r' : StV, v = .int .i64 (kS ls).2 ∧ cF 39 r' (zK vs ls) ∧ Mem w (bH [(some b, bc [.slice r.A r.n r.c, .map r.p] 107), r.er, r.em]) [(some b, bc [.slice r'.A r'.n r'.c, .map r'.p] 107), r'.er, r'.em] w') v w') := by
 have hW' := hW
 obtain ⟨hG, m, hs, hR⟩ := hW
 have hlen : ls.length = nn := by simpa using RS.len
 refine aH #[.tmp 4] 20 Tryz.func74 rfl Tryz.results74 Tryz.ntmps74 rfl ?_
 have M0 := hO.mem
 refine aD (aA (bI rfl rfl (aB (aC (aD (aD (aA (wq (aG (.pointer _) rfl) rfl (wq (eN false Tryz.underlying25 rfl rfl) rfl (aB (aC ?_)))))))))))
 refine cC rfl (aK (aC (aD (aA (dN rfl rfl (bZ bCy rfl rfl (sT _ BA nn cc ls (RS.memY M0 hdB) hB hcap (by omega)) ?_))))))
 rintro v1 w1 ⟨q, rfl, hq, hM1⟩
 have M1 : Mem _ _ [_, _, _, _] _ := M0.call0 hM1
 refine wq (aG (.tuple (List.toArray _)) rfl) rfl (wq (bB (.slice _ _ _) rfl rfl) rfl (wq (bB (.int _ _) rfl rfl) rfl (eG rfl rfl (bI rfl rfl (aB (aC (aD (aD (aA ?_)))))))))
 refine aZ rfl rfl (dB rfl rfl rfl rfl (aB (aC ?_)))
 refine aX rfl (fun h15 => ?_) (fun h15 => ?_)
 ·refine aA (wq (aG (.pointer _) rfl) rfl (dN rfl rfl (bZ aXk rfl rfl (nK _ _ r _ hW' (M1.ownSeg 0 3) q.A q.n q.c (kS ls).1 (hq.rd M1 (aS (i := 3) rfl)) (GoodV.dec hB (by omega) h15) (hq.awayS M1 0 3 3 rfl rfl)) ?_)))
  rintro v2 w2 ⟨r2, rfl, hw2, hM2⟩
  have M2 : Mem _ _ [_, _, _, _] _ := M1.seg 0 3 hM2
  refine aB (aC (aD (aA (aZ rfl rfl (bI rfl rfl (aB (aC (aL (cA (.int _ _) rfl ?_)))))))))
  exact ⟨r2, rfl, by unfold zK; rw [if_pos h15]; exact hw2, M2.keep [true, true, true, false]⟩
 ·refine aK (aC (aD (aA (aZ rfl rfl (bI rfl rfl (aB (aC (aL (cA (.int _ _) rfl ?_)))))))))
  exact ⟨r, rfl, by unfold zK; rw [if_neg h15]; exact hW', M1.keep [true, true, true, false]⟩
set_option maxHeartbeats 4000000 in
theorem aUh (w : World) :
  Calls Tryz.prog 83 #[(.func (.func 26) #[] #[] : Value), (.func (.func 84) #[] #[] : Value)] w (fun ex w' => ∃ v, ex = .returned v ∧ (fun v w' => ∃ fa ga : Nat, v = (.func (.func 120) #[] #[.pointer (some ⟨fa, 0, none⟩), .pointer (some ⟨ga, 0, none⟩)] : Value) ∧ Mem w [] [(some fa, bc [(.func (.func 26) #[] #[] : Value)] 143), (some ga, bc [(.func (.func 84) #[] #[] : Value)] 144)] w') v w') := by
 refine aH #[.tmp 4] 6 Tryz.func83 rfl Tryz.results83 Tryz.ntmps83 rfl ?_
 have M0 := Mem.refl w
 refine aD (aA (bG (.func _ _ _) M0 rfl rfl rfl (fun b1 w1 M1 => (bG (.func _ _ _) M1 rfl rfl rfl (fun b2 w2 M2 => (wq (aI (_) rfl) rfl (aB (aC (aD (aA (wq (cN [] [.pointer _, .pointer _] rfl rfl) rfl ?_)))))))))))
 refine wq (aI (.func _ _ _) rfl) rfl (aB (aC (aL (cA (.func _ _ _) rfl ?_))))
 exact ⟨_, _, rfl, M2⟩
set_option maxHeartbeats 4000000 in
theorem aHt (w : World) :
  Calls Tryz.prog 85 #[(.func (.func 86) #[] #[] : Value), (.func (.func 87) #[] #[] : Value)] w (fun ex w' => ∃ v, ex = .returned v ∧ (fun v w' => ∃ fa ga : Nat, v = (.func (.func 121) #[] #[.pointer (some ⟨fa, 0, none⟩), .pointer (some ⟨ga, 0, none⟩)] : Value) ∧ Mem w [] [(some fa, bc [(.func (.func 86) #[] #[] : Value)] 146), (some ga, bc [(.func (.func 87) #[] #[] : Value)] 148)] w') v w') := by
 refine aH #[.tmp 4] 6 Tryz.func85 rfl Tryz.results85 Tryz.ntmps85 rfl ?_
 have M0 := Mem.refl w
 refine aD (aA (bG (.func _ _ _) M0 rfl rfl rfl (fun b1 w1 M1 => (bG (.func _ _ _) M1 rfl rfl rfl (fun b2 w2 M2 => (wq (aI (_) rfl) rfl (aB (aC (aD (aA (wq (cN [] [.pointer _, .pointer _] rfl rfl) rfl ?_)))))))))))
 refine wq (aI (.func _ _ _) rfl) rfl (aB (aC (aL (cA (.func _ _ _) rfl ?_))))
 exact ⟨_, _, rfl, M2⟩
set_option maxHeartbeats 4000000 in
theorem aEt (w : World) :
  Calls Tryz.prog 88 #[(.func (.func 74) #[] #[] : Value), (.func (.func 89) #[] #[] : Value)] w (fun ex w' => ∃ v, ex = .returned v ∧ (fun v w' => ∃ fa ga : Nat, v = (.func (.func 123) #[] #[.pointer (some ⟨fa, 0, none⟩), .pointer (some ⟨ga, 0, none⟩)] : Value) ∧ Mem w [] [(some fa, bc [(.func (.func 74) #[] #[] : Value)] 150), (some ga, bc [(.func (.func 89) #[] #[] : Value)] 151)] w') v w') := by
 refine aH #[.tmp 4] 6 Tryz.func88 rfl Tryz.results88 Tryz.ntmps88 rfl ?_
 have M0 := Mem.refl w
 refine aD (aA (bG (.func _ _ _) M0 rfl rfl rfl (fun b1 w1 M1 => (bG (.func _ _ _) M1 rfl rfl rfl (fun b2 w2 M2 => (wq (aI (_) rfl) rfl (aB (aC (aD (aA (wq (cN [] [.pointer _, .pointer _] rfl rfl) rfl ?_)))))))))))
 refine wq (aI (.func _ _ _) rfl) rfl (aB (aC (aL (cA (.func _ _ _) rfl ?_))))
 exact ⟨_, _, rfl, M2⟩
set_option maxHeartbeats 4000000 in
theorem bDx (w : World) (o : OpI) (BA : Option Addr) (nn cc : Nat) :
  Calls Tryz.prog 84 #[.agg (fH o BA nn cc).toArray] w (fun ex w' => ∃ v, ex = .returned v ∧ (fun v w' => v = (.agg (aF o.body).toArray) ∧ Below w.heap.size w w') v w') := by
 refine aH #[.cell 2 39] 5 Tryz.func84 rfl Tryz.results84 Tryz.ntmps84 rfl ?_
 have M0 := Mem.refl w
 refine aD (aA (bG (.agg (List.toArray _)) M0 rfl rfl rfl (fun b1 w1 M1 => (aP gH M1 rfl rfl (fun b2 w2 M2 => (aB (aC (aD (aA (wq (aE 1 aZn rfl) rfl (wq (uL 0 _ bJ M2 rfl rfl rfl rfl) rfl ?_)))))))))))
 refine bA 1 _ bJ M2 rfl rfl rfl rfl rfl (aQ rfl) rfl (fun w3 M3 => (aB (aC (aL (eO 1 bJ M3 rfl rfl rfl ?_)))))
 exact ⟨rfl, M3.below⟩
set_option maxHeartbeats 4000000 in
theorem bEe (w : World) (o : OpI) (BA : Option Addr) (nn cc : Nat) :
  Calls Tryz.prog 87 #[.agg (fH o BA nn cc).toArray] w (fun ex w' => ∃ v, ex = .returned v ∧ (fun v w' => v = .int .u32 o.key ∧ Below w.heap.size w w') v w') := by
 refine aH #[.tmp 2] 5 Tryz.func87 rfl Tryz.results87 Tryz.ntmps87 rfl ?_
 have M0 := Mem.refl w
 refine aD (aA (bG (.agg (List.toArray _)) M0 rfl rfl rfl (fun b1 w1 M1 => (bI rfl rfl (aB (aC (aD (aA (wq (aE 11 aNv rfl) rfl (wq (aM 0 (.int _ _) bU M1 rfl rfl rfl) rfl ?_))))))))))
 refine bI rfl rfl (aB (aC (aL (cA (.int _ _) rfl ?_))))
 exact ⟨rfl, M1.below⟩
set_option maxHeartbeats 4000000 in
theorem bDz (w : World) (o : OpI) (BA : Option Addr) (nn cc : Nat) :
  Calls Tryz.prog 89 #[.agg (fH o BA nn cc).toArray] w (fun ex w' => ∃ v, ex = .returned v ∧ (fun v w' => v = .slice BA nn cc ∧ Below w.heap.size w w') v w') := by
 refine aH #[.tmp 2] 5 Tryz.func89 rfl Tryz.results89 Tryz.ntmps89 rfl ?_
 have M0 := Mem.refl w
 refine aD (aA (bG (.agg (List.toArray _)) M0 rfl rfl rfl (fun b1 w1 M1 => (eG rfl rfl (aB (aC (aD (aA (wq (aE 14 aZa rfl) rfl (wq (aM 0 (.slice _ _ _) bKl M1 rfl rfl rfl) rfl ?_))))))))))
 refine eG rfl rfl (aB (aC (aL (cA (.slice _ _ _) rfl ?_))))
 exact ⟨rfl, M1.below⟩
def pF (f1 g1 f2 g2 f3 g3 : Nat) (k : Int) : Option Value := if k = 5 then some (.func (.func 93) #[] #[] : Value) else if k = 4 then some (.func (.func 92) #[] #[] : Value) else if k = 3 then some (.func (.func 90) #[] #[] : Value) else if k = 6 then some (.func (.func 123) #[] #[.pointer (some ⟨f3, 0, none⟩), .pointer (some ⟨g3, 0, none⟩)] : Value) else if k = 2 then some (.func (.func 121) #[] #[.pointer (some ⟨f2, 0, none⟩), .pointer (some ⟨g2, 0, none⟩)] : Value) else if k = 1 then some (.func (.func 120) #[] #[.pointer (some ⟨f1, 0, none⟩), .pointer (some ⟨g1, 0, none⟩)] : Value) else none
theorem aTl {f1 g1 f2 g2 f3 g3 : Nat} {k : Int} (h : k = 1) : pF f1 g1 f2 g2 f3 g3 k = some (.func (.func 120) #[] #[.pointer (some ⟨f1, 0, none⟩), .pointer (some ⟨g1, 0, none⟩)] : Value) := by subst h; rfl
theorem aWx {f1 g1 f2 g2 f3 g3 : Nat} {k : Int} (h : k = 2) : pF f1 g1 f2 g2 f3 g3 k = some (.func (.func 121) #[] #[.pointer (some ⟨f2, 0, none⟩), .pointer (some ⟨g2, 0, none⟩)] : Value) := by subst h; rfl
theorem aUo {f1 g1 f2 g2 f3 g3 : Nat} {k : Int} (h : k = 6) : pF f1 g1 f2 g2 f3 g3 k = some (.func (.func 123) #[] #[.pointer (some ⟨f3, 0, none⟩), .pointer (some ⟨g3, 0, none⟩)] : Value) := by subst h; rfl
theorem aTi {f1 g1 f2 g2 f3 g3 : Nat} {k : Int} (h : k = 3) : pF f1 g1 f2 g2 f3 g3 k = some (.func (.func 90) #[] #[] : Value) := by subst h; rfl
theorem aWc {f1 g1 f2 g2 f3 g3 : Nat} {k : Int} (h : k = 4) : pF f1 g1 f2 g2 f3 g3 k = some (.func (.func 92) #[] #[] : Value) := by subst h; rfl
theorem aUm {f1 g1 f2 g2 f3 g3 : Nat} {k : Int} (h : k = 5) : pF f1 g1 f2 g2 f3 g3 k = some (.func (.func 93) #[] #[] : Value) := by subst h; rfl
theorem aWj {f1 g1 f2 g2 f3 g3 : Nat} {k : Int} (h : k < 1 ∨ 6 < k) : pF f1 g1 f2 g2 f3 g3 k = none := by unfold pF; rw [if_neg (by omega), if_neg (by omega), if_neg (by omega), if_neg (by omega), if_neg (by omega), if_neg (by omega)]
set_option maxHeartbeats 4000000 in
theorem gO (w : World) :
  Calls Tryz.prog 55 #[] w (fun ex w' => ∃ v, ex = .returned v ∧ (fun v w' => ∃ (p : Option Nat) (e : dK) (f1 g1 f2 g2 f3 g3 : Nat), v = .map p ∧ iL .i64 (fun v : Value => v) (pF f1 g1 f2 g2 f3 g3) p e ∧ Mem w [] [e, (some f1, bc [(.func (.func 26) #[] #[] : Value)] 143), (some g1, bc [(.func (.func 84) #[] #[] : Value)] 144), (some f2, bc [(.func (.func 86) #[] #[] : Value)] 146), (some g2, bc [(.func (.func 87) #[] #[] : Value)] 148), (some f3, bc [(.func (.func 74) #[] #[] : Value)] 150), (some g3, bc [(.func (.func 89) #[] #[] : Value)] 151)] w') v w') := by
 refine aH #[.tmp 0] 6 Tryz.func55 rfl Tryz.results55 Tryz.ntmps55 rfl ?_
 have M0 := Mem.refl w
 refine aD (aA (wq (aI (.map _) rfl) rfl (aB (aC (aD (aA (kE M0 rfl rfl (fun b1 w1 M1 => (bZ bJj rfl rfl (aUh _) ?_)))))))))
 rintro v2 w2 ⟨f1, g1, rfl, hM2⟩
 have M2 : Mem _ _ [_, _, _] _ := M1.call0 hM2
 refine lV (enc := (fun v : Value => v)) (v := (.func _ _ _)) 0 kI M2 rfl rfl (iL.empty _ _ b1) rfl rfl rfl rfl (fun e3 w3 hm3 M3 => (bZ bKg rfl rfl (aHt _) ?_))
 rintro v4 w4 ⟨f2, g2, rfl, hM4⟩
 have M4 : Mem _ _ [_, _, _, _, _] _ := M3.call0 hM4
 refine lV (enc := (fun v : Value => v)) (v := (.func _ _ _)) 0 kI M4 rfl rfl hm3 rfl rfl rfl rfl (fun e5 w5 hm5 M5 => (bZ bKo rfl rfl (aEt _) ?_))
 rintro v6 w6 ⟨f3, g3, rfl, hM6⟩
 have M6 : Mem _ _ [_, _, _, _, _, _, _] _ := M5.call0 hM6
 refine lV (enc := (fun v : Value => v)) (v := (.func _ _ _)) 0 kI M6 rfl rfl hm5 rfl rfl rfl rfl (fun e7 w7 hm7 M7 => (lV (enc := (fun v : Value => v)) (v := (.func _ _ _)) 0 kI M7 rfl rfl hm7 rfl rfl rfl rfl (fun e8 w8 hm8 M8 => (lV (enc := (fun v : Value => v)) (v := (.func _ _ _)) 0 kI M8 rfl rfl hm8 rfl rfl rfl rfl (fun e9 w9 hm9 M9 => ?_)))))
 refine lV (enc := (fun v : Value => v)) (v := (.func _ _ _)) 0 kI M9 rfl rfl hm9 rfl rfl rfl rfl (fun e10 w10 hm10 M10 => (wq (aG (.map _) rfl) rfl (wq (aI (.map _) rfl) rfl (aB (aC (aL (cA (.map _) rfl ?_)))))))
 exact ⟨_, _, f1, g1, f2, g2, f3, g3, rfl, hm10, M10⟩
set_option maxHeartbeats 16000000 in
theorem aTz (w : World) (b : Nat) (r : StV) (vs : List Body) (hW : cF 39 r vs) (fa ga : Nat) (hO : Own [(some b, bc [.slice r.A r.n r.c, .map r.p] 107), r.er, r.em, (some fa, bc [(.func (.func 26) #[] #[] : Value)] 143), (some ga, bc [(.func (.func 84) #[] #[] : Value)] 144)] w) (o : OpI) (BA : Option Addr) (nn cc : Nat) (hP : OpOk w o BA nn cc) (hnn : nn ≤ 1000000) (hdB : 0 < nn → ∀ q off, BA = some ⟨q, off, none⟩ → q ∉ bH [(some b, bc [.slice r.A r.n r.c, .map r.p] 107), r.er, r.em, (some fa, bc [(.func (.func 26) #[] #[] : Value)] 143), (some ga, bc [(.func (.func 84) #[] #[] : Value)] 144)]) :
  Calls Tryz.prog 120 #[.pointer (some ⟨b, 0, none⟩), .agg (fH o BA nn cc).toArray, .pointer (some ⟨fa, 0, none⟩), .pointer (some ⟨ga, 0, none⟩)] w (fun ex w' => ∃ v, ex = .returned v ∧ (fun v w' => ∃ r' : StV, v = .agg [.int .i64 (iX vs o.body).2, .slice none 0 0, .int .i64 0, .bool false].toArray ∧ cF 39 r' ((iX vs o.body).1) ∧ Mem w (bH [(some b, bc [.slice r.A r.n r.c, .map r.p] 107), r.er, r.em, (some fa, bc [(.func (.func 26) #[] #[] : Value)] 143), (some ga, bc [(.func (.func 84) #[] #[] : Value)] 144)]) [(some b, bc [.slice r'.A r'.n r'.c, .map r'.p] 107), r'.er, r'.em, (some fa, bc [(.func (.func 26) #[] #[] : Value)] 143), (some ga, bc [(.func (.func 84) #[] #[] : Value)] 144)] w') v w') := by
 have hG := hW.1
 have hbl := hP.len
 refine aH #[.cell 6 33] 14 Tryz.func120 rfl Tryz.results120 Tryz.ntmps120 rfl ?_
 have M0 := hO.mem
 refine aD (aA (bG (.agg (List.toArray _)) M0 rfl rfl rfl (fun b1 w1 M1 => (aP kH M1 rfl rfl (fun b2 w2 M2 => (aB (aC (aD (bO [(0, 1), (1, 0), (2, 1), (3, 1), (4, 2), (5, 2), (6, 0), (7, 2)] mixed rfl (by kernel_rfl) (fun w3 hb3 hh3 => ?_))))))))))
 have M3 := M2.drew hb3 hh3
 refine bW rfl rfl rfl (aM 3 (.func _ _ _) aUk M3 rfl rfl rfl) (aY rfl rfl rfl (fun _ => aG (.pointer _) rfl) (bW rfl rfl rfl (aM 4 (.func _ _ _) bHn M3 rfl rfl rfl) (bW rfl rfl rfl (bC 5 pJ M3 rfl rfl rfl) (dU [true, true, false] rfl (by kernel_rfl) (bZ bIk rfl rfl (bDx _ o BA nn cc) ?_)))))
 rintro v4 w4 ⟨rfl, hb4⟩
 have M4 := M3.callB hb4
 refine aB (aC ⟨(eL (bQ rfl (aM 3 (.func _ _ _) aUk M4 rfl rfl rfl)) dT), ?_⟩)
 refine dU [true] rfl (by kernel_rfl) (bZ bKi rfl rfl (aRj _ _ r vs hW (M4.ownSeg 0 3) o.body hP.body) ?_)
 rintro v5 w5 ⟨r2, rfl, hw2, hM5⟩
 have M5 : Mem _ _ [_, _, _, _, _, _, _] _ := M4.seg 0 3 hM5
 refine aB (aC ⟨dT, ?_⟩)
 refine aY rfl rfl rfl (fun _ => cH [(0, .int _ _)] _ mQ rfl rfl) (dU [] rfl (by kernel_rfl) (bA 6 _ gK M5 rfl rfl rfl rfl rfl (aQ rfl) rfl (fun w6 M6 => ?_)))
 refine aB (aC ⟨dT, ?_⟩)
 refine cB (aC (aL (eO 6 gK M6 rfl rfl rfl ?_)))
 exact ⟨r2, rfl, hw2, M6.keep [true, true, true, true, true, false, false]⟩
set_option maxHeartbeats 16000000 in
theorem aHd (w : World) (b : Nat) (r : StV) (vs : List Body) (hW : cF 39 r vs) (fa ga : Nat) (hO : Own [(some b, bc [.slice r.A r.n r.c, .map r.p] 107), r.er, r.em, (some fa, bc [(.func (.func 86) #[] #[] : Value)] 146), (some ga, bc [(.func (.func 87) #[] #[] : Value)] 148)] w) (o : OpI) (BA : Option Addr) (nn cc : Nat) (hP : OpOk w o BA nn cc) (hnn : nn ≤ 1000000) (hdB : 0 < nn → ∀ q off, BA = some ⟨q, off, none⟩ → q ∉ bH [(some b, bc [.slice r.A r.n r.c, .map r.p] 107), r.er, r.em, (some fa, bc [(.func (.func 86) #[] #[] : Value)] 146), (some ga, bc [(.func (.func 87) #[] #[] : Value)] 148)]) :
  Calls Tryz.prog 121 #[.pointer (some ⟨b, 0, none⟩), .agg (fH o BA nn cc).toArray, .pointer (some ⟨fa, 0, none⟩), .pointer (some ⟨ga, 0, none⟩)] w (fun ex w' => ∃ v, ex = .returned v ∧ (fun v w' => ∃ r' : StV, v = .agg [.int .i64 (iR vs o.key).2, .slice none 0 0, .int .i64 0, .bool false].toArray ∧ cF 39 r' ((iR vs o.key).1) ∧ Mem w (bH [(some b, bc [.slice r.A r.n r.c, .map r.p] 107), r.er, r.em, (some fa, bc [(.func (.func 86) #[] #[] : Value)] 146), (some ga, bc [(.func (.func 87) #[] #[] : Value)] 148)]) [(some b, bc [.slice r'.A r'.n r'.c, .map r'.p] 107), r'.er, r'.em, (some fa, bc [(.func (.func 86) #[] #[] : Value)] 146), (some ga, bc [(.func (.func 87) #[] #[] : Value)] 148)] w') v w') := by
 have hG := hW.1
 have hbl := hP.len
 refine aH #[.cell 6 33] 14 Tryz.func121 rfl Tryz.results121 Tryz.ntmps121 rfl ?_
 have M0 := hO.mem
 refine aD (aA (bG (.agg (List.toArray _)) M0 rfl rfl rfl (fun b1 w1 M1 => (aP kH M1 rfl rfl (fun b2 w2 M2 => (aB (aC (aD (bO [(0, 1), (1, 0), (2, 1), (3, 1), (4, 2), (5, 2), (6, 0), (7, 2)] mixed rfl (by kernel_rfl) (fun w3 hb3 hh3 => ?_))))))))))
 have M3 := M2.drew hb3 hh3
 refine bW rfl rfl rfl (aM 3 (.func _ _ _) aWd M3 rfl rfl rfl) (aY rfl rfl rfl (fun _ => aG (.pointer _) rfl) (bW rfl rfl rfl (aM 4 (.func _ _ _) bHz M3 rfl rfl rfl) (bW rfl rfl rfl (bC 5 pJ M3 rfl rfl rfl) (dU [true, true, false] rfl (by kernel_rfl) (bZ bKq rfl rfl (bEe _ o BA nn cc) ?_)))))
 rintro v4 w4 ⟨rfl, hb4⟩
 have M4 := M3.callB hb4
 refine aB (aC ⟨(eL (bQ rfl (aM 3 (.func _ _ _) aWd M4 rfl rfl rfl)) dT), ?_⟩)
 refine dU [true] rfl (by kernel_rfl) (bZ bKk rfl rfl (aEw _ _ r vs hW (M4.ownSeg 0 3) o.key) ?_)
 rintro v5 w5 ⟨r2, rfl, hw2, hM5⟩
 have M5 : Mem _ _ [_, _, _, _, _, _, _] _ := M4.seg 0 3 hM5
 refine aB (aC ⟨dT, ?_⟩)
 refine aY rfl rfl rfl (fun _ => cH [(0, .int _ _)] _ mQ rfl rfl) (dU [] rfl (by kernel_rfl) (bA 6 _ gK M5 rfl rfl rfl rfl rfl (aQ rfl) rfl (fun w6 M6 => ?_)))
 refine aB (aC ⟨dT, ?_⟩)
 refine cB (aC (aL (eO 6 gK M6 rfl rfl rfl ?_)))
 exact ⟨r2, rfl, hw2, M6.keep [true, true, true, true, true, false, false]⟩
set_option maxHeartbeats 16000000 in
theorem aFa (w : World) (b : Nat) (r : StV) (vs : List Body) (hW : cF 39 r vs) (fa ga : Nat) (hO : Own [(some b, bc [.slice r.A r.n r.c, .map r.p] 107), r.er, r.em, (some fa, bc [(.func (.func 74) #[] #[] : Value)] 150), (some ga, bc [(.func (.func 89) #[] #[] : Value)] 151)] w) (o : OpI) (BA : Option Addr) (nn cc : Nat) (hP : OpOk w o BA nn cc) (hnn : nn ≤ 1000000) (hdB : 0 < nn → ∀ q off, BA = some ⟨q, off, none⟩ → q ∉ bH [(some b, bc [.slice r.A r.n r.c, .map r.p] 107), r.er, r.em, (some fa, bc [(.func (.func 74) #[] #[] : Value)] 150), (some ga, bc [(.func (.func 89) #[] #[] : Value)] 151)]) :
  Calls Tryz.prog 123 #[.pointer (some ⟨b, 0, none⟩), .agg (fH o BA nn cc).toArray, .pointer (some ⟨fa, 0, none⟩), .pointer (some ⟨ga, 0, none⟩)] w (fun ex w' => ∃ v, ex = .returned v ∧ (fun v w' => ∃ r' : StV, v = .agg [.int .i64 (kS o.bytes).2, .slice none 0 0, .int .i64 0, .bool false].toArray ∧ cF 39 r' (zK vs o.bytes) ∧ Mem w (bH [(some b, bc [.slice r.A r.n r.c, .map r.p] 107), r.er, r.em, (some fa, bc [(.func (.func 74) #[] #[] : Value)] 150), (some ga, bc [(.func (.func 89) #[] #[] : Value)] 151)]) [(some b, bc [.slice r'.A r'.n r'.c, .map r'.p] 107), r'.er, r'.em, (some fa, bc [(.func (.func 74) #[] #[] : Value)] 150), (some ga, bc [(.func (.func 89) #[] #[] : Value)] 151)] w') v w') := by
 have hG := hW.1
 have hbl := hP.len
 refine aH #[.cell 6 33] 14 Tryz.func123 rfl Tryz.results123 Tryz.ntmps123 rfl ?_
 have M0 := hO.mem
 refine aD (aA (bG (.agg (List.toArray _)) M0 rfl rfl rfl (fun b1 w1 M1 => (aP kH M1 rfl rfl (fun b2 w2 M2 => (aB (aC (aD (bO [(0, 1), (1, 0), (2, 1), (3, 1), (4, 2), (5, 2), (6, 0), (7, 2)] mixed rfl (by kernel_rfl) (fun w3 hb3 hh3 => ?_))))))))))
 have M3 := M2.drew hb3 hh3
 refine bW rfl rfl rfl (aM 3 (.func _ _ _) aYa M3 rfl rfl rfl) (aY rfl rfl rfl (fun _ => aG (.pointer _) rfl) (bW rfl rfl rfl (aM 4 (.func _ _ _) bFk M3 rfl rfl rfl) (bW rfl rfl rfl (bC 5 pJ M3 rfl rfl rfl) (dU [true, true, false] rfl (by kernel_rfl) (bZ bJh rfl rfl (bDz _ o BA nn cc) ?_)))))
 rintro v4 w4 ⟨rfl, hb4⟩
 have M4 := M3.callB hb4
 refine aB (aC ⟨(eL (bQ rfl (aM 3 (.func _ _ _) aYa M4 rfl rfl rfl)) dT), ?_⟩)
 refine dU [true] rfl (by kernel_rfl) (bZ bIn rfl rfl (aBt _ _ r vs hW (M4.ownSeg 0 3) BA nn cc o.bytes (hP.rd.memY M4 hdB) hP.byt hP.cap hnn (M4.away 0 3 hP.rd hdB)) ?_)
 rintro v5 w5 ⟨r2, rfl, hw2, hM5⟩
 have M5 : Mem _ _ [_, _, _, _, _, _, _] _ := M4.seg 0 3 hM5
 refine aB (aC ⟨dT, ?_⟩)
 refine aY rfl rfl rfl (fun _ => cH [(0, .int _ _)] _ mQ rfl rfl) (dU [] rfl (by kernel_rfl) (bA 6 _ gK M5 rfl rfl rfl rfl rfl (aQ rfl) rfl (fun w6 M6 => ?_)))
 refine aB (aC ⟨dT, ?_⟩)
 refine cB (aC (aL (eO 6 gK M6 rfl rfl rfl ?_)))
 exact ⟨r2, rfl, hw2, M6.keep [true, true, true, true, true, false, false]⟩
set_option maxHeartbeats 32000000 in
theorem aFy (w : World)  (b : Nat) (r : StV) (vs : List Body) (hW : cF 39 r vs) (hO : Own [(some b, bc [.slice r.A r.n r.c, .map r.p] 107), r.er, r.em] w) (o : OpI) (BA : Option Addr) (nn cc : Nat) (hP : OpOk w o BA nn cc) (hnn : nn ≤ 1000000) (hdB : 0 < nn → ∀ q off, BA = some ⟨q, off, none⟩ → q ∉ bH [(some b, bc [.slice r.A r.n r.c, .map r.p] 107), r.er, r.em]) (hk : o.kind = 3) :
  Calls Tryz.prog 90 #[.pointer (some ⟨b, 0, none⟩), .agg (fH o BA nn cc).toArray] w (fun ex w' => ∃ v, ex = .returned v ∧ (fun v w' => ∃ (r' : StV) (p : Row), v = .agg (fE (jG vs o).2 p).toArray ∧ cF 39 r' (jG vs o).1 ∧ aU 5 1 p.A p.n p.c (((jG vs o).2.bytes).map bX) p.e ∧ Mem w (bH [(some b, bc [.slice r.A r.n r.c, .map r.p] 107), r.er, r.em]) [(some b, bc [.slice r'.A r'.n r'.c, .map r'.p] 107), r'.er, r'.em, p.e] w') v w') := by
 have hG := hW.1
 have hbl := hP.len
 refine aH #[.cell 4 33] 12 Tryz.func90 rfl Tryz.results90 Tryz.ntmps90 rfl ?_
 have M0 := hO.mem
 refine aD (aA (bG (.agg (List.toArray _)) M0 rfl rfl rfl (fun b1 w1 M1 => (aP kH M1 rfl rfl (fun b2 w2 M2 => (aB (aC (aD (aA (wq (aG (.pointer _) rfl) rfl (wq (aE 11 aNv rfl) rfl ?_)))))))))))
 refine wq (aM 3 (.int _ _) bU M2 rfl rfl rfl) rfl (wq (aE 12 bBs rfl) rfl (wq (uL 3 _ bK M2 rfl rfl rfl rfl) rfl (bZ bJb rfl rfl (aBn _ _ r vs hW (M2.ownSeg 0 3) o.key o.push hP.p1 hP.p2) ?_)))
 rintro v3 w3 ⟨r2, rfl, hw2, hM3⟩
 have M3 : Mem _ _ [_, _, _, _, _] _ := M2.seg 0 3 hM3
 refine wq (cH [(0, .int _ _)] _ mQ rfl rfl) rfl (bA 4 _ gK M3 rfl rfl rfl rfl rfl (aQ rfl) rfl (fun w4 M4 => (aB (aC (aL (eO 4 gK M4 rfl rfl rfl ?_))))))
 exact ⟨r2, ⟨none, 0, 0, (none, default)⟩, by rw [bGp hk]; rfl, by rw [bGp hk]; exact hw2, by rw [bGp hk]; exact aU.nil _ _ _, (M4.keep [true, true, true, false, false]).dummy default⟩
set_option maxHeartbeats 32000000 in
theorem aQz (w : World) (F : Rd w 2 (some ⟨0, 0, none⟩) 1 [[.int .u32 73856093, .int .u32 19349663]]) (N : Rd w 4 (some ⟨3, 0, none⟩) 1 [cX gL]) (b : Nat) (r : StV) (vs : List Body) (hW : cF 39 r vs) (hO : Own [(some b, bc [.slice r.A r.n r.c, .map r.p] 107), r.er, r.em] w) (o : OpI) (BA : Option Addr) (nn cc : Nat) (hP : OpOk w o BA nn cc) (hnn : nn ≤ 1000000) (hdB : 0 < nn → ∀ q off, BA = some ⟨q, off, none⟩ → q ∉ bH [(some b, bc [.slice r.A r.n r.c, .map r.p] 107), r.er, r.em]) (hdF : 0 < 1 → ∀ q off, (some ⟨0, 0, none⟩ : Option Addr) = some ⟨q, off, none⟩ → q ∉ bH [(some b, bc [.slice r.A r.n r.c, .map r.p] 107), r.er, r.em]) (hdN : 0 < 1 → ∀ q off, (some ⟨3, 0, none⟩ : Option Addr) = some ⟨q, off, none⟩ → q ∉ bH [(some b, bc [.slice r.A r.n r.c, .map r.p] 107), r.er, r.em]) (hk : o.kind = 4) :
  Calls Tryz.prog 92 #[.pointer (some ⟨b, 0, none⟩), .agg (fH o BA nn cc).toArray] w (fun ex w' => ∃ v, ex = .returned v ∧ (fun v w' => ∃ (r' : StV) (p : Row), v = .agg (fE (jG vs o).2 p).toArray ∧ cF 39 r' (jG vs o).1 ∧ aU 5 1 p.A p.n p.c (((jG vs o).2.bytes).map bX) p.e ∧ Mem w (bH [(some b, bc [.slice r.A r.n r.c, .map r.p] 107), r.er, r.em]) [(some b, bc [.slice r'.A r'.n r'.c, .map r'.p] 107), r'.er, r'.em, p.e] w') v w') := by
 have hG := hW.1
 have hbl := hP.len
 refine aH #[.cell 4 33] 13 Tryz.func92 rfl Tryz.results92 Tryz.ntmps92 rfl ?_
 have M0 := hO.mem
 refine aD (aA (bG (.agg (List.toArray _)) M0 rfl rfl rfl (fun b1 w1 M1 => (aP kH M1 rfl rfl (fun b2 w2 M2 => (aB (aC (aD (aA (wq (aG (.pointer _) rfl) rfl (bZ bCt rfl rfl (aLv _ (F.memY M2 hdF) (N.memY M2 hdN) _ r vs hW (M2.ownSeg 0 3) (M2.away 0 3 F hdF) (M2.away 0 3 N hdN)) ?_)))))))))))
 rintro v3 w3 ⟨r2, ts, rfl, hw2, hM3⟩
 have M3 : Mem _ _ [_, _, _, _, _] _ := M2.seg 0 3 hM3
 refine aP mE M3 rfl rfl (fun b4 w4 M4 => (bA 5 _ kC M4 rfl rfl rfl rfl rfl (aQ rfl) rfl (fun w5 M5 => (aB (aC (aD (aA (wq (aE 1 rD rfl) rfl (wq (aM 5 (.int _ _) iY M5 rfl rfl rfl) rfl (wq (aE 2 lQ rfl) rfl ?_))))))))))
 refine wq (aM 5 (.bool _) mV M5 rfl rfl rfl) rfl (wq (cH [(2, .int _ _), (3, .bool _)] _ mQ rfl rfl) rfl (bA 4 _ gK M5 rfl rfl rfl rfl rfl (aQ rfl) rfl (fun w6 M6 => (aB (aC (aL (eO 4 gK M6 rfl rfl rfl ?_)))))))
 exact ⟨r2, ⟨none, 0, 0, (none, default)⟩, by rw [bEg hk]; rfl, by rw [bEg hk]; exact hw2, by rw [bEg hk]; exact aU.nil _ _ _, (M6.keep [true, true, true, false, false, false]).dummy default⟩
set_option maxHeartbeats 32000000 in
theorem aBh (w : World)  (b : Nat) (r : StV) (vs : List Body) (hW : cF 39 r vs) (hO : Own [(some b, bc [.slice r.A r.n r.c, .map r.p] 107), r.er, r.em] w) (o : OpI) (BA : Option Addr) (nn cc : Nat) (hP : OpOk w o BA nn cc) (hnn : nn ≤ 1000000) (hdB : 0 < nn → ∀ q off, BA = some ⟨q, off, none⟩ → q ∉ bH [(some b, bc [.slice r.A r.n r.c, .map r.p] 107), r.er, r.em]) (hk : o.kind = 5) :
  Calls Tryz.prog 93 #[.pointer (some ⟨b, 0, none⟩), .agg (fH o BA nn cc).toArray] w (fun ex w' => ∃ v, ex = .returned v ∧ (fun v w' => ∃ (r' : StV) (p : Row), v = .agg (fE (jG vs o).2 p).toArray ∧ cF 39 r' (jG vs o).1 ∧ aU 5 1 p.A p.n p.c (((jG vs o).2.bytes).map bX) p.e ∧ Mem w (bH [(some b, bc [.slice r.A r.n r.c, .map r.p] 107), r.er, r.em]) [(some b, bc [.slice r'.A r'.n r'.c, .map r'.p] 107), r'.er, r'.em, p.e] w') v w') := by
 have hG := hW.1
 have hbl := hP.len
 refine aH #[.cell 4 33] 8 Tryz.func93 rfl Tryz.results93 Tryz.ntmps93 rfl ?_
 have M0 := hO.mem
 refine aD (aA (bG (.agg (List.toArray _)) M0 rfl rfl rfl (fun b1 w1 M1 => (aP kH M1 rfl rfl (fun b2 w2 M2 => (aB (aC (aD (aA (wq (aG (.pointer _) rfl) rfl (bZ bCx rfl rfl (qF _ _ r vs hW (M2.ownSeg 0 3)) ?_)))))))))))
 rintro v3 w3 ⟨pb, rfl, hpb, hM3⟩
 have M3 : Mem _ _ [_, _, _, _, _, _] _ := M2.seg 0 3 hM3
 refine wq (cH [(1, .slice _ _ _)] _ mQ rfl rfl) rfl (bA 4 _ gK M3 rfl rfl rfl rfl rfl (aQ rfl) rfl (fun w4 M4 => (aB (aC (aL (eO 4 gK M4 rfl rfl rfl ?_))))))
 exact ⟨r, pb, by rw [bEf hk]; rfl, by rw [bEf hk]; exact hW, by rw [bEf hk]; exact hpb, (M4.keep [true, true, true, false, false, true])⟩
set_option maxHeartbeats 32000000 in
theorem aLm (w : World)  (b : Nat) (r : StV) (vs : List Body) (hW : cF 39 r vs) (hO : Own [(some b, bc [.slice r.A r.n r.c, .map r.p] 107), r.er, r.em] w) (o : OpI) (BA : Option Addr) (nn cc : Nat) (hP : OpOk w o BA nn cc) (hnn : nn ≤ 1000000) (hdB : 0 < nn → ∀ q off, BA = some ⟨q, off, none⟩ → q ∉ bH [(some b, bc [.slice r.A r.n r.c, .map r.p] 107), r.er, r.em]) (hk : o.kind = 1) :
  Calls Tryz.prog 20 #[.pointer (some ⟨b, 0, none⟩), .agg (fH o BA nn cc).toArray] w (fun ex w' => ∃ v, ex = .returned v ∧ (fun v w' => ∃ (r' : StV) (p : Row), v = .agg (fE (jG vs o).2 p).toArray ∧ cF 39 r' (jG vs o).1 ∧ aU 5 1 p.A p.n p.c (((jG vs o).2.bytes).map bX) p.e ∧ Mem w (bH [(some b, bc [.slice r.A r.n r.c, .map r.p] 107), r.er, r.em]) [(some b, bc [.slice r'.A r'.n r'.c, .map r'.p] 107), r'.er, r'.em, p.e] w') v w') := by
 have hG := hW.1
 have hbl := hP.len
 refine aH #[.cell 4 33] 21 Tryz.func20 rfl Tryz.results20 Tryz.ntmps20 rfl ?_
 have M0 := hO.mem
 refine aD (aA (bG (.agg (List.toArray _)) M0 rfl rfl rfl (fun b1 w1 M1 => (aP kH M1 rfl rfl (fun b2 w2 M2 => (aB (aC (aD (bO [(1, 0), (2, 1), (0, 2), (3, 1), (4, 0), (5, 0), (6, 0), (7, 0), (8, 0)] mixed rfl (by kernel_rfl) (fun w3 hb3 hh3 => ?_))))))))))
 have M3 := M2.drew hb3 hh3
 refine aY rfl rfl rfl (fun _ => aE 0 oS rfl) (bW rfl rfl rfl (aM 3 (.int _ _) iY M3 rfl rfl rfl) (dU [false] rfl (by kernel_rfl) (bZ zV rfl rfl (gO _) ?_)))
 rintro v4 w4 ⟨pm, em, f1, g1, f2, g2, f3, g3, rfl, hmap, hM4⟩
 have M4 : Mem _ _ [_, _, _, _, _, _, _, _, _, _, _, _] _ := M3.call0 hM4
 refine aB (aC ⟨(eL (bQ rfl (aM 3 (.int _ _) iY M4 rfl rfl rfl)) dT), ?_⟩)
 refine bW rfl rfl rfl (iD (enc := (fun v : Value => v)) .nilFunc 5 kI aKa M4 rfl hmap rfl rfl) (fN 11 (.tuple [(.func (.func 120) #[] #[.pointer (some ⟨f1, 0, none⟩), .pointer (some ⟨g1, 0, none⟩)] : Value), .bool true].toArray) (lY (aTl hk)) (aY rfl rfl rfl (fun _ => aG (.tuple (List.toArray _)) rfl) ?_))
 refine aY rfl rfl rfl (fun _ => bB (.func _ _ _) rfl rfl) (aY rfl rfl rfl (fun _ => bB (.bool true) rfl rfl) (aY rfl rfl rfl (fun _ => aI (.func _ _ _) rfl) (aY rfl rfl rfl (fun _ => aI (.bool true) rfl) (cB (aC (aD (aD (aA ?_))))))))
 refine wq (aG (.bool true) rfl) rfl (wq (fZ false rfl rfl) rfl (aB (aC (cC rfl (aK (aC (aD (aA (wq (aG (.func _ _ _) rfl) rfl ?_)))))))))
 refine wq (aG (.pointer _) rfl) rfl (wq (bC 3 pJ M4 rfl rfl rfl) rfl (bZ bEp rfl rfl (aTz _ _ r vs hW _ _ (M4.ownK [true, true, true, false, false, false, true, true, false, false, false, false]) o BA nn cc (hP.memY M4 hdB) hnn (M4.awayK [true, true, true, false, false, false, true, true, false, false, false, false] hP.rd hdB)) ?_))
 rintro v5 w5 ⟨r2, rfl, hw2, hM5⟩
 have M5 : Mem _ _ [_, _, _, _, _, _, _, _, _, _, _, _] _ := M4.callK [true, true, true, false, false, false, true, true, false, false, false, false] rfl hM5
 refine bA 6 _ gK M5 rfl rfl rfl rfl rfl (aQ rfl) rfl (fun w6 M6 => (aB (aC (aL (eO 6 gK M6 rfl rfl rfl ?_)))))
 exact ⟨r2, ⟨none, 0, 0, (none, default)⟩, by rw [aSl hk]; rfl, by rw [aSl hk]; exact hw2, by rw [aSl hk]; exact aU.nil _ _ _, (M6.keep [true, true, true, false, false, false, false, false, false, false, false, false]).dummy default⟩
set_option maxHeartbeats 32000000 in
theorem aKw (w : World)  (b : Nat) (r : StV) (vs : List Body) (hW : cF 39 r vs) (hO : Own [(some b, bc [.slice r.A r.n r.c, .map r.p] 107), r.er, r.em] w) (o : OpI) (BA : Option Addr) (nn cc : Nat) (hP : OpOk w o BA nn cc) (hnn : nn ≤ 1000000) (hdB : 0 < nn → ∀ q off, BA = some ⟨q, off, none⟩ → q ∉ bH [(some b, bc [.slice r.A r.n r.c, .map r.p] 107), r.er, r.em]) (hk : o.kind = 2) :
  Calls Tryz.prog 20 #[.pointer (some ⟨b, 0, none⟩), .agg (fH o BA nn cc).toArray] w (fun ex w' => ∃ v, ex = .returned v ∧ (fun v w' => ∃ (r' : StV) (p : Row), v = .agg (fE (jG vs o).2 p).toArray ∧ cF 39 r' (jG vs o).1 ∧ aU 5 1 p.A p.n p.c (((jG vs o).2.bytes).map bX) p.e ∧ Mem w (bH [(some b, bc [.slice r.A r.n r.c, .map r.p] 107), r.er, r.em]) [(some b, bc [.slice r'.A r'.n r'.c, .map r'.p] 107), r'.er, r'.em, p.e] w') v w') := by
 have hG := hW.1
 have hbl := hP.len
 refine aH #[.cell 4 33] 21 Tryz.func20 rfl Tryz.results20 Tryz.ntmps20 rfl ?_
 have M0 := hO.mem
 refine aD (aA (bG (.agg (List.toArray _)) M0 rfl rfl rfl (fun b1 w1 M1 => (aP kH M1 rfl rfl (fun b2 w2 M2 => (aB (aC (aD (bO [(1, 0), (2, 1), (0, 2), (3, 1), (4, 0), (5, 0), (6, 0), (7, 0), (8, 0)] mixed rfl (by kernel_rfl) (fun w3 hb3 hh3 => ?_))))))))))
 have M3 := M2.drew hb3 hh3
 refine aY rfl rfl rfl (fun _ => aE 0 oS rfl) (bW rfl rfl rfl (aM 3 (.int _ _) iY M3 rfl rfl rfl) (dU [false] rfl (by kernel_rfl) (bZ zV rfl rfl (gO _) ?_)))
 rintro v4 w4 ⟨pm, em, f1, g1, f2, g2, f3, g3, rfl, hmap, hM4⟩
 have M4 : Mem _ _ [_, _, _, _, _, _, _, _, _, _, _, _] _ := M3.call0 hM4
 refine aB (aC ⟨(eL (bQ rfl (aM 3 (.int _ _) iY M4 rfl rfl rfl)) dT), ?_⟩)
 refine bW rfl rfl rfl (iD (enc := (fun v : Value => v)) .nilFunc 5 kI aKa M4 rfl hmap rfl rfl) (fN 11 (.tuple [(.func (.func 121) #[] #[.pointer (some ⟨f2, 0, none⟩), .pointer (some ⟨g2, 0, none⟩)] : Value), .bool true].toArray) (lY (aWx hk)) (aY rfl rfl rfl (fun _ => aG (.tuple (List.toArray _)) rfl) ?_))
 refine aY rfl rfl rfl (fun _ => bB (.func _ _ _) rfl rfl) (aY rfl rfl rfl (fun _ => bB (.bool true) rfl rfl) (aY rfl rfl rfl (fun _ => aI (.func _ _ _) rfl) (aY rfl rfl rfl (fun _ => aI (.bool true) rfl) (cB (aC (aD (aD (aA ?_))))))))
 refine wq (aG (.bool true) rfl) rfl (wq (fZ false rfl rfl) rfl (aB (aC (cC rfl (aK (aC (aD (aA (wq (aG (.func _ _ _) rfl) rfl ?_)))))))))
 refine wq (aG (.pointer _) rfl) rfl (wq (bC 3 pJ M4 rfl rfl rfl) rfl (bZ bFn rfl rfl (aHd _ _ r vs hW _ _ (M4.ownK [true, true, true, false, false, false, false, false, true, true, false, false]) o BA nn cc (hP.memY M4 hdB) hnn (M4.awayK [true, true, true, false, false, false, false, false, true, true, false, false] hP.rd hdB)) ?_))
 rintro v5 w5 ⟨r2, rfl, hw2, hM5⟩
 have M5 : Mem _ _ [_, _, _, _, _, _, _, _, _, _, _, _] _ := M4.callK [true, true, true, false, false, false, false, false, true, true, false, false] rfl hM5
 refine bA 6 _ gK M5 rfl rfl rfl rfl rfl (aQ rfl) rfl (fun w6 M6 => (aB (aC (aL (eO 6 gK M6 rfl rfl rfl ?_)))))
 exact ⟨r2, ⟨none, 0, 0, (none, default)⟩, by rw [bEb hk]; rfl, by rw [bEb hk]; exact hw2, by rw [bEb hk]; exact aU.nil _ _ _, (M6.keep [true, true, true, false, false, false, false, false, false, false, false, false]).dummy default⟩
set_option maxHeartbeats 32000000 in
theorem aMr (w : World)  (b : Nat) (r : StV) (vs : List Body) (hW : cF 39 r vs) (hO : Own [(some b, bc [.slice r.A r.n r.c, .map r.p] 107), r.er, r.em] w) (o : OpI) (BA : Option Addr) (nn cc : Nat) (hP : OpOk w o BA nn cc) (hnn : nn ≤ 1000000) (hdB : 0 < nn → ∀ q off, BA = some ⟨q, off, none⟩ → q ∉ bH [(some b, bc [.slice r.A r.n r.c, .map r.p] 107), r.er, r.em]) (hk : o.kind = 6) :
  Calls Tryz.prog 20 #[.pointer (some ⟨b, 0, none⟩), .agg (fH o BA nn cc).toArray] w (fun ex w' => ∃ v, ex = .returned v ∧ (fun v w' => ∃ (r' : StV) (p : Row), v = .agg (fE (jG vs o).2 p).toArray ∧ cF 39 r' (jG vs o).1 ∧ aU 5 1 p.A p.n p.c (((jG vs o).2.bytes).map bX) p.e ∧ Mem w (bH [(some b, bc [.slice r.A r.n r.c, .map r.p] 107), r.er, r.em]) [(some b, bc [.slice r'.A r'.n r'.c, .map r'.p] 107), r'.er, r'.em, p.e] w') v w') := by
 have hG := hW.1
 have hbl := hP.len
 refine aH #[.cell 4 33] 21 Tryz.func20 rfl Tryz.results20 Tryz.ntmps20 rfl ?_
 have M0 := hO.mem
 refine aD (aA (bG (.agg (List.toArray _)) M0 rfl rfl rfl (fun b1 w1 M1 => (aP kH M1 rfl rfl (fun b2 w2 M2 => (aB (aC (aD (bO [(1, 0), (2, 1), (0, 2), (3, 1), (4, 0), (5, 0), (6, 0), (7, 0), (8, 0)] mixed rfl (by kernel_rfl) (fun w3 hb3 hh3 => ?_))))))))))
 have M3 := M2.drew hb3 hh3
 refine aY rfl rfl rfl (fun _ => aE 0 oS rfl) (bW rfl rfl rfl (aM 3 (.int _ _) iY M3 rfl rfl rfl) (dU [false] rfl (by kernel_rfl) (bZ zV rfl rfl (gO _) ?_)))
 rintro v4 w4 ⟨pm, em, f1, g1, f2, g2, f3, g3, rfl, hmap, hM4⟩
 have M4 : Mem _ _ [_, _, _, _, _, _, _, _, _, _, _, _] _ := M3.call0 hM4
 refine aB (aC ⟨(eL (bQ rfl (aM 3 (.int _ _) iY M4 rfl rfl rfl)) dT), ?_⟩)
 refine bW rfl rfl rfl (iD (enc := (fun v : Value => v)) .nilFunc 5 kI aKa M4 rfl hmap rfl rfl) (fN 11 (.tuple [(.func (.func 123) #[] #[.pointer (some ⟨f3, 0, none⟩), .pointer (some ⟨g3, 0, none⟩)] : Value), .bool true].toArray) (lY (aUo hk)) (aY rfl rfl rfl (fun _ => aG (.tuple (List.toArray _)) rfl) ?_))
 refine aY rfl rfl rfl (fun _ => bB (.func _ _ _) rfl rfl) (aY rfl rfl rfl (fun _ => bB (.bool true) rfl rfl) (aY rfl rfl rfl (fun _ => aI (.func _ _ _) rfl) (aY rfl rfl rfl (fun _ => aI (.bool true) rfl) (cB (aC (aD (aD (aA ?_))))))))
 refine wq (aG (.bool true) rfl) rfl (wq (fZ false rfl rfl) rfl (aB (aC (cC rfl (aK (aC (aD (aA (wq (aG (.func _ _ _) rfl) rfl ?_)))))))))
 refine wq (aG (.pointer _) rfl) rfl (wq (bC 3 pJ M4 rfl rfl rfl) rfl (bZ bHu rfl rfl (aFa _ _ r vs hW _ _ (M4.ownK [true, true, true, false, false, false, false, false, false, false, true, true]) o BA nn cc (hP.memY M4 hdB) hnn (M4.awayK [true, true, true, false, false, false, false, false, false, false, true, true] hP.rd hdB)) ?_))
 rintro v5 w5 ⟨r2, rfl, hw2, hM5⟩
 have M5 : Mem _ _ [_, _, _, _, _, _, _, _, _, _, _, _] _ := M4.callK [true, true, true, false, false, false, false, false, false, false, true, true] rfl hM5
 refine bA 6 _ gK M5 rfl rfl rfl rfl rfl (aQ rfl) rfl (fun w6 M6 => (aB (aC (aL (eO 6 gK M6 rfl rfl rfl ?_)))))
 exact ⟨r2, ⟨none, 0, 0, (none, default)⟩, by rw [bDv hk]; rfl, by rw [bDv hk]; exact hw2, by rw [bDv hk]; exact aU.nil _ _ _, (M6.keep [true, true, true, false, false, false, false, false, false, false, false, false]).dummy default⟩
set_option maxHeartbeats 32000000 in
theorem aJx (w : World)  (b : Nat) (r : StV) (vs : List Body) (hW : cF 39 r vs) (hO : Own [(some b, bc [.slice r.A r.n r.c, .map r.p] 107), r.er, r.em] w) (o : OpI) (BA : Option Addr) (nn cc : Nat) (hP : OpOk w o BA nn cc) (hnn : nn ≤ 1000000) (hdB : 0 < nn → ∀ q off, BA = some ⟨q, off, none⟩ → q ∉ bH [(some b, bc [.slice r.A r.n r.c, .map r.p] 107), r.er, r.em]) (hk : o.kind = 3) :
  Calls Tryz.prog 20 #[.pointer (some ⟨b, 0, none⟩), .agg (fH o BA nn cc).toArray] w (fun ex w' => ∃ v, ex = .returned v ∧ (fun v w' => ∃ (r' : StV) (p : Row), v = .agg (fE (jG vs o).2 p).toArray ∧ cF 39 r' (jG vs o).1 ∧ aU 5 1 p.A p.n p.c (((jG vs o).2.bytes).map bX) p.e ∧ Mem w (bH [(some b, bc [.slice r.A r.n r.c, .map r.p] 107), r.er, r.em]) [(some b, bc [.slice r'.A r'.n r'.c, .map r'.p] 107), r'.er, r'.em, p.e] w') v w') := by
 have hG := hW.1
 have hbl := hP.len
 refine aH #[.cell 4 33] 21 Tryz.func20 rfl Tryz.results20 Tryz.ntmps20 rfl ?_
 have M0 := hO.mem
 refine aD (aA (bG (.agg (List.toArray _)) M0 rfl rfl rfl (fun b1 w1 M1 => (aP kH M1 rfl rfl (fun b2 w2 M2 => (aB (aC (aD (bO [(1, 0), (2, 1), (0, 2), (3, 1), (4, 0), (5, 0), (6, 0), (7, 0), (8, 0)] mixed rfl (by kernel_rfl) (fun w3 hb3 hh3 => ?_))))))))))
 have M3 := M2.drew hb3 hh3
 refine aY rfl rfl rfl (fun _ => aE 0 oS rfl) (bW rfl rfl rfl (aM 3 (.int _ _) iY M3 rfl rfl rfl) (dU [false] rfl (by kernel_rfl) (bZ zV rfl rfl (gO _) ?_)))
 rintro v4 w4 ⟨pm, em, f1, g1, f2, g2, f3, g3, rfl, hmap, hM4⟩
 have M4 : Mem _ _ [_, _, _, _, _, _, _, _, _, _, _, _] _ := M3.call0 hM4
 refine aB (aC ⟨(eL (bQ rfl (aM 3 (.int _ _) iY M4 rfl rfl rfl)) dT), ?_⟩)
 refine bW rfl rfl rfl (iD (enc := (fun v : Value => v)) .nilFunc 5 kI aKa M4 rfl hmap rfl rfl) (fN 11 (.tuple [(.func (.func 90) #[] #[] : Value), .bool true].toArray) (lY (aTi hk)) (aY rfl rfl rfl (fun _ => aG (.tuple (List.toArray _)) rfl) (aY rfl rfl rfl (fun _ => bB (.func _ _ _) rfl rfl) ?_)))
 refine aY rfl rfl rfl (fun _ => bB (.bool true) rfl rfl) (aY rfl rfl rfl (fun _ => aI (.func _ _ _) rfl) (aY rfl rfl rfl (fun _ => aI (.bool true) rfl) (cB (aC (aD (aD (aA (wq (aG (.bool true) rfl) rfl ?_))))))))
 refine wq (fZ false rfl rfl) rfl (aB (aC (cC rfl (aK (aC (aD (aA (wq (aG (.func _ _ _) rfl) rfl (wq (aG (.pointer _) rfl) rfl ?_)))))))))
 refine wq (bC 3 pJ M4 rfl rfl rfl) rfl (bZ bIs rfl rfl (aFy _ _ r vs hW (M4.ownSeg 0 3) o BA nn cc (hP.memY M4 hdB) hnn (M4.away 0 3 hP.rd hdB)  hk) ?_)
 rintro v5 w5 ⟨r2, p2, rfl, hw2, hp2, hM5⟩
 have M5 : Mem _ _ [_, _, _, _, _, _, _, _, _, _, _, _, _] _ := M4.seg 0 3 hM5
 refine bA 4 _ gK M5 rfl rfl rfl rfl rfl (aQ rfl) rfl (fun w6 M6 => (aB (aC (aL (eO 4 gK M6 rfl rfl rfl ?_)))))
 exact ⟨r2, p2, rfl, hw2, hp2, M6.keep [true, true, true, false, false, false, false, false, false, false, false, false, true]⟩
set_option maxHeartbeats 32000000 in
theorem aLr (w : World) (F : Rd w 2 (some ⟨0, 0, none⟩) 1 [[.int .u32 73856093, .int .u32 19349663]]) (N : Rd w 4 (some ⟨3, 0, none⟩) 1 [cX gL]) (b : Nat) (r : StV) (vs : List Body) (hW : cF 39 r vs) (hO : Own [(some b, bc [.slice r.A r.n r.c, .map r.p] 107), r.er, r.em] w) (o : OpI) (BA : Option Addr) (nn cc : Nat) (hP : OpOk w o BA nn cc) (hnn : nn ≤ 1000000) (hdB : 0 < nn → ∀ q off, BA = some ⟨q, off, none⟩ → q ∉ bH [(some b, bc [.slice r.A r.n r.c, .map r.p] 107), r.er, r.em]) (hdF : 0 < 1 → ∀ q off, (some ⟨0, 0, none⟩ : Option Addr) = some ⟨q, off, none⟩ → q ∉ bH [(some b, bc [.slice r.A r.n r.c, .map r.p] 107), r.er, r.em]) (hdN : 0 < 1 → ∀ q off, (some ⟨3, 0, none⟩ : Option Addr) = some ⟨q, off, none⟩ → q ∉ bH [(some b, bc [.slice r.A r.n r.c, .map r.p] 107), r.er, r.em]) (hk : o.kind = 4) :
  Calls Tryz.prog 20 #[.pointer (some ⟨b, 0, none⟩), .agg (fH o BA nn cc).toArray] w (fun ex w' => ∃ v, ex = .returned v ∧ (fun v w' => ∃ (r' : StV) (p : Row), v = .agg (fE (jG vs o).2 p).toArray ∧ cF 39 r' (jG vs o).1 ∧ aU 5 1 p.A p.n p.c (((jG vs o).2.bytes).map bX) p.e ∧ Mem w (bH [(some b, bc [.slice r.A r.n r.c, .map r.p] 107), r.er, r.em]) [(some b, bc [.slice r'.A r'.n r'.c, .map r'.p] 107), r'.er, r'.em, p.e] w') v w') := by
 have hG := hW.1
 have hbl := hP.len
 refine aH #[.cell 4 33] 21 Tryz.func20 rfl Tryz.results20 Tryz.ntmps20 rfl ?_
 have M0 := hO.mem
 refine aD (aA (bG (.agg (List.toArray _)) M0 rfl rfl rfl (fun b1 w1 M1 => (aP kH M1 rfl rfl (fun b2 w2 M2 => (aB (aC (aD (bO [(1, 0), (2, 1), (0, 2), (3, 1), (4, 0), (5, 0), (6, 0), (7, 0), (8, 0)] mixed rfl (by kernel_rfl) (fun w3 hb3 hh3 => ?_))))))))))
 have M3 := M2.drew hb3 hh3
 refine aY rfl rfl rfl (fun _ => aE 0 oS rfl) (bW rfl rfl rfl (aM 3 (.int _ _) iY M3 rfl rfl rfl) (dU [false] rfl (by kernel_rfl) (bZ zV rfl rfl (gO _) ?_)))
 rintro v4 w4 ⟨pm, em, f1, g1, f2, g2, f3, g3, rfl, hmap, hM4⟩
 have M4 : Mem _ _ [_, _, _, _, _, _, _, _, _, _, _, _] _ := M3.call0 hM4
 refine aB (aC ⟨(eL (bQ rfl (aM 3 (.int _ _) iY M4 rfl rfl rfl)) dT), ?_⟩)
 refine bW rfl rfl rfl (iD (enc := (fun v : Value => v)) .nilFunc 5 kI aKa M4 rfl hmap rfl rfl) (fN 11 (.tuple [(.func (.func 92) #[] #[] : Value), .bool true].toArray) (lY (aWc hk)) (aY rfl rfl rfl (fun _ => aG (.tuple (List.toArray _)) rfl) (aY rfl rfl rfl (fun _ => bB (.func _ _ _) rfl rfl) ?_)))
 refine aY rfl rfl rfl (fun _ => bB (.bool true) rfl rfl) (aY rfl rfl rfl (fun _ => aI (.func _ _ _) rfl) (aY rfl rfl rfl (fun _ => aI (.bool true) rfl) (cB (aC (aD (aD (aA (wq (aG (.bool true) rfl) rfl ?_))))))))
 refine wq (fZ false rfl rfl) rfl (aB (aC (cC rfl (aK (aC (aD (aA (wq (aG (.func _ _ _) rfl) rfl (wq (aG (.pointer _) rfl) rfl ?_)))))))))
 refine wq (bC 3 pJ M4 rfl rfl rfl) rfl (bZ bKd rfl rfl (aQz _ (F.memY M4 hdF) (N.memY M4 hdN) _ r vs hW (M4.ownSeg 0 3) o BA nn cc (hP.memY M4 hdB) hnn (M4.away 0 3 hP.rd hdB) (M4.away 0 3 F hdF) (M4.away 0 3 N hdN) hk) ?_)
 rintro v5 w5 ⟨r2, p2, rfl, hw2, hp2, hM5⟩
 have M5 : Mem _ _ [_, _, _, _, _, _, _, _, _, _, _, _, _] _ := M4.seg 0 3 hM5
 refine bA 4 _ gK M5 rfl rfl rfl rfl rfl (aQ rfl) rfl (fun w6 M6 => (aB (aC (aL (eO 4 gK M6 rfl rfl rfl ?_)))))
 exact ⟨r2, p2, rfl, hw2, hp2, M6.keep [true, true, true, false, false, false, false, false, false, false, false, false, true]⟩
set_option maxHeartbeats 32000000 in
theorem aKv (w : World)  (b : Nat) (r : StV) (vs : List Body) (hW : cF 39 r vs) (hO : Own [(some b, bc [.slice r.A r.n r.c, .map r.p] 107), r.er, r.em] w) (o : OpI) (BA : Option Addr) (nn cc : Nat) (hP : OpOk w o BA nn cc) (hnn : nn ≤ 1000000) (hdB : 0 < nn → ∀ q off, BA = some ⟨q, off, none⟩ → q ∉ bH [(some b, bc [.slice r.A r.n r.c, .map r.p] 107), r.er, r.em]) (hk : o.kind = 5) :
  Calls Tryz.prog 20 #[.pointer (some ⟨b, 0, none⟩), .agg (fH o BA nn cc).toArray] w (fun ex w' => ∃ v, ex = .returned v ∧ (fun v w' => ∃ (r' : StV) (p : Row), v = .agg (fE (jG vs o).2 p).toArray ∧ cF 39 r' (jG vs o).1 ∧ aU 5 1 p.A p.n p.c (((jG vs o).2.bytes).map bX) p.e ∧ Mem w (bH [(some b, bc [.slice r.A r.n r.c, .map r.p] 107), r.er, r.em]) [(some b, bc [.slice r'.A r'.n r'.c, .map r'.p] 107), r'.er, r'.em, p.e] w') v w') := by
 have hG := hW.1
 have hbl := hP.len
 refine aH #[.cell 4 33] 21 Tryz.func20 rfl Tryz.results20 Tryz.ntmps20 rfl ?_
 have M0 := hO.mem
 refine aD (aA (bG (.agg (List.toArray _)) M0 rfl rfl rfl (fun b1 w1 M1 => (aP kH M1 rfl rfl (fun b2 w2 M2 => (aB (aC (aD (bO [(1, 0), (2, 1), (0, 2), (3, 1), (4, 0), (5, 0), (6, 0), (7, 0), (8, 0)] mixed rfl (by kernel_rfl) (fun w3 hb3 hh3 => ?_))))))))))
 have M3 := M2.drew hb3 hh3
 refine aY rfl rfl rfl (fun _ => aE 0 oS rfl) (bW rfl rfl rfl (aM 3 (.int _ _) iY M3 rfl rfl rfl) (dU [false] rfl (by kernel_rfl) (bZ zV rfl rfl (gO _) ?_)))
 rintro v4 w4 ⟨pm, em, f1, g1, f2, g2, f3, g3, rfl, hmap, hM4⟩
 have M4 : Mem _ _ [_, _, _, _, _, _, _, _, _, _, _, _] _ := M3.call0 hM4
 refine aB (aC ⟨(eL (bQ rfl (aM 3 (.int _ _) iY M4 rfl rfl rfl)) dT), ?_⟩)
 refine bW rfl rfl rfl (iD (enc := (fun v : Value => v)) .nilFunc 5 kI aKa M4 rfl hmap rfl rfl) (fN 11 (.tuple [(.func (.func 93) #[] #[] : Value), .bool true].toArray) (lY (aUm hk)) (aY rfl rfl rfl (fun _ => aG (.tuple (List.toArray _)) rfl) (aY rfl rfl rfl (fun _ => bB (.func _ _ _) rfl rfl) ?_)))
 refine aY rfl rfl rfl (fun _ => bB (.bool true) rfl rfl) (aY rfl rfl rfl (fun _ => aI (.func _ _ _) rfl) (aY rfl rfl rfl (fun _ => aI (.bool true) rfl) (cB (aC (aD (aD (aA (wq (aG (.bool true) rfl) rfl ?_))))))))
 refine wq (fZ false rfl rfl) rfl (aB (aC (cC rfl (aK (aC (aD (aA (wq (aG (.func _ _ _) rfl) rfl (wq (aG (.pointer _) rfl) rfl ?_)))))))))
 refine wq (bC 3 pJ M4 rfl rfl rfl) rfl (bZ bIq rfl rfl (aBh _ _ r vs hW (M4.ownSeg 0 3) o BA nn cc (hP.memY M4 hdB) hnn (M4.away 0 3 hP.rd hdB)  hk) ?_)
 rintro v5 w5 ⟨r2, p2, rfl, hw2, hp2, hM5⟩
 have M5 : Mem _ _ [_, _, _, _, _, _, _, _, _, _, _, _, _] _ := M4.seg 0 3 hM5
 refine bA 4 _ gK M5 rfl rfl rfl rfl rfl (aQ rfl) rfl (fun w6 M6 => (aB (aC (aL (eO 4 gK M6 rfl rfl rfl ?_)))))
 exact ⟨r2, p2, rfl, hw2, hp2, M6.keep [true, true, true, false, false, false, false, false, false, false, false, false, true]⟩
set_option maxHeartbeats 32000000 in
theorem aMs (w : World)  (b : Nat) (r : StV) (vs : List Body) (hW : cF 39 r vs) (hO : Own [(some b, bc [.slice r.A r.n r.c, .map r.p] 107), r.er, r.em] w) (o : OpI) (BA : Option Addr) (nn cc : Nat) (hP : OpOk w o BA nn cc) (hdB : 0 < nn → ∀ q off, BA = some ⟨q, off, none⟩ → q ∉ bH [(some b, bc [.slice r.A r.n r.c, .map r.p] 107), r.er, r.em]) (hk : o.kind < 1 ∨ 6 < o.kind) :
  Calls Tryz.prog 20 #[.pointer (some ⟨b, 0, none⟩), .agg (fH o BA nn cc).toArray] w (fun ex w' => ∃ v, ex = .returned v ∧ (fun v w' => ∃ (r' : StV) (p : Row), v = .agg (fE (jG vs o).2 p).toArray ∧ cF 39 r' (jG vs o).1 ∧ aU 5 1 p.A p.n p.c (((jG vs o).2.bytes).map bX) p.e ∧ Mem w (bH [(some b, bc [.slice r.A r.n r.c, .map r.p] 107), r.er, r.em]) [(some b, bc [.slice r'.A r'.n r'.c, .map r'.p] 107), r'.er, r'.em, p.e] w') v w') := by
 have hG := hW.1
 have hbl := hP.len
 refine aH #[.cell 4 33] 21 Tryz.func20 rfl Tryz.results20 Tryz.ntmps20 rfl ?_
 have M0 := hO.mem
 refine aD (aA (bG (.agg (List.toArray _)) M0 rfl rfl rfl (fun b1 w1 M1 => (aP kH M1 rfl rfl (fun b2 w2 M2 => (aB (aC (aD (bO [(1, 0), (2, 1), (0, 2), (3, 1), (4, 0), (5, 0), (6, 0), (7, 0), (8, 0)] mixed rfl (by kernel_rfl) (fun w3 hb3 hh3 => ?_))))))))))
 have M3 := M2.drew hb3 hh3
 refine aY rfl rfl rfl (fun _ => aE 0 oS rfl) (bW rfl rfl rfl (aM 3 (.int _ _) iY M3 rfl rfl rfl) (dU [false] rfl (by kernel_rfl) (bZ zV rfl rfl (gO _) ?_)))
 rintro v4 w4 ⟨pm, em, f1, g1, f2, g2, f3, g3, rfl, hmap, hM4⟩
 have M4 : Mem _ _ [_, _, _, _, _, _, _, _, _, _, _, _] _ := M3.call0 hM4
 refine aB (aC ⟨(eL (bQ rfl (aM 3 (.int _ _) iY M4 rfl rfl rfl)) dT), ?_⟩)
 refine bW rfl rfl rfl (iD (enc := (fun v : Value => v)) .nilFunc 5 kI aKa M4 rfl hmap rfl rfl) (fN 11 (.tuple [(.nilFunc : Value), .bool false].toArray) (aQb (aWj hk)) (aY rfl rfl rfl (fun _ => aG (.tuple (List.toArray _)) rfl) (aY rfl rfl rfl (fun _ => bB (_) rfl rfl) (aY rfl rfl rfl (fun _ => bB (.bool false) rfl rfl) ?_))))
 refine aY rfl rfl rfl (fun _ => aI (_) rfl) (aY rfl rfl rfl (fun _ => aI (.bool false) rfl) (cB (aC (aD (aD (aA (wq (aG (.bool false) rfl) rfl (wq (fZ true rfl rfl) rfl ?_))))))))
 refine aB (aC (cQ rfl (aD (aA (wq (cH [(0, .int _ _)] _ mQ rfl rfl) rfl (bA 4 _ gK M4 rfl rfl rfl rfl rfl (aQ rfl) rfl (fun w5 M5 => (aB (aC (aL (cD ?_)))))))))))
 refine eO 4 gK M5 rfl rfl rfl ?_
 exact ⟨r, ⟨none, 0, 0, (none, default)⟩, by rw [sF (by omega)]; rfl, by rw [sF (by omega)]; exact hW, by rw [sF (by omega)]; exact aU.nil _ _ _, (M5.keep [true, true, true, false, false, false, false, false, false, false, false, false]).dummy default⟩
theorem aPm (w : World) (F : Rd w 2 (some ⟨0, 0, none⟩) 1 [[.int .u32 73856093, .int .u32 19349663]]) (N : Rd w 4 (some ⟨3, 0, none⟩) 1 [cX gL]) (b : Nat) (r : StV) (vs : List Body) (hW : cF 39 r vs) (hO : Own [(some b, bc [.slice r.A r.n r.c, .map r.p] 107), r.er, r.em] w) (o : OpI) (BA : Option Addr) (nn cc : Nat) (hP : OpOk w o BA nn cc) (hnn : nn ≤ 1000000) (hdB : 0 < nn → ∀ q off, BA = some ⟨q, off, none⟩ → q ∉ bH [(some b, bc [.slice r.A r.n r.c, .map r.p] 107), r.er, r.em]) (hdF : 0 < 1 → ∀ q off, (some ⟨0, 0, none⟩ : Option Addr) = some ⟨q, off, none⟩ → q ∉ bH [(some b, bc [.slice r.A r.n r.c, .map r.p] 107), r.er, r.em]) (hdN : 0 < 1 → ∀ q off, (some ⟨3, 0, none⟩ : Option Addr) = some ⟨q, off, none⟩ → q ∉ bH [(some b, bc [.slice r.A r.n r.c, .map r.p] 107), r.er, r.em]) : Calls Tryz.prog 20 #[.pointer (some ⟨b, 0, none⟩), .agg (fH o BA nn cc).toArray] w (fun ex w' => ∃ v, ex = .returned v ∧ (fun v w' => ∃ (r' : StV) (p : Row), v = .agg (fE (jG vs o).2 p).toArray ∧ cF 39 r' (jG vs o).1 ∧ aU 5 1 p.A p.n p.c (((jG vs o).2.bytes).map bX) p.e ∧ Mem w (bH [(some b, bc [.slice r.A r.n r.c, .map r.p] 107), r.er, r.em]) [(some b, bc [.slice r'.A r'.n r'.c, .map r'.p] 107), r'.er, r'.em, p.e] w') v w') := by
 by_cases h0 : o.kind < 1 ∨ 6 < o.kind
 ·exact aMs w b r vs hW hO o BA nn cc hP hdB h0
 by_cases h1 : o.kind = 1
 ·exact aLm w b r vs hW hO o BA nn cc hP hnn hdB h1
 by_cases h2 : o.kind = 2
 ·exact aKw w b r vs hW hO o BA nn cc hP hnn hdB h2
 by_cases h3 : o.kind = 3
 ·exact aJx w b r vs hW hO o BA nn cc hP hnn hdB h3
 by_cases h4 : o.kind = 4
 ·exact aLr w F N b r vs hW hO o BA nn cc hP hnn hdB hdF hdN h4
 by_cases h5 : o.kind = 5
 ·exact aKv w b r vs hW hO o BA nn cc hP hnn hdB h5
 ·exact aMr w b r vs hW hO o BA nn cc hP hnn hdB (by omega)
set_option maxHeartbeats 32000000 in
theorem aKu (w : World) (F : Rd w 2 (some ⟨0, 0, none⟩) 1 [[.int .u32 73856093, .int .u32 19349663]]) (N : Rd w 4 (some ⟨3, 0, none⟩) 1 [cX gL]) (b : Nat) (r : StV) (vs : List Body) (hW : cF 39 r vs) (hO : Own [(some b, bc [.slice r.A r.n r.c, .map r.p] 107), r.er, r.em] w) (hdF : 0 < 1 → ∀ q off, (some ⟨0, 0, none⟩ : Option Addr) = some ⟨q, off, none⟩ → q ∉ bH [(some b, bc [.slice r.A r.n r.c, .map r.p] 107), r.er, r.em]) (hdN : 0 < 1 → ∀ q off, (some ⟨3, 0, none⟩ : Option Addr) = some ⟨q, off, none⟩ → q ∉ bH [(some b, bc [.slice r.A r.n r.c, .map r.p] 107), r.er, r.em]) (A : Option Addr) (n c : Nat) (l : List OpRow) (hl : OpsRd w A n l) (hby : ∀ x ∈ l, x.n ≤ 1000000) (hn : n ≤ 1000000) (hdl : 0 < n → ∀ q off, A = some ⟨q, off, none⟩ → q ∉ bH [(some b, bc [.slice r.A r.n r.c, .map r.p] 107), r.er, r.em]) (hdo : aNr l (bH [(some b, bc [.slice r.A r.n r.c, .map r.p] 107), r.er, r.em])) :
  Calls Tryz.prog 33 #[.pointer (some ⟨b, 0, none⟩), .slice A n c] w (fun ex w' => ∃ v, ex = .returned v ∧ (fun v w' => ∃ (r' : StV) (q : Row) (rs : List Row), v = .slice q.A q.n q.c ∧ cF 39 r' (tW vs (tP l)) ∧ aU 33 4 q.A q.n q.c (wJ (tZ vs (tP l)) rs) q.e ∧ OutR 5 rs (tZ vs (tP l)) ∧ Mem w (bH [(some b, bc [.slice r.A r.n r.c, .map r.p] 107), r.er, r.em]) ([(some b, bc [.slice r'.A r'.n r'.c, .map r'.p] 107), r'.er, r'.em, q.e] ++ rs.map Row.e) w') v w') := by
 have hlen : l.length = n := by simpa using hl.rd.len
 have hbd := hl.rd.bound
 refine aH #[.tmp 4] 22 Tryz.func33 rfl Tryz.results33 Tryz.ntmps33 rfl ?_
 have M0 := hO.mem
 refine aD (aA (eG rfl rfl (aB (aC (aD (aA (eG rfl rfl ?_)))))))
 have M1 := M0.dummy default
 refine aB (aC (aD (aD (aA (dN rfl rfl (wq (cT Tryz.underlying27 rfl) rfl (aZ rfl rfl (aB (aC (aT (dI (σ := Nat × StV × Row × List Row) [0, 4, 8, 9] (fun (i, r', q, rs) => [(5, .slice q.A q.n q.c), (10, .int .i64 (i : Int))]) (fun (i, r', q, rs) w' => (i ≤ n ∧ cF 39 r' (tW vs ((tP l).take i)) ∧ aU 33 4 q.A q.n q.c (wJ ((tZ vs ((tP l).take i))) rs) q.e ∧ OutR 5 rs (tZ vs ((tP l).take i))) ∧ Mem w (bH [(some b, bc [.slice r.A r.n r.c, .map r.p] 107), r.er, r.em]) ([(some b, bc [.slice r'.A r'.n r'.c, .map r'.p] 107), r'.er, r'.em, q.e] ++ rs.map Row.e) w') (fun (i, r', q, rs) => n - i) (0, r, gZ, []) (bM rfl (bM rfl eP)) (⟨⟨by omega, hW, aU.nil _ _ _, OutR.nil _⟩, M1⟩) ?_)))))))))))
 rintro ⟨i, r', q, rs⟩ ρ2 w2 ⟨⟨hi, hr, hq, hoR⟩, hM2⟩
 have hqn : (wJ (tZ vs ((tP l).take i)) rs).length = q.n := hq.1
 rw [aTx hoR.len, aGl, List.length_take, aGh] at hqn
 refine aD (aA (dB rfl rfl rfl rfl (aB (aC (aD ?_)))))
 refine aX rfl (fun h11 => ?_) (fun h11 => ?_)
 ·obtain ⟨x, hx⟩ := cM (xs := l) (k := i) hlen (by omega)
  have hxm := List.mem_of_getElem? hx
  have hP := hl.each x hxm
  have hxo := bBj hx
  refine aK (aC (aD (aT (aD (aA (wq (bR (i) bJe rfl rfl rfl ((hl.rd.memY hM2 hdl).below_len (aJ OpRow.cells hx)) ((hl.rd.memY hM2 hdl).someK (aJ OpRow.cells hx))) rfl (wq (dJ _ pJ (hl.rd.memY hM2 hdl) (aJ OpRow.cells hx) rfl) rfl (aV 13 (.agg (fH x.o x.A x.n x.c).toArray) rfl ?_))))))))
  refine aP bFc hM2 rfl rfl (fun b3 w3 M3 => ?_)
  have M4 : Mem _ _ ([_, _, _, _, _] ++ _) _ := Mem.front (L := [_, _, _, _]) M3
  refine bA 4 _ pJ M4 rfl rfl rfl rfl rfl (aQ rfl) rfl (fun w5 M5 => (aB (aC (aA (dN rfl rfl (wq (aG (.pointer _) rfl) rfl (wq (bC 4 pJ M5 rfl rfl rfl) rfl (bZ bIx rfl rfl (aPm _ (F.memY M5 hdF) (N.memY M5 hdN) _ r' _ hr (M5.ownSeg 0 3) x.o x.A x.n x.c (hP.memY M5 (hdo x hxm)) (hby x hxm) (M5.away 0 3 hP.rd (hdo x hxm)) (M5.away 0 3 F hdF) (M5.away 0 3 N hdN)) ?_))))))))
  rintro v6 w6 ⟨r2, p2, rfl, hr2, hp2, hM6⟩
  have M6 : Mem _ _ ([_, _, _, _, _, _] ++ _) _ := Mem.front (L := [_, _, _, _, _]) (M5.seg 0 3 hM6)
  refine cS [.agg (List.toArray _)] [fE (jG (tW vs ((tP l).take i)) x.o).2 p2] rfl bJm M6 rfl rfl rfl rfl (cY rfl) (by decide) (fun b7 w7 M7 => ?_)
  have M8 : Mem _ _ ([_, _, _, _, _, _, _] ++ _) _ := Mem.front (L := [_, _, _, _, _, _]) M7
  refine dL 3 [fE (jG (tW vs ((tP l).take i)) x.o).2 p2] bJm M8 rfl rfl rfl rfl rfl hq rfl (by simp [fE, Go.Bil.one]) (cZ.ofMem 6 M8 rfl) (by omega) (fun A9 c9 e9 w9 M9 hR9 => (eG rfl rfl (aB (dD (aC (aA (wq (bP rfl rfl (by omega) (by omega)) rfl ?_)))))))
  refine aZ rfl rfl (aB ?_)
  refine cO (i + 1, r2, ⟨A9, q.n + 1, c9, e9⟩, rs ++ [p2]) (bM rfl (bM rfl eP)) (cU rfl (cU rfl (cU rfl (cU rfl jT)))) ?_ ?_
  ·exact ⟨⟨by omega, by rw [aQo hxo]; exact hr2, by rw [aDe hxo, aSr hoR.len]; exact hR9, by rw [aDe hxo]; exact hoR.add hp2⟩, Mem.pushNew (L := [_, _, _, _]) p2 (Mem.keepL (L := [_, _, _, _, _, _, _]) [true, true, true, true, false, true, false] M9)⟩
  ·(show n - (i + 1) < n - i; omega)
 ·have hin : i = n := by omega
  rw [hin, List.take_of_length_le (by rw [aGh]; omega)] at hr hq hoR
  refine cR (dC (dA (eZ (aC (aD (aA (dN rfl rfl ?_)))))))
  refine eG rfl rfl (aB (aC (aL (cA (.slice _ _ _) rfl ?_))))
  exact ⟨r', q, rs, rfl, hr, hq, hoR, hM2⟩
set_option maxHeartbeats 4000000 in
theorem aFs (w : World) (F : Rd w 2 (some ⟨0, 0, none⟩) 1 [[.int .u32 73856093, .int .u32 19349663]]) (N : Rd w 4 (some ⟨3, 0, none⟩) 1 [cX gL]) (A : Option Addr) (n c : Nat) (l : List OpRow) (hl : OpsRd w A n l) (hby : ∀ x ∈ l, x.n ≤ 1000000) (hn : n ≤ 1000000) :
  Calls Tryz.prog 18 #[.slice A n c] w (fun ex w' => ∃ v, ex = .returned v ∧ (fun v w' => ∃ (b : Nat) (r' : StV), v = .pointer (some ⟨b, 0, none⟩) ∧ cF 39 r' (tW [] (tP l)) ∧ Mem w [] [(some b, bc [.slice r'.A r'.n r'.c, .map r'.p] 107), r'.er, r'.em] w') v w') := by
 have hlen : l.length = n := by simpa using hl.rd.len
 have hbd := hl.rd.bound
 refine aH #[.tmp 2] 9 Tryz.func18 rfl Tryz.results18 Tryz.ntmps18 rfl ?_
 have M0 := Mem.refl w
 refine aD (aA (wq (aI (.pointer _) rfl) rfl (aB (aC (aD (aA (aP aYt M0 rfl rfl (fun b1 w1 M1 => ?_))))))))
 have M2 := (M1.dummy default).dummy default
 refine wq (aI (.pointer _) rfl) rfl (aB (aC (aD (aA (wq (aG (.pointer _) rfl) rfl (dN rfl rfl (bZ bIu rfl rfl (aKu _ (F.mem M2) (N.mem M2) _ ⟨none, 0, 0, none, (none, default), (none, default)⟩ _ (cF.new 39 default default) (M2.ownSeg 0 3) (M2.away 0 3 F (by simp)) (M2.away 0 3 N (by simp)) A n c l (hl.mem M2) hby hn (M2.away 0 3 hl.rd (by simp)) (fun x hx => M2.away 0 3 (hl.each x hx).rd (by simp))) ?_)))))))
 rintro v3 w3 ⟨r2, q, rs, rfl, hr2, hq, hoR, hM3⟩
 have M3 : Mem _ _ ([_, _, _, _] ++ _) _ := M2.seg 0 3 hM3
 refine aB (aC (aD (aA (wq (aG (.pointer _) rfl) rfl (wq (aI (.pointer _) rfl) rfl (aB (aC (aL (cA (.pointer _) rfl ?_)))))))))
 exact ⟨_, r2, rfl, hr2, M3.keep [true, true, true]⟩
set_option maxHeartbeats 8000000 in
theorem aIv (w : World) (F : Rd w 2 (some ⟨0, 0, none⟩) 1 [[.int .u32 73856093, .int .u32 19349663]]) (N : Rd w 4 (some ⟨3, 0, none⟩) 1 [cX gL]) (b : Nat) (r : StV) (vs : List Body) (hW : cF 39 r vs) (hO : Own [(some b, bc [.slice r.A r.n r.c, .map r.p] 107), r.er, r.em] w) (hdF : 0 < 1 → ∀ q off, (some ⟨0, 0, none⟩ : Option Addr) = some ⟨q, off, none⟩ → q ∉ bH [(some b, bc [.slice r.A r.n r.c, .map r.p] 107), r.er, r.em]) (hdN : 0 < 1 → ∀ q off, (some ⟨3, 0, none⟩ : Option Addr) = some ⟨q, off, none⟩ → q ∉ bH [(some b, bc [.slice r.A r.n r.c, .map r.p] 107), r.er, r.em]) :
  Calls Tryz.prog 53 #[.pointer (some ⟨b, 0, none⟩)] w (fun ex w' => ∃ v, ex = .returned v ∧ (fun v w' => ∃ (r' : StV) (t : Nat), v = .agg [.int .i64 (t : Int), .int .i64 ((kJ vs).length : Int), .bool (pG vs)].toArray ∧ (kJ vs).length ≤ t ∧ 2 * t ≤ vs.length * (vs.length - 1) ∧ cF 39 r' (lM vs) ∧ Mem w (bH [(some b, bc [.slice r.A r.n r.c, .map r.p] 107), r.er, r.em]) [(some b, bc [.slice r'.A r'.n r'.c, .map r'.p] 107), r'.er, r'.em] w') v w') := by
 have hW' := hW
 obtain ⟨hG, m, hs, hR⟩ := hW
 have hvl := hG.len
 refine aH #[.cell 2 58] 18 Tryz.func53 rfl Tryz.results53 Tryz.ntmps53 rfl ?_
 have M0 := hO.mem
 refine aD (aA (aP mE M0 rfl rfl (fun b1 w1 M1 => (aB (aC (aD (aD (aA (wq (aG (.pointer _) rfl) rfl (wq (eN false Tryz.underlying25 rfl rfl) rfl (aB (aC ?_))))))))))))
 refine cC rfl (aK (aC (aD (aA (wq (aG (.pointer _) rfl) rfl (bZ aOq rfl rfl (oQ _ _ r _ hW' (M1.ownSeg 0 3)) ?_))))))
 rintro v2 w2 ⟨q, rfl, hq, hM2⟩
 have M2 : Mem _ _ [_, _, _, _, _] _ := M1.seg 0 3 hM2
 have hqn : vs.length = q.n := by simpa using hq.1
 refine bZ aVl rfl rfl (vG _ (F.memY M2 hdF) (N.memY M2 hdN) _ _ _ vs (hq.rd M2 (aS (i := 4) rfl)) hG.okb hG.s (by omega)) ?_
 rintro v3 w3 ⟨ra, ta, rfl, h1ta, h2ta, hra, hM3⟩
 have M3 : Mem _ _ [_, _, _, _, _, _] _ := M2.call0 hM3
 refine wq (aG (.tuple (List.toArray _)) rfl) rfl (wq (bB (.slice _ _ _) rfl rfl) rfl (wq (bB (.agg (List.toArray _)) rfl rfl) rfl (aP mE M3 rfl rfl (fun b4 w4 M4 => (eG rfl rfl (bA 6 _ kC M4 rfl rfl rfl rfl rfl (aQ rfl) rfl (fun w5 M5 => ?_)))))))
 refine aB (aC (aD (aA (wq (aG (.pointer _) rfl) rfl (dN rfl rfl (bZ aXk rfl rfl (nK _ _ r _ hW' (M5.ownSeg 0 3) ra.A ra.n ra.c (lM vs) (hra.rd M5 (aS (i := 5) rfl)) hG.step (hra.awayS M5 0 3 5 rfl rfl)) ?_))))))
 rintro v6 w6 ⟨r2, rfl, hw2, hM6⟩
 have M6 : Mem _ _ [_, _, _, _, _, _, _] _ := M5.seg 0 3 hM6
 refine aB (aC (aD (aA (wq (bC 6 kC M6 rfl rfl rfl) rfl (bA 3 _ kC M6 rfl rfl rfl rfl rfl (aQ rfl) rfl (fun w7 M7 => (aB (aC (aL (eO 3 kC M7 rfl rfl rfl ?_))))))))))
 exact ⟨r2, ta, rfl, h1ta, h2ta, hw2, M7.keep [true, true, true, false, false, false, false]⟩
set_option maxHeartbeats 4000000 in
theorem uJ (w : World) (key inv x : Int) :
  Calls Tryz.prog 52 #[.int .u32 key, .int .i32 inv, .int .i32 x] w (fun ex w' => ∃ v, ex = .returned v ∧ (fun v w' => v = (.agg (aF (⟨key, 65536, 0, 0, inv, 0, x, 0, 0, 0⟩ : Body)).toArray) ∧ Below w.heap.size w w') v w') := by
 refine aH #[.cell 6 39] 12 Tryz.func52 rfl Tryz.results52 Tryz.ntmps52 rfl ?_
 have M0 := Mem.refl w
 refine aD (aA (aP gH M0 rfl rfl (fun b1 w1 M1 => (aB (aC (aD (aA (aZ rfl rfl (aZ rfl rfl (aZ rfl rfl ?_))))))))))
 refine wq (cH [(0, .int _ _)] _ fD rfl rfl) rfl (wq (cH [(0, .int _ _), (1, .int _ _), (3, .int _ _), (5, .agg (List.toArray _))] _ zQ rfl rfl) rfl (bA 0 _ bJ M1 rfl rfl rfl rfl rfl (aQ rfl) rfl (fun w2 M2 => (aB (aC (aL (eO 0 bJ M2 rfl rfl rfl ?_)))))))
 exact ⟨rfl, M2.below⟩
set_option maxHeartbeats 100000000 in
theorem bJq (w : World) (F : Rd w 2 (some ⟨0, 0, none⟩) 1 [[.int .u32 73856093, .int .u32 19349663]]) (N : Rd w 4 (some ⟨3, 0, none⟩) 1 [cX gL]) :
  Calls Tryz.prog 16 #[] w (fun ex w' => ∃ v, ex = .returned v ∧ (fun v w' => v = .bool true ∧ Below w.heap.size w w') v w') := by
 refine aH #[.tmp 0] 79 Tryz.func16 rfl Tryz.results16 Tryz.ntmps16 rfl ?_
 have M0 := Mem.refl w
 refine aD (aA (wq (aI (.bool false) rfl) rfl (aB (aC (aD (aA (bZ aNn rfl rfl (uJ _ 2 65536 0) ?_)))))))
 rintro v1 w1 ⟨rfl, hb1⟩
 have M1 := M0.callB hb1
 refine wq (cH [(0, .int _ _), (1, .agg (List.toArray _))] _ zF rfl rfl) rfl (aV 8 (.agg (OpRow.cells (opA vX)).toArray) rfl (bZ aNn rfl rfl (uJ _ 1 0 100000) ?_))
 rintro v2 w2 ⟨rfl, hb2⟩
 have M2 := M1.callB hb2
 refine wq (cH [(0, .int _ _), (1, .agg (List.toArray _))] _ zF rfl rfl) rfl (aV 10 (.agg (OpRow.cells (opA mT)).toArray) rfl (bZ aNn rfl rfl (uJ _ 1 0 0) ?_))
 rintro v3 w3 ⟨rfl, hb3⟩
 have M3 := M2.callB hb3
 refine wq (cH [(0, .int _ _), (1, .agg (List.toArray _))] _ zF rfl rfl) rfl (aV 12 (.agg (OpRow.cells (opA tB3)).toArray) rfl (cS [.agg (List.toArray _), .agg (List.toArray _), .agg (List.toArray _)] (aBi.map OpRow.cells) rfl bJe M3 rfl rfl rfl rfl (cY rfl) (by decide) (fun b4 w4 M4 => ?_)))
 have hlit13 := jK (T := 41) (sz := 15) (b := b4) (nn := 3) (aBi.map OpRow.cells) (bBk _) rfl (by decide)
 refine bZ bKp rfl rfl (aFs _ (F.mem M4) (N.mem M4) _ 3 3 aBi ⟨(hlit13.rd M4 (aS (i := 0) rfl)), aSa _⟩ (fun x hx => by rw [bFt x hx]; decide) (by decide)) ?_
 rintro v5 w5 ⟨wb, r0, rfl, hr0, hM5⟩
 have M5 : Mem _ _ [_, _, _, _] _ := M4.call0 hM5
 rw [bKf] at hr0
 refine wq (aI (.pointer _) rfl) rfl (aB (aC (aD (aA (wq (aG (.pointer _) rfl) rfl (bZ bCt rfl rfl (aIv _ (F.mem M5) (N.mem M5) _ r0 _ hr0 (M5.ownSeg 1 3) (M5.away 1 3 F (by simp)) (M5.away 1 3 N (by simp))) ?_))))))
 rintro v6 w6 ⟨r1, ts, rfl, h1ts, h2ts, hr1, hM6⟩
 have M6 : Mem _ _ [_, _, _, _] _ := M5.seg 1 3 hM6
 rw [bJp] at hr1
 rw [aDx] at h1ts
 obtain rfl : ts = 1 := by have h : 2 * ts ≤ 2 := h2ts; have g : 1 ≤ ts := h1ts; omega
 refine aV 16 (.agg [.int .i64 1, .int .i64 1, .bool false].toArray) (congrArg Value.agg (by rw [aDx, bJn]; rfl)) (aP mE M6 rfl rfl (fun b7 w7 M7 => (bA 4 _ kC M7 rfl rfl rfl rfl rfl (aQ rfl) rfl (fun w8 M8 => (aB (aC (aD (aA (wq (aG (.pointer _) rfl) rfl (bZ aOq rfl rfl (oQ _ _ r1 _ hr1 (M8.ownSeg 1 3)) ?_))))))))))
 rintro v9 w9 ⟨qv, rfl, hqv, hM9⟩
 have M9 : Mem _ _ [_, _, _, _, _, _] _ := M8.seg 1 3 hM9
 have hqv2 : 2 = qv.n := by simpa using hqv.1
 refine eG rfl rfl (aB (aC (aD (aD (aA (dN rfl rfl (wq (cT Tryz.underlying29 rfl) rfl (dB rfl rfl rfl rfl (uN 21 rfl (by omega) ?_)))))))))
 refine aB (aC (cC rfl (aK (aC (aD (aA (wq (aG (.pointer _) rfl) rfl (bZ bCx rfl rfl (qF _ _ r1 _ hr1 (M9.ownSeg 1 3)) ?_))))))))
 rintro v10 w10 ⟨sb, rfl, hsb, hM10⟩
 have M10 : Mem _ _ [_, _, _, _, _, _, _] _ := M9.seg 1 3 hM10
 have hsn : 88 = sb.n := by have h := hsb.1; rwa [List.length_map, aId] at h
 refine eG rfl rfl (aB (aC (aD (aA (dN rfl rfl (bZ bCy rfl rfl (sT _ sb.A sb.n sb.c (mS [mT, xQ]) (hsb.rd M10 (aS (i := 6) rfl)) (aSd _) hsb.slice (by omega)) ?_))))))
 rintro v11 w11 ⟨q, rfl, hq, hM11⟩
 have M11 : Mem _ _ [_, _, _, _, _, _, _, _] _ := M10.call0 hM11
 have hsg := aOy hr1.1
 rw [hsg] at hq
 refine wq (aG (.tuple (List.toArray _)) rfl) rfl (wq (bB (.slice _ _ _) rfl rfl) rfl (wq (bB (.int _ _) rfl rfl) rfl (aV 28 (.int .i64 0) (iE (by rw [hsg])) (eG rfl rfl (bI rfl rfl ?_)))))
 refine aB (aC (aD (bO [(0, 0), (1, 1), (2, 0), (3, 0), (4, 0), (5, 1), (6, 0), (7, 0), (8, 0), (9, 0), (10, 1), (11, 0), (12, 0), (13, 0), (14, 0), (15, 1), (16, 1), (17, 2), (18, 0), (19, 0), (20, 0), (21, 0), (22, 1), (23, 1), (24, 1), (25, 0), (26, 0), (27, 0), (28, 0), (29, 0), (30, 1), (31, 1), (32, 1), (33, 0), (34, 0), (35, 0), (36, 0), (37, 0), (38, 0), (39, 0), (40, 0), (41, 0), (42, 0), (43, 0), (44, 2), (45, 0), (46, 0), (47, 0), (48, 0), (49, 0), (50, 0)] mixed rfl (by kernel_rfl) (fun w12 hb12 hh12 => ?_))))
 have M12 := M11.drew hb12 hh12
 refine aY rfl rfl rfl (fun _ => aE 1 rD rfl) (bW rfl rfl rfl (aM 4 (.int _ _) iY M12 rfl rfl rfl) (aY rfl rfl rfl (fun _ => dV (.bool (decide _)) rfl rfl rfl) (aY rfl rfl rfl (fun _ => aG (.bool true) rfl) (aY rfl rfl rfl (fun _ => aE 0 sU rfl) (bW rfl rfl rfl (aM 4 (.int _ _) iY M12 rfl rfl rfl) ?_)))))
 refine aY rfl rfl rfl (fun _ => dV (.bool (decide _)) rfl rfl rfl) (aY rfl rfl rfl (fun _ => bS true (.bool true) rfl rfl) (aY rfl rfl rfl (fun _ => aG (.bool true) rfl) (aY rfl rfl rfl (fun _ => aE 2 lQ rfl) (bW rfl rfl rfl (aM 4 (.bool false) mV M12 rfl rfl rfl) (aY rfl rfl rfl (fun _ => fZ true rfl rfl) ?_)))))
 refine aY rfl rfl rfl (fun _ => bS true (.bool true) rfl rfl) (aY rfl rfl rfl (fun _ => aG (.bool true) rfl) (sQ rfl rfl rfl (bW rfl rfl rfl (bR (0) dF rfl rfl rfl ((hqv.rd M12 (aS (i := 5) rfl)).below_len ((show ([mT, xQ].map aF)[0]? = some (aF mT) from rfl))) ((hqv.rd M12 (aS (i := 5) rfl)).someK ((show ([mT, xQ].map aF)[0]? = some (aF mT) from rfl)))) ?_)))
 refine bW rfl rfl rfl (dJ _ bJ (hqv.rd M12 (aS (i := 5) rfl)) ((show ([mT, xQ].map aF)[0]? = some (aF mT) from rfl)) rfl) (dU [false, false, true, true, true] rfl (by kernel_rfl) (bZ aNn rfl rfl (uJ _ 1 0 100000) ?_))
 rintro v13 w13 ⟨rfl, hb13⟩
 have M13 := M12.callB hb13
 refine aB (aC ⟨(eL (bQ rfl (dJ _ bJ (hqv.rd M13 (aS (i := 5) rfl)) ((show ([mT, xQ].map aF)[0]? = some (aF mT) from rfl)) rfl)) (eL (bQ rfl (bR (0) dF rfl rfl rfl ((hqv.rd M13 (aS (i := 5) rfl)).below_len ((show ([mT, xQ].map aF)[0]? = some (aF mT) from rfl))) ((hqv.rd M13 (aS (i := 5) rfl)).someK ((show ([mT, xQ].map aF)[0]? = some (aF mT) from rfl))))) dT)), ?_⟩)
 refine aY rfl rfl rfl (fun _ => aVp (aMl mT mT) rfl rfl) (fN 47 (.bool true) (bT rfl).symm (aY rfl rfl rfl (fun _ => bS true (.bool true) rfl rfl) (aY rfl rfl rfl (fun _ => aG (.bool true) rfl) (sQ rfl rfl rfl (bW rfl rfl rfl (bR (1) dF rfl rfl rfl ((hqv.rd M13 (aS (i := 5) rfl)).below_len ((show ([mT, xQ].map aF)[1]? = some (aF xQ) from rfl))) ((hqv.rd M13 (aS (i := 5) rfl)).someK ((show ([mT, xQ].map aF)[1]? = some (aF xQ) from rfl)))) ?_)))))
 refine bW rfl rfl rfl (bN 8 eK (hqv.rd M13 (aS (i := 5) rfl)) (Nat.lt_of_le_of_lt (Nat.zero_le _) ((hqv.rd M13 (aS (i := 5) rfl)).below_len ((show ([mT, xQ].map aF)[1]? = some (aF xQ) from rfl)))) rfl) (bW rfl rfl rfl (oZ (o := 8) _ bK (hqv.rd M13 (aS (i := 5) rfl)) ((show ([mT, xQ].map aF)[1]? = some (aF xQ) from rfl)) rfl rfl rfl) ?_)
 refine aY rfl rfl rfl (fun _ => cH [(1, .int _ _)] _ fD rfl rfl) (aY rfl rfl rfl (fun _ => aVp (aUs _ _ _ _) rfl rfl) (fN 55 (.bool true) (bT (by decide)).symm (aY rfl rfl rfl (fun _ => bS true (.bool true) rfl rfl) (aY rfl rfl rfl (fun _ => aG (.bool true) rfl) (sQ rfl rfl rfl ?_)))))
 refine bW rfl rfl rfl (bR (1) dF rfl rfl rfl ((hqv.rd M13 (aS (i := 5) rfl)).below_len ((show ([mT, xQ].map aF)[1]? = some (aF xQ) from rfl))) ((hqv.rd M13 (aS (i := 5) rfl)).someK ((show ([mT, xQ].map aF)[1]? = some (aF xQ) from rfl)))) (bW rfl rfl rfl (bN 6 fR (hqv.rd M13 (aS (i := 5) rfl)) (Nat.lt_of_le_of_lt (Nat.zero_le _) ((hqv.rd M13 (aS (i := 5) rfl)).below_len ((show ([mT, xQ].map aF)[1]? = some (aF xQ) from rfl)))) rfl) ?_)
 refine bW rfl rfl rfl (oZ (o := 6) _ bK (hqv.rd M13 (aS (i := 5) rfl)) ((show ([mT, xQ].map aF)[1]? = some (aF xQ) from rfl)) rfl rfl rfl) (aY rfl rfl rfl (fun _ => cH [(0, .int _ _), (1, .int _ _)] _ fD rfl rfl) (aY rfl rfl rfl (fun _ => aVp (aUs _ _ _ _) rfl rfl) ?_))
 refine fN 63 (.bool true) (bT (by decide)).symm (aY rfl rfl rfl (fun _ => bS true (.bool true) rfl rfl) (aY rfl rfl rfl (fun _ => aG (.bool true) rfl) (sQ rfl rfl rfl (aY rfl rfl rfl (fun _ => cT Tryz.underlying31 rfl) (aY rfl rfl rfl (fun _ => dV (.bool (decide _)) rfl rfl rfl) ?_)))))
 refine fN 68 (.bool true) (bT (by omega)).symm (aY rfl rfl rfl (fun _ => bS true (.bool true) rfl rfl) (aY rfl rfl rfl (fun _ => aG (.bool true) rfl) (sQ rfl rfl rfl (sQ rfl rfl rfl (dU [true, true, true, true, true, true, true, true] rfl (by kernel_rfl) ?_)))))
 refine bZ bJl rfl rfl (aKj _ _ _ _ _ (hq.rd M13 (aS (i := 7) rfl)) _ _ _ _ (hqv.rd M13 (aS (i := 5) rfl))) ?_
 rintro v14 w14 ⟨rfl, hb14⟩
 have M14 := M13.callB hb14
 refine aB (aC ⟨dT, ?_⟩)
 refine fN 73 (.bool true) (bT rfl).symm (aY rfl rfl rfl (fun _ => bS true (.bool true) rfl rfl) (aY rfl rfl rfl (fun _ => aG (.bool true) rfl) (gV rfl rfl rfl (aY rfl rfl rfl (fun _ => dV (.bool (decide _)) rfl rfl rfl) (aY rfl rfl rfl (fun _ => bS true (.bool true) rfl rfl) ?_)))))
 refine aY rfl rfl rfl (fun _ => aI (.bool true) rfl) (cB (aC (aL (cA (.bool true) rfl ?_))))
 exact ⟨rfl, M14.below⟩
end Go.Proofs.YtaoaknafiegfoaaGreatDoor
