/- Part of the proof of the laws of this seat: P22, W22a, W22b, W22c, R22a, D22, K23, S23, E23, R23, R23b, Aw23, Op23. No conditions. -/
import Derived.Test.YtaoaknafiegfoaaGreatDoorK2
import Derived.Test.YtaoaknafiegfoaaGreatDoorK5
import Derived.Test.YtaoaknafiegfoaaGreatDoorK31
import Derived.Test.YtaoaknafiegfoaaGreatDoorK28
import Derived.Test.YtaoaknafiegfoaaGreatDoorK34
import Derived.Test.YtaoaknafiegfoaaGreatDoorK32
import Derived.Test.YtaoaknafiegfoaaGreatDoorK23
import Derived.Test.YtaoaknafiegfoaaGreatDoorK33
import Derived.Test.YtaoaknafiegfoaaGreatDoorK18
import Derived.Test.YtaoaknafiegfoaaGreatDoorK3
set_option linter.unusedVariables false
set_option linter.unusedSimpArgs false
set_option linter.unnecessarySimpa false
namespace Go.Proofs.YtaoaknafiegfoaaGreatDoor
open Go.Bil
open Go.RowKit (Below)
open Go.Proofs
set_option maxHeartbeats 8000000 in
theorem aRm (w : World) (b : Body) (hb : Okb b) (j : Int × Int) (hj1 : -2147483648 ≤ j.1 ∧ j.1 ≤ 2147483647) (hj2 : -2147483648 ≤ j.2 ∧ j.2 ≤ 2147483647) :
  Calls Tryz.prog 124 #[(.agg (aF b).toArray), .agg [.int .i32 j.1, .int .i32 j.2].toArray] w (fun ex w' => ∃ v, ex = .returned v ∧ (fun v w' => (∃ g : Bool, v = .tuple #[(.agg (aF (nG b j)).toArray), .bool g]) ∧ Below w.heap.size w w') v w') := by
 have hv := hb.v
 have hm := hb.m
 have hp1 := bGl hj1 hm
 have hp2 := bGl hj2 hm
 refine aH #[.cell 4 39, .tmp 5] 45 Tryz.func124 rfl Tryz.results124 Tryz.ntmps124 rfl ?_
 have M0 := Mem.refl w
 refine aD (aA (bC (.agg (List.toArray _)) M0 rfl rfl rfl (fun b1 w1 M1 => (bC (.agg (List.toArray _)) M1 rfl rfl rfl (fun b2 w2 M2 => (aP iD M2 rfl rfl (fun b3 w3 M3 => (wq (aI (.bool false) rfl) rfl (aB (aC (aD (aA ?_))))))))))))
 refine aP aMs M3 rfl rfl (fun b4 w4 M4 => (dX 3 (.bool false) mW M4 rfl rfl rfl rfl rfl rfl (fun w5 M5 => (aB (aC (aD (aA (wq (aE 8 fM rfl) rfl (wq (aE 0 dT rfl) rfl (wq (aK 0 (.int _ _) aW M5 rfl rfl rfl) rfl ?_))))))))))
 refine wq (bS fR Tryz.underlying2 rfl (kJ _ (by omega) (by omega))) rfl (wq (aE 0 dT rfl) rfl (wq (aK 1 (.int _ _) aW M5 rfl rfl rfl) rfl (wq (bS fR Tryz.underlying2 rfl (kJ _ (by omega) (by omega))) rfl (wq (aE 4 fG rfl) rfl (wq (aK 0 (.int _ _) aW M5 rfl rfl rfl) rfl ?_)))))
 refine wq (bS fR Tryz.underlying2 rfl (kJ _ (by omega) (by omega))) rfl (wq (fX rfl rfl (by omega) (by omega)) rfl (wq (gL rfl rfl (by decide)) rfl (aS 20 (.int .i64 (j.1 * b.mass / 65536)) (iE (mA _)) (wq (bQ rfl rfl (by omega) (by omega)) rfl (bP rfl rfl ?_)))))
 refine aB (aC (aD (aA (wq (aE 8 fM rfl) rfl (wq (aE 1 dN rfl) rfl (wq (aK 0 (.int _ _) aW M5 rfl rfl rfl) rfl (wq (bS fR Tryz.underlying2 rfl (kJ _ (by omega) (by omega))) rfl (wq (aE 1 dN rfl) rfl ?_))))))))
 refine wq (aK 1 (.int _ _) aW M5 rfl rfl rfl) rfl (wq (bS fR Tryz.underlying2 rfl (kJ _ (by omega) (by omega))) rfl (wq (aE 4 fG rfl) rfl (wq (aK 0 (.int _ _) aW M5 rfl rfl rfl) rfl (wq (bS fR Tryz.underlying2 rfl (kJ _ (by omega) (by omega))) rfl (wq (fX rfl rfl (by omega) (by omega)) rfl ?_)))))
 refine wq (gL rfl rfl (by decide)) rfl (aS 33 (.int .i64 (j.2 * b.mass / 65536)) (iE (mA _)) (wq (bQ rfl rfl (by omega) (by omega)) rfl (bP rfl rfl (aB (aC (aD (aA (aY rfl rfl ?_))))))))
 refine cV [.pointer _] [[.pointer (some ⟨b4, 0, none⟩)]] rfl aCf M5 rfl rfl rfl rfl (dD rfl) (by decide) (fun b6 w6 M6 => ?_)
 have hlit36 := jZ (T := 174) (sz := 1) (b := b6) (nn := 1) [[.pointer (some ⟨b4, 0, none⟩)]] (by simp) rfl (by decide)
 refine bX zR rfl rfl (kI _ (b.vx + j.1 * b.mass / 65536) 16777216 ⟨by decide, by decide⟩ b4 _ _ 1 (hlit36.rd M6 (aV (i := 4) rfl)) (hlit36.awayB M6 4 3 rfl rfl rfl) (M6.ownSeg 3 1)) ?_
 rintro v7 w7 ⟨rfl, hM7⟩
 have M7 : Mem _ _ [_, _, _, _, _] _ := M6.seg 3 1 hM7
 refine aY rfl rfl (cV [.pointer _] [[.pointer (some ⟨b4, 0, none⟩)]] rfl aCf M7 rfl rfl rfl rfl (dD rfl) (by decide) (fun b8 w8 M8 => ?_))
 have hlit39 := jZ (T := 174) (sz := 1) (b := b8) (nn := 1) [[.pointer (some ⟨b4, 0, none⟩)]] (by simp) rfl (by decide)
 refine bX zR rfl rfl (kI _ (b.vy + j.2 * b.mass / 65536) 16777216 ⟨by decide, by decide⟩ b4 _ _ 1 (hlit39.rd M8 (aV (i := 5) rfl)) (hlit39.awayB M8 5 3 rfl rfl rfl) (M8.ownSeg 3 1)) ?_
 rintro v9 w9 ⟨rfl, hM9⟩
 have M9 : Mem _ _ [_, _, _, _, _, _] _ := M8.seg 3 1 hM9
 refine wq (cD [(0, .int _ _), (1, .int _ _)] _ fY rfl rfl) rfl (wq (aE 8 fM rfl) rfl (aCw 0 _ bJ M9 rfl rfl rfl rfl rfl (aQ rfl) (Nat.le_of_ble_eq_true rfl) (fun w10 M10 => (aB (aC (aD (bO [(0, 1), (1, 1), (2, 2), (3, 0)] mixed rfl (by kernel_rfl) (fun w11 hb11 hh11 => ?_))))))))
 have M11 := M10.drew hb11 hh11
 refine cA rfl rfl rfl (bA 0 bR M11 rfl rfl rfl) (cA rfl rfl rfl (aK 3 (.bool _) mW M11 rfl rfl rfl) (dL [false, true] rfl (by kernel_rfl) (bB 2 _ bR M11 rfl rfl rfl rfl rfl (aQ rfl) rfl (fun w12 M12 => ?_))))
 refine aB (aC ⟨(eK (bL rfl (aK 3 (.bool _) mW M12 rfl rfl rfl)) dM), ?_⟩)
 refine aX rfl rfl rfl (fun _ => aI (.bool _) rfl) (cF (aC (aN (aBk (v2 := .bool _) 2 bR M12 rfl rfl rfl rfl ?_))))
 exact ⟨⟨_, rfl⟩, M12.below⟩
set_option maxHeartbeats 4000000 in
theorem xG (w : World) (b : Nat) :
  Calls Tryz.prog 60 #[.pointer (some ⟨b, 0, none⟩)] w (fun ex w' => ∃ v, ex = .returned v ∧ (fun v w' => v = .pointer (some ⟨b, 0, none⟩) ∧ Below w.heap.size w w') v w') := by
 refine aH #[.tmp 2] 8 Tryz.func60 rfl Tryz.results60 Tryz.ntmps60 rfl ?_
 have M0 := Mem.refl w
 refine aD (aA (wq (aI (.pointer _) rfl) rfl (aB (aC (aD (aD (aA (wq (aG (.pointer _) rfl) rfl (wq (eQ false Tryz.underlying25 rfl rfl) rfl (aB (aC ?_)))))))))))
 refine cC rfl (aM (aC (aD (aA (wq (aG (.pointer _) rfl) rfl (wq (aL rfl) rfl (wq (aE 0 pM rfl) rfl (wq (aI (.pointer _) rfl) rfl ?_))))))))
 refine aB (aC (aN (cB (.pointer _) rfl ?_)))
 exact ⟨rfl, M0.below⟩
set_option maxHeartbeats 4000000 in
theorem aOu (w : World) (b : Nat) (r : StV) (vs : List Body) (hW : cE 39 r vs) (hO : Own [(some b, bc [.slice r.A r.n r.c, .map r.p] 107), r.er, r.em] w) (x : Body) (hx : InB x) :
  Calls Tryz.prog 26 #[.pointer (some ⟨b, 0, none⟩), (.agg (aF x).toArray)] w (fun ex w' => ∃ v, ex = .returned v ∧ (fun v w' => ∃ r' : StV, v = .int .i64 (rY vs x).2 ∧ cE 39 r' ((rY vs x).1) ∧ Mem w (bH [(some b, bc [.slice r.A r.n r.c, .map r.p] 107), r.er, r.em]) [(some b, bc [.slice r'.A r'.n r'.c, .map r'.p] 107), r'.er, r'.em] w') v w') := by
 obtain ⟨hG, m, hs, hR⟩ := hW
 refine aH #[.tmp 4] 15 Tryz.func26 rfl Tryz.results26 Tryz.ntmps26 rfl ?_
 have M0 := hO.mem
 refine aD (aA (bC (.agg (List.toArray _)) M0 rfl rfl rfl (fun b1 w1 M1 => (bP rfl rfl (aB (aC (aD (aD (aA (wq (aG (.pointer _) rfl) rfl (bX aTp rfl rfl (xG _ b) ?_)))))))))))
 rintro v2 w2 ⟨rfl, hb2⟩
 have M2 := M1.callB hb2
 refine wq (aI (.pointer _) rfl) rfl (aB (aC (aD (aA (wq (aG (.pointer _) rfl) rfl (wq (rN true Tryz.underlying119 rfl rfl) rfl (aB (aC (cQ rfl ?_)))))))))
 refine aD (bO [(0, 0), (1, 0), (2, 0), (3, 1), (4, 2), (5, 0)] mixed rfl (by kernel_rfl) (fun w3 hb3 hh3 => ?_))
 have M3 := M2.drew hb3 hh3
 refine aX rfl rfl rfl (fun _ => aG (.pointer _) rfl) (aX rfl rfl rfl (fun _ => aL rfl) (aX rfl rfl rfl (fun _ => aE 0 mV rfl) (cA rfl rfl rfl (bA 3 bR M3 rfl rfl rfl) (dL [true] rfl (by kernel_rfl) (bX bBi rfl rfl (aNh _ _ _ _ _ _ _ _ _ hs (M3.ownSeg 0 3) x) ?_)))))
 rintro v4 w4 ⟨rfl, A4, n4, c4, p4, er4, em4, hs4, hM4⟩
 have M4 : Mem _ _ [_, _, _, _] _ := M3.seg 0 3 hM4
 refine aB (aC ⟨dM, ?_⟩)
 refine qL rfl rfl rfl (cF (aC (aN (cJ (cB (.int _ _) rfl ?_)))))
 obtain ⟨q1, q2⟩ := hR.add x
 exact ⟨⟨A4, n4, c4, p4, er4, em4⟩, by rw [q2], wN hs4 q1 (aYn (hG.inm hR) hx), M4.keep [true, true, true, false]⟩
set_option maxHeartbeats 4000000 in
theorem aEc (w : World) (b : Nat) (r : StV) (vs : List Body) (hW : cE 39 r vs) (hO : Own [(some b, bc [.slice r.A r.n r.c, .map r.p] 107), r.er, r.em] w) (key : Int) :
  Calls Tryz.prog 86 #[.pointer (some ⟨b, 0, none⟩), .int .u32 key] w (fun ex w' => ∃ v, ex = .returned v ∧ (fun v w' => ∃ r' : StV, v = .int .i64 (gR vs key).2 ∧ cE 39 r' ((gR vs key).1) ∧ Mem w (bH [(some b, bc [.slice r.A r.n r.c, .map r.p] 107), r.er, r.em]) [(some b, bc [.slice r'.A r'.n r'.c, .map r'.p] 107), r'.er, r'.em] w') v w') := by
 obtain ⟨hG, m, hs, hR⟩ := hW
 refine aH #[.tmp 4] 15 Tryz.func86 rfl Tryz.results86 Tryz.ntmps86 rfl ?_
 have M0 := hO.mem
 refine aD (aA (bP rfl rfl (aB (aC (aD (aD (aA (wq (aG (.pointer _) rfl) rfl (bX aTp rfl rfl (xG _ b) ?_)))))))))
 rintro v1 w1 ⟨rfl, hb1⟩
 have M1 := M0.callB hb1
 refine wq (aI (.pointer _) rfl) rfl (aB (aC (aD (aA (wq (aG (.pointer _) rfl) rfl (wq (rN true Tryz.underlying119 rfl rfl) rfl (aB (aC (cQ rfl ?_)))))))))
 refine aD (aA (wq (aG (.pointer _) rfl) rfl (wq (aL rfl) rfl (wq (aE 0 mV rfl) rfl (aY rfl rfl (bX bFd rfl rfl (aLk _ _ _ _ _ _ _ _ _ hs (M1.ownSeg 0 3) key) ?_))))))
 rintro v2 w2 ⟨rfl, A2, n2, c2, p2, er2, em2, hs2, hM2⟩
 have M2 : Mem _ _ [_, _, _] _ := M1.seg 0 3 hM2
 refine bP rfl rfl (aB (aC (aN (cJ (cB (.int _ _) rfl ?_)))))
 obtain ⟨q1, q2⟩ := hR.remove key
 exact ⟨⟨A2, n2, c2, p2, er2, em2⟩, by rw [q2], wN hs2 q1 (aIo hs.keys (hG.inm hR)), M2.keep [true, true, true]⟩
set_option maxHeartbeats 4000000 in
theorem aQt (w : World) (b : Nat) (r : StV) (vs : List Body) (hW : cE 39 r vs) (hO : Own [(some b, bc [.slice r.A r.n r.c, .map r.p] 107), r.er, r.em] w) (key : Int) :
  Calls Tryz.prog 69 #[.pointer (some ⟨b, 0, none⟩), .int .u32 key] w (fun ex w' => ∃ v, ex = .returned v ∧ (fun v w' => v = .tuple #[(.agg (aF (rG vs key).body).toArray), .int .i64 (rG vs key).err] ∧ Mem w (bH [(some b, bc [.slice r.A r.n r.c, .map r.p] 107), r.er, r.em]) [(some b, bc [.slice r.A r.n r.c, .map r.p] 107), r.er, r.em] w') v w') := by
 obtain ⟨hG, m, hs, hR⟩ := hW
 refine aH #[.cell 4 39, .tmp 5] 19 Tryz.func69 rfl Tryz.results69 Tryz.ntmps69 rfl ?_
 have M0 := hO.mem
 refine aD (aA (aP iD M0 rfl rfl (fun b1 w1 M1 => (bP rfl rfl (aB (aC (aD (aD (aA (wq (aG (.pointer _) rfl) rfl (bX aTp rfl rfl (xG _ b) ?_)))))))))))
 rintro v2 w2 ⟨rfl, hb2⟩
 have M2 := M1.callB hb2
 refine wq (aI (.pointer _) rfl) rfl (aB (aC (aD (aA (wq (aG (.pointer _) rfl) rfl (wq (rN true Tryz.underlying119 rfl rfl) rfl (aB (aC (cQ rfl ?_)))))))))
 refine aD (aA (wq (aG (.pointer _) rfl) rfl (wq (aL rfl) rfl (wq (aE 0 mV rfl) rfl (aY rfl rfl (bX bCq rfl rfl (aXq _ _ _ _ _ _ _ _ _ hs (M2.ownSeg 0 3) key) ?_))))))
 rintro v3 w3 ⟨⟨x3, rfl, hx3⟩, hM3⟩
 have M3 : Mem _ _ [_, _, _, _] _ := M2.seg 0 3 hM3
 have hge := aXj hR key
 obtain rfl : x3 = (rG vs key).body := by rw [hx3, hge]
 have hge2 : (zO m key).2 = (rG vs key).err := by rw [hge]
 refine wq (bG (.agg (List.toArray _)) rfl rfl) rfl (wq (bG (.int _ _) rfl rfl) rfl (aS 17 (.int .i64 (rG vs key).err) (iE hge2) (bB 3 _ bR M3 rfl rfl rfl rfl rfl (aQ rfl) rfl (fun w4 M4 => (bP rfl rfl (aB (aC (aN (cJ ?_)))))))))
 refine aBk (v2 := .int _ _) 3 bR M4 rfl rfl rfl rfl ?_
 exact ⟨rfl, M4.keep [true, true, true, false]⟩
set_option maxHeartbeats 4000000 in
theorem jR (w : World) (b : Nat) (r : StV) (vs : List Body) (hW : cE 39 r vs) (hO : Own [(some b, bc [.slice r.A r.n r.c, .map r.p] 107), r.er, r.em] w) :
  Calls Tryz.prog 38 #[.pointer (some ⟨b, 0, none⟩)] w (fun ex w' => ∃ v, ex = .returned v ∧ (fun v w' => ∃ q : Row, v = .slice q.A q.n q.c ∧ aU 39 10 q.A q.n q.c ((vs).map aF) q.e ∧ Mem w (bH [(some b, bc [.slice r.A r.n r.c, .map r.p] 107), r.er, r.em]) [(some b, bc [.slice r.A r.n r.c, .map r.p] 107), r.er, r.em, q.e] w') v w') := by
 have hW' := hW
 obtain ⟨hG, m, hs, hR⟩ := hW
 refine aH #[.tmp 2] 10 Tryz.func38 rfl Tryz.results38 Tryz.ntmps38 rfl ?_
 have M0 := hO.mem
 refine aD (aA (fL rfl rfl (aB (aC (aD (aD (aA (wq (aG (.pointer _) rfl) rfl (wq (eQ false Tryz.underlying25 rfl rfl) rfl (aB (aC ?_)))))))))))
 refine cC rfl (aM (aC (aD (aA (wq (aG (.pointer _) rfl) rfl (wq (aL rfl) rfl (wq (aE 0 pM rfl) rfl (wq (aE 0 mV rfl) rfl ?_))))))))
 refine bX bHc rfl rfl (aLh _ _ _ _ _ _ _ _ _ hs (M0.ownSeg 0 3)) ?_
 rintro v1 w1 ⟨A1, n1, c1, e1, rfl, hR1, hM1⟩
 have M1 : Mem _ _ [_, _, _, _] _ := M0.seg 0 3 hM1
 rw [hR.eq] at hR1
 refine fL rfl rfl (aB (aC (aN (cB (.slice _ _ _) rfl ?_))))
 exact ⟨⟨A1, n1, c1, e1⟩, rfl, hR1, M1⟩
set_option maxHeartbeats 4000000 in
theorem xE (w : World) (b : Nat) (r : StV) (vs : List Body) (hW : cE 39 r vs) (hO : Own [(some b, bc [.slice r.A r.n r.c, .map r.p] 107), r.er, r.em] w) :
  Calls Tryz.prog 24 #[.pointer (some ⟨b, 0, none⟩)] w (fun ex w' => ∃ v, ex = .returned v ∧ (fun v w' => ∃ q : Row, v = .slice q.A q.n q.c ∧ aU 5 1 q.A q.n q.c ((vZ vs).map bK) q.e ∧ Mem w (bH [(some b, bc [.slice r.A r.n r.c, .map r.p] 107), r.er, r.em]) [(some b, bc [.slice r.A r.n r.c, .map r.p] 107), r.er, r.em, q.e] w') v w') := by
 have hW' := hW
 obtain ⟨hG, m, hs, hR⟩ := hW
 refine aH #[.tmp 2] 14 Tryz.func24 rfl Tryz.results24 Tryz.ntmps24 rfl ?_
 have M0 := hO.mem
 refine aD (aA (fL rfl rfl (aB (aC (aD (aD (aA (wq (aG (.pointer _) rfl) rfl (wq (eQ false Tryz.underlying25 rfl rfl) rfl (aB (aC ?_)))))))))))
 refine cC rfl (aM (aC (aD (aA (wq (aG (.pointer _) rfl) rfl (bX aCc rfl rfl (jR _ _ r _ hW' (M0.ownSeg 0 3)) ?_))))))
 rintro v1 w1 ⟨q, rfl, hq, hM1⟩
 have M1 : Mem _ _ [_, _, _, _] _ := M0.seg 0 3 hM1
 have hqn : vs.length = q.n := by simpa using hq.1
 have hvl := hG.len
 refine bX bIe rfl rfl (aCt _ _ _ _ vs (hq.rd M1 (aV (i := 3) rfl)) (by omega) hG.chk hG.inb) ?_
 rintro v2 w2 ⟨z, rfl, hz, hM2⟩
 have M2 : Mem _ _ [_, _, _, _, _] _ := M1.call0 hM2
 refine wq (aG (.tuple (List.toArray _)) rfl) rfl (wq (bG (.slice _ _ _) rfl rfl) rfl (wq (bG (.int _ _) rfl rfl) rfl (fL rfl rfl (bP rfl rfl (aB (aC (aD (aA ?_))))))))
 refine eC rfl rfl (fL rfl rfl (aB (aC (aN (cB (.slice _ _ _) rfl ?_)))))
 exact ⟨z, rfl, hz, M2.keep [true, true, true, false, true]⟩
set_option maxHeartbeats 8000000 in
theorem aAn (w : World) (b : Nat) (r : StV) (vs : List Body) (hW : cE 39 r vs) (hO : Own [(some b, bc [.slice r.A r.n r.c, .map r.p] 107), r.er, r.em] w) (key : Int) (j : Int × Int) (hj1 : -2147483648 ≤ j.1 ∧ j.1 ≤ 2147483647) (hj2 : -2147483648 ≤ j.2 ∧ j.2 ≤ 2147483647) :
  Calls Tryz.prog 91 #[.pointer (some ⟨b, 0, none⟩), .int .u32 key, .agg [.int .i32 j.1, .int .i32 j.2].toArray] w (fun ex w' => ∃ v, ex = .returned v ∧ (fun v w' => ∃ r' : StV, v = .int .i64 (rQ vs key j).2 ∧ cE 39 r' ((rQ vs key j).1) ∧ Mem w (bH [(some b, bc [.slice r.A r.n r.c, .map r.p] 107), r.er, r.em]) [(some b, bc [.slice r'.A r'.n r'.c, .map r'.p] 107), r'.er, r'.em] w') v w') := by
 have hW' := hW
 obtain ⟨hG, m, hs, hR⟩ := hW
 refine aH #[.tmp 6] 30 Tryz.func91 rfl Tryz.results91 Tryz.ntmps91 rfl ?_
 have M0 := hO.mem
 refine aD (aA (bC (.agg (List.toArray _)) M0 rfl rfl rfl (fun b1 w1 M1 => (bP rfl rfl (aB (aC (aD (aA (wq (aG (.pointer _) rfl) rfl (aY rfl rfl ?_))))))))))
 refine bX bGi rfl rfl (aQt _ _ r vs hW' (M1.ownSeg 0 3) key) ?_
 rintro v2 w2 ⟨rfl, hM2⟩
 have M2 : Mem _ _ [_, _, _, _] _ := M1.seg 0 3 hM2
 refine wq (aG (.tuple (List.toArray _)) rfl) rfl (wq (bG (.agg (List.toArray _)) rfl rfl) rfl (wq (bG (.int _ _) rfl rfl) rfl (aP iD M2 rfl rfl (fun b3 w3 M3 => (bB 4 _ bR M3 rfl rfl rfl rfl rfl (aQ rfl) rfl (fun w4 M4 => (bP rfl rfl ?_)))))))
 refine aB (aC (aD (aD (aA (aY rfl rfl (cY rfl rfl rfl rfl (aB (aC ?_))))))))
 refine bE rfl (fun h16 => ?_) (fun h16 => ?_)
 ·refine aD (aA (aY rfl rfl (bP rfl rfl (aB (aC (aN (cJ (cB (.int _ _) rfl ?_))))))))
  have hf : cH key vs < 0 := Decidable.byContradiction fun h => h16 (by unfold rG; rw [if_neg h]; rfl)
  exact ⟨r, by rw [aFp j hf]; unfold rG; rw [if_pos hf], by rw [aFp j hf]; exact hW', M4.keep [true, true, true, false, false]⟩
 ·have hf : ¬ cH key vs < 0 := fun h => h16 (by unfold rG; rw [if_pos h]; decide)
  obtain ⟨i, bb, hbi, _, hfi⟩ := (dF key vs).resolve_left (fun h => hf (by omega))
  have hgb : (rG vs key).body = bb := by unfold rG; rw [if_neg hf]; exact yE hfi hbi
  obtain ⟨z1, z2, z3, z4⟩ := aXc hR hG j hfi hbi
  have hbo := hG.okb bb (List.mem_of_getElem? hbi)
  refine aM (aC (aD (aA (wq (bA 4 bR M4 rfl rfl rfl) rfl (aS 19 ((.agg (aF bb).toArray)) (congrArg (fun x => Value.agg (aF x).toArray) hgb) (wq (bA 3 bJ M4 rfl rfl rfl) rfl (bX bEb rfl rfl (aRm _ bb hbo j hj1 hj2) ?_)))))))
  rintro v5 w5 ⟨⟨gg, rfl⟩, hb5⟩
  have M5 := M4.callB hb5
  refine wq (aG (.tuple (List.toArray _)) rfl) rfl (wq (bG (.agg (List.toArray _)) rfl rfl) rfl (wq (bG (.bool _) rfl rfl) rfl (bB 4 _ bR M5 rfl rfl rfl rfl rfl (aQ rfl) rfl (fun w6 M6 => (aB (aC (aD (bO [(0, 0), (1, 0), (2, 0), (3, 0), (4, 1), (5, 2), (6, 0)] mixed rfl (by kernel_rfl) (fun w7 hb7 hh7 => ?_)))))))))
  have M7 := M6.drew hb7 hh7
  refine aX rfl rfl rfl (fun _ => aG (.pointer _) rfl) (aX rfl rfl rfl (fun _ => aL rfl) (aX rfl rfl rfl (fun _ => aE 0 pM rfl) (aX rfl rfl rfl (fun _ => aE 0 mV rfl) (cA rfl rfl rfl (bA 4 bR M7 rfl rfl rfl) (dL [true] rfl (by kernel_rfl) ?_)))))
  refine bX bCh rfl rfl (bAg _ _ _ _ _ _ _ _ _ hs (M7.ownSeg 0 3) (nG bb j)) ?_
  rintro v8 w8 ⟨rfl, A8, n8, c8, p8, er8, em8, hs8, hM8⟩
  have M8 : Mem _ _ [_, _, _, _, _] _ := M7.seg 0 3 hM8
  refine aB (aC ⟨dM, ?_⟩)
  refine qL rfl rfl rfl (cF (aC (aN (cB (.int _ _) rfl ?_))))
  exact ⟨⟨A8, n8, c8, p8, er8, em8⟩, by rw [z3, z2], wN hs8 z1 (aZk (hG.inm hR) (aWv (hG.inb bb (List.mem_of_getElem? hbi)) j)), M8.keep [true, true, true, false, false]⟩
set_option maxHeartbeats 8000000 in
theorem qT (w : World) (b : Nat) (r : StV) (vs : List Body) (hW : cE 39 r vs) (hO : Own [(some b, bc [.slice r.A r.n r.c, .map r.p] 107), r.er, r.em] w) (A : Option Addr) (n c : Nat) (xs : List Body) (RA : Rd w 10 A n (xs.map aF)) (hX : GoodV xs) (hdA : 0 < n → ∀ q off, A = some ⟨q, off, none⟩ → q ∉ bH [(some b, bc [.slice r.A r.n r.c, .map r.p] 107), r.er, r.em]) :
  Calls Tryz.prog 78 #[.pointer (some ⟨b, 0, none⟩), .slice A n c] w (fun ex w' => ∃ v, ex = .returned v ∧ (fun v w' => ∃ r' : StV, v = .tuple #[] ∧ cE 39 r' (xs) ∧ Mem w (bH [(some b, bc [.slice r.A r.n r.c, .map r.p] 107), r.er, r.em]) [(some b, bc [.slice r'.A r'.n r'.c, .map r'.p] 107), r'.er, r'.em] w') v w') := by
 have hlen : xs.length = n := by simpa using RA.len
 have hbd := RA.bound
 have hxl := hX.len
 refine aH #[] 23 Tryz.func78 rfl Tryz.results78 Tryz.ntmps78 rfl ?_
 have M0 := hO.mem
 refine aD (aA (wq (aG (.pointer _) rfl) rfl (wq (cD [] _ aPy rfl rfl) rfl (wq (aL rfl) rfl (wq (aE 0 pM rfl) rfl (bB 0 _ bCg M0 rfl rfl rfl rfl rfl (aQ rfl) rfl (fun w1 M1 => ?_)))))))
 refine aB (aC (aD (aA ?_)))
 have M2 : Mem _ _ [_, _, _] _ := (((M1.keep [true, false, false]).dummy default).dummy default)
 refine eC rfl rfl (wq (cR Tryz.underlying29 rfl) rfl (aY rfl rfl (aB (aC (aT (dP (σ := Nat × StV) [0, 10, 11] (fun (k, r2) => [(12, .int .i64 (k : Int))]) (fun (k, r2) w' => (k ≤ n ∧ StoreIs 39 r2.A r2.n r2.c r2.p r2.er r2.em (xs.take k)) ∧ Mem w (bH [(some b, bc [.slice r.A r.n r.c, .map r.p] 107), r.er, r.em]) [(some b, bc [.slice r2.A r2.n r2.c, .map r2.p] 107), r2.er, r2.em] w') (fun (k, r2) => n - k) (0, ⟨none, 0, 0, none, (none, default), (none, default)⟩) (bM rfl fD) (⟨⟨by omega, (StoreIs.nil 39 default default)⟩, M2⟩) ?_))))))
 rintro ⟨k, r2⟩ ρ3 w3 ⟨⟨hk, hr⟩, hM3⟩
 refine aD (aA (cY rfl rfl rfl rfl (aB (aC (aD ?_)))))
 refine bE rfl (fun h13 => ?_) (fun h13 => ?_)
 ·obtain ⟨xb, hxb⟩ := cL (xs := xs) (k := k) hlen (by omega)
  refine aM (aC (aD (aT (aD (aA (wq (bV (k) fE rfl rfl rfl ((RA.memY hM3 hdA).below_len (aJ aF hxb)) ((RA.memY hM3 hdA).someK (aJ aF hxb))) rfl (wq (eB _ bR (RA.memY hM3 hdA) (aJ aF hxb) rfl) rfl (aP iD hM3 rfl rfl (fun b4 w4 M4 => ?_)))))))))
  refine bB 3 _ bR M4 rfl rfl rfl rfl rfl (aQ rfl) rfl (fun w5 M5 => (aB (aC (bO [(0, 0), (1, 0), (2, 0), (3, 0), (4, 1), (5, 2)] mixed rfl (by kernel_rfl) (fun w6 hb6 hh6 => ?_)))))
  have M6 := M5.drew hb6 hh6
  refine aX rfl rfl rfl (fun _ => aG (.pointer _) rfl) (aX rfl rfl rfl (fun _ => aL rfl) (aX rfl rfl rfl (fun _ => aE 0 pM rfl) (aX rfl rfl rfl (fun _ => aE 0 mV rfl) (cA rfl rfl rfl (bA 3 bR M6 rfl rfl rfl) (dL [true] rfl (by kernel_rfl) ?_)))))
  refine bX bBi rfl rfl (aNh _ _ _ _ _ _ _ _ _ hr (M6.ownSeg 0 3) xb) ?_
  rintro v7 w7 ⟨rfl, A7, n7, c7, p7, er7, em7, hs7, hM7⟩
  have M7 : Mem _ _ [_, _, _, _] _ := M6.seg 0 3 hM7
  refine aB (aC ⟨dM, ?_⟩)
  refine cF (dJ (aC (aA (wq (bQ rfl rfl (by omega) (by omega)) rfl (aY rfl rfl (aB ?_))))))
  refine cT (k + 1, ⟨A7, n7, c7, p7, er7, em7⟩) (bM rfl fD) (cW rfl (cW rfl (cW rfl kK))) ?_ ?_
  ·exact ⟨⟨by omega, by rw [← aHt hX (k + 1) (by omega), yN hxb, aHt hX k (by omega)]; exact hs7⟩, M7.keep [true, true, true, false]⟩
  ·(show n - (k + 1) < n - k; omega)
 ·obtain rfl : k = n := by omega
  rw [List.take_of_length_le (by omega)] at hr
  refine cO (dC (dA (eV (iX ?_))))
  exact ⟨r2, rfl, ⟨hX, xs, hr, aVp hX.s⟩, hM3⟩
set_option maxHeartbeats 8000000 in
theorem aKr (w : World) (F : Rd w 2 (some ⟨0, 0, none⟩) 1 [[.int .u32 73856093, .int .u32 19349663]]) (N : Rd w 4 (some ⟨3, 0, none⟩) 1 [cU gP]) (b : Nat) (r : StV) (vs : List Body) (hW : cE 39 r vs) (hO : Own [(some b, bc [.slice r.A r.n r.c, .map r.p] 107), r.er, r.em] w) (hdF : 0 < 1 → ∀ q off, (some ⟨0, 0, none⟩ : Option Addr) = some ⟨q, off, none⟩ → q ∉ bH [(some b, bc [.slice r.A r.n r.c, .map r.p] 107), r.er, r.em]) (hdN : 0 < 1 → ∀ q off, (some ⟨3, 0, none⟩ : Option Addr) = some ⟨q, off, none⟩ → q ∉ bH [(some b, bc [.slice r.A r.n r.c, .map r.p] 107), r.er, r.em]) :
  Calls Tryz.prog 53 #[.pointer (some ⟨b, 0, none⟩)] w (fun ex w' => ∃ v, ex = .returned v ∧ (fun v w' => ∃ (r' : StV) (t : Nat), v = .agg [.int .i64 (t : Int), .int .i64 ((lV vs).length : Int), .bool (rZ vs)].toArray ∧ cE 39 r' (oZ vs) ∧ Mem w (bH [(some b, bc [.slice r.A r.n r.c, .map r.p] 107), r.er, r.em]) [(some b, bc [.slice r'.A r'.n r'.c, .map r'.p] 107), r'.er, r'.em] w') v w') := by
 have hW' := hW
 obtain ⟨hG, m, hs, hR⟩ := hW
 have hvl := hG.len
 refine aH #[.cell 2 58] 18 Tryz.func53 rfl Tryz.results53 Tryz.ntmps53 rfl ?_
 have M0 := hO.mem
 refine aD (aA (aP aEj M0 rfl rfl (fun b1 w1 M1 => (aB (aC (aD (aD (aA (wq (aG (.pointer _) rfl) rfl (wq (eQ false Tryz.underlying25 rfl rfl) rfl (aB (aC ?_))))))))))))
 refine cC rfl (aM (aC (aD (aA (wq (aG (.pointer _) rfl) rfl (bX aCc rfl rfl (jR _ _ r _ hW' (M1.ownSeg 0 3)) ?_))))))
 rintro v2 w2 ⟨q, rfl, hq, hM2⟩
 have M2 : Mem _ _ [_, _, _, _, _] _ := M1.seg 0 3 hM2
 have hqn : vs.length = q.n := by simpa using hq.1
 refine bX bHi rfl rfl (aOq _ (F.memY M2 hdF) (N.memY M2 hdN) _ _ _ vs (hq.rd M2 (aV (i := 4) rfl)) hG.okb hG.s (by omega)) ?_
 rintro v3 w3 ⟨ra, ta, rfl, h1ta, h2ta, hra, hM3⟩
 have M3 : Mem _ _ [_, _, _, _, _, _] _ := M2.call0 hM3
 refine wq (aG (.tuple (List.toArray _)) rfl) rfl (wq (bG (.slice _ _ _) rfl rfl) rfl (wq (bG (.agg (List.toArray _)) rfl rfl) rfl (aP aEj M3 rfl rfl (fun b4 w4 M4 => (fL rfl rfl (bB 6 _ vK M4 rfl rfl rfl rfl rfl (aQ rfl) rfl (fun w5 M5 => ?_)))))))
 refine aB (aC (aD (aA (wq (aG (.pointer _) rfl) rfl (eC rfl rfl (bX bAm rfl rfl (qT _ _ r _ hW' (M5.ownSeg 0 3) ra.A ra.n ra.c (oZ vs) (hra.rd M5 (aV (i := 5) rfl)) hG.step (hra.awayS M5 0 3 5 rfl rfl)) ?_))))))
 rintro v6 w6 ⟨r2, rfl, hw2, hM6⟩
 have M6 : Mem _ _ [_, _, _, _, _, _, _] _ := M5.seg 0 3 hM6
 refine aB (aC (aD (aA (wq (bA 6 vK M6 rfl rfl rfl) rfl (bB 3 _ vK M6 rfl rfl rfl rfl rfl (aQ rfl) rfl (fun w7 M7 => (aB (aC (aN (eP 3 vK M7 rfl rfl rfl ?_))))))))))
 exact ⟨r2, ta, rfl, hw2, M7.keep [true, true, true, false, false, false, false]⟩
set_option maxHeartbeats 8000000 in
theorem aAr (w : World) (b : Nat) (r : StV) (vs : List Body) (hW : cE 39 r vs) (hO : Own [(some b, bc [.slice r.A r.n r.c, .map r.p] 107), r.er, r.em] w) (BA : Option Addr) (nn cc : Nat) (ls : List Int) (RS : Rd w 1 BA nn (ls.map bK)) (hB : lP ls) (hcap : nn ≤ cc) (hnn : nn ≤ 1000000) (hdB : 0 < nn → ∀ q off, BA = some ⟨q, off, none⟩ → q ∉ bH [(some b, bc [.slice r.A r.n r.c, .map r.p] 107), r.er, r.em]) :
  Calls Tryz.prog 74 #[.pointer (some ⟨b, 0, none⟩), .slice BA nn cc] w (fun ex w' => ∃ v, ex = .returned v ∧ (fun v w' => ∃ r' : StV, v = .int .i64 (lE ls).2 ∧ cE 39 r' (xV vs ls) ∧ Mem w (bH [(some b, bc [.slice r.A r.n r.c, .map r.p] 107), r.er, r.em]) [(some b, bc [.slice r'.A r'.n r'.c, .map r'.p] 107), r'.er, r'.em] w') v w') := by
 have hW' := hW
 obtain ⟨hG, m, hs, hR⟩ := hW
 have hlen : ls.length = nn := by simpa using RS.len
 refine aH #[.tmp 4] 20 Tryz.func74 rfl Tryz.results74 Tryz.ntmps74 rfl ?_
 have M0 := hO.mem
 refine aD (aA (bP rfl rfl (aB (aC (aD (aD (aA (wq (aG (.pointer _) rfl) rfl (wq (eQ false Tryz.underlying25 rfl rfl) rfl (aB (aC ?_)))))))))))
 refine cC rfl (aM (aC (aD (aA (eC rfl rfl (bX bHk rfl rfl (aEp _ BA nn cc ls (RS.memY M0 hdB) hB hcap (by omega)) ?_))))))
 rintro v1 w1 ⟨q, rfl, hq, hM1⟩
 have M1 : Mem _ _ [_, _, _, _] _ := M0.call0 hM1
 refine wq (aG (.tuple (List.toArray _)) rfl) rfl (wq (bG (.slice _ _ _) rfl rfl) rfl (wq (bG (.int _ _) rfl rfl) rfl (fL rfl rfl (bP rfl rfl (aB (aC (aD (aD (aA ?_)))))))))
 refine aY rfl rfl (cY rfl rfl rfl rfl (aB (aC ?_)))
 refine bE rfl (fun h15 => ?_) (fun h15 => ?_)
 ·refine aA (wq (aG (.pointer _) rfl) rfl (eC rfl rfl (bX bAm rfl rfl (qT _ _ r _ hW' (M1.ownSeg 0 3) q.A q.n q.c (lE ls).1 (hq.rd M1 (aV (i := 3) rfl)) (GoodV.dec hB (by omega) h15) (hq.awayS M1 0 3 3 rfl rfl)) ?_)))
  rintro v2 w2 ⟨r2, rfl, hw2, hM2⟩
  have M2 : Mem _ _ [_, _, _, _] _ := M1.seg 0 3 hM2
  refine aB (aC (aD (aA (aY rfl rfl (bP rfl rfl (aB (aC (aN (cB (.int _ _) rfl ?_)))))))))
  exact ⟨r2, rfl, by unfold xV; rw [if_pos h15]; exact hw2, M2.keep [true, true, true, false]⟩
 ·refine aM (aC (aD (aA (aY rfl rfl (bP rfl rfl (aB (aC (aN (cB (.int _ _) rfl ?_)))))))))
  exact ⟨r, rfl, by unfold xV; rw [if_neg h15]; exact hW', M1.keep [true, true, true, false]⟩
set_option maxHeartbeats 4000000 in
theorem aUv (w : World) :
  Calls Tryz.prog 83 #[(.func (.func 26) #[] #[] : Value), (.func (.func 84) #[] #[] : Value)] w (fun ex w' => ∃ v, ex = .returned v ∧ (fun v w' => ∃ fa ga : Nat, v = (.func (.func 120) #[] #[.pointer (some ⟨fa, 0, none⟩), .pointer (some ⟨ga, 0, none⟩)] : Value) ∧ Mem w [] [(some fa, bc [(.func (.func 26) #[] #[] : Value)] 143), (some ga, bc [(.func (.func 84) #[] #[] : Value)] 144)] w') v w') := by
 refine aH #[.tmp 4] 6 Tryz.func83 rfl Tryz.results83 Tryz.ntmps83 rfl ?_
 have M0 := Mem.refl w
 refine aD (aA (bC (.func _ _ _) M0 rfl rfl rfl (fun b1 w1 M1 => (bC (.func _ _ _) M1 rfl rfl rfl (fun b2 w2 M2 => (wq (aI (_) rfl) rfl (aB (aC (aD (aA (wq (cM [] [.pointer _, .pointer _] rfl rfl) rfl ?_)))))))))))
 refine wq (aI (.func _ _ _) rfl) rfl (aB (aC (aN (cB (.func _ _ _) rfl ?_))))
 exact ⟨_, _, rfl, M2⟩
set_option maxHeartbeats 4000000 in
theorem aFy (w : World) :
  Calls Tryz.prog 85 #[(.func (.func 86) #[] #[] : Value), (.func (.func 87) #[] #[] : Value)] w (fun ex w' => ∃ v, ex = .returned v ∧ (fun v w' => ∃ fa ga : Nat, v = (.func (.func 121) #[] #[.pointer (some ⟨fa, 0, none⟩), .pointer (some ⟨ga, 0, none⟩)] : Value) ∧ Mem w [] [(some fa, bc [(.func (.func 86) #[] #[] : Value)] 146), (some ga, bc [(.func (.func 87) #[] #[] : Value)] 148)] w') v w') := by
 refine aH #[.tmp 4] 6 Tryz.func85 rfl Tryz.results85 Tryz.ntmps85 rfl ?_
 have M0 := Mem.refl w
 refine aD (aA (bC (.func _ _ _) M0 rfl rfl rfl (fun b1 w1 M1 => (bC (.func _ _ _) M1 rfl rfl rfl (fun b2 w2 M2 => (wq (aI (_) rfl) rfl (aB (aC (aD (aA (wq (cM [] [.pointer _, .pointer _] rfl rfl) rfl ?_)))))))))))
 refine wq (aI (.func _ _ _) rfl) rfl (aB (aC (aN (cB (.func _ _ _) rfl ?_))))
 exact ⟨_, _, rfl, M2⟩
set_option maxHeartbeats 4000000 in
theorem aDr (w : World) :
  Calls Tryz.prog 88 #[(.func (.func 74) #[] #[] : Value), (.func (.func 89) #[] #[] : Value)] w (fun ex w' => ∃ v, ex = .returned v ∧ (fun v w' => ∃ fa ga : Nat, v = (.func (.func 123) #[] #[.pointer (some ⟨fa, 0, none⟩), .pointer (some ⟨ga, 0, none⟩)] : Value) ∧ Mem w [] [(some fa, bc [(.func (.func 74) #[] #[] : Value)] 150), (some ga, bc [(.func (.func 89) #[] #[] : Value)] 151)] w') v w') := by
 refine aH #[.tmp 4] 6 Tryz.func88 rfl Tryz.results88 Tryz.ntmps88 rfl ?_
 have M0 := Mem.refl w
 refine aD (aA (bC (.func _ _ _) M0 rfl rfl rfl (fun b1 w1 M1 => (bC (.func _ _ _) M1 rfl rfl rfl (fun b2 w2 M2 => (wq (aI (_) rfl) rfl (aB (aC (aD (aA (wq (cM [] [.pointer _, .pointer _] rfl rfl) rfl ?_)))))))))))
 refine wq (aI (.func _ _ _) rfl) rfl (aB (aC (aN (cB (.func _ _ _) rfl ?_))))
 exact ⟨_, _, rfl, M2⟩
set_option maxHeartbeats 4000000 in
theorem bCk (w : World) (o : OpI) (BA : Option Addr) (nn cc : Nat) :
  Calls Tryz.prog 84 #[.agg (dV o BA nn cc).toArray] w (fun ex w' => ∃ v, ex = .returned v ∧ (fun v w' => v = (.agg (aF o.body).toArray) ∧ Below w.heap.size w w') v w') := by
 refine aH #[.cell 2 39] 5 Tryz.func84 rfl Tryz.results84 Tryz.ntmps84 rfl ?_
 have M0 := Mem.refl w
 refine aD (aA (bC (.agg (List.toArray _)) M0 rfl rfl rfl (fun b1 w1 M1 => (aP iD M1 rfl rfl (fun b2 w2 M2 => (aB (aC (aD (aA (wq (aE 1 aZp rfl) rfl (wq (pV 0 _ bR M2 rfl rfl rfl rfl) rfl ?_)))))))))))
 refine bB 1 _ bR M2 rfl rfl rfl rfl rfl (aQ rfl) rfl (fun w3 M3 => (aB (aC (aN (eP 1 bR M3 rfl rfl rfl ?_)))))
 exact ⟨rfl, M3.below⟩
set_option maxHeartbeats 4000000 in
theorem bCp (w : World) (o : OpI) (BA : Option Addr) (nn cc : Nat) :
  Calls Tryz.prog 87 #[.agg (dV o BA nn cc).toArray] w (fun ex w' => ∃ v, ex = .returned v ∧ (fun v w' => v = .int .u32 o.key ∧ Below w.heap.size w w') v w') := by
 refine aH #[.tmp 2] 5 Tryz.func87 rfl Tryz.results87 Tryz.ntmps87 rfl ?_
 have M0 := Mem.refl w
 refine aD (aA (bC (.agg (List.toArray _)) M0 rfl rfl rfl (fun b1 w1 M1 => (bP rfl rfl (aB (aC (aD (aA (wq (aE 11 aLx rfl) rfl (wq (aK 0 (.int _ _) bY M1 rfl rfl rfl) rfl ?_))))))))))
 refine bP rfl rfl (aB (aC (aN (cB (.int _ _) rfl ?_))))
 exact ⟨rfl, M1.below⟩
set_option maxHeartbeats 4000000 in
theorem bDh (w : World) (o : OpI) (BA : Option Addr) (nn cc : Nat) :
  Calls Tryz.prog 89 #[.agg (dV o BA nn cc).toArray] w (fun ex w' => ∃ v, ex = .returned v ∧ (fun v w' => v = .slice BA nn cc ∧ Below w.heap.size w w') v w') := by
 refine aH #[.tmp 2] 5 Tryz.func89 rfl Tryz.results89 Tryz.ntmps89 rfl ?_
 have M0 := Mem.refl w
 refine aD (aA (bC (.agg (List.toArray _)) M0 rfl rfl rfl (fun b1 w1 M1 => (fL rfl rfl (aB (aC (aD (aA (wq (aE 14 aXt rfl) rfl (wq (aK 0 (.slice _ _ _) yM M1 rfl rfl rfl) rfl ?_))))))))))
 refine fL rfl rfl (aB (aC (aN (cB (.slice _ _ _) rfl ?_))))
 exact ⟨rfl, M1.below⟩
def oH (f1 g1 f2 g2 f3 g3 : Nat) (k : Int) : Option Value := if k = 5 then some (.func (.func 93) #[] #[] : Value) else if k = 4 then some (.func (.func 92) #[] #[] : Value) else if k = 3 then some (.func (.func 90) #[] #[] : Value) else if k = 6 then some (.func (.func 123) #[] #[.pointer (some ⟨f3, 0, none⟩), .pointer (some ⟨g3, 0, none⟩)] : Value) else if k = 2 then some (.func (.func 121) #[] #[.pointer (some ⟨f2, 0, none⟩), .pointer (some ⟨g2, 0, none⟩)] : Value) else if k = 1 then some (.func (.func 120) #[] #[.pointer (some ⟨f1, 0, none⟩), .pointer (some ⟨g1, 0, none⟩)] : Value) else none
theorem aSz {f1 g1 f2 g2 f3 g3 : Nat} {k : Int} (h : k = 1) : oH f1 g1 f2 g2 f3 g3 k = some (.func (.func 120) #[] #[.pointer (some ⟨f1, 0, none⟩), .pointer (some ⟨g1, 0, none⟩)] : Value) := by subst h; rfl
theorem aSy {f1 g1 f2 g2 f3 g3 : Nat} {k : Int} (h : k = 2) : oH f1 g1 f2 g2 f3 g3 k = some (.func (.func 121) #[] #[.pointer (some ⟨f2, 0, none⟩), .pointer (some ⟨g2, 0, none⟩)] : Value) := by subst h; rfl
theorem aRv {f1 g1 f2 g2 f3 g3 : Nat} {k : Int} (h : k = 6) : oH f1 g1 f2 g2 f3 g3 k = some (.func (.func 123) #[] #[.pointer (some ⟨f3, 0, none⟩), .pointer (some ⟨g3, 0, none⟩)] : Value) := by subst h; rfl
theorem aVo {f1 g1 f2 g2 f3 g3 : Nat} {k : Int} (h : k = 3) : oH f1 g1 f2 g2 f3 g3 k = some (.func (.func 90) #[] #[] : Value) := by subst h; rfl
theorem aUe {f1 g1 f2 g2 f3 g3 : Nat} {k : Int} (h : k = 4) : oH f1 g1 f2 g2 f3 g3 k = some (.func (.func 92) #[] #[] : Value) := by subst h; rfl
theorem aUq {f1 g1 f2 g2 f3 g3 : Nat} {k : Int} (h : k = 5) : oH f1 g1 f2 g2 f3 g3 k = some (.func (.func 93) #[] #[] : Value) := by subst h; rfl
theorem aRd {f1 g1 f2 g2 f3 g3 : Nat} {k : Int} (h : k < 1 ∨ 6 < k) : oH f1 g1 f2 g2 f3 g3 k = none := by unfold oH; rw [if_neg (by omega), if_neg (by omega), if_neg (by omega), if_neg (by omega), if_neg (by omega), if_neg (by omega)]
set_option maxHeartbeats 4000000 in
theorem gD (w : World) :
  Calls Tryz.prog 55 #[] w (fun ex w' => ∃ v, ex = .returned v ∧ (fun v w' => ∃ (p : Option Nat) (e : dG) (f1 g1 f2 g2 f3 g3 : Nat), v = .map p ∧ iA .i64 (fun v : Value => v) (oH f1 g1 f2 g2 f3 g3) p e ∧ Mem w [] [e, (some f1, bc [(.func (.func 26) #[] #[] : Value)] 143), (some g1, bc [(.func (.func 84) #[] #[] : Value)] 144), (some f2, bc [(.func (.func 86) #[] #[] : Value)] 146), (some g2, bc [(.func (.func 87) #[] #[] : Value)] 148), (some f3, bc [(.func (.func 74) #[] #[] : Value)] 150), (some g3, bc [(.func (.func 89) #[] #[] : Value)] 151)] w') v w') := by
 refine aH #[.tmp 0] 6 Tryz.func55 rfl Tryz.results55 Tryz.ntmps55 rfl ?_
 have M0 := Mem.refl w
 refine aD (aA (wq (aI (.map _) rfl) rfl (aB (aC (aD (aA (jT M0 rfl rfl (fun b1 w1 M1 => (bX bIc rfl rfl (aUv _) ?_)))))))))
 rintro v2 w2 ⟨f1, g1, rfl, hM2⟩
 have M2 : Mem _ _ [_, _, _] _ := M1.call0 hM2
 refine lA (enc := (fun v : Value => v)) (v := (.func _ _ _)) 0 jY M2 rfl rfl (iA.empty _ _ b1) rfl rfl rfl rfl (fun e3 w3 hm3 M3 => (bX bHm rfl rfl (aFy _) ?_))
 rintro v4 w4 ⟨f2, g2, rfl, hM4⟩
 have M4 : Mem _ _ [_, _, _, _, _] _ := M3.call0 hM4
 refine lA (enc := (fun v : Value => v)) (v := (.func _ _ _)) 0 jY M4 rfl rfl hm3 rfl rfl rfl rfl (fun e5 w5 hm5 M5 => (bX bHo rfl rfl (aDr _) ?_))
 rintro v6 w6 ⟨f3, g3, rfl, hM6⟩
 have M6 : Mem _ _ [_, _, _, _, _, _, _] _ := M5.call0 hM6
 refine lA (enc := (fun v : Value => v)) (v := (.func _ _ _)) 0 jY M6 rfl rfl hm5 rfl rfl rfl rfl (fun e7 w7 hm7 M7 => (lA (enc := (fun v : Value => v)) (v := (.func _ _ _)) 0 jY M7 rfl rfl hm7 rfl rfl rfl rfl (fun e8 w8 hm8 M8 => (lA (enc := (fun v : Value => v)) (v := (.func _ _ _)) 0 jY M8 rfl rfl hm8 rfl rfl rfl rfl (fun e9 w9 hm9 M9 => ?_)))))
 refine lA (enc := (fun v : Value => v)) (v := (.func _ _ _)) 0 jY M9 rfl rfl hm9 rfl rfl rfl rfl (fun e10 w10 hm10 M10 => (wq (aG (.map _) rfl) rfl (wq (aI (.map _) rfl) rfl (aB (aC (aN (cB (.map _) rfl ?_)))))))
 exact ⟨_, _, f1, g1, f2, g2, f3, g3, rfl, hm10, M10⟩
set_option maxHeartbeats 16000000 in
theorem aUy (w : World) (b : Nat) (r : StV) (vs : List Body) (hW : cE 39 r vs) (fa ga : Nat) (hO : Own [(some b, bc [.slice r.A r.n r.c, .map r.p] 107), r.er, r.em, (some fa, bc [(.func (.func 26) #[] #[] : Value)] 143), (some ga, bc [(.func (.func 84) #[] #[] : Value)] 144)] w) (o : OpI) (BA : Option Addr) (nn cc : Nat) (hP : OpOk w o BA nn cc) (hnn : nn ≤ 1000000) (hdB : 0 < nn → ∀ q off, BA = some ⟨q, off, none⟩ → q ∉ bH [(some b, bc [.slice r.A r.n r.c, .map r.p] 107), r.er, r.em, (some fa, bc [(.func (.func 26) #[] #[] : Value)] 143), (some ga, bc [(.func (.func 84) #[] #[] : Value)] 144)]) :
  Calls Tryz.prog 120 #[.pointer (some ⟨b, 0, none⟩), .agg (dV o BA nn cc).toArray, .pointer (some ⟨fa, 0, none⟩), .pointer (some ⟨ga, 0, none⟩)] w (fun ex w' => ∃ v, ex = .returned v ∧ (fun v w' => ∃ r' : StV, v = .agg [.int .i64 (rY vs o.body).2, .slice none 0 0, .int .i64 0, .bool false].toArray ∧ cE 39 r' ((rY vs o.body).1) ∧ Mem w (bH [(some b, bc [.slice r.A r.n r.c, .map r.p] 107), r.er, r.em, (some fa, bc [(.func (.func 26) #[] #[] : Value)] 143), (some ga, bc [(.func (.func 84) #[] #[] : Value)] 144)]) [(some b, bc [.slice r'.A r'.n r'.c, .map r'.p] 107), r'.er, r'.em, (some fa, bc [(.func (.func 26) #[] #[] : Value)] 143), (some ga, bc [(.func (.func 84) #[] #[] : Value)] 144)] w') v w') := by
 have hG := hW.1
 have hbl := hP.len
 refine aH #[.cell 6 33] 14 Tryz.func120 rfl Tryz.results120 Tryz.ntmps120 rfl ?_
 have M0 := hO.mem
 refine aD (aA (bC (.agg (List.toArray _)) M0 rfl rfl rfl (fun b1 w1 M1 => (aP jW M1 rfl rfl (fun b2 w2 M2 => (aB (aC (aD (bO [(0, 1), (1, 0), (2, 1), (3, 1), (4, 2), (5, 2), (6, 0), (7, 2)] mixed rfl (by kernel_rfl) (fun w3 hb3 hh3 => ?_))))))))))
 have M3 := M2.drew hb3 hh3
 refine cA rfl rfl rfl (aK 3 (.func _ _ _) aVr M3 rfl rfl rfl) (aX rfl rfl rfl (fun _ => aG (.pointer _) rfl) (cA rfl rfl rfl (aK 4 (.func _ _ _) bEf M3 rfl rfl rfl) (cA rfl rfl rfl (bA 5 mH M3 rfl rfl rfl) (dL [true, true, false] rfl (by kernel_rfl) (bX bHa rfl rfl (bCk _ o BA nn cc) ?_)))))
 rintro v4 w4 ⟨rfl, hb4⟩
 have M4 := M3.callB hb4
 refine aB (aC ⟨(eK (bL rfl (aK 3 (.func _ _ _) aVr M4 rfl rfl rfl)) dM), ?_⟩)
 refine dL [true] rfl (by kernel_rfl) (bX bHx rfl rfl (aOu _ _ r vs hW (M4.ownSeg 0 3) o.body hP.body) ?_)
 rintro v5 w5 ⟨r2, rfl, hw2, hM5⟩
 have M5 : Mem _ _ [_, _, _, _, _, _, _] _ := M4.seg 0 3 hM5
 refine aB (aC ⟨dM, ?_⟩)
 refine aX rfl rfl rfl (fun _ => cD [(0, .int _ _)] _ lF rfl rfl) (dL [] rfl (by kernel_rfl) (bB 6 _ fU M5 rfl rfl rfl rfl rfl (aQ rfl) rfl (fun w6 M6 => ?_)))
 refine aB (aC ⟨dM, ?_⟩)
 refine cF (aC (aN (eP 6 fU M6 rfl rfl rfl ?_)))
 exact ⟨r2, rfl, hw2, M6.keep [true, true, true, true, true, false, false]⟩
set_option maxHeartbeats 16000000 in
theorem aHf (w : World) (b : Nat) (r : StV) (vs : List Body) (hW : cE 39 r vs) (fa ga : Nat) (hO : Own [(some b, bc [.slice r.A r.n r.c, .map r.p] 107), r.er, r.em, (some fa, bc [(.func (.func 86) #[] #[] : Value)] 146), (some ga, bc [(.func (.func 87) #[] #[] : Value)] 148)] w) (o : OpI) (BA : Option Addr) (nn cc : Nat) (hP : OpOk w o BA nn cc) (hnn : nn ≤ 1000000) (hdB : 0 < nn → ∀ q off, BA = some ⟨q, off, none⟩ → q ∉ bH [(some b, bc [.slice r.A r.n r.c, .map r.p] 107), r.er, r.em, (some fa, bc [(.func (.func 86) #[] #[] : Value)] 146), (some ga, bc [(.func (.func 87) #[] #[] : Value)] 148)]) :
  Calls Tryz.prog 121 #[.pointer (some ⟨b, 0, none⟩), .agg (dV o BA nn cc).toArray, .pointer (some ⟨fa, 0, none⟩), .pointer (some ⟨ga, 0, none⟩)] w (fun ex w' => ∃ v, ex = .returned v ∧ (fun v w' => ∃ r' : StV, v = .agg [.int .i64 (gR vs o.key).2, .slice none 0 0, .int .i64 0, .bool false].toArray ∧ cE 39 r' ((gR vs o.key).1) ∧ Mem w (bH [(some b, bc [.slice r.A r.n r.c, .map r.p] 107), r.er, r.em, (some fa, bc [(.func (.func 86) #[] #[] : Value)] 146), (some ga, bc [(.func (.func 87) #[] #[] : Value)] 148)]) [(some b, bc [.slice r'.A r'.n r'.c, .map r'.p] 107), r'.er, r'.em, (some fa, bc [(.func (.func 86) #[] #[] : Value)] 146), (some ga, bc [(.func (.func 87) #[] #[] : Value)] 148)] w') v w') := by
 have hG := hW.1
 have hbl := hP.len
 refine aH #[.cell 6 33] 14 Tryz.func121 rfl Tryz.results121 Tryz.ntmps121 rfl ?_
 have M0 := hO.mem
 refine aD (aA (bC (.agg (List.toArray _)) M0 rfl rfl rfl (fun b1 w1 M1 => (aP jW M1 rfl rfl (fun b2 w2 M2 => (aB (aC (aD (bO [(0, 1), (1, 0), (2, 1), (3, 1), (4, 2), (5, 2), (6, 0), (7, 2)] mixed rfl (by kernel_rfl) (fun w3 hb3 hh3 => ?_))))))))))
 have M3 := M2.drew hb3 hh3
 refine cA rfl rfl rfl (aK 3 (.func _ _ _) aUd M3 rfl rfl rfl) (aX rfl rfl rfl (fun _ => aG (.pointer _) rfl) (cA rfl rfl rfl (aK 4 (.func _ _ _) bDw M3 rfl rfl rfl) (cA rfl rfl rfl (bA 5 mH M3 rfl rfl rfl) (dL [true, true, false] rfl (by kernel_rfl) (bX bGn rfl rfl (bCp _ o BA nn cc) ?_)))))
 rintro v4 w4 ⟨rfl, hb4⟩
 have M4 := M3.callB hb4
 refine aB (aC ⟨(eK (bL rfl (aK 3 (.func _ _ _) aUd M4 rfl rfl rfl)) dM), ?_⟩)
 refine dL [true] rfl (by kernel_rfl) (bX bHf rfl rfl (aEc _ _ r vs hW (M4.ownSeg 0 3) o.key) ?_)
 rintro v5 w5 ⟨r2, rfl, hw2, hM5⟩
 have M5 : Mem _ _ [_, _, _, _, _, _, _] _ := M4.seg 0 3 hM5
 refine aB (aC ⟨dM, ?_⟩)
 refine aX rfl rfl rfl (fun _ => cD [(0, .int _ _)] _ lF rfl rfl) (dL [] rfl (by kernel_rfl) (bB 6 _ fU M5 rfl rfl rfl rfl rfl (aQ rfl) rfl (fun w6 M6 => ?_)))
 refine aB (aC ⟨dM, ?_⟩)
 refine cF (aC (aN (eP 6 fU M6 rfl rfl rfl ?_)))
 exact ⟨r2, rfl, hw2, M6.keep [true, true, true, true, true, false, false]⟩
set_option maxHeartbeats 16000000 in
theorem aEe (w : World) (b : Nat) (r : StV) (vs : List Body) (hW : cE 39 r vs) (fa ga : Nat) (hO : Own [(some b, bc [.slice r.A r.n r.c, .map r.p] 107), r.er, r.em, (some fa, bc [(.func (.func 74) #[] #[] : Value)] 150), (some ga, bc [(.func (.func 89) #[] #[] : Value)] 151)] w) (o : OpI) (BA : Option Addr) (nn cc : Nat) (hP : OpOk w o BA nn cc) (hnn : nn ≤ 1000000) (hdB : 0 < nn → ∀ q off, BA = some ⟨q, off, none⟩ → q ∉ bH [(some b, bc [.slice r.A r.n r.c, .map r.p] 107), r.er, r.em, (some fa, bc [(.func (.func 74) #[] #[] : Value)] 150), (some ga, bc [(.func (.func 89) #[] #[] : Value)] 151)]) :
  Calls Tryz.prog 123 #[.pointer (some ⟨b, 0, none⟩), .agg (dV o BA nn cc).toArray, .pointer (some ⟨fa, 0, none⟩), .pointer (some ⟨ga, 0, none⟩)] w (fun ex w' => ∃ v, ex = .returned v ∧ (fun v w' => ∃ r' : StV, v = .agg [.int .i64 (lE o.bytes).2, .slice none 0 0, .int .i64 0, .bool false].toArray ∧ cE 39 r' (xV vs o.bytes) ∧ Mem w (bH [(some b, bc [.slice r.A r.n r.c, .map r.p] 107), r.er, r.em, (some fa, bc [(.func (.func 74) #[] #[] : Value)] 150), (some ga, bc [(.func (.func 89) #[] #[] : Value)] 151)]) [(some b, bc [.slice r'.A r'.n r'.c, .map r'.p] 107), r'.er, r'.em, (some fa, bc [(.func (.func 74) #[] #[] : Value)] 150), (some ga, bc [(.func (.func 89) #[] #[] : Value)] 151)] w') v w') := by
 have hG := hW.1
 have hbl := hP.len
 refine aH #[.cell 6 33] 14 Tryz.func123 rfl Tryz.results123 Tryz.ntmps123 rfl ?_
 have M0 := hO.mem
 refine aD (aA (bC (.agg (List.toArray _)) M0 rfl rfl rfl (fun b1 w1 M1 => (aP jW M1 rfl rfl (fun b2 w2 M2 => (aB (aC (aD (bO [(0, 1), (1, 0), (2, 1), (3, 1), (4, 2), (5, 2), (6, 0), (7, 2)] mixed rfl (by kernel_rfl) (fun w3 hb3 hh3 => ?_))))))))))
 have M3 := M2.drew hb3 hh3
 refine cA rfl rfl rfl (aK 3 (.func _ _ _) aVc M3 rfl rfl rfl) (aX rfl rfl rfl (fun _ => aG (.pointer _) rfl) (cA rfl rfl rfl (aK 4 (.func _ _ _) bEx M3 rfl rfl rfl) (cA rfl rfl rfl (bA 5 mH M3 rfl rfl rfl) (dL [true, true, false] rfl (by kernel_rfl) (bX bHg rfl rfl (bDh _ o BA nn cc) ?_)))))
 rintro v4 w4 ⟨rfl, hb4⟩
 have M4 := M3.callB hb4
 refine aB (aC ⟨(eK (bL rfl (aK 3 (.func _ _ _) aVc M4 rfl rfl rfl)) dM), ?_⟩)
 refine dL [true] rfl (by kernel_rfl) (bX bHb rfl rfl (aAr _ _ r vs hW (M4.ownSeg 0 3) BA nn cc o.bytes (hP.rd.memY M4 hdB) hP.byt hP.cap hnn (M4.away 0 3 hP.rd hdB)) ?_)
 rintro v5 w5 ⟨r2, rfl, hw2, hM5⟩
 have M5 : Mem _ _ [_, _, _, _, _, _, _] _ := M4.seg 0 3 hM5
 refine aB (aC ⟨dM, ?_⟩)
 refine aX rfl rfl rfl (fun _ => cD [(0, .int _ _)] _ lF rfl rfl) (dL [] rfl (by kernel_rfl) (bB 6 _ fU M5 rfl rfl rfl rfl rfl (aQ rfl) rfl (fun w6 M6 => ?_)))
 refine aB (aC ⟨dM, ?_⟩)
 refine cF (aC (aN (eP 6 fU M6 rfl rfl rfl ?_)))
 exact ⟨r2, rfl, hw2, M6.keep [true, true, true, true, true, false, false]⟩
set_option maxHeartbeats 32000000 in
theorem aDx (w : World)  (b : Nat) (r : StV) (vs : List Body) (hW : cE 39 r vs) (hO : Own [(some b, bc [.slice r.A r.n r.c, .map r.p] 107), r.er, r.em] w) (o : OpI) (BA : Option Addr) (nn cc : Nat) (hP : OpOk w o BA nn cc) (hnn : nn ≤ 1000000) (hdB : 0 < nn → ∀ q off, BA = some ⟨q, off, none⟩ → q ∉ bH [(some b, bc [.slice r.A r.n r.c, .map r.p] 107), r.er, r.em]) (hk : o.kind = 3) :
  Calls Tryz.prog 90 #[.pointer (some ⟨b, 0, none⟩), .agg (dV o BA nn cc).toArray] w (fun ex w' => ∃ v, ex = .returned v ∧ (fun v w' => ∃ (r' : StV) (p : Row), v = .agg (cX (gI vs o).2 p).toArray ∧ cE 39 r' (gI vs o).1 ∧ aU 5 1 p.A p.n p.c (((gI vs o).2.bytes).map bK) p.e ∧ Mem w (bH [(some b, bc [.slice r.A r.n r.c, .map r.p] 107), r.er, r.em]) [(some b, bc [.slice r'.A r'.n r'.c, .map r'.p] 107), r'.er, r'.em, p.e] w') v w') := by
 have hG := hW.1
 have hbl := hP.len
 refine aH #[.cell 4 33] 12 Tryz.func90 rfl Tryz.results90 Tryz.ntmps90 rfl ?_
 have M0 := hO.mem
 refine aD (aA (bC (.agg (List.toArray _)) M0 rfl rfl rfl (fun b1 w1 M1 => (aP jW M1 rfl rfl (fun b2 w2 M2 => (aB (aC (aD (aA (wq (aG (.pointer _) rfl) rfl (wq (aE 11 aLx rfl) rfl ?_)))))))))))
 refine wq (aK 3 (.int _ _) bY M2 rfl rfl rfl) rfl (wq (aE 12 bAk rfl) rfl (wq (pV 3 _ bJ M2 rfl rfl rfl rfl) rfl (bX bIf rfl rfl (aAn _ _ r vs hW (M2.ownSeg 0 3) o.key o.push hP.p1 hP.p2) ?_)))
 rintro v3 w3 ⟨r2, rfl, hw2, hM3⟩
 have M3 : Mem _ _ [_, _, _, _, _] _ := M2.seg 0 3 hM3
 refine wq (cD [(0, .int _ _)] _ lF rfl rfl) rfl (bB 4 _ fU M3 rfl rfl rfl rfl rfl (aQ rfl) rfl (fun w4 M4 => (aB (aC (aN (eP 4 fU M4 rfl rfl rfl ?_))))))
 exact ⟨r2, ⟨none, 0, 0, (none, default)⟩, by rw [bFy hk]; rfl, by rw [bFy hk]; exact hw2, by rw [bFy hk]; exact aU.nil _ _ _, (M4.keep [true, true, true, false, false]).dummy default⟩
set_option maxHeartbeats 32000000 in
theorem aQv (w : World) (F : Rd w 2 (some ⟨0, 0, none⟩) 1 [[.int .u32 73856093, .int .u32 19349663]]) (N : Rd w 4 (some ⟨3, 0, none⟩) 1 [cU gP]) (b : Nat) (r : StV) (vs : List Body) (hW : cE 39 r vs) (hO : Own [(some b, bc [.slice r.A r.n r.c, .map r.p] 107), r.er, r.em] w) (o : OpI) (BA : Option Addr) (nn cc : Nat) (hP : OpOk w o BA nn cc) (hnn : nn ≤ 1000000) (hdB : 0 < nn → ∀ q off, BA = some ⟨q, off, none⟩ → q ∉ bH [(some b, bc [.slice r.A r.n r.c, .map r.p] 107), r.er, r.em]) (hdF : 0 < 1 → ∀ q off, (some ⟨0, 0, none⟩ : Option Addr) = some ⟨q, off, none⟩ → q ∉ bH [(some b, bc [.slice r.A r.n r.c, .map r.p] 107), r.er, r.em]) (hdN : 0 < 1 → ∀ q off, (some ⟨3, 0, none⟩ : Option Addr) = some ⟨q, off, none⟩ → q ∉ bH [(some b, bc [.slice r.A r.n r.c, .map r.p] 107), r.er, r.em]) (hk : o.kind = 4) :
  Calls Tryz.prog 92 #[.pointer (some ⟨b, 0, none⟩), .agg (dV o BA nn cc).toArray] w (fun ex w' => ∃ v, ex = .returned v ∧ (fun v w' => ∃ (r' : StV) (p : Row), v = .agg (cX (gI vs o).2 p).toArray ∧ cE 39 r' (gI vs o).1 ∧ aU 5 1 p.A p.n p.c (((gI vs o).2.bytes).map bK) p.e ∧ Mem w (bH [(some b, bc [.slice r.A r.n r.c, .map r.p] 107), r.er, r.em]) [(some b, bc [.slice r'.A r'.n r'.c, .map r'.p] 107), r'.er, r'.em, p.e] w') v w') := by
 have hG := hW.1
 have hbl := hP.len
 refine aH #[.cell 4 33] 13 Tryz.func92 rfl Tryz.results92 Tryz.ntmps92 rfl ?_
 have M0 := hO.mem
 refine aD (aA (bC (.agg (List.toArray _)) M0 rfl rfl rfl (fun b1 w1 M1 => (aP jW M1 rfl rfl (fun b2 w2 M2 => (aB (aC (aD (aA (wq (aG (.pointer _) rfl) rfl (bX bGp rfl rfl (aKr _ (F.memY M2 hdF) (N.memY M2 hdN) _ r vs hW (M2.ownSeg 0 3) (M2.away 0 3 F hdF) (M2.away 0 3 N hdN)) ?_)))))))))))
 rintro v3 w3 ⟨r2, ts, rfl, hw2, hM3⟩
 have M3 : Mem _ _ [_, _, _, _, _] _ := M2.seg 0 3 hM3
 refine aP aEj M3 rfl rfl (fun b4 w4 M4 => (bB 5 _ vK M4 rfl rfl rfl rfl rfl (aQ rfl) rfl (fun w5 M5 => (aB (aC (aD (aA (wq (aE 1 aLs rfl) rfl (wq (aK 5 (.int _ _) iM M5 rfl rfl rfl) rfl (wq (aE 2 wR rfl) rfl ?_))))))))))
 refine wq (aK 5 (.bool _) mW M5 rfl rfl rfl) rfl (wq (cD [(2, .int _ _), (3, .bool _)] _ lF rfl rfl) rfl (bB 4 _ fU M5 rfl rfl rfl rfl rfl (aQ rfl) rfl (fun w6 M6 => (aB (aC (aN (eP 4 fU M6 rfl rfl rfl ?_)))))))
 exact ⟨r2, ⟨none, 0, 0, (none, default)⟩, by rw [bAd hk]; rfl, by rw [bAd hk]; exact hw2, by rw [bAd hk]; exact aU.nil _ _ _, (M6.keep [true, true, true, false, false, false]).dummy default⟩
set_option maxHeartbeats 32000000 in
theorem aAt (w : World)  (b : Nat) (r : StV) (vs : List Body) (hW : cE 39 r vs) (hO : Own [(some b, bc [.slice r.A r.n r.c, .map r.p] 107), r.er, r.em] w) (o : OpI) (BA : Option Addr) (nn cc : Nat) (hP : OpOk w o BA nn cc) (hnn : nn ≤ 1000000) (hdB : 0 < nn → ∀ q off, BA = some ⟨q, off, none⟩ → q ∉ bH [(some b, bc [.slice r.A r.n r.c, .map r.p] 107), r.er, r.em]) (hk : o.kind = 5) :
  Calls Tryz.prog 93 #[.pointer (some ⟨b, 0, none⟩), .agg (dV o BA nn cc).toArray] w (fun ex w' => ∃ v, ex = .returned v ∧ (fun v w' => ∃ (r' : StV) (p : Row), v = .agg (cX (gI vs o).2 p).toArray ∧ cE 39 r' (gI vs o).1 ∧ aU 5 1 p.A p.n p.c (((gI vs o).2.bytes).map bK) p.e ∧ Mem w (bH [(some b, bc [.slice r.A r.n r.c, .map r.p] 107), r.er, r.em]) [(some b, bc [.slice r'.A r'.n r'.c, .map r'.p] 107), r'.er, r'.em, p.e] w') v w') := by
 have hG := hW.1
 have hbl := hP.len
 refine aH #[.cell 4 33] 8 Tryz.func93 rfl Tryz.results93 Tryz.ntmps93 rfl ?_
 have M0 := hO.mem
 refine aD (aA (bC (.agg (List.toArray _)) M0 rfl rfl rfl (fun b1 w1 M1 => (aP jW M1 rfl rfl (fun b2 w2 M2 => (aB (aC (aD (aA (wq (aG (.pointer _) rfl) rfl (bX bGk rfl rfl (xE _ _ r vs hW (M2.ownSeg 0 3)) ?_)))))))))))
 rintro v3 w3 ⟨pb, rfl, hpb, hM3⟩
 have M3 : Mem _ _ [_, _, _, _, _, _] _ := M2.seg 0 3 hM3
 refine wq (cD [(1, .slice _ _ _)] _ lF rfl rfl) rfl (bB 4 _ fU M3 rfl rfl rfl rfl rfl (aQ rfl) rfl (fun w4 M4 => (aB (aC (aN (eP 4 fU M4 rfl rfl rfl ?_))))))
 exact ⟨r, pb, by rw [aZs hk]; rfl, by rw [aZs hk]; exact hW, by rw [aZs hk]; exact hpb, (M4.keep [true, true, true, false, false, true])⟩
set_option maxHeartbeats 32000000 in
theorem aKq (w : World)  (b : Nat) (r : StV) (vs : List Body) (hW : cE 39 r vs) (hO : Own [(some b, bc [.slice r.A r.n r.c, .map r.p] 107), r.er, r.em] w) (o : OpI) (BA : Option Addr) (nn cc : Nat) (hP : OpOk w o BA nn cc) (hnn : nn ≤ 1000000) (hdB : 0 < nn → ∀ q off, BA = some ⟨q, off, none⟩ → q ∉ bH [(some b, bc [.slice r.A r.n r.c, .map r.p] 107), r.er, r.em]) (hk : o.kind = 1) :
  Calls Tryz.prog 20 #[.pointer (some ⟨b, 0, none⟩), .agg (dV o BA nn cc).toArray] w (fun ex w' => ∃ v, ex = .returned v ∧ (fun v w' => ∃ (r' : StV) (p : Row), v = .agg (cX (gI vs o).2 p).toArray ∧ cE 39 r' (gI vs o).1 ∧ aU 5 1 p.A p.n p.c (((gI vs o).2.bytes).map bK) p.e ∧ Mem w (bH [(some b, bc [.slice r.A r.n r.c, .map r.p] 107), r.er, r.em]) [(some b, bc [.slice r'.A r'.n r'.c, .map r'.p] 107), r'.er, r'.em, p.e] w') v w') := by
 have hG := hW.1
 have hbl := hP.len
 refine aH #[.cell 4 33] 21 Tryz.func20 rfl Tryz.results20 Tryz.ntmps20 rfl ?_
 have M0 := hO.mem
 refine aD (aA (bC (.agg (List.toArray _)) M0 rfl rfl rfl (fun b1 w1 M1 => (aP jW M1 rfl rfl (fun b2 w2 M2 => (aB (aC (aD (bO [(1, 0), (2, 1), (0, 2), (3, 1), (4, 0), (5, 0), (6, 0), (7, 0), (8, 0)] mixed rfl (by kernel_rfl) (fun w3 hb3 hh3 => ?_))))))))))
 have M3 := M2.drew hb3 hh3
 refine aX rfl rfl rfl (fun _ => aE 0 oA rfl) (cA rfl rfl rfl (aK 3 (.int _ _) iM M3 rfl rfl rfl) (dL [false] rfl (by kernel_rfl) (bX xN rfl rfl (gD _) ?_)))
 rintro v4 w4 ⟨pm, em, f1, g1, f2, g2, f3, g3, rfl, hmap, hM4⟩
 have M4 : Mem _ _ [_, _, _, _, _, _, _, _, _, _, _, _] _ := M3.call0 hM4
 refine aB (aC ⟨(eK (bL rfl (aK 3 (.int _ _) iM M4 rfl rfl rfl)) dM), ?_⟩)
 refine cA rfl rfl rfl (iB (enc := (fun v : Value => v)) .nilFunc 5 jY aKe M4 rfl hmap rfl rfl) (gK 11 (.tuple [(.func (.func 120) #[] #[.pointer (some ⟨f1, 0, none⟩), .pointer (some ⟨g1, 0, none⟩)] : Value), .bool true].toArray) (kZ (aSz hk)) (aX rfl rfl rfl (fun _ => aG (.tuple (List.toArray _)) rfl) ?_))
 refine aX rfl rfl rfl (fun _ => bG (.func _ _ _) rfl rfl) (aX rfl rfl rfl (fun _ => bG (.bool true) rfl rfl) (aX rfl rfl rfl (fun _ => aI (.func _ _ _) rfl) (aX rfl rfl rfl (fun _ => aI (.bool true) rfl) (cF (aC (aD (aD (aA ?_))))))))
 refine wq (aG (.bool true) rfl) rfl (wq (gE false rfl rfl) rfl (aB (aC (cC rfl (aM (aC (aD (aA (wq (aG (.func _ _ _) rfl) rfl ?_)))))))))
 refine wq (aG (.pointer _) rfl) rfl (wq (bA 3 mH M4 rfl rfl rfl) rfl (bX bBw rfl rfl (aUy _ _ r vs hW _ _ (M4.ownK [true, true, true, false, false, false, true, true, false, false, false, false]) o BA nn cc (hP.memY M4 hdB) hnn (M4.awayK [true, true, true, false, false, false, true, true, false, false, false, false] hP.rd hdB)) ?_))
 rintro v5 w5 ⟨r2, rfl, hw2, hM5⟩
 have M5 : Mem _ _ [_, _, _, _, _, _, _, _, _, _, _, _] _ := M4.callK [true, true, true, false, false, false, true, true, false, false, false, false] rfl hM5
 refine bB 6 _ fU M5 rfl rfl rfl rfl rfl (aQ rfl) rfl (fun w6 M6 => (aB (aC (aN (eP 6 fU M6 rfl rfl rfl ?_)))))
 exact ⟨r2, ⟨none, 0, 0, (none, default)⟩, by rw [aWr hk]; rfl, by rw [aWr hk]; exact hw2, by rw [aWr hk]; exact aU.nil _ _ _, (M6.keep [true, true, true, false, false, false, false, false, false, false, false, false]).dummy default⟩
set_option maxHeartbeats 32000000 in
theorem aIl (w : World)  (b : Nat) (r : StV) (vs : List Body) (hW : cE 39 r vs) (hO : Own [(some b, bc [.slice r.A r.n r.c, .map r.p] 107), r.er, r.em] w) (o : OpI) (BA : Option Addr) (nn cc : Nat) (hP : OpOk w o BA nn cc) (hnn : nn ≤ 1000000) (hdB : 0 < nn → ∀ q off, BA = some ⟨q, off, none⟩ → q ∉ bH [(some b, bc [.slice r.A r.n r.c, .map r.p] 107), r.er, r.em]) (hk : o.kind = 2) :
  Calls Tryz.prog 20 #[.pointer (some ⟨b, 0, none⟩), .agg (dV o BA nn cc).toArray] w (fun ex w' => ∃ v, ex = .returned v ∧ (fun v w' => ∃ (r' : StV) (p : Row), v = .agg (cX (gI vs o).2 p).toArray ∧ cE 39 r' (gI vs o).1 ∧ aU 5 1 p.A p.n p.c (((gI vs o).2.bytes).map bK) p.e ∧ Mem w (bH [(some b, bc [.slice r.A r.n r.c, .map r.p] 107), r.er, r.em]) [(some b, bc [.slice r'.A r'.n r'.c, .map r'.p] 107), r'.er, r'.em, p.e] w') v w') := by
 have hG := hW.1
 have hbl := hP.len
 refine aH #[.cell 4 33] 21 Tryz.func20 rfl Tryz.results20 Tryz.ntmps20 rfl ?_
 have M0 := hO.mem
 refine aD (aA (bC (.agg (List.toArray _)) M0 rfl rfl rfl (fun b1 w1 M1 => (aP jW M1 rfl rfl (fun b2 w2 M2 => (aB (aC (aD (bO [(1, 0), (2, 1), (0, 2), (3, 1), (4, 0), (5, 0), (6, 0), (7, 0), (8, 0)] mixed rfl (by kernel_rfl) (fun w3 hb3 hh3 => ?_))))))))))
 have M3 := M2.drew hb3 hh3
 refine aX rfl rfl rfl (fun _ => aE 0 oA rfl) (cA rfl rfl rfl (aK 3 (.int _ _) iM M3 rfl rfl rfl) (dL [false] rfl (by kernel_rfl) (bX xN rfl rfl (gD _) ?_)))
 rintro v4 w4 ⟨pm, em, f1, g1, f2, g2, f3, g3, rfl, hmap, hM4⟩
 have M4 : Mem _ _ [_, _, _, _, _, _, _, _, _, _, _, _] _ := M3.call0 hM4
 refine aB (aC ⟨(eK (bL rfl (aK 3 (.int _ _) iM M4 rfl rfl rfl)) dM), ?_⟩)
 refine cA rfl rfl rfl (iB (enc := (fun v : Value => v)) .nilFunc 5 jY aKe M4 rfl hmap rfl rfl) (gK 11 (.tuple [(.func (.func 121) #[] #[.pointer (some ⟨f2, 0, none⟩), .pointer (some ⟨g2, 0, none⟩)] : Value), .bool true].toArray) (kZ (aSy hk)) (aX rfl rfl rfl (fun _ => aG (.tuple (List.toArray _)) rfl) ?_))
 refine aX rfl rfl rfl (fun _ => bG (.func _ _ _) rfl rfl) (aX rfl rfl rfl (fun _ => bG (.bool true) rfl rfl) (aX rfl rfl rfl (fun _ => aI (.func _ _ _) rfl) (aX rfl rfl rfl (fun _ => aI (.bool true) rfl) (cF (aC (aD (aD (aA ?_))))))))
 refine wq (aG (.bool true) rfl) rfl (wq (gE false rfl rfl) rfl (aB (aC (cC rfl (aM (aC (aD (aA (wq (aG (.func _ _ _) rfl) rfl ?_)))))))))
 refine wq (aG (.pointer _) rfl) rfl (wq (bA 3 mH M4 rfl rfl rfl) rfl (bX bCz rfl rfl (aHf _ _ r vs hW _ _ (M4.ownK [true, true, true, false, false, false, false, false, true, true, false, false]) o BA nn cc (hP.memY M4 hdB) hnn (M4.awayK [true, true, true, false, false, false, false, false, true, true, false, false] hP.rd hdB)) ?_))
 rintro v5 w5 ⟨r2, rfl, hw2, hM5⟩
 have M5 : Mem _ _ [_, _, _, _, _, _, _, _, _, _, _, _] _ := M4.callK [true, true, true, false, false, false, false, false, true, true, false, false] rfl hM5
 refine bB 6 _ fU M5 rfl rfl rfl rfl rfl (aQ rfl) rfl (fun w6 M6 => (aB (aC (aN (eP 6 fU M6 rfl rfl rfl ?_)))))
 exact ⟨r2, ⟨none, 0, 0, (none, default)⟩, by rw [aYe hk]; rfl, by rw [aYe hk]; exact hw2, by rw [aYe hk]; exact aU.nil _ _ _, (M6.keep [true, true, true, false, false, false, false, false, false, false, false, false]).dummy default⟩
set_option maxHeartbeats 32000000 in
theorem aIv (w : World)  (b : Nat) (r : StV) (vs : List Body) (hW : cE 39 r vs) (hO : Own [(some b, bc [.slice r.A r.n r.c, .map r.p] 107), r.er, r.em] w) (o : OpI) (BA : Option Addr) (nn cc : Nat) (hP : OpOk w o BA nn cc) (hnn : nn ≤ 1000000) (hdB : 0 < nn → ∀ q off, BA = some ⟨q, off, none⟩ → q ∉ bH [(some b, bc [.slice r.A r.n r.c, .map r.p] 107), r.er, r.em]) (hk : o.kind = 6) :
  Calls Tryz.prog 20 #[.pointer (some ⟨b, 0, none⟩), .agg (dV o BA nn cc).toArray] w (fun ex w' => ∃ v, ex = .returned v ∧ (fun v w' => ∃ (r' : StV) (p : Row), v = .agg (cX (gI vs o).2 p).toArray ∧ cE 39 r' (gI vs o).1 ∧ aU 5 1 p.A p.n p.c (((gI vs o).2.bytes).map bK) p.e ∧ Mem w (bH [(some b, bc [.slice r.A r.n r.c, .map r.p] 107), r.er, r.em]) [(some b, bc [.slice r'.A r'.n r'.c, .map r'.p] 107), r'.er, r'.em, p.e] w') v w') := by
 have hG := hW.1
 have hbl := hP.len
 refine aH #[.cell 4 33] 21 Tryz.func20 rfl Tryz.results20 Tryz.ntmps20 rfl ?_
 have M0 := hO.mem
 refine aD (aA (bC (.agg (List.toArray _)) M0 rfl rfl rfl (fun b1 w1 M1 => (aP jW M1 rfl rfl (fun b2 w2 M2 => (aB (aC (aD (bO [(1, 0), (2, 1), (0, 2), (3, 1), (4, 0), (5, 0), (6, 0), (7, 0), (8, 0)] mixed rfl (by kernel_rfl) (fun w3 hb3 hh3 => ?_))))))))))
 have M3 := M2.drew hb3 hh3
 refine aX rfl rfl rfl (fun _ => aE 0 oA rfl) (cA rfl rfl rfl (aK 3 (.int _ _) iM M3 rfl rfl rfl) (dL [false] rfl (by kernel_rfl) (bX xN rfl rfl (gD _) ?_)))
 rintro v4 w4 ⟨pm, em, f1, g1, f2, g2, f3, g3, rfl, hmap, hM4⟩
 have M4 : Mem _ _ [_, _, _, _, _, _, _, _, _, _, _, _] _ := M3.call0 hM4
 refine aB (aC ⟨(eK (bL rfl (aK 3 (.int _ _) iM M4 rfl rfl rfl)) dM), ?_⟩)
 refine cA rfl rfl rfl (iB (enc := (fun v : Value => v)) .nilFunc 5 jY aKe M4 rfl hmap rfl rfl) (gK 11 (.tuple [(.func (.func 123) #[] #[.pointer (some ⟨f3, 0, none⟩), .pointer (some ⟨g3, 0, none⟩)] : Value), .bool true].toArray) (kZ (aRv hk)) (aX rfl rfl rfl (fun _ => aG (.tuple (List.toArray _)) rfl) ?_))
 refine aX rfl rfl rfl (fun _ => bG (.func _ _ _) rfl rfl) (aX rfl rfl rfl (fun _ => bG (.bool true) rfl rfl) (aX rfl rfl rfl (fun _ => aI (.func _ _ _) rfl) (aX rfl rfl rfl (fun _ => aI (.bool true) rfl) (cF (aC (aD (aD (aA ?_))))))))
 refine wq (aG (.bool true) rfl) rfl (wq (gE false rfl rfl) rfl (aB (aC (cC rfl (aM (aC (aD (aA (wq (aG (.func _ _ _) rfl) rfl ?_)))))))))
 refine wq (aG (.pointer _) rfl) rfl (wq (bA 3 mH M4 rfl rfl rfl) rfl (bX bEn rfl rfl (aEe _ _ r vs hW _ _ (M4.ownK [true, true, true, false, false, false, false, false, false, false, true, true]) o BA nn cc (hP.memY M4 hdB) hnn (M4.awayK [true, true, true, false, false, false, false, false, false, false, true, true] hP.rd hdB)) ?_))
 rintro v5 w5 ⟨r2, rfl, hw2, hM5⟩
 have M5 : Mem _ _ [_, _, _, _, _, _, _, _, _, _, _, _] _ := M4.callK [true, true, true, false, false, false, false, false, false, false, true, true] rfl hM5
 refine bB 6 _ fU M5 rfl rfl rfl rfl rfl (aQ rfl) rfl (fun w6 M6 => (aB (aC (aN (eP 6 fU M6 rfl rfl rfl ?_)))))
 exact ⟨r2, ⟨none, 0, 0, (none, default)⟩, by rw [bCx hk]; rfl, by rw [bCx hk]; exact hw2, by rw [bCx hk]; exact aU.nil _ _ _, (M6.keep [true, true, true, false, false, false, false, false, false, false, false, false]).dummy default⟩
set_option maxHeartbeats 32000000 in
theorem aIr (w : World)  (b : Nat) (r : StV) (vs : List Body) (hW : cE 39 r vs) (hO : Own [(some b, bc [.slice r.A r.n r.c, .map r.p] 107), r.er, r.em] w) (o : OpI) (BA : Option Addr) (nn cc : Nat) (hP : OpOk w o BA nn cc) (hnn : nn ≤ 1000000) (hdB : 0 < nn → ∀ q off, BA = some ⟨q, off, none⟩ → q ∉ bH [(some b, bc [.slice r.A r.n r.c, .map r.p] 107), r.er, r.em]) (hk : o.kind = 3) :
  Calls Tryz.prog 20 #[.pointer (some ⟨b, 0, none⟩), .agg (dV o BA nn cc).toArray] w (fun ex w' => ∃ v, ex = .returned v ∧ (fun v w' => ∃ (r' : StV) (p : Row), v = .agg (cX (gI vs o).2 p).toArray ∧ cE 39 r' (gI vs o).1 ∧ aU 5 1 p.A p.n p.c (((gI vs o).2.bytes).map bK) p.e ∧ Mem w (bH [(some b, bc [.slice r.A r.n r.c, .map r.p] 107), r.er, r.em]) [(some b, bc [.slice r'.A r'.n r'.c, .map r'.p] 107), r'.er, r'.em, p.e] w') v w') := by
 have hG := hW.1
 have hbl := hP.len
 refine aH #[.cell 4 33] 21 Tryz.func20 rfl Tryz.results20 Tryz.ntmps20 rfl ?_
 have M0 := hO.mem
 refine aD (aA (bC (.agg (List.toArray _)) M0 rfl rfl rfl (fun b1 w1 M1 => (aP jW M1 rfl rfl (fun b2 w2 M2 => (aB (aC (aD (bO [(1, 0), (2, 1), (0, 2), (3, 1), (4, 0), (5, 0), (6, 0), (7, 0), (8, 0)] mixed rfl (by kernel_rfl) (fun w3 hb3 hh3 => ?_))))))))))
 have M3 := M2.drew hb3 hh3
 refine aX rfl rfl rfl (fun _ => aE 0 oA rfl) (cA rfl rfl rfl (aK 3 (.int _ _) iM M3 rfl rfl rfl) (dL [false] rfl (by kernel_rfl) (bX xN rfl rfl (gD _) ?_)))
 rintro v4 w4 ⟨pm, em, f1, g1, f2, g2, f3, g3, rfl, hmap, hM4⟩
 have M4 : Mem _ _ [_, _, _, _, _, _, _, _, _, _, _, _] _ := M3.call0 hM4
 refine aB (aC ⟨(eK (bL rfl (aK 3 (.int _ _) iM M4 rfl rfl rfl)) dM), ?_⟩)
 refine cA rfl rfl rfl (iB (enc := (fun v : Value => v)) .nilFunc 5 jY aKe M4 rfl hmap rfl rfl) (gK 11 (.tuple [(.func (.func 90) #[] #[] : Value), .bool true].toArray) (kZ (aVo hk)) (aX rfl rfl rfl (fun _ => aG (.tuple (List.toArray _)) rfl) (aX rfl rfl rfl (fun _ => bG (.func _ _ _) rfl rfl) ?_)))
 refine aX rfl rfl rfl (fun _ => bG (.bool true) rfl rfl) (aX rfl rfl rfl (fun _ => aI (.func _ _ _) rfl) (aX rfl rfl rfl (fun _ => aI (.bool true) rfl) (cF (aC (aD (aD (aA (wq (aG (.bool true) rfl) rfl ?_))))))))
 refine wq (gE false rfl rfl) rfl (aB (aC (cC rfl (aM (aC (aD (aA (wq (aG (.func _ _ _) rfl) rfl (wq (aG (.pointer _) rfl) rfl ?_)))))))))
 refine wq (bA 3 mH M4 rfl rfl rfl) rfl (bX bGy rfl rfl (aDx _ _ r vs hW (M4.ownSeg 0 3) o BA nn cc (hP.memY M4 hdB) hnn (M4.away 0 3 hP.rd hdB)  hk) ?_)
 rintro v5 w5 ⟨r2, p2, rfl, hw2, hp2, hM5⟩
 have M5 : Mem _ _ [_, _, _, _, _, _, _, _, _, _, _, _, _] _ := M4.seg 0 3 hM5
 refine bB 4 _ fU M5 rfl rfl rfl rfl rfl (aQ rfl) rfl (fun w6 M6 => (aB (aC (aN (eP 4 fU M6 rfl rfl rfl ?_)))))
 exact ⟨r2, p2, rfl, hw2, hp2, M6.keep [true, true, true, false, false, false, false, false, false, false, false, false, true]⟩
set_option maxHeartbeats 32000000 in
theorem aLl (w : World) (F : Rd w 2 (some ⟨0, 0, none⟩) 1 [[.int .u32 73856093, .int .u32 19349663]]) (N : Rd w 4 (some ⟨3, 0, none⟩) 1 [cU gP]) (b : Nat) (r : StV) (vs : List Body) (hW : cE 39 r vs) (hO : Own [(some b, bc [.slice r.A r.n r.c, .map r.p] 107), r.er, r.em] w) (o : OpI) (BA : Option Addr) (nn cc : Nat) (hP : OpOk w o BA nn cc) (hnn : nn ≤ 1000000) (hdB : 0 < nn → ∀ q off, BA = some ⟨q, off, none⟩ → q ∉ bH [(some b, bc [.slice r.A r.n r.c, .map r.p] 107), r.er, r.em]) (hdF : 0 < 1 → ∀ q off, (some ⟨0, 0, none⟩ : Option Addr) = some ⟨q, off, none⟩ → q ∉ bH [(some b, bc [.slice r.A r.n r.c, .map r.p] 107), r.er, r.em]) (hdN : 0 < 1 → ∀ q off, (some ⟨3, 0, none⟩ : Option Addr) = some ⟨q, off, none⟩ → q ∉ bH [(some b, bc [.slice r.A r.n r.c, .map r.p] 107), r.er, r.em]) (hk : o.kind = 4) :
  Calls Tryz.prog 20 #[.pointer (some ⟨b, 0, none⟩), .agg (dV o BA nn cc).toArray] w (fun ex w' => ∃ v, ex = .returned v ∧ (fun v w' => ∃ (r' : StV) (p : Row), v = .agg (cX (gI vs o).2 p).toArray ∧ cE 39 r' (gI vs o).1 ∧ aU 5 1 p.A p.n p.c (((gI vs o).2.bytes).map bK) p.e ∧ Mem w (bH [(some b, bc [.slice r.A r.n r.c, .map r.p] 107), r.er, r.em]) [(some b, bc [.slice r'.A r'.n r'.c, .map r'.p] 107), r'.er, r'.em, p.e] w') v w') := by
 have hG := hW.1
 have hbl := hP.len
 refine aH #[.cell 4 33] 21 Tryz.func20 rfl Tryz.results20 Tryz.ntmps20 rfl ?_
 have M0 := hO.mem
 refine aD (aA (bC (.agg (List.toArray _)) M0 rfl rfl rfl (fun b1 w1 M1 => (aP jW M1 rfl rfl (fun b2 w2 M2 => (aB (aC (aD (bO [(1, 0), (2, 1), (0, 2), (3, 1), (4, 0), (5, 0), (6, 0), (7, 0), (8, 0)] mixed rfl (by kernel_rfl) (fun w3 hb3 hh3 => ?_))))))))))
 have M3 := M2.drew hb3 hh3
 refine aX rfl rfl rfl (fun _ => aE 0 oA rfl) (cA rfl rfl rfl (aK 3 (.int _ _) iM M3 rfl rfl rfl) (dL [false] rfl (by kernel_rfl) (bX xN rfl rfl (gD _) ?_)))
 rintro v4 w4 ⟨pm, em, f1, g1, f2, g2, f3, g3, rfl, hmap, hM4⟩
 have M4 : Mem _ _ [_, _, _, _, _, _, _, _, _, _, _, _] _ := M3.call0 hM4
 refine aB (aC ⟨(eK (bL rfl (aK 3 (.int _ _) iM M4 rfl rfl rfl)) dM), ?_⟩)
 refine cA rfl rfl rfl (iB (enc := (fun v : Value => v)) .nilFunc 5 jY aKe M4 rfl hmap rfl rfl) (gK 11 (.tuple [(.func (.func 92) #[] #[] : Value), .bool true].toArray) (kZ (aUe hk)) (aX rfl rfl rfl (fun _ => aG (.tuple (List.toArray _)) rfl) (aX rfl rfl rfl (fun _ => bG (.func _ _ _) rfl rfl) ?_)))
 refine aX rfl rfl rfl (fun _ => bG (.bool true) rfl rfl) (aX rfl rfl rfl (fun _ => aI (.func _ _ _) rfl) (aX rfl rfl rfl (fun _ => aI (.bool true) rfl) (cF (aC (aD (aD (aA (wq (aG (.bool true) rfl) rfl ?_))))))))
 refine wq (gE false rfl rfl) rfl (aB (aC (cC rfl (aM (aC (aD (aA (wq (aG (.func _ _ _) rfl) rfl (wq (aG (.pointer _) rfl) rfl ?_)))))))))
 refine wq (bA 3 mH M4 rfl rfl rfl) rfl (bX bIa rfl rfl (aQv _ (F.memY M4 hdF) (N.memY M4 hdN) _ r vs hW (M4.ownSeg 0 3) o BA nn cc (hP.memY M4 hdB) hnn (M4.away 0 3 hP.rd hdB) (M4.away 0 3 F hdF) (M4.away 0 3 N hdN) hk) ?_)
 rintro v5 w5 ⟨r2, p2, rfl, hw2, hp2, hM5⟩
 have M5 : Mem _ _ [_, _, _, _, _, _, _, _, _, _, _, _, _] _ := M4.seg 0 3 hM5
 refine bB 4 _ fU M5 rfl rfl rfl rfl rfl (aQ rfl) rfl (fun w6 M6 => (aB (aC (aN (eP 4 fU M6 rfl rfl rfl ?_)))))
 exact ⟨r2, p2, rfl, hw2, hp2, M6.keep [true, true, true, false, false, false, false, false, false, false, false, false, true]⟩
set_option maxHeartbeats 32000000 in
theorem aJd (w : World)  (b : Nat) (r : StV) (vs : List Body) (hW : cE 39 r vs) (hO : Own [(some b, bc [.slice r.A r.n r.c, .map r.p] 107), r.er, r.em] w) (o : OpI) (BA : Option Addr) (nn cc : Nat) (hP : OpOk w o BA nn cc) (hnn : nn ≤ 1000000) (hdB : 0 < nn → ∀ q off, BA = some ⟨q, off, none⟩ → q ∉ bH [(some b, bc [.slice r.A r.n r.c, .map r.p] 107), r.er, r.em]) (hk : o.kind = 5) :
  Calls Tryz.prog 20 #[.pointer (some ⟨b, 0, none⟩), .agg (dV o BA nn cc).toArray] w (fun ex w' => ∃ v, ex = .returned v ∧ (fun v w' => ∃ (r' : StV) (p : Row), v = .agg (cX (gI vs o).2 p).toArray ∧ cE 39 r' (gI vs o).1 ∧ aU 5 1 p.A p.n p.c (((gI vs o).2.bytes).map bK) p.e ∧ Mem w (bH [(some b, bc [.slice r.A r.n r.c, .map r.p] 107), r.er, r.em]) [(some b, bc [.slice r'.A r'.n r'.c, .map r'.p] 107), r'.er, r'.em, p.e] w') v w') := by
 have hG := hW.1
 have hbl := hP.len
 refine aH #[.cell 4 33] 21 Tryz.func20 rfl Tryz.results20 Tryz.ntmps20 rfl ?_
 have M0 := hO.mem
 refine aD (aA (bC (.agg (List.toArray _)) M0 rfl rfl rfl (fun b1 w1 M1 => (aP jW M1 rfl rfl (fun b2 w2 M2 => (aB (aC (aD (bO [(1, 0), (2, 1), (0, 2), (3, 1), (4, 0), (5, 0), (6, 0), (7, 0), (8, 0)] mixed rfl (by kernel_rfl) (fun w3 hb3 hh3 => ?_))))))))))
 have M3 := M2.drew hb3 hh3
 refine aX rfl rfl rfl (fun _ => aE 0 oA rfl) (cA rfl rfl rfl (aK 3 (.int _ _) iM M3 rfl rfl rfl) (dL [false] rfl (by kernel_rfl) (bX xN rfl rfl (gD _) ?_)))
 rintro v4 w4 ⟨pm, em, f1, g1, f2, g2, f3, g3, rfl, hmap, hM4⟩
 have M4 : Mem _ _ [_, _, _, _, _, _, _, _, _, _, _, _] _ := M3.call0 hM4
 refine aB (aC ⟨(eK (bL rfl (aK 3 (.int _ _) iM M4 rfl rfl rfl)) dM), ?_⟩)
 refine cA rfl rfl rfl (iB (enc := (fun v : Value => v)) .nilFunc 5 jY aKe M4 rfl hmap rfl rfl) (gK 11 (.tuple [(.func (.func 93) #[] #[] : Value), .bool true].toArray) (kZ (aUq hk)) (aX rfl rfl rfl (fun _ => aG (.tuple (List.toArray _)) rfl) (aX rfl rfl rfl (fun _ => bG (.func _ _ _) rfl rfl) ?_)))
 refine aX rfl rfl rfl (fun _ => bG (.bool true) rfl rfl) (aX rfl rfl rfl (fun _ => aI (.func _ _ _) rfl) (aX rfl rfl rfl (fun _ => aI (.bool true) rfl) (cF (aC (aD (aD (aA (wq (aG (.bool true) rfl) rfl ?_))))))))
 refine wq (gE false rfl rfl) rfl (aB (aC (cC rfl (aM (aC (aD (aA (wq (aG (.func _ _ _) rfl) rfl (wq (aG (.pointer _) rfl) rfl ?_)))))))))
 refine wq (bA 3 mH M4 rfl rfl rfl) rfl (bX bGs rfl rfl (aAt _ _ r vs hW (M4.ownSeg 0 3) o BA nn cc (hP.memY M4 hdB) hnn (M4.away 0 3 hP.rd hdB)  hk) ?_)
 rintro v5 w5 ⟨r2, p2, rfl, hw2, hp2, hM5⟩
 have M5 : Mem _ _ [_, _, _, _, _, _, _, _, _, _, _, _, _] _ := M4.seg 0 3 hM5
 refine bB 4 _ fU M5 rfl rfl rfl rfl rfl (aQ rfl) rfl (fun w6 M6 => (aB (aC (aN (eP 4 fU M6 rfl rfl rfl ?_)))))
 exact ⟨r2, p2, rfl, hw2, hp2, M6.keep [true, true, true, false, false, false, false, false, false, false, false, false, true]⟩
set_option maxHeartbeats 32000000 in
theorem rL (w : World)  (b : Nat) (r : StV) (vs : List Body) (hW : cE 39 r vs) (hO : Own [(some b, bc [.slice r.A r.n r.c, .map r.p] 107), r.er, r.em] w) (o : OpI) (BA : Option Addr) (nn cc : Nat) (hP : OpOk w o BA nn cc) (hdB : 0 < nn → ∀ q off, BA = some ⟨q, off, none⟩ → q ∉ bH [(some b, bc [.slice r.A r.n r.c, .map r.p] 107), r.er, r.em]) (hk : o.kind < 1 ∨ 6 < o.kind) :
  Calls Tryz.prog 20 #[.pointer (some ⟨b, 0, none⟩), .agg (dV o BA nn cc).toArray] w (fun ex w' => ∃ v, ex = .returned v ∧ (fun v w' => ∃ (r' : StV) (p : Row), v = .agg (cX (gI vs o).2 p).toArray ∧ cE 39 r' (gI vs o).1 ∧ aU 5 1 p.A p.n p.c (((gI vs o).2.bytes).map bK) p.e ∧ Mem w (bH [(some b, bc [.slice r.A r.n r.c, .map r.p] 107), r.er, r.em]) [(some b, bc [.slice r'.A r'.n r'.c, .map r'.p] 107), r'.er, r'.em, p.e] w') v w') := by
 have hG := hW.1
 have hbl := hP.len
 refine aH #[.cell 4 33] 21 Tryz.func20 rfl Tryz.results20 Tryz.ntmps20 rfl ?_
 have M0 := hO.mem
 refine aD (aA (bC (.agg (List.toArray _)) M0 rfl rfl rfl (fun b1 w1 M1 => (aP jW M1 rfl rfl (fun b2 w2 M2 => (aB (aC (aD (bO [(1, 0), (2, 1), (0, 2), (3, 1), (4, 0), (5, 0), (6, 0), (7, 0), (8, 0)] mixed rfl (by kernel_rfl) (fun w3 hb3 hh3 => ?_))))))))))
 have M3 := M2.drew hb3 hh3
 refine aX rfl rfl rfl (fun _ => aE 0 oA rfl) (cA rfl rfl rfl (aK 3 (.int _ _) iM M3 rfl rfl rfl) (dL [false] rfl (by kernel_rfl) (bX xN rfl rfl (gD _) ?_)))
 rintro v4 w4 ⟨pm, em, f1, g1, f2, g2, f3, g3, rfl, hmap, hM4⟩
 have M4 : Mem _ _ [_, _, _, _, _, _, _, _, _, _, _, _] _ := M3.call0 hM4
 refine aB (aC ⟨(eK (bL rfl (aK 3 (.int _ _) iM M4 rfl rfl rfl)) dM), ?_⟩)
 refine cA rfl rfl rfl (iB (enc := (fun v : Value => v)) .nilFunc 5 jY aKe M4 rfl hmap rfl rfl) (gK 11 (.tuple [(.nilFunc : Value), .bool false].toArray) (aPr (aRd hk)) (aX rfl rfl rfl (fun _ => aG (.tuple (List.toArray _)) rfl) (aX rfl rfl rfl (fun _ => bG (_) rfl rfl) (aX rfl rfl rfl (fun _ => bG (.bool false) rfl rfl) ?_))))
 refine aX rfl rfl rfl (fun _ => aI (_) rfl) (aX rfl rfl rfl (fun _ => aI (.bool false) rfl) (cF (aC (aD (aD (aA (wq (aG (.bool false) rfl) rfl (wq (gE true rfl rfl) rfl ?_))))))))
 refine aB (aC (cQ rfl (aD (aA (wq (cD [(0, .int _ _)] _ lF rfl rfl) rfl (bB 4 _ fU M4 rfl rfl rfl rfl rfl (aQ rfl) rfl (fun w5 M5 => (aB (aC (aN (cJ ?_)))))))))))
 refine eP 4 fU M5 rfl rfl rfl ?_
 exact ⟨r, ⟨none, 0, 0, (none, default)⟩, by rw [gY (by omega)]; rfl, by rw [gY (by omega)]; exact hW, by rw [gY (by omega)]; exact aU.nil _ _ _, (M5.keep [true, true, true, false, false, false, false, false, false, false, false, false]).dummy default⟩
theorem aOa (w : World) (F : Rd w 2 (some ⟨0, 0, none⟩) 1 [[.int .u32 73856093, .int .u32 19349663]]) (N : Rd w 4 (some ⟨3, 0, none⟩) 1 [cU gP]) (b : Nat) (r : StV) (vs : List Body) (hW : cE 39 r vs) (hO : Own [(some b, bc [.slice r.A r.n r.c, .map r.p] 107), r.er, r.em] w) (o : OpI) (BA : Option Addr) (nn cc : Nat) (hP : OpOk w o BA nn cc) (hnn : nn ≤ 1000000) (hdB : 0 < nn → ∀ q off, BA = some ⟨q, off, none⟩ → q ∉ bH [(some b, bc [.slice r.A r.n r.c, .map r.p] 107), r.er, r.em]) (hdF : 0 < 1 → ∀ q off, (some ⟨0, 0, none⟩ : Option Addr) = some ⟨q, off, none⟩ → q ∉ bH [(some b, bc [.slice r.A r.n r.c, .map r.p] 107), r.er, r.em]) (hdN : 0 < 1 → ∀ q off, (some ⟨3, 0, none⟩ : Option Addr) = some ⟨q, off, none⟩ → q ∉ bH [(some b, bc [.slice r.A r.n r.c, .map r.p] 107), r.er, r.em]) : Calls Tryz.prog 20 #[.pointer (some ⟨b, 0, none⟩), .agg (dV o BA nn cc).toArray] w (fun ex w' => ∃ v, ex = .returned v ∧ (fun v w' => ∃ (r' : StV) (p : Row), v = .agg (cX (gI vs o).2 p).toArray ∧ cE 39 r' (gI vs o).1 ∧ aU 5 1 p.A p.n p.c (((gI vs o).2.bytes).map bK) p.e ∧ Mem w (bH [(some b, bc [.slice r.A r.n r.c, .map r.p] 107), r.er, r.em]) [(some b, bc [.slice r'.A r'.n r'.c, .map r'.p] 107), r'.er, r'.em, p.e] w') v w') := by
 by_cases h0 : o.kind < 1 ∨ 6 < o.kind
 ·exact rL w b r vs hW hO o BA nn cc hP hdB h0
 by_cases h1 : o.kind = 1
 ·exact aKq w b r vs hW hO o BA nn cc hP hnn hdB h1
 by_cases h2 : o.kind = 2
 ·exact aIl w b r vs hW hO o BA nn cc hP hnn hdB h2
 by_cases h3 : o.kind = 3
 ·exact aIr w b r vs hW hO o BA nn cc hP hnn hdB h3
 by_cases h4 : o.kind = 4
 ·exact aLl w F N b r vs hW hO o BA nn cc hP hnn hdB hdF hdN h4
 by_cases h5 : o.kind = 5
 ·exact aJd w b r vs hW hO o BA nn cc hP hnn hdB h5
 ·exact aIv w b r vs hW hO o BA nn cc hP hnn hdB (by omega)
set_option maxHeartbeats 32000000 in
theorem zW (w : World) (F : Rd w 2 (some ⟨0, 0, none⟩) 1 [[.int .u32 73856093, .int .u32 19349663]]) (N : Rd w 4 (some ⟨3, 0, none⟩) 1 [cU gP]) (b : Nat) (r : StV) (vs : List Body) (hW : cE 39 r vs) (hO : Own [(some b, bc [.slice r.A r.n r.c, .map r.p] 107), r.er, r.em] w) (hdF : 0 < 1 → ∀ q off, (some ⟨0, 0, none⟩ : Option Addr) = some ⟨q, off, none⟩ → q ∉ bH [(some b, bc [.slice r.A r.n r.c, .map r.p] 107), r.er, r.em]) (hdN : 0 < 1 → ∀ q off, (some ⟨3, 0, none⟩ : Option Addr) = some ⟨q, off, none⟩ → q ∉ bH [(some b, bc [.slice r.A r.n r.c, .map r.p] 107), r.er, r.em]) (A : Option Addr) (n c : Nat) (l : List OpRow) (hl : OpsRd w A n l) (hby : ∀ x ∈ l, x.n ≤ 1000000) (hn : n ≤ 1000000) (hdl : 0 < n → ∀ q off, A = some ⟨q, off, none⟩ → q ∉ bH [(some b, bc [.slice r.A r.n r.c, .map r.p] 107), r.er, r.em]) (hdo : aDw l (bH [(some b, bc [.slice r.A r.n r.c, .map r.p] 107), r.er, r.em])) :
  Calls Tryz.prog 33 #[.pointer (some ⟨b, 0, none⟩), .slice A n c] w (fun ex w' => ∃ v, ex = .returned v ∧ (fun v w' => ∃ (r' : StV) (q : Row) (rs : List Row), v = .slice q.A q.n q.c ∧ cE 39 r' (uE vs (mU l)) ∧ aU 33 4 q.A q.n q.c (pJ (mL vs (mU l)) rs) q.e ∧ OutR 5 rs (mL vs (mU l)) ∧ Mem w (bH [(some b, bc [.slice r.A r.n r.c, .map r.p] 107), r.er, r.em]) ([(some b, bc [.slice r'.A r'.n r'.c, .map r'.p] 107), r'.er, r'.em, q.e] ++ rs.map Row.e) w') v w') := by
 have hlen : l.length = n := by simpa using hl.rd.len
 have hbd := hl.rd.bound
 refine aH #[.tmp 4] 22 Tryz.func33 rfl Tryz.results33 Tryz.ntmps33 rfl ?_
 have M0 := hO.mem
 refine aD (aA (fL rfl rfl (aB (aC (aD (aA (fL rfl rfl ?_)))))))
 have M1 := M0.dummy default
 refine aB (aC (aD (aD (aA (eC rfl rfl (wq (cR Tryz.underlying27 rfl) rfl (aY rfl rfl (aB (aC (aT (dP (σ := Nat × StV × Row × List Row) [0, 4, 8, 9] (fun (i, r', q, rs) => [(5, .slice q.A q.n q.c), (10, .int .i64 (i : Int))]) (fun (i, r', q, rs) w' => (i ≤ n ∧ cE 39 r' (uE vs ((mU l).take i)) ∧ aU 33 4 q.A q.n q.c (pJ ((mL vs ((mU l).take i))) rs) q.e ∧ OutR 5 rs (mL vs ((mU l).take i))) ∧ Mem w (bH [(some b, bc [.slice r.A r.n r.c, .map r.p] 107), r.er, r.em]) ([(some b, bc [.slice r'.A r'.n r'.c, .map r'.p] 107), r'.er, r'.em, q.e] ++ rs.map Row.e) w') (fun (i, r', q, rs) => n - i) (0, r, fP, []) (bM rfl (bM rfl fD)) (⟨⟨by omega, hW, aU.nil _ _ _, OutR.nil _⟩, M1⟩) ?_)))))))))))
 rintro ⟨i, r', q, rs⟩ ρ2 w2 ⟨⟨hi, hr, hq, hoR⟩, hM2⟩
 have hqn : (pJ (mL vs ((mU l).take i)) rs).length = q.n := hq.1
 rw [aHx hoR.len, aIa, List.length_take, aFq] at hqn
 refine aD (aA (cY rfl rfl rfl rfl (aB (aC (aD ?_)))))
 refine bE rfl (fun h11 => ?_) (fun h11 => ?_)
 ·obtain ⟨x, hx⟩ := cL (xs := l) (k := i) hlen (by omega)
  have hxm := List.mem_of_getElem? hx
  have hP := hl.each x hxm
  have hxo := aZw hx
  refine aM (aC (aD (aT (aD (aA (wq (bV (i) aZy rfl rfl rfl ((hl.rd.memY hM2 hdl).below_len (aJ OpRow.cells hx)) ((hl.rd.memY hM2 hdl).someK (aJ OpRow.cells hx))) rfl (wq (eB _ mH (hl.rd.memY hM2 hdl) (aJ OpRow.cells hx) rfl) rfl (aS 13 (.agg (dV x.o x.A x.n x.c).toArray) rfl ?_))))))))
  refine aP aRb hM2 rfl rfl (fun b3 w3 M3 => ?_)
  have M4 : Mem _ _ ([_, _, _, _, _] ++ _) _ := Mem.front (L := [_, _, _, _]) M3
  refine bB 4 _ mH M4 rfl rfl rfl rfl rfl (aQ rfl) rfl (fun w5 M5 => (aB (aC (aA (eC rfl rfl (wq (aG (.pointer _) rfl) rfl (wq (bA 4 mH M5 rfl rfl rfl) rfl (bX aTq rfl rfl (aOa _ (F.memY M5 hdF) (N.memY M5 hdN) _ r' _ hr (M5.ownSeg 0 3) x.o x.A x.n x.c (hP.memY M5 (hdo x hxm)) (hby x hxm) (M5.away 0 3 hP.rd (hdo x hxm)) (M5.away 0 3 F hdF) (M5.away 0 3 N hdN)) ?_))))))))
  rintro v6 w6 ⟨r2, p2, rfl, hr2, hp2, hM6⟩
  have M6 : Mem _ _ ([_, _, _, _, _, _] ++ _) _ := Mem.front (L := [_, _, _, _, _]) (M5.seg 0 3 hM6)
  refine cV [.agg (List.toArray _)] [cX (gI (uE vs ((mU l).take i)) x.o).2 p2] rfl aHg M6 rfl rfl rfl rfl (dD rfl) (by decide) (fun b7 w7 M7 => ?_)
  have M8 : Mem _ _ ([_, _, _, _, _, _, _] ++ _) _ := Mem.front (L := [_, _, _, _, _, _]) M7
  refine dZ 3 [cX (gI (uE vs ((mU l).take i)) x.o).2 p2] aHg M8 rfl rfl rfl rfl rfl hq rfl (by simp [cX, Go.Bil.one]) (cZ.ofMem 6 M8 rfl) (by omega) (fun A9 c9 e9 w9 M9 hR9 => (fL rfl rfl (aB (dJ (aC (aA (wq (bQ rfl rfl (by omega) (by omega)) rfl ?_)))))))
  refine aY rfl rfl (aB ?_)
  refine cT (i + 1, r2, ⟨A9, q.n + 1, c9, e9⟩, rs ++ [p2]) (bM rfl (bM rfl fD)) (cW rfl (cW rfl (cW rfl (cW rfl kK)))) ?_ ?_
  ·exact ⟨⟨by omega, by rw [aPl hxo]; exact hr2, by rw [aBr hxo, aOm hoR.len]; exact hR9, by rw [aBr hxo]; exact hoR.add hp2⟩, Mem.pushNew (L := [_, _, _, _]) p2 (Mem.keepL (L := [_, _, _, _, _, _, _]) [true, true, true, true, false, true, false] M9)⟩
  ·(show n - (i + 1) < n - i; omega)
 ·have hin : i = n := by omega
  rw [hin, List.take_of_length_le (by rw [aFq]; omega)] at hr hq hoR
  refine cO (dC (dA (eV (aC (aD (aA (eC rfl rfl ?_)))))))
  refine fL rfl rfl (aB (aC (aN (cB (.slice _ _ _) rfl ?_))))
  exact ⟨r', q, rs, rfl, hr, hq, hoR, hM2⟩
set_option maxHeartbeats 4000000 in
theorem nU (w : World) (F : Rd w 2 (some ⟨0, 0, none⟩) 1 [[.int .u32 73856093, .int .u32 19349663]]) (N : Rd w 4 (some ⟨3, 0, none⟩) 1 [cU gP]) (A : Option Addr) (n c : Nat) (l : List OpRow) (hl : OpsRd w A n l) (hby : ∀ x ∈ l, x.n ≤ 1000000) (hn : n ≤ 1000000) :
  Calls Tryz.prog 18 #[.slice A n c] w (fun ex w' => ∃ v, ex = .returned v ∧ (fun v w' => ∃ (b : Nat) (r' : StV), v = .pointer (some ⟨b, 0, none⟩) ∧ cE 39 r' (uE [] (mU l)) ∧ Mem w [] [(some b, bc [.slice r'.A r'.n r'.c, .map r'.p] 107), r'.er, r'.em] w') v w') := by
 have hlen : l.length = n := by simpa using hl.rd.len
 have hbd := hl.rd.bound
 refine aH #[.tmp 2] 9 Tryz.func18 rfl Tryz.results18 Tryz.ntmps18 rfl ?_
 have M0 := Mem.refl w
 refine aD (aA (wq (aI (.pointer _) rfl) rfl (aB (aC (aD (aA (aP aXb M0 rfl rfl (fun b1 w1 M1 => ?_))))))))
 have M2 := (M1.dummy default).dummy default
 refine wq (aI (.pointer _) rfl) rfl (aB (aC (aD (aA (wq (aG (.pointer _) rfl) rfl (eC rfl rfl (bX bAr rfl rfl (zW _ (F.mem M2) (N.mem M2) _ ⟨none, 0, 0, none, (none, default), (none, default)⟩ _ (cE.new 39 default default) (M2.ownSeg 0 3) (M2.away 0 3 F (by simp)) (M2.away 0 3 N (by simp)) A n c l (hl.mem M2) hby hn (M2.away 0 3 hl.rd (by simp)) (fun x hx => M2.away 0 3 (hl.each x hx).rd (by simp))) ?_)))))))
 rintro v3 w3 ⟨r2, q, rs, rfl, hr2, hq, hoR, hM3⟩
 have M3 : Mem _ _ ([_, _, _, _] ++ _) _ := M2.seg 0 3 hM3
 refine aB (aC (aD (aA (wq (aG (.pointer _) rfl) rfl (wq (aI (.pointer _) rfl) rfl (aB (aC (aN (cB (.pointer _) rfl ?_)))))))))
 exact ⟨_, r2, rfl, hr2, M3.keep [true, true, true]⟩
set_option maxHeartbeats 4000000 in
theorem aPn (w : World) (A : Option Addr) (n c : Nat) (l : List OpRow) (hl : OpsRd w A n l) :
  Calls Tryz.prog 17 #[.slice A n c] w (fun ex w' => ∃ v, ex = .returned v ∧ (fun v w' => (∃ g : Bool, v = .bool g ∧ (g = true → n ≤ 40 ∧ ∀ x ∈ l, x.n ≤ 1000)) ∧ Below w.heap.size w w') v w') := by
 have hlen : l.length = n := by simpa using hl.rd.len
 have hbd := hl.rd.bound
 refine aH #[.tmp 2] 37 Tryz.func17 rfl Tryz.results17 Tryz.ntmps17 rfl ?_
 have M0 := Mem.refl w
 refine aD (aA (wq (aI (.bool false) rfl) rfl (aB (aC (aD (aA (bP rfl rfl (aB (aC (aD (aD (aA (bP rfl rfl ?_)))))))))))))
 refine aB (aC (aT (dP (σ := Nat × Nat) [0] (fun (i, s) => [(3, .int .i64 (s : Int)), (4, .int .i64 (i : Int))]) (fun (i, s) w' => (i ≤ n ∧ s ≤ i ∧ ∀ (j : Nat) (x : OpRow), j < i → l[j]? = some x → x.n ≤ 1000) ∧ Mem w [] [] w') (fun (i, s) => n - i) (0, 0) (bM rfl (bM rfl fD)) (⟨⟨by omega, by omega, fun j x hj => by omega⟩, M0⟩) ?_)))
 rintro ⟨i, s⟩ ρ1 w1 ⟨⟨hi, hs, hal⟩, hM1⟩
 refine aD (aD (aA (aY rfl rfl (eC rfl rfl (wq (cR Tryz.underlying22 rfl) rfl (cY rfl rfl rfl rfl (wq (aG (.bool (decide _)) rfl) rfl ?_)))))))
 refine dK 9 rfl (fun g9 => ?_) (fun g9 => ?_)
 ·refine aY rfl rfl (cY rfl rfl rfl rfl (wq (bW true (.bool (decide _)) rfl rfl) rfl (aB (aC ?_))))
  refine bE rfl (fun h12 => ?_) (fun h12 => ?_)
  ·obtain ⟨x, hx⟩ := cL (xs := l) (k := i) hlen (by omega)
   refine aM (aC (aD (aT (aD (aD (aA (eC rfl rfl (aY rfl rfl (wq (bV (i) aYi rfl rfl rfl ((hl.rd.mem hM1).below_len (aJ OpRow.cells hx)) ((hl.rd.mem hM1).someK (aJ OpRow.cells hx))) rfl (wq (bN 14 aLm (hl.rd.mem hM1) (Nat.lt_of_le_of_lt (Nat.zero_le _) ((hl.rd.mem hM1).below_len (aJ OpRow.cells hx))) rfl) rfl ?_))))))))))
   refine wq (eI (o := 14) (.slice _ _ _) yM (hl.rd.mem hM1) (aJ OpRow.cells hx) rfl rfl) rfl (wq (cR Tryz.underlying31 rfl) rfl (cY rfl rfl rfl rfl (aB (aC ?_))))
   refine bE rfl (fun h21 => ?_) (fun h21 => ?_)
   ·refine aD (aA (wq (aI (.bool false) rfl) rfl (aB (aC (aN (cJ (jN (cJ (uK ?_)))))))))
    refine jN (cJ (cB (.bool false) rfl ?_))
    exact ⟨⟨false, rfl, fun h => by cases h⟩, hM1.below⟩
   ·refine aM (aC (aD (aA (eC rfl rfl (aY rfl rfl (wq (bV (i) aYi rfl rfl rfl ((hl.rd.mem hM1).below_len (aJ OpRow.cells hx)) ((hl.rd.mem hM1).someK (aJ OpRow.cells hx))) rfl (wq (bN 0 wM (hl.rd.mem hM1) (Nat.lt_of_le_of_lt (Nat.zero_le _) ((hl.rd.mem hM1).below_len (aJ OpRow.cells hx))) rfl) rfl ?_)))))))
    refine wq (eI (o := 0) (.int _ _) iM (hl.rd.mem hM1) (aJ OpRow.cells hx) rfl rfl) rfl (cY rfl rfl rfl rfl (aB (aC ?_)))
    refine bE rfl (fun h27 => ?_) (fun h27 => ?_)
    ·refine aA (aY rfl rfl (wq (bQ rfl rfl (by omega) (by omega)) rfl (bP rfl rfl (aB (dJ ?_)))))
     refine aC (aA (aY rfl rfl (wq (bQ rfl rfl (by omega) (by omega)) rfl (bP rfl rfl (aB ?_)))))
     refine cT (i + 1, s + 1) (bM rfl (bM rfl fD)) (cW rfl kK) ?_ ?_
     ·exact ⟨⟨by omega, by omega, qO (p := fun _ x => x.n ≤ 1000) hal hx (by omega)⟩, hM1⟩
     ·(show n - (i + 1) < n - i; omega)
    ·refine aM (dJ (aC (aA (aY rfl rfl (wq (bQ rfl rfl (by omega) (by omega)) rfl (bP rfl rfl ?_))))))
     refine aB ?_
     refine cT (i + 1, s) (bM rfl (bM rfl fD)) (cW rfl kK) ?_ ?_
     ·exact ⟨⟨by omega, by omega, qO (p := fun _ x => x.n ≤ 1000) hal hx (by omega)⟩, hM1⟩
     ·(show n - (i + 1) < n - i; omega)
  ·refine cO (dC (dA (eV (aC (aD (aA (eC rfl rfl ?_)))))))
   refine wq (cR Tryz.underlying22 rfl) rfl (cY rfl rfl rfl rfl (wq (aG (.bool (decide _)) rfl) rfl ?_))
   refine dK 33 rfl (fun g33 => ?_) (fun g33 => ?_)
   ·refine aY rfl rfl (cY rfl rfl rfl rfl (wq (bW true (.bool (decide _)) rfl rfl) rfl (wq (aI (.bool (decide _)) rfl) rfl (aB (aC (aN (cB (.bool (decide _)) rfl ?_)))))))
    refine ⟨⟨_, rfl, fun hg => ?_⟩, hM1.below⟩
    first | (cases hg; done) | exact ⟨(by omega), fun x hx => (by obtain ⟨j, hj⟩ := List.getElem?_of_mem hx; exact hal j x (by have := (List.getElem?_eq_some_iff.1 hj).1; omega) hj)⟩
   ·refine aR rfl rfl (aR rfl rfl (wq (bW false (.bool false) rfl rfl) rfl (wq (aI (.bool false) rfl) rfl (aB (aC (aN (cB (.bool false) rfl ?_)))))))
    refine ⟨⟨_, rfl, fun hg => ?_⟩, hM1.below⟩
    first | (cases hg; done) | exact ⟨(by omega), fun x hx => (by obtain ⟨j, hj⟩ := List.getElem?_of_mem hx; exact hal j x (by have := (List.getElem?_eq_some_iff.1 hj).1; omega) hj)⟩
 ·refine aR rfl rfl (aR rfl rfl (wq (bW false (.bool false) rfl rfl) rfl (aB (aC (cC rfl (cO ?_))))))
  refine dC (dA (eV (aC (aD (aA (eC rfl rfl (wq (cR Tryz.underlying22 rfl) rfl ?_)))))))
  refine cY rfl rfl rfl rfl (wq (aG (.bool (decide _)) rfl) rfl ?_)
  refine dK 33 rfl (fun g33 => ?_) (fun g33 => ?_)
  ·refine aY rfl rfl (cY rfl rfl rfl rfl (wq (bW true (.bool (decide _)) rfl rfl) rfl (wq (aI (.bool (decide _)) rfl) rfl (aB (aC (aN (cB (.bool (decide _)) rfl ?_)))))))
   refine ⟨⟨_, rfl, fun hg => ?_⟩, hM1.below⟩
   first | (cases hg; done) | exact ⟨(by omega), fun x hx => (by obtain ⟨j, hj⟩ := List.getElem?_of_mem hx; exact hal j x (by have := (List.getElem?_eq_some_iff.1 hj).1; omega) hj)⟩
  ·refine aR rfl rfl (aR rfl rfl (wq (bW false (.bool false) rfl rfl) rfl (wq (aI (.bool false) rfl) rfl (aB (aC (aN (cB (.bool false) rfl ?_)))))))
   refine ⟨⟨_, rfl, fun hg => ?_⟩, hM1.below⟩
   first | (cases hg; done) | exact ⟨(by omega), fun x hx => (by obtain ⟨j, hj⟩ := List.getElem?_of_mem hx; exact hal j x (by have := (List.getElem?_eq_some_iff.1 hj).1; omega) hj)⟩
set_option maxHeartbeats 8000000 in
theorem aIi (w : World) (z : ResI) (r r' : Row) (RB : Rd w 1 r.A r.n (z.bytes.map bK)) (RB' : Rd w 1 r'.A r'.n (z.bytes.map bK)) :
  Calls Tryz.prog 57 #[.agg (cX z r).toArray, .agg (cX z r').toArray] w (fun ex w' => ∃ v, ex = .returned v ∧ (fun v w' => v = .bool true ∧ Below w.heap.size w w') v w') := by
 refine aH #[.tmp 4] 31 Tryz.func57 rfl Tryz.results57 Tryz.ntmps57 rfl ?_
 have M0 := Mem.refl w
 refine aD (aA (bC (.agg (List.toArray _)) M0 rfl rfl rfl (fun b1 w1 M1 => (bC (.agg (List.toArray _)) M1 rfl rfl rfl (fun b2 w2 M2 => (wq (aI (.bool false) rfl) rfl (aB (aC (aD (aA (wq (aE 0 aMi rfl) rfl ?_)))))))))))
 refine wq (aK 0 (.int _ _) iM M2 rfl rfl rfl) rfl (wq (aE 0 aMi rfl) rfl (wq (aK 1 (.int _ _) iM M2 rfl rfl rfl) rfl (cY rfl rfl rfl rfl (oG 9 rfl rfl (wq (aG (.bool true) rfl) rfl ?_)))))
 refine wq (aE 1 aNi rfl) rfl (wq (aK 0 (.slice _ _ _) yM M2 rfl rfl rfl) rfl (wq (aE 1 aNi rfl) rfl (wq (aK 1 (.slice _ _ _) yM M2 rfl rfl rfl) rfl (bX bGo rfl rfl (aIj _ _ _ _ z.bytes (RB.mem M2) _ _ _ z.bytes (RB'.mem M2)) ?_))))
 rintro v3 w3 ⟨rfl, hb3⟩
 have M3 := M2.callB hb3
 refine oG 15 rfl rfl (wq (bW true (.bool true) rfl rfl) rfl (wq (aG (.bool true) rfl) rfl (wq (aE 2 aNe rfl) rfl (wq (aK 0 (.int _ _) iM M3 rfl rfl rfl) rfl (wq (aE 2 aNe rfl) rfl ?_)))))
 refine wq (aK 1 (.int _ _) iM M3 rfl rfl rfl) rfl (cY rfl rfl rfl rfl (oG 22 rfl rfl (wq (bW true (.bool true) rfl rfl) rfl (wq (aG (.bool true) rfl) rfl (wq (aE 3 aMe rfl) rfl ?_)))))
 refine wq (aK 0 (.bool _) mW M3 rfl rfl rfl) rfl (wq (aE 3 aMe rfl) rfl (wq (aK 1 (.bool _) mW M3 rfl rfl rfl) rfl (wq (tU _ Tryz.underlying4 rfl rfl rfl) rfl (aS 29 (.bool true) (bv rfl (by simp)) (wq (bW true (.bool true) rfl rfl) rfl ?_)))))
 refine wq (aI (.bool true) rfl) rfl (aB (aC (aN (cB (.bool true) rfl ?_))))
 exact ⟨rfl, M3.below⟩
set_option maxHeartbeats 8000000 in
theorem rP (w : World) (z : ResI) (r r' : Row) (RB : Rd w 1 r.A r.n (z.bytes.map bK)) (RB' : Rd w 1 r'.A r'.n (z.bytes.map bK)) :
  Calls Tryz.prog 36 #[.agg (cX z r).toArray, .agg (cX z r').toArray] w (fun ex w' => ∃ v, ex = .returned v ∧ (fun v w' => v = .bool true ∧ Below w.heap.size w w') v w') := by
 refine aH #[.tmp 4] 16 Tryz.func36 rfl Tryz.results36 Tryz.ntmps36 rfl ?_
 have M0 := Mem.refl w
 refine aD (aA (bC (.agg (List.toArray _)) M0 rfl rfl rfl (fun b1 w1 M1 => (bC (.agg (List.toArray _)) M1 rfl rfl rfl (fun b2 w2 M2 => (wq (aI (.bool false) rfl) rfl (aB (aC (aD (aA (wq (aE 0 rV rfl) rfl ?_)))))))))))
 refine wq (aK 0 (.int _ _) oY M2 rfl rfl rfl) rfl (wq (aE 1 aNd rfl) rfl (wq (aK 0 (.slice _ _ _) yM M2 rfl rfl rfl) rfl (wq (aE 2 aZf rfl) rfl (wq (aK 0 (.int _ _) iM M2 rfl rfl rfl) rfl (wq (aE 3 aWu rfl) rfl ?_)))))
 refine wq (aK 0 (.bool _) mW M2 rfl rfl rfl) rfl (wq (cD [(0, .int _ _), (1, .slice _ _ _), (2, .int _ _), (3, .bool _)] _ sX rfl rfl) rfl (aS 13 (.agg (cX z r).toArray) rfl (wq (bA 1 bGr M2 rfl rfl rfl) rfl (bX bGw rfl rfl (aIi _ z r r' (RB.mem M2) (RB'.mem M2)) ?_))))
 rintro v3 w3 ⟨rfl, hb3⟩
 have M3 := M2.callB hb3
 refine wq (aI (.bool true) rfl) rfl (aB (aC (aN (cB (.bool true) rfl ?_))))
 exact ⟨rfl, M3.below⟩
set_option maxHeartbeats 4000000 in
theorem mK (w : World) (o : OpI) (BA : Option Addr) (nn cc : Nat) :
  Calls Tryz.prog 39 #[.agg (dV o BA nn cc).toArray] w (fun ex w' => ∃ v, ex = .returned v ∧ (fun v w' => v = .agg (dV o BA nn cc).toArray ∧ Below w.heap.size w w') v w') := by
 refine aH #[.cell 2 41] 14 Tryz.func39 rfl Tryz.results39 Tryz.ntmps39 rfl ?_
 have M0 := Mem.refl w
 refine aD (aA (bC (.agg (List.toArray _)) M0 rfl rfl rfl (fun b1 w1 M1 => (aP aRb M1 rfl rfl (fun b2 w2 M2 => (aB (aC (aD (aA (wq (aE 0 wM rfl) rfl (wq (aK 0 (.int _ _) iM M2 rfl rfl rfl) rfl ?_)))))))))))
 refine wq (aE 1 aYl rfl) rfl (wq (pV 0 _ bR M2 rfl rfl rfl rfl) rfl (wq (aE 11 aYc rfl) rfl (wq (aK 0 (.int _ _) bY M2 rfl rfl rfl) rfl (wq (aE 12 aZv rfl) rfl (wq (pV 0 _ bJ M2 rfl rfl rfl rfl) rfl ?_)))))
 refine wq (aE 14 aLm rfl) rfl (wq (aK 0 (.slice _ _ _) yM M2 rfl rfl rfl) rfl (wq (cD [(0, .int _ _), (1, .agg (List.toArray _)), (2, .int _ _), (3, .agg (List.toArray _)), (4, .slice _ _ _)] _ nM rfl rfl) rfl (bB 1 _ mH M2 rfl rfl rfl rfl rfl (aQ rfl) rfl (fun w3 M3 => ?_))))
 refine aB (aC (aN (eP 1 mH M3 rfl rfl rfl ?_)))
 exact ⟨rfl, M3.below⟩
set_option maxHeartbeats 16000000 in
theorem aBo (w : World) (A : Option Addr) (n c : Nat) (l : List OpRow) (hl : OpsRd w A n l) (hn : n ≤ 1000000) :
  Calls Tryz.prog 34 #[.slice A n c] w (fun ex w' => ∃ v, ex = .returned v ∧ (fun v w' => ∃ q : Row, v = .slice q.A q.n q.c ∧ aU 41 15 q.A q.n q.c (l.map OpRow.cells) q.e ∧ Mem w [] [q.e] w') v w') := by
 have hlen : l.length = n := by simpa using hl.rd.len
 have hbd := hl.rd.bound
 refine aH #[.tmp 2] 20 Tryz.func34 rfl Tryz.results34 Tryz.ntmps34 rfl ?_
 have M0 := Mem.refl w
 refine aD (aA (fL rfl rfl (aB (aC (aD (aA (fL rfl rfl ?_)))))))
 have M1 := M0.dummy default
 refine aB (aC (aD (aD (aA (bP rfl rfl (aB (aC (aT (dP (σ := Nat × Row) [0, 2] (fun (i, q) => [(3, .slice q.A q.n q.c), (4, .int .i64 (i : Int))]) (fun (i, q) w' => (i ≤ n ∧ aU 41 15 q.A q.n q.c ((l.take i).map OpRow.cells) q.e) ∧ Mem w [] [q.e] w') (fun (i, q) => n - i) (0, fP) (bM rfl (bM rfl fD)) (⟨⟨by omega, aU.nil _ _ _⟩, M1⟩) ?_)))))))))
 rintro ⟨i, q⟩ ρ2 w2 ⟨⟨hi, hq⟩, hM2⟩
 have hqn : ((l.take i).map OpRow.cells).length = q.n := hq.1
 rw [List.length_map, List.length_take] at hqn
 refine aD (aD (aA (aY rfl rfl (eC rfl rfl (wq (cR Tryz.underlying22 rfl) rfl (cY rfl rfl rfl rfl (aB (aC ?_))))))))
 refine bE rfl (fun h8 => ?_) (fun h8 => ?_)
 ·obtain ⟨x, hx⟩ := cL (xs := l) (k := i) hlen (by omega)
  refine aM (aC (aD (aT (aA (eC rfl rfl (eC rfl rfl (aY rfl rfl (wq (bV (i) aYi rfl rfl rfl ((hl.rd.mem hM2).below_len (aJ OpRow.cells hx)) ((hl.rd.mem hM2).someK (aJ OpRow.cells hx))) rfl (wq (eB _ aVi (hl.rd.mem hM2) (aJ OpRow.cells hx) rfl) rfl ?_)))))))))
  refine aS 15 (.agg (dV x.o x.A x.n x.c).toArray) rfl (bX aUt rfl rfl (mK _ x.o x.A x.n x.c) ?_)
  rintro v3 w3 ⟨rfl, hb3⟩
  have M3 := hM2.callB hb3
  refine cV [.agg (List.toArray _)] [x.cells] rfl aZy M3 rfl rfl rfl rfl (dD rfl) (by decide) (fun b4 w4 M4 => (dZ 0 [x.cells] aZy M4 rfl rfl rfl rfl rfl hq rfl (by simp [OpRow.cells, dV, aF, Go.Bil.one]) (cZ.ofMem 1 M4 rfl) (by omega) (fun A5 c5 e5 w5 M5 hR5 => (fL rfl rfl ?_))))
  refine aB (dJ (aC (aA (aY rfl rfl (wq (bQ rfl rfl (by omega) (by omega)) rfl (bP rfl rfl ?_))))))
  refine aB ?_
  refine cT (i + 1, ⟨A5, q.n + 1, c5, e5⟩) (bM rfl (bM rfl fD)) (cW rfl (cW rfl kK)) ?_ ?_
  ·exact ⟨⟨by omega, by rw [cP hx, List.map_append]; exact hR5⟩, M5.keep [true]⟩
  ·(show n - (i + 1) < n - i; omega)
 ·have hin : i = n := by omega
  rw [hin, List.take_of_length_le (by omega)] at hq
  refine cO (dC (dA (eV (aC (aD (aA (eC rfl rfl ?_)))))))
  refine fL rfl rfl (aB (aC (aN (cB (.slice _ _ _) rfl ?_))))
  exact ⟨q, rfl, hq, hM2⟩
set_option maxHeartbeats 100000000 in
theorem bEa (w : World) (F : Rd w 2 (some ⟨0, 0, none⟩) 1 [[.int .u32 73856093, .int .u32 19349663]]) (N : Rd w 4 (some ⟨3, 0, none⟩) 1 [cU gP]) :
  Calls Tryz.prog 32 #[] w (fun ex w' => ∃ v, ex = .returned v ∧ (fun v w' => v = .bool true ∧ Below w.heap.size w w') v w') := by
 refine aH #[.tmp 0] 54 Tryz.func32 rfl Tryz.results32 Tryz.ntmps32 rfl ?_
 have M0 := Mem.refl w
 refine aD (aA (wq (aI (.bool false) rfl) rfl (aB (aC (aD (aA (bX aSu rfl rfl (nU _ (F.mem M0) (N.mem M0) none 0 0 [] (OpsRd.none _) (by simp) (by decide)) ?_)))))))
 rintro v1 w1 ⟨wb, r0, rfl, hr0, hM1⟩
 have M1 : Mem _ _ [_, _, _] _ := M0.call0 hM1
 have hr0 : cE 39 r0 [] := hr0
 refine wq (cD [(0, .int _ _)] _ nM rfl rfl) rfl (wq (cD [(0, .int _ _)] _ nM rfl rfl) rfl (wq (cD [(0, .int _ _)] _ nM rfl rfl) rfl (wq (cD [(0, .int _ _)] _ nM rfl rfl) rfl (wq (cD [(0, .int _ _)] _ nM rfl rfl) rfl (cV [.agg (List.toArray _), .agg (List.toArray _), .agg (List.toArray _), .agg (List.toArray _), .agg (List.toArray _)] (rX.map OpRow.cells) rfl aZy M1 rfl rfl rfl rfl (dD rfl) (by decide) (fun b2 w2 M2 => ?_))))))
 have hlit8 := jZ (T := 41) (sz := 15) (b := b2) (nn := 5) (rX.map OpRow.cells) (bAi _) rfl (by decide)
 refine bX bAr rfl rfl (zW _ (F.mem M2) (N.mem M2) _ r0 _ hr0 (M2.ownSeg 0 3) (M2.away 0 3 F (by simp)) (M2.away 0 3 N (by simp)) _ 5 5 rX ⟨(hlit8.rd M2 (aV (i := 3) rfl)), aPt _⟩ (fun x hx => by rw [aTb x hx]; decide) (by decide) (hlit8.awayS M2 0 3 3 rfl rfl) (bGm aTb)) ?_
 rintro v3 w3 ⟨r2, q, rs, rfl, hr2, hq, hoR, hM3⟩
 have M3 : Mem _ _ ([_, _, _, _, _] ++ _) _ := M2.seg 0 3 hM3
 have hqn : (pJ (mL [] (mU rX)) rs).length = q.n := hq.1
 rw [aHx hoR.len, vT] at hqn
 have hq5 : 5 = q.n := hqn
 obtain ⟨p0, hp0, hs0⟩ := tK (j := 0) (zs := mL [] (mU rX)) hoR.len (by rw [vT]; rfl)
 obtain ⟨p1, hp1, hs1⟩ := tK (j := 1) (zs := mL [] (mU rX)) hoR.len (by rw [vT]; rfl)
 obtain ⟨p2, hp2, hs2⟩ := tK (j := 2) (zs := mL [] (mU rX)) hoR.len (by rw [vT]; rfl)
 obtain ⟨p3, hp3, hs3⟩ := tK (j := 3) (zs := mL [] (mU rX)) hoR.len (by rw [vT]; rfl)
 obtain ⟨p4, hp4, hs4⟩ := tK (j := 4) (zs := mL [] (mU rX)) hoR.len (by rw [vT]; rfl)
 have hb1 := hoR.row 1 p1 { gB with bytes := vZ [] } hp1 (by rw [vT]; rfl)
 have hb8 : 8 = p1.n := by have h := hb1.1; rwa [List.length_map, aTt] at h
 refine fL rfl rfl (aB (aC (aD (aD (aA (eC rfl rfl (wq (cR Tryz.underlying63 rfl) rfl (cY rfl rfl rfl rfl (tW 12 rfl (by omega) ?_)))))))))
 refine aB (aC (cC rfl (aM (aC (aD (aA (eC rfl rfl (wq (bV (0) aHg rfl rfl rfl ((hq.rd M3 (aV (i := 4) rfl)).below_len (hs0)) ((hq.rd M3 (aV (i := 4) rfl)).someK (hs0))) rfl (wq (bN 0 rV (hq.rd M3 (aV (i := 4) rfl)) (Nat.lt_of_le_of_lt (Nat.zero_le _) ((hq.rd M3 (aV (i := 4) rfl)).below_len (hs0))) rfl) rfl ?_)))))))))
 refine wq (eI (o := 0) (.int _ _) oY (hq.rd M3 (aV (i := 4) rfl)) (hs0) rfl rfl) rfl (cY rfl rfl rfl rfl (oG 17 rfl rfl (wq (aG (.bool true) rfl) rfl (eC rfl rfl (wq (bV (1) aHg rfl rfl rfl ((hq.rd M3 (aV (i := 4) rfl)).below_len (hs1)) ((hq.rd M3 (aV (i := 4) rfl)).someK (hs1))) rfl ?_)))))
 refine wq (bN 0 rV (hq.rd M3 (aV (i := 4) rfl)) (Nat.lt_of_le_of_lt (Nat.zero_le _) ((hq.rd M3 (aV (i := 4) rfl)).below_len (hs1))) rfl) rfl (wq (eI (o := 0) (.int _ _) oY (hq.rd M3 (aV (i := 4) rfl)) (hs1) rfl rfl) rfl (cY rfl rfl rfl rfl (oG 23 rfl rfl (wq (bW true (.bool true) rfl rfl) rfl ?_))))
 refine wq (aG (.bool true) rfl) rfl (eC rfl rfl (wq (bV (1) aHg rfl rfl rfl ((hq.rd M3 (aV (i := 4) rfl)).below_len (hs1)) ((hq.rd M3 (aV (i := 4) rfl)).someK (hs1))) rfl (wq (bN 1 aNd (hq.rd M3 (aV (i := 4) rfl)) (Nat.lt_of_le_of_lt (Nat.zero_le _) ((hq.rd M3 (aV (i := 4) rfl)).below_len (hs1))) rfl) rfl ?_)))
 refine wq (eI (o := 1) (.slice _ _ _) yM (hq.rd M3 (aV (i := 4) rfl)) (hs1) rfl rfl) rfl (wq (cR Tryz.underlying31 rfl) rfl (cY rfl rfl rfl rfl (oG 31 rfl (by omega) (wq (bW true (.bool true) rfl rfl) rfl (wq (aG (.bool true) rfl) rfl ?_)))))
 refine eC rfl rfl (wq (bV (2) aHg rfl rfl rfl ((hq.rd M3 (aV (i := 4) rfl)).below_len (hs2)) ((hq.rd M3 (aV (i := 4) rfl)).someK (hs2))) rfl (wq (bN 0 rV (hq.rd M3 (aV (i := 4) rfl)) (Nat.lt_of_le_of_lt (Nat.zero_le _) ((hq.rd M3 (aV (i := 4) rfl)).below_len (hs2))) rfl) rfl ?_))
 refine wq (eI (o := 0) (.int _ _) oY (hq.rd M3 (aV (i := 4) rfl)) (hs2) rfl rfl) rfl (cY rfl rfl rfl rfl (oG 38 rfl rfl (wq (bW true (.bool true) rfl rfl) rfl (wq (aG (.bool true) rfl) rfl (eC rfl rfl ?_)))))
 refine wq (bV (3) aHg rfl rfl rfl ((hq.rd M3 (aV (i := 4) rfl)).below_len (hs3)) ((hq.rd M3 (aV (i := 4) rfl)).someK (hs3))) rfl (wq (bN 0 rV (hq.rd M3 (aV (i := 4) rfl)) (Nat.lt_of_le_of_lt (Nat.zero_le _) ((hq.rd M3 (aV (i := 4) rfl)).below_len (hs3))) rfl) rfl (wq (eI (o := 0) (.int _ _) oY (hq.rd M3 (aV (i := 4) rfl)) (hs3) rfl rfl) rfl ?_))
 refine cY rfl rfl rfl rfl (oG 45 rfl rfl (wq (bW true (.bool true) rfl rfl) rfl (wq (aG (.bool true) rfl) rfl (eC rfl rfl (wq (bV (4) aHg rfl rfl rfl ((hq.rd M3 (aV (i := 4) rfl)).below_len (hs4)) ((hq.rd M3 (aV (i := 4) rfl)).someK (hs4))) rfl ?_)))))
 refine wq (eB _ fU (hq.rd M3 (aV (i := 4) rfl)) (hs4) rfl) rfl (aS 50 (.agg (cX gB p4).toArray) rfl (wq (cD [] _ sX rfl rfl) rfl (bX aRt rfl rfl (rP _ gB p4 fP (hoR.rd M3 (bJc bJa) hp4 (by rw [vT]; rfl)) (Rd.nil _ _ _)) ?_)))
 rintro v4 w4 ⟨rfl, hb4⟩
 have M4 := M3.callB hb4
 refine wq (bW true (.bool true) rfl rfl) rfl (wq (aI (.bool true) rfl) rfl (aB (aC (aN (cB (.bool true) rfl ?_)))))
 exact ⟨rfl, M4.below⟩
theorem bAn : ∃ fs, OpT Tryz.prog 4 46 3 39 35 37 31 5 1 fs := ⟨_, Tryz.underlying46, by kernel_rfl, by kernel_rfl, by kernel_rfl, by kernel_rfl, by kernel_rfl, by kernel_rfl, by kernel_rfl, by kernel_rfl, by kernel_rfl, by kernel_rfl, by kernel_rfl, by kernel_rfl, lW⟩
end Go.Proofs.YtaoaknafiegfoaaGreatDoor
