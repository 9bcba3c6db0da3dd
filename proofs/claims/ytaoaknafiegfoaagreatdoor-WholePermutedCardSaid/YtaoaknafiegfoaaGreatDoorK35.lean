/- Part of the proof of the laws of this seat: P22, W22a, W22b, W22c, R22a, D22, K23, S23, E23, R23, R23b, Aw23, Op23, Tp24. No conditions. -/
import Derived.Test.YtaoaknafiegfoaaGreatDoorK2
import Derived.Test.YtaoaknafiegfoaaGreatDoorK5
import Derived.Test.YtaoaknafiegfoaaGreatDoorK31
import Derived.Test.YtaoaknafiegfoaaGreatDoorK28
import Derived.Test.YtaoaknafiegfoaaGreatDoorK34
import Derived.Test.YtaoaknafiegfoaaGreatDoorK32
import Derived.Test.YtaoaknafiegfoaaGreatDoorK23
import Derived.Test.YtaoaknafiegfoaaGreatDoorK33
import Derived.Test.YtaoaknafiegfoaaGreatDoorK18
import Derived.Test.YtaoaknafiegfoaaGreatDoorK3
import Derived.Test.YtaoaknafiegfoaaGreatDoorK26
set_option linter.unusedVariables false
set_option linter.unusedSimpArgs false
set_option linter.unnecessarySimpa false
namespace Go.Proofs.YtaoaknafiegfoaaGreatDoor
open Go.Bil
open Go.RowKit (Below)
open Go.Proofs
set_option maxHeartbeats 8000000 in
theorem aTn (w : World) (b : Body) (hb : Okb b) (j : Int × Int) (hj1 : -2147483648 ≤ j.1 ∧ j.1 ≤ 2147483647) (hj2 : -2147483648 ≤ j.2 ∧ j.2 ≤ 2147483647) :
  Calls Tryz.prog 124 #[(.agg (aF b).toArray), .agg [.int .i32 j.1, .int .i32 j.2].toArray] w (fun ex w' => ∃ v, ex = .returned v ∧ (fun v w' => (∃ g : Bool, v = .tuple #[(.agg (aF (oD b j)).toArray), .bool g]) ∧ Below w.heap.size w w') v w') := by
 have hv := hb.v
 have hm := hb.m
 have hp1 := bIn hj1 hm
 have hp2 := bIn hj2 hm
 refine aH #[.cell 4 39, .tmp 5] 45 Tryz.func124 rfl Tryz.results124 Tryz.ntmps124 rfl ?_
 have M0 := Mem.refl w
 refine aD (aA (bG (.agg (List.toArray _)) M0 rfl rfl rfl (fun b1 w1 M1 => (bG (.agg (List.toArray _)) M1 rfl rfl rfl (fun b2 w2 M2 => (aQ gS M2 rfl rfl (fun b3 w3 M3 => (wq (aI (.bool false) rfl) rfl (aB (aC (aD (aA ?_))))))))))))
 refine aQ aMx M3 rfl rfl (fun b4 w4 M4 => (dX 3 (.bool false) nV M4 rfl rfl rfl rfl rfl rfl (fun w5 M5 => (aB (aC (aD (aA (wq (aE 8 fA rfl) rfl (wq (aE 0 dR rfl) rfl (wq (aL 0 (.int _ _) aU M5 rfl rfl rfl) rfl ?_))))))))))
 refine wq (bZ fW Tryz.underlying2 rfl (kQ _ (by omega) (by omega))) rfl (wq (aE 0 dR rfl) rfl (wq (aL 1 (.int _ _) aU M5 rfl rfl rfl) rfl (wq (bZ fW Tryz.underlying2 rfl (kQ _ (by omega) (by omega))) rfl (wq (aE 4 fB rfl) rfl (wq (aL 0 (.int _ _) aU M5 rfl rfl rfl) rfl ?_)))))
 refine wq (bZ fW Tryz.underlying2 rfl (kQ _ (by omega) (by omega))) rfl (wq (gE rfl rfl (by omega) (by omega)) rfl (wq (gM rfl rfl (by decide)) rfl (aT 20 (.int .i64 (j.1 * b.mass / 65536)) (iE (mU _)) (wq (bU rfl rfl (by omega) (by omega)) rfl (bP rfl rfl ?_)))))
 refine aB (aC (aD (aA (wq (aE 8 fA rfl) rfl (wq (aE 1 dJ rfl) rfl (wq (aL 0 (.int _ _) aU M5 rfl rfl rfl) rfl (wq (bZ fW Tryz.underlying2 rfl (kQ _ (by omega) (by omega))) rfl (wq (aE 1 dJ rfl) rfl ?_))))))))
 refine wq (aL 1 (.int _ _) aU M5 rfl rfl rfl) rfl (wq (bZ fW Tryz.underlying2 rfl (kQ _ (by omega) (by omega))) rfl (wq (aE 4 fB rfl) rfl (wq (aL 0 (.int _ _) aU M5 rfl rfl rfl) rfl (wq (bZ fW Tryz.underlying2 rfl (kQ _ (by omega) (by omega))) rfl (wq (gE rfl rfl (by omega) (by omega)) rfl ?_)))))
 refine wq (gM rfl rfl (by decide)) rfl (aT 33 (.int .i64 (j.2 * b.mass / 65536)) (iE (mU _)) (wq (bU rfl rfl (by omega) (by omega)) rfl (bP rfl rfl (aB (aC (aD (aA (aY rfl rfl ?_))))))))
 refine dB [.pointer _] [[.pointer (some ⟨b4, 0, none⟩)]] rfl aBz M5 rfl rfl rfl rfl (dI rfl) (by decide) (fun b6 w6 M6 => ?_)
 have hlit36 := kA (T := 174) (sz := 1) (b := b6) (nn := 1) [[.pointer (some ⟨b4, 0, none⟩)]] (by simp) rfl (by decide)
 refine bX aAf rfl rfl (kN _ (b.vx + j.1 * b.mass / 65536) 16777216 ⟨by decide, by decide⟩ b4 _ _ 1 (hlit36.rd M6 (aX (i := 4) rfl)) (hlit36.awayB M6 4 3 rfl rfl rfl) (M6.ownSeg 3 1)) ?_
 rintro v7 w7 ⟨rfl, hM7⟩
 have M7 : Mem _ _ [_, _, _, _, _] _ := M6.seg 3 1 hM7
 refine aY rfl rfl (dB [.pointer _] [[.pointer (some ⟨b4, 0, none⟩)]] rfl aBz M7 rfl rfl rfl rfl (dI rfl) (by decide) (fun b8 w8 M8 => ?_))
 have hlit39 := kA (T := 174) (sz := 1) (b := b8) (nn := 1) [[.pointer (some ⟨b4, 0, none⟩)]] (by simp) rfl (by decide)
 refine bX aAf rfl rfl (kN _ (b.vy + j.2 * b.mass / 65536) 16777216 ⟨by decide, by decide⟩ b4 _ _ 1 (hlit39.rd M8 (aX (i := 5) rfl)) (hlit39.awayB M8 5 3 rfl rfl rfl) (M8.ownSeg 3 1)) ?_
 rintro v9 w9 ⟨rfl, hM9⟩
 have M9 : Mem _ _ [_, _, _, _, _, _] _ := M8.seg 3 1 hM9
 refine wq (cH [(0, .int _ _), (1, .int _ _)] _ fE rfl rfl) rfl (wq (aE 8 fA rfl) rfl (aDw 0 _ bM M9 rfl rfl rfl rfl rfl (aR rfl) (Nat.le_of_ble_eq_true rfl) (fun w10 M10 => (aB (aC (aD (bO [(0, 1), (1, 1), (2, 2), (3, 0)] mixed rfl (by kernel_rfl) (fun w11 hb11 hh11 => ?_))))))))
 have M11 := M10.drew hb11 hh11
 refine bV rfl rfl rfl (bC 0 bS M11 rfl rfl rfl) (bV rfl rfl rfl (aL 3 (.bool _) nV M11 rfl rfl rfl) (dG [false, true] rfl (by kernel_rfl) (bB 2 _ bS M11 rfl rfl rfl rfl rfl (aR rfl) rfl (fun w12 M12 => ?_))))
 refine aB (aC ⟨(eF (bK rfl (aL 3 (.bool _) nV M12 rfl rfl rfl)) dH), ?_⟩)
 refine aV rfl rfl rfl (fun _ => aI (.bool _) rfl) (cD (aC (aM (aCl (v2 := .bool _) 2 bS M12 rfl rfl rfl rfl ?_))))
 exact ⟨⟨_, rfl⟩, M12.below⟩
set_option maxHeartbeats 4000000 in
theorem yW (w : World) (b : Nat) :
  Calls Tryz.prog 60 #[.pointer (some ⟨b, 0, none⟩)] w (fun ex w' => ∃ v, ex = .returned v ∧ (fun v w' => v = .pointer (some ⟨b, 0, none⟩) ∧ Below w.heap.size w w') v w') := by
 refine aH #[.tmp 2] 8 Tryz.func60 rfl Tryz.results60 Tryz.ntmps60 rfl ?_
 have M0 := Mem.refl w
 refine aD (aA (wq (aI (.pointer _) rfl) rfl (aB (aC (aD (aD (aA (wq (aG (.pointer _) rfl) rfl (wq (eN false Tryz.underlying25 rfl rfl) rfl (aB (aC ?_)))))))))))
 refine cB rfl (aK (aC (aD (aA (wq (aG (.pointer _) rfl) rfl (wq (aO rfl) rfl (wq (aE 0 pS rfl) rfl (wq (aI (.pointer _) rfl) rfl ?_))))))))
 refine aB (aC (aM (bW (.pointer _) rfl ?_)))
 exact ⟨rfl, M0.below⟩
set_option maxHeartbeats 4000000 in
theorem qL (w : World) (b : Nat) (r : StV) (vs : List Body) (hW : bY 39 r vs) (hO : Own [(some b, bc [.slice r.A r.n r.c, .map r.p] 107), r.er, r.em] w) (x : Body) (hx : InB x) :
  Calls Tryz.prog 26 #[.pointer (some ⟨b, 0, none⟩), (.agg (aF x).toArray)] w (fun ex w' => ∃ v, ex = .returned v ∧ (fun v w' => ∃ r' : StV, v = .int .i64 (nR vs x).2 ∧ bY 39 r' ((nR vs x).1) ∧ Mem w (bH [(some b, bc [.slice r.A r.n r.c, .map r.p] 107), r.er, r.em]) [(some b, bc [.slice r'.A r'.n r'.c, .map r'.p] 107), r'.er, r'.em] w') v w') := by
 obtain ⟨hG, m, hs, hR⟩ := hW
 refine aH #[.tmp 4] 15 Tryz.func26 rfl Tryz.results26 Tryz.ntmps26 rfl ?_
 have M0 := hO.mem
 refine aD (aA (bG (.agg (List.toArray _)) M0 rfl rfl rfl (fun b1 w1 M1 => (bP rfl rfl (aB (aC (aD (aD (aA (wq (aG (.pointer _) rfl) rfl (bX aXy rfl rfl (yW _ b) ?_)))))))))))
 rintro v2 w2 ⟨rfl, hb2⟩
 have M2 := M1.callB hb2
 refine wq (aI (.pointer _) rfl) rfl (aB (aC (aD (aA (wq (aG (.pointer _) rfl) rfl (wq (rY true Tryz.underlying119 rfl rfl) rfl (aB (aC (cM rfl ?_)))))))))
 refine aD (bO [(0, 0), (1, 0), (2, 0), (3, 1), (4, 2), (5, 0)] mixed rfl (by kernel_rfl) (fun w3 hb3 hh3 => ?_))
 have M3 := M2.drew hb3 hh3
 refine aV rfl rfl rfl (fun _ => aG (.pointer _) rfl) (aV rfl rfl rfl (fun _ => aO rfl) (aV rfl rfl rfl (fun _ => aE 0 nH rfl) (bV rfl rfl rfl (bC 3 bS M3 rfl rfl rfl) (dG [true] rfl (by kernel_rfl) (bX bCq rfl rfl (aOn _ _ _ _ _ _ _ _ _ hs (M3.ownSeg 0 3) x) ?_)))))
 rintro v4 w4 ⟨rfl, A4, n4, c4, p4, er4, em4, hs4, hM4⟩
 have M4 : Mem _ _ [_, _, _, _] _ := M3.seg 0 3 hM4
 refine aB (aC ⟨dH, ?_⟩)
 refine qN rfl rfl rfl (cD (aC (aM (cE (bW (.int _ _) rfl ?_)))))
 obtain ⟨q1, q2⟩ := hR.add x
 exact ⟨⟨A4, n4, c4, p4, er4, em4⟩, by rw [q2], xK hs4 q1 (aZw (hG.inm hR) hx), M4.keep [true, true, true, false]⟩
set_option maxHeartbeats 4000000 in
theorem aEf (w : World) (b : Nat) (r : StV) (vs : List Body) (hW : bY 39 r vs) (hO : Own [(some b, bc [.slice r.A r.n r.c, .map r.p] 107), r.er, r.em] w) (key : Int) :
  Calls Tryz.prog 86 #[.pointer (some ⟨b, 0, none⟩), .int .u32 key] w (fun ex w' => ∃ v, ex = .returned v ∧ (fun v w' => ∃ r' : StV, v = .int .i64 (iI vs key).2 ∧ bY 39 r' ((iI vs key).1) ∧ Mem w (bH [(some b, bc [.slice r.A r.n r.c, .map r.p] 107), r.er, r.em]) [(some b, bc [.slice r'.A r'.n r'.c, .map r'.p] 107), r'.er, r'.em] w') v w') := by
 obtain ⟨hG, m, hs, hR⟩ := hW
 refine aH #[.tmp 4] 15 Tryz.func86 rfl Tryz.results86 Tryz.ntmps86 rfl ?_
 have M0 := hO.mem
 refine aD (aA (bP rfl rfl (aB (aC (aD (aD (aA (wq (aG (.pointer _) rfl) rfl (bX aXy rfl rfl (yW _ b) ?_)))))))))
 rintro v1 w1 ⟨rfl, hb1⟩
 have M1 := M0.callB hb1
 refine wq (aI (.pointer _) rfl) rfl (aB (aC (aD (aA (wq (aG (.pointer _) rfl) rfl (wq (rY true Tryz.underlying119 rfl rfl) rfl (aB (aC (cM rfl ?_)))))))))
 refine aD (aA (wq (aG (.pointer _) rfl) rfl (wq (aO rfl) rfl (wq (aE 0 nH rfl) rfl (aY rfl rfl (bX bGu rfl rfl (aLs _ _ _ _ _ _ _ _ _ hs (M1.ownSeg 0 3) key) ?_))))))
 rintro v2 w2 ⟨rfl, A2, n2, c2, p2, er2, em2, hs2, hM2⟩
 have M2 : Mem _ _ [_, _, _] _ := M1.seg 0 3 hM2
 refine bP rfl rfl (aB (aC (aM (cE (bW (.int _ _) rfl ?_)))))
 obtain ⟨q1, q2⟩ := hR.remove key
 exact ⟨⟨A2, n2, c2, p2, er2, em2⟩, by rw [q2], xK hs2 q1 (aKx hs.keys (hG.inm hR)), M2.keep [true, true, true]⟩
set_option maxHeartbeats 4000000 in
theorem aQo (w : World) (b : Nat) (r : StV) (vs : List Body) (hW : bY 39 r vs) (hO : Own [(some b, bc [.slice r.A r.n r.c, .map r.p] 107), r.er, r.em] w) (key : Int) :
  Calls Tryz.prog 69 #[.pointer (some ⟨b, 0, none⟩), .int .u32 key] w (fun ex w' => ∃ v, ex = .returned v ∧ (fun v w' => v = .tuple #[(.agg (aF (rX vs key).body).toArray), .int .i64 (rX vs key).err] ∧ Mem w (bH [(some b, bc [.slice r.A r.n r.c, .map r.p] 107), r.er, r.em]) [(some b, bc [.slice r.A r.n r.c, .map r.p] 107), r.er, r.em] w') v w') := by
 obtain ⟨hG, m, hs, hR⟩ := hW
 refine aH #[.cell 4 39, .tmp 5] 19 Tryz.func69 rfl Tryz.results69 Tryz.ntmps69 rfl ?_
 have M0 := hO.mem
 refine aD (aA (aQ gS M0 rfl rfl (fun b1 w1 M1 => (bP rfl rfl (aB (aC (aD (aD (aA (wq (aG (.pointer _) rfl) rfl (bX aXy rfl rfl (yW _ b) ?_)))))))))))
 rintro v2 w2 ⟨rfl, hb2⟩
 have M2 := M1.callB hb2
 refine wq (aI (.pointer _) rfl) rfl (aB (aC (aD (aA (wq (aG (.pointer _) rfl) rfl (wq (rY true Tryz.underlying119 rfl rfl) rfl (aB (aC (cM rfl ?_)))))))))
 refine aD (aA (wq (aG (.pointer _) rfl) rfl (wq (aO rfl) rfl (wq (aE 0 nH rfl) rfl (aY rfl rfl (bX bFv rfl rfl (aYv _ _ _ _ _ _ _ _ _ hs (M2.ownSeg 0 3) key) ?_))))))
 rintro v3 w3 ⟨⟨x3, rfl, hx3⟩, hM3⟩
 have M3 : Mem _ _ [_, _, _, _] _ := M2.seg 0 3 hM3
 have hge := aZr hR key
 obtain rfl : x3 = (rX vs key).body := by rw [hx3, hge]
 have hge2 : (xR m key).2 = (rX vs key).err := by rw [hge]
 refine wq (bE (.agg (List.toArray _)) rfl rfl) rfl (wq (bE (.int _ _) rfl rfl) rfl (aT 17 (.int .i64 (rX vs key).err) (iE hge2) (bB 3 _ bS M3 rfl rfl rfl rfl rfl (aR rfl) rfl (fun w4 M4 => (bP rfl rfl (aB (aC (aM (cE ?_)))))))))
 refine aCl (v2 := .int _ _) 3 bS M4 rfl rfl rfl rfl ?_
 exact ⟨rfl, M4.keep [true, true, true, false]⟩
set_option maxHeartbeats 4000000 in
theorem oU (w : World) (b : Nat) (r : StV) (vs : List Body) (hW : bY 39 r vs) (hO : Own [(some b, bc [.slice r.A r.n r.c, .map r.p] 107), r.er, r.em] w) :
  Calls Tryz.prog 38 #[.pointer (some ⟨b, 0, none⟩)] w (fun ex w' => ∃ v, ex = .returned v ∧ (fun v w' => ∃ q : Row, v = .slice q.A q.n q.c ∧ aW 39 10 q.A q.n q.c ((vs).map aF) q.e ∧ Mem w (bH [(some b, bc [.slice r.A r.n r.c, .map r.p] 107), r.er, r.em]) [(some b, bc [.slice r.A r.n r.c, .map r.p] 107), r.er, r.em, q.e] w') v w') := by
 have hW' := hW
 obtain ⟨hG, m, hs, hR⟩ := hW
 refine aH #[.tmp 2] 10 Tryz.func38 rfl Tryz.results38 Tryz.ntmps38 rfl ?_
 have M0 := hO.mem
 refine aD (aA (fP rfl rfl (aB (aC (aD (aD (aA (wq (aG (.pointer _) rfl) rfl (wq (eN false Tryz.underlying25 rfl rfl) rfl (aB (aC ?_)))))))))))
 refine cB rfl (aK (aC (aD (aA (wq (aG (.pointer _) rfl) rfl (wq (aO rfl) rfl (wq (aE 0 pS rfl) rfl (wq (aE 0 nH rfl) rfl ?_))))))))
 refine bX bIy rfl rfl (aLg _ _ _ _ _ _ _ _ _ hs (M0.ownSeg 0 3)) ?_
 rintro v1 w1 ⟨A1, n1, c1, e1, rfl, hR1, hM1⟩
 have M1 : Mem _ _ [_, _, _, _] _ := M0.seg 0 3 hM1
 rw [hR.eq] at hR1
 refine fP rfl rfl (aB (aC (aM (bW (.slice _ _ _) rfl ?_))))
 exact ⟨⟨A1, n1, c1, e1⟩, rfl, hR1, M1⟩
set_option maxHeartbeats 4000000 in
theorem gC (w : World) (b : Nat) (r : StV) (vs : List Body) (hW : bY 39 r vs) (hO : Own [(some b, bc [.slice r.A r.n r.c, .map r.p] 107), r.er, r.em] w) :
  Calls Tryz.prog 24 #[.pointer (some ⟨b, 0, none⟩)] w (fun ex w' => ∃ v, ex = .returned v ∧ (fun v w' => ∃ q : Row, v = .slice q.A q.n q.c ∧ aW 5 1 q.A q.n q.c ((lO vs).map bI) q.e ∧ Mem w (bH [(some b, bc [.slice r.A r.n r.c, .map r.p] 107), r.er, r.em]) [(some b, bc [.slice r.A r.n r.c, .map r.p] 107), r.er, r.em, q.e] w') v w') := by
 have hW' := hW
 obtain ⟨hG, m, hs, hR⟩ := hW
 refine aH #[.tmp 2] 14 Tryz.func24 rfl Tryz.results24 Tryz.ntmps24 rfl ?_
 have M0 := hO.mem
 refine aD (aA (fP rfl rfl (aB (aC (aD (aD (aA (wq (aG (.pointer _) rfl) rfl (wq (eN false Tryz.underlying25 rfl rfl) rfl (aB (aC ?_)))))))))))
 refine cB rfl (aK (aC (aD (aA (wq (aG (.pointer _) rfl) rfl (bX aOg rfl rfl (oU _ _ r _ hW' (M0.ownSeg 0 3)) ?_))))))
 rintro v1 w1 ⟨q, rfl, hq, hM1⟩
 have M1 : Mem _ _ [_, _, _, _] _ := M0.seg 0 3 hM1
 have hqn : vs.length = q.n := by simpa using hq.1
 have hvl := hG.len
 refine bX bIs rfl rfl (aEr _ _ _ _ vs (hq.rd M1 (aX (i := 3) rfl)) (by omega) hG.chk hG.inb) ?_
 rintro v2 w2 ⟨z, rfl, hz, hM2⟩
 have M2 : Mem _ _ [_, _, _, _, _] _ := M1.call0 hM2
 refine wq (aG (.tuple (List.toArray _)) rfl) rfl (wq (bE (.slice _ _ _) rfl rfl) rfl (wq (bE (.int _ _) rfl rfl) rfl (fP rfl rfl (bP rfl rfl (aB (aC (aD (aA ?_))))))))
 refine eG rfl rfl (fP rfl rfl (aB (aC (aM (bW (.slice _ _ _) rfl ?_)))))
 exact ⟨z, rfl, hz, M2.keep [true, true, true, false, true]⟩
set_option maxHeartbeats 8000000 in
theorem aBi (w : World) (b : Nat) (r : StV) (vs : List Body) (hW : bY 39 r vs) (hO : Own [(some b, bc [.slice r.A r.n r.c, .map r.p] 107), r.er, r.em] w) (key : Int) (j : Int × Int) (hj1 : -2147483648 ≤ j.1 ∧ j.1 ≤ 2147483647) (hj2 : -2147483648 ≤ j.2 ∧ j.2 ≤ 2147483647) :
  Calls Tryz.prog 91 #[.pointer (some ⟨b, 0, none⟩), .int .u32 key, .agg [.int .i32 j.1, .int .i32 j.2].toArray] w (fun ex w' => ∃ v, ex = .returned v ∧ (fun v w' => ∃ r' : StV, v = .int .i64 (sC vs key j).2 ∧ bY 39 r' ((sC vs key j).1) ∧ Mem w (bH [(some b, bc [.slice r.A r.n r.c, .map r.p] 107), r.er, r.em]) [(some b, bc [.slice r'.A r'.n r'.c, .map r'.p] 107), r'.er, r'.em] w') v w') := by
 have hW' := hW
 obtain ⟨hG, m, hs, hR⟩ := hW
 refine aH #[.tmp 6] 30 Tryz.func91 rfl Tryz.results91 Tryz.ntmps91 rfl ?_
 have M0 := hO.mem
 refine aD (aA (bG (.agg (List.toArray _)) M0 rfl rfl rfl (fun b1 w1 M1 => (bP rfl rfl (aB (aC (aD (aA (wq (aG (.pointer _) rfl) rfl (aY rfl rfl ?_))))))))))
 refine bX bIw rfl rfl (aQo _ _ r vs hW' (M1.ownSeg 0 3) key) ?_
 rintro v2 w2 ⟨rfl, hM2⟩
 have M2 : Mem _ _ [_, _, _, _] _ := M1.seg 0 3 hM2
 refine wq (aG (.tuple (List.toArray _)) rfl) rfl (wq (bE (.agg (List.toArray _)) rfl rfl) rfl (wq (bE (.int _ _) rfl rfl) rfl (aQ gS M2 rfl rfl (fun b3 w3 M3 => (bB 4 _ bS M3 rfl rfl rfl rfl rfl (aR rfl) rfl (fun w4 M4 => (bP rfl rfl ?_)))))))
 refine aB (aC (aD (aD (aA (aY rfl rfl (dA rfl rfl rfl rfl (aB (aC ?_))))))))
 refine aZ rfl (fun h16 => ?_) (fun h16 => ?_)
 ·refine aD (aA (aY rfl rfl (bP rfl rfl (aB (aC (aM (cE (bW (.int _ _) rfl ?_))))))))
  have hf : cK key vs < 0 := Decidable.byContradiction fun h => h16 (by unfold rX; rw [if_neg h]; rfl)
  exact ⟨r, by rw [aGu j hf]; unfold rX; rw [if_pos hf], by rw [aGu j hf]; exact hW', M4.keep [true, true, true, false, false]⟩
 ·have hf : ¬ cK key vs < 0 := fun h => h16 (by unfold rX; rw [if_pos h]; decide)
  obtain ⟨i, bb, hbi, _, hfi⟩ := (dM key vs).resolve_left (fun h => hf (by omega))
  have hgb : (rX vs key).body = bb := by unfold rX; rw [if_neg hf]; exact aAg hfi hbi
  obtain ⟨z1, z2, z3, z4⟩ := aZi hR hG j hfi hbi
  have hbo := hG.okb bb (List.mem_of_getElem? hbi)
  refine aK (aC (aD (aA (wq (bC 4 bS M4 rfl rfl rfl) rfl (aT 19 ((.agg (aF bb).toArray)) (congrArg (fun x => Value.agg (aF x).toArray) hgb) (wq (bC 3 bM M4 rfl rfl rfl) rfl (bX bHg rfl rfl (aTn _ bb hbo j hj1 hj2) ?_)))))))
  rintro v5 w5 ⟨⟨gg, rfl⟩, hb5⟩
  have M5 := M4.callB hb5
  refine wq (aG (.tuple (List.toArray _)) rfl) rfl (wq (bE (.agg (List.toArray _)) rfl rfl) rfl (wq (bE (.bool _) rfl rfl) rfl (bB 4 _ bS M5 rfl rfl rfl rfl rfl (aR rfl) rfl (fun w6 M6 => (aB (aC (aD (bO [(0, 0), (1, 0), (2, 0), (3, 0), (4, 1), (5, 2), (6, 0)] mixed rfl (by kernel_rfl) (fun w7 hb7 hh7 => ?_)))))))))
  have M7 := M6.drew hb7 hh7
  refine aV rfl rfl rfl (fun _ => aG (.pointer _) rfl) (aV rfl rfl rfl (fun _ => aO rfl) (aV rfl rfl rfl (fun _ => aE 0 pS rfl) (aV rfl rfl rfl (fun _ => aE 0 nH rfl) (bV rfl rfl rfl (bC 4 bS M7 rfl rfl rfl) (dG [true] rfl (by kernel_rfl) ?_)))))
  refine bX bGg rfl rfl (aYt _ _ _ _ _ _ _ _ _ hs (M7.ownSeg 0 3) (oD bb j)) ?_
  rintro v8 w8 ⟨rfl, A8, n8, c8, p8, er8, em8, hs8, hM8⟩
  have M8 : Mem _ _ [_, _, _, _, _] _ := M7.seg 0 3 hM8
  refine aB (aC ⟨dH, ?_⟩)
  refine qN rfl rfl rfl (cD (aC (aM (bW (.int _ _) rfl ?_))))
  exact ⟨⟨A8, n8, c8, p8, er8, em8⟩, by rw [z3, z2], xK hs8 z1 (aYn (hG.inm hR) (bBk (hG.inb bb (List.mem_of_getElem? hbi)) j)), M8.keep [true, true, true, false, false]⟩
set_option maxHeartbeats 8000000 in
theorem nA (w : World) (b : Nat) (r : StV) (vs : List Body) (hW : bY 39 r vs) (hO : Own [(some b, bc [.slice r.A r.n r.c, .map r.p] 107), r.er, r.em] w) (A : Option Addr) (n c : Nat) (xs : List Body) (RA : Rd w 10 A n (xs.map aF)) (hX : GoodV xs) (hdA : 0 < n → ∀ q off, A = some ⟨q, off, none⟩ → q ∉ bH [(some b, bc [.slice r.A r.n r.c, .map r.p] 107), r.er, r.em]) :
  Calls Tryz.prog 78 #[.pointer (some ⟨b, 0, none⟩), .slice A n c] w (fun ex w' => ∃ v, ex = .returned v ∧ (fun v w' => ∃ r' : StV, v = .tuple #[] ∧ bY 39 r' (xs) ∧ Mem w (bH [(some b, bc [.slice r.A r.n r.c, .map r.p] 107), r.er, r.em]) [(some b, bc [.slice r'.A r'.n r'.c, .map r'.p] 107), r'.er, r'.em] w') v w') := by
 have hlen : xs.length = n := by simpa using RA.len
 have hbd := RA.bound
 have hxl := hX.len
 refine aH #[] 23 Tryz.func78 rfl Tryz.results78 Tryz.ntmps78 rfl ?_
 have M0 := hO.mem
 refine aD (aA (wq (aG (.pointer _) rfl) rfl (wq (cH [] _ aSl rfl rfl) rfl (wq (aO rfl) rfl (wq (aE 0 pS rfl) rfl (bB 0 _ bEr M0 rfl rfl rfl rfl rfl (aR rfl) rfl (fun w1 M1 => ?_)))))))
 refine aB (aC (aD (aA ?_)))
 have M2 : Mem _ _ [_, _, _] _ := (((M1.keep [true, false, false]).dummy default).dummy default)
 refine eG rfl rfl (wq (cP Tryz.underlying29 rfl) rfl (aY rfl rfl (aB (aC (aS (dK (σ := Nat × StV) [0, 10, 11] (fun (k, r2) => [(12, .int .i64 (k : Int))]) (fun (k, r2) w' => (k ≤ n ∧ StoreIs 39 r2.A r2.n r2.c r2.p r2.er r2.em (xs.take k)) ∧ Mem w (bH [(some b, bc [.slice r.A r.n r.c, .map r.p] 107), r.er, r.em]) [(some b, bc [.slice r2.A r2.n r2.c, .map r2.p] 107), r2.er, r2.em] w') (fun (k, r2) => n - k) (0, ⟨none, 0, 0, none, (none, default), (none, default)⟩) (bR rfl eZ) (⟨⟨by omega, (StoreIs.nil 39 default default)⟩, M2⟩) ?_))))))
 rintro ⟨k, r2⟩ ρ3 w3 ⟨⟨hk, hr⟩, hM3⟩
 refine aD (aA (dA rfl rfl rfl rfl (aB (aC (aD ?_)))))
 refine aZ rfl (fun h13 => ?_) (fun h13 => ?_)
 ·obtain ⟨xb, hxb⟩ := cI (xs := xs) (k := k) hlen (by omega)
  refine aK (aC (aD (aS (aD (aA (wq (bN (k) dW rfl rfl rfl ((RA.memY hM3 hdA).below_len (aJ aF hxb)) ((RA.memY hM3 hdA).someK (aJ aF hxb))) rfl (wq (dC _ bS (RA.memY hM3 hdA) (aJ aF hxb) rfl) rfl (aQ gS hM3 rfl rfl (fun b4 w4 M4 => ?_)))))))))
  refine bB 3 _ bS M4 rfl rfl rfl rfl rfl (aR rfl) rfl (fun w5 M5 => (aB (aC (bO [(0, 0), (1, 0), (2, 0), (3, 0), (4, 1), (5, 2)] mixed rfl (by kernel_rfl) (fun w6 hb6 hh6 => ?_)))))
  have M6 := M5.drew hb6 hh6
  refine aV rfl rfl rfl (fun _ => aG (.pointer _) rfl) (aV rfl rfl rfl (fun _ => aO rfl) (aV rfl rfl rfl (fun _ => aE 0 pS rfl) (aV rfl rfl rfl (fun _ => aE 0 nH rfl) (bV rfl rfl rfl (bC 3 bS M6 rfl rfl rfl) (dG [true] rfl (by kernel_rfl) ?_)))))
  refine bX bCq rfl rfl (aOn _ _ _ _ _ _ _ _ _ hr (M6.ownSeg 0 3) xb) ?_
  rintro v7 w7 ⟨rfl, A7, n7, c7, p7, er7, em7, hs7, hM7⟩
  have M7 : Mem _ _ [_, _, _, _] _ := M6.seg 0 3 hM7
  refine aB (aC ⟨dH, ?_⟩)
  refine cD (dE (aC (aA (wq (bU rfl rfl (by omega) (by omega)) rfl (aY rfl rfl (aB ?_))))))
  refine cS (k + 1, ⟨A7, n7, c7, p7, er7, em7⟩) (bR rfl eZ) (cV rfl (cV rfl (cV rfl jQ))) ?_ ?_
  ·exact ⟨⟨by omega, by rw [← aFu hX (k + 1) (by omega), aAh hxb, aFu hX k (by omega)]; exact hs7⟩, M7.keep [true, true, true, false]⟩
  ·(show n - (k + 1) < n - k; omega)
 ·obtain rfl : k = n := by omega
  rw [List.take_of_length_le (by omega)] at hr
  refine cR (cZ (cX (eQ (iV ?_))))
  exact ⟨r2, rfl, ⟨hX, xs, hr, aTh hX.s⟩, hM3⟩
set_option maxHeartbeats 8000000 in
theorem aMf (w : World) (F : Rd w 2 (some ⟨0, 0, none⟩) 1 [[.int .u32 73856093, .int .u32 19349663]]) (N : Rd w 4 (some ⟨3, 0, none⟩) 1 [cY gO]) (b : Nat) (r : StV) (vs : List Body) (hW : bY 39 r vs) (hO : Own [(some b, bc [.slice r.A r.n r.c, .map r.p] 107), r.er, r.em] w) (hdF : 0 < 1 → ∀ q off, (some ⟨0, 0, none⟩ : Option Addr) = some ⟨q, off, none⟩ → q ∉ bH [(some b, bc [.slice r.A r.n r.c, .map r.p] 107), r.er, r.em]) (hdN : 0 < 1 → ∀ q off, (some ⟨3, 0, none⟩ : Option Addr) = some ⟨q, off, none⟩ → q ∉ bH [(some b, bc [.slice r.A r.n r.c, .map r.p] 107), r.er, r.em]) :
  Calls Tryz.prog 53 #[.pointer (some ⟨b, 0, none⟩)] w (fun ex w' => ∃ v, ex = .returned v ∧ (fun v w' => ∃ (r' : StV) (t : Nat), v = .agg [.int .i64 (t : Int), .int .i64 ((kX vs).length : Int), .bool (rN vs)].toArray ∧ bY 39 r' (nZ vs) ∧ Mem w (bH [(some b, bc [.slice r.A r.n r.c, .map r.p] 107), r.er, r.em]) [(some b, bc [.slice r'.A r'.n r'.c, .map r'.p] 107), r'.er, r'.em] w') v w') := by
 have hW' := hW
 obtain ⟨hG, m, hs, hR⟩ := hW
 have hvl := hG.len
 refine aH #[.cell 2 58] 18 Tryz.func53 rfl Tryz.results53 Tryz.ntmps53 rfl ?_
 have M0 := hO.mem
 refine aD (aA (aQ sL M0 rfl rfl (fun b1 w1 M1 => (aB (aC (aD (aD (aA (wq (aG (.pointer _) rfl) rfl (wq (eN false Tryz.underlying25 rfl rfl) rfl (aB (aC ?_))))))))))))
 refine cB rfl (aK (aC (aD (aA (wq (aG (.pointer _) rfl) rfl (bX aOg rfl rfl (oU _ _ r _ hW' (M1.ownSeg 0 3)) ?_))))))
 rintro v2 w2 ⟨q, rfl, hq, hM2⟩
 have M2 : Mem _ _ [_, _, _, _, _] _ := M1.seg 0 3 hM2
 have hqn : vs.length = q.n := by simpa using hq.1
 refine bX bCp rfl rfl (aCy _ (F.memY M2 hdF) (N.memY M2 hdN) _ _ _ vs (hq.rd M2 (aX (i := 4) rfl)) hG.okb hG.s (by omega)) ?_
 rintro v3 w3 ⟨ra, ta, rfl, h1ta, h2ta, hra, hM3⟩
 have M3 : Mem _ _ [_, _, _, _, _, _] _ := M2.call0 hM3
 refine wq (aG (.tuple (List.toArray _)) rfl) rfl (wq (bE (.slice _ _ _) rfl rfl) rfl (wq (bE (.agg (List.toArray _)) rfl rfl) rfl (aQ sL M3 rfl rfl (fun b4 w4 M4 => (fP rfl rfl (bB 6 _ nP M4 rfl rfl rfl rfl rfl (aR rfl) rfl (fun w5 M5 => ?_)))))))
 refine aB (aC (aD (aA (wq (aG (.pointer _) rfl) rfl (eG rfl rfl (bX aTl rfl rfl (nA _ _ r _ hW' (M5.ownSeg 0 3) ra.A ra.n ra.c (nZ vs) (hra.rd M5 (aX (i := 5) rfl)) hG.step (hra.awayS M5 0 3 5 rfl rfl)) ?_))))))
 rintro v6 w6 ⟨r2, rfl, hw2, hM6⟩
 have M6 : Mem _ _ [_, _, _, _, _, _, _] _ := M5.seg 0 3 hM6
 refine aB (aC (aD (aA (wq (bC 6 nP M6 rfl rfl rfl) rfl (bB 3 _ nP M6 rfl rfl rfl rfl rfl (aR rfl) rfl (fun w7 M7 => (aB (aC (aM (eV 3 nP M7 rfl rfl rfl ?_))))))))))
 exact ⟨r2, ta, rfl, hw2, M7.keep [true, true, true, false, false, false, false]⟩
set_option maxHeartbeats 8000000 in
theorem aBk (w : World) (b : Nat) (r : StV) (vs : List Body) (hW : bY 39 r vs) (hO : Own [(some b, bc [.slice r.A r.n r.c, .map r.p] 107), r.er, r.em] w) (BA : Option Addr) (nn cc : Nat) (ls : List Int) (RS : Rd w 1 BA nn (ls.map bI)) (hB : iR ls) (hcap : nn ≤ cc) (hnn : nn ≤ 1000000) (hdB : 0 < nn → ∀ q off, BA = some ⟨q, off, none⟩ → q ∉ bH [(some b, bc [.slice r.A r.n r.c, .map r.p] 107), r.er, r.em]) :
  Calls Tryz.prog 74 #[.pointer (some ⟨b, 0, none⟩), .slice BA nn cc] w (fun ex w' => ∃ v, ex = .returned v ∧ (fun v w' => ∃ r' : StV, v = .int .i64 (kI ls).2 ∧ bY 39 r' (yA vs ls) ∧ Mem w (bH [(some b, bc [.slice r.A r.n r.c, .map r.p] 107), r.er, r.em]) [(some b, bc [.slice r'.A r'.n r'.c, .map r'.p] 107), r'.er, r'.em] w') v w') := by
 have hW' := hW
 obtain ⟨hG, m, hs, hR⟩ := hW
 have hlen : ls.length = nn := by simpa using RS.len
 refine aH #[.tmp 4] 20 Tryz.func74 rfl Tryz.results74 Tryz.ntmps74 rfl ?_
 have M0 := hO.mem
 refine aD (aA (bP rfl rfl (aB (aC (aD (aD (aA (wq (aG (.pointer _) rfl) rfl (wq (eN false Tryz.underlying25 rfl rfl) rfl (aB (aC ?_)))))))))))
 refine cB rfl (aK (aC (aD (aA (eG rfl rfl (bX bCo rfl rfl (uC _ BA nn cc ls (RS.memY M0 hdB) hB hcap (by omega)) ?_))))))
 rintro v1 w1 ⟨q, rfl, hq, hM1⟩
 have M1 : Mem _ _ [_, _, _, _] _ := M0.call0 hM1
 refine wq (aG (.tuple (List.toArray _)) rfl) rfl (wq (bE (.slice _ _ _) rfl rfl) rfl (wq (bE (.int _ _) rfl rfl) rfl (fP rfl rfl (bP rfl rfl (aB (aC (aD (aD (aA ?_)))))))))
 refine aY rfl rfl (dA rfl rfl rfl rfl (aB (aC ?_)))
 refine aZ rfl (fun h15 => ?_) (fun h15 => ?_)
 ·refine aA (wq (aG (.pointer _) rfl) rfl (eG rfl rfl (bX aTl rfl rfl (nA _ _ r _ hW' (M1.ownSeg 0 3) q.A q.n q.c (kI ls).1 (hq.rd M1 (aX (i := 3) rfl)) (GoodV.dec hB (by omega) h15) (hq.awayS M1 0 3 3 rfl rfl)) ?_)))
  rintro v2 w2 ⟨r2, rfl, hw2, hM2⟩
  have M2 : Mem _ _ [_, _, _, _] _ := M1.seg 0 3 hM2
  refine aB (aC (aD (aA (aY rfl rfl (bP rfl rfl (aB (aC (aM (bW (.int _ _) rfl ?_)))))))))
  exact ⟨r2, rfl, by unfold yA; rw [if_pos h15]; exact hw2, M2.keep [true, true, true, false]⟩
 ·refine aK (aC (aD (aA (aY rfl rfl (bP rfl rfl (aB (aC (aM (bW (.int _ _) rfl ?_)))))))))
  exact ⟨r, rfl, by unfold yA; rw [if_neg h15]; exact hW', M1.keep [true, true, true, false]⟩
set_option maxHeartbeats 4000000 in
theorem aTx (w : World) :
  Calls Tryz.prog 83 #[(.func (.func 26) #[] #[] : Value), (.func (.func 84) #[] #[] : Value)] w (fun ex w' => ∃ v, ex = .returned v ∧ (fun v w' => ∃ fa ga : Nat, v = (.func (.func 120) #[] #[.pointer (some ⟨fa, 0, none⟩), .pointer (some ⟨ga, 0, none⟩)] : Value) ∧ Mem w [] [(some fa, bc [(.func (.func 26) #[] #[] : Value)] 143), (some ga, bc [(.func (.func 84) #[] #[] : Value)] 144)] w') v w') := by
 refine aH #[.tmp 4] 6 Tryz.func83 rfl Tryz.results83 Tryz.ntmps83 rfl ?_
 have M0 := Mem.refl w
 refine aD (aA (bG (.func _ _ _) M0 rfl rfl rfl (fun b1 w1 M1 => (bG (.func _ _ _) M1 rfl rfl rfl (fun b2 w2 M2 => (wq (aI (_) rfl) rfl (aB (aC (aD (aA (wq (cO [] [.pointer _, .pointer _] rfl rfl) rfl ?_)))))))))))
 refine wq (aI (.func _ _ _) rfl) rfl (aB (aC (aM (bW (.func _ _ _) rfl ?_))))
 exact ⟨_, _, rfl, M2⟩
set_option maxHeartbeats 4000000 in
theorem aHr (w : World) :
  Calls Tryz.prog 85 #[(.func (.func 86) #[] #[] : Value), (.func (.func 87) #[] #[] : Value)] w (fun ex w' => ∃ v, ex = .returned v ∧ (fun v w' => ∃ fa ga : Nat, v = (.func (.func 121) #[] #[.pointer (some ⟨fa, 0, none⟩), .pointer (some ⟨ga, 0, none⟩)] : Value) ∧ Mem w [] [(some fa, bc [(.func (.func 86) #[] #[] : Value)] 146), (some ga, bc [(.func (.func 87) #[] #[] : Value)] 148)] w') v w') := by
 refine aH #[.tmp 4] 6 Tryz.func85 rfl Tryz.results85 Tryz.ntmps85 rfl ?_
 have M0 := Mem.refl w
 refine aD (aA (bG (.func _ _ _) M0 rfl rfl rfl (fun b1 w1 M1 => (bG (.func _ _ _) M1 rfl rfl rfl (fun b2 w2 M2 => (wq (aI (_) rfl) rfl (aB (aC (aD (aA (wq (cO [] [.pointer _, .pointer _] rfl rfl) rfl ?_)))))))))))
 refine wq (aI (.func _ _ _) rfl) rfl (aB (aC (aM (bW (.func _ _ _) rfl ?_))))
 exact ⟨_, _, rfl, M2⟩
set_option maxHeartbeats 4000000 in
theorem aFq (w : World) :
  Calls Tryz.prog 88 #[(.func (.func 74) #[] #[] : Value), (.func (.func 89) #[] #[] : Value)] w (fun ex w' => ∃ v, ex = .returned v ∧ (fun v w' => ∃ fa ga : Nat, v = (.func (.func 123) #[] #[.pointer (some ⟨fa, 0, none⟩), .pointer (some ⟨ga, 0, none⟩)] : Value) ∧ Mem w [] [(some fa, bc [(.func (.func 74) #[] #[] : Value)] 150), (some ga, bc [(.func (.func 89) #[] #[] : Value)] 151)] w') v w') := by
 refine aH #[.tmp 4] 6 Tryz.func88 rfl Tryz.results88 Tryz.ntmps88 rfl ?_
 have M0 := Mem.refl w
 refine aD (aA (bG (.func _ _ _) M0 rfl rfl rfl (fun b1 w1 M1 => (bG (.func _ _ _) M1 rfl rfl rfl (fun b2 w2 M2 => (wq (aI (_) rfl) rfl (aB (aC (aD (aA (wq (cO [] [.pointer _, .pointer _] rfl rfl) rfl ?_)))))))))))
 refine wq (aI (.func _ _ _) rfl) rfl (aB (aC (aM (bW (.func _ _ _) rfl ?_))))
 exact ⟨_, _, rfl, M2⟩
set_option maxHeartbeats 4000000 in
theorem bHf (w : World) (o : OpI) (BA : Option Addr) (nn cc : Nat) :
  Calls Tryz.prog 84 #[.agg (eL o BA nn cc).toArray] w (fun ex w' => ∃ v, ex = .returned v ∧ (fun v w' => v = (.agg (aF o.body).toArray) ∧ Below w.heap.size w w') v w') := by
 refine aH #[.cell 2 39] 5 Tryz.func84 rfl Tryz.results84 Tryz.ntmps84 rfl ?_
 have M0 := Mem.refl w
 refine aD (aA (bG (.agg (List.toArray _)) M0 rfl rfl rfl (fun b1 w1 M1 => (aQ gS M1 rfl rfl (fun b2 w2 M2 => (aB (aC (aD (aA (wq (aE 1 bBl rfl) rfl (wq (tX 0 _ bS M2 rfl rfl rfl rfl) rfl ?_)))))))))))
 refine bB 1 _ bS M2 rfl rfl rfl rfl rfl (aR rfl) rfl (fun w3 M3 => (aB (aC (aM (eV 1 bS M3 rfl rfl rfl ?_)))))
 exact ⟨rfl, M3.below⟩
set_option maxHeartbeats 4000000 in
theorem bFq (w : World) (o : OpI) (BA : Option Addr) (nn cc : Nat) :
  Calls Tryz.prog 87 #[.agg (eL o BA nn cc).toArray] w (fun ex w' => ∃ v, ex = .returned v ∧ (fun v w' => v = .int .u32 o.key ∧ Below w.heap.size w w') v w') := by
 refine aH #[.tmp 2] 5 Tryz.func87 rfl Tryz.results87 Tryz.ntmps87 rfl ?_
 have M0 := Mem.refl w
 refine aD (aA (bG (.agg (List.toArray _)) M0 rfl rfl rfl (fun b1 w1 M1 => (bP rfl rfl (aB (aC (aD (aA (wq (aE 11 aOc rfl) rfl (wq (aL 0 (.int _ _) cC M1 rfl rfl rfl) rfl ?_))))))))))
 refine bP rfl rfl (aB (aC (aM (bW (.int _ _) rfl ?_))))
 exact ⟨rfl, M1.below⟩
set_option maxHeartbeats 4000000 in
theorem bGe (w : World) (o : OpI) (BA : Option Addr) (nn cc : Nat) :
  Calls Tryz.prog 89 #[.agg (eL o BA nn cc).toArray] w (fun ex w' => ∃ v, ex = .returned v ∧ (fun v w' => v = .slice BA nn cc ∧ Below w.heap.size w w') v w') := by
 refine aH #[.tmp 2] 5 Tryz.func89 rfl Tryz.results89 Tryz.ntmps89 rfl ?_
 have M0 := Mem.refl w
 refine aD (aA (bG (.agg (List.toArray _)) M0 rfl rfl rfl (fun b1 w1 M1 => (fP rfl rfl (aB (aC (aD (aA (wq (aE 14 bAr rfl) rfl (wq (aL 0 (.slice _ _ _) aFv M1 rfl rfl rfl) rfl ?_))))))))))
 refine fP rfl rfl (aB (aC (aM (bW (.slice _ _ _) rfl ?_))))
 exact ⟨rfl, M1.below⟩
def oZ (f1 g1 f2 g2 f3 g3 : Nat) (k : Int) : Option Value := if k = 5 then some (.func (.func 93) #[] #[] : Value) else if k = 4 then some (.func (.func 92) #[] #[] : Value) else if k = 3 then some (.func (.func 90) #[] #[] : Value) else if k = 6 then some (.func (.func 123) #[] #[.pointer (some ⟨f3, 0, none⟩), .pointer (some ⟨g3, 0, none⟩)] : Value) else if k = 2 then some (.func (.func 121) #[] #[.pointer (some ⟨f2, 0, none⟩), .pointer (some ⟨g2, 0, none⟩)] : Value) else if k = 1 then some (.func (.func 120) #[] #[.pointer (some ⟨f1, 0, none⟩), .pointer (some ⟨g1, 0, none⟩)] : Value) else none
theorem aUi {f1 g1 f2 g2 f3 g3 : Nat} {k : Int} (h : k = 1) : oZ f1 g1 f2 g2 f3 g3 k = some (.func (.func 120) #[] #[.pointer (some ⟨f1, 0, none⟩), .pointer (some ⟨g1, 0, none⟩)] : Value) := by subst h; rfl
theorem aXt {f1 g1 f2 g2 f3 g3 : Nat} {k : Int} (h : k = 2) : oZ f1 g1 f2 g2 f3 g3 k = some (.func (.func 121) #[] #[.pointer (some ⟨f2, 0, none⟩), .pointer (some ⟨g2, 0, none⟩)] : Value) := by subst h; rfl
theorem aSv {f1 g1 f2 g2 f3 g3 : Nat} {k : Int} (h : k = 6) : oZ f1 g1 f2 g2 f3 g3 k = some (.func (.func 123) #[] #[.pointer (some ⟨f3, 0, none⟩), .pointer (some ⟨g3, 0, none⟩)] : Value) := by subst h; rfl
theorem aTv {f1 g1 f2 g2 f3 g3 : Nat} {k : Int} (h : k = 3) : oZ f1 g1 f2 g2 f3 g3 k = some (.func (.func 90) #[] #[] : Value) := by subst h; rfl
theorem aXl {f1 g1 f2 g2 f3 g3 : Nat} {k : Int} (h : k = 4) : oZ f1 g1 f2 g2 f3 g3 k = some (.func (.func 92) #[] #[] : Value) := by subst h; rfl
theorem aVl {f1 g1 f2 g2 f3 g3 : Nat} {k : Int} (h : k = 5) : oZ f1 g1 f2 g2 f3 g3 k = some (.func (.func 93) #[] #[] : Value) := by subst h; rfl
theorem aSu {f1 g1 f2 g2 f3 g3 : Nat} {k : Int} (h : k < 1 ∨ 6 < k) : oZ f1 g1 f2 g2 f3 g3 k = none := by unfold oZ; rw [if_neg (by omega), if_neg (by omega), if_neg (by omega), if_neg (by omega), if_neg (by omega), if_neg (by omega)]
set_option maxHeartbeats 4000000 in
theorem gK (w : World) :
  Calls Tryz.prog 55 #[] w (fun ex w' => ∃ v, ex = .returned v ∧ (fun v w' => ∃ (p : Option Nat) (e : dN) (f1 g1 f2 g2 f3 g3 : Nat), v = .map p ∧ iC .i64 (fun v : Value => v) (oZ f1 g1 f2 g2 f3 g3) p e ∧ Mem w [] [e, (some f1, bc [(.func (.func 26) #[] #[] : Value)] 143), (some g1, bc [(.func (.func 84) #[] #[] : Value)] 144), (some f2, bc [(.func (.func 86) #[] #[] : Value)] 146), (some g2, bc [(.func (.func 87) #[] #[] : Value)] 148), (some f3, bc [(.func (.func 74) #[] #[] : Value)] 150), (some g3, bc [(.func (.func 89) #[] #[] : Value)] 151)] w') v w') := by
 refine aH #[.tmp 0] 6 Tryz.func55 rfl Tryz.results55 Tryz.ntmps55 rfl ?_
 have M0 := Mem.refl w
 refine aD (aA (wq (aI (.map _) rfl) rfl (aB (aC (aD (aA (kC M0 rfl rfl (fun b1 w1 M1 => (bX bIz rfl rfl (aTx _) ?_)))))))))
 rintro v2 w2 ⟨f1, g1, rfl, hM2⟩
 have M2 : Mem _ _ [_, _, _] _ := M1.call0 hM2
 refine lG (enc := (fun v : Value => v)) (v := (.func _ _ _)) 0 kD M2 rfl rfl (iC.empty _ _ b1) rfl rfl rfl rfl (fun e3 w3 hm3 M3 => (bX bIc rfl rfl (aHr _) ?_))
 rintro v4 w4 ⟨f2, g2, rfl, hM4⟩
 have M4 : Mem _ _ [_, _, _, _, _] _ := M3.call0 hM4
 refine lG (enc := (fun v : Value => v)) (v := (.func _ _ _)) 0 kD M4 rfl rfl hm3 rfl rfl rfl rfl (fun e5 w5 hm5 M5 => (bX bIi rfl rfl (aFq _) ?_))
 rintro v6 w6 ⟨f3, g3, rfl, hM6⟩
 have M6 : Mem _ _ [_, _, _, _, _, _, _] _ := M5.call0 hM6
 refine lG (enc := (fun v : Value => v)) (v := (.func _ _ _)) 0 kD M6 rfl rfl hm5 rfl rfl rfl rfl (fun e7 w7 hm7 M7 => (lG (enc := (fun v : Value => v)) (v := (.func _ _ _)) 0 kD M7 rfl rfl hm7 rfl rfl rfl rfl (fun e8 w8 hm8 M8 => (lG (enc := (fun v : Value => v)) (v := (.func _ _ _)) 0 kD M8 rfl rfl hm8 rfl rfl rfl rfl (fun e9 w9 hm9 M9 => ?_)))))
 refine lG (enc := (fun v : Value => v)) (v := (.func _ _ _)) 0 kD M9 rfl rfl hm9 rfl rfl rfl rfl (fun e10 w10 hm10 M10 => (wq (aG (.map _) rfl) rfl (wq (aI (.map _) rfl) rfl (aB (aC (aM (bW (.map _) rfl ?_)))))))
 exact ⟨_, _, f1, g1, f2, g2, f3, g3, rfl, hm10, M10⟩
set_option maxHeartbeats 16000000 in
theorem aXq (w : World) (b : Nat) (r : StV) (vs : List Body) (hW : bY 39 r vs) (fa ga : Nat) (hO : Own [(some b, bc [.slice r.A r.n r.c, .map r.p] 107), r.er, r.em, (some fa, bc [(.func (.func 26) #[] #[] : Value)] 143), (some ga, bc [(.func (.func 84) #[] #[] : Value)] 144)] w) (o : OpI) (BA : Option Addr) (nn cc : Nat) (hP : OpOk w o BA nn cc) (hnn : nn ≤ 1000000) (hdB : 0 < nn → ∀ q off, BA = some ⟨q, off, none⟩ → q ∉ bH [(some b, bc [.slice r.A r.n r.c, .map r.p] 107), r.er, r.em, (some fa, bc [(.func (.func 26) #[] #[] : Value)] 143), (some ga, bc [(.func (.func 84) #[] #[] : Value)] 144)]) :
  Calls Tryz.prog 120 #[.pointer (some ⟨b, 0, none⟩), .agg (eL o BA nn cc).toArray, .pointer (some ⟨fa, 0, none⟩), .pointer (some ⟨ga, 0, none⟩)] w (fun ex w' => ∃ v, ex = .returned v ∧ (fun v w' => ∃ r' : StV, v = .agg [.int .i64 (nR vs o.body).2, .slice none 0 0, .int .i64 0, .bool false].toArray ∧ bY 39 r' ((nR vs o.body).1) ∧ Mem w (bH [(some b, bc [.slice r.A r.n r.c, .map r.p] 107), r.er, r.em, (some fa, bc [(.func (.func 26) #[] #[] : Value)] 143), (some ga, bc [(.func (.func 84) #[] #[] : Value)] 144)]) [(some b, bc [.slice r'.A r'.n r'.c, .map r'.p] 107), r'.er, r'.em, (some fa, bc [(.func (.func 26) #[] #[] : Value)] 143), (some ga, bc [(.func (.func 84) #[] #[] : Value)] 144)] w') v w') := by
 have hG := hW.1
 have hbl := hP.len
 refine aH #[.cell 6 33] 14 Tryz.func120 rfl Tryz.results120 Tryz.ntmps120 rfl ?_
 have M0 := hO.mem
 refine aD (aA (bG (.agg (List.toArray _)) M0 rfl rfl rfl (fun b1 w1 M1 => (aQ jU M1 rfl rfl (fun b2 w2 M2 => (aB (aC (aD (bO [(0, 1), (1, 0), (2, 1), (3, 1), (4, 2), (5, 2), (6, 0), (7, 2)] mixed rfl (by kernel_rfl) (fun w3 hb3 hh3 => ?_))))))))))
 have M3 := M2.drew hb3 hh3
 refine bV rfl rfl rfl (aL 3 (.func _ _ _) aUz M3 rfl rfl rfl) (aV rfl rfl rfl (fun _ => aG (.pointer _) rfl) (bV rfl rfl rfl (aL 4 (.func _ _ _) bGs M3 rfl rfl rfl) (bV rfl rfl rfl (bC 5 mE M3 rfl rfl rfl) (dG [true, true, false] rfl (by kernel_rfl) (bX bIx rfl rfl (bHf _ o BA nn cc) ?_)))))
 rintro v4 w4 ⟨rfl, hb4⟩
 have M4 := M3.callB hb4
 refine aB (aC ⟨(eF (bK rfl (aL 3 (.func _ _ _) aUz M4 rfl rfl rfl)) dH), ?_⟩)
 refine dG [true] rfl (by kernel_rfl) (bX aOd rfl rfl (qL _ _ r vs hW (M4.ownSeg 0 3) o.body hP.body) ?_)
 rintro v5 w5 ⟨r2, rfl, hw2, hM5⟩
 have M5 : Mem _ _ [_, _, _, _, _, _, _] _ := M4.seg 0 3 hM5
 refine aB (aC ⟨dH, ?_⟩)
 refine aV rfl rfl rfl (fun _ => cH [(0, .int _ _)] _ lT rfl rfl) (dG [] rfl (by kernel_rfl) (bB 6 _ gH M5 rfl rfl rfl rfl rfl (aR rfl) rfl (fun w6 M6 => ?_)))
 refine aB (aC ⟨dH, ?_⟩)
 refine cD (aC (aM (eV 6 gH M6 rfl rfl rfl ?_)))
 exact ⟨r2, rfl, hw2, M6.keep [true, true, true, true, true, false, false]⟩
set_option maxHeartbeats 16000000 in
theorem aGc (w : World) (b : Nat) (r : StV) (vs : List Body) (hW : bY 39 r vs) (fa ga : Nat) (hO : Own [(some b, bc [.slice r.A r.n r.c, .map r.p] 107), r.er, r.em, (some fa, bc [(.func (.func 86) #[] #[] : Value)] 146), (some ga, bc [(.func (.func 87) #[] #[] : Value)] 148)] w) (o : OpI) (BA : Option Addr) (nn cc : Nat) (hP : OpOk w o BA nn cc) (hnn : nn ≤ 1000000) (hdB : 0 < nn → ∀ q off, BA = some ⟨q, off, none⟩ → q ∉ bH [(some b, bc [.slice r.A r.n r.c, .map r.p] 107), r.er, r.em, (some fa, bc [(.func (.func 86) #[] #[] : Value)] 146), (some ga, bc [(.func (.func 87) #[] #[] : Value)] 148)]) :
  Calls Tryz.prog 121 #[.pointer (some ⟨b, 0, none⟩), .agg (eL o BA nn cc).toArray, .pointer (some ⟨fa, 0, none⟩), .pointer (some ⟨ga, 0, none⟩)] w (fun ex w' => ∃ v, ex = .returned v ∧ (fun v w' => ∃ r' : StV, v = .agg [.int .i64 (iI vs o.key).2, .slice none 0 0, .int .i64 0, .bool false].toArray ∧ bY 39 r' ((iI vs o.key).1) ∧ Mem w (bH [(some b, bc [.slice r.A r.n r.c, .map r.p] 107), r.er, r.em, (some fa, bc [(.func (.func 86) #[] #[] : Value)] 146), (some ga, bc [(.func (.func 87) #[] #[] : Value)] 148)]) [(some b, bc [.slice r'.A r'.n r'.c, .map r'.p] 107), r'.er, r'.em, (some fa, bc [(.func (.func 86) #[] #[] : Value)] 146), (some ga, bc [(.func (.func 87) #[] #[] : Value)] 148)] w') v w') := by
 have hG := hW.1
 have hbl := hP.len
 refine aH #[.cell 6 33] 14 Tryz.func121 rfl Tryz.results121 Tryz.ntmps121 rfl ?_
 have M0 := hO.mem
 refine aD (aA (bG (.agg (List.toArray _)) M0 rfl rfl rfl (fun b1 w1 M1 => (aQ jU M1 rfl rfl (fun b2 w2 M2 => (aB (aC (aD (bO [(0, 1), (1, 0), (2, 1), (3, 1), (4, 2), (5, 2), (6, 0), (7, 2)] mixed rfl (by kernel_rfl) (fun w3 hb3 hh3 => ?_))))))))))
 have M3 := M2.drew hb3 hh3
 refine bV rfl rfl rfl (aL 3 (.func _ _ _) aUq M3 rfl rfl rfl) (aV rfl rfl rfl (fun _ => aG (.pointer _) rfl) (bV rfl rfl rfl (aL 4 (.func _ _ _) bEg M3 rfl rfl rfl) (bV rfl rfl rfl (bC 5 mE M3 rfl rfl rfl) (dG [true, true, false] rfl (by kernel_rfl) (bX bIb rfl rfl (bFq _ o BA nn cc) ?_)))))
 rintro v4 w4 ⟨rfl, hb4⟩
 have M4 := M3.callB hb4
 refine aB (aC ⟨(eF (bK rfl (aL 3 (.func _ _ _) aUq M4 rfl rfl rfl)) dH), ?_⟩)
 refine dG [true] rfl (by kernel_rfl) (bX bJw rfl rfl (aEf _ _ r vs hW (M4.ownSeg 0 3) o.key) ?_)
 rintro v5 w5 ⟨r2, rfl, hw2, hM5⟩
 have M5 : Mem _ _ [_, _, _, _, _, _, _] _ := M4.seg 0 3 hM5
 refine aB (aC ⟨dH, ?_⟩)
 refine aV rfl rfl rfl (fun _ => cH [(0, .int _ _)] _ lT rfl rfl) (dG [] rfl (by kernel_rfl) (bB 6 _ gH M5 rfl rfl rfl rfl rfl (aR rfl) rfl (fun w6 M6 => ?_)))
 refine aB (aC ⟨dH, ?_⟩)
 refine cD (aC (aM (eV 6 gH M6 rfl rfl rfl ?_)))
 exact ⟨r2, rfl, hw2, M6.keep [true, true, true, true, true, false, false]⟩
set_option maxHeartbeats 16000000 in
theorem aEy (w : World) (b : Nat) (r : StV) (vs : List Body) (hW : bY 39 r vs) (fa ga : Nat) (hO : Own [(some b, bc [.slice r.A r.n r.c, .map r.p] 107), r.er, r.em, (some fa, bc [(.func (.func 74) #[] #[] : Value)] 150), (some ga, bc [(.func (.func 89) #[] #[] : Value)] 151)] w) (o : OpI) (BA : Option Addr) (nn cc : Nat) (hP : OpOk w o BA nn cc) (hnn : nn ≤ 1000000) (hdB : 0 < nn → ∀ q off, BA = some ⟨q, off, none⟩ → q ∉ bH [(some b, bc [.slice r.A r.n r.c, .map r.p] 107), r.er, r.em, (some fa, bc [(.func (.func 74) #[] #[] : Value)] 150), (some ga, bc [(.func (.func 89) #[] #[] : Value)] 151)]) :
  Calls Tryz.prog 123 #[.pointer (some ⟨b, 0, none⟩), .agg (eL o BA nn cc).toArray, .pointer (some ⟨fa, 0, none⟩), .pointer (some ⟨ga, 0, none⟩)] w (fun ex w' => ∃ v, ex = .returned v ∧ (fun v w' => ∃ r' : StV, v = .agg [.int .i64 (kI o.bytes).2, .slice none 0 0, .int .i64 0, .bool false].toArray ∧ bY 39 r' (yA vs o.bytes) ∧ Mem w (bH [(some b, bc [.slice r.A r.n r.c, .map r.p] 107), r.er, r.em, (some fa, bc [(.func (.func 74) #[] #[] : Value)] 150), (some ga, bc [(.func (.func 89) #[] #[] : Value)] 151)]) [(some b, bc [.slice r'.A r'.n r'.c, .map r'.p] 107), r'.er, r'.em, (some fa, bc [(.func (.func 74) #[] #[] : Value)] 150), (some ga, bc [(.func (.func 89) #[] #[] : Value)] 151)] w') v w') := by
 have hG := hW.1
 have hbl := hP.len
 refine aH #[.cell 6 33] 14 Tryz.func123 rfl Tryz.results123 Tryz.ntmps123 rfl ?_
 have M0 := hO.mem
 refine aD (aA (bG (.agg (List.toArray _)) M0 rfl rfl rfl (fun b1 w1 M1 => (aQ jU M1 rfl rfl (fun b2 w2 M2 => (aB (aC (aD (bO [(0, 1), (1, 0), (2, 1), (3, 1), (4, 2), (5, 2), (6, 0), (7, 2)] mixed rfl (by kernel_rfl) (fun w3 hb3 hh3 => ?_))))))))))
 have M3 := M2.drew hb3 hh3
 refine bV rfl rfl rfl (aL 3 (.func _ _ _) aVz M3 rfl rfl rfl) (aV rfl rfl rfl (fun _ => aG (.pointer _) rfl) (bV rfl rfl rfl (aL 4 (.func _ _ _) bHd M3 rfl rfl rfl) (bV rfl rfl rfl (bC 5 mE M3 rfl rfl rfl) (dG [true, true, false] rfl (by kernel_rfl) (bX bIa rfl rfl (bGe _ o BA nn cc) ?_)))))
 rintro v4 w4 ⟨rfl, hb4⟩
 have M4 := M3.callB hb4
 refine aB (aC ⟨(eF (bK rfl (aL 3 (.func _ _ _) aVz M4 rfl rfl rfl)) dH), ?_⟩)
 refine dG [true] rfl (by kernel_rfl) (bX bIv rfl rfl (aBk _ _ r vs hW (M4.ownSeg 0 3) BA nn cc o.bytes (hP.rd.memY M4 hdB) hP.byt hP.cap hnn (M4.away 0 3 hP.rd hdB)) ?_)
 rintro v5 w5 ⟨r2, rfl, hw2, hM5⟩
 have M5 : Mem _ _ [_, _, _, _, _, _, _] _ := M4.seg 0 3 hM5
 refine aB (aC ⟨dH, ?_⟩)
 refine aV rfl rfl rfl (fun _ => cH [(0, .int _ _)] _ lT rfl rfl) (dG [] rfl (by kernel_rfl) (bB 6 _ gH M5 rfl rfl rfl rfl rfl (aR rfl) rfl (fun w6 M6 => ?_)))
 refine aB (aC ⟨dH, ?_⟩)
 refine cD (aC (aM (eV 6 gH M6 rfl rfl rfl ?_)))
 exact ⟨r2, rfl, hw2, M6.keep [true, true, true, true, true, false, false]⟩
set_option maxHeartbeats 32000000 in
theorem aDr (w : World)  (b : Nat) (r : StV) (vs : List Body) (hW : bY 39 r vs) (hO : Own [(some b, bc [.slice r.A r.n r.c, .map r.p] 107), r.er, r.em] w) (o : OpI) (BA : Option Addr) (nn cc : Nat) (hP : OpOk w o BA nn cc) (hnn : nn ≤ 1000000) (hdB : 0 < nn → ∀ q off, BA = some ⟨q, off, none⟩ → q ∉ bH [(some b, bc [.slice r.A r.n r.c, .map r.p] 107), r.er, r.em]) (hk : o.kind = 3) :
  Calls Tryz.prog 90 #[.pointer (some ⟨b, 0, none⟩), .agg (eL o BA nn cc).toArray] w (fun ex w' => ∃ v, ex = .returned v ∧ (fun v w' => ∃ (r' : StV) (p : Row), v = .agg (eM (jB vs o).2 p).toArray ∧ bY 39 r' (jB vs o).1 ∧ aW 5 1 p.A p.n p.c (((jB vs o).2.bytes).map bI) p.e ∧ Mem w (bH [(some b, bc [.slice r.A r.n r.c, .map r.p] 107), r.er, r.em]) [(some b, bc [.slice r'.A r'.n r'.c, .map r'.p] 107), r'.er, r'.em, p.e] w') v w') := by
 have hG := hW.1
 have hbl := hP.len
 refine aH #[.cell 4 33] 12 Tryz.func90 rfl Tryz.results90 Tryz.ntmps90 rfl ?_
 have M0 := hO.mem
 refine aD (aA (bG (.agg (List.toArray _)) M0 rfl rfl rfl (fun b1 w1 M1 => (aQ jU M1 rfl rfl (fun b2 w2 M2 => (aB (aC (aD (aA (wq (aG (.pointer _) rfl) rfl (wq (aE 11 aOc rfl) rfl ?_)))))))))))
 refine wq (aL 3 (.int _ _) cC M2 rfl rfl rfl) rfl (wq (aE 12 aYz rfl) rfl (wq (tX 3 _ bM M2 rfl rfl rfl rfl) rfl (bX bJp rfl rfl (aBi _ _ r vs hW (M2.ownSeg 0 3) o.key o.push hP.p1 hP.p2) ?_)))
 rintro v3 w3 ⟨r2, rfl, hw2, hM3⟩
 have M3 : Mem _ _ [_, _, _, _, _] _ := M2.seg 0 3 hM3
 refine wq (cH [(0, .int _ _)] _ lT rfl rfl) rfl (bB 4 _ gH M3 rfl rfl rfl rfl rfl (aR rfl) rfl (fun w4 M4 => (aB (aC (aM (eV 4 gH M4 rfl rfl rfl ?_))))))
 exact ⟨r2, ⟨none, 0, 0, (none, default)⟩, by rw [bHl hk]; rfl, by rw [bHl hk]; exact hw2, by rw [bHl hk]; exact aW.nil _ _ _, (M4.keep [true, true, true, false, false]).dummy default⟩
set_option maxHeartbeats 32000000 in
theorem aRc (w : World) (F : Rd w 2 (some ⟨0, 0, none⟩) 1 [[.int .u32 73856093, .int .u32 19349663]]) (N : Rd w 4 (some ⟨3, 0, none⟩) 1 [cY gO]) (b : Nat) (r : StV) (vs : List Body) (hW : bY 39 r vs) (hO : Own [(some b, bc [.slice r.A r.n r.c, .map r.p] 107), r.er, r.em] w) (o : OpI) (BA : Option Addr) (nn cc : Nat) (hP : OpOk w o BA nn cc) (hnn : nn ≤ 1000000) (hdB : 0 < nn → ∀ q off, BA = some ⟨q, off, none⟩ → q ∉ bH [(some b, bc [.slice r.A r.n r.c, .map r.p] 107), r.er, r.em]) (hdF : 0 < 1 → ∀ q off, (some ⟨0, 0, none⟩ : Option Addr) = some ⟨q, off, none⟩ → q ∉ bH [(some b, bc [.slice r.A r.n r.c, .map r.p] 107), r.er, r.em]) (hdN : 0 < 1 → ∀ q off, (some ⟨3, 0, none⟩ : Option Addr) = some ⟨q, off, none⟩ → q ∉ bH [(some b, bc [.slice r.A r.n r.c, .map r.p] 107), r.er, r.em]) (hk : o.kind = 4) :
  Calls Tryz.prog 92 #[.pointer (some ⟨b, 0, none⟩), .agg (eL o BA nn cc).toArray] w (fun ex w' => ∃ v, ex = .returned v ∧ (fun v w' => ∃ (r' : StV) (p : Row), v = .agg (eM (jB vs o).2 p).toArray ∧ bY 39 r' (jB vs o).1 ∧ aW 5 1 p.A p.n p.c (((jB vs o).2.bytes).map bI) p.e ∧ Mem w (bH [(some b, bc [.slice r.A r.n r.c, .map r.p] 107), r.er, r.em]) [(some b, bc [.slice r'.A r'.n r'.c, .map r'.p] 107), r'.er, r'.em, p.e] w') v w') := by
 have hG := hW.1
 have hbl := hP.len
 refine aH #[.cell 4 33] 13 Tryz.func92 rfl Tryz.results92 Tryz.ntmps92 rfl ?_
 have M0 := hO.mem
 refine aD (aA (bG (.agg (List.toArray _)) M0 rfl rfl rfl (fun b1 w1 M1 => (aQ jU M1 rfl rfl (fun b2 w2 M2 => (aB (aC (aD (aA (wq (aG (.pointer _) rfl) rfl (bX bCv rfl rfl (aMf _ (F.memY M2 hdF) (N.memY M2 hdN) _ r vs hW (M2.ownSeg 0 3) (M2.away 0 3 F hdF) (M2.away 0 3 N hdN)) ?_)))))))))))
 rintro v3 w3 ⟨r2, ts, rfl, hw2, hM3⟩
 have M3 : Mem _ _ [_, _, _, _, _] _ := M2.seg 0 3 hM3
 refine aQ sL M3 rfl rfl (fun b4 w4 M4 => (bB 5 _ nP M4 rfl rfl rfl rfl rfl (aR rfl) rfl (fun w5 M5 => (aB (aC (aD (aA (wq (aE 1 aFi rfl) rfl (wq (aL 5 (.int _ _) jC M5 rfl rfl rfl) rfl (wq (aE 2 sO rfl) rfl ?_))))))))))
 refine wq (aL 5 (.bool _) nV M5 rfl rfl rfl) rfl (wq (cH [(2, .int _ _), (3, .bool _)] _ lT rfl rfl) rfl (bB 4 _ gH M5 rfl rfl rfl rfl rfl (aR rfl) rfl (fun w6 M6 => (aB (aC (aM (eV 4 gH M6 rfl rfl rfl ?_)))))))
 exact ⟨r2, ⟨none, 0, 0, (none, default)⟩, by rw [bEc hk]; rfl, by rw [bEc hk]; exact hw2, by rw [bEc hk]; exact aW.nil _ _ _, (M6.keep [true, true, true, false, false, false]).dummy default⟩
set_option maxHeartbeats 32000000 in
theorem aBe (w : World)  (b : Nat) (r : StV) (vs : List Body) (hW : bY 39 r vs) (hO : Own [(some b, bc [.slice r.A r.n r.c, .map r.p] 107), r.er, r.em] w) (o : OpI) (BA : Option Addr) (nn cc : Nat) (hP : OpOk w o BA nn cc) (hnn : nn ≤ 1000000) (hdB : 0 < nn → ∀ q off, BA = some ⟨q, off, none⟩ → q ∉ bH [(some b, bc [.slice r.A r.n r.c, .map r.p] 107), r.er, r.em]) (hk : o.kind = 5) :
  Calls Tryz.prog 93 #[.pointer (some ⟨b, 0, none⟩), .agg (eL o BA nn cc).toArray] w (fun ex w' => ∃ v, ex = .returned v ∧ (fun v w' => ∃ (r' : StV) (p : Row), v = .agg (eM (jB vs o).2 p).toArray ∧ bY 39 r' (jB vs o).1 ∧ aW 5 1 p.A p.n p.c (((jB vs o).2.bytes).map bI) p.e ∧ Mem w (bH [(some b, bc [.slice r.A r.n r.c, .map r.p] 107), r.er, r.em]) [(some b, bc [.slice r'.A r'.n r'.c, .map r'.p] 107), r'.er, r'.em, p.e] w') v w') := by
 have hG := hW.1
 have hbl := hP.len
 refine aH #[.cell 4 33] 8 Tryz.func93 rfl Tryz.results93 Tryz.ntmps93 rfl ?_
 have M0 := hO.mem
 refine aD (aA (bG (.agg (List.toArray _)) M0 rfl rfl rfl (fun b1 w1 M1 => (aQ jU M1 rfl rfl (fun b2 w2 M2 => (aB (aC (aD (aA (wq (aG (.pointer _) rfl) rfl (bX aCn rfl rfl (gC _ _ r vs hW (M2.ownSeg 0 3)) ?_)))))))))))
 rintro v3 w3 ⟨pb, rfl, hpb, hM3⟩
 have M3 : Mem _ _ [_, _, _, _, _, _] _ := M2.seg 0 3 hM3
 refine wq (cH [(1, .slice _ _ _)] _ lT rfl rfl) rfl (bB 4 _ gH M3 rfl rfl rfl rfl rfl (aR rfl) rfl (fun w4 M4 => (aB (aC (aM (eV 4 gH M4 rfl rfl rfl ?_))))))
 exact ⟨r, pb, by rw [bCy hk]; rfl, by rw [bCy hk]; exact hW, by rw [bCy hk]; exact hpb, (M4.keep [true, true, true, false, false, true])⟩
set_option maxHeartbeats 32000000 in
theorem aMk (w : World)  (b : Nat) (r : StV) (vs : List Body) (hW : bY 39 r vs) (hO : Own [(some b, bc [.slice r.A r.n r.c, .map r.p] 107), r.er, r.em] w) (o : OpI) (BA : Option Addr) (nn cc : Nat) (hP : OpOk w o BA nn cc) (hnn : nn ≤ 1000000) (hdB : 0 < nn → ∀ q off, BA = some ⟨q, off, none⟩ → q ∉ bH [(some b, bc [.slice r.A r.n r.c, .map r.p] 107), r.er, r.em]) (hk : o.kind = 1) :
  Calls Tryz.prog 20 #[.pointer (some ⟨b, 0, none⟩), .agg (eL o BA nn cc).toArray] w (fun ex w' => ∃ v, ex = .returned v ∧ (fun v w' => ∃ (r' : StV) (p : Row), v = .agg (eM (jB vs o).2 p).toArray ∧ bY 39 r' (jB vs o).1 ∧ aW 5 1 p.A p.n p.c (((jB vs o).2.bytes).map bI) p.e ∧ Mem w (bH [(some b, bc [.slice r.A r.n r.c, .map r.p] 107), r.er, r.em]) [(some b, bc [.slice r'.A r'.n r'.c, .map r'.p] 107), r'.er, r'.em, p.e] w') v w') := by
 have hG := hW.1
 have hbl := hP.len
 refine aH #[.cell 4 33] 21 Tryz.func20 rfl Tryz.results20 Tryz.ntmps20 rfl ?_
 have M0 := hO.mem
 refine aD (aA (bG (.agg (List.toArray _)) M0 rfl rfl rfl (fun b1 w1 M1 => (aQ jU M1 rfl rfl (fun b2 w2 M2 => (aB (aC (aD (bO [(1, 0), (2, 1), (0, 2), (3, 1), (4, 0), (5, 0), (6, 0), (7, 0), (8, 0)] mixed rfl (by kernel_rfl) (fun w3 hb3 hh3 => ?_))))))))))
 have M3 := M2.drew hb3 hh3
 refine aV rfl rfl rfl (fun _ => aE 0 oN rfl) (bV rfl rfl rfl (aL 3 (.int _ _) jC M3 rfl rfl rfl) (dG [false] rfl (by kernel_rfl) (bX xS rfl rfl (gK _) ?_)))
 rintro v4 w4 ⟨pm, em, f1, g1, f2, g2, f3, g3, rfl, hmap, hM4⟩
 have M4 : Mem _ _ [_, _, _, _, _, _, _, _, _, _, _, _] _ := M3.call0 hM4
 refine aB (aC ⟨(eF (bK rfl (aL 3 (.int _ _) jC M4 rfl rfl rfl)) dH), ?_⟩)
 refine bV rfl rfl rfl (gY (enc := (fun v : Value => v)) .nilFunc 5 kD aKs M4 rfl hmap rfl rfl) (fH 11 (.tuple [(.func (.func 120) #[] #[.pointer (some ⟨f1, 0, none⟩), .pointer (some ⟨g1, 0, none⟩)] : Value), .bool true].toArray) (lJ (aUi hk)) (aV rfl rfl rfl (fun _ => aG (.tuple (List.toArray _)) rfl) ?_))
 refine aV rfl rfl rfl (fun _ => bE (.func _ _ _) rfl rfl) (aV rfl rfl rfl (fun _ => bE (.bool true) rfl rfl) (aV rfl rfl rfl (fun _ => aI (.func _ _ _) rfl) (aV rfl rfl rfl (fun _ => aI (.bool true) rfl) (cD (aC (aD (aD (aA ?_))))))))
 refine wq (aG (.bool true) rfl) rfl (wq (fO false rfl rfl) rfl (aB (aC (cB rfl (aK (aC (aD (aA (wq (aG (.func _ _ _) rfl) rfl ?_)))))))))
 refine wq (aG (.pointer _) rfl) rfl (wq (bC 3 mE M4 rfl rfl rfl) rfl (bX bEj rfl rfl (aXq _ _ r vs hW _ _ (M4.ownK [true, true, true, false, false, false, true, true, false, false, false, false]) o BA nn cc (hP.memY M4 hdB) hnn (M4.awayK [true, true, true, false, false, false, true, true, false, false, false, false] hP.rd hdB)) ?_))
 rintro v5 w5 ⟨r2, rfl, hw2, hM5⟩
 have M5 : Mem _ _ [_, _, _, _, _, _, _, _, _, _, _, _] _ := M4.callK [true, true, true, false, false, false, true, true, false, false, false, false] rfl hM5
 refine bB 6 _ gH M5 rfl rfl rfl rfl rfl (aR rfl) rfl (fun w6 M6 => (aB (aC (aM (eV 6 gH M6 rfl rfl rfl ?_)))))
 exact ⟨r2, ⟨none, 0, 0, (none, default)⟩, by rw [aQk hk]; rfl, by rw [aQk hk]; exact hw2, by rw [aQk hk]; exact aW.nil _ _ _, (M6.keep [true, true, true, false, false, false, false, false, false, false, false, false]).dummy default⟩
set_option maxHeartbeats 32000000 in
theorem aMd (w : World)  (b : Nat) (r : StV) (vs : List Body) (hW : bY 39 r vs) (hO : Own [(some b, bc [.slice r.A r.n r.c, .map r.p] 107), r.er, r.em] w) (o : OpI) (BA : Option Addr) (nn cc : Nat) (hP : OpOk w o BA nn cc) (hnn : nn ≤ 1000000) (hdB : 0 < nn → ∀ q off, BA = some ⟨q, off, none⟩ → q ∉ bH [(some b, bc [.slice r.A r.n r.c, .map r.p] 107), r.er, r.em]) (hk : o.kind = 2) :
  Calls Tryz.prog 20 #[.pointer (some ⟨b, 0, none⟩), .agg (eL o BA nn cc).toArray] w (fun ex w' => ∃ v, ex = .returned v ∧ (fun v w' => ∃ (r' : StV) (p : Row), v = .agg (eM (jB vs o).2 p).toArray ∧ bY 39 r' (jB vs o).1 ∧ aW 5 1 p.A p.n p.c (((jB vs o).2.bytes).map bI) p.e ∧ Mem w (bH [(some b, bc [.slice r.A r.n r.c, .map r.p] 107), r.er, r.em]) [(some b, bc [.slice r'.A r'.n r'.c, .map r'.p] 107), r'.er, r'.em, p.e] w') v w') := by
 have hG := hW.1
 have hbl := hP.len
 refine aH #[.cell 4 33] 21 Tryz.func20 rfl Tryz.results20 Tryz.ntmps20 rfl ?_
 have M0 := hO.mem
 refine aD (aA (bG (.agg (List.toArray _)) M0 rfl rfl rfl (fun b1 w1 M1 => (aQ jU M1 rfl rfl (fun b2 w2 M2 => (aB (aC (aD (bO [(1, 0), (2, 1), (0, 2), (3, 1), (4, 0), (5, 0), (6, 0), (7, 0), (8, 0)] mixed rfl (by kernel_rfl) (fun w3 hb3 hh3 => ?_))))))))))
 have M3 := M2.drew hb3 hh3
 refine aV rfl rfl rfl (fun _ => aE 0 oN rfl) (bV rfl rfl rfl (aL 3 (.int _ _) jC M3 rfl rfl rfl) (dG [false] rfl (by kernel_rfl) (bX xS rfl rfl (gK _) ?_)))
 rintro v4 w4 ⟨pm, em, f1, g1, f2, g2, f3, g3, rfl, hmap, hM4⟩
 have M4 : Mem _ _ [_, _, _, _, _, _, _, _, _, _, _, _] _ := M3.call0 hM4
 refine aB (aC ⟨(eF (bK rfl (aL 3 (.int _ _) jC M4 rfl rfl rfl)) dH), ?_⟩)
 refine bV rfl rfl rfl (gY (enc := (fun v : Value => v)) .nilFunc 5 kD aKs M4 rfl hmap rfl rfl) (fH 11 (.tuple [(.func (.func 121) #[] #[.pointer (some ⟨f2, 0, none⟩), .pointer (some ⟨g2, 0, none⟩)] : Value), .bool true].toArray) (lJ (aXt hk)) (aV rfl rfl rfl (fun _ => aG (.tuple (List.toArray _)) rfl) ?_))
 refine aV rfl rfl rfl (fun _ => bE (.func _ _ _) rfl rfl) (aV rfl rfl rfl (fun _ => bE (.bool true) rfl rfl) (aV rfl rfl rfl (fun _ => aI (.func _ _ _) rfl) (aV rfl rfl rfl (fun _ => aI (.bool true) rfl) (cD (aC (aD (aD (aA ?_))))))))
 refine wq (aG (.bool true) rfl) rfl (wq (fO false rfl rfl) rfl (aB (aC (cB rfl (aK (aC (aD (aA (wq (aG (.func _ _ _) rfl) rfl ?_)))))))))
 refine wq (aG (.pointer _) rfl) rfl (wq (bC 3 mE M4 rfl rfl rfl) rfl (bX bHk rfl rfl (aGc _ _ r vs hW _ _ (M4.ownK [true, true, true, false, false, false, false, false, true, true, false, false]) o BA nn cc (hP.memY M4 hdB) hnn (M4.awayK [true, true, true, false, false, false, false, false, true, true, false, false] hP.rd hdB)) ?_))
 rintro v5 w5 ⟨r2, rfl, hw2, hM5⟩
 have M5 : Mem _ _ [_, _, _, _, _, _, _, _, _, _, _, _] _ := M4.callK [true, true, true, false, false, false, false, false, true, true, false, false] rfl hM5
 refine bB 6 _ gH M5 rfl rfl rfl rfl rfl (aR rfl) rfl (fun w6 M6 => (aB (aC (aM (eV 6 gH M6 rfl rfl rfl ?_)))))
 exact ⟨r2, ⟨none, 0, 0, (none, default)⟩, by rw [bFe hk]; rfl, by rw [bFe hk]; exact hw2, by rw [bFe hk]; exact aW.nil _ _ _, (M6.keep [true, true, true, false, false, false, false, false, false, false, false, false]).dummy default⟩
set_option maxHeartbeats 32000000 in
theorem aLj (w : World)  (b : Nat) (r : StV) (vs : List Body) (hW : bY 39 r vs) (hO : Own [(some b, bc [.slice r.A r.n r.c, .map r.p] 107), r.er, r.em] w) (o : OpI) (BA : Option Addr) (nn cc : Nat) (hP : OpOk w o BA nn cc) (hnn : nn ≤ 1000000) (hdB : 0 < nn → ∀ q off, BA = some ⟨q, off, none⟩ → q ∉ bH [(some b, bc [.slice r.A r.n r.c, .map r.p] 107), r.er, r.em]) (hk : o.kind = 6) :
  Calls Tryz.prog 20 #[.pointer (some ⟨b, 0, none⟩), .agg (eL o BA nn cc).toArray] w (fun ex w' => ∃ v, ex = .returned v ∧ (fun v w' => ∃ (r' : StV) (p : Row), v = .agg (eM (jB vs o).2 p).toArray ∧ bY 39 r' (jB vs o).1 ∧ aW 5 1 p.A p.n p.c (((jB vs o).2.bytes).map bI) p.e ∧ Mem w (bH [(some b, bc [.slice r.A r.n r.c, .map r.p] 107), r.er, r.em]) [(some b, bc [.slice r'.A r'.n r'.c, .map r'.p] 107), r'.er, r'.em, p.e] w') v w') := by
 have hG := hW.1
 have hbl := hP.len
 refine aH #[.cell 4 33] 21 Tryz.func20 rfl Tryz.results20 Tryz.ntmps20 rfl ?_
 have M0 := hO.mem
 refine aD (aA (bG (.agg (List.toArray _)) M0 rfl rfl rfl (fun b1 w1 M1 => (aQ jU M1 rfl rfl (fun b2 w2 M2 => (aB (aC (aD (bO [(1, 0), (2, 1), (0, 2), (3, 1), (4, 0), (5, 0), (6, 0), (7, 0), (8, 0)] mixed rfl (by kernel_rfl) (fun w3 hb3 hh3 => ?_))))))))))
 have M3 := M2.drew hb3 hh3
 refine aV rfl rfl rfl (fun _ => aE 0 oN rfl) (bV rfl rfl rfl (aL 3 (.int _ _) jC M3 rfl rfl rfl) (dG [false] rfl (by kernel_rfl) (bX xS rfl rfl (gK _) ?_)))
 rintro v4 w4 ⟨pm, em, f1, g1, f2, g2, f3, g3, rfl, hmap, hM4⟩
 have M4 : Mem _ _ [_, _, _, _, _, _, _, _, _, _, _, _] _ := M3.call0 hM4
 refine aB (aC ⟨(eF (bK rfl (aL 3 (.int _ _) jC M4 rfl rfl rfl)) dH), ?_⟩)
 refine bV rfl rfl rfl (gY (enc := (fun v : Value => v)) .nilFunc 5 kD aKs M4 rfl hmap rfl rfl) (fH 11 (.tuple [(.func (.func 123) #[] #[.pointer (some ⟨f3, 0, none⟩), .pointer (some ⟨g3, 0, none⟩)] : Value), .bool true].toArray) (lJ (aSv hk)) (aV rfl rfl rfl (fun _ => aG (.tuple (List.toArray _)) rfl) ?_))
 refine aV rfl rfl rfl (fun _ => bE (.func _ _ _) rfl rfl) (aV rfl rfl rfl (fun _ => bE (.bool true) rfl rfl) (aV rfl rfl rfl (fun _ => aI (.func _ _ _) rfl) (aV rfl rfl rfl (fun _ => aI (.bool true) rfl) (cD (aC (aD (aD (aA ?_))))))))
 refine wq (aG (.bool true) rfl) rfl (wq (fO false rfl rfl) rfl (aB (aC (cB rfl (aK (aC (aD (aA (wq (aG (.func _ _ _) rfl) rfl ?_)))))))))
 refine wq (aG (.pointer _) rfl) rfl (wq (bC 3 mE M4 rfl rfl rfl) rfl (bX bEp rfl rfl (aEy _ _ r vs hW _ _ (M4.ownK [true, true, true, false, false, false, false, false, false, false, true, true]) o BA nn cc (hP.memY M4 hdB) hnn (M4.awayK [true, true, true, false, false, false, false, false, false, false, true, true] hP.rd hdB)) ?_))
 rintro v5 w5 ⟨r2, rfl, hw2, hM5⟩
 have M5 : Mem _ _ [_, _, _, _, _, _, _, _, _, _, _, _] _ := M4.callK [true, true, true, false, false, false, false, false, false, false, true, true] rfl hM5
 refine bB 6 _ gH M5 rfl rfl rfl rfl rfl (aR rfl) rfl (fun w6 M6 => (aB (aC (aM (eV 6 gH M6 rfl rfl rfl ?_)))))
 exact ⟨r2, ⟨none, 0, 0, (none, default)⟩, by rw [bFy hk]; rfl, by rw [bFy hk]; exact hw2, by rw [bFy hk]; exact aW.nil _ _ _, (M6.keep [true, true, true, false, false, false, false, false, false, false, false, false]).dummy default⟩
set_option maxHeartbeats 32000000 in
theorem aMi (w : World)  (b : Nat) (r : StV) (vs : List Body) (hW : bY 39 r vs) (hO : Own [(some b, bc [.slice r.A r.n r.c, .map r.p] 107), r.er, r.em] w) (o : OpI) (BA : Option Addr) (nn cc : Nat) (hP : OpOk w o BA nn cc) (hnn : nn ≤ 1000000) (hdB : 0 < nn → ∀ q off, BA = some ⟨q, off, none⟩ → q ∉ bH [(some b, bc [.slice r.A r.n r.c, .map r.p] 107), r.er, r.em]) (hk : o.kind = 3) :
  Calls Tryz.prog 20 #[.pointer (some ⟨b, 0, none⟩), .agg (eL o BA nn cc).toArray] w (fun ex w' => ∃ v, ex = .returned v ∧ (fun v w' => ∃ (r' : StV) (p : Row), v = .agg (eM (jB vs o).2 p).toArray ∧ bY 39 r' (jB vs o).1 ∧ aW 5 1 p.A p.n p.c (((jB vs o).2.bytes).map bI) p.e ∧ Mem w (bH [(some b, bc [.slice r.A r.n r.c, .map r.p] 107), r.er, r.em]) [(some b, bc [.slice r'.A r'.n r'.c, .map r'.p] 107), r'.er, r'.em, p.e] w') v w') := by
 have hG := hW.1
 have hbl := hP.len
 refine aH #[.cell 4 33] 21 Tryz.func20 rfl Tryz.results20 Tryz.ntmps20 rfl ?_
 have M0 := hO.mem
 refine aD (aA (bG (.agg (List.toArray _)) M0 rfl rfl rfl (fun b1 w1 M1 => (aQ jU M1 rfl rfl (fun b2 w2 M2 => (aB (aC (aD (bO [(1, 0), (2, 1), (0, 2), (3, 1), (4, 0), (5, 0), (6, 0), (7, 0), (8, 0)] mixed rfl (by kernel_rfl) (fun w3 hb3 hh3 => ?_))))))))))
 have M3 := M2.drew hb3 hh3
 refine aV rfl rfl rfl (fun _ => aE 0 oN rfl) (bV rfl rfl rfl (aL 3 (.int _ _) jC M3 rfl rfl rfl) (dG [false] rfl (by kernel_rfl) (bX xS rfl rfl (gK _) ?_)))
 rintro v4 w4 ⟨pm, em, f1, g1, f2, g2, f3, g3, rfl, hmap, hM4⟩
 have M4 : Mem _ _ [_, _, _, _, _, _, _, _, _, _, _, _] _ := M3.call0 hM4
 refine aB (aC ⟨(eF (bK rfl (aL 3 (.int _ _) jC M4 rfl rfl rfl)) dH), ?_⟩)
 refine bV rfl rfl rfl (gY (enc := (fun v : Value => v)) .nilFunc 5 kD aKs M4 rfl hmap rfl rfl) (fH 11 (.tuple [(.func (.func 90) #[] #[] : Value), .bool true].toArray) (lJ (aTv hk)) (aV rfl rfl rfl (fun _ => aG (.tuple (List.toArray _)) rfl) (aV rfl rfl rfl (fun _ => bE (.func _ _ _) rfl rfl) ?_)))
 refine aV rfl rfl rfl (fun _ => bE (.bool true) rfl rfl) (aV rfl rfl rfl (fun _ => aI (.func _ _ _) rfl) (aV rfl rfl rfl (fun _ => aI (.bool true) rfl) (cD (aC (aD (aD (aA (wq (aG (.bool true) rfl) rfl ?_))))))))
 refine wq (fO false rfl rfl) rfl (aB (aC (cB rfl (aK (aC (aD (aA (wq (aG (.func _ _ _) rfl) rfl (wq (aG (.pointer _) rfl) rfl ?_)))))))))
 refine wq (bC 3 mE M4 rfl rfl rfl) rfl (bX bHs rfl rfl (aDr _ _ r vs hW (M4.ownSeg 0 3) o BA nn cc (hP.memY M4 hdB) hnn (M4.away 0 3 hP.rd hdB)  hk) ?_)
 rintro v5 w5 ⟨r2, p2, rfl, hw2, hp2, hM5⟩
 have M5 : Mem _ _ [_, _, _, _, _, _, _, _, _, _, _, _, _] _ := M4.seg 0 3 hM5
 refine bB 4 _ gH M5 rfl rfl rfl rfl rfl (aR rfl) rfl (fun w6 M6 => (aB (aC (aM (eV 4 gH M6 rfl rfl rfl ?_)))))
 exact ⟨r2, p2, rfl, hw2, hp2, M6.keep [true, true, true, false, false, false, false, false, false, false, false, false, true]⟩
set_option maxHeartbeats 32000000 in
theorem aLk (w : World) (F : Rd w 2 (some ⟨0, 0, none⟩) 1 [[.int .u32 73856093, .int .u32 19349663]]) (N : Rd w 4 (some ⟨3, 0, none⟩) 1 [cY gO]) (b : Nat) (r : StV) (vs : List Body) (hW : bY 39 r vs) (hO : Own [(some b, bc [.slice r.A r.n r.c, .map r.p] 107), r.er, r.em] w) (o : OpI) (BA : Option Addr) (nn cc : Nat) (hP : OpOk w o BA nn cc) (hnn : nn ≤ 1000000) (hdB : 0 < nn → ∀ q off, BA = some ⟨q, off, none⟩ → q ∉ bH [(some b, bc [.slice r.A r.n r.c, .map r.p] 107), r.er, r.em]) (hdF : 0 < 1 → ∀ q off, (some ⟨0, 0, none⟩ : Option Addr) = some ⟨q, off, none⟩ → q ∉ bH [(some b, bc [.slice r.A r.n r.c, .map r.p] 107), r.er, r.em]) (hdN : 0 < 1 → ∀ q off, (some ⟨3, 0, none⟩ : Option Addr) = some ⟨q, off, none⟩ → q ∉ bH [(some b, bc [.slice r.A r.n r.c, .map r.p] 107), r.er, r.em]) (hk : o.kind = 4) :
  Calls Tryz.prog 20 #[.pointer (some ⟨b, 0, none⟩), .agg (eL o BA nn cc).toArray] w (fun ex w' => ∃ v, ex = .returned v ∧ (fun v w' => ∃ (r' : StV) (p : Row), v = .agg (eM (jB vs o).2 p).toArray ∧ bY 39 r' (jB vs o).1 ∧ aW 5 1 p.A p.n p.c (((jB vs o).2.bytes).map bI) p.e ∧ Mem w (bH [(some b, bc [.slice r.A r.n r.c, .map r.p] 107), r.er, r.em]) [(some b, bc [.slice r'.A r'.n r'.c, .map r'.p] 107), r'.er, r'.em, p.e] w') v w') := by
 have hG := hW.1
 have hbl := hP.len
 refine aH #[.cell 4 33] 21 Tryz.func20 rfl Tryz.results20 Tryz.ntmps20 rfl ?_
 have M0 := hO.mem
 refine aD (aA (bG (.agg (List.toArray _)) M0 rfl rfl rfl (fun b1 w1 M1 => (aQ jU M1 rfl rfl (fun b2 w2 M2 => (aB (aC (aD (bO [(1, 0), (2, 1), (0, 2), (3, 1), (4, 0), (5, 0), (6, 0), (7, 0), (8, 0)] mixed rfl (by kernel_rfl) (fun w3 hb3 hh3 => ?_))))))))))
 have M3 := M2.drew hb3 hh3
 refine aV rfl rfl rfl (fun _ => aE 0 oN rfl) (bV rfl rfl rfl (aL 3 (.int _ _) jC M3 rfl rfl rfl) (dG [false] rfl (by kernel_rfl) (bX xS rfl rfl (gK _) ?_)))
 rintro v4 w4 ⟨pm, em, f1, g1, f2, g2, f3, g3, rfl, hmap, hM4⟩
 have M4 : Mem _ _ [_, _, _, _, _, _, _, _, _, _, _, _] _ := M3.call0 hM4
 refine aB (aC ⟨(eF (bK rfl (aL 3 (.int _ _) jC M4 rfl rfl rfl)) dH), ?_⟩)
 refine bV rfl rfl rfl (gY (enc := (fun v : Value => v)) .nilFunc 5 kD aKs M4 rfl hmap rfl rfl) (fH 11 (.tuple [(.func (.func 92) #[] #[] : Value), .bool true].toArray) (lJ (aXl hk)) (aV rfl rfl rfl (fun _ => aG (.tuple (List.toArray _)) rfl) (aV rfl rfl rfl (fun _ => bE (.func _ _ _) rfl rfl) ?_)))
 refine aV rfl rfl rfl (fun _ => bE (.bool true) rfl rfl) (aV rfl rfl rfl (fun _ => aI (.func _ _ _) rfl) (aV rfl rfl rfl (fun _ => aI (.bool true) rfl) (cD (aC (aD (aD (aA (wq (aG (.bool true) rfl) rfl ?_))))))))
 refine wq (fO false rfl rfl) rfl (aB (aC (cB rfl (aK (aC (aD (aA (wq (aG (.func _ _ _) rfl) rfl (wq (aG (.pointer _) rfl) rfl ?_)))))))))
 refine wq (bC 3 mE M4 rfl rfl rfl) rfl (bX bJq rfl rfl (aRc _ (F.memY M4 hdF) (N.memY M4 hdN) _ r vs hW (M4.ownSeg 0 3) o BA nn cc (hP.memY M4 hdB) hnn (M4.away 0 3 hP.rd hdB) (M4.away 0 3 F hdF) (M4.away 0 3 N hdN) hk) ?_)
 rintro v5 w5 ⟨r2, p2, rfl, hw2, hp2, hM5⟩
 have M5 : Mem _ _ [_, _, _, _, _, _, _, _, _, _, _, _, _] _ := M4.seg 0 3 hM5
 refine bB 4 _ gH M5 rfl rfl rfl rfl rfl (aR rfl) rfl (fun w6 M6 => (aB (aC (aM (eV 4 gH M6 rfl rfl rfl ?_)))))
 exact ⟨r2, p2, rfl, hw2, hp2, M6.keep [true, true, true, false, false, false, false, false, false, false, false, false, true]⟩
set_option maxHeartbeats 32000000 in
theorem aJt (w : World)  (b : Nat) (r : StV) (vs : List Body) (hW : bY 39 r vs) (hO : Own [(some b, bc [.slice r.A r.n r.c, .map r.p] 107), r.er, r.em] w) (o : OpI) (BA : Option Addr) (nn cc : Nat) (hP : OpOk w o BA nn cc) (hnn : nn ≤ 1000000) (hdB : 0 < nn → ∀ q off, BA = some ⟨q, off, none⟩ → q ∉ bH [(some b, bc [.slice r.A r.n r.c, .map r.p] 107), r.er, r.em]) (hk : o.kind = 5) :
  Calls Tryz.prog 20 #[.pointer (some ⟨b, 0, none⟩), .agg (eL o BA nn cc).toArray] w (fun ex w' => ∃ v, ex = .returned v ∧ (fun v w' => ∃ (r' : StV) (p : Row), v = .agg (eM (jB vs o).2 p).toArray ∧ bY 39 r' (jB vs o).1 ∧ aW 5 1 p.A p.n p.c (((jB vs o).2.bytes).map bI) p.e ∧ Mem w (bH [(some b, bc [.slice r.A r.n r.c, .map r.p] 107), r.er, r.em]) [(some b, bc [.slice r'.A r'.n r'.c, .map r'.p] 107), r'.er, r'.em, p.e] w') v w') := by
 have hG := hW.1
 have hbl := hP.len
 refine aH #[.cell 4 33] 21 Tryz.func20 rfl Tryz.results20 Tryz.ntmps20 rfl ?_
 have M0 := hO.mem
 refine aD (aA (bG (.agg (List.toArray _)) M0 rfl rfl rfl (fun b1 w1 M1 => (aQ jU M1 rfl rfl (fun b2 w2 M2 => (aB (aC (aD (bO [(1, 0), (2, 1), (0, 2), (3, 1), (4, 0), (5, 0), (6, 0), (7, 0), (8, 0)] mixed rfl (by kernel_rfl) (fun w3 hb3 hh3 => ?_))))))))))
 have M3 := M2.drew hb3 hh3
 refine aV rfl rfl rfl (fun _ => aE 0 oN rfl) (bV rfl rfl rfl (aL 3 (.int _ _) jC M3 rfl rfl rfl) (dG [false] rfl (by kernel_rfl) (bX xS rfl rfl (gK _) ?_)))
 rintro v4 w4 ⟨pm, em, f1, g1, f2, g2, f3, g3, rfl, hmap, hM4⟩
 have M4 : Mem _ _ [_, _, _, _, _, _, _, _, _, _, _, _] _ := M3.call0 hM4
 refine aB (aC ⟨(eF (bK rfl (aL 3 (.int _ _) jC M4 rfl rfl rfl)) dH), ?_⟩)
 refine bV rfl rfl rfl (gY (enc := (fun v : Value => v)) .nilFunc 5 kD aKs M4 rfl hmap rfl rfl) (fH 11 (.tuple [(.func (.func 93) #[] #[] : Value), .bool true].toArray) (lJ (aVl hk)) (aV rfl rfl rfl (fun _ => aG (.tuple (List.toArray _)) rfl) (aV rfl rfl rfl (fun _ => bE (.func _ _ _) rfl rfl) ?_)))
 refine aV rfl rfl rfl (fun _ => bE (.bool true) rfl rfl) (aV rfl rfl rfl (fun _ => aI (.func _ _ _) rfl) (aV rfl rfl rfl (fun _ => aI (.bool true) rfl) (cD (aC (aD (aD (aA (wq (aG (.bool true) rfl) rfl ?_))))))))
 refine wq (fO false rfl rfl) rfl (aB (aC (cB rfl (aK (aC (aD (aA (wq (aG (.func _ _ _) rfl) rfl (wq (aG (.pointer _) rfl) rfl ?_)))))))))
 refine wq (bC 3 mE M4 rfl rfl rfl) rfl (bX bIf rfl rfl (aBe _ _ r vs hW (M4.ownSeg 0 3) o BA nn cc (hP.memY M4 hdB) hnn (M4.away 0 3 hP.rd hdB)  hk) ?_)
 rintro v5 w5 ⟨r2, p2, rfl, hw2, hp2, hM5⟩
 have M5 : Mem _ _ [_, _, _, _, _, _, _, _, _, _, _, _, _] _ := M4.seg 0 3 hM5
 refine bB 4 _ gH M5 rfl rfl rfl rfl rfl (aR rfl) rfl (fun w6 M6 => (aB (aC (aM (eV 4 gH M6 rfl rfl rfl ?_)))))
 exact ⟨r2, p2, rfl, hw2, hp2, M6.keep [true, true, true, false, false, false, false, false, false, false, false, false, true]⟩
set_option maxHeartbeats 32000000 in
theorem aLf (w : World)  (b : Nat) (r : StV) (vs : List Body) (hW : bY 39 r vs) (hO : Own [(some b, bc [.slice r.A r.n r.c, .map r.p] 107), r.er, r.em] w) (o : OpI) (BA : Option Addr) (nn cc : Nat) (hP : OpOk w o BA nn cc) (hdB : 0 < nn → ∀ q off, BA = some ⟨q, off, none⟩ → q ∉ bH [(some b, bc [.slice r.A r.n r.c, .map r.p] 107), r.er, r.em]) (hk : o.kind < 1 ∨ 6 < o.kind) :
  Calls Tryz.prog 20 #[.pointer (some ⟨b, 0, none⟩), .agg (eL o BA nn cc).toArray] w (fun ex w' => ∃ v, ex = .returned v ∧ (fun v w' => ∃ (r' : StV) (p : Row), v = .agg (eM (jB vs o).2 p).toArray ∧ bY 39 r' (jB vs o).1 ∧ aW 5 1 p.A p.n p.c (((jB vs o).2.bytes).map bI) p.e ∧ Mem w (bH [(some b, bc [.slice r.A r.n r.c, .map r.p] 107), r.er, r.em]) [(some b, bc [.slice r'.A r'.n r'.c, .map r'.p] 107), r'.er, r'.em, p.e] w') v w') := by
 have hG := hW.1
 have hbl := hP.len
 refine aH #[.cell 4 33] 21 Tryz.func20 rfl Tryz.results20 Tryz.ntmps20 rfl ?_
 have M0 := hO.mem
 refine aD (aA (bG (.agg (List.toArray _)) M0 rfl rfl rfl (fun b1 w1 M1 => (aQ jU M1 rfl rfl (fun b2 w2 M2 => (aB (aC (aD (bO [(1, 0), (2, 1), (0, 2), (3, 1), (4, 0), (5, 0), (6, 0), (7, 0), (8, 0)] mixed rfl (by kernel_rfl) (fun w3 hb3 hh3 => ?_))))))))))
 have M3 := M2.drew hb3 hh3
 refine aV rfl rfl rfl (fun _ => aE 0 oN rfl) (bV rfl rfl rfl (aL 3 (.int _ _) jC M3 rfl rfl rfl) (dG [false] rfl (by kernel_rfl) (bX xS rfl rfl (gK _) ?_)))
 rintro v4 w4 ⟨pm, em, f1, g1, f2, g2, f3, g3, rfl, hmap, hM4⟩
 have M4 : Mem _ _ [_, _, _, _, _, _, _, _, _, _, _, _] _ := M3.call0 hM4
 refine aB (aC ⟨(eF (bK rfl (aL 3 (.int _ _) jC M4 rfl rfl rfl)) dH), ?_⟩)
 refine bV rfl rfl rfl (gY (enc := (fun v : Value => v)) .nilFunc 5 kD aKs M4 rfl hmap rfl rfl) (fH 11 (.tuple [(.nilFunc : Value), .bool false].toArray) (aRn (aSu hk)) (aV rfl rfl rfl (fun _ => aG (.tuple (List.toArray _)) rfl) (aV rfl rfl rfl (fun _ => bE (_) rfl rfl) (aV rfl rfl rfl (fun _ => bE (.bool false) rfl rfl) ?_))))
 refine aV rfl rfl rfl (fun _ => aI (_) rfl) (aV rfl rfl rfl (fun _ => aI (.bool false) rfl) (cD (aC (aD (aD (aA (wq (aG (.bool false) rfl) rfl (wq (fO true rfl rfl) rfl ?_))))))))
 refine aB (aC (cM rfl (aD (aA (wq (cH [(0, .int _ _)] _ lT rfl rfl) rfl (bB 4 _ gH M4 rfl rfl rfl rfl rfl (aR rfl) rfl (fun w5 M5 => (aB (aC (aM (cE ?_)))))))))))
 refine eV 4 gH M5 rfl rfl rfl ?_
 exact ⟨r, ⟨none, 0, 0, (none, default)⟩, by rw [rR (by omega)]; rfl, by rw [rR (by omega)]; exact hW, by rw [rR (by omega)]; exact aW.nil _ _ _, (M5.keep [true, true, true, false, false, false, false, false, false, false, false, false]).dummy default⟩
theorem vA (w : World) (F : Rd w 2 (some ⟨0, 0, none⟩) 1 [[.int .u32 73856093, .int .u32 19349663]]) (N : Rd w 4 (some ⟨3, 0, none⟩) 1 [cY gO]) (b : Nat) (r : StV) (vs : List Body) (hW : bY 39 r vs) (hO : Own [(some b, bc [.slice r.A r.n r.c, .map r.p] 107), r.er, r.em] w) (o : OpI) (BA : Option Addr) (nn cc : Nat) (hP : OpOk w o BA nn cc) (hnn : nn ≤ 1000000) (hdB : 0 < nn → ∀ q off, BA = some ⟨q, off, none⟩ → q ∉ bH [(some b, bc [.slice r.A r.n r.c, .map r.p] 107), r.er, r.em]) (hdF : 0 < 1 → ∀ q off, (some ⟨0, 0, none⟩ : Option Addr) = some ⟨q, off, none⟩ → q ∉ bH [(some b, bc [.slice r.A r.n r.c, .map r.p] 107), r.er, r.em]) (hdN : 0 < 1 → ∀ q off, (some ⟨3, 0, none⟩ : Option Addr) = some ⟨q, off, none⟩ → q ∉ bH [(some b, bc [.slice r.A r.n r.c, .map r.p] 107), r.er, r.em]) : Calls Tryz.prog 20 #[.pointer (some ⟨b, 0, none⟩), .agg (eL o BA nn cc).toArray] w (fun ex w' => ∃ v, ex = .returned v ∧ (fun v w' => ∃ (r' : StV) (p : Row), v = .agg (eM (jB vs o).2 p).toArray ∧ bY 39 r' (jB vs o).1 ∧ aW 5 1 p.A p.n p.c (((jB vs o).2.bytes).map bI) p.e ∧ Mem w (bH [(some b, bc [.slice r.A r.n r.c, .map r.p] 107), r.er, r.em]) [(some b, bc [.slice r'.A r'.n r'.c, .map r'.p] 107), r'.er, r'.em, p.e] w') v w') := by
 by_cases h0 : o.kind < 1 ∨ 6 < o.kind
 ·exact aLf w b r vs hW hO o BA nn cc hP hdB h0
 by_cases h1 : o.kind = 1
 ·exact aMk w b r vs hW hO o BA nn cc hP hnn hdB h1
 by_cases h2 : o.kind = 2
 ·exact aMd w b r vs hW hO o BA nn cc hP hnn hdB h2
 by_cases h3 : o.kind = 3
 ·exact aMi w b r vs hW hO o BA nn cc hP hnn hdB h3
 by_cases h4 : o.kind = 4
 ·exact aLk w F N b r vs hW hO o BA nn cc hP hnn hdB hdF hdN h4
 by_cases h5 : o.kind = 5
 ·exact aJt w b r vs hW hO o BA nn cc hP hnn hdB h5
 ·exact aLj w b r vs hW hO o BA nn cc hP hnn hdB (by omega)
set_option maxHeartbeats 32000000 in
theorem aKe (w : World) (F : Rd w 2 (some ⟨0, 0, none⟩) 1 [[.int .u32 73856093, .int .u32 19349663]]) (N : Rd w 4 (some ⟨3, 0, none⟩) 1 [cY gO]) (b : Nat) (r : StV) (vs : List Body) (hW : bY 39 r vs) (hO : Own [(some b, bc [.slice r.A r.n r.c, .map r.p] 107), r.er, r.em] w) (hdF : 0 < 1 → ∀ q off, (some ⟨0, 0, none⟩ : Option Addr) = some ⟨q, off, none⟩ → q ∉ bH [(some b, bc [.slice r.A r.n r.c, .map r.p] 107), r.er, r.em]) (hdN : 0 < 1 → ∀ q off, (some ⟨3, 0, none⟩ : Option Addr) = some ⟨q, off, none⟩ → q ∉ bH [(some b, bc [.slice r.A r.n r.c, .map r.p] 107), r.er, r.em]) (A : Option Addr) (n c : Nat) (l : List OpRow) (hl : OpsRd w A n l) (hby : ∀ x ∈ l, x.n ≤ 1000000) (hn : n ≤ 1000000) (hdl : 0 < n → ∀ q off, A = some ⟨q, off, none⟩ → q ∉ bH [(some b, bc [.slice r.A r.n r.c, .map r.p] 107), r.er, r.em]) (hdo : aMp l (bH [(some b, bc [.slice r.A r.n r.c, .map r.p] 107), r.er, r.em])) :
  Calls Tryz.prog 33 #[.pointer (some ⟨b, 0, none⟩), .slice A n c] w (fun ex w' => ∃ v, ex = .returned v ∧ (fun v w' => ∃ (r' : StV) (q : Row) (rs : List Row), v = .slice q.A q.n q.c ∧ bY 39 r' (rC vs (rE l)) ∧ aW 33 4 q.A q.n q.c (vQ (tC vs (rE l)) rs) q.e ∧ OutR 5 rs (tC vs (rE l)) ∧ Mem w (bH [(some b, bc [.slice r.A r.n r.c, .map r.p] 107), r.er, r.em]) ([(some b, bc [.slice r'.A r'.n r'.c, .map r'.p] 107), r'.er, r'.em, q.e] ++ rs.map Row.e) w') v w') := by
 have hlen : l.length = n := by simpa using hl.rd.len
 have hbd := hl.rd.bound
 refine aH #[.tmp 4] 22 Tryz.func33 rfl Tryz.results33 Tryz.ntmps33 rfl ?_
 have M0 := hO.mem
 refine aD (aA (fP rfl rfl (aB (aC (aD (aA (fP rfl rfl ?_)))))))
 have M1 := M0.dummy default
 refine aB (aC (aD (aD (aA (eG rfl rfl (wq (cP Tryz.underlying27 rfl) rfl (aY rfl rfl (aB (aC (aS (dK (σ := Nat × StV × Row × List Row) [0, 4, 8, 9] (fun (i, r', q, rs) => [(5, .slice q.A q.n q.c), (10, .int .i64 (i : Int))]) (fun (i, r', q, rs) w' => (i ≤ n ∧ bY 39 r' (rC vs ((rE l).take i)) ∧ aW 33 4 q.A q.n q.c (vQ ((tC vs ((rE l).take i))) rs) q.e ∧ OutR 5 rs (tC vs ((rE l).take i))) ∧ Mem w (bH [(some b, bc [.slice r.A r.n r.c, .map r.p] 107), r.er, r.em]) ([(some b, bc [.slice r'.A r'.n r'.c, .map r'.p] 107), r'.er, r'.em, q.e] ++ rs.map Row.e) w') (fun (i, r', q, rs) => n - i) (0, r, gP, []) (bR rfl (bR rfl eZ)) (⟨⟨by omega, hW, aW.nil _ _ _, OutR.nil _⟩, M1⟩) ?_)))))))))))
 rintro ⟨i, r', q, rs⟩ ρ2 w2 ⟨⟨hi, hr, hq, hoR⟩, hM2⟩
 have hqn : (vQ (tC vs ((rE l).take i)) rs).length = q.n := hq.1
 rw [aVn hoR.len, aGp, List.length_take, aJc] at hqn
 refine aD (aA (dA rfl rfl rfl rfl (aB (aC (aD ?_)))))
 refine aZ rfl (fun h11 => ?_) (fun h11 => ?_)
 ·obtain ⟨x, hx⟩ := cI (xs := l) (k := i) hlen (by omega)
  have hxm := List.mem_of_getElem? hx
  have hP := hl.each x hxm
  have hxo := aMt hx
  refine aK (aC (aD (aS (aD (aA (wq (bN (i) aLm rfl rfl rfl ((hl.rd.memY hM2 hdl).below_len (aJ OpRow.cells hx)) ((hl.rd.memY hM2 hdl).someK (aJ OpRow.cells hx))) rfl (wq (dC _ mE (hl.rd.memY hM2 hdl) (aJ OpRow.cells hx) rfl) rfl (aT 13 (.agg (eL x.o x.A x.n x.c).toArray) rfl ?_))))))))
  refine aQ bHb hM2 rfl rfl (fun b3 w3 M3 => ?_)
  have M4 : Mem _ _ ([_, _, _, _, _] ++ _) _ := Mem.front (L := [_, _, _, _]) M3
  refine bB 4 _ mE M4 rfl rfl rfl rfl rfl (aR rfl) rfl (fun w5 M5 => (aB (aC (aA (eG rfl rfl (wq (aG (.pointer _) rfl) rfl (wq (bC 4 mE M5 rfl rfl rfl) rfl (bX aTz rfl rfl (vA _ (F.memY M5 hdF) (N.memY M5 hdN) _ r' _ hr (M5.ownSeg 0 3) x.o x.A x.n x.c (hP.memY M5 (hdo x hxm)) (hby x hxm) (M5.away 0 3 hP.rd (hdo x hxm)) (M5.away 0 3 F hdF) (M5.away 0 3 N hdN)) ?_))))))))
  rintro v6 w6 ⟨r2, p2, rfl, hr2, hp2, hM6⟩
  have M6 : Mem _ _ ([_, _, _, _, _, _] ++ _) _ := Mem.front (L := [_, _, _, _, _]) (M5.seg 0 3 hM6)
  refine dB [.agg (List.toArray _)] [eM (jB (rC vs ((rE l).take i)) x.o).2 p2] rfl bHw M6 rfl rfl rfl rfl (dI rfl) (by decide) (fun b7 w7 M7 => ?_)
  have M8 : Mem _ _ ([_, _, _, _, _, _, _] ++ _) _ := Mem.front (L := [_, _, _, _, _, _]) M7
  refine eC 3 [eM (jB (rC vs ((rE l).take i)) x.o).2 p2] bHw M8 rfl rfl rfl rfl rfl hq rfl (by simp [eM, Go.Bil.one]) (dD.ofMem 6 M8 rfl) (by omega) (fun A9 c9 e9 w9 M9 hR9 => (fP rfl rfl (aB (dE (aC (aA (wq (bU rfl rfl (by omega) (by omega)) rfl ?_)))))))
  refine aY rfl rfl (aB ?_)
  refine cS (i + 1, r2, ⟨A9, q.n + 1, c9, e9⟩, rs ++ [p2]) (bR rfl (bR rfl eZ)) (cV rfl (cV rfl (cV rfl (cV rfl jQ)))) ?_ ?_
  ·exact ⟨⟨by omega, by rw [uR hxo]; exact hr2, by rw [aCq hxo, aSd hoR.len]; exact hR9, by rw [aCq hxo]; exact hoR.add hp2⟩, Mem.pushNew (L := [_, _, _, _]) p2 (Mem.keepL (L := [_, _, _, _, _, _, _]) [true, true, true, true, false, true, false] M9)⟩
  ·(show n - (i + 1) < n - i; omega)
 ·have hin : i = n := by omega
  rw [hin, List.take_of_length_le (by rw [aJc]; omega)] at hr hq hoR
  refine cR (cZ (cX (eQ (aC (aD (aA (eG rfl rfl ?_)))))))
  refine fP rfl rfl (aB (aC (aM (bW (.slice _ _ _) rfl ?_))))
  exact ⟨r', q, rs, rfl, hr, hq, hoR, hM2⟩
set_option maxHeartbeats 4000000 in
theorem oY (w : World) (F : Rd w 2 (some ⟨0, 0, none⟩) 1 [[.int .u32 73856093, .int .u32 19349663]]) (N : Rd w 4 (some ⟨3, 0, none⟩) 1 [cY gO]) (A : Option Addr) (n c : Nat) (l : List OpRow) (hl : OpsRd w A n l) (hby : ∀ x ∈ l, x.n ≤ 1000000) (hn : n ≤ 1000000) :
  Calls Tryz.prog 18 #[.slice A n c] w (fun ex w' => ∃ v, ex = .returned v ∧ (fun v w' => ∃ (b : Nat) (r' : StV), v = .pointer (some ⟨b, 0, none⟩) ∧ bY 39 r' (rC [] (rE l)) ∧ Mem w [] [(some b, bc [.slice r'.A r'.n r'.c, .map r'.p] 107), r'.er, r'.em] w') v w') := by
 have hlen : l.length = n := by simpa using hl.rd.len
 have hbd := hl.rd.bound
 refine aH #[.tmp 2] 9 Tryz.func18 rfl Tryz.results18 Tryz.ntmps18 rfl ?_
 have M0 := Mem.refl w
 refine aD (aA (wq (aI (.pointer _) rfl) rfl (aB (aC (aD (aA (aQ bBs M0 rfl rfl (fun b1 w1 M1 => ?_))))))))
 have M2 := (M1.dummy default).dummy default
 refine wq (aI (.pointer _) rfl) rfl (aB (aC (aD (aA (wq (aG (.pointer _) rfl) rfl (eG rfl rfl (bX bIp rfl rfl (aKe _ (F.mem M2) (N.mem M2) _ ⟨none, 0, 0, none, (none, default), (none, default)⟩ _ (bY.new 39 default default) (M2.ownSeg 0 3) (M2.away 0 3 F (by simp)) (M2.away 0 3 N (by simp)) A n c l (hl.mem M2) hby hn (M2.away 0 3 hl.rd (by simp)) (fun x hx => M2.away 0 3 (hl.each x hx).rd (by simp))) ?_)))))))
 rintro v3 w3 ⟨r2, q, rs, rfl, hr2, hq, hoR, hM3⟩
 have M3 : Mem _ _ ([_, _, _, _] ++ _) _ := M2.seg 0 3 hM3
 refine aB (aC (aD (aA (wq (aG (.pointer _) rfl) rfl (wq (aI (.pointer _) rfl) rfl (aB (aC (aM (bW (.pointer _) rfl ?_)))))))))
 exact ⟨_, r2, rfl, hr2, M3.keep [true, true, true]⟩
set_option maxHeartbeats 4000000 in
theorem aRl (w : World) (A : Option Addr) (n c : Nat) (l : List OpRow) (hl : OpsRd w A n l) :
  Calls Tryz.prog 17 #[.slice A n c] w (fun ex w' => ∃ v, ex = .returned v ∧ (fun v w' => (∃ g : Bool, v = .bool g ∧ (g = true → n ≤ 40 ∧ ∀ x ∈ l, x.n ≤ 1000)) ∧ Below w.heap.size w w') v w') := by
 have hlen : l.length = n := by simpa using hl.rd.len
 have hbd := hl.rd.bound
 refine aH #[.tmp 2] 37 Tryz.func17 rfl Tryz.results17 Tryz.ntmps17 rfl ?_
 have M0 := Mem.refl w
 refine aD (aA (wq (aI (.bool false) rfl) rfl (aB (aC (aD (aA (bP rfl rfl (aB (aC (aD (aD (aA (bP rfl rfl ?_)))))))))))))
 refine aB (aC (aS (dK (σ := Nat × Nat) [0] (fun (i, s) => [(3, .int .i64 (s : Int)), (4, .int .i64 (i : Int))]) (fun (i, s) w' => (i ≤ n ∧ s ≤ i ∧ ∀ (j : Nat) (x : OpRow), j < i → l[j]? = some x → x.n ≤ 1000) ∧ Mem w [] [] w') (fun (i, s) => n - i) (0, 0) (bR rfl (bR rfl eZ)) (⟨⟨by omega, by omega, fun j x hj => by omega⟩, M0⟩) ?_)))
 rintro ⟨i, s⟩ ρ1 w1 ⟨⟨hi, hs, hal⟩, hM1⟩
 refine aD (aD (aA (aY rfl rfl (eG rfl rfl (wq (cP Tryz.underlying22 rfl) rfl (dA rfl rfl rfl rfl (wq (aG (.bool (decide _)) rfl) rfl ?_)))))))
 refine cU 9 rfl (fun g9 => ?_) (fun g9 => ?_)
 ·refine aY rfl rfl (dA rfl rfl rfl rfl (wq (bQ true (.bool (decide _)) rfl rfl) rfl (aB (aC ?_))))
  refine aZ rfl (fun h12 => ?_) (fun h12 => ?_)
  ·obtain ⟨x, hx⟩ := cI (xs := l) (k := i) hlen (by omega)
   refine aK (aC (aD (aS (aD (aD (aA (eG rfl rfl (aY rfl rfl (wq (bN (i) aIf rfl rfl rfl ((hl.rd.mem hM1).below_len (aJ OpRow.cells hx)) ((hl.rd.mem hM1).someK (aJ OpRow.cells hx))) rfl (wq (bJ 14 aNp (hl.rd.mem hM1) (Nat.lt_of_le_of_lt (Nat.zero_le _) ((hl.rd.mem hM1).below_len (aJ OpRow.cells hx))) rfl) rfl ?_))))))))))
   refine wq (eJ (o := 14) (.slice _ _ _) aFv (hl.rd.mem hM1) (aJ OpRow.cells hx) rfl rfl) rfl (wq (cP Tryz.underlying31 rfl) rfl (dA rfl rfl rfl rfl (aB (aC ?_))))
   refine aZ rfl (fun h21 => ?_) (fun h21 => ?_)
   ·refine aD (aA (wq (aI (.bool false) rfl) rfl (aB (aC (aM (cE (iY (cE (qD ?_)))))))))
    refine iY (cE (bW (.bool false) rfl ?_))
    exact ⟨⟨false, rfl, fun h => by cases h⟩, hM1.below⟩
   ·refine aK (aC (aD (aA (eG rfl rfl (aY rfl rfl (wq (bN (i) aIf rfl rfl rfl ((hl.rd.mem hM1).below_len (aJ OpRow.cells hx)) ((hl.rd.mem hM1).someK (aJ OpRow.cells hx))) rfl (wq (bJ 0 aNd (hl.rd.mem hM1) (Nat.lt_of_le_of_lt (Nat.zero_le _) ((hl.rd.mem hM1).below_len (aJ OpRow.cells hx))) rfl) rfl ?_)))))))
    refine wq (eJ (o := 0) (.int _ _) jC (hl.rd.mem hM1) (aJ OpRow.cells hx) rfl rfl) rfl (dA rfl rfl rfl rfl (aB (aC ?_)))
    refine aZ rfl (fun h27 => ?_) (fun h27 => ?_)
    ·refine aA (aY rfl rfl (wq (bU rfl rfl (by omega) (by omega)) rfl (bP rfl rfl (aB (dE ?_)))))
     refine aC (aA (aY rfl rfl (wq (bU rfl rfl (by omega) (by omega)) rfl (bP rfl rfl (aB ?_)))))
     refine cS (i + 1, s + 1) (bR rfl (bR rfl eZ)) (cV rfl jQ) ?_ ?_
     ·exact ⟨⟨by omega, by omega, oK (p := fun _ x => x.n ≤ 1000) hal hx (by omega)⟩, hM1⟩
     ·(show n - (i + 1) < n - i; omega)
    ·refine aK (dE (aC (aA (aY rfl rfl (wq (bU rfl rfl (by omega) (by omega)) rfl (bP rfl rfl ?_))))))
     refine aB ?_
     refine cS (i + 1, s) (bR rfl (bR rfl eZ)) (cV rfl jQ) ?_ ?_
     ·exact ⟨⟨by omega, by omega, oK (p := fun _ x => x.n ≤ 1000) hal hx (by omega)⟩, hM1⟩
     ·(show n - (i + 1) < n - i; omega)
  ·refine cR (cZ (cX (eQ (aC (aD (aA (eG rfl rfl ?_)))))))
   refine wq (cP Tryz.underlying22 rfl) rfl (dA rfl rfl rfl rfl (wq (aG (.bool (decide _)) rfl) rfl ?_))
   refine cU 33 rfl (fun g33 => ?_) (fun g33 => ?_)
   ·refine aY rfl rfl (dA rfl rfl rfl rfl (wq (bQ true (.bool (decide _)) rfl rfl) rfl (wq (aI (.bool (decide _)) rfl) rfl (aB (aC (aM (bW (.bool (decide _)) rfl ?_)))))))
    refine ⟨⟨_, rfl, fun hg => ?_⟩, hM1.below⟩
    first | (cases hg; done) | exact ⟨(by omega), fun x hx => (by obtain ⟨j, hj⟩ := List.getElem?_of_mem hx; exact hal j x (by have := (List.getElem?_eq_some_iff.1 hj).1; omega) hj)⟩
   ·refine aN rfl rfl (aN rfl rfl (wq (bQ false (.bool false) rfl rfl) rfl (wq (aI (.bool false) rfl) rfl (aB (aC (aM (bW (.bool false) rfl ?_)))))))
    refine ⟨⟨_, rfl, fun hg => ?_⟩, hM1.below⟩
    first | (cases hg; done) | exact ⟨(by omega), fun x hx => (by obtain ⟨j, hj⟩ := List.getElem?_of_mem hx; exact hal j x (by have := (List.getElem?_eq_some_iff.1 hj).1; omega) hj)⟩
 ·refine aN rfl rfl (aN rfl rfl (wq (bQ false (.bool false) rfl rfl) rfl (aB (aC (cB rfl (cR ?_))))))
  refine cZ (cX (eQ (aC (aD (aA (eG rfl rfl (wq (cP Tryz.underlying22 rfl) rfl ?_)))))))
  refine dA rfl rfl rfl rfl (wq (aG (.bool (decide _)) rfl) rfl ?_)
  refine cU 33 rfl (fun g33 => ?_) (fun g33 => ?_)
  ·refine aY rfl rfl (dA rfl rfl rfl rfl (wq (bQ true (.bool (decide _)) rfl rfl) rfl (wq (aI (.bool (decide _)) rfl) rfl (aB (aC (aM (bW (.bool (decide _)) rfl ?_)))))))
   refine ⟨⟨_, rfl, fun hg => ?_⟩, hM1.below⟩
   first | (cases hg; done) | exact ⟨(by omega), fun x hx => (by obtain ⟨j, hj⟩ := List.getElem?_of_mem hx; exact hal j x (by have := (List.getElem?_eq_some_iff.1 hj).1; omega) hj)⟩
  ·refine aN rfl rfl (aN rfl rfl (wq (bQ false (.bool false) rfl rfl) rfl (wq (aI (.bool false) rfl) rfl (aB (aC (aM (bW (.bool false) rfl ?_)))))))
   refine ⟨⟨_, rfl, fun hg => ?_⟩, hM1.below⟩
   first | (cases hg; done) | exact ⟨(by omega), fun x hx => (by obtain ⟨j, hj⟩ := List.getElem?_of_mem hx; exact hal j x (by have := (List.getElem?_eq_some_iff.1 hj).1; omega) hj)⟩
set_option maxHeartbeats 8000000 in
theorem aRj (w : World) (z : ResI) (r r' : Row) (RB : Rd w 1 r.A r.n (z.bytes.map bI)) (RB' : Rd w 1 r'.A r'.n (z.bytes.map bI)) :
  Calls Tryz.prog 28 #[.agg (eM z r).toArray, .agg (eM z r').toArray] w (fun ex w' => ∃ v, ex = .returned v ∧ (fun v w' => v = .bool true ∧ Below w.heap.size w w') v w') := by
 refine aH #[.tmp 4] 31 Tryz.func28 rfl Tryz.results28 Tryz.ntmps28 rfl ?_
 have M0 := Mem.refl w
 refine aD (aA (bG (.agg (List.toArray _)) M0 rfl rfl rfl (fun b1 w1 M1 => (bG (.agg (List.toArray _)) M1 rfl rfl rfl (fun b2 w2 M2 => (wq (aI (.bool false) rfl) rfl (aB (aC (aD (aA (wq (aE 0 aOi rfl) rfl ?_)))))))))))
 refine wq (aL 0 (.int _ _) vR M2 rfl rfl rfl) rfl (wq (aE 0 aOi rfl) rfl (wq (aL 1 (.int _ _) vR M2 rfl rfl rfl) rfl (dA rfl rfl rfl rfl (rI 9 rfl rfl (wq (aG (.bool true) rfl) rfl ?_)))))
 refine wq (aE 1 aOb rfl) rfl (wq (aL 0 (.slice _ _ _) aFv M2 rfl rfl rfl) rfl (wq (aE 1 aOb rfl) rfl (wq (aL 1 (.slice _ _ _) aFv M2 rfl rfl rfl) rfl (bX aWa rfl rfl (rV _ _ _ _ z.bytes (RB.mem M2) _ _ _ z.bytes (RB'.mem M2)) ?_))))
 rintro v3 w3 ⟨rfl, hb3⟩
 have M3 := M2.callB hb3
 refine rI 15 rfl rfl (wq (bQ true (.bool true) rfl rfl) rfl (wq (aG (.bool true) rfl) rfl (wq (aE 2 aOh rfl) rfl (wq (aL 0 (.int _ _) jC M3 rfl rfl rfl) rfl (wq (aE 2 aOh rfl) rfl ?_)))))
 refine wq (aL 1 (.int _ _) jC M3 rfl rfl rfl) rfl (dA rfl rfl rfl rfl (rI 22 rfl rfl (wq (bQ true (.bool true) rfl rfl) rfl (wq (aG (.bool true) rfl) rfl (wq (aE 3 aNs rfl) rfl ?_)))))
 refine wq (aL 0 (.bool _) nV M3 rfl rfl rfl) rfl (wq (aE 3 aNs rfl) rfl (wq (aL 1 (.bool _) nV M3 rfl rfl rfl) rfl (wq (uP _ Tryz.underlying4 rfl rfl rfl) rfl (aT 29 (.bool true) (bv rfl (by simp)) (wq (bQ true (.bool true) rfl rfl) rfl ?_)))))
 refine wq (aI (.bool true) rfl) rfl (aB (aC (aM (bW (.bool true) rfl ?_))))
 exact ⟨rfl, M3.below⟩
set_option maxHeartbeats 16000000 in
theorem aHl (w : World) (A : Option Addr) (n c : Nat) (l : List OpRow) (hl : OpsRd w A n l) (hn : n ≤ 1000000) :
  Calls Tryz.prog 19 #[.slice A n c] w (fun ex w' => ∃ v, ex = .returned v ∧ (fun v w' => ∃ q : Row, v = .slice q.A q.n q.c ∧ aW 41 15 q.A q.n q.c (l.map OpRow.cells) q.e ∧ Mem w [] [q.e] w') v w') := by
 have hlen : l.length = n := by simpa using hl.rd.len
 have hbd := hl.rd.bound
 refine aH #[.tmp 2] 41 Tryz.func19 rfl Tryz.results19 Tryz.ntmps19 rfl ?_
 have M0 := Mem.refl w
 refine aD (aA (fP rfl rfl (aB (aC (aD (aA (fP rfl rfl ?_)))))))
 have M1 := M0.dummy default
 refine aB (aC (aD (aD (aA (bP rfl rfl (aB (aC (aS (dK (σ := Nat × Row) [0, 2] (fun (i, q) => [(3, .slice q.A q.n q.c), (4, .int .i64 (i : Int))]) (fun (i, q) w' => (i ≤ n ∧ aW 41 15 q.A q.n q.c ((l.take i).map OpRow.cells) q.e) ∧ Mem w [] [q.e] w') (fun (i, q) => n - i) (0, gP) (bR rfl (bR rfl eZ)) (⟨⟨by omega, aW.nil _ _ _⟩, M1⟩) ?_)))))))))
 rintro ⟨i, q⟩ ρ2 w2 ⟨⟨hi, hq⟩, hM2⟩
 have hqn : ((l.take i).map OpRow.cells).length = q.n := hq.1
 rw [List.length_map, List.length_take] at hqn
 refine aD (aD (aA (aY rfl rfl (eG rfl rfl (wq (cP Tryz.underlying22 rfl) rfl (dA rfl rfl rfl rfl (aB (aC ?_))))))))
 refine aZ rfl (fun h8 => ?_) (fun h8 => ?_)
 ·obtain ⟨x, hx⟩ := cI (xs := l) (k := i) hlen (by omega)
  refine aK (aC (aD (aS (bO [(0, 0), (1, 0), (2, 0), (3, 1), (4, 1), (5, 1), (6, 0), (7, 0), (8, 1), (9, 1), (10, 1), (11, 0), (12, 0), (13, 1), (14, 1), (15, 1), (16, 0), (17, 0), (18, 1), (19, 1), (20, 1), (21, 0), (22, 0), (23, 1), (24, 1), (25, 1), (26, 0), (27, 2), (28, 2), (29, 0)] mixed rfl (by kernel_rfl) (fun w3 hb3 hh3 => ?_)))))
  have M3 := hM2.drew hb3 hh3
  refine oF rfl rfl rfl (oF rfl rfl rfl (fV rfl rfl rfl (bV rfl rfl rfl (bN (i) aIf rfl rfl rfl ((hl.rd.mem M3).below_len (aJ OpRow.cells hx)) ((hl.rd.mem M3).someK (aJ OpRow.cells hx))) (bV rfl rfl rfl (bJ 0 aNd (hl.rd.mem M3) (Nat.lt_of_le_of_lt (Nat.zero_le _) ((hl.rd.mem M3).below_len (aJ OpRow.cells hx))) rfl) ?_))))
  refine bV rfl rfl rfl (eJ (o := 0) (.int _ _) jC (hl.rd.mem M3) (aJ OpRow.cells hx) rfl rfl) (oF rfl rfl rfl (fV rfl rfl rfl (bV rfl rfl rfl (bN (i) aIf rfl rfl rfl ((hl.rd.mem M3).below_len (aJ OpRow.cells hx)) ((hl.rd.mem M3).someK (aJ OpRow.cells hx))) (bV rfl rfl rfl (bJ 1 aZv (hl.rd.mem M3) (Nat.lt_of_le_of_lt (Nat.zero_le _) ((hl.rd.mem M3).below_len (aJ OpRow.cells hx))) rfl) ?_))))
  refine bV rfl rfl rfl (oV (o := 1) _ bS (hl.rd.mem M3) (aJ OpRow.cells hx) rfl rfl rfl) (oF rfl rfl rfl (fV rfl rfl rfl (bV rfl rfl rfl (bN (i) aIf rfl rfl rfl ((hl.rd.mem M3).below_len (aJ OpRow.cells hx)) ((hl.rd.mem M3).someK (aJ OpRow.cells hx))) (bV rfl rfl rfl (bJ 11 aYs (hl.rd.mem M3) (Nat.lt_of_le_of_lt (Nat.zero_le _) ((hl.rd.mem M3).below_len (aJ OpRow.cells hx))) rfl) ?_))))
  refine bV rfl rfl rfl (eJ (o := 11) (.int _ _) cC (hl.rd.mem M3) (aJ OpRow.cells hx) rfl rfl) (oF rfl rfl rfl (fV rfl rfl rfl (bV rfl rfl rfl (bN (i) aIf rfl rfl rfl ((hl.rd.mem M3).below_len (aJ OpRow.cells hx)) ((hl.rd.mem M3).someK (aJ OpRow.cells hx))) (bV rfl rfl rfl (bJ 12 bBm (hl.rd.mem M3) (Nat.lt_of_le_of_lt (Nat.zero_le _) ((hl.rd.mem M3).below_len (aJ OpRow.cells hx))) rfl) ?_))))
  refine bV rfl rfl rfl (oV (o := 12) _ bM (hl.rd.mem M3) (aJ OpRow.cells hx) rfl rfl rfl) (oF rfl rfl rfl (fV rfl rfl rfl (bV rfl rfl rfl (bN (i) aIf rfl rfl rfl ((hl.rd.mem M3).below_len (aJ OpRow.cells hx)) ((hl.rd.mem M3).someK (aJ OpRow.cells hx))) (bV rfl rfl rfl (bJ 14 aNp (hl.rd.mem M3) (Nat.lt_of_le_of_lt (Nat.zero_le _) ((hl.rd.mem M3).below_len (aJ OpRow.cells hx))) rfl) ?_))))
  refine bV rfl rfl rfl (eJ (o := 14) (.slice _ _ _) aFv (hl.rd.mem M3) (aJ OpRow.cells hx) rfl rfl) (aV rfl rfl rfl (fun _ => cH [(0, .int _ _), (1, .agg (List.toArray _)), (2, .int _ _), (3, .agg (List.toArray _)), (4, .slice _ _ _)] _ sQ rfl rfl) (dG [true, true, true, true, true, true, true, true, true, true, true, true, true, true, true] rfl (by kernel_rfl) ?_))
  refine dB [.agg (List.toArray _)] [x.cells] rfl aLm M3 rfl rfl rfl rfl (dI rfl) (by decide) (fun b4 w4 M4 => ?_)
  refine aB (aC ⟨dH, ?_⟩)
  refine dG [] rfl (by kernel_rfl) (eC 0 [x.cells] aLm M4 rfl rfl rfl rfl rfl hq rfl (by simp [OpRow.cells, eL, aF, Go.Bil.one]) (dD.ofMem 1 M4 rfl) (by omega) (fun A5 c5 e5 w5 M5 hR5 => ?_))
  refine aB (aC ⟨dH, ?_⟩)
  refine aV rfl rfl rfl (fun _ => aI (.slice _ _ _) rfl) (cD (dE (aC (aA (aY rfl rfl (wq (bU rfl rfl (by omega) (by omega)) rfl ?_))))))
  refine bP rfl rfl (aB ?_)
  refine cS (i + 1, ⟨A5, q.n + 1, c5, e5⟩) (bR rfl (bR rfl eZ)) (cV rfl (cV rfl jQ)) ?_ ?_
  ·exact ⟨⟨by omega, by rw [cT hx, List.map_append]; exact hR5⟩, M5.keep [true]⟩
  ·(show n - (i + 1) < n - i; omega)
 ·have hin : i = n := by omega
  rw [hin, List.take_of_length_le (by omega)] at hq
  refine cR (cZ (cX (eQ (aC (aD (aA (eG rfl rfl ?_)))))))
  refine fP rfl rfl (aB (aC (aM (bW (.slice _ _ _) rfl ?_))))
  exact ⟨q, rfl, hq, hM2⟩
theorem bJj : ∃ fs, OpT Tryz.prog 4 46 3 39 35 37 31 5 1 fs := ⟨_, Tryz.underlying46, by kernel_rfl, by kernel_rfl, by kernel_rfl, by kernel_rfl, by kernel_rfl, by kernel_rfl, by kernel_rfl, by kernel_rfl, by kernel_rfl, by kernel_rfl, by kernel_rfl, by kernel_rfl, mL⟩
set_option maxHeartbeats 8000000 in
theorem aHz (w : World) (F : Rd w 2 (some ⟨0, 0, none⟩) 1 [[.int .u32 73856093, .int .u32 19349663]]) (N : Rd w 4 (some ⟨3, 0, none⟩) 1 [cY gO]) (b : Nat) (r : StV) (vs : List Body) (hW : bY 39 r vs) (hO : Own [(some b, bc [.slice r.A r.n r.c, .map r.p] 107), r.er, r.em] w) (hdF : 0 < 1 → ∀ q off, (some ⟨0, 0, none⟩ : Option Addr) = some ⟨q, off, none⟩ → q ∉ bH [(some b, bc [.slice r.A r.n r.c, .map r.p] 107), r.er, r.em]) (hdN : 0 < 1 → ∀ q off, (some ⟨3, 0, none⟩ : Option Addr) = some ⟨q, off, none⟩ → q ∉ bH [(some b, bc [.slice r.A r.n r.c, .map r.p] 107), r.er, r.em]) :
  Calls Tryz.prog 53 #[.pointer (some ⟨b, 0, none⟩)] w (fun ex w' => ∃ v, ex = .returned v ∧ (fun v w' => ∃ (r' : StV) (t : Nat), v = .agg [.int .i64 (t : Int), .int .i64 ((kX vs).length : Int), .bool (rN vs)].toArray ∧ (kX vs).length ≤ t ∧ 2 * t ≤ vs.length * (vs.length - 1) ∧ bY 39 r' (nZ vs) ∧ Mem w (bH [(some b, bc [.slice r.A r.n r.c, .map r.p] 107), r.er, r.em]) [(some b, bc [.slice r'.A r'.n r'.c, .map r'.p] 107), r'.er, r'.em] w') v w') := by
 have hW' := hW
 obtain ⟨hG, m, hs, hR⟩ := hW
 have hvl := hG.len
 refine aH #[.cell 2 58] 18 Tryz.func53 rfl Tryz.results53 Tryz.ntmps53 rfl ?_
 have M0 := hO.mem
 refine aD (aA (aQ sL M0 rfl rfl (fun b1 w1 M1 => (aB (aC (aD (aD (aA (wq (aG (.pointer _) rfl) rfl (wq (eN false Tryz.underlying25 rfl rfl) rfl (aB (aC ?_))))))))))))
 refine cB rfl (aK (aC (aD (aA (wq (aG (.pointer _) rfl) rfl (bX aOg rfl rfl (oU _ _ r _ hW' (M1.ownSeg 0 3)) ?_))))))
 rintro v2 w2 ⟨q, rfl, hq, hM2⟩
 have M2 : Mem _ _ [_, _, _, _, _] _ := M1.seg 0 3 hM2
 have hqn : vs.length = q.n := by simpa using hq.1
 refine bX bCp rfl rfl (aCy _ (F.memY M2 hdF) (N.memY M2 hdN) _ _ _ vs (hq.rd M2 (aX (i := 4) rfl)) hG.okb hG.s (by omega)) ?_
 rintro v3 w3 ⟨ra, ta, rfl, h1ta, h2ta, hra, hM3⟩
 have M3 : Mem _ _ [_, _, _, _, _, _] _ := M2.call0 hM3
 refine wq (aG (.tuple (List.toArray _)) rfl) rfl (wq (bE (.slice _ _ _) rfl rfl) rfl (wq (bE (.agg (List.toArray _)) rfl rfl) rfl (aQ sL M3 rfl rfl (fun b4 w4 M4 => (fP rfl rfl (bB 6 _ nP M4 rfl rfl rfl rfl rfl (aR rfl) rfl (fun w5 M5 => ?_)))))))
 refine aB (aC (aD (aA (wq (aG (.pointer _) rfl) rfl (eG rfl rfl (bX aTl rfl rfl (nA _ _ r _ hW' (M5.ownSeg 0 3) ra.A ra.n ra.c (nZ vs) (hra.rd M5 (aX (i := 5) rfl)) hG.step (hra.awayS M5 0 3 5 rfl rfl)) ?_))))))
 rintro v6 w6 ⟨r2, rfl, hw2, hM6⟩
 have M6 : Mem _ _ [_, _, _, _, _, _, _] _ := M5.seg 0 3 hM6
 refine aB (aC (aD (aA (wq (bC 6 nP M6 rfl rfl rfl) rfl (bB 3 _ nP M6 rfl rfl rfl rfl rfl (aR rfl) rfl (fun w7 M7 => (aB (aC (aM (eV 3 nP M7 rfl rfl rfl ?_))))))))))
 exact ⟨r2, ta, rfl, h1ta, h2ta, hw2, M7.keep [true, true, true, false, false, false, false]⟩
set_option maxHeartbeats 4000000 in
theorem tE (w : World) (key inv x : Int) :
  Calls Tryz.prog 52 #[.int .u32 key, .int .i32 inv, .int .i32 x] w (fun ex w' => ∃ v, ex = .returned v ∧ (fun v w' => v = (.agg (aF (⟨key, 65536, 0, 0, inv, 0, x, 0, 0, 0⟩ : Body)).toArray) ∧ Below w.heap.size w w') v w') := by
 refine aH #[.cell 6 39] 12 Tryz.func52 rfl Tryz.results52 Tryz.ntmps52 rfl ?_
 have M0 := Mem.refl w
 refine aD (aA (aQ gS M0 rfl rfl (fun b1 w1 M1 => (aB (aC (aD (aA (aY rfl rfl (aY rfl rfl (aY rfl rfl ?_))))))))))
 refine wq (cH [(0, .int _ _)] _ fE rfl rfl) rfl (wq (cH [(0, .int _ _), (1, .int _ _), (3, .int _ _), (5, .agg (List.toArray _))] _ zW rfl rfl) rfl (bB 0 _ bS M1 rfl rfl rfl rfl rfl (aR rfl) rfl (fun w2 M2 => (aB (aC (aM (eV 0 bS M2 rfl rfl rfl ?_)))))))
 exact ⟨rfl, M2.below⟩
set_option maxHeartbeats 100000000 in
theorem aZo (w : World) (F : Rd w 2 (some ⟨0, 0, none⟩) 1 [[.int .u32 73856093, .int .u32 19349663]]) (N : Rd w 4 (some ⟨3, 0, none⟩) 1 [cY gO]) :
  Calls Tryz.prog 16 #[] w (fun ex w' => ∃ v, ex = .returned v ∧ (fun v w' => v = .bool true ∧ Below w.heap.size w w') v w') := by
 refine aH #[.tmp 0] 79 Tryz.func16 rfl Tryz.results16 Tryz.ntmps16 rfl ?_
 have M0 := Mem.refl w
 refine aD (aA (wq (aI (.bool false) rfl) rfl (aB (aC (aD (aA (bX aNj rfl rfl (tE _ 2 65536 0) ?_)))))))
 rintro v1 w1 ⟨rfl, hb1⟩
 have M1 := M0.callB hb1
 refine wq (cH [(0, .int _ _), (1, .agg (List.toArray _))] _ sQ rfl rfl) rfl (aT 8 (.agg (OpRow.cells (opA wL)).toArray) rfl (bX aNj rfl rfl (tE _ 1 0 100000) ?_))
 rintro v2 w2 ⟨rfl, hb2⟩
 have M2 := M1.callB hb2
 refine wq (cH [(0, .int _ _), (1, .agg (List.toArray _))] _ sQ rfl rfl) rfl (aT 10 (.agg (OpRow.cells (opA mG)).toArray) rfl (bX aNj rfl rfl (tE _ 1 0 0) ?_))
 rintro v3 w3 ⟨rfl, hb3⟩
 have M3 := M2.callB hb3
 refine wq (cH [(0, .int _ _), (1, .agg (List.toArray _))] _ sQ rfl rfl) rfl (aT 12 (.agg (OpRow.cells (opA tB3)).toArray) rfl (dB [.agg (List.toArray _), .agg (List.toArray _), .agg (List.toArray _)] (aBd.map OpRow.cells) rfl aLm M3 rfl rfl rfl rfl (dI rfl) (by decide) (fun b4 w4 M4 => ?_)))
 have hlit13 := kA (T := 41) (sz := 15) (b := b4) (nn := 3) (aBd.map OpRow.cells) (bAs _) rfl (by decide)
 refine bX aVu rfl rfl (oY _ (F.mem M4) (N.mem M4) _ 3 3 aBd ⟨(hlit13.rd M4 (aX (i := 0) rfl)), aPs _⟩ (fun x hx => by rw [bDy x hx]; decide) (by decide)) ?_
 rintro v5 w5 ⟨wb, r0, rfl, hr0, hM5⟩
 have M5 : Mem _ _ [_, _, _, _] _ := M4.call0 hM5
 rw [bId] at hr0
 refine wq (aI (.pointer _) rfl) rfl (aB (aC (aD (aA (wq (aG (.pointer _) rfl) rfl (bX bCv rfl rfl (aHz _ (F.mem M5) (N.mem M5) _ r0 _ hr0 (M5.ownSeg 1 3) (M5.away 1 3 F (by simp)) (M5.away 1 3 N (by simp))) ?_))))))
 rintro v6 w6 ⟨r1, ts, rfl, h1ts, h2ts, hr1, hM6⟩
 have M6 : Mem _ _ [_, _, _, _] _ := M5.seg 1 3 hM6
 rw [bJn] at hr1
 rw [aEc] at h1ts
 obtain rfl : ts = 1 := by have h : 2 * ts ≤ 2 := h2ts; have g : 1 ≤ ts := h1ts; omega
 refine aT 16 (.agg [.int .i64 1, .int .i64 1, .bool false].toArray) (congrArg Value.agg (by rw [aEc, bJa]; rfl)) (aQ sL M6 rfl rfl (fun b7 w7 M7 => (bB 4 _ nP M7 rfl rfl rfl rfl rfl (aR rfl) rfl (fun w8 M8 => (aB (aC (aD (aA (wq (aG (.pointer _) rfl) rfl (bX aOg rfl rfl (oU _ _ r1 _ hr1 (M8.ownSeg 1 3)) ?_))))))))))
 rintro v9 w9 ⟨qv, rfl, hqv, hM9⟩
 have M9 : Mem _ _ [_, _, _, _, _, _] _ := M8.seg 1 3 hM9
 have hqv2 : 2 = qv.n := by simpa using hqv.1
 refine fP rfl rfl (aB (aC (aD (aD (aA (eG rfl rfl (wq (cP Tryz.underlying29 rfl) rfl (dA rfl rfl rfl rfl (uZ 21 rfl (by omega) ?_)))))))))
 refine aB (aC (cB rfl (aK (aC (aD (aA (wq (aG (.pointer _) rfl) rfl (bX aCn rfl rfl (gC _ _ r1 _ hr1 (M9.ownSeg 1 3)) ?_))))))))
 rintro v10 w10 ⟨sb, rfl, hsb, hM10⟩
 have M10 : Mem _ _ [_, _, _, _, _, _, _] _ := M9.seg 1 3 hM10
 have hsn : 88 = sb.n := by have h := hsb.1; rwa [List.length_map, aGa] at h
 refine fP rfl rfl (aB (aC (aD (aA (eG rfl rfl (bX bCo rfl rfl (uC _ sb.A sb.n sb.c (lO [mG, xL]) (hsb.rd M10 (aX (i := 6) rfl)) (aPr _) hsb.slice (by omega)) ?_))))))
 rintro v11 w11 ⟨q, rfl, hq, hM11⟩
 have M11 : Mem _ _ [_, _, _, _, _, _, _, _] _ := M10.call0 hM11
 have hsg := aPo hr1.1
 rw [hsg] at hq
 refine wq (aG (.tuple (List.toArray _)) rfl) rfl (wq (bE (.slice _ _ _) rfl rfl) rfl (wq (bE (.int _ _) rfl rfl) rfl (aT 28 (.int .i64 0) (iE (by rw [hsg])) (fP rfl rfl (bP rfl rfl ?_)))))
 refine aB (aC (aD (bO [(0, 0), (1, 1), (2, 0), (3, 0), (4, 0), (5, 1), (6, 0), (7, 0), (8, 0), (9, 0), (10, 1), (11, 0), (12, 0), (13, 0), (14, 0), (15, 1), (16, 1), (17, 2), (18, 0), (19, 0), (20, 0), (21, 0), (22, 1), (23, 1), (24, 1), (25, 0), (26, 0), (27, 0), (28, 0), (29, 0), (30, 1), (31, 1), (32, 1), (33, 0), (34, 0), (35, 0), (36, 0), (37, 0), (38, 0), (39, 0), (40, 0), (41, 0), (42, 0), (43, 0), (44, 2), (45, 0), (46, 0), (47, 0), (48, 0), (49, 0), (50, 0)] mixed rfl (by kernel_rfl) (fun w12 hb12 hh12 => ?_))))
 have M12 := M11.drew hb12 hh12
 refine aV rfl rfl rfl (fun _ => aE 1 aFi rfl) (bV rfl rfl rfl (aL 4 (.int _ _) jC M12 rfl rfl rfl) (aV rfl rfl rfl (fun _ => dO (.bool (decide _)) rfl rfl rfl) (aV rfl rfl rfl (fun _ => aG (.bool true) rfl) (aV rfl rfl rfl (fun _ => aE 0 aNz rfl) (bV rfl rfl rfl (aL 4 (.int _ _) jC M12 rfl rfl rfl) ?_)))))
 refine aV rfl rfl rfl (fun _ => dO (.bool (decide _)) rfl rfl rfl) (aV rfl rfl rfl (fun _ => bQ true (.bool true) rfl rfl) (aV rfl rfl rfl (fun _ => aG (.bool true) rfl) (aV rfl rfl rfl (fun _ => aE 2 sO rfl) (bV rfl rfl rfl (aL 4 (.bool false) nV M12 rfl rfl rfl) (aV rfl rfl rfl (fun _ => fO true rfl rfl) ?_)))))
 refine aV rfl rfl rfl (fun _ => bQ true (.bool true) rfl rfl) (aV rfl rfl rfl (fun _ => aG (.bool true) rfl) (oF rfl rfl rfl (bV rfl rfl rfl (bN (0) dW rfl rfl rfl ((hqv.rd M12 (aX (i := 5) rfl)).below_len ((show ([mG, xL].map aF)[0]? = some (aF mG) from rfl))) ((hqv.rd M12 (aX (i := 5) rfl)).someK ((show ([mG, xL].map aF)[0]? = some (aF mG) from rfl)))) ?_)))
 refine bV rfl rfl rfl (dC _ bS (hqv.rd M12 (aX (i := 5) rfl)) ((show ([mG, xL].map aF)[0]? = some (aF mG) from rfl)) rfl) (dG [false, false, true, true, true] rfl (by kernel_rfl) (bX aNj rfl rfl (tE _ 1 0 100000) ?_))
 rintro v13 w13 ⟨rfl, hb13⟩
 have M13 := M12.callB hb13
 refine aB (aC ⟨(eF (bK rfl (dC _ bS (hqv.rd M13 (aX (i := 5) rfl)) ((show ([mG, xL].map aF)[0]? = some (aF mG) from rfl)) rfl)) (eF (bK rfl (bN (0) dW rfl rfl rfl ((hqv.rd M13 (aX (i := 5) rfl)).below_len ((show ([mG, xL].map aF)[0]? = some (aF mG) from rfl))) ((hqv.rd M13 (aX (i := 5) rfl)).someK ((show ([mG, xL].map aF)[0]? = some (aF mG) from rfl))))) dH)), ?_⟩)
 refine aV rfl rfl rfl (fun _ => aWb (aVd mG mG) rfl rfl) (fH 47 (.bool true) (bT rfl).symm (aV rfl rfl rfl (fun _ => bQ true (.bool true) rfl rfl) (aV rfl rfl rfl (fun _ => aG (.bool true) rfl) (oF rfl rfl rfl (bV rfl rfl rfl (bN (1) dW rfl rfl rfl ((hqv.rd M13 (aX (i := 5) rfl)).below_len ((show ([mG, xL].map aF)[1]? = some (aF xL) from rfl))) ((hqv.rd M13 (aX (i := 5) rfl)).someK ((show ([mG, xL].map aF)[1]? = some (aF xL) from rfl)))) ?_)))))
 refine bV rfl rfl rfl (bJ 8 fA (hqv.rd M13 (aX (i := 5) rfl)) (Nat.lt_of_le_of_lt (Nat.zero_le _) ((hqv.rd M13 (aX (i := 5) rfl)).below_len ((show ([mG, xL].map aF)[1]? = some (aF xL) from rfl)))) rfl) (bV rfl rfl rfl (oV (o := 8) _ bM (hqv.rd M13 (aX (i := 5) rfl)) ((show ([mG, xL].map aF)[1]? = some (aF xL) from rfl)) rfl rfl rfl) ?_)
 refine aV rfl rfl rfl (fun _ => cH [(1, .int _ _)] _ fE rfl rfl) (aV rfl rfl rfl (fun _ => aWb (bCg _ _ _ _) rfl rfl) (fH 55 (.bool true) (bT (by decide)).symm (aV rfl rfl rfl (fun _ => bQ true (.bool true) rfl rfl) (aV rfl rfl rfl (fun _ => aG (.bool true) rfl) (oF rfl rfl rfl ?_)))))
 refine bV rfl rfl rfl (bN (1) dW rfl rfl rfl ((hqv.rd M13 (aX (i := 5) rfl)).below_len ((show ([mG, xL].map aF)[1]? = some (aF xL) from rfl))) ((hqv.rd M13 (aX (i := 5) rfl)).someK ((show ([mG, xL].map aF)[1]? = some (aF xL) from rfl)))) (bV rfl rfl rfl (bJ 6 fR (hqv.rd M13 (aX (i := 5) rfl)) (Nat.lt_of_le_of_lt (Nat.zero_le _) ((hqv.rd M13 (aX (i := 5) rfl)).below_len ((show ([mG, xL].map aF)[1]? = some (aF xL) from rfl)))) rfl) ?_)
 refine bV rfl rfl rfl (oV (o := 6) _ bM (hqv.rd M13 (aX (i := 5) rfl)) ((show ([mG, xL].map aF)[1]? = some (aF xL) from rfl)) rfl rfl rfl) (aV rfl rfl rfl (fun _ => cH [(0, .int _ _), (1, .int _ _)] _ fE rfl rfl) (aV rfl rfl rfl (fun _ => aWb (bCg _ _ _ _) rfl rfl) ?_))
 refine fH 63 (.bool true) (bT (by decide)).symm (aV rfl rfl rfl (fun _ => bQ true (.bool true) rfl rfl) (aV rfl rfl rfl (fun _ => aG (.bool true) rfl) (oF rfl rfl rfl (aV rfl rfl rfl (fun _ => cP Tryz.underlying31 rfl) (aV rfl rfl rfl (fun _ => dO (.bool (decide _)) rfl rfl rfl) ?_)))))
 refine fH 68 (.bool true) (bT (by omega)).symm (aV rfl rfl rfl (fun _ => bQ true (.bool true) rfl rfl) (aV rfl rfl rfl (fun _ => aG (.bool true) rfl) (oF rfl rfl rfl (oF rfl rfl rfl (dG [true, true, true, true, true, true, true, true] rfl (by kernel_rfl) ?_)))))
 refine bX bJo rfl rfl (aKv _ _ _ _ _ (hq.rd M13 (aX (i := 7) rfl)) _ _ _ _ (hqv.rd M13 (aX (i := 5) rfl))) ?_
 rintro v14 w14 ⟨rfl, hb14⟩
 have M14 := M13.callB hb14
 refine aB (aC ⟨dH, ?_⟩)
 refine fH 73 (.bool true) (bT rfl).symm (aV rfl rfl rfl (fun _ => bQ true (.bool true) rfl rfl) (aV rfl rfl rfl (fun _ => aG (.bool true) rfl) (fV rfl rfl rfl (aV rfl rfl rfl (fun _ => dO (.bool (decide _)) rfl rfl rfl) (aV rfl rfl rfl (fun _ => bQ true (.bool true) rfl rfl) ?_)))))
 refine aV rfl rfl rfl (fun _ => aI (.bool true) rfl) (cD (aC (aM (bW (.bool true) rfl ?_))))
 exact ⟨rfl, M14.below⟩
end Go.Proofs.YtaoaknafiegfoaaGreatDoor
