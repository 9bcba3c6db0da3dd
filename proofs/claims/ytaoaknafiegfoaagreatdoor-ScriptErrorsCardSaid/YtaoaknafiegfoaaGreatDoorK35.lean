/- Part of the proof of the laws of this seat: P22, W22a, W22b, W22c, R22a, D22, K23, S23, E23, R23, R23b, Aw23, Op23. No conditions. -/
import Derived.Test.YtaoaknafiegfoaaGreatDoorK2
import Derived.Test.YtaoaknafiegfoaaGreatDoorK5
import Derived.Test.YtaoaknafiegfoaaGreatDoorK31
import Derived.Test.YtaoaknafiegfoaaGreatDoorK28
import Derived.Test.YtaoaknafiegfoaaGreatDoorK34
import Derived.Test.YtaoaknafiegfoaaGreatDoorK32
import Derived.Test.YtaoaknafiegfoaaGreatDoorK23
import Derived.Test.YtaoaknafiegfoaaGreatDoorK33
import Derived.Test.YtaoaknafiegfoaaGreatDoorK18
import Derived.Test.YtaoaknafiegfoaaGreatDoorK3
set_option linter.unusedVariables false
set_option linter.unusedSimpArgs false
set_option linter.unnecessarySimpa false
namespace Go.Proofs.YtaoaknafiegfoaaGreatDoor
open Go.Bil
open Go.RowKit (Below)
open Go.Proofs
set_option maxHeartbeats 8000000 in
theorem aRr (w : World) (b : Body) (hb : Okb b) (j : Int × Int) (hj1 : -2147483648 ≤ j.1 ∧ j.1 ≤ 2147483647) (hj2 : -2147483648 ≤ j.2 ∧ j.2 ≤ 2147483647) :
  Calls Tryz.prog 124 #[(.agg (aF b).toArray), .agg [.int .i32 j.1, .int .i32 j.2].toArray] w (fun ex w' => ∃ v, ex = .returned v ∧ (fun v w' => (∃ g : Bool, v = .tuple #[(.agg (aF (nQ b j)).toArray), .bool g]) ∧ Below w.heap.size w w') v w') := by
 have hv := hb.v
 have hm := hb.m
 have hp1 := bIs hj1 hm
 have hp2 := bIs hj2 hm
 refine aH #[.cell 4 39, .tmp 5] 45 Tryz.func124 rfl Tryz.results124 Tryz.ntmps124 rfl ?_
 have M0 := Mem.refl w
 refine aD (aA (bE (.agg (List.toArray _)) M0 rfl rfl rfl (fun b1 w1 M1 => (bE (.agg (List.toArray _)) M1 rfl rfl rfl (fun b2 w2 M2 => (aQ gW M2 rfl rfl (fun b3 w3 M3 => (wq (aI (.bool false) rfl) rfl (aB (aC (aD (aA ?_))))))))))))
 refine aQ aNr M3 rfl rfl (fun b4 w4 M4 => (eD 3 (.bool false) mD M4 rfl rfl rfl rfl rfl rfl (fun w5 M5 => (aB (aC (aD (aA (wq (aE 8 fO rfl) rfl (wq (aE 0 dW rfl) rfl (wq (aL 0 (.int _ _) aW M5 rfl rfl rfl) rfl ?_))))))))))
 refine wq (bU fV Tryz.underlying2 rfl (kO _ (by omega) (by omega))) rfl (wq (aE 0 dW rfl) rfl (wq (aL 1 (.int _ _) aW M5 rfl rfl rfl) rfl (wq (bU fV Tryz.underlying2 rfl (kO _ (by omega) (by omega))) rfl (wq (aE 4 fH rfl) rfl (wq (aL 0 (.int _ _) aW M5 rfl rfl rfl) rfl ?_)))))
 refine wq (bU fV Tryz.underlying2 rfl (kO _ (by omega) (by omega))) rfl (wq (gC rfl rfl (by omega) (by omega)) rfl (wq (gO rfl rfl (by decide)) rfl (aV 20 (.int .i64 (j.1 * b.mass / 65536)) (iE (mP _)) (wq (bQ rfl rfl (by omega) (by omega)) rfl (bO rfl rfl ?_)))))
 refine aB (aC (aD (aA (wq (aE 8 fO rfl) rfl (wq (aE 1 dO rfl) rfl (wq (aL 0 (.int _ _) aW M5 rfl rfl rfl) rfl (wq (bU fV Tryz.underlying2 rfl (kO _ (by omega) (by omega))) rfl (wq (aE 1 dO rfl) rfl ?_))))))))
 refine wq (aL 1 (.int _ _) aW M5 rfl rfl rfl) rfl (wq (bU fV Tryz.underlying2 rfl (kO _ (by omega) (by omega))) rfl (wq (aE 4 fH rfl) rfl (wq (aL 0 (.int _ _) aW M5 rfl rfl rfl) rfl (wq (bU fV Tryz.underlying2 rfl (kO _ (by omega) (by omega))) rfl (wq (gC rfl rfl (by omega) (by omega)) rfl ?_)))))
 refine wq (gO rfl rfl (by decide)) rfl (aV 33 (.int .i64 (j.2 * b.mass / 65536)) (iE (mP _)) (wq (bQ rfl rfl (by omega) (by omega)) rfl (bO rfl rfl (aB (aC (aD (aA (aY rfl rfl ?_))))))))
 refine cT [.pointer _] [[.pointer (some ⟨b4, 0, none⟩)]] rfl aCy M5 rfl rfl rfl rfl (dA rfl) (by decide) (fun b6 w6 M6 => ?_)
 have hlit36 := jY (T := 174) (sz := 1) (b := b6) (nn := 1) [[.pointer (some ⟨b4, 0, none⟩)]] (by simp) rfl (by decide)
 refine cA zG rfl rfl (kK _ (b.vx + j.1 * b.mass / 65536) 16777216 ⟨by decide, by decide⟩ b4 _ _ 1 (hlit36.rd M6 (aP (i := 4) rfl)) (hlit36.awayB M6 4 3 rfl rfl rfl) (M6.ownSeg 3 1)) ?_
 rintro v7 w7 ⟨rfl, hM7⟩
 have M7 : Mem _ _ [_, _, _, _, _] _ := M6.seg 3 1 hM7
 refine aY rfl rfl (cT [.pointer _] [[.pointer (some ⟨b4, 0, none⟩)]] rfl aCy M7 rfl rfl rfl rfl (dA rfl) (by decide) (fun b8 w8 M8 => ?_))
 have hlit39 := jY (T := 174) (sz := 1) (b := b8) (nn := 1) [[.pointer (some ⟨b4, 0, none⟩)]] (by simp) rfl (by decide)
 refine cA zG rfl rfl (kK _ (b.vy + j.2 * b.mass / 65536) 16777216 ⟨by decide, by decide⟩ b4 _ _ 1 (hlit39.rd M8 (aP (i := 5) rfl)) (hlit39.awayB M8 5 3 rfl rfl rfl) (M8.ownSeg 3 1)) ?_
 rintro v9 w9 ⟨rfl, hM9⟩
 have M9 : Mem _ _ [_, _, _, _, _, _] _ := M8.seg 3 1 hM9
 refine wq (cF [(0, .int _ _), (1, .int _ _)] _ gD rfl rfl) rfl (wq (aE 8 fO rfl) rfl (aFg 0 _ bL M9 rfl rfl rfl rfl rfl (aR rfl) (Nat.le_of_ble_eq_true rfl) (fun w10 M10 => (aB (aC (aD (bP [(0, 1), (1, 1), (2, 2), (3, 0)] mixed rfl (by kernel_rfl) (fun w11 hb11 hh11 => ?_))))))))
 have M11 := M10.drew hb11 hh11
 refine bW rfl rfl rfl (bA 0 bS M11 rfl rfl rfl) (bW rfl rfl rfl (aL 3 (.bool _) mD M11 rfl rfl rfl) (dM [false, true] rfl (by kernel_rfl) (bC 2 _ bS M11 rfl rfl rfl rfl rfl (aR rfl) rfl (fun w12 M12 => ?_))))
 refine aB (aC ⟨(eL (bN rfl (aL 3 (.bool _) mD M12 rfl rfl rfl)) dN), ?_⟩)
 refine aX rfl rfl rfl (fun _ => aI (.bool _) rfl) (cE (aC (aO (aCk (v2 := .bool _) 2 bS M12 rfl rfl rfl rfl ?_))))
 exact ⟨⟨_, rfl⟩, M12.below⟩
set_option maxHeartbeats 4000000 in
theorem zH (w : World) (b : Nat) :
  Calls Tryz.prog 60 #[.pointer (some ⟨b, 0, none⟩)] w (fun ex w' => ∃ v, ex = .returned v ∧ (fun v w' => v = .pointer (some ⟨b, 0, none⟩) ∧ Below w.heap.size w w') v w') := by
 refine aH #[.tmp 2] 8 Tryz.func60 rfl Tryz.results60 Tryz.ntmps60 rfl ?_
 have M0 := Mem.refl w
 refine aD (aA (wq (aI (.pointer _) rfl) rfl (aB (aC (aD (aD (aA (wq (aG (.pointer _) rfl) rfl (wq (eV false Tryz.underlying25 rfl rfl) rfl (aB (aC ?_)))))))))))
 refine bY rfl (aK (aC (aD (aA (wq (aG (.pointer _) rfl) rfl (wq (aM rfl) rfl (wq (aE 0 pN rfl) rfl (wq (aI (.pointer _) rfl) rfl ?_))))))))
 refine aB (aC (aO (cD (.pointer _) rfl ?_)))
 exact ⟨rfl, M0.below⟩
set_option maxHeartbeats 4000000 in
theorem aQm (w : World) (b : Nat) (r : StV) (vs : List Body) (hW : cC 39 r vs) (hO : Own [(some b, bc [.slice r.A r.n r.c, .map r.p] 107), r.er, r.em] w) (x : Body) (hx : InB x) :
  Calls Tryz.prog 26 #[.pointer (some ⟨b, 0, none⟩), (.agg (aF x).toArray)] w (fun ex w' => ∃ v, ex = .returned v ∧ (fun v w' => ∃ r' : StV, v = .int .i64 (pQ vs x).2 ∧ cC 39 r' ((pQ vs x).1) ∧ Mem w (bJ [(some b, bc [.slice r.A r.n r.c, .map r.p] 107), r.er, r.em]) [(some b, bc [.slice r'.A r'.n r'.c, .map r'.p] 107), r'.er, r'.em] w') v w') := by
 obtain ⟨hG, m, hs, hR⟩ := hW
 refine aH #[.tmp 4] 15 Tryz.func26 rfl Tryz.results26 Tryz.ntmps26 rfl ?_
 have M0 := hO.mem
 refine aD (aA (bE (.agg (List.toArray _)) M0 rfl rfl rfl (fun b1 w1 M1 => (bO rfl rfl (aB (aC (aD (aD (aA (wq (aG (.pointer _) rfl) rfl (cA aRw rfl rfl (zH _ b) ?_)))))))))))
 rintro v2 w2 ⟨rfl, hb2⟩
 have M2 := M1.callB hb2
 refine wq (aI (.pointer _) rfl) rfl (aB (aC (aD (aA (wq (aG (.pointer _) rfl) rfl (wq (rY true Tryz.underlying119 rfl rfl) rfl (aB (aC (cS rfl ?_)))))))))
 refine aD (bP [(0, 0), (1, 0), (2, 0), (3, 1), (4, 2), (5, 0)] mixed rfl (by kernel_rfl) (fun w3 hb3 hh3 => ?_))
 have M3 := M2.drew hb3 hh3
 refine aX rfl rfl rfl (fun _ => aG (.pointer _) rfl) (aX rfl rfl rfl (fun _ => aM rfl) (aX rfl rfl rfl (fun _ => aE 0 nR rfl) (bW rfl rfl rfl (bA 3 bS M3 rfl rfl rfl) (dM [true] rfl (by kernel_rfl) (cA bBv rfl rfl (aNt _ _ _ _ _ _ _ _ _ hs (M3.ownSeg 0 3) x) ?_)))))
 rintro v4 w4 ⟨rfl, A4, n4, c4, p4, er4, em4, hs4, hM4⟩
 have M4 : Mem _ _ [_, _, _, _] _ := M3.seg 0 3 hM4
 refine aB (aC ⟨dN, ?_⟩)
 refine qO rfl rfl rfl (cE (aC (aO (cM (cD (.int _ _) rfl ?_)))))
 obtain ⟨q1, q2⟩ := hR.add x
 exact ⟨⟨A4, n4, c4, p4, er4, em4⟩, by rw [q2], wZ hs4 q1 (aXk (hG.inm hR) hx), M4.keep [true, true, true, false]⟩
set_option maxHeartbeats 4000000 in
theorem aEl (w : World) (b : Nat) (r : StV) (vs : List Body) (hW : cC 39 r vs) (hO : Own [(some b, bc [.slice r.A r.n r.c, .map r.p] 107), r.er, r.em] w) (key : Int) :
  Calls Tryz.prog 86 #[.pointer (some ⟨b, 0, none⟩), .int .u32 key] w (fun ex w' => ∃ v, ex = .returned v ∧ (fun v w' => ∃ r' : StV, v = .int .i64 (fN vs key).2 ∧ cC 39 r' ((fN vs key).1) ∧ Mem w (bJ [(some b, bc [.slice r.A r.n r.c, .map r.p] 107), r.er, r.em]) [(some b, bc [.slice r'.A r'.n r'.c, .map r'.p] 107), r'.er, r'.em] w') v w') := by
 obtain ⟨hG, m, hs, hR⟩ := hW
 refine aH #[.tmp 4] 15 Tryz.func86 rfl Tryz.results86 Tryz.ntmps86 rfl ?_
 have M0 := hO.mem
 refine aD (aA (bO rfl rfl (aB (aC (aD (aD (aA (wq (aG (.pointer _) rfl) rfl (cA aRw rfl rfl (zH _ b) ?_)))))))))
 rintro v1 w1 ⟨rfl, hb1⟩
 have M1 := M0.callB hb1
 refine wq (aI (.pointer _) rfl) rfl (aB (aC (aD (aA (wq (aG (.pointer _) rfl) rfl (wq (rY true Tryz.underlying119 rfl rfl) rfl (aB (aC (cS rfl ?_)))))))))
 refine aD (aA (wq (aG (.pointer _) rfl) rfl (wq (aM rfl) rfl (wq (aE 0 nR rfl) rfl (aY rfl rfl (cA bGd rfl rfl (aKq _ _ _ _ _ _ _ _ _ hs (M1.ownSeg 0 3) key) ?_))))))
 rintro v2 w2 ⟨rfl, A2, n2, c2, p2, er2, em2, hs2, hM2⟩
 have M2 : Mem _ _ [_, _, _] _ := M1.seg 0 3 hM2
 refine bO rfl rfl (aB (aC (aO (cM (cD (.int _ _) rfl ?_)))))
 obtain ⟨q1, q2⟩ := hR.remove key
 exact ⟨⟨A2, n2, c2, p2, er2, em2⟩, by rw [q2], wZ hs2 q1 (aJf hs.keys (hG.inm hR)), M2.keep [true, true, true]⟩
set_option maxHeartbeats 4000000 in
theorem aOm (w : World) (b : Nat) (r : StV) (vs : List Body) (hW : cC 39 r vs) (hO : Own [(some b, bc [.slice r.A r.n r.c, .map r.p] 107), r.er, r.em] w) (key : Int) :
  Calls Tryz.prog 69 #[.pointer (some ⟨b, 0, none⟩), .int .u32 key] w (fun ex w' => ∃ v, ex = .returned v ∧ (fun v w' => v = .tuple #[(.agg (aF (rF vs key).body).toArray), .int .i64 (rF vs key).err] ∧ Mem w (bJ [(some b, bc [.slice r.A r.n r.c, .map r.p] 107), r.er, r.em]) [(some b, bc [.slice r.A r.n r.c, .map r.p] 107), r.er, r.em] w') v w') := by
 obtain ⟨hG, m, hs, hR⟩ := hW
 refine aH #[.cell 4 39, .tmp 5] 19 Tryz.func69 rfl Tryz.results69 Tryz.ntmps69 rfl ?_
 have M0 := hO.mem
 refine aD (aA (aQ gW M0 rfl rfl (fun b1 w1 M1 => (bO rfl rfl (aB (aC (aD (aD (aA (wq (aG (.pointer _) rfl) rfl (cA aRw rfl rfl (zH _ b) ?_)))))))))))
 rintro v2 w2 ⟨rfl, hb2⟩
 have M2 := M1.callB hb2
 refine wq (aI (.pointer _) rfl) rfl (aB (aC (aD (aA (wq (aG (.pointer _) rfl) rfl (wq (rY true Tryz.underlying119 rfl rfl) rfl (aB (aC (cS rfl ?_)))))))))
 refine aD (aA (wq (aG (.pointer _) rfl) rfl (wq (aM rfl) rfl (wq (aE 0 nR rfl) rfl (aY rfl rfl (cA bCn rfl rfl (aZf _ _ _ _ _ _ _ _ _ hs (M2.ownSeg 0 3) key) ?_))))))
 rintro v3 w3 ⟨⟨x3, rfl, hx3⟩, hM3⟩
 have M3 : Mem _ _ [_, _, _, _] _ := M2.seg 0 3 hM3
 have hge := aZr hR key
 obtain rfl : x3 = (rF vs key).body := by rw [hx3, hge]
 have hge2 : (yY m key).2 = (rF vs key).err := by rw [hge]
 refine wq (bG (.agg (List.toArray _)) rfl rfl) rfl (wq (bG (.int _ _) rfl rfl) rfl (aV 17 (.int .i64 (rF vs key).err) (iE hge2) (bC 3 _ bS M3 rfl rfl rfl rfl rfl (aR rfl) rfl (fun w4 M4 => (bO rfl rfl (aB (aC (aO (cM ?_)))))))))
 refine aCk (v2 := .int _ _) 3 bS M4 rfl rfl rfl rfl ?_
 exact ⟨rfl, M4.keep [true, true, true, false]⟩
set_option maxHeartbeats 4000000 in
theorem oS (w : World) (b : Nat) (r : StV) (vs : List Body) (hW : cC 39 r vs) (hO : Own [(some b, bc [.slice r.A r.n r.c, .map r.p] 107), r.er, r.em] w) :
  Calls Tryz.prog 38 #[.pointer (some ⟨b, 0, none⟩)] w (fun ex w' => ∃ v, ex = .returned v ∧ (fun v w' => ∃ q : Row, v = .slice q.A q.n q.c ∧ aU 39 10 q.A q.n q.c ((vs).map aF) q.e ∧ Mem w (bJ [(some b, bc [.slice r.A r.n r.c, .map r.p] 107), r.er, r.em]) [(some b, bc [.slice r.A r.n r.c, .map r.p] 107), r.er, r.em, q.e] w') v w') := by
 have hW' := hW
 obtain ⟨hG, m, hs, hR⟩ := hW
 refine aH #[.tmp 2] 10 Tryz.func38 rfl Tryz.results38 Tryz.ntmps38 rfl ?_
 have M0 := hO.mem
 refine aD (aA (fJ rfl rfl (aB (aC (aD (aD (aA (wq (aG (.pointer _) rfl) rfl (wq (eV false Tryz.underlying25 rfl rfl) rfl (aB (aC ?_)))))))))))
 refine bY rfl (aK (aC (aD (aA (wq (aG (.pointer _) rfl) rfl (wq (aM rfl) rfl (wq (aE 0 pN rfl) rfl (wq (aE 0 nR rfl) rfl ?_))))))))
 refine cA bIf rfl rfl (aLv _ _ _ _ _ _ _ _ _ hs (M0.ownSeg 0 3)) ?_
 rintro v1 w1 ⟨A1, n1, c1, e1, rfl, hR1, hM1⟩
 have M1 : Mem _ _ [_, _, _, _] _ := M0.seg 0 3 hM1
 rw [hR.eq] at hR1
 refine fJ rfl rfl (aB (aC (aO (cD (.slice _ _ _) rfl ?_))))
 exact ⟨⟨A1, n1, c1, e1⟩, rfl, hR1, M1⟩
set_option maxHeartbeats 4000000 in
theorem zM (w : World) (b : Nat) (r : StV) (vs : List Body) (hW : cC 39 r vs) (hO : Own [(some b, bc [.slice r.A r.n r.c, .map r.p] 107), r.er, r.em] w) :
  Calls Tryz.prog 24 #[.pointer (some ⟨b, 0, none⟩)] w (fun ex w' => ∃ v, ex = .returned v ∧ (fun v w' => ∃ q : Row, v = .slice q.A q.n q.c ∧ aU 5 1 q.A q.n q.c ((wL vs).map bI) q.e ∧ Mem w (bJ [(some b, bc [.slice r.A r.n r.c, .map r.p] 107), r.er, r.em]) [(some b, bc [.slice r.A r.n r.c, .map r.p] 107), r.er, r.em, q.e] w') v w') := by
 have hW' := hW
 obtain ⟨hG, m, hs, hR⟩ := hW
 refine aH #[.tmp 2] 14 Tryz.func24 rfl Tryz.results24 Tryz.ntmps24 rfl ?_
 have M0 := hO.mem
 refine aD (aA (fJ rfl rfl (aB (aC (aD (aD (aA (wq (aG (.pointer _) rfl) rfl (wq (eV false Tryz.underlying25 rfl rfl) rfl (aB (aC ?_)))))))))))
 refine bY rfl (aK (aC (aD (aA (wq (aG (.pointer _) rfl) rfl (cA aNp rfl rfl (oS _ _ r _ hW' (M0.ownSeg 0 3)) ?_))))))
 rintro v1 w1 ⟨q, rfl, hq, hM1⟩
 have M1 : Mem _ _ [_, _, _, _] _ := M0.seg 0 3 hM1
 have hqn : vs.length = q.n := by simpa using hq.1
 have hvl := hG.len
 refine cA bIl rfl rfl (aEm _ _ _ _ vs (hq.rd M1 (aP (i := 3) rfl)) (by omega) hG.chk hG.inb) ?_
 rintro v2 w2 ⟨z, rfl, hz, hM2⟩
 have M2 : Mem _ _ [_, _, _, _, _] _ := M1.call0 hM2
 refine wq (aG (.tuple (List.toArray _)) rfl) rfl (wq (bG (.slice _ _ _) rfl rfl) rfl (wq (bG (.int _ _) rfl rfl) rfl (fJ rfl rfl (bO rfl rfl (aB (aC (aD (aA ?_))))))))
 refine dV rfl rfl (fJ rfl rfl (aB (aC (aO (cD (.slice _ _ _) rfl ?_)))))
 exact ⟨z, rfl, hz, M2.keep [true, true, true, false, true]⟩
set_option maxHeartbeats 8000000 in
theorem aAk (w : World) (b : Nat) (r : StV) (vs : List Body) (hW : cC 39 r vs) (hO : Own [(some b, bc [.slice r.A r.n r.c, .map r.p] 107), r.er, r.em] w) (key : Int) (j : Int × Int) (hj1 : -2147483648 ≤ j.1 ∧ j.1 ≤ 2147483647) (hj2 : -2147483648 ≤ j.2 ∧ j.2 ≤ 2147483647) :
  Calls Tryz.prog 91 #[.pointer (some ⟨b, 0, none⟩), .int .u32 key, .agg [.int .i32 j.1, .int .i32 j.2].toArray] w (fun ex w' => ∃ v, ex = .returned v ∧ (fun v w' => ∃ r' : StV, v = .int .i64 (oX vs key j).2 ∧ cC 39 r' ((oX vs key j).1) ∧ Mem w (bJ [(some b, bc [.slice r.A r.n r.c, .map r.p] 107), r.er, r.em]) [(some b, bc [.slice r'.A r'.n r'.c, .map r'.p] 107), r'.er, r'.em] w') v w') := by
 have hW' := hW
 obtain ⟨hG, m, hs, hR⟩ := hW
 refine aH #[.tmp 6] 30 Tryz.func91 rfl Tryz.results91 Tryz.ntmps91 rfl ?_
 have M0 := hO.mem
 refine aD (aA (bE (.agg (List.toArray _)) M0 rfl rfl rfl (fun b1 w1 M1 => (bO rfl rfl (aB (aC (aD (aA (wq (aG (.pointer _) rfl) rfl (aY rfl rfl ?_))))))))))
 refine cA bHj rfl rfl (aOm _ _ r vs hW' (M1.ownSeg 0 3) key) ?_
 rintro v2 w2 ⟨rfl, hM2⟩
 have M2 : Mem _ _ [_, _, _, _] _ := M1.seg 0 3 hM2
 refine wq (aG (.tuple (List.toArray _)) rfl) rfl (wq (bG (.agg (List.toArray _)) rfl rfl) rfl (wq (bG (.int _ _) rfl rfl) rfl (aQ gW M2 rfl rfl (fun b3 w3 M3 => (bC 4 _ bS M3 rfl rfl rfl rfl rfl (aR rfl) rfl (fun w4 M4 => (bO rfl rfl ?_)))))))
 refine aB (aC (aD (aD (aA (aY rfl rfl (cY rfl rfl rfl rfl (aB (aC ?_))))))))
 refine bB rfl (fun h16 => ?_) (fun h16 => ?_)
 ·refine aD (aA (aY rfl rfl (bO rfl rfl (aB (aC (aO (cM (cD (.int _ _) rfl ?_))))))))
  have hf : cH key vs < 0 := Decidable.byContradiction fun h => h16 (by unfold rF; rw [if_neg h]; rfl)
  exact ⟨r, by rw [aIc j hf]; unfold rF; rw [if_pos hf], by rw [aIc j hf]; exact hW', M4.keep [true, true, true, false, false]⟩
 ·have hf : ¬ cH key vs < 0 := fun h => h16 (by unfold rF; rw [if_pos h]; decide)
  obtain ⟨i, bb, hbi, _, hfi⟩ := (dI key vs).resolve_left (fun h => hf (by omega))
  have hgb : (rF vs key).body = bb := by unfold rF; rw [if_neg hf]; exact aAa hfi hbi
  obtain ⟨z1, z2, z3, z4⟩ := aXd hR hG j hfi hbi
  have hbo := hG.okb bb (List.mem_of_getElem? hbi)
  refine aK (aC (aD (aA (wq (bA 4 bS M4 rfl rfl rfl) rfl (aV 19 ((.agg (aF bb).toArray)) (congrArg (fun x => Value.agg (aF x).toArray) hgb) (wq (bA 3 bL M4 rfl rfl rfl) rfl (cA bFe rfl rfl (aRr _ bb hbo j hj1 hj2) ?_)))))))
  rintro v5 w5 ⟨⟨gg, rfl⟩, hb5⟩
  have M5 := M4.callB hb5
  refine wq (aG (.tuple (List.toArray _)) rfl) rfl (wq (bG (.agg (List.toArray _)) rfl rfl) rfl (wq (bG (.bool _) rfl rfl) rfl (bC 4 _ bS M5 rfl rfl rfl rfl rfl (aR rfl) rfl (fun w6 M6 => (aB (aC (aD (bP [(0, 0), (1, 0), (2, 0), (3, 0), (4, 1), (5, 2), (6, 0)] mixed rfl (by kernel_rfl) (fun w7 hb7 hh7 => ?_)))))))))
  have M7 := M6.drew hb7 hh7
  refine aX rfl rfl rfl (fun _ => aG (.pointer _) rfl) (aX rfl rfl rfl (fun _ => aM rfl) (aX rfl rfl rfl (fun _ => aE 0 pN rfl) (aX rfl rfl rfl (fun _ => aE 0 nR rfl) (bW rfl rfl rfl (bA 4 bS M7 rfl rfl rfl) (dM [true] rfl (by kernel_rfl) ?_)))))
  refine cA bDh rfl rfl (aYt _ _ _ _ _ _ _ _ _ hs (M7.ownSeg 0 3) (nQ bb j)) ?_
  rintro v8 w8 ⟨rfl, A8, n8, c8, p8, er8, em8, hs8, hM8⟩
  have M8 : Mem _ _ [_, _, _, _, _] _ := M7.seg 0 3 hM8
  refine aB (aC ⟨dN, ?_⟩)
  refine qO rfl rfl rfl (cE (aC (aO (cD (.int _ _) rfl ?_))))
  exact ⟨⟨A8, n8, c8, p8, er8, em8⟩, by rw [z3, z2], wZ hs8 z1 (aYg (hG.inm hR) (bAx (hG.inb bb (List.mem_of_getElem? hbi)) j)), M8.keep [true, true, true, false, false]⟩
set_option maxHeartbeats 8000000 in
theorem rJ (w : World) (b : Nat) (r : StV) (vs : List Body) (hW : cC 39 r vs) (hO : Own [(some b, bc [.slice r.A r.n r.c, .map r.p] 107), r.er, r.em] w) (A : Option Addr) (n c : Nat) (xs : List Body) (RA : Rd w 10 A n (xs.map aF)) (hX : GoodV xs) (hdA : 0 < n → ∀ q off, A = some ⟨q, off, none⟩ → q ∉ bJ [(some b, bc [.slice r.A r.n r.c, .map r.p] 107), r.er, r.em]) :
  Calls Tryz.prog 78 #[.pointer (some ⟨b, 0, none⟩), .slice A n c] w (fun ex w' => ∃ v, ex = .returned v ∧ (fun v w' => ∃ r' : StV, v = .tuple #[] ∧ cC 39 r' (xs) ∧ Mem w (bJ [(some b, bc [.slice r.A r.n r.c, .map r.p] 107), r.er, r.em]) [(some b, bc [.slice r'.A r'.n r'.c, .map r'.p] 107), r'.er, r'.em] w') v w') := by
 have hlen : xs.length = n := by simpa using RA.len
 have hbd := RA.bound
 have hxl := hX.len
 refine aH #[] 23 Tryz.func78 rfl Tryz.results78 Tryz.ntmps78 rfl ?_
 have M0 := hO.mem
 refine aD (aA (wq (aG (.pointer _) rfl) rfl (wq (cF [] _ aQi rfl rfl) rfl (wq (aM rfl) rfl (wq (aE 0 pN rfl) rfl (bC 0 _ bFa M0 rfl rfl rfl rfl rfl (aR rfl) rfl (fun w1 M1 => ?_)))))))
 refine aB (aC (aD (aA ?_)))
 have M2 : Mem _ _ [_, _, _] _ := (((M1.keep [true, false, false]).dummy default).dummy default)
 refine dV rfl rfl (wq (cN Tryz.underlying29 rfl) rfl (aY rfl rfl (aB (aC (aT (dL (σ := Nat × StV) [0, 10, 11] (fun (k, r2) => [(12, .int .i64 (k : Int))]) (fun (k, r2) w' => (k ≤ n ∧ StoreIs 39 r2.A r2.n r2.c r2.p r2.er r2.em (xs.take k)) ∧ Mem w (bJ [(some b, bc [.slice r.A r.n r.c, .map r.p] 107), r.er, r.em]) [(some b, bc [.slice r2.A r2.n r2.c, .map r2.p] 107), r2.er, r2.em] w') (fun (k, r2) => n - k) (0, ⟨none, 0, 0, none, (none, default), (none, default)⟩) (bM rfl eX) (⟨⟨by omega, (StoreIs.nil 39 default default)⟩, M2⟩) ?_))))))
 rintro ⟨k, r2⟩ ρ3 w3 ⟨⟨hk, hr⟩, hM3⟩
 refine aD (aA (cY rfl rfl rfl rfl (aB (aC (aD ?_)))))
 refine bB rfl (fun h13 => ?_) (fun h13 => ?_)
 ·obtain ⟨xb, hxb⟩ := cI (xs := xs) (k := k) hlen (by omega)
  refine aK (aC (aD (aT (aD (aA (wq (bR (k) fG rfl rfl rfl ((RA.memY hM3 hdA).below_len (aJ aF hxb)) ((RA.memY hM3 hdA).someK (aJ aF hxb))) rfl (wq (dZ _ bS (RA.memY hM3 hdA) (aJ aF hxb) rfl) rfl (aQ gW hM3 rfl rfl (fun b4 w4 M4 => ?_)))))))))
  refine bC 3 _ bS M4 rfl rfl rfl rfl rfl (aR rfl) rfl (fun w5 M5 => (aB (aC (bP [(0, 0), (1, 0), (2, 0), (3, 0), (4, 1), (5, 2)] mixed rfl (by kernel_rfl) (fun w6 hb6 hh6 => ?_)))))
  have M6 := M5.drew hb6 hh6
  refine aX rfl rfl rfl (fun _ => aG (.pointer _) rfl) (aX rfl rfl rfl (fun _ => aM rfl) (aX rfl rfl rfl (fun _ => aE 0 pN rfl) (aX rfl rfl rfl (fun _ => aE 0 nR rfl) (bW rfl rfl rfl (bA 3 bS M6 rfl rfl rfl) (dM [true] rfl (by kernel_rfl) ?_)))))
  refine cA bBv rfl rfl (aNt _ _ _ _ _ _ _ _ _ hr (M6.ownSeg 0 3) xb) ?_
  rintro v7 w7 ⟨rfl, A7, n7, c7, p7, er7, em7, hs7, hM7⟩
  have M7 : Mem _ _ [_, _, _, _] _ := M6.seg 0 3 hM7
  refine aB (aC ⟨dN, ?_⟩)
  refine cE (dE (aC (aA (wq (bQ rfl rfl (by omega) (by omega)) rfl (aY rfl rfl (aB ?_))))))
  refine cR (k + 1, ⟨A7, n7, c7, p7, er7, em7⟩) (bM rfl eX) (cV rfl (cV rfl (cV rfl kA))) ?_ ?_
  ·exact ⟨⟨by omega, by rw [← aGo hX (k + 1) (by omega), yB hxb, aGo hX k (by omega)]; exact hs7⟩, M7.keep [true, true, true, false]⟩
  ·(show n - (k + 1) < n - k; omega)
 ·obtain rfl : k = n := by omega
  rw [List.take_of_length_le (by omega)] at hr
  refine cQ (dC (cX (eT (iZ ?_))))
  exact ⟨r2, rfl, ⟨hX, xs, hr, aWo hX.s⟩, hM3⟩
set_option maxHeartbeats 8000000 in
theorem aJq (w : World) (F : Rd w 2 (some ⟨0, 0, none⟩) 1 [[.int .u32 73856093, .int .u32 19349663]]) (N : Rd w 4 (some ⟨3, 0, none⟩) 1 [cW gT]) (b : Nat) (r : StV) (vs : List Body) (hW : cC 39 r vs) (hO : Own [(some b, bc [.slice r.A r.n r.c, .map r.p] 107), r.er, r.em] w) (hdF : 0 < 1 → ∀ q off, (some ⟨0, 0, none⟩ : Option Addr) = some ⟨q, off, none⟩ → q ∉ bJ [(some b, bc [.slice r.A r.n r.c, .map r.p] 107), r.er, r.em]) (hdN : 0 < 1 → ∀ q off, (some ⟨3, 0, none⟩ : Option Addr) = some ⟨q, off, none⟩ → q ∉ bJ [(some b, bc [.slice r.A r.n r.c, .map r.p] 107), r.er, r.em]) :
  Calls Tryz.prog 53 #[.pointer (some ⟨b, 0, none⟩)] w (fun ex w' => ∃ v, ex = .returned v ∧ (fun v w' => ∃ (r' : StV) (t : Nat), v = .agg [.int .i64 (t : Int), .int .i64 ((mF vs).length : Int), .bool (sJ vs)].toArray ∧ cC 39 r' (pX vs) ∧ Mem w (bJ [(some b, bc [.slice r.A r.n r.c, .map r.p] 107), r.er, r.em]) [(some b, bc [.slice r'.A r'.n r'.c, .map r'.p] 107), r'.er, r'.em] w') v w') := by
 have hW' := hW
 obtain ⟨hG, m, hs, hR⟩ := hW
 have hvl := hG.len
 refine aH #[.cell 2 58] 18 Tryz.func53 rfl Tryz.results53 Tryz.ntmps53 rfl ?_
 have M0 := hO.mem
 refine aD (aA (aQ aDm M0 rfl rfl (fun b1 w1 M1 => (aB (aC (aD (aD (aA (wq (aG (.pointer _) rfl) rfl (wq (eV false Tryz.underlying25 rfl rfl) rfl (aB (aC ?_))))))))))))
 refine bY rfl (aK (aC (aD (aA (wq (aG (.pointer _) rfl) rfl (cA aNp rfl rfl (oS _ _ r _ hW' (M1.ownSeg 0 3)) ?_))))))
 rintro v2 w2 ⟨q, rfl, hq, hM2⟩
 have M2 : Mem _ _ [_, _, _, _, _] _ := M1.seg 0 3 hM2
 have hqn : vs.length = q.n := by simpa using hq.1
 refine cA bIj rfl rfl (aPk _ (F.memY M2 hdF) (N.memY M2 hdN) _ _ _ vs (hq.rd M2 (aP (i := 4) rfl)) hG.okb hG.s (by omega)) ?_
 rintro v3 w3 ⟨ra, ta, rfl, h1ta, h2ta, hra, hM3⟩
 have M3 : Mem _ _ [_, _, _, _, _, _] _ := M2.call0 hM3
 refine wq (aG (.tuple (List.toArray _)) rfl) rfl (wq (bG (.slice _ _ _) rfl rfl) rfl (wq (bG (.agg (List.toArray _)) rfl rfl) rfl (aQ aDm M3 rfl rfl (fun b4 w4 M4 => (fJ rfl rfl (bC 6 _ vR M4 rfl rfl rfl rfl rfl (aR rfl) rfl (fun w5 M5 => ?_)))))))
 refine aB (aC (aD (aA (wq (aG (.pointer _) rfl) rfl (dV rfl rfl (cA bBa rfl rfl (rJ _ _ r _ hW' (M5.ownSeg 0 3) ra.A ra.n ra.c (pX vs) (hra.rd M5 (aP (i := 5) rfl)) hG.step (hra.awayS M5 0 3 5 rfl rfl)) ?_))))))
 rintro v6 w6 ⟨r2, rfl, hw2, hM6⟩
 have M6 : Mem _ _ [_, _, _, _, _, _, _] _ := M5.seg 0 3 hM6
 refine aB (aC (aD (aA (wq (bA 6 vR M6 rfl rfl rfl) rfl (bC 3 _ vR M6 rfl rfl rfl rfl rfl (aR rfl) rfl (fun w7 M7 => (aB (aC (aO (eQ 3 vR M7 rfl rfl rfl ?_))))))))))
 exact ⟨r2, ta, rfl, hw2, M7.keep [true, true, true, false, false, false, false]⟩
set_option maxHeartbeats 8000000 in
theorem aAw (w : World) (b : Nat) (r : StV) (vs : List Body) (hW : cC 39 r vs) (hO : Own [(some b, bc [.slice r.A r.n r.c, .map r.p] 107), r.er, r.em] w) (BA : Option Addr) (nn cc : Nat) (ls : List Int) (RS : Rd w 1 BA nn (ls.map bI)) (hB : jM ls) (hcap : nn ≤ cc) (hnn : nn ≤ 1000000) (hdB : 0 < nn → ∀ q off, BA = some ⟨q, off, none⟩ → q ∉ bJ [(some b, bc [.slice r.A r.n r.c, .map r.p] 107), r.er, r.em]) :
  Calls Tryz.prog 74 #[.pointer (some ⟨b, 0, none⟩), .slice BA nn cc] w (fun ex w' => ∃ v, ex = .returned v ∧ (fun v w' => ∃ r' : StV, v = .int .i64 (lM ls).2 ∧ cC 39 r' (sP vs ls) ∧ Mem w (bJ [(some b, bc [.slice r.A r.n r.c, .map r.p] 107), r.er, r.em]) [(some b, bc [.slice r'.A r'.n r'.c, .map r'.p] 107), r'.er, r'.em] w') v w') := by
 have hW' := hW
 obtain ⟨hG, m, hs, hR⟩ := hW
 have hlen : ls.length = nn := by simpa using RS.len
 refine aH #[.tmp 4] 20 Tryz.func74 rfl Tryz.results74 Tryz.ntmps74 rfl ?_
 have M0 := hO.mem
 refine aD (aA (bO rfl rfl (aB (aC (aD (aD (aA (wq (aG (.pointer _) rfl) rfl (wq (eV false Tryz.underlying25 rfl rfl) rfl (aB (aC ?_)))))))))))
 refine bY rfl (aK (aC (aD (aA (dV rfl rfl (cA bIx rfl rfl (aEt _ BA nn cc ls (RS.memY M0 hdB) hB hcap (by omega)) ?_))))))
 rintro v1 w1 ⟨q, rfl, hq, hM1⟩
 have M1 : Mem _ _ [_, _, _, _] _ := M0.call0 hM1
 refine wq (aG (.tuple (List.toArray _)) rfl) rfl (wq (bG (.slice _ _ _) rfl rfl) rfl (wq (bG (.int _ _) rfl rfl) rfl (fJ rfl rfl (bO rfl rfl (aB (aC (aD (aD (aA ?_)))))))))
 refine aY rfl rfl (cY rfl rfl rfl rfl (aB (aC ?_)))
 refine bB rfl (fun h15 => ?_) (fun h15 => ?_)
 ·refine aA (wq (aG (.pointer _) rfl) rfl (dV rfl rfl (cA bBa rfl rfl (rJ _ _ r _ hW' (M1.ownSeg 0 3) q.A q.n q.c (lM ls).1 (hq.rd M1 (aP (i := 3) rfl)) (GoodV.dec hB (by omega) h15) (hq.awayS M1 0 3 3 rfl rfl)) ?_)))
  rintro v2 w2 ⟨r2, rfl, hw2, hM2⟩
  have M2 : Mem _ _ [_, _, _, _] _ := M1.seg 0 3 hM2
  refine aB (aC (aD (aA (aY rfl rfl (bO rfl rfl (aB (aC (aO (cD (.int _ _) rfl ?_)))))))))
  exact ⟨r2, rfl, by unfold sP; rw [if_pos h15]; exact hw2, M2.keep [true, true, true, false]⟩
 ·refine aK (aC (aD (aA (aY rfl rfl (bO rfl rfl (aB (aC (aO (cD (.int _ _) rfl ?_)))))))))
  exact ⟨r, rfl, by unfold sP; rw [if_neg h15]; exact hW', M1.keep [true, true, true, false]⟩
set_option maxHeartbeats 4000000 in
theorem aSx (w : World) :
  Calls Tryz.prog 83 #[(.func (.func 26) #[] #[] : Value), (.func (.func 84) #[] #[] : Value)] w (fun ex w' => ∃ v, ex = .returned v ∧ (fun v w' => ∃ fa ga : Nat, v = (.func (.func 120) #[] #[.pointer (some ⟨fa, 0, none⟩), .pointer (some ⟨ga, 0, none⟩)] : Value) ∧ Mem w [] [(some fa, bc [(.func (.func 26) #[] #[] : Value)] 143), (some ga, bc [(.func (.func 84) #[] #[] : Value)] 144)] w') v w') := by
 refine aH #[.tmp 4] 6 Tryz.func83 rfl Tryz.results83 Tryz.ntmps83 rfl ?_
 have M0 := Mem.refl w
 refine aD (aA (bE (.func _ _ _) M0 rfl rfl rfl (fun b1 w1 M1 => (bE (.func _ _ _) M1 rfl rfl rfl (fun b2 w2 M2 => (wq (aI (_) rfl) rfl (aB (aC (aD (aA (wq (cL [] [.pointer _, .pointer _] rfl rfl) rfl ?_)))))))))))
 refine wq (aI (.func _ _ _) rfl) rfl (aB (aC (aO (cD (.func _ _ _) rfl ?_))))
 exact ⟨_, _, rfl, M2⟩
set_option maxHeartbeats 4000000 in
theorem aHu (w : World) :
  Calls Tryz.prog 85 #[(.func (.func 86) #[] #[] : Value), (.func (.func 87) #[] #[] : Value)] w (fun ex w' => ∃ v, ex = .returned v ∧ (fun v w' => ∃ fa ga : Nat, v = (.func (.func 121) #[] #[.pointer (some ⟨fa, 0, none⟩), .pointer (some ⟨ga, 0, none⟩)] : Value) ∧ Mem w [] [(some fa, bc [(.func (.func 86) #[] #[] : Value)] 146), (some ga, bc [(.func (.func 87) #[] #[] : Value)] 148)] w') v w') := by
 refine aH #[.tmp 4] 6 Tryz.func85 rfl Tryz.results85 Tryz.ntmps85 rfl ?_
 have M0 := Mem.refl w
 refine aD (aA (bE (.func _ _ _) M0 rfl rfl rfl (fun b1 w1 M1 => (bE (.func _ _ _) M1 rfl rfl rfl (fun b2 w2 M2 => (wq (aI (_) rfl) rfl (aB (aC (aD (aA (wq (cL [] [.pointer _, .pointer _] rfl rfl) rfl ?_)))))))))))
 refine wq (aI (.func _ _ _) rfl) rfl (aB (aC (aO (cD (.func _ _ _) rfl ?_))))
 exact ⟨_, _, rfl, M2⟩
set_option maxHeartbeats 4000000 in
theorem aEu (w : World) :
  Calls Tryz.prog 88 #[(.func (.func 74) #[] #[] : Value), (.func (.func 89) #[] #[] : Value)] w (fun ex w' => ∃ v, ex = .returned v ∧ (fun v w' => ∃ fa ga : Nat, v = (.func (.func 123) #[] #[.pointer (some ⟨fa, 0, none⟩), .pointer (some ⟨ga, 0, none⟩)] : Value) ∧ Mem w [] [(some fa, bc [(.func (.func 74) #[] #[] : Value)] 150), (some ga, bc [(.func (.func 89) #[] #[] : Value)] 151)] w') v w') := by
 refine aH #[.tmp 4] 6 Tryz.func88 rfl Tryz.results88 Tryz.ntmps88 rfl ?_
 have M0 := Mem.refl w
 refine aD (aA (bE (.func _ _ _) M0 rfl rfl rfl (fun b1 w1 M1 => (bE (.func _ _ _) M1 rfl rfl rfl (fun b2 w2 M2 => (wq (aI (_) rfl) rfl (aB (aC (aD (aA (wq (cL [] [.pointer _, .pointer _] rfl rfl) rfl ?_)))))))))))
 refine wq (aI (.func _ _ _) rfl) rfl (aB (aC (aO (cD (.func _ _ _) rfl ?_))))
 exact ⟨_, _, rfl, M2⟩
set_option maxHeartbeats 4000000 in
theorem bGn (w : World) (o : OpI) (BA : Option Addr) (nn cc : Nat) :
  Calls Tryz.prog 84 #[.agg (eB o BA nn cc).toArray] w (fun ex w' => ∃ v, ex = .returned v ∧ (fun v w' => v = (.agg (aF o.body).toArray) ∧ Below w.heap.size w w') v w') := by
 refine aH #[.cell 2 39] 5 Tryz.func84 rfl Tryz.results84 Tryz.ntmps84 rfl ?_
 have M0 := Mem.refl w
 refine aD (aA (bE (.agg (List.toArray _)) M0 rfl rfl rfl (fun b1 w1 M1 => (aQ gW M1 rfl rfl (fun b2 w2 M2 => (aB (aC (aD (aA (wq (aE 1 bAj rfl) rfl (wq (qB 0 _ bS M2 rfl rfl rfl rfl) rfl ?_)))))))))))
 refine bC 1 _ bS M2 rfl rfl rfl rfl rfl (aR rfl) rfl (fun w3 M3 => (aB (aC (aO (eQ 1 bS M3 rfl rfl rfl ?_)))))
 exact ⟨rfl, M3.below⟩
set_option maxHeartbeats 4000000 in
theorem bFo (w : World) (o : OpI) (BA : Option Addr) (nn cc : Nat) :
  Calls Tryz.prog 87 #[.agg (eB o BA nn cc).toArray] w (fun ex w' => ∃ v, ex = .returned v ∧ (fun v w' => v = .int .u32 o.key ∧ Below w.heap.size w w') v w') := by
 refine aH #[.tmp 2] 5 Tryz.func87 rfl Tryz.results87 Tryz.ntmps87 rfl ?_
 have M0 := Mem.refl w
 refine aD (aA (bE (.agg (List.toArray _)) M0 rfl rfl rfl (fun b1 w1 M1 => (bO rfl rfl (aB (aC (aD (aA (wq (aE 11 aMd rfl) rfl (wq (aL 0 (.int _ _) bZ M1 rfl rfl rfl) rfl ?_))))))))))
 refine bO rfl rfl (aB (aC (aO (cD (.int _ _) rfl ?_))))
 exact ⟨rfl, M1.below⟩
set_option maxHeartbeats 4000000 in
theorem bCu (w : World) (o : OpI) (BA : Option Addr) (nn cc : Nat) :
  Calls Tryz.prog 89 #[.agg (eB o BA nn cc).toArray] w (fun ex w' => ∃ v, ex = .returned v ∧ (fun v w' => v = .slice BA nn cc ∧ Below w.heap.size w w') v w') := by
 refine aH #[.tmp 2] 5 Tryz.func89 rfl Tryz.results89 Tryz.ntmps89 rfl ?_
 have M0 := Mem.refl w
 refine aD (aA (bE (.agg (List.toArray _)) M0 rfl rfl rfl (fun b1 w1 M1 => (fJ rfl rfl (aB (aC (aD (aA (wq (aE 14 aYb rfl) rfl (wq (aL 0 (.slice _ _ _) zY M1 rfl rfl rfl) rfl ?_))))))))))
 refine fJ rfl rfl (aB (aC (aO (cD (.slice _ _ _) rfl ?_))))
 exact ⟨rfl, M1.below⟩
def oD (f1 g1 f2 g2 f3 g3 : Nat) (k : Int) : Option Value := if k = 5 then some (.func (.func 93) #[] #[] : Value) else if k = 4 then some (.func (.func 92) #[] #[] : Value) else if k = 3 then some (.func (.func 90) #[] #[] : Value) else if k = 6 then some (.func (.func 123) #[] #[.pointer (some ⟨f3, 0, none⟩), .pointer (some ⟨g3, 0, none⟩)] : Value) else if k = 2 then some (.func (.func 121) #[] #[.pointer (some ⟨f2, 0, none⟩), .pointer (some ⟨g2, 0, none⟩)] : Value) else if k = 1 then some (.func (.func 120) #[] #[.pointer (some ⟨f1, 0, none⟩), .pointer (some ⟨g1, 0, none⟩)] : Value) else none
theorem aTi {f1 g1 f2 g2 f3 g3 : Nat} {k : Int} (h : k = 1) : oD f1 g1 f2 g2 f3 g3 k = some (.func (.func 120) #[] #[.pointer (some ⟨f1, 0, none⟩), .pointer (some ⟨g1, 0, none⟩)] : Value) := by subst h; rfl
theorem aSb {f1 g1 f2 g2 f3 g3 : Nat} {k : Int} (h : k = 2) : oD f1 g1 f2 g2 f3 g3 k = some (.func (.func 121) #[] #[.pointer (some ⟨f2, 0, none⟩), .pointer (some ⟨g2, 0, none⟩)] : Value) := by subst h; rfl
theorem aVj {f1 g1 f2 g2 f3 g3 : Nat} {k : Int} (h : k = 6) : oD f1 g1 f2 g2 f3 g3 k = some (.func (.func 123) #[] #[.pointer (some ⟨f3, 0, none⟩), .pointer (some ⟨g3, 0, none⟩)] : Value) := by subst h; rfl
theorem aUf {f1 g1 f2 g2 f3 g3 : Nat} {k : Int} (h : k = 3) : oD f1 g1 f2 g2 f3 g3 k = some (.func (.func 90) #[] #[] : Value) := by subst h; rfl
theorem aTy {f1 g1 f2 g2 f3 g3 : Nat} {k : Int} (h : k = 4) : oD f1 g1 f2 g2 f3 g3 k = some (.func (.func 92) #[] #[] : Value) := by subst h; rfl
theorem aWd {f1 g1 f2 g2 f3 g3 : Nat} {k : Int} (h : k = 5) : oD f1 g1 f2 g2 f3 g3 k = some (.func (.func 93) #[] #[] : Value) := by subst h; rfl
theorem aUx {f1 g1 f2 g2 f3 g3 : Nat} {k : Int} (h : k < 1 ∨ 6 < k) : oD f1 g1 f2 g2 f3 g3 k = none := by unfold oD; rw [if_neg (by omega), if_neg (by omega), if_neg (by omega), if_neg (by omega), if_neg (by omega), if_neg (by omega)]
set_option maxHeartbeats 4000000 in
theorem gH (w : World) :
  Calls Tryz.prog 55 #[] w (fun ex w' => ∃ v, ex = .returned v ∧ (fun v w' => ∃ (p : Option Nat) (e : dG) (f1 g1 f2 g2 f3 g3 : Nat), v = .map p ∧ iD .i64 (fun v : Value => v) (oD f1 g1 f2 g2 f3 g3) p e ∧ Mem w [] [e, (some f1, bc [(.func (.func 26) #[] #[] : Value)] 143), (some g1, bc [(.func (.func 84) #[] #[] : Value)] 144), (some f2, bc [(.func (.func 86) #[] #[] : Value)] 146), (some g2, bc [(.func (.func 87) #[] #[] : Value)] 148), (some f3, bc [(.func (.func 74) #[] #[] : Value)] 150), (some g3, bc [(.func (.func 89) #[] #[] : Value)] 151)] w') v w') := by
 refine aH #[.tmp 0] 6 Tryz.func55 rfl Tryz.results55 Tryz.ntmps55 rfl ?_
 have M0 := Mem.refl w
 refine aD (aA (wq (aI (.map _) rfl) rfl (aB (aC (aD (aA (jU M0 rfl rfl (fun b1 w1 M1 => (cA bIb rfl rfl (aSx _) ?_)))))))))
 rintro v2 w2 ⟨f1, g1, rfl, hM2⟩
 have M2 : Mem _ _ [_, _, _] _ := M1.call0 hM2
 refine lE (enc := (fun v : Value => v)) (v := (.func _ _ _)) 0 jW M2 rfl rfl (iD.empty _ _ b1) rfl rfl rfl rfl (fun e3 w3 hm3 M3 => (cA bHl rfl rfl (aHu _) ?_))
 rintro v4 w4 ⟨f2, g2, rfl, hM4⟩
 have M4 : Mem _ _ [_, _, _, _, _] _ := M3.call0 hM4
 refine lE (enc := (fun v : Value => v)) (v := (.func _ _ _)) 0 jW M4 rfl rfl hm3 rfl rfl rfl rfl (fun e5 w5 hm5 M5 => (cA bJd rfl rfl (aEu _) ?_))
 rintro v6 w6 ⟨f3, g3, rfl, hM6⟩
 have M6 : Mem _ _ [_, _, _, _, _, _, _] _ := M5.call0 hM6
 refine lE (enc := (fun v : Value => v)) (v := (.func _ _ _)) 0 jW M6 rfl rfl hm5 rfl rfl rfl rfl (fun e7 w7 hm7 M7 => (lE (enc := (fun v : Value => v)) (v := (.func _ _ _)) 0 jW M7 rfl rfl hm7 rfl rfl rfl rfl (fun e8 w8 hm8 M8 => (lE (enc := (fun v : Value => v)) (v := (.func _ _ _)) 0 jW M8 rfl rfl hm8 rfl rfl rfl rfl (fun e9 w9 hm9 M9 => ?_)))))
 refine lE (enc := (fun v : Value => v)) (v := (.func _ _ _)) 0 jW M9 rfl rfl hm9 rfl rfl rfl rfl (fun e10 w10 hm10 M10 => (wq (aG (.map _) rfl) rfl (wq (aI (.map _) rfl) rfl (aB (aC (aO (cD (.map _) rfl ?_)))))))
 exact ⟨_, _, f1, g1, f2, g2, f3, g3, rfl, hm10, M10⟩
set_option maxHeartbeats 16000000 in
theorem aTu (w : World) (b : Nat) (r : StV) (vs : List Body) (hW : cC 39 r vs) (fa ga : Nat) (hO : Own [(some b, bc [.slice r.A r.n r.c, .map r.p] 107), r.er, r.em, (some fa, bc [(.func (.func 26) #[] #[] : Value)] 143), (some ga, bc [(.func (.func 84) #[] #[] : Value)] 144)] w) (o : OpI) (BA : Option Addr) (nn cc : Nat) (hP : OpOk w o BA nn cc) (hnn : nn ≤ 1000000) (hdB : 0 < nn → ∀ q off, BA = some ⟨q, off, none⟩ → q ∉ bJ [(some b, bc [.slice r.A r.n r.c, .map r.p] 107), r.er, r.em, (some fa, bc [(.func (.func 26) #[] #[] : Value)] 143), (some ga, bc [(.func (.func 84) #[] #[] : Value)] 144)]) :
  Calls Tryz.prog 120 #[.pointer (some ⟨b, 0, none⟩), .agg (eB o BA nn cc).toArray, .pointer (some ⟨fa, 0, none⟩), .pointer (some ⟨ga, 0, none⟩)] w (fun ex w' => ∃ v, ex = .returned v ∧ (fun v w' => ∃ r' : StV, v = .agg [.int .i64 (pQ vs o.body).2, .slice none 0 0, .int .i64 0, .bool false].toArray ∧ cC 39 r' ((pQ vs o.body).1) ∧ Mem w (bJ [(some b, bc [.slice r.A r.n r.c, .map r.p] 107), r.er, r.em, (some fa, bc [(.func (.func 26) #[] #[] : Value)] 143), (some ga, bc [(.func (.func 84) #[] #[] : Value)] 144)]) [(some b, bc [.slice r'.A r'.n r'.c, .map r'.p] 107), r'.er, r'.em, (some fa, bc [(.func (.func 26) #[] #[] : Value)] 143), (some ga, bc [(.func (.func 84) #[] #[] : Value)] 144)] w') v w') := by
 have hG := hW.1
 have hbl := hP.len
 refine aH #[.cell 6 33] 14 Tryz.func120 rfl Tryz.results120 Tryz.ntmps120 rfl ?_
 have M0 := hO.mem
 refine aD (aA (bE (.agg (List.toArray _)) M0 rfl rfl rfl (fun b1 w1 M1 => (aQ kE M1 rfl rfl (fun b2 w2 M2 => (aB (aC (aD (bP [(0, 1), (1, 0), (2, 1), (3, 1), (4, 2), (5, 2), (6, 0), (7, 2)] mixed rfl (by kernel_rfl) (fun w3 hb3 hh3 => ?_))))))))))
 have M3 := M2.drew hb3 hh3
 refine bW rfl rfl rfl (aL 3 (.func _ _ _) aTs M3 rfl rfl rfl) (aX rfl rfl rfl (fun _ => aG (.pointer _) rfl) (bW rfl rfl rfl (aL 4 (.func _ _ _) bDj M3 rfl rfl rfl) (bW rfl rfl rfl (bA 5 mH M3 rfl rfl rfl) (dM [true, true, false] rfl (by kernel_rfl) (cA bIc rfl rfl (bGn _ o BA nn cc) ?_)))))
 rintro v4 w4 ⟨rfl, hb4⟩
 have M4 := M3.callB hb4
 refine aB (aC ⟨(eL (bN rfl (aL 3 (.func _ _ _) aTs M4 rfl rfl rfl)) dN), ?_⟩)
 refine dM [true] rfl (by kernel_rfl) (cA bHv rfl rfl (aQm _ _ r vs hW (M4.ownSeg 0 3) o.body hP.body) ?_)
 rintro v5 w5 ⟨r2, rfl, hw2, hM5⟩
 have M5 : Mem _ _ [_, _, _, _, _, _, _] _ := M4.seg 0 3 hM5
 refine aB (aC ⟨dN, ?_⟩)
 refine aX rfl rfl rfl (fun _ => cF [(0, .int _ _)] _ lQ rfl rfl) (dM [] rfl (by kernel_rfl) (bC 6 _ fS M5 rfl rfl rfl rfl rfl (aR rfl) rfl (fun w6 M6 => ?_)))
 refine aB (aC ⟨dN, ?_⟩)
 refine cE (aC (aO (eQ 6 fS M6 rfl rfl rfl ?_)))
 exact ⟨r2, rfl, hw2, M6.keep [true, true, true, true, true, false, false]⟩
set_option maxHeartbeats 16000000 in
theorem aGa (w : World) (b : Nat) (r : StV) (vs : List Body) (hW : cC 39 r vs) (fa ga : Nat) (hO : Own [(some b, bc [.slice r.A r.n r.c, .map r.p] 107), r.er, r.em, (some fa, bc [(.func (.func 86) #[] #[] : Value)] 146), (some ga, bc [(.func (.func 87) #[] #[] : Value)] 148)] w) (o : OpI) (BA : Option Addr) (nn cc : Nat) (hP : OpOk w o BA nn cc) (hnn : nn ≤ 1000000) (hdB : 0 < nn → ∀ q off, BA = some ⟨q, off, none⟩ → q ∉ bJ [(some b, bc [.slice r.A r.n r.c, .map r.p] 107), r.er, r.em, (some fa, bc [(.func (.func 86) #[] #[] : Value)] 146), (some ga, bc [(.func (.func 87) #[] #[] : Value)] 148)]) :
  Calls Tryz.prog 121 #[.pointer (some ⟨b, 0, none⟩), .agg (eB o BA nn cc).toArray, .pointer (some ⟨fa, 0, none⟩), .pointer (some ⟨ga, 0, none⟩)] w (fun ex w' => ∃ v, ex = .returned v ∧ (fun v w' => ∃ r' : StV, v = .agg [.int .i64 (fN vs o.key).2, .slice none 0 0, .int .i64 0, .bool false].toArray ∧ cC 39 r' ((fN vs o.key).1) ∧ Mem w (bJ [(some b, bc [.slice r.A r.n r.c, .map r.p] 107), r.er, r.em, (some fa, bc [(.func (.func 86) #[] #[] : Value)] 146), (some ga, bc [(.func (.func 87) #[] #[] : Value)] 148)]) [(some b, bc [.slice r'.A r'.n r'.c, .map r'.p] 107), r'.er, r'.em, (some fa, bc [(.func (.func 86) #[] #[] : Value)] 146), (some ga, bc [(.func (.func 87) #[] #[] : Value)] 148)] w') v w') := by
 have hG := hW.1
 have hbl := hP.len
 refine aH #[.cell 6 33] 14 Tryz.func121 rfl Tryz.results121 Tryz.ntmps121 rfl ?_
 have M0 := hO.mem
 refine aD (aA (bE (.agg (List.toArray _)) M0 rfl rfl rfl (fun b1 w1 M1 => (aQ kE M1 rfl rfl (fun b2 w2 M2 => (aB (aC (aD (bP [(0, 1), (1, 0), (2, 1), (3, 1), (4, 2), (5, 2), (6, 0), (7, 2)] mixed rfl (by kernel_rfl) (fun w3 hb3 hh3 => ?_))))))))))
 have M3 := M2.drew hb3 hh3
 refine bW rfl rfl rfl (aL 3 (.func _ _ _) aUl M3 rfl rfl rfl) (aX rfl rfl rfl (fun _ => aG (.pointer _) rfl) (bW rfl rfl rfl (aL 4 (.func _ _ _) bEg M3 rfl rfl rfl) (bW rfl rfl rfl (bA 5 mH M3 rfl rfl rfl) (dM [true, true, false] rfl (by kernel_rfl) (cA bId rfl rfl (bFo _ o BA nn cc) ?_)))))
 rintro v4 w4 ⟨rfl, hb4⟩
 have M4 := M3.callB hb4
 refine aB (aC ⟨(eL (bN rfl (aL 3 (.func _ _ _) aUl M4 rfl rfl rfl)) dN), ?_⟩)
 refine dM [true] rfl (by kernel_rfl) (cA bIe rfl rfl (aEl _ _ r vs hW (M4.ownSeg 0 3) o.key) ?_)
 rintro v5 w5 ⟨r2, rfl, hw2, hM5⟩
 have M5 : Mem _ _ [_, _, _, _, _, _, _] _ := M4.seg 0 3 hM5
 refine aB (aC ⟨dN, ?_⟩)
 refine aX rfl rfl rfl (fun _ => cF [(0, .int _ _)] _ lQ rfl rfl) (dM [] rfl (by kernel_rfl) (bC 6 _ fS M5 rfl rfl rfl rfl rfl (aR rfl) rfl (fun w6 M6 => ?_)))
 refine aB (aC ⟨dN, ?_⟩)
 refine cE (aC (aO (eQ 6 fS M6 rfl rfl rfl ?_)))
 exact ⟨r2, rfl, hw2, M6.keep [true, true, true, true, true, false, false]⟩
set_option maxHeartbeats 16000000 in
theorem aDf (w : World) (b : Nat) (r : StV) (vs : List Body) (hW : cC 39 r vs) (fa ga : Nat) (hO : Own [(some b, bc [.slice r.A r.n r.c, .map r.p] 107), r.er, r.em, (some fa, bc [(.func (.func 74) #[] #[] : Value)] 150), (some ga, bc [(.func (.func 89) #[] #[] : Value)] 151)] w) (o : OpI) (BA : Option Addr) (nn cc : Nat) (hP : OpOk w o BA nn cc) (hnn : nn ≤ 1000000) (hdB : 0 < nn → ∀ q off, BA = some ⟨q, off, none⟩ → q ∉ bJ [(some b, bc [.slice r.A r.n r.c, .map r.p] 107), r.er, r.em, (some fa, bc [(.func (.func 74) #[] #[] : Value)] 150), (some ga, bc [(.func (.func 89) #[] #[] : Value)] 151)]) :
  Calls Tryz.prog 123 #[.pointer (some ⟨b, 0, none⟩), .agg (eB o BA nn cc).toArray, .pointer (some ⟨fa, 0, none⟩), .pointer (some ⟨ga, 0, none⟩)] w (fun ex w' => ∃ v, ex = .returned v ∧ (fun v w' => ∃ r' : StV, v = .agg [.int .i64 (lM o.bytes).2, .slice none 0 0, .int .i64 0, .bool false].toArray ∧ cC 39 r' (sP vs o.bytes) ∧ Mem w (bJ [(some b, bc [.slice r.A r.n r.c, .map r.p] 107), r.er, r.em, (some fa, bc [(.func (.func 74) #[] #[] : Value)] 150), (some ga, bc [(.func (.func 89) #[] #[] : Value)] 151)]) [(some b, bc [.slice r'.A r'.n r'.c, .map r'.p] 107), r'.er, r'.em, (some fa, bc [(.func (.func 74) #[] #[] : Value)] 150), (some ga, bc [(.func (.func 89) #[] #[] : Value)] 151)] w') v w') := by
 have hG := hW.1
 have hbl := hP.len
 refine aH #[.cell 6 33] 14 Tryz.func123 rfl Tryz.results123 Tryz.ntmps123 rfl ?_
 have M0 := hO.mem
 refine aD (aA (bE (.agg (List.toArray _)) M0 rfl rfl rfl (fun b1 w1 M1 => (aQ kE M1 rfl rfl (fun b2 w2 M2 => (aB (aC (aD (bP [(0, 1), (1, 0), (2, 1), (3, 1), (4, 2), (5, 2), (6, 0), (7, 2)] mixed rfl (by kernel_rfl) (fun w3 hb3 hh3 => ?_))))))))))
 have M3 := M2.drew hb3 hh3
 refine bW rfl rfl rfl (aL 3 (.func _ _ _) aRt M3 rfl rfl rfl) (aX rfl rfl rfl (fun _ => aG (.pointer _) rfl) (bW rfl rfl rfl (aL 4 (.func _ _ _) bFd M3 rfl rfl rfl) (bW rfl rfl rfl (bA 5 mH M3 rfl rfl rfl) (dM [true, true, false] rfl (by kernel_rfl) (cA bIh rfl rfl (bCu _ o BA nn cc) ?_)))))
 rintro v4 w4 ⟨rfl, hb4⟩
 have M4 := M3.callB hb4
 refine aB (aC ⟨(eL (bN rfl (aL 3 (.func _ _ _) aRt M4 rfl rfl rfl)) dN), ?_⟩)
 refine dM [true] rfl (by kernel_rfl) (cA bHp rfl rfl (aAw _ _ r vs hW (M4.ownSeg 0 3) BA nn cc o.bytes (hP.rd.memY M4 hdB) hP.byt hP.cap hnn (M4.away 0 3 hP.rd hdB)) ?_)
 rintro v5 w5 ⟨r2, rfl, hw2, hM5⟩
 have M5 : Mem _ _ [_, _, _, _, _, _, _] _ := M4.seg 0 3 hM5
 refine aB (aC ⟨dN, ?_⟩)
 refine aX rfl rfl rfl (fun _ => cF [(0, .int _ _)] _ lQ rfl rfl) (dM [] rfl (by kernel_rfl) (bC 6 _ fS M5 rfl rfl rfl rfl rfl (aR rfl) rfl (fun w6 M6 => ?_)))
 refine aB (aC ⟨dN, ?_⟩)
 refine cE (aC (aO (eQ 6 fS M6 rfl rfl rfl ?_)))
 exact ⟨r2, rfl, hw2, M6.keep [true, true, true, true, true, false, false]⟩
set_option maxHeartbeats 32000000 in
theorem aDg (w : World)  (b : Nat) (r : StV) (vs : List Body) (hW : cC 39 r vs) (hO : Own [(some b, bc [.slice r.A r.n r.c, .map r.p] 107), r.er, r.em] w) (o : OpI) (BA : Option Addr) (nn cc : Nat) (hP : OpOk w o BA nn cc) (hnn : nn ≤ 1000000) (hdB : 0 < nn → ∀ q off, BA = some ⟨q, off, none⟩ → q ∉ bJ [(some b, bc [.slice r.A r.n r.c, .map r.p] 107), r.er, r.em]) (hk : o.kind = 3) :
  Calls Tryz.prog 90 #[.pointer (some ⟨b, 0, none⟩), .agg (eB o BA nn cc).toArray] w (fun ex w' => ∃ v, ex = .returned v ∧ (fun v w' => ∃ (r' : StV) (p : Row), v = .agg (dB (eI vs o).2 p).toArray ∧ cC 39 r' (eI vs o).1 ∧ aU 5 1 p.A p.n p.c (((eI vs o).2.bytes).map bI) p.e ∧ Mem w (bJ [(some b, bc [.slice r.A r.n r.c, .map r.p] 107), r.er, r.em]) [(some b, bc [.slice r'.A r'.n r'.c, .map r'.p] 107), r'.er, r'.em, p.e] w') v w') := by
 have hG := hW.1
 have hbl := hP.len
 refine aH #[.cell 4 33] 12 Tryz.func90 rfl Tryz.results90 Tryz.ntmps90 rfl ?_
 have M0 := hO.mem
 refine aD (aA (bE (.agg (List.toArray _)) M0 rfl rfl rfl (fun b1 w1 M1 => (aQ kE M1 rfl rfl (fun b2 w2 M2 => (aB (aC (aD (aA (wq (aG (.pointer _) rfl) rfl (wq (aE 11 aMd rfl) rfl ?_)))))))))))
 refine wq (aL 3 (.int _ _) bZ M2 rfl rfl rfl) rfl (wq (aE 12 aXi rfl) rfl (wq (qB 3 _ bL M2 rfl rfl rfl rfl) rfl (cA bGz rfl rfl (aAk _ _ r vs hW (M2.ownSeg 0 3) o.key o.push hP.p1 hP.p2) ?_)))
 rintro v3 w3 ⟨r2, rfl, hw2, hM3⟩
 have M3 : Mem _ _ [_, _, _, _, _] _ := M2.seg 0 3 hM3
 refine wq (cF [(0, .int _ _)] _ lQ rfl rfl) rfl (bC 4 _ fS M3 rfl rfl rfl rfl rfl (aR rfl) rfl (fun w4 M4 => (aB (aC (aO (eQ 4 fS M4 rfl rfl rfl ?_))))))
 exact ⟨r2, ⟨none, 0, 0, (none, default)⟩, by rw [bFj hk]; rfl, by rw [bFj hk]; exact hw2, by rw [bFj hk]; exact aU.nil _ _ _, (M4.keep [true, true, true, false, false]).dummy default⟩
set_option maxHeartbeats 32000000 in
theorem aOz (w : World) (F : Rd w 2 (some ⟨0, 0, none⟩) 1 [[.int .u32 73856093, .int .u32 19349663]]) (N : Rd w 4 (some ⟨3, 0, none⟩) 1 [cW gT]) (b : Nat) (r : StV) (vs : List Body) (hW : cC 39 r vs) (hO : Own [(some b, bc [.slice r.A r.n r.c, .map r.p] 107), r.er, r.em] w) (o : OpI) (BA : Option Addr) (nn cc : Nat) (hP : OpOk w o BA nn cc) (hnn : nn ≤ 1000000) (hdB : 0 < nn → ∀ q off, BA = some ⟨q, off, none⟩ → q ∉ bJ [(some b, bc [.slice r.A r.n r.c, .map r.p] 107), r.er, r.em]) (hdF : 0 < 1 → ∀ q off, (some ⟨0, 0, none⟩ : Option Addr) = some ⟨q, off, none⟩ → q ∉ bJ [(some b, bc [.slice r.A r.n r.c, .map r.p] 107), r.er, r.em]) (hdN : 0 < 1 → ∀ q off, (some ⟨3, 0, none⟩ : Option Addr) = some ⟨q, off, none⟩ → q ∉ bJ [(some b, bc [.slice r.A r.n r.c, .map r.p] 107), r.er, r.em]) (hk : o.kind = 4) :
  Calls Tryz.prog 92 #[.pointer (some ⟨b, 0, none⟩), .agg (eB o BA nn cc).toArray] w (fun ex w' => ∃ v, ex = .returned v ∧ (fun v w' => ∃ (r' : StV) (p : Row), v = .agg (dB (eI vs o).2 p).toArray ∧ cC 39 r' (eI vs o).1 ∧ aU 5 1 p.A p.n p.c (((eI vs o).2.bytes).map bI) p.e ∧ Mem w (bJ [(some b, bc [.slice r.A r.n r.c, .map r.p] 107), r.er, r.em]) [(some b, bc [.slice r'.A r'.n r'.c, .map r'.p] 107), r'.er, r'.em, p.e] w') v w') := by
 have hG := hW.1
 have hbl := hP.len
 refine aH #[.cell 4 33] 13 Tryz.func92 rfl Tryz.results92 Tryz.ntmps92 rfl ?_
 have M0 := hO.mem
 refine aD (aA (bE (.agg (List.toArray _)) M0 rfl rfl rfl (fun b1 w1 M1 => (aQ kE M1 rfl rfl (fun b2 w2 M2 => (aB (aC (aD (aA (wq (aG (.pointer _) rfl) rfl (cA bGw rfl rfl (aJq _ (F.memY M2 hdF) (N.memY M2 hdN) _ r vs hW (M2.ownSeg 0 3) (M2.away 0 3 F hdF) (M2.away 0 3 N hdN)) ?_)))))))))))
 rintro v3 w3 ⟨r2, ts, rfl, hw2, hM3⟩
 have M3 : Mem _ _ [_, _, _, _, _] _ := M2.seg 0 3 hM3
 refine aQ aDm M3 rfl rfl (fun b4 w4 M4 => (bC 5 _ vR M4 rfl rfl rfl rfl rfl (aR rfl) rfl (fun w5 M5 => (aB (aC (aD (aA (wq (aE 1 aNc rfl) rfl (wq (aL 5 (.int _ _) gY M5 rfl rfl rfl) rfl (wq (aE 2 xB rfl) rfl ?_))))))))))
 refine wq (aL 5 (.bool _) mD M5 rfl rfl rfl) rfl (wq (cF [(2, .int _ _), (3, .bool _)] _ lQ rfl rfl) rfl (bC 4 _ fS M5 rfl rfl rfl rfl rfl (aR rfl) rfl (fun w6 M6 => (aB (aC (aO (eQ 4 fS M6 rfl rfl rfl ?_)))))))
 exact ⟨r2, ⟨none, 0, 0, (none, default)⟩, by rw [bAe hk]; rfl, by rw [bAe hk]; exact hw2, by rw [bAe hk]; exact aU.nil _ _ _, (M6.keep [true, true, true, false, false, false]).dummy default⟩
set_option maxHeartbeats 32000000 in
theorem aBc (w : World)  (b : Nat) (r : StV) (vs : List Body) (hW : cC 39 r vs) (hO : Own [(some b, bc [.slice r.A r.n r.c, .map r.p] 107), r.er, r.em] w) (o : OpI) (BA : Option Addr) (nn cc : Nat) (hP : OpOk w o BA nn cc) (hnn : nn ≤ 1000000) (hdB : 0 < nn → ∀ q off, BA = some ⟨q, off, none⟩ → q ∉ bJ [(some b, bc [.slice r.A r.n r.c, .map r.p] 107), r.er, r.em]) (hk : o.kind = 5) :
  Calls Tryz.prog 93 #[.pointer (some ⟨b, 0, none⟩), .agg (eB o BA nn cc).toArray] w (fun ex w' => ∃ v, ex = .returned v ∧ (fun v w' => ∃ (r' : StV) (p : Row), v = .agg (dB (eI vs o).2 p).toArray ∧ cC 39 r' (eI vs o).1 ∧ aU 5 1 p.A p.n p.c (((eI vs o).2.bytes).map bI) p.e ∧ Mem w (bJ [(some b, bc [.slice r.A r.n r.c, .map r.p] 107), r.er, r.em]) [(some b, bc [.slice r'.A r'.n r'.c, .map r'.p] 107), r'.er, r'.em, p.e] w') v w') := by
 have hG := hW.1
 have hbl := hP.len
 refine aH #[.cell 4 33] 8 Tryz.func93 rfl Tryz.results93 Tryz.ntmps93 rfl ?_
 have M0 := hO.mem
 refine aD (aA (bE (.agg (List.toArray _)) M0 rfl rfl rfl (fun b1 w1 M1 => (aQ kE M1 rfl rfl (fun b2 w2 M2 => (aB (aC (aD (aA (wq (aG (.pointer _) rfl) rfl (cA bHt rfl rfl (zM _ _ r vs hW (M2.ownSeg 0 3)) ?_)))))))))))
 rintro v3 w3 ⟨pb, rfl, hpb, hM3⟩
 have M3 : Mem _ _ [_, _, _, _, _, _] _ := M2.seg 0 3 hM3
 refine wq (cF [(1, .slice _ _ _)] _ lQ rfl rfl) rfl (bC 4 _ fS M3 rfl rfl rfl rfl rfl (aR rfl) rfl (fun w4 M4 => (aB (aC (aO (eQ 4 fS M4 rfl rfl rfl ?_))))))
 exact ⟨r, pb, by rw [aXc hk]; rfl, by rw [aXc hk]; exact hW, by rw [aXc hk]; exact hpb, (M4.keep [true, true, true, false, false, true])⟩
set_option maxHeartbeats 32000000 in
theorem aJp (w : World)  (b : Nat) (r : StV) (vs : List Body) (hW : cC 39 r vs) (hO : Own [(some b, bc [.slice r.A r.n r.c, .map r.p] 107), r.er, r.em] w) (o : OpI) (BA : Option Addr) (nn cc : Nat) (hP : OpOk w o BA nn cc) (hnn : nn ≤ 1000000) (hdB : 0 < nn → ∀ q off, BA = some ⟨q, off, none⟩ → q ∉ bJ [(some b, bc [.slice r.A r.n r.c, .map r.p] 107), r.er, r.em]) (hk : o.kind = 1) :
  Calls Tryz.prog 20 #[.pointer (some ⟨b, 0, none⟩), .agg (eB o BA nn cc).toArray] w (fun ex w' => ∃ v, ex = .returned v ∧ (fun v w' => ∃ (r' : StV) (p : Row), v = .agg (dB (eI vs o).2 p).toArray ∧ cC 39 r' (eI vs o).1 ∧ aU 5 1 p.A p.n p.c (((eI vs o).2.bytes).map bI) p.e ∧ Mem w (bJ [(some b, bc [.slice r.A r.n r.c, .map r.p] 107), r.er, r.em]) [(some b, bc [.slice r'.A r'.n r'.c, .map r'.p] 107), r'.er, r'.em, p.e] w') v w') := by
 have hG := hW.1
 have hbl := hP.len
 refine aH #[.cell 4 33] 21 Tryz.func20 rfl Tryz.results20 Tryz.ntmps20 rfl ?_
 have M0 := hO.mem
 refine aD (aA (bE (.agg (List.toArray _)) M0 rfl rfl rfl (fun b1 w1 M1 => (aQ kE M1 rfl rfl (fun b2 w2 M2 => (aB (aC (aD (bP [(1, 0), (2, 1), (0, 2), (3, 1), (4, 0), (5, 0), (6, 0), (7, 0), (8, 0)] mixed rfl (by kernel_rfl) (fun w3 hb3 hh3 => ?_))))))))))
 have M3 := M2.drew hb3 hh3
 refine aX rfl rfl rfl (fun _ => aE 0 oP rfl) (bW rfl rfl rfl (aL 3 (.int _ _) gY M3 rfl rfl rfl) (dM [false] rfl (by kernel_rfl) (cA zK rfl rfl (gH _) ?_)))
 rintro v4 w4 ⟨pm, em, f1, g1, f2, g2, f3, g3, rfl, hmap, hM4⟩
 have M4 : Mem _ _ [_, _, _, _, _, _, _, _, _, _, _, _] _ := M3.call0 hM4
 refine aB (aC ⟨(eL (bN rfl (aL 3 (.int _ _) gY M4 rfl rfl rfl)) dN), ?_⟩)
 refine bW rfl rfl rfl (iH (enc := (fun v : Value => v)) .nilFunc 5 jW aKc M4 rfl hmap rfl rfl) (fY 11 (.tuple [(.func (.func 120) #[] #[.pointer (some ⟨f1, 0, none⟩), .pointer (some ⟨g1, 0, none⟩)] : Value), .bool true].toArray) (lF (aTi hk)) (aX rfl rfl rfl (fun _ => aG (.tuple (List.toArray _)) rfl) ?_))
 refine aX rfl rfl rfl (fun _ => bG (.func _ _ _) rfl rfl) (aX rfl rfl rfl (fun _ => bG (.bool true) rfl rfl) (aX rfl rfl rfl (fun _ => aI (.func _ _ _) rfl) (aX rfl rfl rfl (fun _ => aI (.bool true) rfl) (cE (aC (aD (aD (aA ?_))))))))
 refine wq (aG (.bool true) rfl) rfl (wq (gL false rfl rfl) rfl (aB (aC (bY rfl (aK (aC (aD (aA (wq (aG (.func _ _ _) rfl) rfl ?_)))))))))
 refine wq (aG (.pointer _) rfl) rfl (wq (bA 3 mH M4 rfl rfl rfl) rfl (cA bGm rfl rfl (aTu _ _ r vs hW _ _ (M4.ownK [true, true, true, false, false, false, true, true, false, false, false, false]) o BA nn cc (hP.memY M4 hdB) hnn (M4.awayK [true, true, true, false, false, false, true, true, false, false, false, false] hP.rd hdB)) ?_))
 rintro v5 w5 ⟨r2, rfl, hw2, hM5⟩
 have M5 : Mem _ _ [_, _, _, _, _, _, _, _, _, _, _, _] _ := M4.callK [true, true, true, false, false, false, true, true, false, false, false, false] rfl hM5
 refine bC 6 _ fS M5 rfl rfl rfl rfl rfl (aR rfl) rfl (fun w6 M6 => (aB (aC (aO (eQ 6 fS M6 rfl rfl rfl ?_)))))
 exact ⟨r2, ⟨none, 0, 0, (none, default)⟩, by rw [bAp hk]; rfl, by rw [bAp hk]; exact hw2, by rw [bAp hk]; exact aU.nil _ _ _, (M6.keep [true, true, true, false, false, false, false, false, false, false, false, false]).dummy default⟩
set_option maxHeartbeats 32000000 in
theorem aJl (w : World)  (b : Nat) (r : StV) (vs : List Body) (hW : cC 39 r vs) (hO : Own [(some b, bc [.slice r.A r.n r.c, .map r.p] 107), r.er, r.em] w) (o : OpI) (BA : Option Addr) (nn cc : Nat) (hP : OpOk w o BA nn cc) (hnn : nn ≤ 1000000) (hdB : 0 < nn → ∀ q off, BA = some ⟨q, off, none⟩ → q ∉ bJ [(some b, bc [.slice r.A r.n r.c, .map r.p] 107), r.er, r.em]) (hk : o.kind = 2) :
  Calls Tryz.prog 20 #[.pointer (some ⟨b, 0, none⟩), .agg (eB o BA nn cc).toArray] w (fun ex w' => ∃ v, ex = .returned v ∧ (fun v w' => ∃ (r' : StV) (p : Row), v = .agg (dB (eI vs o).2 p).toArray ∧ cC 39 r' (eI vs o).1 ∧ aU 5 1 p.A p.n p.c (((eI vs o).2.bytes).map bI) p.e ∧ Mem w (bJ [(some b, bc [.slice r.A r.n r.c, .map r.p] 107), r.er, r.em]) [(some b, bc [.slice r'.A r'.n r'.c, .map r'.p] 107), r'.er, r'.em, p.e] w') v w') := by
 have hG := hW.1
 have hbl := hP.len
 refine aH #[.cell 4 33] 21 Tryz.func20 rfl Tryz.results20 Tryz.ntmps20 rfl ?_
 have M0 := hO.mem
 refine aD (aA (bE (.agg (List.toArray _)) M0 rfl rfl rfl (fun b1 w1 M1 => (aQ kE M1 rfl rfl (fun b2 w2 M2 => (aB (aC (aD (bP [(1, 0), (2, 1), (0, 2), (3, 1), (4, 0), (5, 0), (6, 0), (7, 0), (8, 0)] mixed rfl (by kernel_rfl) (fun w3 hb3 hh3 => ?_))))))))))
 have M3 := M2.drew hb3 hh3
 refine aX rfl rfl rfl (fun _ => aE 0 oP rfl) (bW rfl rfl rfl (aL 3 (.int _ _) gY M3 rfl rfl rfl) (dM [false] rfl (by kernel_rfl) (cA zK rfl rfl (gH _) ?_)))
 rintro v4 w4 ⟨pm, em, f1, g1, f2, g2, f3, g3, rfl, hmap, hM4⟩
 have M4 : Mem _ _ [_, _, _, _, _, _, _, _, _, _, _, _] _ := M3.call0 hM4
 refine aB (aC ⟨(eL (bN rfl (aL 3 (.int _ _) gY M4 rfl rfl rfl)) dN), ?_⟩)
 refine bW rfl rfl rfl (iH (enc := (fun v : Value => v)) .nilFunc 5 jW aKc M4 rfl hmap rfl rfl) (fY 11 (.tuple [(.func (.func 121) #[] #[.pointer (some ⟨f2, 0, none⟩), .pointer (some ⟨g2, 0, none⟩)] : Value), .bool true].toArray) (lF (aSb hk)) (aX rfl rfl rfl (fun _ => aG (.tuple (List.toArray _)) rfl) ?_))
 refine aX rfl rfl rfl (fun _ => bG (.func _ _ _) rfl rfl) (aX rfl rfl rfl (fun _ => bG (.bool true) rfl rfl) (aX rfl rfl rfl (fun _ => aI (.func _ _ _) rfl) (aX rfl rfl rfl (fun _ => aI (.bool true) rfl) (cE (aC (aD (aD (aA ?_))))))))
 refine wq (aG (.bool true) rfl) rfl (wq (gL false rfl rfl) rfl (aB (aC (bY rfl (aK (aC (aD (aA (wq (aG (.func _ _ _) rfl) rfl ?_)))))))))
 refine wq (aG (.pointer _) rfl) rfl (wq (bA 3 mH M4 rfl rfl rfl) rfl (cA bDk rfl rfl (aGa _ _ r vs hW _ _ (M4.ownK [true, true, true, false, false, false, false, false, true, true, false, false]) o BA nn cc (hP.memY M4 hdB) hnn (M4.awayK [true, true, true, false, false, false, false, false, true, true, false, false] hP.rd hdB)) ?_))
 rintro v5 w5 ⟨r2, rfl, hw2, hM5⟩
 have M5 : Mem _ _ [_, _, _, _, _, _, _, _, _, _, _, _] _ := M4.callK [true, true, true, false, false, false, false, false, true, true, false, false] rfl hM5
 refine bC 6 _ fS M5 rfl rfl rfl rfl rfl (aR rfl) rfl (fun w6 M6 => (aB (aC (aO (eQ 6 fS M6 rfl rfl rfl ?_)))))
 exact ⟨r2, ⟨none, 0, 0, (none, default)⟩, by rw [aXz hk]; rfl, by rw [aXz hk]; exact hw2, by rw [aXz hk]; exact aU.nil _ _ _, (M6.keep [true, true, true, false, false, false, false, false, false, false, false, false]).dummy default⟩
set_option maxHeartbeats 32000000 in
theorem aJk (w : World)  (b : Nat) (r : StV) (vs : List Body) (hW : cC 39 r vs) (hO : Own [(some b, bc [.slice r.A r.n r.c, .map r.p] 107), r.er, r.em] w) (o : OpI) (BA : Option Addr) (nn cc : Nat) (hP : OpOk w o BA nn cc) (hnn : nn ≤ 1000000) (hdB : 0 < nn → ∀ q off, BA = some ⟨q, off, none⟩ → q ∉ bJ [(some b, bc [.slice r.A r.n r.c, .map r.p] 107), r.er, r.em]) (hk : o.kind = 6) :
  Calls Tryz.prog 20 #[.pointer (some ⟨b, 0, none⟩), .agg (eB o BA nn cc).toArray] w (fun ex w' => ∃ v, ex = .returned v ∧ (fun v w' => ∃ (r' : StV) (p : Row), v = .agg (dB (eI vs o).2 p).toArray ∧ cC 39 r' (eI vs o).1 ∧ aU 5 1 p.A p.n p.c (((eI vs o).2.bytes).map bI) p.e ∧ Mem w (bJ [(some b, bc [.slice r.A r.n r.c, .map r.p] 107), r.er, r.em]) [(some b, bc [.slice r'.A r'.n r'.c, .map r'.p] 107), r'.er, r'.em, p.e] w') v w') := by
 have hG := hW.1
 have hbl := hP.len
 refine aH #[.cell 4 33] 21 Tryz.func20 rfl Tryz.results20 Tryz.ntmps20 rfl ?_
 have M0 := hO.mem
 refine aD (aA (bE (.agg (List.toArray _)) M0 rfl rfl rfl (fun b1 w1 M1 => (aQ kE M1 rfl rfl (fun b2 w2 M2 => (aB (aC (aD (bP [(1, 0), (2, 1), (0, 2), (3, 1), (4, 0), (5, 0), (6, 0), (7, 0), (8, 0)] mixed rfl (by kernel_rfl) (fun w3 hb3 hh3 => ?_))))))))))
 have M3 := M2.drew hb3 hh3
 refine aX rfl rfl rfl (fun _ => aE 0 oP rfl) (bW rfl rfl rfl (aL 3 (.int _ _) gY M3 rfl rfl rfl) (dM [false] rfl (by kernel_rfl) (cA zK rfl rfl (gH _) ?_)))
 rintro v4 w4 ⟨pm, em, f1, g1, f2, g2, f3, g3, rfl, hmap, hM4⟩
 have M4 : Mem _ _ [_, _, _, _, _, _, _, _, _, _, _, _] _ := M3.call0 hM4
 refine aB (aC ⟨(eL (bN rfl (aL 3 (.int _ _) gY M4 rfl rfl rfl)) dN), ?_⟩)
 refine bW rfl rfl rfl (iH (enc := (fun v : Value => v)) .nilFunc 5 jW aKc M4 rfl hmap rfl rfl) (fY 11 (.tuple [(.func (.func 123) #[] #[.pointer (some ⟨f3, 0, none⟩), .pointer (some ⟨g3, 0, none⟩)] : Value), .bool true].toArray) (lF (aVj hk)) (aX rfl rfl rfl (fun _ => aG (.tuple (List.toArray _)) rfl) ?_))
 refine aX rfl rfl rfl (fun _ => bG (.func _ _ _) rfl rfl) (aX rfl rfl rfl (fun _ => bG (.bool true) rfl rfl) (aX rfl rfl rfl (fun _ => aI (.func _ _ _) rfl) (aX rfl rfl rfl (fun _ => aI (.bool true) rfl) (cE (aC (aD (aD (aA ?_))))))))
 refine wq (aG (.bool true) rfl) rfl (wq (gL false rfl rfl) rfl (aB (aC (bY rfl (aK (aC (aD (aA (wq (aG (.func _ _ _) rfl) rfl ?_)))))))))
 refine wq (aG (.pointer _) rfl) rfl (wq (bA 3 mH M4 rfl rfl rfl) rfl (cA bFu rfl rfl (aDf _ _ r vs hW _ _ (M4.ownK [true, true, true, false, false, false, false, false, false, false, true, true]) o BA nn cc (hP.memY M4 hdB) hnn (M4.awayK [true, true, true, false, false, false, false, false, false, false, true, true] hP.rd hdB)) ?_))
 rintro v5 w5 ⟨r2, rfl, hw2, hM5⟩
 have M5 : Mem _ _ [_, _, _, _, _, _, _, _, _, _, _, _] _ := M4.callK [true, true, true, false, false, false, false, false, false, false, true, true] rfl hM5
 refine bC 6 _ fS M5 rfl rfl rfl rfl rfl (aR rfl) rfl (fun w6 M6 => (aB (aC (aO (eQ 6 fS M6 rfl rfl rfl ?_)))))
 exact ⟨r2, ⟨none, 0, 0, (none, default)⟩, by rw [bEi hk]; rfl, by rw [bEi hk]; exact hw2, by rw [bEi hk]; exact aU.nil _ _ _, (M6.keep [true, true, true, false, false, false, false, false, false, false, false, false]).dummy default⟩
set_option maxHeartbeats 32000000 in
theorem aJh (w : World)  (b : Nat) (r : StV) (vs : List Body) (hW : cC 39 r vs) (hO : Own [(some b, bc [.slice r.A r.n r.c, .map r.p] 107), r.er, r.em] w) (o : OpI) (BA : Option Addr) (nn cc : Nat) (hP : OpOk w o BA nn cc) (hnn : nn ≤ 1000000) (hdB : 0 < nn → ∀ q off, BA = some ⟨q, off, none⟩ → q ∉ bJ [(some b, bc [.slice r.A r.n r.c, .map r.p] 107), r.er, r.em]) (hk : o.kind = 3) :
  Calls Tryz.prog 20 #[.pointer (some ⟨b, 0, none⟩), .agg (eB o BA nn cc).toArray] w (fun ex w' => ∃ v, ex = .returned v ∧ (fun v w' => ∃ (r' : StV) (p : Row), v = .agg (dB (eI vs o).2 p).toArray ∧ cC 39 r' (eI vs o).1 ∧ aU 5 1 p.A p.n p.c (((eI vs o).2.bytes).map bI) p.e ∧ Mem w (bJ [(some b, bc [.slice r.A r.n r.c, .map r.p] 107), r.er, r.em]) [(some b, bc [.slice r'.A r'.n r'.c, .map r'.p] 107), r'.er, r'.em, p.e] w') v w') := by
 have hG := hW.1
 have hbl := hP.len
 refine aH #[.cell 4 33] 21 Tryz.func20 rfl Tryz.results20 Tryz.ntmps20 rfl ?_
 have M0 := hO.mem
 refine aD (aA (bE (.agg (List.toArray _)) M0 rfl rfl rfl (fun b1 w1 M1 => (aQ kE M1 rfl rfl (fun b2 w2 M2 => (aB (aC (aD (bP [(1, 0), (2, 1), (0, 2), (3, 1), (4, 0), (5, 0), (6, 0), (7, 0), (8, 0)] mixed rfl (by kernel_rfl) (fun w3 hb3 hh3 => ?_))))))))))
 have M3 := M2.drew hb3 hh3
 refine aX rfl rfl rfl (fun _ => aE 0 oP rfl) (bW rfl rfl rfl (aL 3 (.int _ _) gY M3 rfl rfl rfl) (dM [false] rfl (by kernel_rfl) (cA zK rfl rfl (gH _) ?_)))
 rintro v4 w4 ⟨pm, em, f1, g1, f2, g2, f3, g3, rfl, hmap, hM4⟩
 have M4 : Mem _ _ [_, _, _, _, _, _, _, _, _, _, _, _] _ := M3.call0 hM4
 refine aB (aC ⟨(eL (bN rfl (aL 3 (.int _ _) gY M4 rfl rfl rfl)) dN), ?_⟩)
 refine bW rfl rfl rfl (iH (enc := (fun v : Value => v)) .nilFunc 5 jW aKc M4 rfl hmap rfl rfl) (fY 11 (.tuple [(.func (.func 90) #[] #[] : Value), .bool true].toArray) (lF (aUf hk)) (aX rfl rfl rfl (fun _ => aG (.tuple (List.toArray _)) rfl) (aX rfl rfl rfl (fun _ => bG (.func _ _ _) rfl rfl) ?_)))
 refine aX rfl rfl rfl (fun _ => bG (.bool true) rfl rfl) (aX rfl rfl rfl (fun _ => aI (.func _ _ _) rfl) (aX rfl rfl rfl (fun _ => aI (.bool true) rfl) (cE (aC (aD (aD (aA (wq (aG (.bool true) rfl) rfl ?_))))))))
 refine wq (gL false rfl rfl) rfl (aB (aC (bY rfl (aK (aC (aD (aA (wq (aG (.func _ _ _) rfl) rfl (wq (aG (.pointer _) rfl) rfl ?_)))))))))
 refine wq (bA 3 mH M4 rfl rfl rfl) rfl (cA bIq rfl rfl (aDg _ _ r vs hW (M4.ownSeg 0 3) o BA nn cc (hP.memY M4 hdB) hnn (M4.away 0 3 hP.rd hdB)  hk) ?_)
 rintro v5 w5 ⟨r2, p2, rfl, hw2, hp2, hM5⟩
 have M5 : Mem _ _ [_, _, _, _, _, _, _, _, _, _, _, _, _] _ := M4.seg 0 3 hM5
 refine bC 4 _ fS M5 rfl rfl rfl rfl rfl (aR rfl) rfl (fun w6 M6 => (aB (aC (aO (eQ 4 fS M6 rfl rfl rfl ?_)))))
 exact ⟨r2, p2, rfl, hw2, hp2, M6.keep [true, true, true, false, false, false, false, false, false, false, false, false, true]⟩
set_option maxHeartbeats 32000000 in
theorem aLz (w : World) (F : Rd w 2 (some ⟨0, 0, none⟩) 1 [[.int .u32 73856093, .int .u32 19349663]]) (N : Rd w 4 (some ⟨3, 0, none⟩) 1 [cW gT]) (b : Nat) (r : StV) (vs : List Body) (hW : cC 39 r vs) (hO : Own [(some b, bc [.slice r.A r.n r.c, .map r.p] 107), r.er, r.em] w) (o : OpI) (BA : Option Addr) (nn cc : Nat) (hP : OpOk w o BA nn cc) (hnn : nn ≤ 1000000) (hdB : 0 < nn → ∀ q off, BA = some ⟨q, off, none⟩ → q ∉ bJ [(some b, bc [.slice r.A r.n r.c, .map r.p] 107), r.er, r.em]) (hdF : 0 < 1 → ∀ q off, (some ⟨0, 0, none⟩ : Option Addr) = some ⟨q, off, none⟩ → q ∉ bJ [(some b, bc [.slice r.A r.n r.c, .map r.p] 107), r.er, r.em]) (hdN : 0 < 1 → ∀ q off, (some ⟨3, 0, none⟩ : Option Addr) = some ⟨q, off, none⟩ → q ∉ bJ [(some b, bc [.slice r.A r.n r.c, .map r.p] 107), r.er, r.em]) (hk : o.kind = 4) :
  Calls Tryz.prog 20 #[.pointer (some ⟨b, 0, none⟩), .agg (eB o BA nn cc).toArray] w (fun ex w' => ∃ v, ex = .returned v ∧ (fun v w' => ∃ (r' : StV) (p : Row), v = .agg (dB (eI vs o).2 p).toArray ∧ cC 39 r' (eI vs o).1 ∧ aU 5 1 p.A p.n p.c (((eI vs o).2.bytes).map bI) p.e ∧ Mem w (bJ [(some b, bc [.slice r.A r.n r.c, .map r.p] 107), r.er, r.em]) [(some b, bc [.slice r'.A r'.n r'.c, .map r'.p] 107), r'.er, r'.em, p.e] w') v w') := by
 have hG := hW.1
 have hbl := hP.len
 refine aH #[.cell 4 33] 21 Tryz.func20 rfl Tryz.results20 Tryz.ntmps20 rfl ?_
 have M0 := hO.mem
 refine aD (aA (bE (.agg (List.toArray _)) M0 rfl rfl rfl (fun b1 w1 M1 => (aQ kE M1 rfl rfl (fun b2 w2 M2 => (aB (aC (aD (bP [(1, 0), (2, 1), (0, 2), (3, 1), (4, 0), (5, 0), (6, 0), (7, 0), (8, 0)] mixed rfl (by kernel_rfl) (fun w3 hb3 hh3 => ?_))))))))))
 have M3 := M2.drew hb3 hh3
 refine aX rfl rfl rfl (fun _ => aE 0 oP rfl) (bW rfl rfl rfl (aL 3 (.int _ _) gY M3 rfl rfl rfl) (dM [false] rfl (by kernel_rfl) (cA zK rfl rfl (gH _) ?_)))
 rintro v4 w4 ⟨pm, em, f1, g1, f2, g2, f3, g3, rfl, hmap, hM4⟩
 have M4 : Mem _ _ [_, _, _, _, _, _, _, _, _, _, _, _] _ := M3.call0 hM4
 refine aB (aC ⟨(eL (bN rfl (aL 3 (.int _ _) gY M4 rfl rfl rfl)) dN), ?_⟩)
 refine bW rfl rfl rfl (iH (enc := (fun v : Value => v)) .nilFunc 5 jW aKc M4 rfl hmap rfl rfl) (fY 11 (.tuple [(.func (.func 92) #[] #[] : Value), .bool true].toArray) (lF (aTy hk)) (aX rfl rfl rfl (fun _ => aG (.tuple (List.toArray _)) rfl) (aX rfl rfl rfl (fun _ => bG (.func _ _ _) rfl rfl) ?_)))
 refine aX rfl rfl rfl (fun _ => bG (.bool true) rfl rfl) (aX rfl rfl rfl (fun _ => aI (.func _ _ _) rfl) (aX rfl rfl rfl (fun _ => aI (.bool true) rfl) (cE (aC (aD (aD (aA (wq (aG (.bool true) rfl) rfl ?_))))))))
 refine wq (gL false rfl rfl) rfl (aB (aC (bY rfl (aK (aC (aD (aA (wq (aG (.func _ _ _) rfl) rfl (wq (aG (.pointer _) rfl) rfl ?_)))))))))
 refine wq (bA 3 mH M4 rfl rfl rfl) rfl (cA bIo rfl rfl (aOz _ (F.memY M4 hdF) (N.memY M4 hdN) _ r vs hW (M4.ownSeg 0 3) o BA nn cc (hP.memY M4 hdB) hnn (M4.away 0 3 hP.rd hdB) (M4.away 0 3 F hdF) (M4.away 0 3 N hdN) hk) ?_)
 rintro v5 w5 ⟨r2, p2, rfl, hw2, hp2, hM5⟩
 have M5 : Mem _ _ [_, _, _, _, _, _, _, _, _, _, _, _, _] _ := M4.seg 0 3 hM5
 refine bC 4 _ fS M5 rfl rfl rfl rfl rfl (aR rfl) rfl (fun w6 M6 => (aB (aC (aO (eQ 4 fS M6 rfl rfl rfl ?_)))))
 exact ⟨r2, p2, rfl, hw2, hp2, M6.keep [true, true, true, false, false, false, false, false, false, false, false, false, true]⟩
set_option maxHeartbeats 32000000 in
theorem aLr (w : World)  (b : Nat) (r : StV) (vs : List Body) (hW : cC 39 r vs) (hO : Own [(some b, bc [.slice r.A r.n r.c, .map r.p] 107), r.er, r.em] w) (o : OpI) (BA : Option Addr) (nn cc : Nat) (hP : OpOk w o BA nn cc) (hnn : nn ≤ 1000000) (hdB : 0 < nn → ∀ q off, BA = some ⟨q, off, none⟩ → q ∉ bJ [(some b, bc [.slice r.A r.n r.c, .map r.p] 107), r.er, r.em]) (hk : o.kind = 5) :
  Calls Tryz.prog 20 #[.pointer (some ⟨b, 0, none⟩), .agg (eB o BA nn cc).toArray] w (fun ex w' => ∃ v, ex = .returned v ∧ (fun v w' => ∃ (r' : StV) (p : Row), v = .agg (dB (eI vs o).2 p).toArray ∧ cC 39 r' (eI vs o).1 ∧ aU 5 1 p.A p.n p.c (((eI vs o).2.bytes).map bI) p.e ∧ Mem w (bJ [(some b, bc [.slice r.A r.n r.c, .map r.p] 107), r.er, r.em]) [(some b, bc [.slice r'.A r'.n r'.c, .map r'.p] 107), r'.er, r'.em, p.e] w') v w') := by
 have hG := hW.1
 have hbl := hP.len
 refine aH #[.cell 4 33] 21 Tryz.func20 rfl Tryz.results20 Tryz.ntmps20 rfl ?_
 have M0 := hO.mem
 refine aD (aA (bE (.agg (List.toArray _)) M0 rfl rfl rfl (fun b1 w1 M1 => (aQ kE M1 rfl rfl (fun b2 w2 M2 => (aB (aC (aD (bP [(1, 0), (2, 1), (0, 2), (3, 1), (4, 0), (5, 0), (6, 0), (7, 0), (8, 0)] mixed rfl (by kernel_rfl) (fun w3 hb3 hh3 => ?_))))))))))
 have M3 := M2.drew hb3 hh3
 refine aX rfl rfl rfl (fun _ => aE 0 oP rfl) (bW rfl rfl rfl (aL 3 (.int _ _) gY M3 rfl rfl rfl) (dM [false] rfl (by kernel_rfl) (cA zK rfl rfl (gH _) ?_)))
 rintro v4 w4 ⟨pm, em, f1, g1, f2, g2, f3, g3, rfl, hmap, hM4⟩
 have M4 : Mem _ _ [_, _, _, _, _, _, _, _, _, _, _, _] _ := M3.call0 hM4
 refine aB (aC ⟨(eL (bN rfl (aL 3 (.int _ _) gY M4 rfl rfl rfl)) dN), ?_⟩)
 refine bW rfl rfl rfl (iH (enc := (fun v : Value => v)) .nilFunc 5 jW aKc M4 rfl hmap rfl rfl) (fY 11 (.tuple [(.func (.func 93) #[] #[] : Value), .bool true].toArray) (lF (aWd hk)) (aX rfl rfl rfl (fun _ => aG (.tuple (List.toArray _)) rfl) (aX rfl rfl rfl (fun _ => bG (.func _ _ _) rfl rfl) ?_)))
 refine aX rfl rfl rfl (fun _ => bG (.bool true) rfl rfl) (aX rfl rfl rfl (fun _ => aI (.func _ _ _) rfl) (aX rfl rfl rfl (fun _ => aI (.bool true) rfl) (cE (aC (aD (aD (aA (wq (aG (.bool true) rfl) rfl ?_))))))))
 refine wq (gL false rfl rfl) rfl (aB (aC (bY rfl (aK (aC (aD (aA (wq (aG (.func _ _ _) rfl) rfl (wq (aG (.pointer _) rfl) rfl ?_)))))))))
 refine wq (bA 3 mH M4 rfl rfl rfl) rfl (cA bGy rfl rfl (aBc _ _ r vs hW (M4.ownSeg 0 3) o BA nn cc (hP.memY M4 hdB) hnn (M4.away 0 3 hP.rd hdB)  hk) ?_)
 rintro v5 w5 ⟨r2, p2, rfl, hw2, hp2, hM5⟩
 have M5 : Mem _ _ [_, _, _, _, _, _, _, _, _, _, _, _, _] _ := M4.seg 0 3 hM5
 refine bC 4 _ fS M5 rfl rfl rfl rfl rfl (aR rfl) rfl (fun w6 M6 => (aB (aC (aO (eQ 4 fS M6 rfl rfl rfl ?_)))))
 exact ⟨r2, p2, rfl, hw2, hp2, M6.keep [true, true, true, false, false, false, false, false, false, false, false, false, true]⟩
set_option maxHeartbeats 32000000 in
theorem aJw (w : World)  (b : Nat) (r : StV) (vs : List Body) (hW : cC 39 r vs) (hO : Own [(some b, bc [.slice r.A r.n r.c, .map r.p] 107), r.er, r.em] w) (o : OpI) (BA : Option Addr) (nn cc : Nat) (hP : OpOk w o BA nn cc) (hdB : 0 < nn → ∀ q off, BA = some ⟨q, off, none⟩ → q ∉ bJ [(some b, bc [.slice r.A r.n r.c, .map r.p] 107), r.er, r.em]) (hk : o.kind < 1 ∨ 6 < o.kind) :
  Calls Tryz.prog 20 #[.pointer (some ⟨b, 0, none⟩), .agg (eB o BA nn cc).toArray] w (fun ex w' => ∃ v, ex = .returned v ∧ (fun v w' => ∃ (r' : StV) (p : Row), v = .agg (dB (eI vs o).2 p).toArray ∧ cC 39 r' (eI vs o).1 ∧ aU 5 1 p.A p.n p.c (((eI vs o).2.bytes).map bI) p.e ∧ Mem w (bJ [(some b, bc [.slice r.A r.n r.c, .map r.p] 107), r.er, r.em]) [(some b, bc [.slice r'.A r'.n r'.c, .map r'.p] 107), r'.er, r'.em, p.e] w') v w') := by
 have hG := hW.1
 have hbl := hP.len
 refine aH #[.cell 4 33] 21 Tryz.func20 rfl Tryz.results20 Tryz.ntmps20 rfl ?_
 have M0 := hO.mem
 refine aD (aA (bE (.agg (List.toArray _)) M0 rfl rfl rfl (fun b1 w1 M1 => (aQ kE M1 rfl rfl (fun b2 w2 M2 => (aB (aC (aD (bP [(1, 0), (2, 1), (0, 2), (3, 1), (4, 0), (5, 0), (6, 0), (7, 0), (8, 0)] mixed rfl (by kernel_rfl) (fun w3 hb3 hh3 => ?_))))))))))
 have M3 := M2.drew hb3 hh3
 refine aX rfl rfl rfl (fun _ => aE 0 oP rfl) (bW rfl rfl rfl (aL 3 (.int _ _) gY M3 rfl rfl rfl) (dM [false] rfl (by kernel_rfl) (cA zK rfl rfl (gH _) ?_)))
 rintro v4 w4 ⟨pm, em, f1, g1, f2, g2, f3, g3, rfl, hmap, hM4⟩
 have M4 : Mem _ _ [_, _, _, _, _, _, _, _, _, _, _, _] _ := M3.call0 hM4
 refine aB (aC ⟨(eL (bN rfl (aL 3 (.int _ _) gY M4 rfl rfl rfl)) dN), ?_⟩)
 refine bW rfl rfl rfl (iH (enc := (fun v : Value => v)) .nilFunc 5 jW aKc M4 rfl hmap rfl rfl) (fY 11 (.tuple [(.nilFunc : Value), .bool false].toArray) (aPj (aUx hk)) (aX rfl rfl rfl (fun _ => aG (.tuple (List.toArray _)) rfl) (aX rfl rfl rfl (fun _ => bG (_) rfl rfl) (aX rfl rfl rfl (fun _ => bG (.bool false) rfl rfl) ?_))))
 refine aX rfl rfl rfl (fun _ => aI (_) rfl) (aX rfl rfl rfl (fun _ => aI (.bool false) rfl) (cE (aC (aD (aD (aA (wq (aG (.bool false) rfl) rfl (wq (gL true rfl rfl) rfl ?_))))))))
 refine aB (aC (cS rfl (aD (aA (wq (cF [(0, .int _ _)] _ lQ rfl rfl) rfl (bC 4 _ fS M4 rfl rfl rfl rfl rfl (aR rfl) rfl (fun w5 M5 => (aB (aC (aO (cM ?_)))))))))))
 refine eQ 4 fS M5 rfl rfl rfl ?_
 exact ⟨r, ⟨none, 0, 0, (none, default)⟩, by rw [oH (by omega)]; rfl, by rw [oH (by omega)]; exact hW, by rw [oH (by omega)]; exact aU.nil _ _ _, (M5.keep [true, true, true, false, false, false, false, false, false, false, false, false]).dummy default⟩
theorem aPf (w : World) (F : Rd w 2 (some ⟨0, 0, none⟩) 1 [[.int .u32 73856093, .int .u32 19349663]]) (N : Rd w 4 (some ⟨3, 0, none⟩) 1 [cW gT]) (b : Nat) (r : StV) (vs : List Body) (hW : cC 39 r vs) (hO : Own [(some b, bc [.slice r.A r.n r.c, .map r.p] 107), r.er, r.em] w) (o : OpI) (BA : Option Addr) (nn cc : Nat) (hP : OpOk w o BA nn cc) (hnn : nn ≤ 1000000) (hdB : 0 < nn → ∀ q off, BA = some ⟨q, off, none⟩ → q ∉ bJ [(some b, bc [.slice r.A r.n r.c, .map r.p] 107), r.er, r.em]) (hdF : 0 < 1 → ∀ q off, (some ⟨0, 0, none⟩ : Option Addr) = some ⟨q, off, none⟩ → q ∉ bJ [(some b, bc [.slice r.A r.n r.c, .map r.p] 107), r.er, r.em]) (hdN : 0 < 1 → ∀ q off, (some ⟨3, 0, none⟩ : Option Addr) = some ⟨q, off, none⟩ → q ∉ bJ [(some b, bc [.slice r.A r.n r.c, .map r.p] 107), r.er, r.em]) : Calls Tryz.prog 20 #[.pointer (some ⟨b, 0, none⟩), .agg (eB o BA nn cc).toArray] w (fun ex w' => ∃ v, ex = .returned v ∧ (fun v w' => ∃ (r' : StV) (p : Row), v = .agg (dB (eI vs o).2 p).toArray ∧ cC 39 r' (eI vs o).1 ∧ aU 5 1 p.A p.n p.c (((eI vs o).2.bytes).map bI) p.e ∧ Mem w (bJ [(some b, bc [.slice r.A r.n r.c, .map r.p] 107), r.er, r.em]) [(some b, bc [.slice r'.A r'.n r'.c, .map r'.p] 107), r'.er, r'.em, p.e] w') v w') := by
 by_cases h0 : o.kind < 1 ∨ 6 < o.kind
 ·exact aJw w b r vs hW hO o BA nn cc hP hdB h0
 by_cases h1 : o.kind = 1
 ·exact aJp w b r vs hW hO o BA nn cc hP hnn hdB h1
 by_cases h2 : o.kind = 2
 ·exact aJl w b r vs hW hO o BA nn cc hP hnn hdB h2
 by_cases h3 : o.kind = 3
 ·exact aJh w b r vs hW hO o BA nn cc hP hnn hdB h3
 by_cases h4 : o.kind = 4
 ·exact aLz w F N b r vs hW hO o BA nn cc hP hnn hdB hdF hdN h4
 by_cases h5 : o.kind = 5
 ·exact aLr w b r vs hW hO o BA nn cc hP hnn hdB h5
 ·exact aJk w b r vs hW hO o BA nn cc hP hnn hdB (by omega)
set_option maxHeartbeats 32000000 in
theorem oJ (w : World) (F : Rd w 2 (some ⟨0, 0, none⟩) 1 [[.int .u32 73856093, .int .u32 19349663]]) (N : Rd w 4 (some ⟨3, 0, none⟩) 1 [cW gT]) (b : Nat) (r : StV) (vs : List Body) (hW : cC 39 r vs) (hO : Own [(some b, bc [.slice r.A r.n r.c, .map r.p] 107), r.er, r.em] w) (hdF : 0 < 1 → ∀ q off, (some ⟨0, 0, none⟩ : Option Addr) = some ⟨q, off, none⟩ → q ∉ bJ [(some b, bc [.slice r.A r.n r.c, .map r.p] 107), r.er, r.em]) (hdN : 0 < 1 → ∀ q off, (some ⟨3, 0, none⟩ : Option Addr) = some ⟨q, off, none⟩ → q ∉ bJ [(some b, bc [.slice r.A r.n r.c, .map r.p] 107), r.er, r.em]) (A : Option Addr) (n c : Nat) (l : List OpRow) (hl : OpsRd w A n l) (hby : ∀ x ∈ l, x.n ≤ 1000000) (hn : n ≤ 1000000) (hdl : 0 < n → ∀ q off, A = some ⟨q, off, none⟩ → q ∉ bJ [(some b, bc [.slice r.A r.n r.c, .map r.p] 107), r.er, r.em]) (hdo : aEk l (bJ [(some b, bc [.slice r.A r.n r.c, .map r.p] 107), r.er, r.em])) :
  Calls Tryz.prog 33 #[.pointer (some ⟨b, 0, none⟩), .slice A n c] w (fun ex w' => ∃ v, ex = .returned v ∧ (fun v w' => ∃ (r' : StV) (q : Row) (rs : List Row), v = .slice q.A q.n q.c ∧ cC 39 r' (jE vs (fT l)) ∧ aU 33 4 q.A q.n q.c (lT (jL vs (fT l)) rs) q.e ∧ OutR 5 rs (jL vs (fT l)) ∧ Mem w (bJ [(some b, bc [.slice r.A r.n r.c, .map r.p] 107), r.er, r.em]) ([(some b, bc [.slice r'.A r'.n r'.c, .map r'.p] 107), r'.er, r'.em, q.e] ++ rs.map Row.e) w') v w') := by
 have hlen : l.length = n := by simpa using hl.rd.len
 have hbd := hl.rd.bound
 refine aH #[.tmp 4] 22 Tryz.func33 rfl Tryz.results33 Tryz.ntmps33 rfl ?_
 have M0 := hO.mem
 refine aD (aA (fJ rfl rfl (aB (aC (aD (aA (fJ rfl rfl ?_)))))))
 have M1 := M0.dummy default
 refine aB (aC (aD (aD (aA (dV rfl rfl (wq (cN Tryz.underlying27 rfl) rfl (aY rfl rfl (aB (aC (aT (dL (σ := Nat × StV × Row × List Row) [0, 4, 8, 9] (fun (i, r', q, rs) => [(5, .slice q.A q.n q.c), (10, .int .i64 (i : Int))]) (fun (i, r', q, rs) w' => (i ≤ n ∧ cC 39 r' (jE vs ((fT l).take i)) ∧ aU 33 4 q.A q.n q.c (lT ((jL vs ((fT l).take i))) rs) q.e ∧ OutR 5 rs (jL vs ((fT l).take i))) ∧ Mem w (bJ [(some b, bc [.slice r.A r.n r.c, .map r.p] 107), r.er, r.em]) ([(some b, bc [.slice r'.A r'.n r'.c, .map r'.p] 107), r'.er, r'.em, q.e] ++ rs.map Row.e) w') (fun (i, r', q, rs) => n - i) (0, r, fR, []) (bM rfl (bM rfl eX)) (⟨⟨by omega, hW, aU.nil _ _ _, OutR.nil _⟩, M1⟩) ?_)))))))))))
 rintro ⟨i, r', q, rs⟩ ρ2 w2 ⟨⟨hi, hr, hq, hoR⟩, hM2⟩
 have hqn : (lT (jL vs ((fT l).take i)) rs).length = q.n := hq.1
 rw [pP hoR.len, nL, List.length_take, lX] at hqn
 refine aD (aA (cY rfl rfl rfl rfl (aB (aC (aD ?_)))))
 refine bB rfl (fun h11 => ?_) (fun h11 => ?_)
 ·obtain ⟨x, hx⟩ := cI (xs := l) (k := i) hlen (by omega)
  have hxm := List.mem_of_getElem? hx
  have hP := hl.each x hxm
  have hxo := aFc hx
  refine aK (aC (aD (aT (aD (aA (wq (bR (i) bAd rfl rfl rfl ((hl.rd.memY hM2 hdl).below_len (aJ OpRow.cells hx)) ((hl.rd.memY hM2 hdl).someK (aJ OpRow.cells hx))) rfl (wq (dZ _ mH (hl.rd.memY hM2 hdl) (aJ OpRow.cells hx) rfl) rfl (aV 13 (.agg (eB x.o x.A x.n x.c).toArray) rfl ?_))))))))
  refine aQ aWq hM2 rfl rfl (fun b3 w3 M3 => ?_)
  have M4 : Mem _ _ ([_, _, _, _, _] ++ _) _ := Mem.front (L := [_, _, _, _]) M3
  refine bC 4 _ mH M4 rfl rfl rfl rfl rfl (aR rfl) rfl (fun w5 M5 => (aB (aC (aA (dV rfl rfl (wq (aG (.pointer _) rfl) rfl (wq (bA 4 mH M5 rfl rfl rfl) rfl (cA bGv rfl rfl (aPf _ (F.memY M5 hdF) (N.memY M5 hdN) _ r' _ hr (M5.ownSeg 0 3) x.o x.A x.n x.c (hP.memY M5 (hdo x hxm)) (hby x hxm) (M5.away 0 3 hP.rd (hdo x hxm)) (M5.away 0 3 F hdF) (M5.away 0 3 N hdN)) ?_))))))))
  rintro v6 w6 ⟨r2, p2, rfl, hr2, hp2, hM6⟩
  have M6 : Mem _ _ ([_, _, _, _, _, _] ++ _) _ := Mem.front (L := [_, _, _, _, _]) (M5.seg 0 3 hM6)
  refine cT [.agg (List.toArray _)] [dB (eI (jE vs ((fT l).take i)) x.o).2 p2] rfl qF M6 rfl rfl rfl rfl (dA rfl) (by decide) (fun b7 w7 M7 => ?_)
  have M8 : Mem _ _ ([_, _, _, _, _, _, _] ++ _) _ := Mem.front (L := [_, _, _, _, _, _]) M7
  refine dR 3 [dB (eI (jE vs ((fT l).take i)) x.o).2 p2] qF M8 rfl rfl rfl rfl rfl hq rfl (by simp [dB, Go.Bil.one]) (cZ.ofMem 6 M8 rfl) (by omega) (fun A9 c9 e9 w9 M9 hR9 => (fJ rfl rfl (aB (dE (aC (aA (wq (bQ rfl rfl (by omega) (by omega)) rfl ?_)))))))
  refine aY rfl rfl (aB ?_)
  refine cR (i + 1, r2, ⟨A9, q.n + 1, c9, e9⟩, rs ++ [p2]) (bM rfl (bM rfl eX)) (cV rfl (cV rfl (cV rfl (cV rfl kA)))) ?_ ?_
  ·exact ⟨⟨by omega, by rw [aQz hxo]; exact hr2, by rw [aBx hxo, aCa hoR.len]; exact hR9, by rw [aBx hxo]; exact hoR.add hp2⟩, Mem.pushNew (L := [_, _, _, _]) p2 (Mem.keepL (L := [_, _, _, _, _, _, _]) [true, true, true, true, false, true, false] M9)⟩
  ·(show n - (i + 1) < n - i; omega)
 ·have hin : i = n := by omega
  rw [hin, List.take_of_length_le (by rw [lX]; omega)] at hr hq hoR
  refine cQ (dC (cX (eT (aC (aD (aA (dV rfl rfl ?_)))))))
  refine fJ rfl rfl (aB (aC (aO (cD (.slice _ _ _) rfl ?_))))
  exact ⟨r', q, rs, rfl, hr, hq, hoR, hM2⟩
set_option maxHeartbeats 4000000 in
theorem lA (w : World) (F : Rd w 2 (some ⟨0, 0, none⟩) 1 [[.int .u32 73856093, .int .u32 19349663]]) (N : Rd w 4 (some ⟨3, 0, none⟩) 1 [cW gT]) (A : Option Addr) (n c : Nat) (l : List OpRow) (hl : OpsRd w A n l) (hby : ∀ x ∈ l, x.n ≤ 1000000) (hn : n ≤ 1000000) :
  Calls Tryz.prog 18 #[.slice A n c] w (fun ex w' => ∃ v, ex = .returned v ∧ (fun v w' => ∃ (b : Nat) (r' : StV), v = .pointer (some ⟨b, 0, none⟩) ∧ cC 39 r' (jE [] (fT l)) ∧ Mem w [] [(some b, bc [.slice r'.A r'.n r'.c, .map r'.p] 107), r'.er, r'.em] w') v w') := by
 have hlen : l.length = n := by simpa using hl.rd.len
 have hbd := hl.rd.bound
 refine aH #[.tmp 2] 9 Tryz.func18 rfl Tryz.results18 Tryz.ntmps18 rfl ?_
 have M0 := Mem.refl w
 refine aD (aA (wq (aI (.pointer _) rfl) rfl (aB (aC (aD (aA (aQ aXg M0 rfl rfl (fun b1 w1 M1 => ?_))))))))
 have M2 := (M1.dummy default).dummy default
 refine wq (aI (.pointer _) rfl) rfl (aB (aC (aD (aA (wq (aG (.pointer _) rfl) rfl (dV rfl rfl (cA aMs rfl rfl (oJ _ (F.mem M2) (N.mem M2) _ ⟨none, 0, 0, none, (none, default), (none, default)⟩ _ (cC.new 39 default default) (M2.ownSeg 0 3) (M2.away 0 3 F (by simp)) (M2.away 0 3 N (by simp)) A n c l (hl.mem M2) hby hn (M2.away 0 3 hl.rd (by simp)) (fun x hx => M2.away 0 3 (hl.each x hx).rd (by simp))) ?_)))))))
 rintro v3 w3 ⟨r2, q, rs, rfl, hr2, hq, hoR, hM3⟩
 have M3 : Mem _ _ ([_, _, _, _] ++ _) _ := M2.seg 0 3 hM3
 refine aB (aC (aD (aA (wq (aG (.pointer _) rfl) rfl (wq (aI (.pointer _) rfl) rfl (aB (aC (aO (cD (.pointer _) rfl ?_)))))))))
 exact ⟨_, r2, rfl, hr2, M3.keep [true, true, true]⟩
set_option maxHeartbeats 4000000 in
theorem aOr (w : World) (A : Option Addr) (n c : Nat) (l : List OpRow) (hl : OpsRd w A n l) :
  Calls Tryz.prog 17 #[.slice A n c] w (fun ex w' => ∃ v, ex = .returned v ∧ (fun v w' => (∃ g : Bool, v = .bool g ∧ (g = true → n ≤ 40 ∧ ∀ x ∈ l, x.n ≤ 1000)) ∧ Below w.heap.size w w') v w') := by
 have hlen : l.length = n := by simpa using hl.rd.len
 have hbd := hl.rd.bound
 refine aH #[.tmp 2] 37 Tryz.func17 rfl Tryz.results17 Tryz.ntmps17 rfl ?_
 have M0 := Mem.refl w
 refine aD (aA (wq (aI (.bool false) rfl) rfl (aB (aC (aD (aA (bO rfl rfl (aB (aC (aD (aD (aA (bO rfl rfl ?_)))))))))))))
 refine aB (aC (aT (dL (σ := Nat × Nat) [0] (fun (i, s) => [(3, .int .i64 (s : Int)), (4, .int .i64 (i : Int))]) (fun (i, s) w' => (i ≤ n ∧ s ≤ i ∧ ∀ (j : Nat) (x : OpRow), j < i → l[j]? = some x → x.n ≤ 1000) ∧ Mem w [] [] w') (fun (i, s) => n - i) (0, 0) (bM rfl (bM rfl eX)) (⟨⟨by omega, by omega, fun j x hj => by omega⟩, M0⟩) ?_)))
 rintro ⟨i, s⟩ ρ1 w1 ⟨⟨hi, hs, hal⟩, hM1⟩
 refine aD (aD (aA (aY rfl rfl (dV rfl rfl (wq (cN Tryz.underlying22 rfl) rfl (cY rfl rfl rfl rfl (wq (aG (.bool (decide _)) rfl) rfl ?_)))))))
 refine dH 9 rfl (fun g9 => ?_) (fun g9 => ?_)
 ·refine aY rfl rfl (cY rfl rfl rfl rfl (wq (bX true (.bool (decide _)) rfl rfl) rfl (aB (aC ?_))))
  refine bB rfl (fun h12 => ?_) (fun h12 => ?_)
  ·obtain ⟨x, hx⟩ := cI (xs := l) (k := i) hlen (by omega)
   refine aK (aC (aD (aT (aD (aD (aA (dV rfl rfl (aY rfl rfl (wq (bR (i) aGi rfl rfl rfl ((hl.rd.mem hM1).below_len (aJ OpRow.cells hx)) ((hl.rd.mem hM1).someK (aJ OpRow.cells hx))) rfl (wq (bH 14 aNv (hl.rd.mem hM1) (Nat.lt_of_le_of_lt (Nat.zero_le _) ((hl.rd.mem hM1).below_len (aJ OpRow.cells hx))) rfl) rfl ?_))))))))))
   refine wq (dS (o := 14) (.slice _ _ _) zY (hl.rd.mem hM1) (aJ OpRow.cells hx) rfl rfl) rfl (wq (cN Tryz.underlying31 rfl) rfl (cY rfl rfl rfl rfl (aB (aC ?_))))
   refine bB rfl (fun h21 => ?_) (fun h21 => ?_)
   ·refine aD (aA (wq (aI (.bool false) rfl) rfl (aB (aC (aO (cM (jS (cM (uE ?_)))))))))
    refine jS (cM (cD (.bool false) rfl ?_))
    exact ⟨⟨false, rfl, fun h => by cases h⟩, hM1.below⟩
   ·refine aK (aC (aD (aA (dV rfl rfl (aY rfl rfl (wq (bR (i) aGi rfl rfl rfl ((hl.rd.mem hM1).below_len (aJ OpRow.cells hx)) ((hl.rd.mem hM1).someK (aJ OpRow.cells hx))) rfl (wq (bH 0 aDk (hl.rd.mem hM1) (Nat.lt_of_le_of_lt (Nat.zero_le _) ((hl.rd.mem hM1).below_len (aJ OpRow.cells hx))) rfl) rfl ?_)))))))
    refine wq (dS (o := 0) (.int _ _) gY (hl.rd.mem hM1) (aJ OpRow.cells hx) rfl rfl) rfl (cY rfl rfl rfl rfl (aB (aC ?_)))
    refine bB rfl (fun h27 => ?_) (fun h27 => ?_)
    ·refine aA (aY rfl rfl (wq (bQ rfl rfl (by omega) (by omega)) rfl (bO rfl rfl (aB (dE ?_)))))
     refine aC (aA (aY rfl rfl (wq (bQ rfl rfl (by omega) (by omega)) rfl (bO rfl rfl (aB ?_)))))
     refine cR (i + 1, s + 1) (bM rfl (bM rfl eX)) (cV rfl kA) ?_ ?_
     ·exact ⟨⟨by omega, by omega, qU (p := fun _ x => x.n ≤ 1000) hal hx (by omega)⟩, hM1⟩
     ·(show n - (i + 1) < n - i; omega)
    ·refine aK (dE (aC (aA (aY rfl rfl (wq (bQ rfl rfl (by omega) (by omega)) rfl (bO rfl rfl ?_))))))
     refine aB ?_
     refine cR (i + 1, s) (bM rfl (bM rfl eX)) (cV rfl kA) ?_ ?_
     ·exact ⟨⟨by omega, by omega, qU (p := fun _ x => x.n ≤ 1000) hal hx (by omega)⟩, hM1⟩
     ·(show n - (i + 1) < n - i; omega)
  ·refine cQ (dC (cX (eT (aC (aD (aA (dV rfl rfl ?_)))))))
   refine wq (cN Tryz.underlying22 rfl) rfl (cY rfl rfl rfl rfl (wq (aG (.bool (decide _)) rfl) rfl ?_))
   refine dH 33 rfl (fun g33 => ?_) (fun g33 => ?_)
   ·refine aY rfl rfl (cY rfl rfl rfl rfl (wq (bX true (.bool (decide _)) rfl rfl) rfl (wq (aI (.bool (decide _)) rfl) rfl (aB (aC (aO (cD (.bool (decide _)) rfl ?_)))))))
    refine ⟨⟨_, rfl, fun hg => ?_⟩, hM1.below⟩
    first | (cases hg; done) | exact ⟨(by omega), fun x hx => (by obtain ⟨j, hj⟩ := List.getElem?_of_mem hx; exact hal j x (by have := (List.getElem?_eq_some_iff.1 hj).1; omega) hj)⟩
   ·refine aS rfl rfl (aS rfl rfl (wq (bX false (.bool false) rfl rfl) rfl (wq (aI (.bool false) rfl) rfl (aB (aC (aO (cD (.bool false) rfl ?_)))))))
    refine ⟨⟨_, rfl, fun hg => ?_⟩, hM1.below⟩
    first | (cases hg; done) | exact ⟨(by omega), fun x hx => (by obtain ⟨j, hj⟩ := List.getElem?_of_mem hx; exact hal j x (by have := (List.getElem?_eq_some_iff.1 hj).1; omega) hj)⟩
 ·refine aS rfl rfl (aS rfl rfl (wq (bX false (.bool false) rfl rfl) rfl (aB (aC (bY rfl (cQ ?_))))))
  refine dC (cX (eT (aC (aD (aA (dV rfl rfl (wq (cN Tryz.underlying22 rfl) rfl ?_)))))))
  refine cY rfl rfl rfl rfl (wq (aG (.bool (decide _)) rfl) rfl ?_)
  refine dH 33 rfl (fun g33 => ?_) (fun g33 => ?_)
  ·refine aY rfl rfl (cY rfl rfl rfl rfl (wq (bX true (.bool (decide _)) rfl rfl) rfl (wq (aI (.bool (decide _)) rfl) rfl (aB (aC (aO (cD (.bool (decide _)) rfl ?_)))))))
   refine ⟨⟨_, rfl, fun hg => ?_⟩, hM1.below⟩
   first | (cases hg; done) | exact ⟨(by omega), fun x hx => (by obtain ⟨j, hj⟩ := List.getElem?_of_mem hx; exact hal j x (by have := (List.getElem?_eq_some_iff.1 hj).1; omega) hj)⟩
  ·refine aS rfl rfl (aS rfl rfl (wq (bX false (.bool false) rfl rfl) rfl (wq (aI (.bool false) rfl) rfl (aB (aC (aO (cD (.bool false) rfl ?_)))))))
   refine ⟨⟨_, rfl, fun hg => ?_⟩, hM1.below⟩
   first | (cases hg; done) | exact ⟨(by omega), fun x hx => (by obtain ⟨j, hj⟩ := List.getElem?_of_mem hx; exact hal j x (by have := (List.getElem?_eq_some_iff.1 hj).1; omega) hj)⟩
set_option maxHeartbeats 8000000 in
theorem aKf (w : World) (z : ResI) (r r' : Row) (RB : Rd w 1 r.A r.n (z.bytes.map bI)) (RB' : Rd w 1 r'.A r'.n (z.bytes.map bI)) :
  Calls Tryz.prog 57 #[.agg (dB z r).toArray, .agg (dB z r').toArray] w (fun ex w' => ∃ v, ex = .returned v ∧ (fun v w' => v = .bool true ∧ Below w.heap.size w w') v w') := by
 refine aH #[.tmp 4] 31 Tryz.func57 rfl Tryz.results57 Tryz.ntmps57 rfl ?_
 have M0 := Mem.refl w
 refine aD (aA (bE (.agg (List.toArray _)) M0 rfl rfl rfl (fun b1 w1 M1 => (bE (.agg (List.toArray _)) M1 rfl rfl rfl (fun b2 w2 M2 => (wq (aI (.bool false) rfl) rfl (aB (aC (aD (aA (wq (aE 0 aNb rfl) rfl ?_)))))))))))
 refine wq (aL 0 (.int _ _) gY M2 rfl rfl rfl) rfl (wq (aE 0 aNb rfl) rfl (wq (aL 1 (.int _ _) gY M2 rfl rfl rfl) rfl (cY rfl rfl rfl rfl (nU 9 rfl rfl (wq (aG (.bool true) rfl) rfl ?_)))))
 refine wq (aE 1 aNf rfl) rfl (wq (aL 0 (.slice _ _ _) zY M2 rfl rfl rfl) rfl (wq (aE 1 aNf rfl) rfl (wq (aL 1 (.slice _ _ _) zY M2 rfl rfl rfl) rfl (cA bHe rfl rfl (aJa _ _ _ _ z.bytes (RB.mem M2) _ _ _ z.bytes (RB'.mem M2)) ?_))))
 rintro v3 w3 ⟨rfl, hb3⟩
 have M3 := M2.callB hb3
 refine nU 15 rfl rfl (wq (bX true (.bool true) rfl rfl) rfl (wq (aG (.bool true) rfl) rfl (wq (aE 2 aMu rfl) rfl (wq (aL 0 (.int _ _) gY M3 rfl rfl rfl) rfl (wq (aE 2 aMu rfl) rfl ?_)))))
 refine wq (aL 1 (.int _ _) gY M3 rfl rfl rfl) rfl (cY rfl rfl rfl rfl (nU 22 rfl rfl (wq (bX true (.bool true) rfl rfl) rfl (wq (aG (.bool true) rfl) rfl (wq (aE 3 aMr rfl) rfl ?_)))))
 refine wq (aL 0 (.bool _) mD M3 rfl rfl rfl) rfl (wq (aE 3 aMr rfl) rfl (wq (aL 1 (.bool _) mD M3 rfl rfl rfl) rfl (wq (sC _ Tryz.underlying4 rfl rfl rfl) rfl (aV 29 (.bool true) (bv rfl (by simp)) (wq (bX true (.bool true) rfl rfl) rfl ?_)))))
 refine wq (aI (.bool true) rfl) rfl (aB (aC (aO (cD (.bool true) rfl ?_))))
 exact ⟨rfl, M3.below⟩
set_option maxHeartbeats 8000000 in
theorem aJd (w : World) (z : ResI) (r r' : Row) (RB : Rd w 1 r.A r.n (z.bytes.map bI)) (RB' : Rd w 1 r'.A r'.n (z.bytes.map bI)) :
  Calls Tryz.prog 36 #[.agg (dB z r).toArray, .agg (dB z r').toArray] w (fun ex w' => ∃ v, ex = .returned v ∧ (fun v w' => v = .bool true ∧ Below w.heap.size w w') v w') := by
 refine aH #[.tmp 4] 16 Tryz.func36 rfl Tryz.results36 Tryz.ntmps36 rfl ?_
 have M0 := Mem.refl w
 refine aD (aA (bE (.agg (List.toArray _)) M0 rfl rfl rfl (fun b1 w1 M1 => (bE (.agg (List.toArray _)) M1 rfl rfl rfl (fun b2 w2 M2 => (wq (aI (.bool false) rfl) rfl (aB (aC (aD (aA (wq (aE 0 oO rfl) rfl ?_)))))))))))
 refine wq (aL 0 (.int _ _) nO M2 rfl rfl rfl) rfl (wq (aE 1 aMe rfl) rfl (wq (aL 0 (.slice _ _ _) zY M2 rfl rfl rfl) rfl (wq (aE 2 aDh rfl) rfl (wq (aL 0 (.int _ _) gY M2 rfl rfl rfl) rfl (wq (aE 3 aDl rfl) rfl ?_)))))
 refine wq (aL 0 (.bool _) mD M2 rfl rfl rfl) rfl (wq (cF [(0, .int _ _), (1, .slice _ _ _), (2, .int _ _), (3, .bool _)] _ aHj rfl rfl) rfl (aV 13 (.agg (dB z r).toArray) rfl (wq (bA 1 bHy M2 rfl rfl rfl) rfl (cA bHa rfl rfl (aKf _ z r r' (RB.mem M2) (RB'.mem M2)) ?_))))
 rintro v3 w3 ⟨rfl, hb3⟩
 have M3 := M2.callB hb3
 refine wq (aI (.bool true) rfl) rfl (aB (aC (aO (cD (.bool true) rfl ?_))))
 exact ⟨rfl, M3.below⟩
set_option maxHeartbeats 4000000 in
theorem aAu (w : World) (o : OpI) (BA : Option Addr) (nn cc : Nat) :
  Calls Tryz.prog 39 #[.agg (eB o BA nn cc).toArray] w (fun ex w' => ∃ v, ex = .returned v ∧ (fun v w' => v = .agg (eB o BA nn cc).toArray ∧ Below w.heap.size w w') v w') := by
 refine aH #[.cell 2 41] 14 Tryz.func39 rfl Tryz.results39 Tryz.ntmps39 rfl ?_
 have M0 := Mem.refl w
 refine aD (aA (bE (.agg (List.toArray _)) M0 rfl rfl rfl (fun b1 w1 M1 => (aQ aWq M1 rfl rfl (fun b2 w2 M2 => (aB (aC (aD (aA (wq (aE 0 aDk rfl) rfl (wq (aL 0 (.int _ _) gY M2 rfl rfl rfl) rfl ?_)))))))))))
 refine wq (aE 1 aZs rfl) rfl (wq (qB 0 _ bS M2 rfl rfl rfl rfl) rfl (wq (aE 11 aXh rfl) rfl (wq (aL 0 (.int _ _) bZ M2 rfl rfl rfl) rfl (wq (aE 12 aXn rfl) rfl (wq (qB 0 _ bL M2 rfl rfl rfl rfl) rfl ?_)))))
 refine wq (aE 14 aNv rfl) rfl (wq (aL 0 (.slice _ _ _) zY M2 rfl rfl rfl) rfl (wq (cF [(0, .int _ _), (1, .agg (List.toArray _)), (2, .int _ _), (3, .agg (List.toArray _)), (4, .slice _ _ _)] _ nP rfl rfl) rfl (bC 1 _ mH M2 rfl rfl rfl rfl rfl (aR rfl) rfl (fun w3 M3 => ?_))))
 refine aB (aC (aO (eQ 1 mH M3 rfl rfl rfl ?_)))
 exact ⟨rfl, M3.below⟩
set_option maxHeartbeats 16000000 in
theorem uQ (w : World) (A : Option Addr) (n c : Nat) (l : List OpRow) (hl : OpsRd w A n l) (hn : n ≤ 1000000) :
  Calls Tryz.prog 34 #[.slice A n c] w (fun ex w' => ∃ v, ex = .returned v ∧ (fun v w' => ∃ q : Row, v = .slice q.A q.n q.c ∧ aU 41 15 q.A q.n q.c (l.map OpRow.cells) q.e ∧ Mem w [] [q.e] w') v w') := by
 have hlen : l.length = n := by simpa using hl.rd.len
 have hbd := hl.rd.bound
 refine aH #[.tmp 2] 20 Tryz.func34 rfl Tryz.results34 Tryz.ntmps34 rfl ?_
 have M0 := Mem.refl w
 refine aD (aA (fJ rfl rfl (aB (aC (aD (aA (fJ rfl rfl ?_)))))))
 have M1 := M0.dummy default
 refine aB (aC (aD (aD (aA (bO rfl rfl (aB (aC (aT (dL (σ := Nat × Row) [0, 2] (fun (i, q) => [(3, .slice q.A q.n q.c), (4, .int .i64 (i : Int))]) (fun (i, q) w' => (i ≤ n ∧ aU 41 15 q.A q.n q.c ((l.take i).map OpRow.cells) q.e) ∧ Mem w [] [q.e] w') (fun (i, q) => n - i) (0, fR) (bM rfl (bM rfl eX)) (⟨⟨by omega, aU.nil _ _ _⟩, M1⟩) ?_)))))))))
 rintro ⟨i, q⟩ ρ2 w2 ⟨⟨hi, hq⟩, hM2⟩
 have hqn : ((l.take i).map OpRow.cells).length = q.n := hq.1
 rw [List.length_map, List.length_take] at hqn
 refine aD (aD (aA (aY rfl rfl (dV rfl rfl (wq (cN Tryz.underlying22 rfl) rfl (cY rfl rfl rfl rfl (aB (aC ?_))))))))
 refine bB rfl (fun h8 => ?_) (fun h8 => ?_)
 ·obtain ⟨x, hx⟩ := cI (xs := l) (k := i) hlen (by omega)
  refine aK (aC (aD (aT (aA (dV rfl rfl (dV rfl rfl (aY rfl rfl (wq (bR (i) aGi rfl rfl rfl ((hl.rd.mem hM2).below_len (aJ OpRow.cells hx)) ((hl.rd.mem hM2).someK (aJ OpRow.cells hx))) rfl (wq (dZ _ bBu (hl.rd.mem hM2) (aJ OpRow.cells hx) rfl) rfl ?_)))))))))
  refine aV 15 (.agg (eB x.o x.A x.n x.c).toArray) rfl (cA bHb rfl rfl (aAu _ x.o x.A x.n x.c) ?_)
  rintro v3 w3 ⟨rfl, hb3⟩
  have M3 := hM2.callB hb3
  refine cT [.agg (List.toArray _)] [x.cells] rfl bAd M3 rfl rfl rfl rfl (dA rfl) (by decide) (fun b4 w4 M4 => (dR 0 [x.cells] bAd M4 rfl rfl rfl rfl rfl hq rfl (by simp [OpRow.cells, eB, aF, Go.Bil.one]) (cZ.ofMem 1 M4 rfl) (by omega) (fun A5 c5 e5 w5 M5 hR5 => (fJ rfl rfl ?_))))
  refine aB (dE (aC (aA (aY rfl rfl (wq (bQ rfl rfl (by omega) (by omega)) rfl (bO rfl rfl ?_))))))
  refine aB ?_
  refine cR (i + 1, ⟨A5, q.n + 1, c5, e5⟩) (bM rfl (bM rfl eX)) (cV rfl (cV rfl kA)) ?_ ?_
  ·exact ⟨⟨by omega, by rw [cP hx, List.map_append]; exact hR5⟩, M5.keep [true]⟩
  ·(show n - (i + 1) < n - i; omega)
 ·have hin : i = n := by omega
  rw [hin, List.take_of_length_le (by omega)] at hq
  refine cQ (dC (cX (eT (aC (aD (aA (dV rfl rfl ?_)))))))
  refine fJ rfl rfl (aB (aC (aO (cD (.slice _ _ _) rfl ?_))))
  exact ⟨q, rfl, hq, hM2⟩
set_option maxHeartbeats 100000000 in
theorem bIp (w : World) (F : Rd w 2 (some ⟨0, 0, none⟩) 1 [[.int .u32 73856093, .int .u32 19349663]]) (N : Rd w 4 (some ⟨3, 0, none⟩) 1 [cW gT]) :
  Calls Tryz.prog 32 #[] w (fun ex w' => ∃ v, ex = .returned v ∧ (fun v w' => v = .bool true ∧ Below w.heap.size w w') v w') := by
 refine aH #[.tmp 0] 54 Tryz.func32 rfl Tryz.results32 Tryz.ntmps32 rfl ?_
 have M0 := Mem.refl w
 refine aD (aA (wq (aI (.bool false) rfl) rfl (aB (aC (aD (aA (cA aNo rfl rfl (lA _ (F.mem M0) (N.mem M0) none 0 0 [] (OpsRd.none _) (by simp) (by decide)) ?_)))))))
 rintro v1 w1 ⟨wb, r0, rfl, hr0, hM1⟩
 have M1 : Mem _ _ [_, _, _] _ := M0.call0 hM1
 have hr0 : cC 39 r0 [] := hr0
 refine wq (cF [(0, .int _ _)] _ nP rfl rfl) rfl (wq (cF [(0, .int _ _)] _ nP rfl rfl) rfl (wq (cF [(0, .int _ _)] _ nP rfl rfl) rfl (wq (cF [(0, .int _ _)] _ nP rfl rfl) rfl (wq (cF [(0, .int _ _)] _ nP rfl rfl) rfl (cT [.agg (List.toArray _), .agg (List.toArray _), .agg (List.toArray _), .agg (List.toArray _), .agg (List.toArray _)] (tG.map OpRow.cells) rfl bAd M1 rfl rfl rfl rfl (dA rfl) (by decide) (fun b2 w2 M2 => ?_))))))
 have hlit8 := jY (T := 41) (sz := 15) (b := b2) (nn := 5) (tG.map OpRow.cells) (bAm _) rfl (by decide)
 refine cA aMs rfl rfl (oJ _ (F.mem M2) (N.mem M2) _ r0 _ hr0 (M2.ownSeg 0 3) (M2.away 0 3 F (by simp)) (M2.away 0 3 N (by simp)) _ 5 5 tG ⟨(hlit8.rd M2 (aP (i := 3) rfl)), aRb _⟩ (fun x hx => by rw [aRp x hx]; decide) (by decide) (hlit8.awayS M2 0 3 3 rfl rfl) (bJi aRp)) ?_
 rintro v3 w3 ⟨r2, q, rs, rfl, hr2, hq, hoR, hM3⟩
 have M3 : Mem _ _ ([_, _, _, _, _] ++ _) _ := M2.seg 0 3 hM3
 have hqn : (lT (jL [] (fT tG)) rs).length = q.n := hq.1
 rw [pP hoR.len, vV] at hqn
 have hq5 : 5 = q.n := hqn
 obtain ⟨p0, hp0, hs0⟩ := mQ (j := 0) (zs := jL [] (fT tG)) hoR.len (by rw [vV]; rfl)
 obtain ⟨p1, hp1, hs1⟩ := mQ (j := 1) (zs := jL [] (fT tG)) hoR.len (by rw [vV]; rfl)
 obtain ⟨p2, hp2, hs2⟩ := mQ (j := 2) (zs := jL [] (fT tG)) hoR.len (by rw [vV]; rfl)
 obtain ⟨p3, hp3, hs3⟩ := mQ (j := 3) (zs := jL [] (fT tG)) hoR.len (by rw [vV]; rfl)
 obtain ⟨p4, hp4, hs4⟩ := mQ (j := 4) (zs := jL [] (fT tG)) hoR.len (by rw [vV]; rfl)
 have hb1 := hoR.row 1 p1 { gP with bytes := wL [] } hp1 (by rw [vV]; rfl)
 have hb8 : 8 = p1.n := by have h := hb1.1; rwa [List.length_map, aSo] at h
 refine fJ rfl rfl (aB (aC (aD (aD (aA (dV rfl rfl (wq (cN Tryz.underlying63 rfl) rfl (cY rfl rfl rfl rfl (tS 12 rfl (by omega) ?_)))))))))
 refine aB (aC (bY rfl (aK (aC (aD (aA (dV rfl rfl (wq (bR (0) qF rfl rfl rfl ((hq.rd M3 (aP (i := 4) rfl)).below_len (hs0)) ((hq.rd M3 (aP (i := 4) rfl)).someK (hs0))) rfl (wq (bH 0 oO (hq.rd M3 (aP (i := 4) rfl)) (Nat.lt_of_le_of_lt (Nat.zero_le _) ((hq.rd M3 (aP (i := 4) rfl)).below_len (hs0))) rfl) rfl ?_)))))))))
 refine wq (dS (o := 0) (.int _ _) nO (hq.rd M3 (aP (i := 4) rfl)) (hs0) rfl rfl) rfl (cY rfl rfl rfl rfl (nU 17 rfl rfl (wq (aG (.bool true) rfl) rfl (dV rfl rfl (wq (bR (1) qF rfl rfl rfl ((hq.rd M3 (aP (i := 4) rfl)).below_len (hs1)) ((hq.rd M3 (aP (i := 4) rfl)).someK (hs1))) rfl ?_)))))
 refine wq (bH 0 oO (hq.rd M3 (aP (i := 4) rfl)) (Nat.lt_of_le_of_lt (Nat.zero_le _) ((hq.rd M3 (aP (i := 4) rfl)).below_len (hs1))) rfl) rfl (wq (dS (o := 0) (.int _ _) nO (hq.rd M3 (aP (i := 4) rfl)) (hs1) rfl rfl) rfl (cY rfl rfl rfl rfl (nU 23 rfl rfl (wq (bX true (.bool true) rfl rfl) rfl ?_))))
 refine wq (aG (.bool true) rfl) rfl (dV rfl rfl (wq (bR (1) qF rfl rfl rfl ((hq.rd M3 (aP (i := 4) rfl)).below_len (hs1)) ((hq.rd M3 (aP (i := 4) rfl)).someK (hs1))) rfl (wq (bH 1 aMe (hq.rd M3 (aP (i := 4) rfl)) (Nat.lt_of_le_of_lt (Nat.zero_le _) ((hq.rd M3 (aP (i := 4) rfl)).below_len (hs1))) rfl) rfl ?_)))
 refine wq (dS (o := 1) (.slice _ _ _) zY (hq.rd M3 (aP (i := 4) rfl)) (hs1) rfl rfl) rfl (wq (cN Tryz.underlying31 rfl) rfl (cY rfl rfl rfl rfl (nU 31 rfl (by omega) (wq (bX true (.bool true) rfl rfl) rfl (wq (aG (.bool true) rfl) rfl ?_)))))
 refine dV rfl rfl (wq (bR (2) qF rfl rfl rfl ((hq.rd M3 (aP (i := 4) rfl)).below_len (hs2)) ((hq.rd M3 (aP (i := 4) rfl)).someK (hs2))) rfl (wq (bH 0 oO (hq.rd M3 (aP (i := 4) rfl)) (Nat.lt_of_le_of_lt (Nat.zero_le _) ((hq.rd M3 (aP (i := 4) rfl)).below_len (hs2))) rfl) rfl ?_))
 refine wq (dS (o := 0) (.int _ _) nO (hq.rd M3 (aP (i := 4) rfl)) (hs2) rfl rfl) rfl (cY rfl rfl rfl rfl (nU 38 rfl rfl (wq (bX true (.bool true) rfl rfl) rfl (wq (aG (.bool true) rfl) rfl (dV rfl rfl ?_)))))
 refine wq (bR (3) qF rfl rfl rfl ((hq.rd M3 (aP (i := 4) rfl)).below_len (hs3)) ((hq.rd M3 (aP (i := 4) rfl)).someK (hs3))) rfl (wq (bH 0 oO (hq.rd M3 (aP (i := 4) rfl)) (Nat.lt_of_le_of_lt (Nat.zero_le _) ((hq.rd M3 (aP (i := 4) rfl)).below_len (hs3))) rfl) rfl (wq (dS (o := 0) (.int _ _) nO (hq.rd M3 (aP (i := 4) rfl)) (hs3) rfl rfl) rfl ?_))
 refine cY rfl rfl rfl rfl (nU 45 rfl rfl (wq (bX true (.bool true) rfl rfl) rfl (wq (aG (.bool true) rfl) rfl (dV rfl rfl (wq (bR (4) qF rfl rfl rfl ((hq.rd M3 (aP (i := 4) rfl)).below_len (hs4)) ((hq.rd M3 (aP (i := 4) rfl)).someK (hs4))) rfl ?_)))))
 refine wq (dZ _ fS (hq.rd M3 (aP (i := 4) rfl)) (hs4) rfl) rfl (aV 50 (.agg (dB gP p4).toArray) rfl (wq (cF [] _ aHj rfl rfl) rfl (cA bIi rfl rfl (aJd _ gP p4 fR (hoR.rd M3 (bJu bJs) hp4 (by rw [vV]; rfl)) (Rd.nil _ _ _)) ?_)))
 rintro v4 w4 ⟨rfl, hb4⟩
 have M4 := M3.callB hb4
 refine wq (bX true (.bool true) rfl rfl) rfl (wq (aI (.bool true) rfl) rfl (aB (aC (aO (cD (.bool true) rfl ?_)))))
 exact ⟨rfl, M4.below⟩
theorem bHo : ∃ fs, OpT Tryz.prog 4 46 3 39 35 37 31 5 1 fs := ⟨_, Tryz.underlying46, by kernel_rfl, by kernel_rfl, by kernel_rfl, by kernel_rfl, by kernel_rfl, by kernel_rfl, by kernel_rfl, by kernel_rfl, by kernel_rfl, by kernel_rfl, by kernel_rfl, by kernel_rfl, mE⟩
end Go.Proofs.YtaoaknafiegfoaaGreatDoor
