/- Part of the proof of the laws of this seat: P22, W22a, W22b, W22c, R22a, D22, Aw22, Op22. No conditions. -/
import Derived.Test.YtlmcphcgiclanaaGreatDoorK2
import Derived.Test.YtlmcphcgiclanaaGreatDoorK5
import Derived.Test.YtlmcphcgiclanaaGreatDoorK31
import Derived.Test.YtlmcphcgiclanaaGreatDoorK28
import Derived.Test.YtlmcphcgiclanaaGreatDoorK34
import Derived.Test.YtlmcphcgiclanaaGreatDoorK32
import Derived.Test.YtlmcphcgiclanaaGreatDoorK23
import Derived.Test.YtlmcphcgiclanaaGreatDoorK33
import Derived.Test.YtlmcphcgiclanaaGreatDoorK3
set_option linter.unusedVariables false
set_option linter.unusedSimpArgs false
set_option linter.unnecessarySimpa false
namespace Go.Proofs.YtlmcphcgiclanaaGreatDoor
open Go.Bil
open Go.RowKit (Below)
open Go.Proofs
set_option maxHeartbeats 8000000 in
theorem aSq (w : World) (b : Body) (hb : Okb b) (j : Int × Int) (hj1 : -2147483648 ≤ j.1 ∧ j.1 ≤ 2147483647) (hj2 : -2147483648 ≤ j.2 ∧ j.2 ≤ 2147483647) :
  Calls Tryz.prog 87 #[(.agg (aF b).toArray), .agg [.int .i32 j.1, .int .i32 j.2].toArray] w (fun ex w' => ∃ v, ex = .returned v ∧ (fun v w' => (∃ g : Bool, v = .tuple #[(.agg (aF (mM b j)).toArray), .bool g]) ∧ Below w.heap.size w w') v w') := by
 have hv := hb.v
 have hm := hb.m
 have hp1 := bDs hj1 hm
 have hp2 := bDs hj2 hm
 refine aH #[.cell 4 40, .tmp 5] 45 Tryz.func87 rfl Tryz.results87 Tryz.ntmps87 rfl ?_
 have M0 := Mem.refl w
 refine aD (aA (bJ (.agg (List.toArray _)) M0 rfl rfl rfl (fun b1 w1 M1 => (bJ (.agg (List.toArray _)) M1 rfl rfl rfl (fun b2 w2 M2 => (aQ fQ M2 rfl rfl (fun b3 w3 M3 => (wq (aI (.bool false) rfl) rfl (aB (aC (aD (aA ?_))))))))))))
 refine aQ aKq M3 rfl rfl (fun b4 w4 M4 => (dF 3 (.bool false) nG M4 rfl rfl rfl rfl rfl rfl (fun w5 M5 => (aB (aC (aD (aA (wq (aE 8 fD rfl) rfl (wq (aE 0 dP rfl) rfl (wq (aM 0 (.int _ _) aU M5 rfl rfl rfl) rfl ?_))))))))))
 refine wq (bR fK Tryz.underlying2 rfl (kB _ (by omega) (by omega))) rfl (wq (aE 0 dP rfl) rfl (wq (aM 1 (.int _ _) aU M5 rfl rfl rfl) rfl (wq (bR fK Tryz.underlying2 rfl (kB _ (by omega) (by omega))) rfl (wq (aE 4 fE rfl) rfl (wq (aM 0 (.int _ _) aU M5 rfl rfl rfl) rfl ?_)))))
 refine wq (bR fK Tryz.underlying2 rfl (kB _ (by omega) (by omega))) rfl (wq (fS rfl rfl (by omega) (by omega)) rfl (wq (gB rfl rfl (by decide)) rfl (aS 20 (.int .i64 (j.1 * b.mass / 65536)) (iE (lT _)) (wq (bM rfl rfl (by omega) (by omega)) rfl (bI rfl rfl ?_)))))
 refine aB (aC (aD (aA (wq (aE 8 fD rfl) rfl (wq (aE 1 dJ rfl) rfl (wq (aM 0 (.int _ _) aU M5 rfl rfl rfl) rfl (wq (bR fK Tryz.underlying2 rfl (kB _ (by omega) (by omega))) rfl (wq (aE 1 dJ rfl) rfl ?_))))))))
 refine wq (aM 1 (.int _ _) aU M5 rfl rfl rfl) rfl (wq (bR fK Tryz.underlying2 rfl (kB _ (by omega) (by omega))) rfl (wq (aE 4 fE rfl) rfl (wq (aM 0 (.int _ _) aU M5 rfl rfl rfl) rfl (wq (bR fK Tryz.underlying2 rfl (kB _ (by omega) (by omega))) rfl (wq (fS rfl rfl (by omega) (by omega)) rfl ?_)))))
 refine wq (gB rfl rfl (by decide)) rfl (aS 33 (.int .i64 (j.2 * b.mass / 65536)) (iE (lT _)) (wq (bM rfl rfl (by omega) (by omega)) rfl (bI rfl rfl (aB (aC (aD (aA (aV rfl rfl ?_))))))))
 refine cY [.pointer _] [[.pointer (some ⟨b4, 0, none⟩)]] rfl aAw M5 rfl rfl rfl rfl (dG rfl) (by decide) (fun b6 w6 M6 => ?_)
 have hlit36 := jM (T := 133) (sz := 1) (b := b6) (nn := 1) [[.pointer (some ⟨b4, 0, none⟩)]] (by simp) rfl (by decide)
 refine bY aEd rfl rfl (jT _ (b.vx + j.1 * b.mass / 65536) 16777216 ⟨by decide, by decide⟩ b4 _ _ 1 (hlit36.rd M6 (bC (i := 4) rfl)) (hlit36.awayB M6 4 3 rfl rfl rfl) (M6.ownSeg 3 1)) ?_
 rintro v7 w7 ⟨rfl, hM7⟩
 have M7 : Mem _ _ [_, _, _, _, _] _ := M6.seg 3 1 hM7
 refine aV rfl rfl (cY [.pointer _] [[.pointer (some ⟨b4, 0, none⟩)]] rfl aAw M7 rfl rfl rfl rfl (dG rfl) (by decide) (fun b8 w8 M8 => ?_))
 have hlit39 := jM (T := 133) (sz := 1) (b := b8) (nn := 1) [[.pointer (some ⟨b4, 0, none⟩)]] (by simp) rfl (by decide)
 refine bY aEd rfl rfl (jT _ (b.vy + j.2 * b.mass / 65536) 16777216 ⟨by decide, by decide⟩ b4 _ _ 1 (hlit39.rd M8 (bC (i := 5) rfl)) (hlit39.awayB M8 5 3 rfl rfl rfl) (M8.ownSeg 3 1)) ?_
 rintro v9 w9 ⟨rfl, hM9⟩
 have M9 : Mem _ _ [_, _, _, _, _, _] _ := M8.seg 3 1 hM9
 refine wq (cI [(0, .int _ _), (1, .int _ _)] _ eL rfl rfl) rfl (wq (aE 8 fD rfl) rfl (yN 0 _ bH M9 rfl rfl rfl rfl rfl (aP rfl) (Nat.le_of_ble_eq_true rfl) (fun w10 M10 => (aB (aC (aD (bV [(0, 1), (1, 1), (2, 2), (3, 0)] mixed rfl (by kernel_rfl) (fun w11 hb11 hh11 => ?_))))))))
 have M11 := M10.drew hb11 hh11
 refine cB rfl rfl rfl (aY 0 bL M11 rfl rfl rfl) (cB rfl rfl rfl (aM 3 (.bool _) nG M11 rfl rfl rfl) (dR [false, true] rfl (by kernel_rfl) (bB 2 _ bL M11 rfl rfl rfl rfl rfl (aP rfl) rfl (fun w12 M12 => ?_))))
 refine aB (aC ⟨(eQ (bP rfl (aM 3 (.bool _) nG M12 rfl rfl rfl)) dS), ?_⟩)
 refine aZ rfl rfl rfl (fun _ => aI (.bool _) rfl) (cG (aC (aN (aAm (v2 := .bool _) 2 bL M12 rfl rfl rfl rfl ?_))))
 exact ⟨⟨_, rfl⟩, M12.below⟩
set_option maxHeartbeats 4000000 in
theorem yI (w : World) (b : Nat) :
  Calls Tryz.prog 65 #[.pointer (some ⟨b, 0, none⟩)] w (fun ex w' => ∃ v, ex = .returned v ∧ (fun v w' => v = .pointer (some ⟨b, 0, none⟩) ∧ Below w.heap.size w w') v w') := by
 refine aH #[.tmp 2] 8 Tryz.func65 rfl Tryz.results65 Tryz.ntmps65 rfl ?_
 have M0 := Mem.refl w
 refine aD (aA (wq (aI (.pointer _) rfl) rfl (aB (aC (aD (aD (aA (wq (aG (.pointer _) rfl) rfl (wq (dV false Tryz.underlying63 rfl rfl) rfl (aB (aC ?_)))))))))))
 refine cC rfl (aL (aC (aD (aA (wq (aG (.pointer _) rfl) rfl (wq (aK rfl) rfl (wq (aE 0 rM rfl) rfl (wq (aI (.pointer _) rfl) rfl ?_))))))))
 refine aB (aC (aN (cA (.pointer _) rfl ?_)))
 exact ⟨rfl, M0.below⟩
set_option maxHeartbeats 4000000 in
theorem aEz (w : World) :
  Calls Tryz.prog 65 #[.pointer none] w (fun ex w' => ∃ v, ex = .returned v ∧ (fun v w' => v = .pointer none ∧ Below w.heap.size w w') v w') := by
 refine aH #[.tmp 2] 8 Tryz.func65 rfl Tryz.results65 Tryz.ntmps65 rfl ?_
 have M0 := Mem.refl w
 refine aD (aA (wq (aI (.pointer _) rfl) rfl (aB (aC (aD (aD (aA (wq (aG (.pointer _) rfl) rfl (wq (dV true Tryz.underlying63 rfl rfl) rfl (aB (aC ?_)))))))))))
 refine cO rfl (aD (aA (wq (aI (.pointer _) rfl) rfl (aB (aC (aN (cH (cA (.pointer _) rfl ?_))))))))
 exact ⟨rfl, M0.below⟩
set_option maxHeartbeats 4000000 in
theorem aCr (w : World) (x : Body) :
  Calls Tryz.prog 32 #[.pointer none, (.agg (aF x).toArray)] w (fun ex w' => ∃ v, ex = .returned v ∧ (fun v w' => v = .int .i64 1 ∧ Below w.heap.size w w') v w') := by
 refine aH #[.tmp 4] 15 Tryz.func32 rfl Tryz.results32 Tryz.ntmps32 rfl ?_
 have M0 := Mem.refl w
 refine aD (aA (bJ (.agg (List.toArray _)) M0 rfl rfl rfl (fun b1 w1 M1 => (bI rfl rfl (aB (aC (aD (aD (aA (wq (aG (.pointer _) rfl) rfl (bY aJu rfl rfl (aEz _) ?_)))))))))))
 rintro v2 w2 ⟨rfl, hb2⟩
 have M2 := M1.callB hb2
 refine wq (aI (.pointer _) rfl) rfl (aB (aC (aD (aA (wq (aG (.pointer _) rfl) rfl (wq (nC false Tryz.underlying107 rfl rfl) rfl (aB (aC (cC rfl ?_)))))))))
 refine aL (aC (aD (aA (bI rfl rfl (aB (aC (aN (cA (.int _ _) rfl ?_))))))))
 exact ⟨rfl, M2.below⟩
set_option maxHeartbeats 4000000 in
theorem zM (w : World) :
  Calls Tryz.prog 31 #[.pointer none] w (fun ex w' => ∃ v, ex = .returned v ∧ (fun v w' => v = .slice none 0 0 ∧ Below w.heap.size w w') v w') := by
 refine aH #[.tmp 2] 10 Tryz.func31 rfl Tryz.results31 Tryz.ntmps31 rfl ?_
 have M0 := Mem.refl w
 refine aD (aA (fZ rfl rfl (aB (aC (aD (aD (aA (wq (aG (.pointer _) rfl) rfl (wq (dV true Tryz.underlying63 rfl rfl) rfl (aB (aC ?_)))))))))))
 refine cO rfl (aD (aA (fZ rfl rfl (aB (aC (aN (cH (cA (.slice _ _ _) rfl ?_))))))))
 exact ⟨rfl, M0.below⟩
set_option maxHeartbeats 4000000 in
theorem sW (w : World) (b : Nat) (r : StV) (vs : List Body) (hW : dU 40 r vs) (hO : Own [(some b, bc [.slice r.A r.n r.c, .map r.p] 56), r.er, r.em] w) (x : Body) (hx : InB x) :
  Calls Tryz.prog 32 #[.pointer (some ⟨b, 0, none⟩), (.agg (aF x).toArray)] w (fun ex w' => ∃ v, ex = .returned v ∧ (fun v w' => ∃ r' : StV, v = .int .i64 (wH vs x).2 ∧ dU 40 r' ((wH vs x).1) ∧ Mem w (bQ [(some b, bc [.slice r.A r.n r.c, .map r.p] 56), r.er, r.em]) [(some b, bc [.slice r'.A r'.n r'.c, .map r'.p] 56), r'.er, r'.em] w') v w') := by
 obtain ⟨hG, m, hs, hR⟩ := hW
 refine aH #[.tmp 4] 15 Tryz.func32 rfl Tryz.results32 Tryz.ntmps32 rfl ?_
 have M0 := hO.mem
 refine aD (aA (bJ (.agg (List.toArray _)) M0 rfl rfl rfl (fun b1 w1 M1 => (bI rfl rfl (aB (aC (aD (aD (aA (wq (aG (.pointer _) rfl) rfl (bY aJu rfl rfl (yI _ b) ?_)))))))))))
 rintro v2 w2 ⟨rfl, hb2⟩
 have M2 := M1.callB hb2
 refine wq (aI (.pointer _) rfl) rfl (aB (aC (aD (aA (wq (aG (.pointer _) rfl) rfl (wq (nC true Tryz.underlying107 rfl rfl) rfl (aB (aC (cO rfl ?_)))))))))
 refine aD (bV [(0, 0), (1, 0), (2, 0), (3, 1), (4, 2), (5, 0)] mixed rfl (by kernel_rfl) (fun w3 hb3 hh3 => ?_))
 have M3 := M2.drew hb3 hh3
 refine aZ rfl rfl rfl (fun _ => aG (.pointer _) rfl) (aZ rfl rfl rfl (fun _ => aK rfl) (aZ rfl rfl rfl (fun _ => aE 0 pI rfl) (cB rfl rfl rfl (aY 3 bL M3 rfl rfl rfl) (dR [true] rfl (by kernel_rfl) (bY aYq rfl rfl (aKl _ _ _ _ _ _ _ _ _ hs (M3.ownSeg 0 3) x) ?_)))))
 rintro v4 w4 ⟨rfl, A4, n4, c4, p4, er4, em4, hs4, hM4⟩
 have M4 : Mem _ _ [_, _, _, _] _ := M3.seg 0 3 hM4
 refine aB (aC ⟨dS, ?_⟩)
 refine pP rfl rfl rfl (cG (aC (aN (cH (cA (.int _ _) rfl ?_)))))
 obtain ⟨q1, q2⟩ := hR.add x
 exact ⟨⟨A4, n4, c4, p4, er4, em4⟩, by rw [q2], vO hs4 q1 (aWz (hG.inm hR) hx), M4.keep [true, true, true, false]⟩
set_option maxHeartbeats 4000000 in
theorem sF (w : World) (b : Nat) (r : StV) (vs : List Body) (hW : dU 40 r vs) (hO : Own [(some b, bc [.slice r.A r.n r.c, .map r.p] 56), r.er, r.em] w) (key : Int) :
  Calls Tryz.prog 58 #[.pointer (some ⟨b, 0, none⟩), .int .u32 key] w (fun ex w' => ∃ v, ex = .returned v ∧ (fun v w' => ∃ r' : StV, v = .int .i64 (jO vs key).2 ∧ dU 40 r' ((jO vs key).1) ∧ Mem w (bQ [(some b, bc [.slice r.A r.n r.c, .map r.p] 56), r.er, r.em]) [(some b, bc [.slice r'.A r'.n r'.c, .map r'.p] 56), r'.er, r'.em] w') v w') := by
 obtain ⟨hG, m, hs, hR⟩ := hW
 refine aH #[.tmp 4] 15 Tryz.func58 rfl Tryz.results58 Tryz.ntmps58 rfl ?_
 have M0 := hO.mem
 refine aD (aA (bI rfl rfl (aB (aC (aD (aD (aA (wq (aG (.pointer _) rfl) rfl (bY aJu rfl rfl (yI _ b) ?_)))))))))
 rintro v1 w1 ⟨rfl, hb1⟩
 have M1 := M0.callB hb1
 refine wq (aI (.pointer _) rfl) rfl (aB (aC (aD (aA (wq (aG (.pointer _) rfl) rfl (wq (nC true Tryz.underlying107 rfl rfl) rfl (aB (aC (cO rfl ?_)))))))))
 refine aD (aA (wq (aG (.pointer _) rfl) rfl (wq (aK rfl) rfl (wq (aE 0 pI rfl) rfl (aV rfl rfl (bY bDl rfl rfl (aHm _ _ _ _ _ _ _ _ _ hs (M1.ownSeg 0 3) key) ?_))))))
 rintro v2 w2 ⟨rfl, A2, n2, c2, p2, er2, em2, hs2, hM2⟩
 have M2 : Mem _ _ [_, _, _] _ := M1.seg 0 3 hM2
 refine bI rfl rfl (aB (aC (aN (cH (cA (.int _ _) rfl ?_)))))
 obtain ⟨q1, q2⟩ := hR.remove key
 exact ⟨⟨A2, n2, c2, p2, er2, em2⟩, by rw [q2], vO hs2 q1 (aHt hs.keys (hG.inm hR)), M2.keep [true, true, true]⟩
set_option maxHeartbeats 4000000 in
theorem mO (w : World) (b : Nat) (r : StV) (vs : List Body) (hW : dU 40 r vs) (hO : Own [(some b, bc [.slice r.A r.n r.c, .map r.p] 56), r.er, r.em] w) (key : Int) :
  Calls Tryz.prog 37 #[.pointer (some ⟨b, 0, none⟩), .int .u32 key] w (fun ex w' => ∃ v, ex = .returned v ∧ (fun v w' => v = .tuple #[(.agg (aF (iO vs key).body).toArray), .int .i64 (iO vs key).err] ∧ Mem w (bQ [(some b, bc [.slice r.A r.n r.c, .map r.p] 56), r.er, r.em]) [(some b, bc [.slice r.A r.n r.c, .map r.p] 56), r.er, r.em] w') v w') := by
 obtain ⟨hG, m, hs, hR⟩ := hW
 refine aH #[.cell 4 40, .tmp 5] 19 Tryz.func37 rfl Tryz.results37 Tryz.ntmps37 rfl ?_
 have M0 := hO.mem
 refine aD (aA (aQ fQ M0 rfl rfl (fun b1 w1 M1 => (bI rfl rfl (aB (aC (aD (aD (aA (wq (aG (.pointer _) rfl) rfl (bY aJu rfl rfl (yI _ b) ?_)))))))))))
 rintro v2 w2 ⟨rfl, hb2⟩
 have M2 := M1.callB hb2
 refine wq (aI (.pointer _) rfl) rfl (aB (aC (aD (aA (wq (aG (.pointer _) rfl) rfl (wq (nC true Tryz.underlying107 rfl rfl) rfl (aB (aC (cO rfl ?_)))))))))
 refine aD (aA (wq (aG (.pointer _) rfl) rfl (wq (aK rfl) rfl (wq (aE 0 pI rfl) rfl (aV rfl rfl (bY bDw rfl rfl (aUe _ _ _ _ _ _ _ _ _ hs (M2.ownSeg 0 3) key) ?_))))))
 rintro v3 w3 ⟨⟨x3, rfl, hx3⟩, hM3⟩
 have M3 : Mem _ _ [_, _, _, _] _ := M2.seg 0 3 hM3
 have hge := aWu hR key
 obtain rfl : x3 = (iO vs key).body := by rw [hx3, hge]
 have hge2 : (wE m key).2 = (iO vs key).err := by rw [hge]
 refine wq (bE (.agg (List.toArray _)) rfl rfl) rfl (wq (bE (.int _ _) rfl rfl) rfl (aS 17 (.int .i64 (iO vs key).err) (iE hge2) (bB 3 _ bL M3 rfl rfl rfl rfl rfl (aP rfl) rfl (fun w4 M4 => (bI rfl rfl (aB (aC (aN (cH ?_)))))))))
 refine aAm (v2 := .int _ _) 3 bL M4 rfl rfl rfl rfl ?_
 exact ⟨rfl, M4.keep [true, true, true, false]⟩
set_option maxHeartbeats 4000000 in
theorem kW (w : World) (b : Nat) (r : StV) (vs : List Body) (hW : dU 40 r vs) (hO : Own [(some b, bc [.slice r.A r.n r.c, .map r.p] 56), r.er, r.em] w) :
  Calls Tryz.prog 31 #[.pointer (some ⟨b, 0, none⟩)] w (fun ex w' => ∃ v, ex = .returned v ∧ (fun v w' => ∃ q : Row, v = .slice q.A q.n q.c ∧ aW 40 10 q.A q.n q.c ((vs).map aF) q.e ∧ Mem w (bQ [(some b, bc [.slice r.A r.n r.c, .map r.p] 56), r.er, r.em]) [(some b, bc [.slice r.A r.n r.c, .map r.p] 56), r.er, r.em, q.e] w') v w') := by
 have hW' := hW
 obtain ⟨hG, m, hs, hR⟩ := hW
 refine aH #[.tmp 2] 10 Tryz.func31 rfl Tryz.results31 Tryz.ntmps31 rfl ?_
 have M0 := hO.mem
 refine aD (aA (fZ rfl rfl (aB (aC (aD (aD (aA (wq (aG (.pointer _) rfl) rfl (wq (dV false Tryz.underlying63 rfl rfl) rfl (aB (aC ?_)))))))))))
 refine cC rfl (aL (aC (aD (aA (wq (aG (.pointer _) rfl) rfl (wq (aK rfl) rfl (wq (aE 0 rM rfl) rfl (wq (aE 0 pI rfl) rfl ?_))))))))
 refine bY bDu rfl rfl (aJf _ _ _ _ _ _ _ _ _ hs (M0.ownSeg 0 3)) ?_
 rintro v1 w1 ⟨A1, n1, c1, e1, rfl, hR1, hM1⟩
 have M1 : Mem _ _ [_, _, _, _] _ := M0.seg 0 3 hM1
 rw [hR.eq] at hR1
 refine fZ rfl rfl (aB (aC (aN (cA (.slice _ _ _) rfl ?_))))
 exact ⟨⟨A1, n1, c1, e1⟩, rfl, hR1, M1⟩
set_option maxHeartbeats 4000000 in
theorem oV (w : World) (b : Nat) (r : StV) (vs : List Body) (hW : dU 40 r vs) (hO : Own [(some b, bc [.slice r.A r.n r.c, .map r.p] 56), r.er, r.em] w) :
  Calls Tryz.prog 34 #[.pointer (some ⟨b, 0, none⟩)] w (fun ex w' => ∃ v, ex = .returned v ∧ (fun v w' => ∃ q : Row, v = .slice q.A q.n q.c ∧ aW 5 1 q.A q.n q.c ((aFo vs).map cK) q.e ∧ Mem w (bQ [(some b, bc [.slice r.A r.n r.c, .map r.p] 56), r.er, r.em]) [(some b, bc [.slice r.A r.n r.c, .map r.p] 56), r.er, r.em, q.e] w') v w') := by
 have hW' := hW
 obtain ⟨hG, m, hs, hR⟩ := hW
 refine aH #[.tmp 2] 14 Tryz.func34 rfl Tryz.results34 Tryz.ntmps34 rfl ?_
 have M0 := hO.mem
 refine aD (aA (fZ rfl rfl (aB (aC (aD (aD (aA (wq (aG (.pointer _) rfl) rfl (wq (dV false Tryz.underlying63 rfl rfl) rfl (aB (aC ?_)))))))))))
 refine cC rfl (aL (aC (aD (aA (wq (aG (.pointer _) rfl) rfl (bY aBe rfl rfl (kW _ _ r _ hW' (M0.ownSeg 0 3)) ?_))))))
 rintro v1 w1 ⟨q, rfl, hq, hM1⟩
 have M1 : Mem _ _ [_, _, _, _] _ := M0.seg 0 3 hM1
 have hqn : vs.length = q.n := by simpa using hq.1
 have hvl := hG.len
 refine bY bDp rfl rfl (aCf _ _ _ _ vs (hq.rd M1 (bC (i := 3) rfl)) (by omega) hG.chk hG.inb) ?_
 rintro v2 w2 ⟨z, rfl, hz, hM2⟩
 have M2 : Mem _ _ [_, _, _, _, _] _ := M1.call0 hM2
 refine wq (aG (.tuple (List.toArray _)) rfl) rfl (wq (bE (.slice _ _ _) rfl rfl) rfl (wq (bE (.int _ _) rfl rfl) rfl (fZ rfl rfl (bI rfl rfl (aB (aC (aD (aA ?_))))))))
 refine eK rfl rfl (fZ rfl rfl (aB (aC (aN (cA (.slice _ _ _) rfl ?_)))))
 exact ⟨z, rfl, hz, M2.keep [true, true, true, false, true]⟩
set_option maxHeartbeats 8000000 in
theorem pX (w : World) (b : Nat) (r : StV) (vs : List Body) (hW : dU 40 r vs) (hO : Own [(some b, bc [.slice r.A r.n r.c, .map r.p] 56), r.er, r.em] w) (key : Int) (j : Int × Int) (hj1 : -2147483648 ≤ j.1 ∧ j.1 ≤ 2147483647) (hj2 : -2147483648 ≤ j.2 ∧ j.2 ≤ 2147483647) :
  Calls Tryz.prog 56 #[.pointer (some ⟨b, 0, none⟩), .int .u32 key, .agg [.int .i32 j.1, .int .i32 j.2].toArray] w (fun ex w' => ∃ v, ex = .returned v ∧ (fun v w' => ∃ r' : StV, v = .int .i64 (sJ vs key j).2 ∧ dU 40 r' ((sJ vs key j).1) ∧ Mem w (bQ [(some b, bc [.slice r.A r.n r.c, .map r.p] 56), r.er, r.em]) [(some b, bc [.slice r'.A r'.n r'.c, .map r'.p] 56), r'.er, r'.em] w') v w') := by
 have hW' := hW
 obtain ⟨hG, m, hs, hR⟩ := hW
 refine aH #[.tmp 6] 30 Tryz.func56 rfl Tryz.results56 Tryz.ntmps56 rfl ?_
 have M0 := hO.mem
 refine aD (aA (bJ (.agg (List.toArray _)) M0 rfl rfl rfl (fun b1 w1 M1 => (bI rfl rfl (aB (aC (aD (aA (wq (aG (.pointer _) rfl) rfl (aV rfl rfl ?_))))))))))
 refine bY aFs rfl rfl (mO _ _ r vs hW' (M1.ownSeg 0 3) key) ?_
 rintro v2 w2 ⟨rfl, hM2⟩
 have M2 : Mem _ _ [_, _, _, _] _ := M1.seg 0 3 hM2
 refine wq (aG (.tuple (List.toArray _)) rfl) rfl (wq (bE (.agg (List.toArray _)) rfl rfl) rfl (wq (bE (.int _ _) rfl rfl) rfl (aQ fQ M2 rfl rfl (fun b3 w3 M3 => (bB 4 _ bL M3 rfl rfl rfl rfl rfl (aP rfl) rfl (fun w4 M4 => (bI rfl rfl ?_)))))))
 refine aB (aC (aD (aD (aA (aV rfl rfl (cS rfl rfl rfl rfl (aB (aC ?_))))))))
 refine aX rfl (fun h16 => ?_) (fun h16 => ?_)
 ·refine aD (aA (aV rfl rfl (bI rfl rfl (aB (aC (aN (cH (cA (.int _ _) rfl ?_))))))))
  have hf : bZ key vs < 0 := Decidable.byContradiction fun h => h16 (by unfold iO; rw [if_neg h]; rfl)
  exact ⟨r, by rw [aGr j hf]; unfold iO; rw [if_pos hf], by rw [aGr j hf]; exact hW', M4.keep [true, true, true, false, false]⟩
 ·have hf : ¬ bZ key vs < 0 := fun h => h16 (by unfold iO; rw [if_pos h]; decide)
  obtain ⟨i, bb, hbi, _, hfi⟩ := (cW key vs).resolve_left (fun h => hf (by omega))
  have hgb : (iO vs key).body = bb := by unfold iO; rw [if_neg hf]; exact rB hfi hbi
  obtain ⟨z1, z2, z3, z4⟩ := aXn hR hG j hfi hbi
  have hbo := hG.okb bb (List.mem_of_getElem? hbi)
  refine aL (aC (aD (aA (wq (aY 4 bL M4 rfl rfl rfl) rfl (aS 19 ((.agg (aF bb).toArray)) (congrArg (fun x => Value.agg (aF x).toArray) hgb) (wq (aY 3 bH M4 rfl rfl rfl) rfl (bY bEb rfl rfl (aSq _ bb hbo j hj1 hj2) ?_)))))))
  rintro v5 w5 ⟨⟨gg, rfl⟩, hb5⟩
  have M5 := M4.callB hb5
  refine wq (aG (.tuple (List.toArray _)) rfl) rfl (wq (bE (.agg (List.toArray _)) rfl rfl) rfl (wq (bE (.bool _) rfl rfl) rfl (bB 4 _ bL M5 rfl rfl rfl rfl rfl (aP rfl) rfl (fun w6 M6 => (aB (aC (aD (bV [(0, 0), (1, 0), (2, 0), (3, 0), (4, 1), (5, 2), (6, 0)] mixed rfl (by kernel_rfl) (fun w7 hb7 hh7 => ?_)))))))))
  have M7 := M6.drew hb7 hh7
  refine aZ rfl rfl rfl (fun _ => aG (.pointer _) rfl) (aZ rfl rfl rfl (fun _ => aK rfl) (aZ rfl rfl rfl (fun _ => aE 0 rM rfl) (aZ rfl rfl rfl (fun _ => aE 0 pI rfl) (cB rfl rfl rfl (aY 4 bL M7 rfl rfl rfl) (dR [true] rfl (by kernel_rfl) ?_)))))
  refine bY bEe rfl rfl (aUj _ _ _ _ _ _ _ _ _ hs (M7.ownSeg 0 3) (mM bb j)) ?_
  rintro v8 w8 ⟨rfl, A8, n8, c8, p8, er8, em8, hs8, hM8⟩
  have M8 : Mem _ _ [_, _, _, _, _] _ := M7.seg 0 3 hM8
  refine aB (aC ⟨dS, ?_⟩)
  refine pP rfl rfl rfl (cG (aC (aN (cA (.int _ _) rfl ?_))))
  exact ⟨⟨A8, n8, c8, p8, er8, em8⟩, by rw [z3, z2], vO hs8 z1 (aUl (hG.inm hR) (aWf (hG.inb bb (List.mem_of_getElem? hbi)) j)), M8.keep [true, true, true, false, false]⟩
set_option maxHeartbeats 8000000 in
theorem qG (w : World) (b : Nat) (r : StV) (vs : List Body) (hW : dU 40 r vs) (hO : Own [(some b, bc [.slice r.A r.n r.c, .map r.p] 56), r.er, r.em] w) (A : Option Addr) (n c : Nat) (xs : List Body) (RA : Rd w 10 A n (xs.map aF)) (hX : GoodV xs) (hdA : 0 < n → ∀ q off, A = some ⟨q, off, none⟩ → q ∉ bQ [(some b, bc [.slice r.A r.n r.c, .map r.p] 56), r.er, r.em]) :
  Calls Tryz.prog 69 #[.pointer (some ⟨b, 0, none⟩), .slice A n c] w (fun ex w' => ∃ v, ex = .returned v ∧ (fun v w' => ∃ r' : StV, v = .tuple #[] ∧ dU 40 r' (xs) ∧ Mem w (bQ [(some b, bc [.slice r.A r.n r.c, .map r.p] 56), r.er, r.em]) [(some b, bc [.slice r'.A r'.n r'.c, .map r'.p] 56), r'.er, r'.em] w') v w') := by
 have hlen : xs.length = n := by simpa using RA.len
 have hbd := RA.bound
 have hxl := hX.len
 refine aH #[] 23 Tryz.func69 rfl Tryz.results69 Tryz.ntmps69 rfl ?_
 have M0 := hO.mem
 refine aD (aA (wq (aG (.pointer _) rfl) rfl (wq (cI [] _ aOu rfl rfl) rfl (wq (aK rfl) rfl (wq (aE 0 rM rfl) rfl (bB 0 _ bDe M0 rfl rfl rfl rfl rfl (aP rfl) rfl (fun w1 M1 => ?_)))))))
 refine aB (aC (aD (aA ?_)))
 have M2 : Mem _ _ [_, _, _] _ := (((M1.keep [true, false, false]).dummy default).dummy default)
 refine eK rfl rfl (wq (cR Tryz.underlying22 rfl) rfl (aV rfl rfl (aB (aC (aT (dN (σ := Nat × StV) [0, 10, 11] (fun (k, r2) => [(12, .int .i64 (k : Int))]) (fun (k, r2) w' => (k ≤ n ∧ StoreIs 40 r2.A r2.n r2.c r2.p r2.er r2.em (xs.take k)) ∧ Mem w (bQ [(some b, bc [.slice r.A r.n r.c, .map r.p] 56), r.er, r.em]) [(some b, bc [.slice r2.A r2.n r2.c, .map r2.p] 56), r2.er, r2.em] w') (fun (k, r2) => n - k) (0, ⟨none, 0, 0, none, (none, default), (none, default)⟩) (bK rfl fC) (⟨⟨by omega, (StoreIs.nil 40 default default)⟩, M2⟩) ?_))))))
 rintro ⟨k, r2⟩ ρ3 w3 ⟨⟨hk, hr⟩, hM3⟩
 refine aD (aA (cS rfl rfl rfl rfl (aB (aC (aD ?_)))))
 refine aX rfl (fun h13 => ?_) (fun h13 => ?_)
 ·obtain ⟨xb, hxb⟩ := cL (xs := xs) (k := k) hlen (by omega)
  refine aL (aC (aD (aT (aD (aA (wq (bX (k) eX rfl rfl rfl ((RA.memY hM3 hdA).below_len (aJ aF hxb)) ((RA.memY hM3 hdA).someK (aJ aF hxb))) rfl (wq (eB _ bL (RA.memY hM3 hdA) (aJ aF hxb) rfl) rfl (aQ fQ hM3 rfl rfl (fun b4 w4 M4 => ?_)))))))))
  refine bB 3 _ bL M4 rfl rfl rfl rfl rfl (aP rfl) rfl (fun w5 M5 => (aB (aC (bV [(0, 0), (1, 0), (2, 0), (3, 0), (4, 1), (5, 2)] mixed rfl (by kernel_rfl) (fun w6 hb6 hh6 => ?_)))))
  have M6 := M5.drew hb6 hh6
  refine aZ rfl rfl rfl (fun _ => aG (.pointer _) rfl) (aZ rfl rfl rfl (fun _ => aK rfl) (aZ rfl rfl rfl (fun _ => aE 0 rM rfl) (aZ rfl rfl rfl (fun _ => aE 0 pI rfl) (cB rfl rfl rfl (aY 3 bL M6 rfl rfl rfl) (dR [true] rfl (by kernel_rfl) ?_)))))
  refine bY aYq rfl rfl (aKl _ _ _ _ _ _ _ _ _ hr (M6.ownSeg 0 3) xb) ?_
  rintro v7 w7 ⟨rfl, A7, n7, c7, p7, er7, em7, hs7, hM7⟩
  have M7 : Mem _ _ [_, _, _, _] _ := M6.seg 0 3 hM7
  refine aB (aC ⟨dS, ?_⟩)
  refine cG (cV (aC (aA (wq (bM rfl rfl (by omega) (by omega)) rfl (aV rfl rfl (aB ?_))))))
  refine cQ (k + 1, ⟨A7, n7, c7, p7, er7, em7⟩) (bK rfl fC) (cU rfl (cU rfl (cU rfl kE))) ?_ ?_
  ·exact ⟨⟨by omega, by rw [← aFj hX (k + 1) (by omega), wR hxb, aFj hX k (by omega)]; exact hs7⟩, M7.keep [true, true, true, false]⟩
  ·(show n - (k + 1) < n - k; omega)
 ·obtain rfl : k = n := by omega
  rw [List.take_of_length_le (by omega)] at hr
  refine cN (dB (cZ (eZ (iI ?_))))
  exact ⟨r2, rfl, ⟨hX, xs, hr, aSx hX.s⟩, hM3⟩
set_option maxHeartbeats 8000000 in
theorem yB (w : World) (F : Rd w 2 (some ⟨0, 0, none⟩) 1 [[.int .u32 73856093, .int .u32 19349663]]) (N : Rd w 4 (some ⟨3, 0, none⟩) 1 [dD iS]) (b : Nat) (r : StV) (vs : List Body) (hW : dU 40 r vs) (hO : Own [(some b, bc [.slice r.A r.n r.c, .map r.p] 56), r.er, r.em] w) (hdF : 0 < 1 → ∀ q off, (some ⟨0, 0, none⟩ : Option Addr) = some ⟨q, off, none⟩ → q ∉ bQ [(some b, bc [.slice r.A r.n r.c, .map r.p] 56), r.er, r.em]) (hdN : 0 < 1 → ∀ q off, (some ⟨3, 0, none⟩ : Option Addr) = some ⟨q, off, none⟩ → q ∉ bQ [(some b, bc [.slice r.A r.n r.c, .map r.p] 56), r.er, r.em]) :
  Calls Tryz.prog 57 #[.pointer (some ⟨b, 0, none⟩)] w (fun ex w' => ∃ v, ex = .returned v ∧ (fun v w' => ∃ (r' : StV) (t : Nat), v = .agg [.int .i64 (t : Int), .int .i64 ((lY vs).length : Int), .bool (tU vs)].toArray ∧ dU 40 r' (pU vs) ∧ Mem w (bQ [(some b, bc [.slice r.A r.n r.c, .map r.p] 56), r.er, r.em]) [(some b, bc [.slice r'.A r'.n r'.c, .map r'.p] 56), r'.er, r'.em] w') v w') := by
 have hW' := hW
 obtain ⟨hG, m, hs, hR⟩ := hW
 have hvl := hG.len
 refine aH #[.cell 2 27] 18 Tryz.func57 rfl Tryz.results57 Tryz.ntmps57 rfl ?_
 have M0 := hO.mem
 refine aD (aA (aQ wY M0 rfl rfl (fun b1 w1 M1 => (aB (aC (aD (aD (aA (wq (aG (.pointer _) rfl) rfl (wq (dV false Tryz.underlying63 rfl rfl) rfl (aB (aC ?_))))))))))))
 refine cC rfl (aL (aC (aD (aA (wq (aG (.pointer _) rfl) rfl (bY aBe rfl rfl (kW _ _ r _ hW' (M1.ownSeg 0 3)) ?_))))))
 rintro v2 w2 ⟨q, rfl, hq, hM2⟩
 have M2 : Mem _ _ [_, _, _, _, _] _ := M1.seg 0 3 hM2
 have hqn : vs.length = q.n := by simpa using hq.1
 refine bY bDq rfl rfl (aOe _ (F.memY M2 hdF) (N.memY M2 hdN) _ _ _ vs (hq.rd M2 (bC (i := 4) rfl)) hG.okb hG.s (by omega)) ?_
 rintro v3 w3 ⟨ra, ta, rfl, h1ta, h2ta, hra, hM3⟩
 have M3 : Mem _ _ [_, _, _, _, _, _] _ := M2.call0 hM3
 refine wq (aG (.tuple (List.toArray _)) rfl) rfl (wq (bE (.slice _ _ _) rfl rfl) rfl (wq (bE (.agg (List.toArray _)) rfl rfl) rfl (aQ wY M3 rfl rfl (fun b4 w4 M4 => (fZ rfl rfl (bB 6 _ sE M4 rfl rfl rfl rfl rfl (aP rfl) rfl (fun w5 M5 => ?_)))))))
 refine aB (aC (aD (aA (wq (aG (.pointer _) rfl) rfl (eK rfl rfl (bY aXt rfl rfl (qG _ _ r _ hW' (M5.ownSeg 0 3) ra.A ra.n ra.c (pU vs) (hra.rd M5 (bC (i := 5) rfl)) hG.step (hra.awayS M5 0 3 5 rfl rfl)) ?_))))))
 rintro v6 w6 ⟨r2, rfl, hw2, hM6⟩
 have M6 : Mem _ _ [_, _, _, _, _, _, _] _ := M5.seg 0 3 hM6
 refine aB (aC (aD (aA (wq (aY 6 sE M6 rfl rfl rfl) rfl (bB 3 _ sE M6 rfl rfl rfl rfl rfl (aP rfl) rfl (fun w7 M7 => (aB (aC (aN (fP 3 sE M7 rfl rfl rfl ?_))))))))))
 exact ⟨r2, ta, rfl, hw2, M7.keep [true, true, true, false, false, false, false]⟩
set_option maxHeartbeats 8000000 in
theorem pZ (w : World) (b : Nat) (r : StV) (vs : List Body) (hW : dU 40 r vs) (hO : Own [(some b, bc [.slice r.A r.n r.c, .map r.p] 56), r.er, r.em] w) (BA : Option Addr) (nn cc : Nat) (ls : List Int) (RS : Rd w 1 BA nn (ls.map cK)) (hB : kN ls) (hcap : nn ≤ cc) (hnn : nn ≤ 1000000) (hdB : 0 < nn → ∀ q off, BA = some ⟨q, off, none⟩ → q ∉ bQ [(some b, bc [.slice r.A r.n r.c, .map r.p] 56), r.er, r.em]) :
  Calls Tryz.prog 35 #[.pointer (some ⟨b, 0, none⟩), .slice BA nn cc] w (fun ex w' => ∃ v, ex = .returned v ∧ (fun v w' => ∃ r' : StV, v = .int .i64 (lI ls).2 ∧ dU 40 r' (xJ vs ls) ∧ Mem w (bQ [(some b, bc [.slice r.A r.n r.c, .map r.p] 56), r.er, r.em]) [(some b, bc [.slice r'.A r'.n r'.c, .map r'.p] 56), r'.er, r'.em] w') v w') := by
 have hW' := hW
 obtain ⟨hG, m, hs, hR⟩ := hW
 have hlen : ls.length = nn := by simpa using RS.len
 refine aH #[.tmp 4] 20 Tryz.func35 rfl Tryz.results35 Tryz.ntmps35 rfl ?_
 have M0 := hO.mem
 refine aD (aA (bI rfl rfl (aB (aC (aD (aD (aA (wq (aG (.pointer _) rfl) rfl (wq (dV false Tryz.underlying63 rfl rfl) rfl (aB (aC ?_)))))))))))
 refine cC rfl (aL (aC (aD (aA (eK rfl rfl (bY bDb rfl rfl (aCm _ BA nn cc ls (RS.memY M0 hdB) hB hcap (by omega)) ?_))))))
 rintro v1 w1 ⟨q, rfl, hq, hM1⟩
 have M1 : Mem _ _ [_, _, _, _] _ := M0.call0 hM1
 refine wq (aG (.tuple (List.toArray _)) rfl) rfl (wq (bE (.slice _ _ _) rfl rfl) rfl (wq (bE (.int _ _) rfl rfl) rfl (fZ rfl rfl (bI rfl rfl (aB (aC (aD (aD (aA ?_)))))))))
 refine aV rfl rfl (cS rfl rfl rfl rfl (aB (aC ?_)))
 refine aX rfl (fun h15 => ?_) (fun h15 => ?_)
 ·refine aA (wq (aG (.pointer _) rfl) rfl (eK rfl rfl (bY aXt rfl rfl (qG _ _ r _ hW' (M1.ownSeg 0 3) q.A q.n q.c (lI ls).1 (hq.rd M1 (bC (i := 3) rfl)) (GoodV.dec hB (by omega) h15) (hq.awayS M1 0 3 3 rfl rfl)) ?_)))
  rintro v2 w2 ⟨r2, rfl, hw2, hM2⟩
  have M2 : Mem _ _ [_, _, _, _] _ := M1.seg 0 3 hM2
  refine aB (aC (aD (aA (aV rfl rfl (bI rfl rfl (aB (aC (aN (cA (.int _ _) rfl ?_)))))))))
  exact ⟨r2, rfl, by unfold xJ; rw [if_pos h15]; exact hw2, M2.keep [true, true, true, false]⟩
 ·refine aL (aC (aD (aA (aV rfl rfl (bI rfl rfl (aB (aC (aN (cA (.int _ _) rfl ?_)))))))))
  exact ⟨r, rfl, by unfold xJ; rw [if_neg h15]; exact hW', M1.keep [true, true, true, false]⟩
set_option maxHeartbeats 32000000 in
theorem aFp (w : World) (F : Rd w 2 (some ⟨0, 0, none⟩) 1 [[.int .u32 73856093, .int .u32 19349663]]) (N : Rd w 4 (some ⟨3, 0, none⟩) 1 [dD iS]) (b : Nat) (r : StV) (vs : List Body) (hW : dU 40 r vs) (hO : Own [(some b, bc [.slice r.A r.n r.c, .map r.p] 56), r.er, r.em] w) (hdF : 0 < 1 → ∀ q off, (some ⟨0, 0, none⟩ : Option Addr) = some ⟨q, off, none⟩ → q ∉ bQ [(some b, bc [.slice r.A r.n r.c, .map r.p] 56), r.er, r.em]) (hdN : 0 < 1 → ∀ q off, (some ⟨3, 0, none⟩ : Option Addr) = some ⟨q, off, none⟩ → q ∉ bQ [(some b, bc [.slice r.A r.n r.c, .map r.p] 56), r.er, r.em]) (o : OpI) (BA : Option Addr) (nn cc : Nat) (hP : OpOk w o BA nn cc) (hnn : nn ≤ 1000000) (hdB : 0 < nn → ∀ q off, BA = some ⟨q, off, none⟩ → q ∉ bQ [(some b, bc [.slice r.A r.n r.c, .map r.p] 56), r.er, r.em]) :
  Calls Tryz.prog 28 #[.pointer (some ⟨b, 0, none⟩), .agg (vP o BA nn cc).toArray] w (fun ex w' => ∃ v, ex = .returned v ∧ (fun v w' => ∃ (r' : StV) (p : Row), v = .agg (aRy none 0 0 p.A p.n p.c (zF vs o).2).toArray ∧ dU 40 r' (zF vs o).1 ∧ aW 5 1 p.A p.n p.c (((zF vs o).2.bytes).map cK) p.e ∧ Mem w (bQ [(some b, bc [.slice r.A r.n r.c, .map r.p] 56), r.er, r.em]) [(some b, bc [.slice r'.A r'.n r'.c, .map r'.p] 56), r'.er, r'.em, p.e] w') v w') := by
 have hG := hW.1
 have hbl := hP.len
 refine aH #[.cell 4 61] 70 Tryz.func28 rfl Tryz.results28 Tryz.ntmps28 rfl ?_
 have M0 := hO.mem
 refine aD (aA (bJ (.agg (List.toArray _)) M0 rfl rfl rfl (fun b1 w1 M1 => (aQ aSz M1 rfl rfl (fun b2 w2 M2 => (aB (aC (aD (aA (aQ aSz M2 rfl rfl (fun b3 w3 M3 => (aB (aC (aD (aD (aA ?_))))))))))))))))
 refine wq (aE 0 aDe rfl) rfl (wq (aM 3 (.int _ _) mA M3 rfl rfl rfl) rfl (aB (aC (aT (aD (aA (cS rfl rfl rfl rfl (wq (aI (.bool (decide _)) rfl) rfl (aB (aC ?_))))))))))
 refine aX rfl (fun h11 => ?_) (fun h11 => ?_)
 ·refine aA (wq (aG (.pointer _) rfl) rfl (wq (aE 1 aVs rfl) rfl (wq (oB 3 _ bL M3 rfl rfl rfl rfl) rfl (bY aLe rfl rfl (sW _ _ r vs hW (M3.ownSeg 0 3) o.body hP.body) ?_))))
  rintro v4 w4 ⟨r2, rfl, hw2, hM4⟩
  have M4 : Mem _ _ [_, _, _, _, _, _] _ := M3.seg 0 3 hM4
  refine wq (aE 1 sC rfl) rfl (dF 5 (.int _ _) mA M4 rfl rfl rfl rfl rfl rfl (fun w5 M5 => (aB (cV (aC (aD (aA (wq (aY 5 gH M5 rfl rfl rfl) rfl ?_))))))))
  refine bB 4 _ gH M5 rfl rfl rfl rfl rfl (aP rfl) rfl (fun w6 M6 => (aB (aC (aN (fP 4 gH M6 rfl rfl rfl ?_)))))
  exact ⟨r2, ⟨none, 0, 0, (none, default)⟩, by rw [bBi h11]; rfl, by rw [bBi h11]; exact hw2, by rw [bBi h11]; exact aW.nil _ _ _, (M6.keep [true, true, true, false, false, false]).dummy default⟩
 ·refine aD (aA (cS rfl rfl rfl rfl (wq (aI (.bool (decide _)) rfl) rfl (aB (aC ?_)))))
  refine aX rfl (fun h18 => ?_) (fun h18 => ?_)
  ·refine aA (wq (aG (.pointer _) rfl) rfl (wq (aE 11 aCw rfl) rfl (wq (aM 3 (.int _ _) bU M3 rfl rfl rfl) rfl (bY aYh rfl rfl (sF _ _ r vs hW (M3.ownSeg 0 3) o.key) ?_))))
   rintro v7 w7 ⟨r2, rfl, hw2, hM7⟩
   have M7 : Mem _ _ [_, _, _, _, _, _] _ := M3.seg 0 3 hM7
   refine wq (aE 1 sC rfl) rfl (dF 5 (.int _ _) mA M7 rfl rfl rfl rfl rfl rfl (fun w8 M8 => (aB (cV (aC (aD (aA (wq (aY 5 gH M8 rfl rfl rfl) rfl ?_))))))))
   refine bB 4 _ gH M8 rfl rfl rfl rfl rfl (aP rfl) rfl (fun w9 M9 => (aB (aC (aN (fP 4 gH M9 rfl rfl rfl ?_)))))
   exact ⟨r2, ⟨none, 0, 0, (none, default)⟩, by rw [bAc h18]; rfl, by rw [bAc h18]; exact hw2, by rw [bAc h18]; exact aW.nil _ _ _, (M9.keep [true, true, true, false, false, false]).dummy default⟩
  ·refine aD (aA (cS rfl rfl rfl rfl (wq (aI (.bool (decide _)) rfl) rfl (aB (aC ?_)))))
   refine aX rfl (fun h25 => ?_) (fun h25 => ?_)
   ·refine aA (wq (aG (.pointer _) rfl) rfl (wq (aE 11 aCw rfl) rfl (wq (aM 3 (.int _ _) bU M3 rfl rfl rfl) rfl (wq (aE 12 aUh rfl) rfl (wq (oB 3 _ bH M3 rfl rfl rfl rfl) rfl ?_)))))
    refine bY aXq rfl rfl (pX _ _ r vs hW (M3.ownSeg 0 3) o.key o.push hP.p1 hP.p2) ?_
    rintro v10 w10 ⟨r2, rfl, hw2, hM10⟩
    have M10 : Mem _ _ [_, _, _, _, _, _] _ := M3.seg 0 3 hM10
    refine wq (aE 1 sC rfl) rfl (dF 5 (.int _ _) mA M10 rfl rfl rfl rfl rfl rfl (fun w11 M11 => (aB (cV (aC (aD (aA (wq (aY 5 gH M11 rfl rfl rfl) rfl ?_))))))))
    refine bB 4 _ gH M11 rfl rfl rfl rfl rfl (aP rfl) rfl (fun w12 M12 => (aB (aC (aN (fP 4 gH M12 rfl rfl rfl ?_)))))
    exact ⟨r2, ⟨none, 0, 0, (none, default)⟩, by rw [bCd h25]; rfl, by rw [bCd h25]; exact hw2, by rw [bCd h25]; exact aW.nil _ _ _, (M12.keep [true, true, true, false, false, false]).dummy default⟩
   ·refine aD (aA (cS rfl rfl rfl rfl (wq (aI (.bool (decide _)) rfl) rfl (aB (aC ?_)))))
    refine aX rfl (fun h34 => ?_) (fun h34 => ?_)
    ·refine aD (aA (wq (aG (.pointer _) rfl) rfl (bY aYl rfl rfl (yB _ (F.memY M3 hdF) (N.memY M3 hdN) _ r vs hW (M3.ownSeg 0 3) (M3.away 0 3 F hdF) (M3.away 0 3 N hdN)) ?_)))
     rintro v13 w13 ⟨r2, ts, rfl, hw2, hM13⟩
     have M13 : Mem _ _ [_, _, _, _, _, _] _ := M3.seg 0 3 hM13
     refine aQ wY M13 rfl rfl (fun b14 w14 M14 => (bB 6 _ sE M14 rfl rfl rfl rfl rfl (aP rfl) rfl (fun w15 M15 => (aB (aC (aD (aA (wq (aE 1 aCq rfl) rfl (wq (aM 6 (.int _ _) mA M15 rfl rfl rfl) rfl (wq (aE 13 aWq rfl) rfl ?_))))))))))
     refine dF 5 (.int _ _) mA M15 rfl rfl rfl rfl rfl rfl (fun w16 M16 => (aB (aC (aA (wq (aE 2 rR rfl) rfl (wq (aM 6 (.bool _) nG M16 rfl rfl rfl) rfl (wq (aE 14 aVm rfl) rfl (dF 5 (.bool _) nG M16 rfl rfl rfl rfl rfl rfl (fun w17 M17 => ?_)))))))))
     refine aB (cV (aC (aD (aA (wq (aY 5 gH M17 rfl rfl rfl) rfl (bB 4 _ gH M17 rfl rfl rfl rfl rfl (aP rfl) rfl (fun w18 M18 => (aB (aC (aN ?_))))))))))
     refine fP 4 gH M18 rfl rfl rfl ?_
     exact ⟨r2, ⟨none, 0, 0, (none, default)⟩, by rw [bBp h34]; rfl, by rw [bBp h34]; exact hw2, by rw [bBp h34]; exact aW.nil _ _ _, (M18.keep [true, true, true, false, false, false, false]).dummy default⟩
    ·refine aD (aA (cS rfl rfl rfl rfl (wq (aI (.bool (decide _)) rfl) rfl (aB (aC ?_)))))
     refine aX rfl (fun h44 => ?_) (fun h44 => ?_)
     ·refine aA (wq (aG (.pointer _) rfl) rfl (bY aYn rfl rfl (oV _ _ r vs hW (M3.ownSeg 0 3)) ?_))
      rintro v19 w19 ⟨pb, rfl, hpb, hM19⟩
      have M19 : Mem _ _ [_, _, _, _, _, _, _] _ := M3.seg 0 3 hM19
      refine wq (aE 12 aXm rfl) rfl (dF 5 (.slice _ _ _) aTp M19 rfl rfl rfl rfl rfl rfl (fun w20 M20 => (aB (cV (aC (aD (aA (wq (aY 5 gH M20 rfl rfl rfl) rfl ?_))))))))
      refine bB 4 _ gH M20 rfl rfl rfl rfl rfl (aP rfl) rfl (fun w21 M21 => (aB (aC (aN (fP 4 gH M21 rfl rfl rfl ?_)))))
      exact ⟨r, pb, by rw [bAt h44]; rfl, by rw [bAt h44]; exact hW, by rw [bAt h44]; exact hpb, (M21.keep [true, true, true, false, false, false, true])⟩
     ·refine aD (aA (cS rfl rfl rfl rfl (wq (aI (.bool (decide _)) rfl) rfl (aB (aC ?_)))))
      refine aX rfl (fun h49 => ?_) (fun h49 => ?_)
      ·refine aA (wq (aG (.pointer _) rfl) rfl (wq (aE 14 aLh rfl) rfl (wq (aM 3 (.slice _ _ _) aTp M3 rfl rfl rfl) rfl (bY aYf rfl rfl (pZ _ _ r vs hW (M3.ownSeg 0 3) BA nn cc o.bytes (hP.rd.memY M3 hdB) hP.byt hP.cap hnn (M3.away 0 3 hP.rd hdB)) ?_))))
       rintro v22 w22 ⟨r2, rfl, hw2, hM22⟩
       have M22 : Mem _ _ [_, _, _, _, _, _] _ := M3.seg 0 3 hM22
       refine wq (aE 1 sC rfl) rfl (dF 5 (.int _ _) mA M22 rfl rfl rfl rfl rfl rfl (fun w23 M23 => (aB (cV (aC (aD (aA (wq (aY 5 gH M23 rfl rfl rfl) rfl ?_))))))))
       refine bB 4 _ gH M23 rfl rfl rfl rfl rfl (aP rfl) rfl (fun w24 M24 => (aB (aC (aN (fP 4 gH M24 rfl rfl rfl ?_)))))
       exact ⟨r2, ⟨none, 0, 0, (none, default)⟩, by rw [bAo h49]; rfl, by rw [bAo h49]; exact hw2, by rw [bAo h49]; exact aW.nil _ _ _, (M24.keep [true, true, true, false, false, false]).dummy default⟩
      ·refine aD (aA (cS rfl rfl rfl rfl (wq (aI (.bool (decide _)) rfl) rfl (aB (aC ?_)))))
       refine aX rfl (fun h56 => ?_) (fun h56 => ?_)
       ·refine aD (aA (wq (aG (.pointer _) rfl) rfl (wq (aE 11 aCw rfl) rfl (wq (aM 3 (.int _ _) bU M3 rfl rfl rfl) rfl (bY aFs rfl rfl (mO _ _ r vs hW (M3.ownSeg 0 3) o.key) ?_)))))
        rintro v25 w25 ⟨rfl, hM25⟩
        have M25 : Mem _ _ [_, _, _, _, _, _] _ := M3.seg 0 3 hM25
        refine wq (aG (.tuple (List.toArray _)) rfl) rfl (wq (bE (.agg (List.toArray _)) rfl rfl) rfl (wq (bE (.int _ _) rfl rfl) rfl (aQ fQ M25 rfl rfl (fun b26 w26 M26 => (bB 6 _ bL M26 rfl rfl rfl rfl rfl (aP rfl) rfl (fun w27 M27 => (bI rfl rfl ?_)))))))
        refine aB (aC (aD (aA (wq (aY 6 bL M27 rfl rfl rfl) rfl (wq (aE 2 aVo rfl) rfl (yN 5 _ bL M27 rfl rfl rfl rfl rfl (aP rfl) (Nat.le_of_ble_eq_true rfl) (fun w28 M28 => (aB (aC (aA (aV rfl rfl ?_)))))))))))
        refine wq (aE 1 sC rfl) rfl (dF 5 (.int _ _) mA M28 rfl rfl rfl rfl rfl rfl (fun w29 M29 => (aB (cV (aC (aD (aA (wq (aY 5 gH M29 rfl rfl rfl) rfl ?_))))))))
        refine bB 4 _ gH M29 rfl rfl rfl rfl rfl (aP rfl) rfl (fun w30 M30 => (aB (aC (aN (fP 4 gH M30 rfl rfl rfl ?_)))))
        exact ⟨r, ⟨none, 0, 0, (none, default)⟩, by rw [bBf h56, aEo]; rfl, by rw [bBf h56]; exact hW, by rw [bBf h56, aEo]; exact aW.nil _ _ _, (M30.keep [true, true, true, false, false, false, false]).dummy default⟩
       ·refine aL (cV (aC (aD (aA (wq (aY 5 gH M3 rfl rfl rfl) rfl (bB 4 _ gH M3 rfl rfl rfl rfl rfl (aP rfl) rfl (fun w31 M31 => (aB (aC (aN ?_))))))))))
        refine fP 4 gH M31 rfl rfl rfl ?_
        exact ⟨r, ⟨none, 0, 0, (none, default)⟩, by rw [aZf h11 h18 h25 h34 h44 h49 h56]; rfl, by rw [aZf h11 h18 h25 h34 h44 h49 h56]; exact hW, by rw [aZf h11 h18 h25 h34 h44 h49 h56]; exact aW.nil _ _ _, (M31.keep [true, true, true, false, false, false]).dummy default⟩
set_option maxHeartbeats 4000000 in
theorem aNl (w : World) (A : Option Addr) (n c : Nat) (l : List OpRow) (hl : OpsRd w A n l) :
  Calls Tryz.prog 26 #[.slice A n c] w (fun ex w' => ∃ v, ex = .returned v ∧ (fun v w' => (∃ g : Bool, v = .bool g ∧ (g = true → n ≤ 40 ∧ ∀ x ∈ l, x.n ≤ 1000)) ∧ Below w.heap.size w w') v w') := by
 have hlen : l.length = n := by simpa using hl.rd.len
 have hbd := hl.rd.bound
 refine aH #[.tmp 2] 37 Tryz.func26 rfl Tryz.results26 Tryz.ntmps26 rfl ?_
 have M0 := Mem.refl w
 refine aD (aA (wq (aI (.bool false) rfl) rfl (aB (aC (aD (aA (bI rfl rfl (aB (aC (aD (aD (aA (bI rfl rfl ?_)))))))))))))
 refine aB (aC (aT (dN (σ := Nat × Nat) [0] (fun (i, s) => [(3, .int .i64 (s : Int)), (4, .int .i64 (i : Int))]) (fun (i, s) w' => (i ≤ n ∧ s ≤ i ∧ ∀ (j : Nat) (x : OpRow), j < i → l[j]? = some x → x.n ≤ 1000) ∧ Mem w [] [] w') (fun (i, s) => n - i) (0, 0) (bK rfl (bK rfl fC)) (⟨⟨by omega, by omega, fun j x hj => by omega⟩, M0⟩) ?_)))
 rintro ⟨i, s⟩ ρ1 w1 ⟨⟨hi, hs, hal⟩, hM1⟩
 refine aD (aD (aA (aV rfl rfl (eK rfl rfl (wq (cR Tryz.underlying48 rfl) rfl (cS rfl rfl rfl rfl (wq (aG (.bool (decide _)) rfl) rfl ?_)))))))
 refine dE 9 rfl (fun g9 => ?_) (fun g9 => ?_)
 ·refine aV rfl rfl (cS rfl rfl rfl rfl (wq (bN true (.bool (decide _)) rfl rfl) rfl (aB (aC ?_))))
  refine aX rfl (fun h12 => ?_) (fun h12 => ?_)
  ·obtain ⟨x, hx⟩ := cL (xs := l) (k := i) hlen (by omega)
   refine aL (aC (aD (aT (aD (aD (aA (eK rfl rfl (aV rfl rfl (wq (bX (i) aLt rfl rfl rfl ((hl.rd.mem hM1).below_len (aJ OpRow.cells hx)) ((hl.rd.mem hM1).someK (aJ OpRow.cells hx))) rfl (wq (bO 14 aLh (hl.rd.mem hM1) (Nat.lt_of_le_of_lt (Nat.zero_le _) ((hl.rd.mem hM1).below_len (aJ OpRow.cells hx))) rfl) rfl ?_))))))))))
   refine wq (eH (o := 14) (.slice _ _ _) aTp (hl.rd.mem hM1) (aJ OpRow.cells hx) rfl rfl) rfl (wq (cR Tryz.underlying57 rfl) rfl (cS rfl rfl rfl rfl (aB (aC ?_))))
   refine aX rfl (fun h21 => ?_) (fun h21 => ?_)
   ·refine aD (aA (wq (aI (.bool false) rfl) rfl (aB (aC (aN (cH (jC (cH (sQ ?_)))))))))
    refine jC (cH (cA (.bool false) rfl ?_))
    exact ⟨⟨false, rfl, fun h => by cases h⟩, hM1.below⟩
   ·refine aL (aC (aD (aA (eK rfl rfl (aV rfl rfl (wq (bX (i) aLt rfl rfl rfl ((hl.rd.mem hM1).below_len (aJ OpRow.cells hx)) ((hl.rd.mem hM1).someK (aJ OpRow.cells hx))) rfl (wq (bO 0 aDe (hl.rd.mem hM1) (Nat.lt_of_le_of_lt (Nat.zero_le _) ((hl.rd.mem hM1).below_len (aJ OpRow.cells hx))) rfl) rfl ?_)))))))
    refine wq (eH (o := 0) (.int _ _) mA (hl.rd.mem hM1) (aJ OpRow.cells hx) rfl rfl) rfl (cS rfl rfl rfl rfl (aB (aC ?_)))
    refine aX rfl (fun h27 => ?_) (fun h27 => ?_)
    ·refine aA (aV rfl rfl (wq (bM rfl rfl (by omega) (by omega)) rfl (bI rfl rfl (aB (cV ?_)))))
     refine aC (aA (aV rfl rfl (wq (bM rfl rfl (by omega) (by omega)) rfl (bI rfl rfl (aB ?_)))))
     refine cQ (i + 1, s + 1) (bK rfl (bK rfl fC)) (cU rfl kE) ?_ ?_
     ·exact ⟨⟨by omega, by omega, rU (p := fun _ x => x.n ≤ 1000) hal hx (by omega)⟩, hM1⟩
     ·(show n - (i + 1) < n - i; omega)
    ·refine aL (cV (aC (aA (aV rfl rfl (wq (bM rfl rfl (by omega) (by omega)) rfl (bI rfl rfl ?_))))))
     refine aB ?_
     refine cQ (i + 1, s) (bK rfl (bK rfl fC)) (cU rfl kE) ?_ ?_
     ·exact ⟨⟨by omega, by omega, rU (p := fun _ x => x.n ≤ 1000) hal hx (by omega)⟩, hM1⟩
     ·(show n - (i + 1) < n - i; omega)
  ·refine cN (dB (cZ (eZ (aC (aD (aA (eK rfl rfl ?_)))))))
   refine wq (cR Tryz.underlying48 rfl) rfl (cS rfl rfl rfl rfl (wq (aG (.bool (decide _)) rfl) rfl ?_))
   refine dE 33 rfl (fun g33 => ?_) (fun g33 => ?_)
   ·refine aV rfl rfl (cS rfl rfl rfl rfl (wq (bN true (.bool (decide _)) rfl rfl) rfl (wq (aI (.bool (decide _)) rfl) rfl (aB (aC (aN (cA (.bool (decide _)) rfl ?_)))))))
    refine ⟨⟨_, rfl, fun hg => ?_⟩, hM1.below⟩
    first | (cases hg; done) | exact ⟨(by omega), fun x hx => (by obtain ⟨j, hj⟩ := List.getElem?_of_mem hx; exact hal j x (by have := (List.getElem?_eq_some_iff.1 hj).1; omega) hj)⟩
   ·refine aR rfl rfl (aR rfl rfl (wq (bN false (.bool false) rfl rfl) rfl (wq (aI (.bool false) rfl) rfl (aB (aC (aN (cA (.bool false) rfl ?_)))))))
    refine ⟨⟨_, rfl, fun hg => ?_⟩, hM1.below⟩
    first | (cases hg; done) | exact ⟨(by omega), fun x hx => (by obtain ⟨j, hj⟩ := List.getElem?_of_mem hx; exact hal j x (by have := (List.getElem?_eq_some_iff.1 hj).1; omega) hj)⟩
 ·refine aR rfl rfl (aR rfl rfl (wq (bN false (.bool false) rfl rfl) rfl (aB (aC (cC rfl (cN ?_))))))
  refine dB (cZ (eZ (aC (aD (aA (eK rfl rfl (wq (cR Tryz.underlying48 rfl) rfl ?_)))))))
  refine cS rfl rfl rfl rfl (wq (aG (.bool (decide _)) rfl) rfl ?_)
  refine dE 33 rfl (fun g33 => ?_) (fun g33 => ?_)
  ·refine aV rfl rfl (cS rfl rfl rfl rfl (wq (bN true (.bool (decide _)) rfl rfl) rfl (wq (aI (.bool (decide _)) rfl) rfl (aB (aC (aN (cA (.bool (decide _)) rfl ?_)))))))
   refine ⟨⟨_, rfl, fun hg => ?_⟩, hM1.below⟩
   first | (cases hg; done) | exact ⟨(by omega), fun x hx => (by obtain ⟨j, hj⟩ := List.getElem?_of_mem hx; exact hal j x (by have := (List.getElem?_eq_some_iff.1 hj).1; omega) hj)⟩
  ·refine aR rfl rfl (aR rfl rfl (wq (bN false (.bool false) rfl rfl) rfl (wq (aI (.bool false) rfl) rfl (aB (aC (aN (cA (.bool false) rfl ?_)))))))
   refine ⟨⟨_, rfl, fun hg => ?_⟩, hM1.below⟩
   first | (cases hg; done) | exact ⟨(by omega), fun x hx => (by obtain ⟨j, hj⟩ := List.getElem?_of_mem hx; exact hal j x (by have := (List.getElem?_eq_some_iff.1 hj).1; omega) hj)⟩
set_option maxHeartbeats 4000000 in
theorem aEn (w : World) (A : Option Addr) (n c : Nat) :
  Calls Tryz.prog 27 #[.slice A n c] w (fun ex w' => ∃ v, ex = .returned v ∧ (fun v w' => v = .bool (decide ((n : Int) ≤ 30)) ∧ Below w.heap.size w w') v w') := by
 refine aH #[.tmp 2] 6 Tryz.func27 rfl Tryz.results27 Tryz.ntmps27 rfl ?_
 have M0 := Mem.refl w
 refine aD (aA (wq (aI (.bool false) rfl) rfl (aB (aC (aD (aA (eK rfl rfl (wq (cR Tryz.underlying22 rfl) rfl (cS rfl rfl rfl rfl ?_)))))))))
 refine wq (aI (.bool (decide _)) rfl) rfl (aB (aC (aN (cA (.bool (decide _)) rfl ?_))))
 exact ⟨rfl, M0.below⟩
theorem aTs : wH ([] : List Body) ⟨5, 65536, 0, 0, 65536, 0, 0, 0, 0, 0⟩ = (([⟨5, 65536, 0, 0, 65536, 0, 0, 0, 0, 0⟩] : List Body), 0) := by decide
theorem aPe : wH ([⟨5, 65536, 0, 0, 65536, 0, 0, 0, 0, 0⟩] : List Body) ⟨2, 65536, 0, 0, 0, 0, 200000, 0, 0, 0⟩ = (([⟨2, 65536, 0, 0, 0, 0, 200000, 0, 0, 0⟩, ⟨5, 65536, 0, 0, 65536, 0, 0, 0, 0, 0⟩] : List Body), 0) := by decide
theorem aPz : sJ ([⟨2, 65536, 0, 0, 0, 0, 200000, 0, 0, 0⟩, ⟨5, 65536, 0, 0, 65536, 0, 0, 0, 0, 0⟩] : List Body) 5 (64, 1024) = (([⟨2, 65536, 0, 0, 0, 0, 200000, 0, 0, 0⟩, ⟨5, 65536, 0, 0, 65536, 0, 0, 0, 64, 1024⟩] : List Body), 0) := by decide
theorem aHg : lY ([⟨2, 65536, 0, 0, 0, 0, 200000, 0, 0, 0⟩, ⟨5, 65536, 0, 0, 65536, 0, 0, 0, 64, 1024⟩] : List Body) = [] := by decide +kernel
theorem bBy : pU ([⟨2, 65536, 0, 0, 0, 0, 200000, 0, 0, 0⟩, ⟨5, 65536, 0, 0, 65536, 0, 0, 0, 64, 1024⟩] : List Body) = ([⟨2, 65536, 0, 0, 0, 0, 200000, 0, 0, 0⟩, ⟨5, 65536, 0, 0, 65536, 0, 1, 0, 64, 0⟩] : List Body) := by
 unfold pU lM
 rw [aHg]
 decide +kernel
theorem bBq : tU ([⟨2, 65536, 0, 0, 0, 0, 200000, 0, 0, 0⟩, ⟨5, 65536, 0, 0, 65536, 0, 0, 0, 64, 1024⟩] : List Body) = false := by
 unfold tU lM
 rw [aHg]
 decide +kernel
theorem aTm : iO ([⟨2, 65536, 0, 0, 0, 0, 200000, 0, 0, 0⟩, ⟨5, 65536, 0, 0, 65536, 0, 1, 0, 64, 0⟩] : List Body) 5 = ⟨0, ⟨5, 65536, 0, 0, 65536, 0, 1, 0, 64, 0⟩, [], 0, false⟩ := by unfold iO; rw [if_neg (by decide)]; rfl
theorem aPy : lI iX = ([], 13) := vN (fun h => by have := h.1; revert this; decide)
theorem aZq : xJ ([⟨2, 65536, 0, 0, 0, 0, 200000, 0, 0, 0⟩, ⟨5, 65536, 0, 0, 65536, 0, 1, 0, 64, 0⟩] : List Body) iX = ([⟨2, 65536, 0, 0, 0, 0, 200000, 0, 0, 0⟩, ⟨5, 65536, 0, 0, 65536, 0, 1, 0, 64, 0⟩] : List Body) := by unfold xJ; rw [if_neg (by rw [aPy]; decide)]
theorem aPp : jO ([⟨2, 65536, 0, 0, 0, 0, 200000, 0, 0, 0⟩, ⟨5, 65536, 0, 0, 65536, 0, 1, 0, 64, 0⟩] : List Body) 7 = (([⟨2, 65536, 0, 0, 0, 0, 200000, 0, 0, 0⟩, ⟨5, 65536, 0, 0, 65536, 0, 1, 0, 64, 0⟩] : List Body), 11) := by decide
theorem bAf : kN iX := by decide
set_option maxHeartbeats 100000000 in
theorem bEm (w : World) (F : Rd w 2 (some ⟨0, 0, none⟩) 1 [[.int .u32 73856093, .int .u32 19349663]]) (N : Rd w 4 (some ⟨3, 0, none⟩) 1 [dD iS]) :
  Calls Tryz.prog 25 #[] w (fun ex w' => ∃ v, ex = .returned v ∧ (fun v w' => v = .bool true ∧ Below w.heap.size w w') v w') := by
 refine aH #[.tmp 0] 93 Tryz.func25 rfl Tryz.results25 Tryz.ntmps25 rfl ?_
 have M0 := Mem.refl w
 refine aD (aA (wq (aI (.bool false) rfl) rfl (aB (aC (aD (aA (aQ aRo M0 rfl rfl (fun b1 w1 M1 => ?_))))))))
 have M2 := (M1.dummy default).dummy default
 refine aB (aC (aD (aA (wq (aI (.pointer _) rfl) rfl (aB (aC (aD (aA (wq (cI [(0, .int _ _), (1, .int _ _), (3, .int _ _)] _ mQ rfl rfl) rfl (bY aLe rfl rfl (sW _ _ ⟨none, 0, 0, none, (none, default), (none, default)⟩ _ (dU.new 40 default default) (M2.ownSeg 0 3) ⟨5, 65536, 0, 0, 65536, 0, 0, 0, 0, 0⟩ ⟨by decide, by decide, by decide, by decide, by decide, by decide, by decide, by decide, by decide, by decide⟩) ?_))))))))))
 rintro v3 w3 ⟨r1, rfl, hr1, hM3⟩
 have M3 : Mem _ _ [_, _, _] _ := M2.seg 0 3 hM3
 rw [aTs] at hr1
 refine aS 12 (.int .i64 0) (iE (by rw [aTs])) (bI rfl rfl (aB (aC (aD (aA (wq (cI [(0, .int _ _)] _ eL rfl rfl) rfl (wq (cI [(0, .int _ _), (1, .int _ _), (5, .agg (List.toArray _))] _ mQ rfl rfl) rfl (bY aLe rfl rfl (sW _ _ r1 _ hr1 (M3.ownSeg 0 3) ⟨2, 65536, 0, 0, 0, 0, 200000, 0, 0, 0⟩ ⟨by decide, by decide, by decide, by decide, by decide, by decide, by decide, by decide, by decide, by decide⟩) ?_))))))))
 rintro v4 w4 ⟨r2, rfl, hr2, hM4⟩
 have M4 : Mem _ _ [_, _, _] _ := M3.seg 0 3 hM4
 rw [aPe] at hr2
 refine aS 15 (.int .i64 0) (iE (by rw [aPe])) (bI rfl rfl (aB (aC (aD (aA (wq (cI [(0, .int _ _), (1, .int _ _)] _ eL rfl rfl) rfl (bY aXq rfl rfl (pX _ _ r2 _ hr2 (M4.ownSeg 0 3) 5 (64, 1024) (by decide) (by decide)) ?_)))))))
 rintro v5 w5 ⟨r3, rfl, hr3, hM5⟩
 have M5 : Mem _ _ [_, _, _] _ := M4.seg 0 3 hM5
 rw [aPz] at hr3
 refine aS 17 (.int .i64 0) (iE (by rw [aPz])) (bI rfl rfl (aB (aC (aD (aA (bY aYl rfl rfl (yB _ (F.mem M5) (N.mem M5) _ r3 _ hr3 (M5.ownSeg 0 3) (M5.away 0 3 F (by simp)) (M5.away 0 3 N (by simp))) ?_))))))
 rintro v6 w6 ⟨r4, ts, rfl, hr4, hM6⟩
 have M6 : Mem _ _ [_, _, _] _ := M5.seg 0 3 hM6
 rw [bBy] at hr4
 refine aS 18 (.agg [.int .i64 (ts : Int), .int .i64 0, .bool false].toArray) (congrArg Value.agg (by rw [aHg, bBq]; rfl)) (aQ wY M6 rfl rfl (fun b7 w7 M7 => (bB 3 _ sE M7 rfl rfl rfl rfl rfl (aP rfl) rfl (fun w8 M8 => (aB (aC (aD (aA (bY aFs rfl rfl (mO _ _ r4 _ hr4 (M8.ownSeg 0 3) 5) ?_)))))))))
 rintro v9 w9 ⟨rfl, hM9⟩
 have M9 : Mem _ _ [_, _, _, _] _ := M8.seg 0 3 hM9
 refine wq (aG (.tuple (List.toArray _)) rfl) rfl (wq (bE (.agg (List.toArray _)) rfl rfl) rfl (aS 21 ((.agg (aF (⟨5, 65536, 0, 0, 65536, 0, 1, 0, 64, 0⟩ : Body)).toArray)) (congrArg (fun x : ResI => Value.agg (aF x.body).toArray) aTm) (wq (bE (.int _ _) rfl rfl) rfl (aS 22 (.int .i64 0) (iE (by rw [aTm])) ?_))))
 refine aQ fQ M9 rfl rfl (fun b10 w10 M10 => (bB 4 _ bL M10 rfl rfl rfl rfl rfl (aP rfl) rfl (fun w11 M11 => (bI rfl rfl (aB (aC (aD (aA (cY [.int _ _, .int _ _, .int _ _, .int _ _] (iX.map cK) rfl lU M11 rfl rfl rfl rfl (dG rfl) (by decide) (fun b12 w12 M12 => ?_))))))))))
 have hlit23 := jM (T := 5) (b := b12) (iX.map cK) (yF _) rfl (by decide)
 refine aKk 5 Tryz.underlying57 Tryz.underlying5 M12 rfl rfl rfl rfl hlit23 (by decide) (fun e13 w13 M13 hR13 => (bY aYf rfl rfl (pZ _ _ r4 _ hr4 (M13.ownSeg 0 3) _ 4 4 iX (hR13.rd M13 (bC (i := 5) rfl)) bAf (by decide) (by decide) (hR13.awayS M13 0 3 5 rfl rfl)) ?_))
 rintro v14 w14 ⟨r5, rfl, hr5, hM14⟩
 have M14 : Mem _ _ [_, _, _, _, _, _] _ := M13.seg 0 3 hM14
 rw [aZq] at hr5
 refine aS 25 (.int .i64 13) (iE (by rw [aPy])) (bI rfl rfl (aB (aC (aD (aA (bY aYh rfl rfl (sF _ _ r5 _ hr5 (M14.ownSeg 0 3) 7) ?_))))))
 rintro v15 w15 ⟨r6, rfl, hr6, hM15⟩
 have M15 : Mem _ _ [_, _, _, _, _, _] _ := M14.seg 0 3 hM15
 rw [aPp] at hr6
 refine aS 26 (.int .i64 11) (iE (by rw [aPp])) (bI rfl rfl (aB (aC (aD (aA (aV rfl rfl (cS rfl rfl rfl rfl (lQ 28 rfl (by first | decide | omega) ?_))))))))
 refine wq (aG (.bool true) rfl) rfl (aV rfl rfl (cS rfl rfl rfl rfl (lQ 31 rfl (by first | decide | omega) (wq (bN true (.bool true) rfl rfl) rfl (wq (aG (.bool true) rfl) rfl ?_)))))
 refine aV rfl rfl (cS rfl rfl rfl rfl (lQ 35 rfl (by first | decide | omega) (wq (bN true (.bool true) rfl rfl) rfl (wq (aG (.bool true) rfl) rfl (wq (aE 2 rR rfl) rfl ?_)))))
 refine wq (aM 3 (.bool false) nG M15 rfl rfl rfl) rfl (wq (jJ true rfl rfl) rfl (wq (bN true (.bool true) rfl rfl) rfl (wq (aG (.bool true) rfl) rfl (wq (aE 1 aCq rfl) rfl (wq (aM 3 (.int _ _) mA M15 rfl rfl rfl) rfl ?_)))))
 refine cS rfl rfl rfl rfl (lQ 45 rfl rfl (wq (bN true (.bool true) rfl rfl) rfl (wq (aG (.bool true) rfl) rfl (wq (aE 6 fW rfl) rfl (wq (oB 4 _ bH M15 rfl rfl rfl rfl) rfl ?_)))))
 refine wq (cI [(0, .int _ _)] _ eL rfl rfl) rfl (wq (aTf (aYe _ _ _ _) rfl rfl) rfl (lQ 51 rfl (by decide) (wq (bN true (.bool true) rfl rfl) rfl (wq (aG (.bool true) rfl) rfl (wq (aE 8 fD rfl) rfl ?_)))))
 refine wq (oB 4 _ bH M15 rfl rfl rfl rfl) rfl (wq (cI [(0, .int _ _)] _ eL rfl rfl) rfl (wq (aTf (aYe _ _ _ _) rfl rfl) rfl (lQ 57 rfl (by decide) (wq (bN true (.bool true) rfl rfl) rfl (wq (aG (.bool true) rfl) rfl ?_)))))
 refine aV rfl rfl (cS rfl rfl rfl rfl (lQ 61 rfl (by first | decide | omega) (wq (bN true (.bool true) rfl rfl) rfl (wq (aG (.bool true) rfl) rfl (aV rfl rfl ?_)))))
 refine cS rfl rfl rfl rfl (lQ 65 rfl (by first | decide | omega) (wq (bN true (.bool true) rfl rfl) rfl (wq (aG (.bool true) rfl) rfl (aV rfl rfl (cS rfl rfl rfl rfl ?_)))))
 refine lQ 69 rfl (by first | decide | omega) (wq (bN true (.bool true) rfl rfl) rfl (wq (aG (.bool true) rfl) rfl (bY aYn rfl rfl (oV _ _ r6 _ hr6 (M15.ownSeg 0 3)) ?_)))
 rintro v16 w16 ⟨pb, rfl, hpb, hM16⟩
 have M16 : Mem _ _ [_, _, _, _, _, _, _] _ := M15.seg 0 3 hM16
 have hsn : 88 = pb.n := by have h := hpb.1; rwa [List.length_map, aTd] at h
 refine wq (cR Tryz.underlying57 rfl) rfl (cS rfl rfl rfl rfl (lQ 74 rfl (by omega) (wq (bN true (.bool true) rfl rfl) rfl (wq (aG (.bool true) rfl) rfl (bY aBe rfl rfl (kW _ _ r6 _ hr6 (M16.ownSeg 0 3)) ?_)))))
 rintro v17 w17 ⟨qv, rfl, hqv, hM17⟩
 have M17 : Mem _ _ [_, _, _, _, _, _, _, _] _ := M16.seg 0 3 hM17
 have hqv2 : 2 = qv.n := by simpa using hqv.1
 refine wq (cR Tryz.underlying22 rfl) rfl (cS rfl rfl rfl rfl (lQ 79 rfl (by omega) (wq (bN true (.bool true) rfl rfl) rfl (wq (aG (.bool true) rfl) rfl (wq (aG (.pointer _) rfl) rfl ?_)))))
 refine wq (cI [] _ mQ rfl rfl) rfl (bY aLe rfl rfl (aCr _ ⟨0, 0, 0, 0, 0, 0, 0, 0, 0, 0⟩) ?_)
 rintro v18 w18 ⟨rfl, hb18⟩
 have M18 := M17.callB hb18
 refine cS rfl rfl rfl rfl (lQ 85 rfl (by first | decide | omega) (wq (bN true (.bool true) rfl rfl) rfl (wq (aG (.bool true) rfl) rfl (wq (aG (.pointer _) rfl) rfl (bY aBe rfl rfl (zM _) ?_)))))
 rintro v19 w19 ⟨rfl, hb19⟩
 have M19 := M18.callB hb19
 refine wq (cR Tryz.underlying22 rfl) rfl (cS rfl rfl rfl rfl (lQ 91 rfl rfl (wq (bN true (.bool true) rfl rfl) rfl (wq (aI (.bool true) rfl) rfl (aB (aC (aN ?_)))))))
 refine cA (.bool true) rfl ?_
 exact ⟨rfl, M19.below⟩
theorem opT : ∃ fs, OpT Tryz.prog 4 59 3 40 36 38 57 5 1 fs := ⟨_, Tryz.underlying59, by kernel_rfl, by kernel_rfl, by kernel_rfl, by kernel_rfl, by kernel_rfl, by kernel_rfl, by kernel_rfl, by kernel_rfl, by kernel_rfl, by kernel_rfl, by kernel_rfl, by kernel_rfl, lU⟩
end Go.Proofs.YtlmcphcgiclanaaGreatDoor
