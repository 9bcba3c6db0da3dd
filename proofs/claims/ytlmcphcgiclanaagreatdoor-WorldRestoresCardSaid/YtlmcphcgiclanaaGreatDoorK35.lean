/- Part of the proof of the laws of this seat: P22, W22a, W22b, W22c, R22a, D22, Aw22, Op22. No conditions. -/
import Derived.Test.YtlmcphcgiclanaaGreatDoorK2
import Derived.Test.YtlmcphcgiclanaaGreatDoorK5
import Derived.Test.YtlmcphcgiclanaaGreatDoorK31
import Derived.Test.YtlmcphcgiclanaaGreatDoorK28
import Derived.Test.YtlmcphcgiclanaaGreatDoorK34
import Derived.Test.YtlmcphcgiclanaaGreatDoorK32
import Derived.Test.YtlmcphcgiclanaaGreatDoorK23
import Derived.Test.YtlmcphcgiclanaaGreatDoorK33
import Derived.Test.YtlmcphcgiclanaaGreatDoorK3
set_option linter.unusedVariables false
set_option linter.unusedSimpArgs false
set_option linter.unnecessarySimpa false
namespace Go.Proofs.YtlmcphcgiclanaaGreatDoor
open Go.Bil
open Go.RowKit (Below)
open Go.Proofs
set_option maxHeartbeats 8000000 in
theorem aSg (w : World) (b : Body) (hb : Okb b) (j : Int × Int) (hj1 : -2147483648 ≤ j.1 ∧ j.1 ≤ 2147483647) (hj2 : -2147483648 ≤ j.2 ∧ j.2 ≤ 2147483647) :
  Calls Tryz.prog 87 #[(.agg (aF b).toArray), .agg [.int .i32 j.1, .int .i32 j.2].toArray] w (fun ex w' => ∃ v, ex = .returned v ∧ (fun v w' => (∃ g : Bool, v = .tuple #[(.agg (aF (mT b j)).toArray), .bool g]) ∧ Below w.heap.size w w') v w') := by
 have hv := hb.v
 have hm := hb.m
 have hp1 := bFj hj1 hm
 have hp2 := bFj hj2 hm
 refine aH #[.cell 4 40, .tmp 5] 45 Tryz.func87 rfl Tryz.results87 Tryz.ntmps87 rfl ?_
 have M0 := Mem.refl w
 refine aD (aA (bK (.agg (List.toArray _)) M0 rfl rfl rfl (fun b1 w1 M1 => (bK (.agg (List.toArray _)) M1 rfl rfl rfl (fun b2 w2 M2 => (aR gI M2 rfl rfl (fun b3 w3 M3 => (wq (aI (.bool false) rfl) rfl (aB (aC (aD (aA ?_))))))))))))
 refine aR aLq M3 rfl rfl (fun b4 w4 M4 => (dH 3 (.bool false) mL M4 rfl rfl rfl rfl rfl rfl (fun w5 M5 => (aB (aC (aD (aA (wq (aE 8 fG rfl) rfl (wq (aE 0 dU rfl) rfl (wq (aM 0 (.int _ _) aU M5 rfl rfl rfl) rfl ?_))))))))))
 refine wq (bU fL Tryz.underlying2 rfl (kJ _ (by omega) (by omega))) rfl (wq (aE 0 dU rfl) rfl (wq (aM 1 (.int _ _) aU M5 rfl rfl rfl) rfl (wq (bU fL Tryz.underlying2 rfl (kJ _ (by omega) (by omega))) rfl (wq (aE 4 fF rfl) rfl (wq (aM 0 (.int _ _) aU M5 rfl rfl rfl) rfl ?_)))))
 refine wq (bU fL Tryz.underlying2 rfl (kJ _ (by omega) (by omega))) rfl (wq (fT rfl rfl (by omega) (by omega)) rfl (wq (gH rfl rfl (by decide)) rfl (aT 20 (.int .i64 (j.1 * b.mass / 65536)) (iE (mE _)) (wq (bM rfl rfl (by omega) (by omega)) rfl (bJ rfl rfl ?_)))))
 refine aB (aC (aD (aA (wq (aE 8 fG rfl) rfl (wq (aE 1 dN rfl) rfl (wq (aM 0 (.int _ _) aU M5 rfl rfl rfl) rfl (wq (bU fL Tryz.underlying2 rfl (kJ _ (by omega) (by omega))) rfl (wq (aE 1 dN rfl) rfl ?_))))))))
 refine wq (aM 1 (.int _ _) aU M5 rfl rfl rfl) rfl (wq (bU fL Tryz.underlying2 rfl (kJ _ (by omega) (by omega))) rfl (wq (aE 4 fF rfl) rfl (wq (aM 0 (.int _ _) aU M5 rfl rfl rfl) rfl (wq (bU fL Tryz.underlying2 rfl (kJ _ (by omega) (by omega))) rfl (wq (fT rfl rfl (by omega) (by omega)) rfl ?_)))))
 refine wq (gH rfl rfl (by decide)) rfl (aT 33 (.int .i64 (j.2 * b.mass / 65536)) (iE (mE _)) (wq (bM rfl rfl (by omega) (by omega)) rfl (bJ rfl rfl (aB (aC (aD (aA (aV rfl rfl ?_))))))))
 refine dC [.pointer _] [[.pointer (some ⟨b4, 0, none⟩)]] rfl aAu M5 rfl rfl rfl rfl (dI rfl) (by decide) (fun b6 w6 M6 => ?_)
 have hlit36 := jR (T := 133) (sz := 1) (b := b6) (nn := 1) [[.pointer (some ⟨b4, 0, none⟩)]] (by simp) rfl (by decide)
 refine bV aHg rfl rfl (kE _ (b.vx + j.1 * b.mass / 65536) 16777216 ⟨by decide, by decide⟩ b4 _ _ 1 (hlit36.rd M6 (aZ (i := 4) rfl)) (hlit36.awayB M6 4 3 rfl rfl rfl) (M6.ownSeg 3 1)) ?_
 rintro v7 w7 ⟨rfl, hM7⟩
 have M7 : Mem _ _ [_, _, _, _, _] _ := M6.seg 3 1 hM7
 refine aV rfl rfl (dC [.pointer _] [[.pointer (some ⟨b4, 0, none⟩)]] rfl aAu M7 rfl rfl rfl rfl (dI rfl) (by decide) (fun b8 w8 M8 => ?_))
 have hlit39 := jR (T := 133) (sz := 1) (b := b8) (nn := 1) [[.pointer (some ⟨b4, 0, none⟩)]] (by simp) rfl (by decide)
 refine bV aHg rfl rfl (kE _ (b.vy + j.2 * b.mass / 65536) 16777216 ⟨by decide, by decide⟩ b4 _ _ 1 (hlit39.rd M8 (aZ (i := 5) rfl)) (hlit39.awayB M8 5 3 rfl rfl rfl) (M8.ownSeg 3 1)) ?_
 rintro v9 w9 ⟨rfl, hM9⟩
 have M9 : Mem _ _ [_, _, _, _, _, _] _ := M8.seg 3 1 hM9
 refine wq (cN [(0, .int _ _), (1, .int _ _)] _ eO rfl rfl) rfl (wq (aE 8 fG rfl) rfl (xM 0 _ bH M9 rfl rfl rfl rfl rfl (aQ rfl) (Nat.le_of_ble_eq_true rfl) (fun w10 M10 => (aB (aC (aD (bQ [(0, 1), (1, 1), (2, 2), (3, 0)] mixed rfl (by kernel_rfl) (fun w11 hb11 hh11 => ?_))))))))
 have M11 := M10.drew hb11 hh11
 refine cD rfl rfl rfl (bA 0 bP M11 rfl rfl rfl) (cD rfl rfl rfl (aM 3 (.bool _) mL M11 rfl rfl rfl) (dP [false, true] rfl (by kernel_rfl) (bC 2 _ bP M11 rfl rfl rfl rfl rfl (aQ rfl) rfl (fun w12 M12 => ?_))))
 refine aB (aC ⟨(eK (bN rfl (aM 3 (.bool _) mL M12 rfl rfl rfl)) dQ), ?_⟩)
 refine aY rfl rfl rfl (fun _ => aI (.bool _) rfl) (cF (aC (aN (aCe (v2 := .bool _) 2 bP M12 rfl rfl rfl rfl ?_))))
 exact ⟨⟨_, rfl⟩, M12.below⟩
set_option maxHeartbeats 4000000 in
theorem xQ (w : World) (b : Nat) :
  Calls Tryz.prog 65 #[.pointer (some ⟨b, 0, none⟩)] w (fun ex w' => ∃ v, ex = .returned v ∧ (fun v w' => v = .pointer (some ⟨b, 0, none⟩) ∧ Below w.heap.size w w') v w') := by
 refine aH #[.tmp 2] 8 Tryz.func65 rfl Tryz.results65 Tryz.ntmps65 rfl ?_
 have M0 := Mem.refl w
 refine aD (aA (wq (aI (.pointer _) rfl) rfl (aB (aC (aD (aD (aA (wq (aG (.pointer _) rfl) rfl (wq (eB false Tryz.underlying63 rfl rfl) rfl (aB (aC ?_)))))))))))
 refine bX rfl (aK (aC (aD (aA (wq (aG (.pointer _) rfl) rfl (wq (aL rfl) rfl (wq (aE 0 sG rfl) rfl (wq (aI (.pointer _) rfl) rfl ?_))))))))
 refine aB (aC (aN (cC (.pointer _) rfl ?_)))
 exact ⟨rfl, M0.below⟩
set_option maxHeartbeats 4000000 in
theorem aHr (w : World) :
  Calls Tryz.prog 65 #[.pointer none] w (fun ex w' => ∃ v, ex = .returned v ∧ (fun v w' => v = .pointer none ∧ Below w.heap.size w w') v w') := by
 refine aH #[.tmp 2] 8 Tryz.func65 rfl Tryz.results65 Tryz.ntmps65 rfl ?_
 have M0 := Mem.refl w
 refine aD (aA (wq (aI (.pointer _) rfl) rfl (aB (aC (aD (aD (aA (wq (aG (.pointer _) rfl) rfl (wq (eB true Tryz.underlying63 rfl rfl) rfl (aB (aC ?_)))))))))))
 refine cO rfl (aD (aA (wq (aI (.pointer _) rfl) rfl (aB (aC (aN (cE (cC (.pointer _) rfl ?_))))))))
 exact ⟨rfl, M0.below⟩
set_option maxHeartbeats 4000000 in
theorem aCx (w : World) (x : Body) :
  Calls Tryz.prog 32 #[.pointer none, (.agg (aF x).toArray)] w (fun ex w' => ∃ v, ex = .returned v ∧ (fun v w' => v = .int .i64 1 ∧ Below w.heap.size w w') v w') := by
 refine aH #[.tmp 4] 15 Tryz.func32 rfl Tryz.results32 Tryz.ntmps32 rfl ?_
 have M0 := Mem.refl w
 refine aD (aA (bK (.agg (List.toArray _)) M0 rfl rfl rfl (fun b1 w1 M1 => (bJ rfl rfl (aB (aC (aD (aD (aA (wq (aG (.pointer _) rfl) rfl (bV aMb rfl rfl (aHr _) ?_)))))))))))
 rintro v2 w2 ⟨rfl, hb2⟩
 have M2 := M1.callB hb2
 refine wq (aI (.pointer _) rfl) rfl (aB (aC (aD (aA (wq (aG (.pointer _) rfl) rfl (wq (nO false Tryz.underlying107 rfl rfl) rfl (aB (aC (bX rfl ?_)))))))))
 refine aK (aC (aD (aA (bJ rfl rfl (aB (aC (aN (cC (.int _ _) rfl ?_))))))))
 exact ⟨rfl, M2.below⟩
set_option maxHeartbeats 4000000 in
theorem aAg (w : World) :
  Calls Tryz.prog 31 #[.pointer none] w (fun ex w' => ∃ v, ex = .returned v ∧ (fun v w' => v = .slice none 0 0 ∧ Below w.heap.size w w') v w') := by
 refine aH #[.tmp 2] 10 Tryz.func31 rfl Tryz.results31 Tryz.ntmps31 rfl ?_
 have M0 := Mem.refl w
 refine aD (aA (gC rfl rfl (aB (aC (aD (aD (aA (wq (aG (.pointer _) rfl) rfl (wq (eB true Tryz.underlying63 rfl rfl) rfl (aB (aC ?_)))))))))))
 refine cO rfl (aD (aA (gC rfl rfl (aB (aC (aN (cE (cC (.slice _ _ _) rfl ?_))))))))
 exact ⟨rfl, M0.below⟩
set_option maxHeartbeats 4000000 in
theorem nA (w : World) (b : Nat) (r : StV) (vs : List Body) (hW : dJ 40 r vs) (hO : Own [(some b, bc [.slice r.A r.n r.c, .map r.p] 56), r.er, r.em] w) (x : Body) (hx : InB x) :
  Calls Tryz.prog 32 #[.pointer (some ⟨b, 0, none⟩), (.agg (aF x).toArray)] w (fun ex w' => ∃ v, ex = .returned v ∧ (fun v w' => ∃ r' : StV, v = .int .i64 (oJ vs x).2 ∧ dJ 40 r' ((oJ vs x).1) ∧ Mem w (bS [(some b, bc [.slice r.A r.n r.c, .map r.p] 56), r.er, r.em]) [(some b, bc [.slice r'.A r'.n r'.c, .map r'.p] 56), r'.er, r'.em] w') v w') := by
 obtain ⟨hG, m, hs, hR⟩ := hW
 refine aH #[.tmp 4] 15 Tryz.func32 rfl Tryz.results32 Tryz.ntmps32 rfl ?_
 have M0 := hO.mem
 refine aD (aA (bK (.agg (List.toArray _)) M0 rfl rfl rfl (fun b1 w1 M1 => (bJ rfl rfl (aB (aC (aD (aD (aA (wq (aG (.pointer _) rfl) rfl (bV aMb rfl rfl (xQ _ b) ?_)))))))))))
 rintro v2 w2 ⟨rfl, hb2⟩
 have M2 := M1.callB hb2
 refine wq (aI (.pointer _) rfl) rfl (aB (aC (aD (aA (wq (aG (.pointer _) rfl) rfl (wq (nO true Tryz.underlying107 rfl rfl) rfl (aB (aC (cO rfl ?_)))))))))
 refine aD (bQ [(0, 0), (1, 0), (2, 0), (3, 1), (4, 2), (5, 0)] mixed rfl (by kernel_rfl) (fun w3 hb3 hh3 => ?_))
 have M3 := M2.drew hb3 hh3
 refine aY rfl rfl rfl (fun _ => aG (.pointer _) rfl) (aY rfl rfl rfl (fun _ => aL rfl) (aY rfl rfl rfl (fun _ => aE 0 pZ rfl) (cD rfl rfl rfl (bA 3 bP M3 rfl rfl rfl) (dP [true] rfl (by kernel_rfl) (bV aZa rfl rfl (aMa _ _ _ _ _ _ _ _ _ hs (M3.ownSeg 0 3) x) ?_)))))
 rintro v4 w4 ⟨rfl, A4, n4, c4, p4, er4, em4, hs4, hM4⟩
 have M4 : Mem _ _ [_, _, _, _] _ := M3.seg 0 3 hM4
 refine aB (aC ⟨dQ, ?_⟩)
 refine pX rfl rfl rfl (cF (aC (aN (cE (cC (.int _ _) rfl ?_)))))
 obtain ⟨q1, q2⟩ := hR.add x
 exact ⟨⟨A4, n4, c4, p4, er4, em4⟩, by rw [q2], wJ hs4 q1 (aXb (hG.inm hR) hx), M4.keep [true, true, true, false]⟩
set_option maxHeartbeats 4000000 in
theorem tB (w : World) (b : Nat) (r : StV) (vs : List Body) (hW : dJ 40 r vs) (hO : Own [(some b, bc [.slice r.A r.n r.c, .map r.p] 56), r.er, r.em] w) (key : Int) :
  Calls Tryz.prog 58 #[.pointer (some ⟨b, 0, none⟩), .int .u32 key] w (fun ex w' => ∃ v, ex = .returned v ∧ (fun v w' => ∃ r' : StV, v = .int .i64 (jT vs key).2 ∧ dJ 40 r' ((jT vs key).1) ∧ Mem w (bS [(some b, bc [.slice r.A r.n r.c, .map r.p] 56), r.er, r.em]) [(some b, bc [.slice r'.A r'.n r'.c, .map r'.p] 56), r'.er, r'.em] w') v w') := by
 obtain ⟨hG, m, hs, hR⟩ := hW
 refine aH #[.tmp 4] 15 Tryz.func58 rfl Tryz.results58 Tryz.ntmps58 rfl ?_
 have M0 := hO.mem
 refine aD (aA (bJ rfl rfl (aB (aC (aD (aD (aA (wq (aG (.pointer _) rfl) rfl (bV aMb rfl rfl (xQ _ b) ?_)))))))))
 rintro v1 w1 ⟨rfl, hb1⟩
 have M1 := M0.callB hb1
 refine wq (aI (.pointer _) rfl) rfl (aB (aC (aD (aA (wq (aG (.pointer _) rfl) rfl (wq (nO true Tryz.underlying107 rfl rfl) rfl (aB (aC (cO rfl ?_)))))))))
 refine aD (aA (wq (aG (.pointer _) rfl) rfl (wq (aL rfl) rfl (wq (aE 0 pZ rfl) rfl (aV rfl rfl (bV bFc rfl rfl (aJl _ _ _ _ _ _ _ _ _ hs (M1.ownSeg 0 3) key) ?_))))))
 rintro v2 w2 ⟨rfl, A2, n2, c2, p2, er2, em2, hs2, hM2⟩
 have M2 : Mem _ _ [_, _, _] _ := M1.seg 0 3 hM2
 refine bJ rfl rfl (aB (aC (aN (cE (cC (.int _ _) rfl ?_)))))
 obtain ⟨q1, q2⟩ := hR.remove key
 exact ⟨⟨A2, n2, c2, p2, er2, em2⟩, by rw [q2], wJ hs2 q1 (aIi hs.keys (hG.inm hR)), M2.keep [true, true, true]⟩
set_option maxHeartbeats 4000000 in
theorem tO (w : World) (b : Nat) (r : StV) (vs : List Body) (hW : dJ 40 r vs) (hO : Own [(some b, bc [.slice r.A r.n r.c, .map r.p] 56), r.er, r.em] w) (key : Int) :
  Calls Tryz.prog 37 #[.pointer (some ⟨b, 0, none⟩), .int .u32 key] w (fun ex w' => ∃ v, ex = .returned v ∧ (fun v w' => v = .tuple #[(.agg (aF (lT vs key).body).toArray), .int .i64 (lT vs key).err] ∧ Mem w (bS [(some b, bc [.slice r.A r.n r.c, .map r.p] 56), r.er, r.em]) [(some b, bc [.slice r.A r.n r.c, .map r.p] 56), r.er, r.em] w') v w') := by
 obtain ⟨hG, m, hs, hR⟩ := hW
 refine aH #[.cell 4 40, .tmp 5] 19 Tryz.func37 rfl Tryz.results37 Tryz.ntmps37 rfl ?_
 have M0 := hO.mem
 refine aD (aA (aR gI M0 rfl rfl (fun b1 w1 M1 => (bJ rfl rfl (aB (aC (aD (aD (aA (wq (aG (.pointer _) rfl) rfl (bV aMb rfl rfl (xQ _ b) ?_)))))))))))
 rintro v2 w2 ⟨rfl, hb2⟩
 have M2 := M1.callB hb2
 refine wq (aI (.pointer _) rfl) rfl (aB (aC (aD (aA (wq (aG (.pointer _) rfl) rfl (wq (nO true Tryz.underlying107 rfl rfl) rfl (aB (aC (cO rfl ?_)))))))))
 refine aD (aA (wq (aG (.pointer _) rfl) rfl (wq (aL rfl) rfl (wq (aE 0 pZ rfl) rfl (aV rfl rfl (bV bEz rfl rfl (aXe _ _ _ _ _ _ _ _ _ hs (M2.ownSeg 0 3) key) ?_))))))
 rintro v3 w3 ⟨⟨x3, rfl, hx3⟩, hM3⟩
 have M3 : Mem _ _ [_, _, _, _] _ := M2.seg 0 3 hM3
 have hge := aYt hR key
 obtain rfl : x3 = (lT vs key).body := by rw [hx3, hge]
 have hge2 : (zQ m key).2 = (lT vs key).err := by rw [hge]
 refine wq (bE (.agg (List.toArray _)) rfl rfl) rfl (wq (bE (.int _ _) rfl rfl) rfl (aT 17 (.int .i64 (lT vs key).err) (iE hge2) (bC 3 _ bP M3 rfl rfl rfl rfl rfl (aQ rfl) rfl (fun w4 M4 => (bJ rfl rfl (aB (aC (aN (cE ?_)))))))))
 refine aCe (v2 := .int _ _) 3 bP M4 rfl rfl rfl rfl ?_
 exact ⟨rfl, M4.keep [true, true, true, false]⟩
set_option maxHeartbeats 4000000 in
theorem gA (w : World) (b : Nat) (r : StV) (vs : List Body) (hW : dJ 40 r vs) (hO : Own [(some b, bc [.slice r.A r.n r.c, .map r.p] 56), r.er, r.em] w) :
  Calls Tryz.prog 31 #[.pointer (some ⟨b, 0, none⟩)] w (fun ex w' => ∃ v, ex = .returned v ∧ (fun v w' => ∃ q : Row, v = .slice q.A q.n q.c ∧ aX 40 10 q.A q.n q.c ((vs).map aF) q.e ∧ Mem w (bS [(some b, bc [.slice r.A r.n r.c, .map r.p] 56), r.er, r.em]) [(some b, bc [.slice r.A r.n r.c, .map r.p] 56), r.er, r.em, q.e] w') v w') := by
 have hW' := hW
 obtain ⟨hG, m, hs, hR⟩ := hW
 refine aH #[.tmp 2] 10 Tryz.func31 rfl Tryz.results31 Tryz.ntmps31 rfl ?_
 have M0 := hO.mem
 refine aD (aA (gC rfl rfl (aB (aC (aD (aD (aA (wq (aG (.pointer _) rfl) rfl (wq (eB false Tryz.underlying63 rfl rfl) rfl (aB (aC ?_)))))))))))
 refine bX rfl (aK (aC (aD (aA (wq (aG (.pointer _) rfl) rfl (wq (aL rfl) rfl (wq (aE 0 sG rfl) rfl (wq (aE 0 pZ rfl) rfl ?_))))))))
 refine bV bEm rfl rfl (aKa _ _ _ _ _ _ _ _ _ hs (M0.ownSeg 0 3)) ?_
 rintro v1 w1 ⟨A1, n1, c1, e1, rfl, hR1, hM1⟩
 have M1 : Mem _ _ [_, _, _, _] _ := M0.seg 0 3 hM1
 rw [hR.eq] at hR1
 refine gC rfl rfl (aB (aC (aN (cC (.slice _ _ _) rfl ?_))))
 exact ⟨⟨A1, n1, c1, e1⟩, rfl, hR1, M1⟩
set_option maxHeartbeats 4000000 in
theorem fE (w : World) (b : Nat) (r : StV) (vs : List Body) (hW : dJ 40 r vs) (hO : Own [(some b, bc [.slice r.A r.n r.c, .map r.p] 56), r.er, r.em] w) :
  Calls Tryz.prog 34 #[.pointer (some ⟨b, 0, none⟩)] w (fun ex w' => ∃ v, ex = .returned v ∧ (fun v w' => ∃ q : Row, v = .slice q.A q.n q.c ∧ aX 5 1 q.A q.n q.c ((jQ vs).map bY) q.e ∧ Mem w (bS [(some b, bc [.slice r.A r.n r.c, .map r.p] 56), r.er, r.em]) [(some b, bc [.slice r.A r.n r.c, .map r.p] 56), r.er, r.em, q.e] w') v w') := by
 have hW' := hW
 obtain ⟨hG, m, hs, hR⟩ := hW
 refine aH #[.tmp 2] 14 Tryz.func34 rfl Tryz.results34 Tryz.ntmps34 rfl ?_
 have M0 := hO.mem
 refine aD (aA (gC rfl rfl (aB (aC (aD (aD (aA (wq (aG (.pointer _) rfl) rfl (wq (eB false Tryz.underlying63 rfl rfl) rfl (aB (aC ?_)))))))))))
 refine bX rfl (aK (aC (aD (aA (wq (aG (.pointer _) rfl) rfl (bV qS rfl rfl (gA _ _ r _ hW' (M0.ownSeg 0 3)) ?_))))))
 rintro v1 w1 ⟨q, rfl, hq, hM1⟩
 have M1 : Mem _ _ [_, _, _, _] _ := M0.seg 0 3 hM1
 have hqn : vs.length = q.n := by simpa using hq.1
 have hvl := hG.len
 refine bV bEo rfl rfl (aCz _ _ _ _ vs (hq.rd M1 (aZ (i := 3) rfl)) (by omega) hG.chk hG.inb) ?_
 rintro v2 w2 ⟨z, rfl, hz, hM2⟩
 have M2 : Mem _ _ [_, _, _, _, _] _ := M1.call0 hM2
 refine wq (aG (.tuple (List.toArray _)) rfl) rfl (wq (bE (.slice _ _ _) rfl rfl) rfl (wq (bE (.int _ _) rfl rfl) rfl (gC rfl rfl (bJ rfl rfl (aB (aC (aD (aA ?_))))))))
 refine eF rfl rfl (gC rfl rfl (aB (aC (aN (cC (.slice _ _ _) rfl ?_)))))
 exact ⟨z, rfl, hz, M2.keep [true, true, true, false, true]⟩
set_option maxHeartbeats 8000000 in
theorem qO (w : World) (b : Nat) (r : StV) (vs : List Body) (hW : dJ 40 r vs) (hO : Own [(some b, bc [.slice r.A r.n r.c, .map r.p] 56), r.er, r.em] w) (key : Int) (j : Int × Int) (hj1 : -2147483648 ≤ j.1 ∧ j.1 ≤ 2147483647) (hj2 : -2147483648 ≤ j.2 ∧ j.2 ≤ 2147483647) :
  Calls Tryz.prog 56 #[.pointer (some ⟨b, 0, none⟩), .int .u32 key, .agg [.int .i32 j.1, .int .i32 j.2].toArray] w (fun ex w' => ∃ v, ex = .returned v ∧ (fun v w' => ∃ r' : StV, v = .int .i64 (rY vs key j).2 ∧ dJ 40 r' ((rY vs key j).1) ∧ Mem w (bS [(some b, bc [.slice r.A r.n r.c, .map r.p] 56), r.er, r.em]) [(some b, bc [.slice r'.A r'.n r'.c, .map r'.p] 56), r'.er, r'.em] w') v w') := by
 have hW' := hW
 obtain ⟨hG, m, hs, hR⟩ := hW
 refine aH #[.tmp 6] 30 Tryz.func56 rfl Tryz.results56 Tryz.ntmps56 rfl ?_
 have M0 := hO.mem
 refine aD (aA (bK (.agg (List.toArray _)) M0 rfl rfl rfl (fun b1 w1 M1 => (bJ rfl rfl (aB (aC (aD (aA (wq (aG (.pointer _) rfl) rfl (aV rfl rfl ?_))))))))))
 refine bV aVg rfl rfl (tO _ _ r vs hW' (M1.ownSeg 0 3) key) ?_
 rintro v2 w2 ⟨rfl, hM2⟩
 have M2 : Mem _ _ [_, _, _, _] _ := M1.seg 0 3 hM2
 refine wq (aG (.tuple (List.toArray _)) rfl) rfl (wq (bE (.agg (List.toArray _)) rfl rfl) rfl (wq (bE (.int _ _) rfl rfl) rfl (aR gI M2 rfl rfl (fun b3 w3 M3 => (bC 4 _ bP M3 rfl rfl rfl rfl rfl (aQ rfl) rfl (fun w4 M4 => (bJ rfl rfl ?_)))))))
 refine aB (aC (aD (aD (aA (aV rfl rfl (cT rfl rfl rfl rfl (aB (aC ?_))))))))
 refine aW rfl (fun h16 => ?_) (fun h16 => ?_)
 ·refine aD (aA (aV rfl rfl (bJ rfl rfl (aB (aC (aN (cE (cC (.int _ _) rfl ?_))))))))
  have hf : cH key vs < 0 := Decidable.byContradiction fun h => h16 (by unfold lT; rw [if_neg h]; rfl)
  exact ⟨r, by rw [aFj j hf]; unfold lT; rw [if_pos hf], by rw [aFj j hf]; exact hW', M4.keep [true, true, true, false, false]⟩
 ·have hf : ¬ cH key vs < 0 := fun h => h16 (by unfold lT; rw [if_pos h]; decide)
  obtain ⟨i, bb, hbi, _, hfi⟩ := (dG key vs).resolve_left (fun h => hf (by omega))
  have hgb : (lT vs key).body = bb := by unfold lT; rw [if_neg hf]; exact zA hfi hbi
  obtain ⟨z1, z2, z3, z4⟩ := aYn hR hG j hfi hbi
  have hbo := hG.okb bb (List.mem_of_getElem? hbi)
  refine aK (aC (aD (aA (wq (bA 4 bP M4 rfl rfl rfl) rfl (aT 19 ((.agg (aF bb).toArray)) (congrArg (fun x => Value.agg (aF x).toArray) hgb) (wq (bA 3 bH M4 rfl rfl rfl) rfl (bV bEt rfl rfl (aSg _ bb hbo j hj1 hj2) ?_)))))))
  rintro v5 w5 ⟨⟨gg, rfl⟩, hb5⟩
  have M5 := M4.callB hb5
  refine wq (aG (.tuple (List.toArray _)) rfl) rfl (wq (bE (.agg (List.toArray _)) rfl rfl) rfl (wq (bE (.bool _) rfl rfl) rfl (bC 4 _ bP M5 rfl rfl rfl rfl rfl (aQ rfl) rfl (fun w6 M6 => (aB (aC (aD (bQ [(0, 0), (1, 0), (2, 0), (3, 0), (4, 1), (5, 2), (6, 0)] mixed rfl (by kernel_rfl) (fun w7 hb7 hh7 => ?_)))))))))
  have M7 := M6.drew hb7 hh7
  refine aY rfl rfl rfl (fun _ => aG (.pointer _) rfl) (aY rfl rfl rfl (fun _ => aL rfl) (aY rfl rfl rfl (fun _ => aE 0 sG rfl) (aY rfl rfl rfl (fun _ => aE 0 pZ rfl) (cD rfl rfl rfl (bA 4 bP M7 rfl rfl rfl) (dP [true] rfl (by kernel_rfl) ?_)))))
  refine bV bFt rfl rfl (aVv _ _ _ _ _ _ _ _ _ hs (M7.ownSeg 0 3) (mT bb j)) ?_
  rintro v8 w8 ⟨rfl, A8, n8, c8, p8, er8, em8, hs8, hM8⟩
  have M8 : Mem _ _ [_, _, _, _, _] _ := M7.seg 0 3 hM8
  refine aB (aC ⟨dQ, ?_⟩)
  refine pX rfl rfl rfl (cF (aC (aN (cC (.int _ _) rfl ?_))))
  exact ⟨⟨A8, n8, c8, p8, er8, em8⟩, by rw [z3, z2], wJ hs8 z1 (aWq (hG.inm hR) (aXp (hG.inb bb (List.mem_of_getElem? hbi)) j)), M8.keep [true, true, true, false, false]⟩
set_option maxHeartbeats 8000000 in
theorem qU (w : World) (b : Nat) (r : StV) (vs : List Body) (hW : dJ 40 r vs) (hO : Own [(some b, bc [.slice r.A r.n r.c, .map r.p] 56), r.er, r.em] w) (A : Option Addr) (n c : Nat) (xs : List Body) (RA : Rd w 10 A n (xs.map aF)) (hX : GoodV xs) (hdA : 0 < n → ∀ q off, A = some ⟨q, off, none⟩ → q ∉ bS [(some b, bc [.slice r.A r.n r.c, .map r.p] 56), r.er, r.em]) :
  Calls Tryz.prog 69 #[.pointer (some ⟨b, 0, none⟩), .slice A n c] w (fun ex w' => ∃ v, ex = .returned v ∧ (fun v w' => ∃ r' : StV, v = .tuple #[] ∧ dJ 40 r' (xs) ∧ Mem w (bS [(some b, bc [.slice r.A r.n r.c, .map r.p] 56), r.er, r.em]) [(some b, bc [.slice r'.A r'.n r'.c, .map r'.p] 56), r'.er, r'.em] w') v w') := by
 have hlen : xs.length = n := by simpa using RA.len
 have hbd := RA.bound
 have hxl := hX.len
 refine aH #[] 23 Tryz.func69 rfl Tryz.results69 Tryz.ntmps69 rfl ?_
 have M0 := hO.mem
 refine aD (aA (wq (aG (.pointer _) rfl) rfl (wq (cN [] _ aRa rfl rfl) rfl (wq (aL rfl) rfl (wq (aE 0 sG rfl) rfl (bC 0 _ bFh M0 rfl rfl rfl rfl rfl (aQ rfl) rfl (fun w1 M1 => ?_)))))))
 refine aB (aC (aD (aA ?_)))
 have M2 : Mem _ _ [_, _, _] _ := (((M1.keep [true, false, false]).dummy default).dummy default)
 refine eF rfl rfl (wq (cM Tryz.underlying22 rfl) rfl (aV rfl rfl (aB (aC (aS (dM (σ := Nat × StV) [0, 10, 11] (fun (k, r2) => [(12, .int .i64 (k : Int))]) (fun (k, r2) w' => (k ≤ n ∧ StoreIs 40 r2.A r2.n r2.c r2.p r2.er r2.em (xs.take k)) ∧ Mem w (bS [(some b, bc [.slice r.A r.n r.c, .map r.p] 56), r.er, r.em]) [(some b, bc [.slice r2.A r2.n r2.c, .map r2.p] 56), r2.er, r2.em] w') (fun (k, r2) => n - k) (0, ⟨none, 0, 0, none, (none, default), (none, default)⟩) (bL rfl eV) (⟨⟨by omega, (StoreIs.nil 40 default default)⟩, M2⟩) ?_))))))
 rintro ⟨k, r2⟩ ρ3 w3 ⟨⟨hk, hr⟩, hM3⟩
 refine aD (aA (cT rfl rfl rfl rfl (aB (aC (aD ?_)))))
 refine aW rfl (fun h13 => ?_) (fun h13 => ?_)
 ·obtain ⟨xb, hxb⟩ := cI (xs := xs) (k := k) hlen (by omega)
  refine aK (aC (aD (aS (aD (aA (wq (bO (k) eP rfl rfl rfl ((RA.memY hM3 hdA).below_len (aJ aF hxb)) ((RA.memY hM3 hdA).someK (aJ aF hxb))) rfl (wq (cZ _ bP (RA.memY hM3 hdA) (aJ aF hxb) rfl) rfl (aR gI hM3 rfl rfl (fun b4 w4 M4 => ?_)))))))))
  refine bC 3 _ bP M4 rfl rfl rfl rfl rfl (aQ rfl) rfl (fun w5 M5 => (aB (aC (bQ [(0, 0), (1, 0), (2, 0), (3, 0), (4, 1), (5, 2)] mixed rfl (by kernel_rfl) (fun w6 hb6 hh6 => ?_)))))
  have M6 := M5.drew hb6 hh6
  refine aY rfl rfl rfl (fun _ => aG (.pointer _) rfl) (aY rfl rfl rfl (fun _ => aL rfl) (aY rfl rfl rfl (fun _ => aE 0 sG rfl) (aY rfl rfl rfl (fun _ => aE 0 pZ rfl) (cD rfl rfl rfl (bA 3 bP M6 rfl rfl rfl) (dP [true] rfl (by kernel_rfl) ?_)))))
  refine bV aZa rfl rfl (aMa _ _ _ _ _ _ _ _ _ hr (M6.ownSeg 0 3) xb) ?_
  rintro v7 w7 ⟨rfl, A7, n7, c7, p7, er7, em7, hs7, hM7⟩
  have M7 : Mem _ _ [_, _, _, _] _ := M6.seg 0 3 hM7
  refine aB (aC ⟨dQ, ?_⟩)
  refine cF (cX (aC (aA (wq (bM rfl rfl (by omega) (by omega)) rfl (aV rfl rfl (aB ?_))))))
  refine cQ (k + 1, ⟨A7, n7, c7, p7, er7, em7⟩) (bL rfl eV) (cU rfl (cU rfl (cU rfl jS))) ?_ ?_
  ·exact ⟨⟨by omega, by rw [← aEx hX (k + 1) (by omega), wO hxb, aEx hX k (by omega)]; exact hs7⟩, M7.keep [true, true, true, false]⟩
  ·(show n - (k + 1) < n - k; omega)
 ·obtain rfl : k = n := by omega
  rw [List.take_of_length_le (by omega)] at hr
  refine cP (dA (cY (eT (iP ?_))))
  exact ⟨r2, rfl, ⟨hX, xs, hr, aSa hX.s⟩, hM3⟩
set_option maxHeartbeats 8000000 in
theorem xH (w : World) (F : Rd w 2 (some ⟨0, 0, none⟩) 1 [[.int .u32 73856093, .int .u32 19349663]]) (N : Rd w 4 (some ⟨3, 0, none⟩) 1 [dF iY]) (b : Nat) (r : StV) (vs : List Body) (hW : dJ 40 r vs) (hO : Own [(some b, bc [.slice r.A r.n r.c, .map r.p] 56), r.er, r.em] w) (hdF : 0 < 1 → ∀ q off, (some ⟨0, 0, none⟩ : Option Addr) = some ⟨q, off, none⟩ → q ∉ bS [(some b, bc [.slice r.A r.n r.c, .map r.p] 56), r.er, r.em]) (hdN : 0 < 1 → ∀ q off, (some ⟨3, 0, none⟩ : Option Addr) = some ⟨q, off, none⟩ → q ∉ bS [(some b, bc [.slice r.A r.n r.c, .map r.p] 56), r.er, r.em]) :
  Calls Tryz.prog 57 #[.pointer (some ⟨b, 0, none⟩)] w (fun ex w' => ∃ v, ex = .returned v ∧ (fun v w' => ∃ (r' : StV) (t : Nat), v = .agg [.int .i64 (t : Int), .int .i64 ((mI vs).length : Int), .bool (vH vs)].toArray ∧ dJ 40 r' (qR vs) ∧ Mem w (bS [(some b, bc [.slice r.A r.n r.c, .map r.p] 56), r.er, r.em]) [(some b, bc [.slice r'.A r'.n r'.c, .map r'.p] 56), r'.er, r'.em] w') v w') := by
 have hW' := hW
 obtain ⟨hG, m, hs, hR⟩ := hW
 have hvl := hG.len
 refine aH #[.cell 2 27] 18 Tryz.func57 rfl Tryz.results57 Tryz.ntmps57 rfl ?_
 have M0 := hO.mem
 refine aD (aA (aR yB M0 rfl rfl (fun b1 w1 M1 => (aB (aC (aD (aD (aA (wq (aG (.pointer _) rfl) rfl (wq (eB false Tryz.underlying63 rfl rfl) rfl (aB (aC ?_))))))))))))
 refine bX rfl (aK (aC (aD (aA (wq (aG (.pointer _) rfl) rfl (bV qS rfl rfl (gA _ _ r _ hW' (M1.ownSeg 0 3)) ?_))))))
 rintro v2 w2 ⟨q, rfl, hq, hM2⟩
 have M2 : Mem _ _ [_, _, _, _, _] _ := M1.seg 0 3 hM2
 have hqn : vs.length = q.n := by simpa using hq.1
 refine bV bEp rfl rfl (aPh _ (F.memY M2 hdF) (N.memY M2 hdN) _ _ _ vs (hq.rd M2 (aZ (i := 4) rfl)) hG.okb hG.s (by omega)) ?_
 rintro v3 w3 ⟨ra, ta, rfl, h1ta, h2ta, hra, hM3⟩
 have M3 : Mem _ _ [_, _, _, _, _, _] _ := M2.call0 hM3
 refine wq (aG (.tuple (List.toArray _)) rfl) rfl (wq (bE (.slice _ _ _) rfl rfl) rfl (wq (bE (.agg (List.toArray _)) rfl rfl) rfl (aR yB M3 rfl rfl (fun b4 w4 M4 => (gC rfl rfl (bC 6 _ sI M4 rfl rfl rfl rfl rfl (aQ rfl) rfl (fun w5 M5 => ?_)))))))
 refine aB (aC (aD (aA (wq (aG (.pointer _) rfl) rfl (eF rfl rfl (bV aZd rfl rfl (qU _ _ r _ hW' (M5.ownSeg 0 3) ra.A ra.n ra.c (qR vs) (hra.rd M5 (aZ (i := 5) rfl)) hG.step (hra.awayS M5 0 3 5 rfl rfl)) ?_))))))
 rintro v6 w6 ⟨r2, rfl, hw2, hM6⟩
 have M6 : Mem _ _ [_, _, _, _, _, _, _] _ := M5.seg 0 3 hM6
 refine aB (aC (aD (aA (wq (bA 6 sI M6 rfl rfl rfl) rfl (bC 3 _ sI M6 rfl rfl rfl rfl rfl (aQ rfl) rfl (fun w7 M7 => (aB (aC (aN (fR 3 sI M7 rfl rfl rfl ?_))))))))))
 exact ⟨r2, ta, rfl, hw2, M7.keep [true, true, true, false, false, false, false]⟩
set_option maxHeartbeats 8000000 in
theorem iO (w : World) (b : Nat) (r : StV) (vs : List Body) (hW : dJ 40 r vs) (hO : Own [(some b, bc [.slice r.A r.n r.c, .map r.p] 56), r.er, r.em] w) (BA : Option Addr) (nn cc : Nat) (ls : List Int) (RS : Rd w 1 BA nn (ls.map bY)) (hB : jH ls) (hcap : nn ≤ cc) (hnn : nn ≤ 1000000) (hdB : 0 < nn → ∀ q off, BA = some ⟨q, off, none⟩ → q ∉ bS [(some b, bc [.slice r.A r.n r.c, .map r.p] 56), r.er, r.em]) :
  Calls Tryz.prog 35 #[.pointer (some ⟨b, 0, none⟩), .slice BA nn cc] w (fun ex w' => ∃ v, ex = .returned v ∧ (fun v w' => ∃ r' : StV, v = .int .i64 (kH ls).2 ∧ dJ 40 r' (oR vs ls) ∧ Mem w (bS [(some b, bc [.slice r.A r.n r.c, .map r.p] 56), r.er, r.em]) [(some b, bc [.slice r'.A r'.n r'.c, .map r'.p] 56), r'.er, r'.em] w') v w') := by
 have hW' := hW
 obtain ⟨hG, m, hs, hR⟩ := hW
 have hlen : ls.length = nn := by simpa using RS.len
 refine aH #[.tmp 4] 20 Tryz.func35 rfl Tryz.results35 Tryz.ntmps35 rfl ?_
 have M0 := hO.mem
 refine aD (aA (bJ rfl rfl (aB (aC (aD (aD (aA (wq (aG (.pointer _) rfl) rfl (wq (eB false Tryz.underlying63 rfl rfl) rfl (aB (aC ?_)))))))))))
 refine bX rfl (aK (aC (aD (aA (eF rfl rfl (bV bFp rfl rfl (aEd _ BA nn cc ls (RS.memY M0 hdB) hB hcap (by omega)) ?_))))))
 rintro v1 w1 ⟨q, rfl, hq, hM1⟩
 have M1 : Mem _ _ [_, _, _, _] _ := M0.call0 hM1
 refine wq (aG (.tuple (List.toArray _)) rfl) rfl (wq (bE (.slice _ _ _) rfl rfl) rfl (wq (bE (.int _ _) rfl rfl) rfl (gC rfl rfl (bJ rfl rfl (aB (aC (aD (aD (aA ?_)))))))))
 refine aV rfl rfl (cT rfl rfl rfl rfl (aB (aC ?_)))
 refine aW rfl (fun h15 => ?_) (fun h15 => ?_)
 ·refine aA (wq (aG (.pointer _) rfl) rfl (eF rfl rfl (bV aZd rfl rfl (qU _ _ r _ hW' (M1.ownSeg 0 3) q.A q.n q.c (kH ls).1 (hq.rd M1 (aZ (i := 3) rfl)) (GoodV.dec hB (by omega) h15) (hq.awayS M1 0 3 3 rfl rfl)) ?_)))
  rintro v2 w2 ⟨r2, rfl, hw2, hM2⟩
  have M2 : Mem _ _ [_, _, _, _] _ := M1.seg 0 3 hM2
  refine aB (aC (aD (aA (aV rfl rfl (bJ rfl rfl (aB (aC (aN (cC (.int _ _) rfl ?_)))))))))
  exact ⟨r2, rfl, by unfold oR; rw [if_pos h15]; exact hw2, M2.keep [true, true, true, false]⟩
 ·refine aK (aC (aD (aA (aV rfl rfl (bJ rfl rfl (aB (aC (aN (cC (.int _ _) rfl ?_)))))))))
  exact ⟨r, rfl, by unfold oR; rw [if_neg h15]; exact hW', M1.keep [true, true, true, false]⟩
set_option maxHeartbeats 32000000 in
theorem kF (w : World) (F : Rd w 2 (some ⟨0, 0, none⟩) 1 [[.int .u32 73856093, .int .u32 19349663]]) (N : Rd w 4 (some ⟨3, 0, none⟩) 1 [dF iY]) (b : Nat) (r : StV) (vs : List Body) (hW : dJ 40 r vs) (hO : Own [(some b, bc [.slice r.A r.n r.c, .map r.p] 56), r.er, r.em] w) (hdF : 0 < 1 → ∀ q off, (some ⟨0, 0, none⟩ : Option Addr) = some ⟨q, off, none⟩ → q ∉ bS [(some b, bc [.slice r.A r.n r.c, .map r.p] 56), r.er, r.em]) (hdN : 0 < 1 → ∀ q off, (some ⟨3, 0, none⟩ : Option Addr) = some ⟨q, off, none⟩ → q ∉ bS [(some b, bc [.slice r.A r.n r.c, .map r.p] 56), r.er, r.em]) (o : OpI) (BA : Option Addr) (nn cc : Nat) (hP : OpOk w o BA nn cc) (hnn : nn ≤ 1000000) (hdB : 0 < nn → ∀ q off, BA = some ⟨q, off, none⟩ → q ∉ bS [(some b, bc [.slice r.A r.n r.c, .map r.p] 56), r.er, r.em]) :
  Calls Tryz.prog 28 #[.pointer (some ⟨b, 0, none⟩), .agg (jU o BA nn cc).toArray] w (fun ex w' => ∃ v, ex = .returned v ∧ (fun v w' => ∃ (r' : StV) (p : Row), v = .agg (wV none 0 0 p.A p.n p.c (wU vs o).2).toArray ∧ dJ 40 r' (wU vs o).1 ∧ aX 5 1 p.A p.n p.c (((wU vs o).2.bytes).map bY) p.e ∧ Mem w (bS [(some b, bc [.slice r.A r.n r.c, .map r.p] 56), r.er, r.em]) [(some b, bc [.slice r'.A r'.n r'.c, .map r'.p] 56), r'.er, r'.em, p.e] w') v w') := by
 have hG := hW.1
 have hbl := hP.len
 refine aH #[.cell 4 61] 70 Tryz.func28 rfl Tryz.results28 Tryz.ntmps28 rfl ?_
 have M0 := hO.mem
 refine aD (aA (bK (.agg (List.toArray _)) M0 rfl rfl rfl (fun b1 w1 M1 => (aR aSz M1 rfl rfl (fun b2 w2 M2 => (aB (aC (aD (aA (aR aSz M2 rfl rfl (fun b3 w3 M3 => (aB (aC (aD (aD (aA ?_))))))))))))))))
 refine wq (aE 0 wA rfl) rfl (wq (aM 3 (.int _ _) kG M3 rfl rfl rfl) rfl (aB (aC (aS (aD (aA (cT rfl rfl rfl rfl (wq (aI (.bool (decide _)) rfl) rfl (aB (aC ?_))))))))))
 refine aW rfl (fun h11 => ?_) (fun h11 => ?_)
 ·refine aA (wq (aG (.pointer _) rfl) rfl (wq (aE 1 aYl rfl) rfl (wq (mS 3 _ bP M3 rfl rfl rfl rfl) rfl (bV aBi rfl rfl (nA _ _ r vs hW (M3.ownSeg 0 3) o.body hP.body) ?_))))
  rintro v4 w4 ⟨r2, rfl, hw2, hM4⟩
  have M4 : Mem _ _ [_, _, _, _, _, _] _ := M3.seg 0 3 hM4
  refine wq (aE 1 nU rfl) rfl (dH 5 (.int _ _) kG M4 rfl rfl rfl rfl rfl rfl (fun w5 M5 => (aB (cX (aC (aD (aA (wq (bA 5 gP M5 rfl rfl rfl) rfl ?_))))))))
  refine bC 4 _ gP M5 rfl rfl rfl rfl rfl (aQ rfl) rfl (fun w6 M6 => (aB (aC (aN (fR 4 gP M6 rfl rfl rfl ?_)))))
  exact ⟨r2, ⟨none, 0, 0, (none, default)⟩, by rw [bCm h11]; rfl, by rw [bCm h11]; exact hw2, by rw [bCm h11]; exact aX.nil _ _ _, (M6.keep [true, true, true, false, false, false]).dummy default⟩
 ·refine aD (aA (cT rfl rfl rfl rfl (wq (aI (.bool (decide _)) rfl) rfl (aB (aC ?_)))))
  refine aW rfl (fun h18 => ?_) (fun h18 => ?_)
  ·refine aA (wq (aG (.pointer _) rfl) rfl (wq (aE 11 aEk rfl) rfl (wq (aM 3 (.int _ _) bZ M3 rfl rfl rfl) rfl (bV aZc rfl rfl (tB _ _ r vs hW (M3.ownSeg 0 3) o.key) ?_))))
   rintro v7 w7 ⟨r2, rfl, hw2, hM7⟩
   have M7 : Mem _ _ [_, _, _, _, _, _] _ := M3.seg 0 3 hM7
   refine wq (aE 1 nU rfl) rfl (dH 5 (.int _ _) kG M7 rfl rfl rfl rfl rfl rfl (fun w8 M8 => (aB (cX (aC (aD (aA (wq (bA 5 gP M8 rfl rfl rfl) rfl ?_))))))))
   refine bC 4 _ gP M8 rfl rfl rfl rfl rfl (aQ rfl) rfl (fun w9 M9 => (aB (aC (aN (fR 4 gP M9 rfl rfl rfl ?_)))))
   exact ⟨r2, ⟨none, 0, 0, (none, default)⟩, by rw [bCg h18]; rfl, by rw [bCg h18]; exact hw2, by rw [bCg h18]; exact aX.nil _ _ _, (M9.keep [true, true, true, false, false, false]).dummy default⟩
  ·refine aD (aA (cT rfl rfl rfl rfl (wq (aI (.bool (decide _)) rfl) rfl (aB (aC ?_)))))
   refine aW rfl (fun h25 => ?_) (fun h25 => ?_)
   ·refine aA (wq (aG (.pointer _) rfl) rfl (wq (aE 11 aEk rfl) rfl (wq (aM 3 (.int _ _) bZ M3 rfl rfl rfl) rfl (wq (aE 12 aVq rfl) rfl (wq (mS 3 _ bH M3 rfl rfl rfl rfl) rfl ?_)))))
    refine bV aZp rfl rfl (qO _ _ r vs hW (M3.ownSeg 0 3) o.key o.push hP.p1 hP.p2) ?_
    rintro v10 w10 ⟨r2, rfl, hw2, hM10⟩
    have M10 : Mem _ _ [_, _, _, _, _, _] _ := M3.seg 0 3 hM10
    refine wq (aE 1 nU rfl) rfl (dH 5 (.int _ _) kG M10 rfl rfl rfl rfl rfl rfl (fun w11 M11 => (aB (cX (aC (aD (aA (wq (bA 5 gP M11 rfl rfl rfl) rfl ?_))))))))
    refine bC 4 _ gP M11 rfl rfl rfl rfl rfl (aQ rfl) rfl (fun w12 M12 => (aB (aC (aN (fR 4 gP M12 rfl rfl rfl ?_)))))
    exact ⟨r2, ⟨none, 0, 0, (none, default)⟩, by rw [bBt h25]; rfl, by rw [bBt h25]; exact hw2, by rw [bBt h25]; exact aX.nil _ _ _, (M12.keep [true, true, true, false, false, false]).dummy default⟩
   ·refine aD (aA (cT rfl rfl rfl rfl (wq (aI (.bool (decide _)) rfl) rfl (aB (aC ?_)))))
    refine aW rfl (fun h34 => ?_) (fun h34 => ?_)
    ·refine aD (aA (wq (aG (.pointer _) rfl) rfl (bV aZt rfl rfl (xH _ (F.memY M3 hdF) (N.memY M3 hdN) _ r vs hW (M3.ownSeg 0 3) (M3.away 0 3 F hdF) (M3.away 0 3 N hdN)) ?_)))
     rintro v13 w13 ⟨r2, ts, rfl, hw2, hM13⟩
     have M13 : Mem _ _ [_, _, _, _, _, _] _ := M3.seg 0 3 hM13
     refine aR yB M13 rfl rfl (fun b14 w14 M14 => (bC 6 _ sI M14 rfl rfl rfl rfl rfl (aQ rfl) rfl (fun w15 M15 => (aB (aC (aD (aA (wq (aE 1 aEf rfl) rfl (wq (aM 6 (.int _ _) kG M15 rfl rfl rfl) rfl (wq (aE 13 aDm rfl) rfl ?_))))))))))
     refine dH 5 (.int _ _) kG M15 rfl rfl rfl rfl rfl rfl (fun w16 M16 => (aB (aC (aA (wq (aE 2 sC rfl) rfl (wq (aM 6 (.bool _) mL M16 rfl rfl rfl) rfl (wq (aE 14 aEc rfl) rfl (dH 5 (.bool _) mL M16 rfl rfl rfl rfl rfl rfl (fun w17 M17 => ?_)))))))))
     refine aB (cX (aC (aD (aA (wq (bA 5 gP M17 rfl rfl rfl) rfl (bC 4 _ gP M17 rfl rfl rfl rfl rfl (aQ rfl) rfl (fun w18 M18 => (aB (aC (aN ?_))))))))))
     refine fR 4 gP M18 rfl rfl rfl ?_
     exact ⟨r2, ⟨none, 0, 0, (none, default)⟩, by rw [bCo h34]; rfl, by rw [bCo h34]; exact hw2, by rw [bCo h34]; exact aX.nil _ _ _, (M18.keep [true, true, true, false, false, false, false]).dummy default⟩
    ·refine aD (aA (cT rfl rfl rfl rfl (wq (aI (.bool (decide _)) rfl) rfl (aB (aC ?_)))))
     refine aW rfl (fun h44 => ?_) (fun h44 => ?_)
     ·refine aA (wq (aG (.pointer _) rfl) rfl (bV zI rfl rfl (fE _ _ r vs hW (M3.ownSeg 0 3)) ?_))
      rintro v19 w19 ⟨pb, rfl, hpb, hM19⟩
      have M19 : Mem _ _ [_, _, _, _, _, _, _] _ := M3.seg 0 3 hM19
      refine wq (aE 12 aDp rfl) rfl (dH 5 (.slice _ _ _) aFr M19 rfl rfl rfl rfl rfl rfl (fun w20 M20 => (aB (cX (aC (aD (aA (wq (bA 5 gP M20 rfl rfl rfl) rfl ?_))))))))
      refine bC 4 _ gP M20 rfl rfl rfl rfl rfl (aQ rfl) rfl (fun w21 M21 => (aB (aC (aN (fR 4 gP M21 rfl rfl rfl ?_)))))
      exact ⟨r, pb, by rw [bAf h44]; rfl, by rw [bAf h44]; exact hW, by rw [bAf h44]; exact hpb, (M21.keep [true, true, true, false, false, false, true])⟩
     ·refine aD (aA (cT rfl rfl rfl rfl (wq (aI (.bool (decide _)) rfl) rfl (aB (aC ?_)))))
      refine aW rfl (fun h49 => ?_) (fun h49 => ?_)
      ·refine aA (wq (aG (.pointer _) rfl) rfl (wq (aE 14 aLd rfl) rfl (wq (aM 3 (.slice _ _ _) aFr M3 rfl rfl rfl) rfl (bV aFq rfl rfl (iO _ _ r vs hW (M3.ownSeg 0 3) BA nn cc o.bytes (hP.rd.memY M3 hdB) hP.byt hP.cap hnn (M3.away 0 3 hP.rd hdB)) ?_))))
       rintro v22 w22 ⟨r2, rfl, hw2, hM22⟩
       have M22 : Mem _ _ [_, _, _, _, _, _] _ := M3.seg 0 3 hM22
       refine wq (aE 1 nU rfl) rfl (dH 5 (.int _ _) kG M22 rfl rfl rfl rfl rfl rfl (fun w23 M23 => (aB (cX (aC (aD (aA (wq (bA 5 gP M23 rfl rfl rfl) rfl ?_))))))))
       refine bC 4 _ gP M23 rfl rfl rfl rfl rfl (aQ rfl) rfl (fun w24 M24 => (aB (aC (aN (fR 4 gP M24 rfl rfl rfl ?_)))))
       exact ⟨r2, ⟨none, 0, 0, (none, default)⟩, by rw [bBy h49]; rfl, by rw [bBy h49]; exact hw2, by rw [bBy h49]; exact aX.nil _ _ _, (M24.keep [true, true, true, false, false, false]).dummy default⟩
      ·refine aD (aA (cT rfl rfl rfl rfl (wq (aI (.bool (decide _)) rfl) rfl (aB (aC ?_)))))
       refine aW rfl (fun h56 => ?_) (fun h56 => ?_)
       ·refine aD (aA (wq (aG (.pointer _) rfl) rfl (wq (aE 11 aEk rfl) rfl (wq (aM 3 (.int _ _) bZ M3 rfl rfl rfl) rfl (bV aVg rfl rfl (tO _ _ r vs hW (M3.ownSeg 0 3) o.key) ?_)))))
        rintro v25 w25 ⟨rfl, hM25⟩
        have M25 : Mem _ _ [_, _, _, _, _, _] _ := M3.seg 0 3 hM25
        refine wq (aG (.tuple (List.toArray _)) rfl) rfl (wq (bE (.agg (List.toArray _)) rfl rfl) rfl (wq (bE (.int _ _) rfl rfl) rfl (aR gI M25 rfl rfl (fun b26 w26 M26 => (bC 6 _ bP M26 rfl rfl rfl rfl rfl (aQ rfl) rfl (fun w27 M27 => (bJ rfl rfl ?_)))))))
        refine aB (aC (aD (aA (wq (bA 6 bP M27 rfl rfl rfl) rfl (wq (aE 2 aEj rfl) rfl (xM 5 _ bP M27 rfl rfl rfl rfl rfl (aQ rfl) (Nat.le_of_ble_eq_true rfl) (fun w28 M28 => (aB (aC (aA (aV rfl rfl ?_)))))))))))
        refine wq (aE 1 nU rfl) rfl (dH 5 (.int _ _) kG M28 rfl rfl rfl rfl rfl rfl (fun w29 M29 => (aB (cX (aC (aD (aA (wq (bA 5 gP M29 rfl rfl rfl) rfl ?_))))))))
        refine bC 4 _ gP M29 rfl rfl rfl rfl rfl (aQ rfl) rfl (fun w30 M30 => (aB (aC (aN (fR 4 gP M30 rfl rfl rfl ?_)))))
        exact ⟨r, ⟨none, 0, 0, (none, default)⟩, by rw [bCb h56, aFf]; rfl, by rw [bCb h56]; exact hW, by rw [bCb h56, aFf]; exact aX.nil _ _ _, (M30.keep [true, true, true, false, false, false, false]).dummy default⟩
       ·refine aK (cX (aC (aD (aA (wq (bA 5 gP M3 rfl rfl rfl) rfl (bC 4 _ gP M3 rfl rfl rfl rfl rfl (aQ rfl) rfl (fun w31 M31 => (aB (aC (aN ?_))))))))))
        refine fR 4 gP M31 rfl rfl rfl ?_
        exact ⟨r, ⟨none, 0, 0, (none, default)⟩, by rw [bDl h11 h18 h25 h34 h44 h49 h56]; rfl, by rw [bDl h11 h18 h25 h34 h44 h49 h56]; exact hW, by rw [bDl h11 h18 h25 h34 h44 h49 h56]; exact aX.nil _ _ _, (M31.keep [true, true, true, false, false, false]).dummy default⟩
set_option maxHeartbeats 8000000 in
theorem nI (w : World) (z : ResI) (A : Option Addr) (n c : Nat) (A' : Option Addr) (n' c' : Nat) (B : Option Addr) (m d : Nat) (RB : Rd w 1 B m (z.bytes.map bY)) (B' : Option Addr) (m' d' : Nat) (RB' : Rd w 1 B' m' (z.bytes.map bY)) :
  Calls Tryz.prog 30 #[.agg (wV A n c B m d z).toArray, .agg (wV A' n' c' B' m' d' z).toArray] w (fun ex w' => ∃ v, ex = .returned v ∧ (fun v w' => v = .bool true ∧ Below w.heap.size w w') v w') := by
 refine aH #[.tmp 4] 38 Tryz.func30 rfl Tryz.results30 Tryz.ntmps30 rfl ?_
 have M0 := Mem.refl w
 refine aD (aA (bK (.agg (List.toArray _)) M0 rfl rfl rfl (fun b1 w1 M1 => (bK (.agg (List.toArray _)) M1 rfl rfl rfl (fun b2 w2 M2 => (wq (aI (.bool false) rfl) rfl (aB (aC (aD (aA (wq (aE 1 nU rfl) rfl ?_)))))))))))
 refine wq (aM 0 (.int _ _) kG M2 rfl rfl rfl) rfl (wq (aE 1 nU rfl) rfl (wq (aM 1 (.int _ _) kG M2 rfl rfl rfl) rfl (cT rfl rfl rfl rfl (kR 9 rfl rfl (wq (aG (.bool true) rfl) rfl ?_)))))
 refine wq (aE 2 aEj rfl) rfl (wq (mS 0 _ bP M2 rfl rfl rfl rfl) rfl (wq (aE 2 aEj rfl) rfl (wq (mS 1 _ bP M2 rfl rfl rfl rfl) rfl (wq (aQa (aUa z.body z.body) rfl rfl) rfl (kR 15 rfl rfl ?_)))))
 refine wq (bI true (.bool true) rfl rfl) rfl (wq (aG (.bool true) rfl) rfl (wq (aE 12 aDp rfl) rfl (wq (aM 0 (.slice _ _ _) aFr M2 rfl rfl rfl) rfl (wq (aE 12 aDp rfl) rfl (wq (aM 1 (.slice _ _ _) aFr M2 rfl rfl rfl) rfl ?_)))))
 refine bV aRy rfl rfl (rI _ _ _ _ z.bytes (RB.mem M2) _ _ _ z.bytes (RB'.mem M2)) ?_
 rintro v3 w3 ⟨rfl, hb3⟩
 have M3 := M2.callB hb3
 refine kR 22 rfl rfl (wq (bI true (.bool true) rfl rfl) rfl (wq (aG (.bool true) rfl) rfl (wq (aE 13 aDm rfl) rfl (wq (aM 0 (.int _ _) kG M3 rfl rfl rfl) rfl (wq (aE 13 aDm rfl) rfl ?_)))))
 refine wq (aM 1 (.int _ _) kG M3 rfl rfl rfl) rfl (cT rfl rfl rfl rfl (kR 29 rfl rfl (wq (bI true (.bool true) rfl rfl) rfl (wq (aG (.bool true) rfl) rfl (wq (aE 14 aEc rfl) rfl ?_)))))
 refine wq (aM 0 (.bool _) mL M3 rfl rfl rfl) rfl (wq (aE 14 aEc rfl) rfl (wq (aM 1 (.bool _) mL M3 rfl rfl rfl) rfl (wq (uC _ Tryz.underlying4 rfl rfl rfl) rfl (aT 36 (.bool true) (bv rfl (by simp)) (wq (bI true (.bool true) rfl rfl) rfl ?_)))))
 refine wq (aI (.bool true) rfl) rfl (aB (aC (aN (cC (.bool true) rfl ?_))))
 exact ⟨rfl, M3.below⟩
set_option maxHeartbeats 4000000 in
theorem aNh (w : World) (A : Option Addr) (n c : Nat) (l : List OpRow) (hl : OpsRd w A n l) :
  Calls Tryz.prog 26 #[.slice A n c] w (fun ex w' => ∃ v, ex = .returned v ∧ (fun v w' => (∃ g : Bool, v = .bool g ∧ (g = true → n ≤ 40 ∧ ∀ x ∈ l, x.n ≤ 1000)) ∧ Below w.heap.size w w') v w') := by
 have hlen : l.length = n := by simpa using hl.rd.len
 have hbd := hl.rd.bound
 refine aH #[.tmp 2] 37 Tryz.func26 rfl Tryz.results26 Tryz.ntmps26 rfl ?_
 have M0 := Mem.refl w
 refine aD (aA (wq (aI (.bool false) rfl) rfl (aB (aC (aD (aA (bJ rfl rfl (aB (aC (aD (aD (aA (bJ rfl rfl ?_)))))))))))))
 refine aB (aC (aS (dM (σ := Nat × Nat) [0] (fun (i, s) => [(3, .int .i64 (s : Int)), (4, .int .i64 (i : Int))]) (fun (i, s) w' => (i ≤ n ∧ s ≤ i ∧ ∀ (j : Nat) (x : OpRow), j < i → l[j]? = some x → x.n ≤ 1000) ∧ Mem w [] [] w') (fun (i, s) => n - i) (0, 0) (bL rfl (bL rfl eV)) (⟨⟨by omega, by omega, fun j x hj => by omega⟩, M0⟩) ?_)))
 rintro ⟨i, s⟩ ρ1 w1 ⟨⟨hi, hs, hal⟩, hM1⟩
 refine aD (aD (aA (aV rfl rfl (eF rfl rfl (wq (cM Tryz.underlying48 rfl) rfl (cT rfl rfl rfl rfl (wq (aG (.bool (decide _)) rfl) rfl ?_)))))))
 refine cW 9 rfl (fun g9 => ?_) (fun g9 => ?_)
 ·refine aV rfl rfl (cT rfl rfl rfl rfl (wq (bI true (.bool (decide _)) rfl rfl) rfl (aB (aC ?_))))
  refine aW rfl (fun h12 => ?_) (fun h12 => ?_)
  ·obtain ⟨x, hx⟩ := cI (xs := l) (k := i) hlen (by omega)
   refine aK (aC (aD (aS (aD (aD (aA (eF rfl rfl (aV rfl rfl (wq (bO (i) pB rfl rfl rfl ((hl.rd.mem hM1).below_len (aJ OpRow.cells hx)) ((hl.rd.mem hM1).someK (aJ OpRow.cells hx))) rfl (wq (bR 14 aLd (hl.rd.mem hM1) (Nat.lt_of_le_of_lt (Nat.zero_le _) ((hl.rd.mem hM1).below_len (aJ OpRow.cells hx))) rfl) rfl ?_))))))))))
   refine wq (eQ (o := 14) (.slice _ _ _) aFr (hl.rd.mem hM1) (aJ OpRow.cells hx) rfl rfl) rfl (wq (cM Tryz.underlying57 rfl) rfl (cT rfl rfl rfl rfl (aB (aC ?_))))
   refine aW rfl (fun h21 => ?_) (fun h21 => ?_)
   ·refine aD (aA (wq (aI (.bool false) rfl) rfl (aB (aC (aN (cE (iQ (cE (oT ?_)))))))))
    refine iQ (cE (cC (.bool false) rfl ?_))
    exact ⟨⟨false, rfl, fun h => by cases h⟩, hM1.below⟩
   ·refine aK (aC (aD (aA (eF rfl rfl (aV rfl rfl (wq (bO (i) pB rfl rfl rfl ((hl.rd.mem hM1).below_len (aJ OpRow.cells hx)) ((hl.rd.mem hM1).someK (aJ OpRow.cells hx))) rfl (wq (bR 0 wA (hl.rd.mem hM1) (Nat.lt_of_le_of_lt (Nat.zero_le _) ((hl.rd.mem hM1).below_len (aJ OpRow.cells hx))) rfl) rfl ?_)))))))
    refine wq (eQ (o := 0) (.int _ _) kG (hl.rd.mem hM1) (aJ OpRow.cells hx) rfl rfl) rfl (cT rfl rfl rfl rfl (aB (aC ?_)))
    refine aW rfl (fun h27 => ?_) (fun h27 => ?_)
    ·refine aA (aV rfl rfl (wq (bM rfl rfl (by omega) (by omega)) rfl (bJ rfl rfl (aB (cX ?_)))))
     refine aC (aA (aV rfl rfl (wq (bM rfl rfl (by omega) (by omega)) rfl (bJ rfl rfl (aB ?_)))))
     refine cQ (i + 1, s + 1) (bL rfl (bL rfl eV)) (cU rfl jS) ?_ ?_
     ·exact ⟨⟨by omega, by omega, pW (p := fun _ x => x.n ≤ 1000) hal hx (by omega)⟩, hM1⟩
     ·(show n - (i + 1) < n - i; omega)
    ·refine aK (cX (aC (aA (aV rfl rfl (wq (bM rfl rfl (by omega) (by omega)) rfl (bJ rfl rfl ?_))))))
     refine aB ?_
     refine cQ (i + 1, s) (bL rfl (bL rfl eV)) (cU rfl jS) ?_ ?_
     ·exact ⟨⟨by omega, by omega, pW (p := fun _ x => x.n ≤ 1000) hal hx (by omega)⟩, hM1⟩
     ·(show n - (i + 1) < n - i; omega)
  ·refine cP (dA (cY (eT (aC (aD (aA (eF rfl rfl ?_)))))))
   refine wq (cM Tryz.underlying48 rfl) rfl (cT rfl rfl rfl rfl (wq (aG (.bool (decide _)) rfl) rfl ?_))
   refine cW 33 rfl (fun g33 => ?_) (fun g33 => ?_)
   ·refine aV rfl rfl (cT rfl rfl rfl rfl (wq (bI true (.bool (decide _)) rfl rfl) rfl (wq (aI (.bool (decide _)) rfl) rfl (aB (aC (aN (cC (.bool (decide _)) rfl ?_)))))))
    refine ⟨⟨_, rfl, fun hg => ?_⟩, hM1.below⟩
    first | (cases hg; done) | exact ⟨(by omega), fun x hx => (by obtain ⟨j, hj⟩ := List.getElem?_of_mem hx; exact hal j x (by have := (List.getElem?_eq_some_iff.1 hj).1; omega) hj)⟩
   ·refine aO rfl rfl (aO rfl rfl (wq (bI false (.bool false) rfl rfl) rfl (wq (aI (.bool false) rfl) rfl (aB (aC (aN (cC (.bool false) rfl ?_)))))))
    refine ⟨⟨_, rfl, fun hg => ?_⟩, hM1.below⟩
    first | (cases hg; done) | exact ⟨(by omega), fun x hx => (by obtain ⟨j, hj⟩ := List.getElem?_of_mem hx; exact hal j x (by have := (List.getElem?_eq_some_iff.1 hj).1; omega) hj)⟩
 ·refine aO rfl rfl (aO rfl rfl (wq (bI false (.bool false) rfl rfl) rfl (aB (aC (bX rfl (cP ?_))))))
  refine dA (cY (eT (aC (aD (aA (eF rfl rfl (wq (cM Tryz.underlying48 rfl) rfl ?_)))))))
  refine cT rfl rfl rfl rfl (wq (aG (.bool (decide _)) rfl) rfl ?_)
  refine cW 33 rfl (fun g33 => ?_) (fun g33 => ?_)
  ·refine aV rfl rfl (cT rfl rfl rfl rfl (wq (bI true (.bool (decide _)) rfl rfl) rfl (wq (aI (.bool (decide _)) rfl) rfl (aB (aC (aN (cC (.bool (decide _)) rfl ?_)))))))
   refine ⟨⟨_, rfl, fun hg => ?_⟩, hM1.below⟩
   first | (cases hg; done) | exact ⟨(by omega), fun x hx => (by obtain ⟨j, hj⟩ := List.getElem?_of_mem hx; exact hal j x (by have := (List.getElem?_eq_some_iff.1 hj).1; omega) hj)⟩
  ·refine aO rfl rfl (aO rfl rfl (wq (bI false (.bool false) rfl rfl) rfl (wq (aI (.bool false) rfl) rfl (aB (aC (aN (cC (.bool false) rfl ?_)))))))
   refine ⟨⟨_, rfl, fun hg => ?_⟩, hM1.below⟩
   first | (cases hg; done) | exact ⟨(by omega), fun x hx => (by obtain ⟨j, hj⟩ := List.getElem?_of_mem hx; exact hal j x (by have := (List.getElem?_eq_some_iff.1 hj).1; omega) hj)⟩
set_option maxHeartbeats 4000000 in
theorem uR (w : World) (A : Option Addr) (n c : Nat) :
  Calls Tryz.prog 27 #[.slice A n c] w (fun ex w' => ∃ v, ex = .returned v ∧ (fun v w' => v = .bool (decide ((n : Int) ≤ 30)) ∧ Below w.heap.size w w') v w') := by
 refine aH #[.tmp 2] 6 Tryz.func27 rfl Tryz.results27 Tryz.ntmps27 rfl ?_
 have M0 := Mem.refl w
 refine aD (aA (wq (aI (.bool false) rfl) rfl (aB (aC (aD (aA (eF rfl rfl (wq (cM Tryz.underlying22 rfl) rfl (cT rfl rfl rfl rfl ?_)))))))))
 refine wq (aI (.bool (decide _)) rfl) rfl (aB (aC (aN (cC (.bool (decide _)) rfl ?_))))
 exact ⟨rfl, M0.below⟩
theorem aTe : oJ ([] : List Body) ⟨5, 65536, 0, 0, 65536, 0, 0, 0, 0, 0⟩ = (([⟨5, 65536, 0, 0, 65536, 0, 0, 0, 0, 0⟩] : List Body), 0) := by decide
theorem aTu : oJ ([⟨5, 65536, 0, 0, 65536, 0, 0, 0, 0, 0⟩] : List Body) ⟨2, 65536, 0, 0, 0, 0, 200000, 0, 0, 0⟩ = (([⟨2, 65536, 0, 0, 0, 0, 200000, 0, 0, 0⟩, ⟨5, 65536, 0, 0, 65536, 0, 0, 0, 0, 0⟩] : List Body), 0) := by decide
theorem aUh : rY ([⟨2, 65536, 0, 0, 0, 0, 200000, 0, 0, 0⟩, ⟨5, 65536, 0, 0, 65536, 0, 0, 0, 0, 0⟩] : List Body) 5 (64, 1024) = (([⟨2, 65536, 0, 0, 0, 0, 200000, 0, 0, 0⟩, ⟨5, 65536, 0, 0, 65536, 0, 0, 0, 64, 1024⟩] : List Body), 0) := by decide
theorem aKg : mI ([⟨2, 65536, 0, 0, 0, 0, 200000, 0, 0, 0⟩, ⟨5, 65536, 0, 0, 65536, 0, 0, 0, 64, 1024⟩] : List Body) = [] := by decide +kernel
theorem bCu : qR ([⟨2, 65536, 0, 0, 0, 0, 200000, 0, 0, 0⟩, ⟨5, 65536, 0, 0, 65536, 0, 0, 0, 64, 1024⟩] : List Body) = ([⟨2, 65536, 0, 0, 0, 0, 200000, 0, 0, 0⟩, ⟨5, 65536, 0, 0, 65536, 0, 1, 0, 64, 0⟩] : List Body) := by
 unfold qR mD
 rw [aKg]
 decide +kernel
theorem bAl : vH ([⟨2, 65536, 0, 0, 0, 0, 200000, 0, 0, 0⟩, ⟨5, 65536, 0, 0, 65536, 0, 0, 0, 64, 1024⟩] : List Body) = false := by
 unfold vH mD
 rw [aKg]
 decide +kernel
theorem aSt : lT ([⟨2, 65536, 0, 0, 0, 0, 200000, 0, 0, 0⟩, ⟨5, 65536, 0, 0, 65536, 0, 1, 0, 64, 0⟩] : List Body) 5 = ⟨0, ⟨5, 65536, 0, 0, 65536, 0, 1, 0, 64, 0⟩, [], 0, false⟩ := by unfold lT; rw [if_neg (by decide)]; rfl
theorem aTo : kH gJ = ([], 13) := vW (fun h => by have := h.1; revert this; decide)
theorem bCp : oR ([⟨2, 65536, 0, 0, 0, 0, 200000, 0, 0, 0⟩, ⟨5, 65536, 0, 0, 65536, 0, 1, 0, 64, 0⟩] : List Body) gJ = ([⟨2, 65536, 0, 0, 0, 0, 200000, 0, 0, 0⟩, ⟨5, 65536, 0, 0, 65536, 0, 1, 0, 64, 0⟩] : List Body) := by unfold oR; rw [if_neg (by rw [aTo]; decide)]
theorem aQk : jT ([⟨2, 65536, 0, 0, 0, 0, 200000, 0, 0, 0⟩, ⟨5, 65536, 0, 0, 65536, 0, 1, 0, 64, 0⟩] : List Body) 7 = (([⟨2, 65536, 0, 0, 0, 0, 200000, 0, 0, 0⟩, ⟨5, 65536, 0, 0, 65536, 0, 1, 0, 64, 0⟩] : List Body), 11) := by decide
theorem bBn : jH gJ := by decide
set_option maxHeartbeats 100000000 in
theorem aQs (w : World) (F : Rd w 2 (some ⟨0, 0, none⟩) 1 [[.int .u32 73856093, .int .u32 19349663]]) (N : Rd w 4 (some ⟨3, 0, none⟩) 1 [dF iY]) :
  Calls Tryz.prog 25 #[] w (fun ex w' => ∃ v, ex = .returned v ∧ (fun v w' => v = .bool true ∧ Below w.heap.size w w') v w') := by
 refine aH #[.tmp 0] 93 Tryz.func25 rfl Tryz.results25 Tryz.ntmps25 rfl ?_
 have M0 := Mem.refl w
 refine aD (aA (wq (aI (.bool false) rfl) rfl (aB (aC (aD (aA (aR aKj M0 rfl rfl (fun b1 w1 M1 => ?_))))))))
 have M2 := (M1.dummy default).dummy default
 refine aB (aC (aD (aA (wq (aI (.pointer _) rfl) rfl (aB (aC (aD (aA (wq (cN [(0, .int _ _), (1, .int _ _), (3, .int _ _)] _ pC rfl rfl) rfl (bV aBi rfl rfl (nA _ _ ⟨none, 0, 0, none, (none, default), (none, default)⟩ _ (dJ.new 40 default default) (M2.ownSeg 0 3) ⟨5, 65536, 0, 0, 65536, 0, 0, 0, 0, 0⟩ ⟨by decide, by decide, by decide, by decide, by decide, by decide, by decide, by decide, by decide, by decide⟩) ?_))))))))))
 rintro v3 w3 ⟨r1, rfl, hr1, hM3⟩
 have M3 : Mem _ _ [_, _, _] _ := M2.seg 0 3 hM3
 rw [aTe] at hr1
 refine aT 12 (.int .i64 0) (iE (by rw [aTe])) (bJ rfl rfl (aB (aC (aD (aA (wq (cN [(0, .int _ _)] _ eO rfl rfl) rfl (wq (cN [(0, .int _ _), (1, .int _ _), (5, .agg (List.toArray _))] _ pC rfl rfl) rfl (bV aBi rfl rfl (nA _ _ r1 _ hr1 (M3.ownSeg 0 3) ⟨2, 65536, 0, 0, 0, 0, 200000, 0, 0, 0⟩ ⟨by decide, by decide, by decide, by decide, by decide, by decide, by decide, by decide, by decide, by decide⟩) ?_))))))))
 rintro v4 w4 ⟨r2, rfl, hr2, hM4⟩
 have M4 : Mem _ _ [_, _, _] _ := M3.seg 0 3 hM4
 rw [aTu] at hr2
 refine aT 15 (.int .i64 0) (iE (by rw [aTu])) (bJ rfl rfl (aB (aC (aD (aA (wq (cN [(0, .int _ _), (1, .int _ _)] _ eO rfl rfl) rfl (bV aZp rfl rfl (qO _ _ r2 _ hr2 (M4.ownSeg 0 3) 5 (64, 1024) (by decide) (by decide)) ?_)))))))
 rintro v5 w5 ⟨r3, rfl, hr3, hM5⟩
 have M5 : Mem _ _ [_, _, _] _ := M4.seg 0 3 hM5
 rw [aUh] at hr3
 refine aT 17 (.int .i64 0) (iE (by rw [aUh])) (bJ rfl rfl (aB (aC (aD (aA (bV aZt rfl rfl (xH _ (F.mem M5) (N.mem M5) _ r3 _ hr3 (M5.ownSeg 0 3) (M5.away 0 3 F (by simp)) (M5.away 0 3 N (by simp))) ?_))))))
 rintro v6 w6 ⟨r4, ts, rfl, hr4, hM6⟩
 have M6 : Mem _ _ [_, _, _] _ := M5.seg 0 3 hM6
 rw [bCu] at hr4
 refine aT 18 (.agg [.int .i64 (ts : Int), .int .i64 0, .bool false].toArray) (congrArg Value.agg (by rw [aKg, bAl]; rfl)) (aR yB M6 rfl rfl (fun b7 w7 M7 => (bC 3 _ sI M7 rfl rfl rfl rfl rfl (aQ rfl) rfl (fun w8 M8 => (aB (aC (aD (aA (bV aVg rfl rfl (tO _ _ r4 _ hr4 (M8.ownSeg 0 3) 5) ?_)))))))))
 rintro v9 w9 ⟨rfl, hM9⟩
 have M9 : Mem _ _ [_, _, _, _] _ := M8.seg 0 3 hM9
 refine wq (aG (.tuple (List.toArray _)) rfl) rfl (wq (bE (.agg (List.toArray _)) rfl rfl) rfl (aT 21 ((.agg (aF (⟨5, 65536, 0, 0, 65536, 0, 1, 0, 64, 0⟩ : Body)).toArray)) (congrArg (fun x : ResI => Value.agg (aF x.body).toArray) aSt) (wq (bE (.int _ _) rfl rfl) rfl (aT 22 (.int .i64 0) (iE (by rw [aSt])) ?_))))
 refine aR gI M9 rfl rfl (fun b10 w10 M10 => (bC 4 _ bP M10 rfl rfl rfl rfl rfl (aQ rfl) rfl (fun w11 M11 => (bJ rfl rfl (aB (aC (aD (aA (dC [.int _ _, .int _ _, .int _ _, .int _ _] (gJ.map bY) rfl kI M11 rfl rfl rfl rfl (dI rfl) (by decide) (fun b12 w12 M12 => ?_))))))))))
 have hlit23 := jR (T := 5) (b := b12) (gJ.map bY) (xA _) rfl (by decide)
 refine aMh 5 Tryz.underlying57 Tryz.underlying5 M12 rfl rfl rfl rfl hlit23 (by decide) (fun e13 w13 M13 hR13 => (bV aFq rfl rfl (iO _ _ r4 _ hr4 (M13.ownSeg 0 3) _ 4 4 gJ (hR13.rd M13 (aZ (i := 5) rfl)) bBn (by decide) (by decide) (hR13.awayS M13 0 3 5 rfl rfl)) ?_))
 rintro v14 w14 ⟨r5, rfl, hr5, hM14⟩
 have M14 : Mem _ _ [_, _, _, _, _, _] _ := M13.seg 0 3 hM14
 rw [bCp] at hr5
 refine aT 25 (.int .i64 13) (iE (by rw [aTo])) (bJ rfl rfl (aB (aC (aD (aA (bV aZc rfl rfl (tB _ _ r5 _ hr5 (M14.ownSeg 0 3) 7) ?_))))))
 rintro v15 w15 ⟨r6, rfl, hr6, hM15⟩
 have M15 : Mem _ _ [_, _, _, _, _, _] _ := M14.seg 0 3 hM15
 rw [aQk] at hr6
 refine aT 26 (.int .i64 11) (iE (by rw [aQk])) (bJ rfl rfl (aB (aC (aD (aA (aV rfl rfl (cT rfl rfl rfl rfl (kR 28 rfl (by first | decide | omega) ?_))))))))
 refine wq (aG (.bool true) rfl) rfl (aV rfl rfl (cT rfl rfl rfl rfl (kR 31 rfl (by first | decide | omega) (wq (bI true (.bool true) rfl rfl) rfl (wq (aG (.bool true) rfl) rfl ?_)))))
 refine aV rfl rfl (cT rfl rfl rfl rfl (kR 35 rfl (by first | decide | omega) (wq (bI true (.bool true) rfl rfl) rfl (wq (aG (.bool true) rfl) rfl (wq (aE 2 sC rfl) rfl ?_)))))
 refine wq (aM 3 (.bool false) mL M15 rfl rfl rfl) rfl (wq (fY true rfl rfl) rfl (wq (bI true (.bool true) rfl rfl) rfl (wq (aG (.bool true) rfl) rfl (wq (aE 1 aEf rfl) rfl (wq (aM 3 (.int _ _) kG M15 rfl rfl rfl) rfl ?_)))))
 refine cT rfl rfl rfl rfl (kR 45 rfl rfl (wq (bI true (.bool true) rfl rfl) rfl (wq (aG (.bool true) rfl) rfl (wq (aE 6 fX rfl) rfl (wq (mS 4 _ bH M15 rfl rfl rfl rfl) rfl ?_)))))
 refine wq (cN [(0, .int _ _)] _ eO rfl rfl) rfl (wq (aQa (aYz _ _ _ _) rfl rfl) rfl (kR 51 rfl (by decide) (wq (bI true (.bool true) rfl rfl) rfl (wq (aG (.bool true) rfl) rfl (wq (aE 8 fG rfl) rfl ?_)))))
 refine wq (mS 4 _ bH M15 rfl rfl rfl rfl) rfl (wq (cN [(0, .int _ _)] _ eO rfl rfl) rfl (wq (aQa (aYz _ _ _ _) rfl rfl) rfl (kR 57 rfl (by decide) (wq (bI true (.bool true) rfl rfl) rfl (wq (aG (.bool true) rfl) rfl ?_)))))
 refine aV rfl rfl (cT rfl rfl rfl rfl (kR 61 rfl (by first | decide | omega) (wq (bI true (.bool true) rfl rfl) rfl (wq (aG (.bool true) rfl) rfl (aV rfl rfl ?_)))))
 refine cT rfl rfl rfl rfl (kR 65 rfl (by first | decide | omega) (wq (bI true (.bool true) rfl rfl) rfl (wq (aG (.bool true) rfl) rfl (aV rfl rfl (cT rfl rfl rfl rfl ?_)))))
 refine kR 69 rfl (by first | decide | omega) (wq (bI true (.bool true) rfl rfl) rfl (wq (aG (.bool true) rfl) rfl (bV zI rfl rfl (fE _ _ r6 _ hr6 (M15.ownSeg 0 3)) ?_)))
 rintro v16 w16 ⟨pb, rfl, hpb, hM16⟩
 have M16 : Mem _ _ [_, _, _, _, _, _, _] _ := M15.seg 0 3 hM16
 have hsn : 88 = pb.n := by have h := hpb.1; rwa [List.length_map, sZ] at h
 refine wq (cM Tryz.underlying57 rfl) rfl (cT rfl rfl rfl rfl (kR 74 rfl (by omega) (wq (bI true (.bool true) rfl rfl) rfl (wq (aG (.bool true) rfl) rfl (bV qS rfl rfl (gA _ _ r6 _ hr6 (M16.ownSeg 0 3)) ?_)))))
 rintro v17 w17 ⟨qv, rfl, hqv, hM17⟩
 have M17 : Mem _ _ [_, _, _, _, _, _, _, _] _ := M16.seg 0 3 hM17
 have hqv2 : 2 = qv.n := by simpa using hqv.1
 refine wq (cM Tryz.underlying22 rfl) rfl (cT rfl rfl rfl rfl (kR 79 rfl (by omega) (wq (bI true (.bool true) rfl rfl) rfl (wq (aG (.bool true) rfl) rfl (wq (aG (.pointer _) rfl) rfl ?_)))))
 refine wq (cN [] _ pC rfl rfl) rfl (bV aBi rfl rfl (aCx _ ⟨0, 0, 0, 0, 0, 0, 0, 0, 0, 0⟩) ?_)
 rintro v18 w18 ⟨rfl, hb18⟩
 have M18 := M17.callB hb18
 refine cT rfl rfl rfl rfl (kR 85 rfl (by first | decide | omega) (wq (bI true (.bool true) rfl rfl) rfl (wq (aG (.bool true) rfl) rfl (wq (aG (.pointer _) rfl) rfl (bV qS rfl rfl (aAg _) ?_)))))
 rintro v19 w19 ⟨rfl, hb19⟩
 have M19 := M18.callB hb19
 refine wq (cM Tryz.underlying22 rfl) rfl (cT rfl rfl rfl rfl (kR 91 rfl rfl (wq (bI true (.bool true) rfl rfl) rfl (wq (aI (.bool true) rfl) rfl (aB (aC (aN ?_)))))))
 refine cC (.bool true) rfl ?_
 exact ⟨rfl, M19.below⟩
theorem opT : ∃ fs, OpT Tryz.prog 4 59 3 40 36 38 57 5 1 fs := ⟨_, Tryz.underlying59, by kernel_rfl, by kernel_rfl, by kernel_rfl, by kernel_rfl, by kernel_rfl, by kernel_rfl, by kernel_rfl, by kernel_rfl, by kernel_rfl, by kernel_rfl, by kernel_rfl, by kernel_rfl, kI⟩
end Go.Proofs.YtlmcphcgiclanaaGreatDoor
