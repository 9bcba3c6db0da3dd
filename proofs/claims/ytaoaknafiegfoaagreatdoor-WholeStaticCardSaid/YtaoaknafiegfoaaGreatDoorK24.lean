/- Part of the proof of the laws of this seat: Aw, V7. No conditions. -/
import Derived.Test.YtaoaknafiegfoaaGreatDoorK5
import Derived.Test.YtaoaknafiegfoaaGreatDoorK22
import Derived.Test.YtaoaknafiegfoaaGreatDoorK23
import Derived.Test.YtaoaknafiegfoaaGreatDoorK2
import Derived.Test.YtaoaknafiegfoaaGreatDoorK6
set_option linter.unusedVariables false
set_option linter.unusedSimpArgs false
set_option linter.unnecessarySimpa false
namespace Go.Proofs.YtaoaknafiegfoaaGreatDoor
open Go.Bil
open Go.RowKit (Below)
open Go.Proofs
set_option maxHeartbeats 4000000 in
theorem aKn (w : World) (A : Option Addr) (n c : Nat) (xs : List Body) (R : Rd w 10 A n (xs.map aF)) :
  Calls Tryz.prog 103 #[.slice A n c] w (fun ex w' => ∃ v, ex = .returned v ∧ (fun v w' => v = .int .i64 (gU xs) ∧ Below w.heap.size w w') v w') := by
 have hlen : xs.length = n := by simpa using R.len
 have hbd := R.bound
 refine aH #[.tmp 2] 22 Tryz.func103 rfl Tryz.results103 Tryz.ntmps103 rfl ?_
 have M0 := Mem.refl w
 refine aD (aA (bI rfl rfl (aB (aC (aD (aD (aA (dN rfl rfl (wq (cT Tryz.underlying29 rfl) rfl (dB rfl rfl rfl rfl ?_))))))))))
 refine aB (aC ?_)
 refine aX rfl (fun h7 => ?_) (fun h7 => ?_)
 ·refine aD (aA (bI rfl rfl (aB (aC (aL (cD (cA (.int _ _) rfl ?_)))))))
  exact ⟨iE (by unfold gU; rw [if_pos (by omega)]), M0.below⟩
 ·refine aK (aC (aD (aD (aA (bI rfl rfl (aB (aC (aT (dI (σ := Nat) [0] (fun k => [(3, .int .i64 (k : Int))]) (fun k w' => (k ≤ n ∧ ∀ (j : Nat) (c : Body), j < k → xs[j]? = some c → check c = 0) ∧ Mem w [] [] w') (fun k => n - k) 0 (bM rfl eP) (⟨⟨by omega, fun j c hj => by omega⟩, M0⟩) ?_)))))))))
  rintro k ρ1 w1 ⟨⟨hk, hok⟩, hM1⟩
  refine aD (aD (aA (aZ rfl rfl (dN rfl rfl (wq (cT Tryz.underlying29 rfl) rfl (dB rfl rfl rfl rfl (aB (aC ?_))))))))
  refine aX rfl (fun h11 => ?_) (fun h11 => ?_)
  ·obtain ⟨xb, hxb⟩ := cM (k := k) hlen (by omega)
   refine aK (aC (aD (aT (aD (aA (dN rfl rfl (aZ rfl rfl (wq (bR (k) dF rfl rfl rfl ((R.mem hM1).below_len (aJ aF hxb)) ((R.mem hM1).someK (aJ aF hxb))) rfl (wq (dJ _ bJ (R.mem hM1) (aJ aF hxb) rfl) rfl (bZ bDh rfl rfl (wA _ xb) ?_))))))))))
   rintro v2 w2 ⟨rfl, hb2⟩
   have M2 := hM1.callB hb2
   refine bI rfl rfl (aB (aC (aD (aA (aZ rfl rfl (dB rfl rfl rfl rfl (aB (aC ?_))))))))
   refine aX rfl (fun h20 => ?_) (fun h20 => ?_)
   ·refine aD (aA (aZ rfl rfl (bI rfl rfl (aB (aC (aL (kB (cD ?_))))))))
    refine uR (kB (cD (cA (.int _ _) rfl ?_)))
    exact ⟨iE (by unfold gU; rw [if_neg (by omega), qI hxb h20 hok]), M2.below⟩
   ·refine aK (dD (aC (aA (aZ rfl rfl (wq (bP rfl rfl (by omega) (by omega)) rfl (bI rfl rfl ?_))))))
    refine aB ?_
    refine cO (k + 1) (bM rfl eP) (cU rfl jT) ?_ ?_
    ·exact ⟨⟨by omega, tN (p := fun _ c => check c = 0) hok hxb (by omega)⟩, M2⟩
    ·omega
  ·refine cR (dC (dA (eZ (aC (aD (aA (bI rfl rfl ?_)))))))
   refine aB (aC (aL (cA (.int _ _) rfl ?_)))
   exact ⟨iE (by unfold gU; rw [if_neg (by omega), kN (fun j c hj => hok j c (by have := (List.getElem?_eq_some_iff.1 hj).1; omega) hj)]), hM1.below⟩
set_option maxHeartbeats 4000000 in
theorem aQy (w : World) (A : Option Addr) (n c : Nat) (xs : List Body) (R : Rd w 10 A n (xs.map aF)) :
  Calls Tryz.prog 119 #[.slice A n c] w (fun ex w' => ∃ v, ex = .returned v ∧ (fun v w' => v = .int .i64 (gU xs) ∧ Below w.heap.size w w') v w') := by
 have hlen : xs.length = n := by simpa using R.len
 have hbd := R.bound
 refine aH #[.tmp 2] 21 Tryz.func119 rfl Tryz.results119 Tryz.ntmps119 rfl ?_
 have M0 := Mem.refl w
 refine aD (aA (bI rfl rfl (aB (aC (aD (aD (aA (dN rfl rfl (wq (cT Tryz.underlying29 rfl) rfl (dB rfl rfl rfl rfl ?_))))))))))
 refine aB (aC ?_)
 refine aX rfl (fun h8 => ?_) (fun h8 => ?_)
 ·refine aD (aA (bI rfl rfl (aB (aC (aL (cD (cA (.int _ _) rfl ?_)))))))
  exact ⟨iE (by unfold gU; rw [if_pos (by omega)]), M0.below⟩
 ·refine aK (aC (aD (aD (aA (dN rfl rfl (wq (cT Tryz.underlying29 rfl) rfl (aZ rfl rfl (aB (aC (aT (dI (σ := Nat) [9, 10] (fun k => [(11, .int .i64 (k : Int))]) (fun k w' => (k ≤ n ∧ ∀ (j : Nat) (c : Body), j < k → xs[j]? = some c → check c = 0) ∧ Mem w [] [] w') (fun k => n - k) 0 (bM rfl eP) (⟨⟨by omega, fun j c hj => by omega⟩, M0⟩) ?_)))))))))))
  rintro k ρ1 w1 ⟨⟨hk, hok⟩, hM1⟩
  refine aD (aA (dB rfl rfl rfl rfl (aB (aC (aD ?_)))))
  refine aX rfl (fun h12 => ?_) (fun h12 => ?_)
  ·obtain ⟨xb, hxb⟩ := cM (k := k) hlen (by omega)
   refine aK (aC (aD (aT (aD (aA (wq (bR (k) dF rfl rfl rfl ((R.mem hM1).below_len (aJ aF hxb)) ((R.mem hM1).someK (aJ aF hxb))) rfl (wq (dJ _ bJ (R.mem hM1) (aJ aF hxb) rfl) rfl (aP gH hM1 rfl rfl (fun b2 w2 M2 => (bA 0 _ bJ M2 rfl rfl rfl rfl rfl (aQ rfl) rfl (fun w3 M3 => ?_)))))))))))
   refine aB (aC (aD (aA (wq (bC 0 bJ M3 rfl rfl rfl) rfl (bZ aKg rfl rfl (sL _ xb) ?_)))))
   rintro v4 w4 ⟨rfl, hb4⟩
   have M4 := M3.callB hb4
   refine bI rfl rfl (aB (aC (aD (aA (aZ rfl rfl (dB rfl rfl rfl rfl (aB (aC ?_))))))))
   refine aX rfl (fun h18 => ?_) (fun h18 => ?_)
   ·refine aD (aA (aZ rfl rfl (bI rfl rfl (aB (aC (aL (kB (cD ?_))))))))
    refine uR (kB (cD (cA (.int _ _) rfl ?_)))
    exact ⟨iE (by unfold gU; rw [if_neg (by omega), qI hxb h18 hok]), M4.below⟩
   ·refine aK (dD (aC (aA (wq (bP rfl rfl (by omega) (by omega)) rfl (aZ rfl rfl (aB ?_))))))
    refine cO (k + 1) (bM rfl eP) (cU rfl (cU rfl jT)) ?_ ?_
    ·exact ⟨⟨by omega, tN (p := fun _ c => check c = 0) hok hxb (by omega)⟩, M4.keep [false]⟩
    ·omega
  ·refine cR (dC (dA (eZ (aC (aD (aA (bI rfl rfl ?_)))))))
   refine aB (aC (aL (cA (.int _ _) rfl ?_)))
   exact ⟨iE (by unfold gU; rw [if_neg (by omega), kN (fun j c hj => hok j c (by have := (List.getElem?_eq_some_iff.1 hj).1; omega) hj)]), hM1.below⟩
theorem aZu {xs : List Body} {k : Nat} {a b : Body} (h : ∀ (j : Nat) (x y : Body), j < k → xs[j]? = some x → xs[j + 1]? = some y → x.key < y.key) (ha : xs[k]? = some a) (hb : xs[k + 1]? = some b) (hab : a.key < b.key) :
  ∀ (j : Nat) (x y : Body), j < k + 1 → xs[j]? = some x → xs[j + 1]? = some y → x.key < y.key := by
 intro j x y hj hx hy
 by_cases e : j = k
 ·subst e
  rw [ha] at hx
  rw [hb] at hy
  injection hx with hx
  injection hy with hy
  subst hx
  subst hy
  exact hab
 ·exact h j x y (by omega) hx hy
set_option maxHeartbeats 4000000 in
theorem yC (w : World) (A : Option Addr) (n c : Nat) (xs : List Body) (R : Rd w 10 A n (xs.map aF)) :
  Calls Tryz.prog 82 #[.slice A n c] w (fun ex w' => ∃ v, ex = .returned v ∧ (fun v w' => v = .int .i64 (gX xs) ∧ Below w.heap.size w w') v w') := by
 have hlen : xs.length = n := by simpa using R.len
 have hbd := R.bound
 refine aH #[.tmp 2] 28 Tryz.func82 rfl Tryz.results82 Tryz.ntmps82 rfl ?_
 have M0 := Mem.refl w
 refine aD (aA (bI rfl rfl (aB (aC (aD (aD (aA (dN rfl rfl (bZ bFw rfl rfl (aQy _ _ _ _ xs (R.mem M0)) ?_)))))))))
 rintro v1 w1 ⟨rfl, hb1⟩
 have M1 := M0.callB hb1
 refine bI rfl rfl (aB (aC (aD (aA (aZ rfl rfl (dB rfl rfl rfl rfl (aB (aC ?_))))))))
 refine aX rfl (fun h8 => ?_) (fun h8 => ?_)
 ·refine aD (aA (aZ rfl rfl (bI rfl rfl (aB (aC (aL (cD (cA (.int _ _) rfl ?_))))))))
  exact ⟨iE (by unfold gX; rw [if_pos h8]), M1.below⟩
 ·refine aK (aC (aD (aD (aA (bI rfl rfl (aB (aC (aT (dI (σ := Nat) [0] (fun k => [(4, .int .i64 ((k + 1 : Nat) : Int))]) (fun k w' => ((k + 1 ≤ n ∨ k = 0) ∧ ∀ (j : Nat) (x y : Body), j < k → xs[j]? = some x → xs[j + 1]? = some y → x.key < y.key) ∧ Mem w [] [] w') (fun k => n - k) 0 (bM rfl eP) (⟨⟨.inr rfl, fun j x y hj => by omega⟩, M1⟩) ?_)))))))))
  rintro k ρ2 w2 ⟨⟨hk, hadj⟩, hM2⟩
  refine aD (aD (aA (aZ rfl rfl (dN rfl rfl (wq (cT Tryz.underlying29 rfl) rfl (dB rfl rfl rfl rfl (aB (aC ?_))))))))
  refine aX rfl (fun h13 => ?_) (fun h13 => ?_)
  ·obtain ⟨xa, hxa⟩ := cM (k := k) hlen (by omega)
   obtain ⟨xb, hxb⟩ := cM (k := k + 1) hlen (by omega)
   refine aK (aC (aD (aT (aD (bO [(0, 0), (1, 0), (2, 0), (3, 1), (4, 1), (5, 1), (6, 0), (7, 0), (8, 1), (9, 1), (10, 1), (11, 0)] mixed rfl (by kernel_rfl) (fun w3 hb3 hh3 => ?_))))))
   have M3 := hM2.drew hb3 hh3
   refine sQ rfl rfl rfl (gV rfl rfl rfl (aY rfl rfl rfl (fun _ => oE rfl rfl (by omega) (by omega)) (bW rfl rfl rfl (bR (k) dF rfl rfl (by omega) ((R.mem M3).below_len (aJ aF hxa)) ((R.mem M3).someK (aJ aF hxa))) (bW rfl rfl rfl (bN 0 dQ (R.mem M3) (Nat.lt_of_le_of_lt (Nat.zero_le _) ((R.mem M3).below_len (aJ aF hxa))) rfl) ?_))))
   refine bW rfl rfl rfl (eM (o := 0) (.int _ _) bU (R.mem M3) (aJ aF hxa) rfl rfl) (sQ rfl rfl rfl (gV rfl rfl rfl (bW rfl rfl rfl (bR (k + 1) dF rfl rfl rfl ((R.mem M3).below_len (aJ aF hxb)) ((R.mem M3).someK (aJ aF hxb))) (bW rfl rfl rfl (bN 0 dQ (R.mem M3) (Nat.lt_of_le_of_lt (Nat.zero_le _) ((R.mem M3).below_len (aJ aF hxb))) rfl) ?_))))
   refine bW rfl rfl rfl (eM (o := 0) (.int _ _) bU (R.mem M3) (aJ aF hxb) rfl rfl) (aY rfl rfl rfl (fun _ => dV (.bool (decide _)) rfl rfl rfl) (cB (aC ?_)))
   refine aX rfl (fun h27 => ?_) (fun h27 => ?_)
   ·refine aD (aA (bI rfl rfl (aB (aC (aL (kB (cD (uR ?_))))))))
    refine kB (cD (cA (.int _ _) rfl ?_))
    exact ⟨iE (by unfold gX; rw [if_neg h8, if_neg (by rw [aNb hxa hxb (by omega)]; decide)]), M3.below⟩
   ·refine aK (dD (aC (aA (aZ rfl rfl (wq (bP rfl rfl (by omega) (by omega)) rfl (bI rfl rfl ?_))))))
    refine aB ?_
    refine cO (k + 1) (bM rfl eP) (cU rfl jT) ?_ ?_
    ·exact ⟨⟨.inl (by omega), aZu hadj hxa hxb (by omega)⟩, M3⟩
    ·omega
  ·refine cR (dC (dA (eZ (aC (aD (aA (bI rfl rfl ?_)))))))
   refine aB (aC (aL (cA (.int _ _) rfl ?_)))
   exact ⟨iE (by unfold gX; rw [if_neg h8, if_pos (vL fun i x y hx hy => hadj i x y (by have := (List.getElem?_eq_some_iff.1 hy).1; omega) hx hy)]), hM2.below⟩
set_option maxHeartbeats 4000000 in
theorem aLc (w : World) (A : Option Addr) (n c : Nat) (xs : List Body) (R : Rd w 10 A n (xs.map aF)) (hn : n ≤ 1048576) :
  Calls Tryz.prog 63 #[.slice A n c] w (fun ex w' => ∃ v, ex = .returned v ∧ (fun v w' => ∃ A' n' c' e, v = .tuple #[.slice A' n' c', .int .i64 (mF xs).2] ∧ aU 39 10 A' n' c' ((mF xs).1.map aF) e ∧ Mem w [] [e] w') v w') := by
 have hlen : xs.length = n := by simpa using R.len
 have hbd := R.bound
 refine aH #[.tmp 2, .tmp 3] 19 Tryz.func63 rfl Tryz.results63 Tryz.ntmps63 rfl ?_
 have M0 := Mem.refl w
 refine aD (aA (eG rfl rfl (bI rfl rfl (aB (aC (aD (aA (dN rfl rfl (bZ bEz rfl rfl (aKn _ _ _ _ xs (R.mem M0)) ?_)))))))))
 rintro v1 w1 ⟨rfl, hb1⟩
 have M1 := M0.callB hb1
 refine bI rfl rfl (aB (aC (aD (aD (aA (aZ rfl rfl (dB rfl rfl rfl rfl (aB (aC ?_)))))))))
 refine aX rfl (fun h9 => ?_) (fun h9 => ?_)
 ·refine aD (aA (aZ rfl rfl (eG rfl rfl (bI rfl rfl (aB (aC (aL (cD (fX (.slice _ _ _) (.int _ _) rfl rfl ?_)))))))))
  have ha : mF xs = ([], gU xs) := by unfold mF; rw [if_pos h9]
  exact ⟨_, _, _, (none, default), by rw [ha], by rw [ha]; exact aU.nil _ _ _, (M1.drop).dummy default⟩
 ·have he : gU xs = 0 := by omega
  obtain ⟨hs1, hs2⟩ := aRp he
  refine aK (aC (aD (aA (dN rfl rfl (bZ bEq rfl rfl (aRk _ _ _ _ xs (R.mem M1) (by omega)) ?_)))))
  rintro v2 w2 ⟨A2, n2, c2, e2, rfl, hR2, hM2⟩
  have M2 : Mem _ _ [_] _ := M1.call0 hM2
  have hlw : (aBj xs).length = n2 := by simpa using hR2.1
  refine eG rfl rfl (aB (aC (aD (aD (aA (dN rfl rfl (wq (cT Tryz.underlying29 rfl) rfl (dN rfl rfl (wq (cT Tryz.underlying29 rfl) rfl ?_)))))))))
  refine dB rfl rfl rfl rfl (aB (aC ?_))
  refine aX rfl (fun h17 => ?_) (fun h17 => ?_)
  ·refine aD (aA (eG rfl rfl (bI rfl rfl (aB (aC (aL (cD (fX (.slice _ _ _) (.int _ _) rfl rfl ?_))))))))
   have ha : mF xs = ([], 10) := by unfold mF; rw [if_neg (by omega), if_neg (hs2.1 (by omega))]
   exact ⟨_, _, _, (none, default), by rw [ha], by rw [ha]; exact aU.nil _ _ _, (M2.drop).dummy default⟩
  ·refine aK (aC (aD (aA (dN rfl rfl (eG rfl rfl (bI rfl rfl (aB (aC (aL (fX (.slice _ _ _) (.int _ _) rfl rfl ?_))))))))))
   have hk : fQ xs := Decidable.by_contra fun h => by have := hs2.2 h; omega
   have ha : mF xs = (lN xs, 0) := by unfold mF; rw [if_neg (by omega), if_pos hk]
   rw [hs1 hk] at *
   exact ⟨_, _, _, _, by rw [ha], by rw [ha]; exact hR2, M2⟩
set_option maxHeartbeats 4000000 in
theorem aAw (w : World) (b : Body) (key : Int) :
  Calls Tryz.prog 188 #[(.agg (aF b).toArray), .int .u32 key] w (fun ex w' => ∃ v, ex = .returned v ∧ (fun v w' => v = .int .i64 (mB b.key key) ∧ Below w.heap.size w w') v w') := by
 refine aH #[.tmp 4] 9 Tryz.func188 rfl Tryz.results188 Tryz.ntmps188 rfl ?_
 have M0 := Mem.refl w
 refine aD (aA (bG (.agg (List.toArray _)) M0 rfl rfl rfl (fun b1 w1 M1 => (bI rfl rfl (aB (aC (aD (aA (wq (aE 0 dQ rfl) rfl (wq (aM 0 (.int _ _) bU M1 rfl rfl rfl) rfl ?_))))))))))
 refine aZ rfl rfl (bZ aFo rfl rfl (kM _ _ _) ?_)
 rintro v2 w2 ⟨rfl, rfl⟩
 have M2 : Mem _ _ [_] _ := M1
 refine bI rfl rfl (aB (aC (aL (cA (.int _ _) rfl ?_))))
 exact ⟨rfl, M2.below⟩
set_option maxHeartbeats 4000000 in
theorem qB (w : World) (key : Int) (A : Option Addr) (n c : Nat) (xs : List Body) (R : Rd w 10 A n (xs.map aF)) (hs : bV xs) :
  Calls Tryz.prog 187 #[.slice A n c, .int .u32 key, .func (.func 188) #[] #[]] w (fun ex w' => ∃ v, ex = .returned v ∧ (fun v w' => v = .tuple #[.int .i64 (wG key xs : Int), .bool (decide (0 ≤ cI key xs))] ∧ Below w.heap.size w w') v w') := by
 have hlen : xs.length = n := by simpa using R.len
 have hbd := R.bound
 refine aH #[.tmp 6, .tmp 7] 49 Tryz.func187 rfl Tryz.results187 Tryz.ntmps187 rfl ?_
 have M0 := Mem.refl w
 refine aD (aA (bI rfl rfl (wq (aI (.bool false) rfl) rfl (aB (aC (aD (aA (dN rfl rfl (wq (cT Tryz.underlying29 rfl) rfl ?_)))))))))
 refine bI rfl rfl (aB (aC (aD (aA (aZ rfl rfl (bI rfl rfl (bI rfl rfl (aB (aC (aD (aT ?_)))))))))))
 refine dI (σ := Nat × Nat) [0, 1, 2, 6, 7, 8] (fun (i, j) => [(9, .int .i64 (i : Int)), (10, .int .i64 (j : Int))]) (fun (i, j) w' => (i ≤ j ∧ j ≤ n ∧ (∀ (p : Nat) (c : Body), p < i → xs[p]? = some c → c.key < key) ∧ ∀ (p : Nat) (c : Body), j ≤ p → xs[p]? = some c → ¬ c.key < key) ∧ Mem w [] [] w') (fun (i, j) => j - i) (0, n) (bM rfl (bM rfl eP)) (⟨⟨by omega, by omega, fun p c h => by omega, fun p c h hc => by have := (List.getElem?_eq_some_iff.1 hc).1; omega⟩, M0⟩) ?_
 rintro ⟨i, j⟩ ρ1 w1 ⟨⟨hij, hjn, hlo, hhi⟩, hM1⟩
 refine aD (aD (aA (aZ rfl rfl (aZ rfl rfl (dB rfl rfl rfl rfl (aB (aC ?_)))))))
 refine aX rfl (fun h17 => ?_) (fun h17 => ?_)
 ·obtain ⟨xb, hxb⟩ := cM (k := (i + j) / 2) hlen (by omega)
  refine aK (aC (aT (aD (aA (aZ rfl rfl (aZ rfl rfl (wq (bP rfl rfl (by omega) (by omega)) rfl (wq (bY us3 Tryz.underlying178 rfl (iV _ (by omega) (by omega))) rfl (wq (gT rfl rfl (by decide)) rfl ?_)))))))))
  refine aV 22 (.int .u64 (((i + j) / 2 : Nat) : Int)) (iE (bKy i j)) (wq (bY bJw Tryz.underlying3 rfl (kT _ (by omega) (by omega))) rfl (bI rfl rfl (aB (aC (aD (aA (wq (aG (.func _ _ _) rfl) rfl (dN rfl rfl ?_))))))))
  refine aZ rfl rfl (wq (bR ((i + j) / 2) dF rfl rfl rfl ((R.mem hM1).below_len (aJ aF hxb)) ((R.mem hM1).someK (aJ aF hxb))) rfl (wq (dJ _ bJ (R.mem hM1) (aJ aF hxb) rfl) rfl (aZ rfl rfl (bZ aUz rfl rfl (aAw _ xb key) ?_))))
  rintro v2 w2 ⟨rfl, hb2⟩
  have M2 := hM1.callB hb2
  refine dB rfl rfl rfl rfl (aB (aC ?_))
  refine aX rfl (fun h31 => ?_) (fun h31 => ?_)
  ·refine aA (aZ rfl rfl (wq (bP rfl rfl (by omega) (by omega)) rfl (bI rfl rfl (aB (dD ?_)))))
   refine cO ((i + j) / 2 + 1, j) (bM rfl (bM rfl eP)) (cU rfl (cU rfl (cU rfl (cU rfl (cU rfl (cU rfl jT)))))) ?_ ?_
   ·exact ⟨⟨by omega, hjn, fun p c hp hc => by have := wL hs (show p ≤ (i + j) / 2 by omega) hc hxb; have := tM.1 h31; omega, hhi⟩, M2⟩
   ·(show j - ((i + j) / 2 + 1) < j - i; omega)
  ·refine aA (aZ rfl rfl (bI rfl rfl (aB (dD ?_))))
   refine cO (i, (i + j) / 2) (bM rfl (bM rfl eP)) (cU rfl (cU rfl (cU rfl (cU rfl (cU rfl (cU rfl jT)))))) ?_ ?_
   ·exact ⟨⟨by omega, by omega, hlo, fun p c hp hc => by have := wL hs hp hxb hc; have := mt tM.2 h31; omega⟩, M2⟩
   ·(show (i + j) / 2 - i < j - i; omega)
 ·have hij' : i = j := by omega
  have hless := tL (key := key) (xs := xs) (k := i) (by omega) hlo (by rw [hij']; exact hhi)
  refine cR (dC (dA (eZ (aC (aD (aA (aZ rfl rfl ?_)))))))
  refine aZ rfl rfl (aZ rfl rfl (dB rfl rfl rfl rfl (wq (aG (.bool (decide _)) rfl) rfl ?_)))
  refine dE 39 rfl (fun g39 => ?_) (fun g39 => ?_)
  ·obtain ⟨xi, hxi⟩ := cM (k := i) hlen (by omega)
   refine wq (aG (.func _ _ _) rfl) rfl (dN rfl rfl (aZ rfl rfl (wq (bR (i) dF rfl rfl rfl ((R.mem hM1).below_len (aJ aF hxi)) ((R.mem hM1).someK (aJ aF hxi))) rfl (wq (dJ _ bJ (R.mem hM1) (aJ aF hxi) rfl) rfl (aZ rfl rfl ?_)))))
   refine bZ aUz rfl rfl (aAw _ xi key) ?_
   rintro v3 w3 ⟨rfl, hb3⟩
   have M3 := hM1.callB hb3
   refine dB rfl rfl rfl rfl (wq (bS true (.bool (decide _)) rfl rfl) rfl (bI rfl rfl (wq (aI (.bool (decide _)) rfl) rfl (aB (aC (aL (fX (.int _ _) (.bool (decide _)) rfl rfl ?_)))))))
   exact ⟨xE (iE (by rw [hless])) (bD (aPj hs hxi hlo (by rw [hij']; exact hhi))), M3.below⟩
  ·refine aR rfl rfl (aR rfl rfl (aR rfl rfl (aR rfl rfl (aR rfl rfl (aR rfl rfl ?_)))))
   refine aR rfl rfl (aR rfl rfl (wq (bS false (.bool false) rfl rfl) rfl (bI rfl rfl (wq (aI (.bool false) rfl) rfl (aB (aC (aL ?_)))))))
   refine fX (.int _ _) (.bool false) rfl rfl ?_
   exact ⟨xE (iE (by rw [hless])) (bF (aNa fun p c hp hc => hlo p c (by omega) hc)), hM1.below⟩
set_option maxHeartbeats 4000000 in
theorem qR (w : World) (key : Int) (A : Option Addr) (n c : Nat) (xs : List Body) (R : Rd w 10 A n (xs.map aF)) (hs : bV xs) :
  Calls Tryz.prog 161 #[.slice A n c, .int .u32 key] w (fun ex w' => ∃ v, ex = .returned v ∧ (fun v w' => v = .tuple #[.int .i64 (wG key xs : Int), .bool (decide (0 ≤ cI key xs))] ∧ Below w.heap.size w w') v w') := by
 refine aH #[.tmp 4, .tmp 5] 11 Tryz.func161 rfl Tryz.results161 Tryz.ntmps161 rfl ?_
 have M0 := Mem.refl w
 refine aD (aA (bI rfl rfl (wq (aI (.bool false) rfl) rfl (aB (aC (aD (aA (dN rfl rfl (aZ rfl rfl ?_)))))))))
 refine bZ bEk rfl rfl (qB _ key _ _ _ xs (R.mem M0) hs) ?_
 rintro v1 w1 ⟨rfl, hb1⟩
 have M1 := M0.callB hb1
 refine wq (bB (.int _ _) rfl rfl) rfl (wq (bB (.bool (decide _)) rfl rfl) rfl (bI rfl rfl (wq (aI (.bool (decide _)) rfl) rfl (aB (aC (aL (fX (.int _ _) (.bool (decide _)) rfl rfl ?_)))))))
 exact ⟨rfl, M1.below⟩
end Go.Proofs.YtaoaknafiegfoaaGreatDoor
