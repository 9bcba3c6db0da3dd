/- Part of the proof of the laws of this seat: Aw, V7. No conditions. -/
import Derived.Test.YtlmcphcgiclanaaGreatDoorK5
import Derived.Test.YtlmcphcgiclanaaGreatDoorK22
import Derived.Test.YtlmcphcgiclanaaGreatDoorK23
import Derived.Test.YtlmcphcgiclanaaGreatDoorK2
import Derived.Test.YtlmcphcgiclanaaGreatDoorK6
set_option linter.unusedVariables false
set_option linter.unusedSimpArgs false
set_option linter.unnecessarySimpa false
namespace Go.Proofs.YtlmcphcgiclanaaGreatDoor
open Go.Bil
open Go.RowKit (Below)
open Go.Proofs
set_option maxHeartbeats 4000000 in
theorem aMv (w : World) (A : Option Addr) (n c : Nat) (xs : List Body) (R : Rd w 10 A n (xs.map aF)) :
  Calls Tryz.prog 129 #[.slice A n c] w (fun ex w' => ∃ v, ex = .returned v ∧ (fun v w' => v = .int .i64 (oF xs) ∧ Below w.heap.size w w') v w') := by
 have hlen : xs.length = n := by simpa using R.len
 have hbd := R.bound
 refine aH #[.tmp 2] 21 Tryz.func129 rfl Tryz.results129 Tryz.ntmps129 rfl ?_
 have M0 := Mem.refl w
 refine aD (aA (bJ rfl rfl (aB (aC (aD (aD (aA (eF rfl rfl (wq (cM Tryz.underlying22 rfl) rfl (cT rfl rfl rfl rfl ?_))))))))))
 refine aB (aC ?_)
 refine aW rfl (fun h8 => ?_) (fun h8 => ?_)
 ·refine aD (aA (bJ rfl rfl (aB (aC (aN (cE (cC (.int _ _) rfl ?_)))))))
  exact ⟨iE (by unfold oF; rw [if_pos (by omega)]), M0.below⟩
 ·refine aK (aC (aD (aD (aA (eF rfl rfl (wq (cM Tryz.underlying22 rfl) rfl (aV rfl rfl (aB (aC (aS (dM (σ := Nat) [9, 10] (fun k => [(11, .int .i64 (k : Int))]) (fun k w' => (k ≤ n ∧ ∀ (j : Nat) (c : Body), j < k → xs[j]? = some c → check c = 0) ∧ Mem w [] [] w') (fun k => n - k) 0 (bL rfl eV) (⟨⟨by omega, fun j c hj => by omega⟩, M0⟩) ?_)))))))))))
  rintro k ρ1 w1 ⟨⟨hk, hok⟩, hM1⟩
  refine aD (aA (cT rfl rfl rfl rfl (aB (aC (aD ?_)))))
  refine aW rfl (fun h12 => ?_) (fun h12 => ?_)
  ·obtain ⟨xb, hxb⟩ := cI (k := k) hlen (by omega)
   refine aK (aC (aD (aS (aD (aA (wq (bO (k) eP rfl rfl rfl ((R.mem hM1).below_len (aJ aF hxb)) ((R.mem hM1).someK (aJ aF hxb))) rfl (wq (cZ _ bP (R.mem hM1) (aJ aF hxb) rfl) rfl (aR gI hM1 rfl rfl (fun b2 w2 M2 => (bC 0 _ bP M2 rfl rfl rfl rfl rfl (aQ rfl) rfl (fun w3 M3 => ?_)))))))))))
   refine aB (aC (aD (aA (wq (bA 0 bP M3 rfl rfl rfl) rfl (bV aTx rfl rfl (rB _ xb) ?_)))))
   rintro v4 w4 ⟨rfl, hb4⟩
   have M4 := M3.callB hb4
   refine bJ rfl rfl (aB (aC (aD (aA (aV rfl rfl (cT rfl rfl rfl rfl (aB (aC ?_))))))))
   refine aW rfl (fun h18 => ?_) (fun h18 => ?_)
   ·refine aD (aA (aV rfl rfl (bJ rfl rfl (aB (aC (aN (iQ (cE ?_))))))))
    refine oT (iQ (cE (cC (.int _ _) rfl ?_)))
    exact ⟨iE (by unfold oF; rw [if_neg (by omega), vK hxb h18 hok]), M4.below⟩
   ·refine aK (cX (aC (aA (wq (bM rfl rfl (by omega) (by omega)) rfl (aV rfl rfl (aB ?_))))))
    refine cQ (k + 1) (bL rfl eV) (cU rfl (cU rfl jS)) ?_ ?_
    ·exact ⟨⟨by omega, pW (p := fun _ c => check c = 0) hok hxb (by omega)⟩, M4.keep [false]⟩
    ·omega
  ·refine cP (dA (cY (eT (aC (aD (aA (bJ rfl rfl ?_)))))))
   refine aB (aC (aN (cC (.int _ _) rfl ?_)))
   exact ⟨iE (by unfold oF; rw [if_neg (by omega), mN (fun j c hj => hok j c (by have := (List.getElem?_eq_some_iff.1 hj).1; omega) hj)]), hM1.below⟩
theorem aWm {xs : List Body} {k : Nat} {a b : Body} (h : ∀ (j : Nat) (x y : Body), j < k → xs[j]? = some x → xs[j + 1]? = some y → x.key < y.key) (ha : xs[k]? = some a) (hb : xs[k + 1]? = some b) (hab : a.key < b.key) :
  ∀ (j : Nat) (x y : Body), j < k + 1 → xs[j]? = some x → xs[j + 1]? = some y → x.key < y.key := by
 intro j x y hj hx hy
 by_cases e : j = k
 ·subst e
  rw [ha] at hx
  rw [hb] at hy
  injection hx with hx
  injection hy with hy
  subst hx
  subst hy
  exact hab
 ·exact h j x y (by omega) hx hy
set_option maxHeartbeats 4000000 in
theorem yL (w : World) (A : Option Addr) (n c : Nat) (xs : List Body) (R : Rd w 10 A n (xs.map aF)) :
  Calls Tryz.prog 99 #[.slice A n c] w (fun ex w' => ∃ v, ex = .returned v ∧ (fun v w' => v = .int .i64 (gO xs) ∧ Below w.heap.size w w') v w') := by
 have hlen : xs.length = n := by simpa using R.len
 have hbd := R.bound
 refine aH #[.tmp 2] 28 Tryz.func99 rfl Tryz.results99 Tryz.ntmps99 rfl ?_
 have M0 := Mem.refl w
 refine aD (aA (bJ rfl rfl (aB (aC (aD (aD (aA (eF rfl rfl (bV bCn rfl rfl (aMv _ _ _ _ xs (R.mem M0)) ?_)))))))))
 rintro v1 w1 ⟨rfl, hb1⟩
 have M1 := M0.callB hb1
 refine bJ rfl rfl (aB (aC (aD (aA (aV rfl rfl (cT rfl rfl rfl rfl (aB (aC ?_))))))))
 refine aW rfl (fun h8 => ?_) (fun h8 => ?_)
 ·refine aD (aA (aV rfl rfl (bJ rfl rfl (aB (aC (aN (cE (cC (.int _ _) rfl ?_))))))))
  exact ⟨iE (by unfold gO; rw [if_pos h8]), M1.below⟩
 ·refine aK (aC (aD (aD (aA (bJ rfl rfl (aB (aC (aS (dM (σ := Nat) [0] (fun k => [(4, .int .i64 ((k + 1 : Nat) : Int))]) (fun k w' => ((k + 1 ≤ n ∨ k = 0) ∧ ∀ (j : Nat) (x y : Body), j < k → xs[j]? = some x → xs[j + 1]? = some y → x.key < y.key) ∧ Mem w [] [] w') (fun k => n - k) 0 (bL rfl eV) (⟨⟨.inr rfl, fun j x y hj => by omega⟩, M1⟩) ?_)))))))))
  rintro k ρ2 w2 ⟨⟨hk, hadj⟩, hM2⟩
  refine aD (aD (aA (aV rfl rfl (eF rfl rfl (wq (cM Tryz.underlying22 rfl) rfl (cT rfl rfl rfl rfl (aB (aC ?_))))))))
  refine aW rfl (fun h13 => ?_) (fun h13 => ?_)
  ·obtain ⟨xa, hxa⟩ := cI (k := k) hlen (by omega)
   obtain ⟨xb, hxb⟩ := cI (k := k + 1) hlen (by omega)
   refine aK (aC (aD (aS (aD (bQ [(0, 0), (1, 0), (2, 0), (3, 1), (4, 1), (5, 1), (6, 0), (7, 0), (8, 1), (9, 1), (10, 1), (11, 0)] mixed rfl (by kernel_rfl) (fun w3 hb3 hh3 => ?_))))))
   have M3 := hM2.drew hb3 hh3
   refine vB rfl rfl rfl (gG rfl rfl rfl (aY rfl rfl rfl (fun _ => nE rfl rfl (by omega) (by omega)) (cD rfl rfl rfl (bO (k) eP rfl rfl (by omega) ((R.mem M3).below_len (aJ aF hxa)) ((R.mem M3).someK (aJ aF hxa))) (cD rfl rfl rfl (bR 0 eZ (R.mem M3) (Nat.lt_of_le_of_lt (Nat.zero_le _) ((R.mem M3).below_len (aJ aF hxa))) rfl) ?_))))
   refine cD rfl rfl rfl (eQ (o := 0) (.int _ _) bZ (R.mem M3) (aJ aF hxa) rfl rfl) (vB rfl rfl rfl (gG rfl rfl rfl (cD rfl rfl rfl (bO (k + 1) eP rfl rfl rfl ((R.mem M3).below_len (aJ aF hxb)) ((R.mem M3).someK (aJ aF hxb))) (cD rfl rfl rfl (bR 0 eZ (R.mem M3) (Nat.lt_of_le_of_lt (Nat.zero_le _) ((R.mem M3).below_len (aJ aF hxb))) rfl) ?_))))
   refine cD rfl rfl rfl (eQ (o := 0) (.int _ _) bZ (R.mem M3) (aJ aF hxb) rfl rfl) (aY rfl rfl rfl (fun _ => dY (.bool (decide _)) rfl rfl rfl) (cF (aC ?_)))
   refine aW rfl (fun h27 => ?_) (fun h27 => ?_)
   ·refine aD (aA (bJ rfl rfl (aB (aC (aN (iQ (cE (oT ?_))))))))
    refine iQ (cE (cC (.int _ _) rfl ?_))
    exact ⟨iE (by unfold gO; rw [if_neg h8, if_neg (by rw [aIf hxa hxb (by omega)]; decide)]), M3.below⟩
   ·refine aK (cX (aC (aA (aV rfl rfl (wq (bM rfl rfl (by omega) (by omega)) rfl (bJ rfl rfl ?_))))))
    refine aB ?_
    refine cQ (k + 1) (bL rfl eV) (cU rfl jS) ?_ ?_
    ·exact ⟨⟨.inl (by omega), aWm hadj hxa hxb (by omega)⟩, M3⟩
    ·omega
  ·refine cP (dA (cY (eT (aC (aD (aA (bJ rfl rfl ?_)))))))
   refine aB (aC (aN (cC (.int _ _) rfl ?_)))
   exact ⟨iE (by unfold gO; rw [if_neg h8, if_pos (tJ fun i x y hx hy => hadj i x y (by have := (List.getElem?_eq_some_iff.1 hy).1; omega) hx hy)]), hM2.below⟩
set_option maxHeartbeats 4000000 in
theorem yC (w : World) (b : Body) (key : Int) :
  Calls Tryz.prog 140 #[(.agg (aF b).toArray), .int .u32 key] w (fun ex w' => ∃ v, ex = .returned v ∧ (fun v w' => v = .int .i64 (lA b.key key) ∧ Below w.heap.size w w') v w') := by
 refine aH #[.tmp 4] 9 Tryz.func140 rfl Tryz.results140 Tryz.ntmps140 rfl ?_
 have M0 := Mem.refl w
 refine aD (aA (bK (.agg (List.toArray _)) M0 rfl rfl rfl (fun b1 w1 M1 => (bJ rfl rfl (aB (aC (aD (aA (wq (aE 0 eZ rfl) rfl (wq (aM 0 (.int _ _) bZ M1 rfl rfl rfl) rfl ?_))))))))))
 refine aV rfl rfl (bV aLm rfl rfl (kA _ _ _) ?_)
 rintro v2 w2 ⟨rfl, rfl⟩
 have M2 : Mem _ _ [_] _ := M1
 refine bJ rfl rfl (aB (aC (aN (cC (.int _ _) rfl ?_))))
 exact ⟨rfl, M2.below⟩
set_option maxHeartbeats 4000000 in
theorem pN (w : World) (key : Int) (A : Option Addr) (n c : Nat) (xs : List Body) (R : Rd w 10 A n (xs.map aF)) (hs : bW xs) :
  Calls Tryz.prog 139 #[.slice A n c, .int .u32 key, .func (.func 140) #[] #[]] w (fun ex w' => ∃ v, ex = .returned v ∧ (fun v w' => v = .tuple #[.int .i64 (uH key xs : Int), .bool (decide (0 ≤ cH key xs))] ∧ Below w.heap.size w w') v w') := by
 have hlen : xs.length = n := by simpa using R.len
 have hbd := R.bound
 refine aH #[.tmp 6, .tmp 7] 49 Tryz.func139 rfl Tryz.results139 Tryz.ntmps139 rfl ?_
 have M0 := Mem.refl w
 refine aD (aA (bJ rfl rfl (wq (aI (.bool false) rfl) rfl (aB (aC (aD (aA (eF rfl rfl (wq (cM Tryz.underlying22 rfl) rfl ?_)))))))))
 refine bJ rfl rfl (aB (aC (aD (aA (aV rfl rfl (bJ rfl rfl (bJ rfl rfl (aB (aC (aD (aS ?_)))))))))))
 refine dM (σ := Nat × Nat) [0, 1, 2, 6, 7, 8] (fun (i, j) => [(9, .int .i64 (i : Int)), (10, .int .i64 (j : Int))]) (fun (i, j) w' => (i ≤ j ∧ j ≤ n ∧ (∀ (p : Nat) (c : Body), p < i → xs[p]? = some c → c.key < key) ∧ ∀ (p : Nat) (c : Body), j ≤ p → xs[p]? = some c → ¬ c.key < key) ∧ Mem w [] [] w') (fun (i, j) => j - i) (0, n) (bL rfl (bL rfl eV)) (⟨⟨by omega, by omega, fun p c h => by omega, fun p c h hc => by have := (List.getElem?_eq_some_iff.1 hc).1; omega⟩, M0⟩) ?_
 rintro ⟨i, j⟩ ρ1 w1 ⟨⟨hij, hjn, hlo, hhi⟩, hM1⟩
 refine aD (aD (aA (aV rfl rfl (aV rfl rfl (cT rfl rfl rfl rfl (aB (aC ?_)))))))
 refine aW rfl (fun h17 => ?_) (fun h17 => ?_)
 ·obtain ⟨xb, hxb⟩ := cI (k := (i + j) / 2) hlen (by omega)
  refine aK (aC (aS (aD (aA (aV rfl rfl (aV rfl rfl (wq (bM rfl rfl (by omega) (by omega)) rfl (wq (bU us3 Tryz.underlying136 rfl (iH _ (by omega) (by omega))) rfl (wq (gH rfl rfl (by decide)) rfl ?_)))))))))
  refine aT 22 (.int .u64 (((i + j) / 2 : Nat) : Int)) (iE (bGd i j)) (wq (bU bEj Tryz.underlying3 rfl (kJ _ (by omega) (by omega))) rfl (bJ rfl rfl (aB (aC (aD (aA (wq (aG (.func _ _ _) rfl) rfl (eF rfl rfl ?_))))))))
  refine aV rfl rfl (wq (bO ((i + j) / 2) eP rfl rfl rfl ((R.mem hM1).below_len (aJ aF hxb)) ((R.mem hM1).someK (aJ aF hxb))) rfl (wq (cZ _ bP (R.mem hM1) (aJ aF hxb) rfl) rfl (aV rfl rfl (bV aTg rfl rfl (yC _ xb key) ?_))))
  rintro v2 w2 ⟨rfl, hb2⟩
  have M2 := hM1.callB hb2
  refine cT rfl rfl rfl rfl (aB (aC ?_))
  refine aW rfl (fun h31 => ?_) (fun h31 => ?_)
  ·refine aA (aV rfl rfl (wq (bM rfl rfl (by omega) (by omega)) rfl (bJ rfl rfl (aB (cX ?_)))))
   refine cQ ((i + j) / 2 + 1, j) (bL rfl (bL rfl eV)) (cU rfl (cU rfl (cU rfl (cU rfl (cU rfl (cU rfl jS)))))) ?_ ?_
   ·exact ⟨⟨by omega, hjn, fun p c hp hc => by have := uV hs (show p ≤ (i + j) / 2 by omega) hc hxb; have := sY.1 h31; omega, hhi⟩, M2⟩
   ·(show j - ((i + j) / 2 + 1) < j - i; omega)
  ·refine aA (aV rfl rfl (bJ rfl rfl (aB (cX ?_))))
   refine cQ (i, (i + j) / 2) (bL rfl (bL rfl eV)) (cU rfl (cU rfl (cU rfl (cU rfl (cU rfl (cU rfl jS)))))) ?_ ?_
   ·exact ⟨⟨by omega, by omega, hlo, fun p c hp hc => by have := uV hs hp hxb hc; have := mt sY.2 h31; omega⟩, M2⟩
   ·(show (i + j) / 2 - i < j - i; omega)
 ·have hij' : i = j := by omega
  have hless := rT (key := key) (xs := xs) (k := i) (by omega) hlo (by rw [hij']; exact hhi)
  refine cP (dA (cY (eT (aC (aD (aA (aV rfl rfl ?_)))))))
  refine aV rfl rfl (aV rfl rfl (cT rfl rfl rfl rfl (wq (aG (.bool (decide _)) rfl) rfl ?_)))
  refine cW 39 rfl (fun g39 => ?_) (fun g39 => ?_)
  ·obtain ⟨xi, hxi⟩ := cI (k := i) hlen (by omega)
   refine wq (aG (.func _ _ _) rfl) rfl (eF rfl rfl (aV rfl rfl (wq (bO (i) eP rfl rfl rfl ((R.mem hM1).below_len (aJ aF hxi)) ((R.mem hM1).someK (aJ aF hxi))) rfl (wq (cZ _ bP (R.mem hM1) (aJ aF hxi) rfl) rfl (aV rfl rfl ?_)))))
   refine bV aTg rfl rfl (yC _ xi key) ?_
   rintro v3 w3 ⟨rfl, hb3⟩
   have M3 := hM1.callB hb3
   refine cT rfl rfl rfl rfl (wq (bI true (.bool (decide _)) rfl rfl) rfl (bJ rfl rfl (wq (aI (.bool (decide _)) rfl) rfl (aB (aC (aN (iD (.int _ _) (.bool (decide _)) rfl rfl ?_)))))))
   exact ⟨aAi (iE (by rw [hless])) (bD (aNj hs hxi hlo (by rw [hij']; exact hhi))), M3.below⟩
  ·refine aO rfl rfl (aO rfl rfl (aO rfl rfl (aO rfl rfl (aO rfl rfl (aO rfl rfl ?_)))))
   refine aO rfl rfl (aO rfl rfl (wq (bI false (.bool false) rfl rfl) rfl (bJ rfl rfl (wq (aI (.bool false) rfl) rfl (aB (aC (aN ?_)))))))
   refine iD (.int _ _) (.bool false) rfl rfl ?_
   exact ⟨aAi (iE (by rw [hless])) (bF (aIe fun p c hp hc => hlo p c (by omega) hc)), hM1.below⟩
set_option maxHeartbeats 4000000 in
theorem qI (w : World) (key : Int) (A : Option Addr) (n c : Nat) (xs : List Body) (R : Rd w 10 A n (xs.map aF)) (hs : bW xs) :
  Calls Tryz.prog 109 #[.slice A n c, .int .u32 key] w (fun ex w' => ∃ v, ex = .returned v ∧ (fun v w' => v = .tuple #[.int .i64 (uH key xs : Int), .bool (decide (0 ≤ cH key xs))] ∧ Below w.heap.size w w') v w') := by
 refine aH #[.tmp 4, .tmp 5] 11 Tryz.func109 rfl Tryz.results109 Tryz.ntmps109 rfl ?_
 have M0 := Mem.refl w
 refine aD (aA (bJ rfl rfl (wq (aI (.bool false) rfl) rfl (aB (aC (aD (aA (eF rfl rfl (aV rfl rfl ?_)))))))))
 refine bV bAs rfl rfl (pN _ key _ _ _ xs (R.mem M0) hs) ?_
 rintro v1 w1 ⟨rfl, hb1⟩
 have M1 := M0.callB hb1
 refine wq (bE (.int _ _) rfl rfl) rfl (wq (bE (.bool (decide _)) rfl rfl) rfl (bJ rfl rfl (wq (aI (.bool (decide _)) rfl) rfl (aB (aC (aN (iD (.int _ _) (.bool (decide _)) rfl rfl ?_)))))))
 exact ⟨rfl, M1.below⟩
end Go.Proofs.YtlmcphcgiclanaaGreatDoor
