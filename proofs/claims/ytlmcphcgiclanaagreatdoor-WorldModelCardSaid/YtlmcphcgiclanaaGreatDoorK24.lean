/- Part of the proof of the laws of this seat: Aw, V7. No conditions. -/
import Derived.Test.YtlmcphcgiclanaaGreatDoorK5
import Derived.Test.YtlmcphcgiclanaaGreatDoorK22
import Derived.Test.YtlmcphcgiclanaaGreatDoorK23
import Derived.Test.YtlmcphcgiclanaaGreatDoorK2
import Derived.Test.YtlmcphcgiclanaaGreatDoorK6
set_option linter.unusedVariables false
set_option linter.unusedSimpArgs false
set_option linter.unnecessarySimpa false
namespace Go.Proofs.YtlmcphcgiclanaaGreatDoor
open Go.Bil
open Go.RowKit (Below)
open Go.Proofs
set_option maxHeartbeats 4000000 in
theorem aOu (w : World) (A : Option Addr) (n c : Nat) (xs : List Body) (R : Rd w 10 A n (xs.map aF)) :
  Calls Tryz.prog 50 #[.slice A n c] w (fun ex w' => ∃ v, ex = .returned v ∧ (fun v w' => v = .int .i64 (nF xs) ∧ Below w.heap.size w w') v w') := by
 have hlen : xs.length = n := by simpa using R.len
 have hbd := R.bound
 refine aI #[.tmp 2] 22 Tryz.func50 rfl Tryz.results50 Tryz.ntmps50 rfl ?_
 have M0 := Mem.refl w
 refine aE (aA (bC rfl rfl (aB (aC (aE (aE (aA (dN rfl rfl (wq (dB Tryz.underlying22 rfl) rfl (cX rfl rfl rfl rfl ?_))))))))))
 refine aB (aC ?_)
 refine aS rfl (fun h7 => ?_) (fun h7 => ?_)
 ·refine aE (aA (bC rfl rfl (aB (aC (aP (cH (cE (.int _ _) rfl ?_)))))))
  exact ⟨iE (by unfold nF; rw [if_pos (by omega)]), M0.below⟩
 ·refine aL (aC (aE (aE (aA (bC rfl rfl (aB (aC (aQ (dQ (σ := Nat) [0] (fun k => [(3, .int .i64 (k : Int))]) (fun k w' => (k ≤ n ∧ ∀ (j : Nat) (c : Body), j < k → xs[j]? = some c → check c = 0) ∧ Mem w [] [] w') (fun k => n - k) 0 (bA rfl dX) (⟨⟨by omega, fun j c hj => by omega⟩, M0⟩) ?_)))))))))
  rintro k ρ1 w1 ⟨⟨hk, hok⟩, hM1⟩
  refine aE (aE (aA (aO rfl rfl (dN rfl rfl (wq (dB Tryz.underlying22 rfl) rfl (cX rfl rfl rfl rfl (aB (aC ?_))))))))
  refine aS rfl (fun h11 => ?_) (fun h11 => ?_)
  ·obtain ⟨xb, hxb⟩ := cT (k := k) hlen (by omega)
   refine aL (aC (aE (aQ (aE (aA (dN rfl rfl (aO rfl rfl (wq (bN (k) dF rfl rfl rfl ((R.mem hM1).below_len (aG aF hxb)) ((R.mem hM1).someK (aG aF hxb))) rfl (wq (dJ _ bK (R.mem hM1) (aG aF hxb) rfl) rfl (bZ bFu rfl rfl (yU _ xb) ?_))))))))))
   rintro v2 w2 ⟨rfl, hb2⟩
   have M2 := hM1.callB hb2
   refine bC rfl rfl (aB (aC (aE (aA (aO rfl rfl (cX rfl rfl rfl rfl (aB (aC ?_))))))))
   refine aS rfl (fun h20 => ?_) (fun h20 => ?_)
   ·refine aE (aA (aO rfl rfl (bC rfl rfl (aB (aC (aP (jP (cH ?_))))))))
    refine pD (jP (cH (cE (.int _ _) rfl ?_)))
    exact ⟨iE (by unfold nF; rw [if_neg (by omega), sG hxb h20 hok]), M2.below⟩
   ·refine aL (cO (aC (aA (aO rfl rfl (wq (aY rfl rfl (by omega) (by omega)) rfl (bC rfl rfl ?_))))))
    refine aB ?_
    refine cD (k + 1) (bA rfl dX) (cL rfl gO) ?_ ?_
    ·exact ⟨⟨by omega, oS (p := fun _ c => check c = 0) hok hxb (by omega)⟩, M2⟩
    ·omega
  ·refine cV (dD (dK (eO (aC (aE (aA (bC rfl rfl ?_)))))))
   refine aB (aC (aP (cE (.int _ _) rfl ?_)))
   exact ⟨iE (by unfold nF; rw [if_neg (by omega), mO (fun j c hj => hok j c (by have := (List.getElem?_eq_some_iff.1 hj).1; omega) hj)]), hM1.below⟩
set_option maxHeartbeats 4000000 in
theorem aTn (w : World) (A : Option Addr) (n c : Nat) (xs : List Body) (R : Rd w 10 A n (xs.map aF)) :
  Calls Tryz.prog 129 #[.slice A n c] w (fun ex w' => ∃ v, ex = .returned v ∧ (fun v w' => v = .int .i64 (nF xs) ∧ Below w.heap.size w w') v w') := by
 have hlen : xs.length = n := by simpa using R.len
 have hbd := R.bound
 refine aI #[.tmp 2] 21 Tryz.func129 rfl Tryz.results129 Tryz.ntmps129 rfl ?_
 have M0 := Mem.refl w
 refine aE (aA (bC rfl rfl (aB (aC (aE (aE (aA (dN rfl rfl (wq (dB Tryz.underlying22 rfl) rfl (cX rfl rfl rfl rfl ?_))))))))))
 refine aB (aC ?_)
 refine aS rfl (fun h8 => ?_) (fun h8 => ?_)
 ·refine aE (aA (bC rfl rfl (aB (aC (aP (cH (cE (.int _ _) rfl ?_)))))))
  exact ⟨iE (by unfold nF; rw [if_pos (by omega)]), M0.below⟩
 ·refine aL (aC (aE (aE (aA (dN rfl rfl (wq (dB Tryz.underlying22 rfl) rfl (aO rfl rfl (aB (aC (aQ (dQ (σ := Nat) [9, 10] (fun k => [(11, .int .i64 (k : Int))]) (fun k w' => (k ≤ n ∧ ∀ (j : Nat) (c : Body), j < k → xs[j]? = some c → check c = 0) ∧ Mem w [] [] w') (fun k => n - k) 0 (bA rfl dX) (⟨⟨by omega, fun j c hj => by omega⟩, M0⟩) ?_)))))))))))
  rintro k ρ1 w1 ⟨⟨hk, hok⟩, hM1⟩
  refine aE (aA (cX rfl rfl rfl rfl (aB (aC (aE ?_)))))
  refine aS rfl (fun h12 => ?_) (fun h12 => ?_)
  ·obtain ⟨xb, hxb⟩ := cT (k := k) hlen (by omega)
   refine aL (aC (aE (aQ (aE (aA (wq (bN (k) dF rfl rfl rfl ((R.mem hM1).below_len (aG aF hxb)) ((R.mem hM1).someK (aG aF hxb))) rfl (wq (dJ _ bK (R.mem hM1) (aG aF hxb) rfl) rfl (aV fJ hM1 rfl rfl (fun b2 w2 M2 => (bG 0 _ bK M2 rfl rfl rfl rfl rfl (aT rfl) rfl (fun w3 M3 => ?_)))))))))))
   refine aB (aC (aE (aA (wq (aU 0 bK M3 rfl rfl rfl) rfl (bZ aXa rfl rfl (uR _ xb) ?_)))))
   rintro v4 w4 ⟨rfl, hb4⟩
   have M4 := M3.callB hb4
   refine bC rfl rfl (aB (aC (aE (aA (aO rfl rfl (cX rfl rfl rfl rfl (aB (aC ?_))))))))
   refine aS rfl (fun h18 => ?_) (fun h18 => ?_)
   ·refine aE (aA (aO rfl rfl (bC rfl rfl (aB (aC (aP (jP (cH ?_))))))))
    refine pD (jP (cH (cE (.int _ _) rfl ?_)))
    exact ⟨iE (by unfold nF; rw [if_neg (by omega), sG hxb h18 hok]), M4.below⟩
   ·refine aL (cO (aC (aA (wq (aY rfl rfl (by omega) (by omega)) rfl (aO rfl rfl (aB ?_))))))
    refine cD (k + 1) (bA rfl dX) (cL rfl (cL rfl gO)) ?_ ?_
    ·exact ⟨⟨by omega, oS (p := fun _ c => check c = 0) hok hxb (by omega)⟩, M4.keep [false]⟩
    ·omega
  ·refine cV (dD (dK (eO (aC (aE (aA (bC rfl rfl ?_)))))))
   refine aB (aC (aP (cE (.int _ _) rfl ?_)))
   exact ⟨iE (by unfold nF; rw [if_neg (by omega), mO (fun j c hj => hok j c (by have := (List.getElem?_eq_some_iff.1 hj).1; omega) hj)]), hM1.below⟩
theorem aQf {xs : List Body} {k : Nat} {a b : Body} (h : ∀ (j : Nat) (x y : Body), j < k → xs[j]? = some x → xs[j + 1]? = some y → x.key < y.key) (ha : xs[k]? = some a) (hb : xs[k + 1]? = some b) (hab : a.key < b.key) :
  ∀ (j : Nat) (x y : Body), j < k + 1 → xs[j]? = some x → xs[j + 1]? = some y → x.key < y.key := by
 intro j x y hj hx hy
 by_cases e : j = k
 ·subst e
  rw [ha] at hx
  rw [hb] at hy
  injection hx with hx
  injection hy with hy
  subst hx
  subst hy
  exact hab
 ·exact h j x y (by omega) hx hy
set_option maxHeartbeats 4000000 in
theorem aCq (w : World) (A : Option Addr) (n c : Nat) (xs : List Body) (R : Rd w 10 A n (xs.map aF)) :
  Calls Tryz.prog 99 #[.slice A n c] w (fun ex w' => ∃ v, ex = .returned v ∧ (fun v w' => v = .int .i64 (iT xs) ∧ Below w.heap.size w w') v w') := by
 have hlen : xs.length = n := by simpa using R.len
 have hbd := R.bound
 refine aI #[.tmp 2] 28 Tryz.func99 rfl Tryz.results99 Tryz.ntmps99 rfl ?_
 have M0 := Mem.refl w
 refine aE (aA (bC rfl rfl (aB (aC (aE (aE (aA (dN rfl rfl (bZ bGu rfl rfl (aTn _ _ _ _ xs (R.mem M0)) ?_)))))))))
 rintro v1 w1 ⟨rfl, hb1⟩
 have M1 := M0.callB hb1
 refine bC rfl rfl (aB (aC (aE (aA (aO rfl rfl (cX rfl rfl rfl rfl (aB (aC ?_))))))))
 refine aS rfl (fun h8 => ?_) (fun h8 => ?_)
 ·refine aE (aA (aO rfl rfl (bC rfl rfl (aB (aC (aP (cH (cE (.int _ _) rfl ?_))))))))
  exact ⟨iE (by unfold iT; rw [if_pos h8]), M1.below⟩
 ·refine aL (aC (aE (aE (aA (bC rfl rfl (aB (aC (aQ (dQ (σ := Nat) [0] (fun k => [(4, .int .i64 ((k + 1 : Nat) : Int))]) (fun k w' => ((k + 1 ≤ n ∨ k = 0) ∧ ∀ (j : Nat) (x y : Body), j < k → xs[j]? = some x → xs[j + 1]? = some y → x.key < y.key) ∧ Mem w [] [] w') (fun k => n - k) 0 (bA rfl dX) (⟨⟨.inr rfl, fun j x y hj => by omega⟩, M1⟩) ?_)))))))))
  rintro k ρ2 w2 ⟨⟨hk, hadj⟩, hM2⟩
  refine aE (aE (aA (aO rfl rfl (dN rfl rfl (wq (dB Tryz.underlying22 rfl) rfl (cX rfl rfl rfl rfl (aB (aC ?_))))))))
  refine aS rfl (fun h13 => ?_) (fun h13 => ?_)
  ·obtain ⟨xa, hxa⟩ := cT (k := k) hlen (by omega)
   obtain ⟨xb, hxb⟩ := cT (k := k + 1) hlen (by omega)
   refine aL (aC (aE (aQ (aE (bR [(0, 0), (1, 0), (2, 0), (3, 1), (4, 1), (5, 1), (6, 0), (7, 0), (8, 1), (9, 1), (10, 1), (11, 0)] mixed rfl (by kernel_rfl) (fun w3 hb3 hh3 => ?_))))))
   have M3 := hM2.drew hb3 hh3
   refine kQ rfl rfl rfl (eF rfl rfl rfl (aX rfl rfl rfl (fun _ => fX rfl rfl (by omega) (by omega)) (bV rfl rfl rfl (bN (k) dF rfl rfl (by omega) ((R.mem M3).below_len (aG aF hxa)) ((R.mem M3).someK (aG aF hxa))) (bV rfl rfl rfl (bE 0 dH (R.mem M3) (Nat.lt_of_le_of_lt (Nat.zero_le _) ((R.mem M3).below_len (aG aF hxa))) rfl) ?_))))
   refine bV rfl rfl rfl (dV (o := 0) (.int _ _) bU (R.mem M3) (aG aF hxa) rfl rfl) (kQ rfl rfl rfl (eF rfl rfl rfl (bV rfl rfl rfl (bN (k + 1) dF rfl rfl rfl ((R.mem M3).below_len (aG aF hxb)) ((R.mem M3).someK (aG aF hxb))) (bV rfl rfl rfl (bE 0 dH (R.mem M3) (Nat.lt_of_le_of_lt (Nat.zero_le _) ((R.mem M3).below_len (aG aF hxb))) rfl) ?_))))
   refine bV rfl rfl rfl (dV (o := 0) (.int _ _) bU (R.mem M3) (aG aF hxb) rfl rfl) (aX rfl rfl rfl (fun _ => cA (.bool (decide _)) rfl rfl rfl) (bY (aC ?_)))
   refine aS rfl (fun h27 => ?_) (fun h27 => ?_)
   ·refine aE (aA (bC rfl rfl (aB (aC (aP (jP (cH (pD ?_))))))))
    refine jP (cH (cE (.int _ _) rfl ?_))
    exact ⟨iE (by unfold iT; rw [if_neg h8, if_neg (by rw [aBy hxa hxb (by omega)]; decide)]), M3.below⟩
   ·refine aL (cO (aC (aA (aO rfl rfl (wq (aY rfl rfl (by omega) (by omega)) rfl (bC rfl rfl ?_))))))
    refine aB ?_
    refine cD (k + 1) (bA rfl dX) (cL rfl gO) ?_ ?_
    ·exact ⟨⟨.inl (by omega), aQf hadj hxa hxb (by omega)⟩, M3⟩
    ·omega
  ·refine cV (dD (dK (eO (aC (aE (aA (bC rfl rfl ?_)))))))
   refine aB (aC (aP (cE (.int _ _) rfl ?_)))
   exact ⟨iE (by unfold iT; rw [if_neg h8, if_pos (sS fun i x y hx hy => hadj i x y (by have := (List.getElem?_eq_some_iff.1 hy).1; omega) hx hy)]), hM2.below⟩
set_option maxHeartbeats 4000000 in
theorem aJo (w : World) (A : Option Addr) (n c : Nat) (xs : List Body) (R : Rd w 10 A n (xs.map aF)) :
  Calls Tryz.prog 20 #[.slice A n c] w (fun ex w' => ∃ v, ex = .returned v ∧ (fun v w' => v = .int .i64 (iT xs) ∧ Below w.heap.size w w') v w') := by
 have hlen : xs.length = n := by simpa using R.len
 have hbd := R.bound
 refine aI #[.tmp 2] 29 Tryz.func20 rfl Tryz.results20 Tryz.ntmps20 rfl ?_
 have M0 := Mem.refl w
 refine aE (aA (bC rfl rfl (aB (aC (aE (aA (dN rfl rfl (bZ bKf rfl rfl (aOu _ _ _ _ xs (R.mem M0)) ?_))))))))
 rintro v1 w1 ⟨rfl, hb1⟩
 have M1 := M0.callB hb1
 refine bC rfl rfl (aB (aC (aE (aE (aA (aO rfl rfl (cX rfl rfl rfl rfl (aB (aC ?_)))))))))
 refine aS rfl (fun h8 => ?_) (fun h8 => ?_)
 ·refine aE (aA (aO rfl rfl (bC rfl rfl (aB (aC (aP (cH (cE (.int _ _) rfl ?_))))))))
  exact ⟨iE (by unfold iT; rw [if_pos h8]), M1.below⟩
 ·refine aL (aC (aE (aE (aA (bC rfl rfl (aB (aC (aQ (dQ (σ := Nat) [0] (fun k => [(4, .int .i64 (k : Int))]) (fun k w' => ((k + 1 ≤ n ∨ k = 0) ∧ ∀ (j : Nat) (x y : Body), j < k → xs[j]? = some x → xs[j + 1]? = some y → x.key < y.key) ∧ Mem w [] [] w') (fun k => n - k) 0 (bA rfl dX) (⟨⟨.inr rfl, fun j x y hj => by omega⟩, M1⟩) ?_)))))))))
  rintro k ρ2 w2 ⟨⟨hk, hadj⟩, hM2⟩
  refine aE (aE (aA (aO rfl rfl (wq (aY rfl rfl (by omega) (by omega)) rfl (dN rfl rfl (wq (dB Tryz.underlying22 rfl) rfl (cX rfl rfl rfl rfl ?_)))))))
  refine aB (aC ?_)
  refine aS rfl (fun h14 => ?_) (fun h14 => ?_)
  ·obtain ⟨xa, hxa⟩ := cT (k := k) hlen (by omega)
   obtain ⟨xb, hxb⟩ := cT (k := k + 1) hlen (by omega)
   refine aL (aC (aE (aQ (aE (bR [(0, 0), (1, 0), (2, 0), (3, 1), (4, 1), (5, 1), (6, 0), (7, 0), (8, 1), (9, 1), (10, 1), (11, 0)] mixed rfl (by kernel_rfl) (fun w3 hb3 hh3 => ?_))))))
   have M3 := hM2.drew hb3 hh3
   refine kQ rfl rfl rfl (eF rfl rfl rfl (aX rfl rfl rfl (fun _ => aY rfl rfl (by omega) (by omega)) (bV rfl rfl rfl (bN (k + 1) dF rfl rfl rfl ((R.mem M3).below_len (aG aF hxb)) ((R.mem M3).someK (aG aF hxb))) (bV rfl rfl rfl (bE 0 dH (R.mem M3) (Nat.lt_of_le_of_lt (Nat.zero_le _) ((R.mem M3).below_len (aG aF hxb))) rfl) ?_))))
   refine bV rfl rfl rfl (dV (o := 0) (.int _ _) bU (R.mem M3) (aG aF hxb) rfl rfl) (kQ rfl rfl rfl (eF rfl rfl rfl (bV rfl rfl rfl (bN (k) dF rfl rfl rfl ((R.mem M3).below_len (aG aF hxa)) ((R.mem M3).someK (aG aF hxa))) (bV rfl rfl rfl (bE 0 dH (R.mem M3) (Nat.lt_of_le_of_lt (Nat.zero_le _) ((R.mem M3).below_len (aG aF hxa))) rfl) ?_))))
   refine bV rfl rfl rfl (dV (o := 0) (.int _ _) bU (R.mem M3) (aG aF hxa) rfl rfl) (aX rfl rfl rfl (fun _ => cA (.bool (decide _)) rfl rfl rfl) (bY (aC ?_)))
   refine aS rfl (fun h28 => ?_) (fun h28 => ?_)
   ·refine aE (aA (bC rfl rfl (aB (aC (aP (jP (cH (pD ?_))))))))
    refine jP (cH (cE (.int _ _) rfl ?_))
    exact ⟨iE (by unfold iT; rw [if_neg h8, if_neg (by rw [aBy hxa hxb (by omega)]; decide)]), M3.below⟩
   ·refine aL (cO (aC (aA (aO rfl rfl (wq (aY rfl rfl (by omega) (by omega)) rfl (bC rfl rfl ?_))))))
    refine aB ?_
    refine cD (k + 1) (bA rfl dX) (cL rfl gO) ?_ ?_
    ·exact ⟨⟨.inl (by omega), aQf hadj hxa hxb (by omega)⟩, M3⟩
    ·omega
  ·refine cV (dD (dK (eO (aC (aE (aA (bC rfl rfl ?_)))))))
   refine aB (aC (aP (cE (.int _ _) rfl ?_)))
   exact ⟨iE (by unfold iT; rw [if_neg h8, if_pos (sS fun i x y hx hy => hadj i x y (by have := (List.getElem?_eq_some_iff.1 hy).1; omega) hx hy)]), hM2.below⟩
set_option maxHeartbeats 4000000 in
theorem aCk (w : World) (b : Body) (key : Int) :
  Calls Tryz.prog 140 #[(.agg (aF b).toArray), .int .u32 key] w (fun ex w' => ∃ v, ex = .returned v ∧ (fun v w' => v = .int .i64 (oJ b.key key) ∧ Below w.heap.size w w') v w') := by
 refine aI #[.tmp 4] 9 Tryz.func140 rfl Tryz.results140 Tryz.ntmps140 rfl ?_
 have M0 := Mem.refl w
 refine aE (aA (bP (.agg (List.toArray _)) M0 rfl rfl rfl (fun b1 w1 M1 => (bC rfl rfl (aB (aC (aE (aA (wq (aD 0 dH rfl) rfl (wq (aM 0 (.int _ _) bU M1 rfl rfl rfl) rfl ?_))))))))))
 refine aO rfl rfl (bZ aRd rfl rfl (mM _ _ _) ?_)
 rintro v2 w2 ⟨rfl, rfl⟩
 have M2 : Mem _ _ [_] _ := M1
 refine bC rfl rfl (aB (aC (aP (cE (.int _ _) rfl ?_))))
 exact ⟨rfl, M2.below⟩
set_option maxHeartbeats 4000000 in
theorem rZ (w : World) (key : Int) (A : Option Addr) (n c : Nat) (xs : List Body) (R : Rd w 10 A n (xs.map aF)) (hs : cS xs) :
  Calls Tryz.prog 139 #[.slice A n c, .int .u32 key, .func (.func 140) #[] #[]] w (fun ex w' => ∃ v, ex = .returned v ∧ (fun v w' => v = .tuple #[.int .i64 (zD key xs : Int), .bool (decide (0 ≤ dG key xs))] ∧ Below w.heap.size w w') v w') := by
 have hlen : xs.length = n := by simpa using R.len
 have hbd := R.bound
 refine aI #[.tmp 6, .tmp 7] 49 Tryz.func139 rfl Tryz.results139 Tryz.ntmps139 rfl ?_
 have M0 := Mem.refl w
 refine aE (aA (bC rfl rfl (wq (aJ (.bool false) rfl) rfl (aB (aC (aE (aA (dN rfl rfl (wq (dB Tryz.underlying22 rfl) rfl ?_)))))))))
 refine bC rfl rfl (aB (aC (aE (aA (aO rfl rfl (bC rfl rfl (bC rfl rfl (aB (aC (aE (aQ ?_)))))))))))
 refine dQ (σ := Nat × Nat) [0, 1, 2, 6, 7, 8] (fun (i, j) => [(9, .int .i64 (i : Int)), (10, .int .i64 (j : Int))]) (fun (i, j) w' => (i ≤ j ∧ j ≤ n ∧ (∀ (p : Nat) (c : Body), p < i → xs[p]? = some c → c.key < key) ∧ ∀ (p : Nat) (c : Body), j ≤ p → xs[p]? = some c → ¬ c.key < key) ∧ Mem w [] [] w') (fun (i, j) => j - i) (0, n) (bA rfl (bA rfl dX)) (⟨⟨by omega, by omega, fun p c h => by omega, fun p c h hc => by have := (List.getElem?_eq_some_iff.1 hc).1; omega⟩, M0⟩) ?_
 rintro ⟨i, j⟩ ρ1 w1 ⟨⟨hij, hjn, hlo, hhi⟩, hM1⟩
 refine aE (aE (aA (aO rfl rfl (aO rfl rfl (cX rfl rfl rfl rfl (aB (aC ?_)))))))
 refine aS rfl (fun h17 => ?_) (fun h17 => ?_)
 ·obtain ⟨xb, hxb⟩ := cT (k := (i + j) / 2) hlen (by omega)
  refine aL (aC (aQ (aE (aA (aO rfl rfl (aO rfl rfl (wq (aY rfl rfl (by omega) (by omega)) rfl (wq (aZ us3 Tryz.underlying136 rfl (kH _ (by omega) (by omega))) rfl (wq (jH rfl rfl (by decide)) rfl ?_)))))))))
  refine aK 22 (.int .u64 (((i + j) / 2 : Nat) : Int)) (iE (bMr i j)) (wq (aZ bMb Tryz.underlying3 rfl (fC _ (by omega) (by omega))) rfl (bC rfl rfl (aB (aC (aE (aA (wq (aH (.func _ _ _) rfl) rfl (dN rfl rfl ?_))))))))
  refine aO rfl rfl (wq (bN ((i + j) / 2) dF rfl rfl rfl ((R.mem hM1).below_len (aG aF hxb)) ((R.mem hM1).someK (aG aF hxb))) rfl (wq (dJ _ bK (R.mem hM1) (aG aF hxb) rfl) rfl (aO rfl rfl (bZ aYe rfl rfl (aCk _ xb key) ?_))))
  rintro v2 w2 ⟨rfl, hb2⟩
  have M2 := hM1.callB hb2
  refine cX rfl rfl rfl rfl (aB (aC ?_))
  refine aS rfl (fun h31 => ?_) (fun h31 => ?_)
  ·refine aA (aO rfl rfl (wq (aY rfl rfl (by omega) (by omega)) rfl (bC rfl rfl (aB (cO ?_)))))
   refine cD ((i + j) / 2 + 1, j) (bA rfl (bA rfl dX)) (cL rfl (cL rfl (cL rfl (cL rfl (cL rfl (cL rfl gO)))))) ?_ ?_
   ·exact ⟨⟨by omega, hjn, fun p c hp hc => by have := yO hs (show p ≤ (i + j) / 2 by omega) hc hxb; have := wI.1 h31; omega, hhi⟩, M2⟩
   ·(show j - ((i + j) / 2 + 1) < j - i; omega)
  ·refine aA (aO rfl rfl (bC rfl rfl (aB (cO ?_))))
   refine cD (i, (i + j) / 2) (bA rfl (bA rfl dX)) (cL rfl (cL rfl (cL rfl (cL rfl (cL rfl (cL rfl gO)))))) ?_ ?_
   ·exact ⟨⟨by omega, by omega, hlo, fun p c hp hc => by have := yO hs hp hxb hc; have := mt wI.2 h31; omega⟩, M2⟩
   ·(show (i + j) / 2 - i < j - i; omega)
 ·have hij' : i = j := by omega
  have hless := vP (key := key) (xs := xs) (k := i) (by omega) hlo (by rw [hij']; exact hhi)
  refine cV (dD (dK (eO (aC (aE (aA (aO rfl rfl ?_)))))))
  refine aO rfl rfl (aO rfl rfl (cX rfl rfl rfl rfl (wq (aH (.bool (decide _)) rfl) rfl ?_)))
  refine dI 39 rfl (fun g39 => ?_) (fun g39 => ?_)
  ·obtain ⟨xi, hxi⟩ := cT (k := i) hlen (by omega)
   refine wq (aH (.func _ _ _) rfl) rfl (dN rfl rfl (aO rfl rfl (wq (bN (i) dF rfl rfl rfl ((R.mem hM1).below_len (aG aF hxi)) ((R.mem hM1).someK (aG aF hxi))) rfl (wq (dJ _ bK (R.mem hM1) (aG aF hxi) rfl) rfl (aO rfl rfl ?_)))))
   refine bZ aYe rfl rfl (aCk _ xi key) ?_
   rintro v3 w3 ⟨rfl, hb3⟩
   have M3 := hM1.callB hb3
   refine cX rfl rfl rfl rfl (wq (bM true (.bool (decide _)) rfl rfl) rfl (bC rfl rfl (wq (aJ (.bool (decide _)) rfl) rfl (aB (aC (aP (gA (.int _ _) (.bool (decide _)) rfl rfl ?_)))))))
   exact ⟨rN (iE (by rw [hless])) (bD (aTp hs hxi hlo (by rw [hij']; exact hhi))), M3.below⟩
  ·refine aN rfl rfl (aN rfl rfl (aN rfl rfl (aN rfl rfl (aN rfl rfl (aN rfl rfl ?_)))))
   refine aN rfl rfl (aN rfl rfl (wq (bM false (.bool false) rfl rfl) rfl (bC rfl rfl (wq (aJ (.bool false) rfl) rfl (aB (aC (aP ?_)))))))
   refine gA (.int _ _) (.bool false) rfl rfl ?_
   exact ⟨rN (iE (by rw [hless])) (bF (aOi fun p c hp hc => hlo p c (by omega) hc)), hM1.below⟩
set_option maxHeartbeats 4000000 in
theorem sT (w : World) (key : Int) (A : Option Addr) (n c : Nat) (xs : List Body) (R : Rd w 10 A n (xs.map aF)) (hs : cS xs) :
  Calls Tryz.prog 109 #[.slice A n c, .int .u32 key] w (fun ex w' => ∃ v, ex = .returned v ∧ (fun v w' => v = .tuple #[.int .i64 (zD key xs : Int), .bool (decide (0 ≤ dG key xs))] ∧ Below w.heap.size w w') v w') := by
 refine aI #[.tmp 4, .tmp 5] 11 Tryz.func109 rfl Tryz.results109 Tryz.ntmps109 rfl ?_
 have M0 := Mem.refl w
 refine aE (aA (bC rfl rfl (wq (aJ (.bool false) rfl) rfl (aB (aC (aE (aA (dN rfl rfl (aO rfl rfl ?_)))))))))
 refine bZ bGn rfl rfl (rZ _ key _ _ _ xs (R.mem M0) hs) ?_
 rintro v1 w1 ⟨rfl, hb1⟩
 have M1 := M0.callB hb1
 refine wq (bO (.int _ _) rfl rfl) rfl (wq (bO (.bool (decide _)) rfl rfl) rfl (bC rfl rfl (wq (aJ (.bool (decide _)) rfl) rfl (aB (aC (aP (gA (.int _ _) (.bool (decide _)) rfl rfl ?_)))))))
 exact ⟨rfl, M1.below⟩
end Go.Proofs.YtlmcphcgiclanaaGreatDoor
