/- Part of the proof of the laws of this seat: Aw, V7. No conditions. -/
import Derived.Test.YtaoaknafiegfoaaGreatDoorK5
import Derived.Test.YtaoaknafiegfoaaGreatDoorK22
import Derived.Test.YtaoaknafiegfoaaGreatDoorK23
import Derived.Test.YtaoaknafiegfoaaGreatDoorK2
import Derived.Test.YtaoaknafiegfoaaGreatDoorK6
set_option linter.unusedVariables false
set_option linter.unusedSimpArgs false
set_option linter.unnecessarySimpa false
namespace Go.Proofs.YtaoaknafiegfoaaGreatDoor
open Go.Bil
open Go.RowKit (Below)
open Go.Proofs
set_option maxHeartbeats 4000000 in
theorem aRq (w : World) (A : Option Addr) (n c : Nat) (xs : List Body) (R : Rd w 10 A n (xs.map aF)) :
  Calls Tryz.prog 119 #[.slice A n c] w (fun ex w' => ∃ v, ex = .returned v ∧ (fun v w' => v = .int .i64 (pC xs) ∧ Below w.heap.size w w') v w') := by
 have hlen : xs.length = n := by simpa using R.len
 have hbd := R.bound
 refine aH #[.tmp 2] 21 Tryz.func119 rfl Tryz.results119 Tryz.ntmps119 rfl ?_
 have M0 := Mem.refl w
 refine aD (aA (bP rfl rfl (aB (aC (aD (aD (aA (eG rfl rfl (wq (cP Tryz.underlying29 rfl) rfl (dA rfl rfl rfl rfl ?_))))))))))
 refine aB (aC ?_)
 refine aZ rfl (fun h8 => ?_) (fun h8 => ?_)
 ·refine aD (aA (bP rfl rfl (aB (aC (aM (cE (bW (.int _ _) rfl ?_)))))))
  exact ⟨iE (by unfold pC; rw [if_pos (by omega)]), M0.below⟩
 ·refine aK (aC (aD (aD (aA (eG rfl rfl (wq (cP Tryz.underlying29 rfl) rfl (aY rfl rfl (aB (aC (aS (dK (σ := Nat) [9, 10] (fun k => [(11, .int .i64 (k : Int))]) (fun k w' => (k ≤ n ∧ ∀ (j : Nat) (c : Body), j < k → xs[j]? = some c → check c = 0) ∧ Mem w [] [] w') (fun k => n - k) 0 (bR rfl eZ) (⟨⟨by omega, fun j c hj => by omega⟩, M0⟩) ?_)))))))))))
  rintro k ρ1 w1 ⟨⟨hk, hok⟩, hM1⟩
  refine aD (aA (dA rfl rfl rfl rfl (aB (aC (aD ?_)))))
  refine aZ rfl (fun h12 => ?_) (fun h12 => ?_)
  ·obtain ⟨xb, hxb⟩ := cI (k := k) hlen (by omega)
   refine aK (aC (aD (aS (aD (aA (wq (bN (k) dW rfl rfl rfl ((R.mem hM1).below_len (aJ aF hxb)) ((R.mem hM1).someK (aJ aF hxb))) rfl (wq (dC _ bS (R.mem hM1) (aJ aF hxb) rfl) rfl (aQ gS hM1 rfl rfl (fun b2 w2 M2 => (bB 0 _ bS M2 rfl rfl rfl rfl rfl (aR rfl) rfl (fun w3 M3 => ?_)))))))))))
   refine aB (aC (aD (aA (wq (bC 0 bS M3 rfl rfl rfl) rfl (bX aLt rfl rfl (sE _ xb) ?_)))))
   rintro v4 w4 ⟨rfl, hb4⟩
   have M4 := M3.callB hb4
   refine bP rfl rfl (aB (aC (aD (aA (aY rfl rfl (dA rfl rfl rfl rfl (aB (aC ?_))))))))
   refine aZ rfl (fun h18 => ?_) (fun h18 => ?_)
   ·refine aD (aA (aY rfl rfl (bP rfl rfl (aB (aC (aM (iY (cE ?_))))))))
    refine qD (iY (cE (bW (.int _ _) rfl ?_)))
    exact ⟨iE (by unfold pC; rw [if_neg (by omega), vY hxb h18 hok]), M4.below⟩
   ·refine aK (dE (aC (aA (wq (bU rfl rfl (by omega) (by omega)) rfl (aY rfl rfl (aB ?_))))))
    refine cS (k + 1) (bR rfl eZ) (cV rfl (cV rfl jQ)) ?_ ?_
    ·exact ⟨⟨by omega, oK (p := fun _ c => check c = 0) hok hxb (by omega)⟩, M4.keep [false]⟩
    ·omega
  ·refine cR (cZ (cX (eQ (aC (aD (aA (bP rfl rfl ?_)))))))
   refine aB (aC (aM (bW (.int _ _) rfl ?_)))
   exact ⟨iE (by unfold pC; rw [if_neg (by omega), mW (fun j c hj => hok j c (by have := (List.getElem?_eq_some_iff.1 hj).1; omega) hj)]), hM1.below⟩
theorem aZu {xs : List Body} {k : Nat} {a b : Body} (h : ∀ (j : Nat) (x y : Body), j < k → xs[j]? = some x → xs[j + 1]? = some y → x.key < y.key) (ha : xs[k]? = some a) (hb : xs[k + 1]? = some b) (hab : a.key < b.key) :
  ∀ (j : Nat) (x y : Body), j < k + 1 → xs[j]? = some x → xs[j + 1]? = some y → x.key < y.key := by
 intro j x y hj hx hy
 by_cases e : j = k
 ·subst e
  rw [ha] at hx
  rw [hb] at hy
  injection hx with hx
  injection hy with hy
  subst hx
  subst hy
  exact hab
 ·exact h j x y (by omega) hx hy
set_option maxHeartbeats 4000000 in
theorem yI (w : World) (A : Option Addr) (n c : Nat) (xs : List Body) (R : Rd w 10 A n (xs.map aF)) :
  Calls Tryz.prog 82 #[.slice A n c] w (fun ex w' => ∃ v, ex = .returned v ∧ (fun v w' => v = .int .i64 (gQ xs) ∧ Below w.heap.size w w') v w') := by
 have hlen : xs.length = n := by simpa using R.len
 have hbd := R.bound
 refine aH #[.tmp 2] 28 Tryz.func82 rfl Tryz.results82 Tryz.ntmps82 rfl ?_
 have M0 := Mem.refl w
 refine aD (aA (bP rfl rfl (aB (aC (aD (aD (aA (eG rfl rfl (bX bDb rfl rfl (aRq _ _ _ _ xs (R.mem M0)) ?_)))))))))
 rintro v1 w1 ⟨rfl, hb1⟩
 have M1 := M0.callB hb1
 refine bP rfl rfl (aB (aC (aD (aA (aY rfl rfl (dA rfl rfl rfl rfl (aB (aC ?_))))))))
 refine aZ rfl (fun h8 => ?_) (fun h8 => ?_)
 ·refine aD (aA (aY rfl rfl (bP rfl rfl (aB (aC (aM (cE (bW (.int _ _) rfl ?_))))))))
  exact ⟨iE (by unfold gQ; rw [if_pos h8]), M1.below⟩
 ·refine aK (aC (aD (aD (aA (bP rfl rfl (aB (aC (aS (dK (σ := Nat) [0] (fun k => [(4, .int .i64 ((k + 1 : Nat) : Int))]) (fun k w' => ((k + 1 ≤ n ∨ k = 0) ∧ ∀ (j : Nat) (x y : Body), j < k → xs[j]? = some x → xs[j + 1]? = some y → x.key < y.key) ∧ Mem w [] [] w') (fun k => n - k) 0 (bR rfl eZ) (⟨⟨.inr rfl, fun j x y hj => by omega⟩, M1⟩) ?_)))))))))
  rintro k ρ2 w2 ⟨⟨hk, hadj⟩, hM2⟩
  refine aD (aD (aA (aY rfl rfl (eG rfl rfl (wq (cP Tryz.underlying29 rfl) rfl (dA rfl rfl rfl rfl (aB (aC ?_))))))))
  refine aZ rfl (fun h13 => ?_) (fun h13 => ?_)
  ·obtain ⟨xa, hxa⟩ := cI (k := k) hlen (by omega)
   obtain ⟨xb, hxb⟩ := cI (k := k + 1) hlen (by omega)
   refine aK (aC (aD (aS (aD (bO [(0, 0), (1, 0), (2, 0), (3, 1), (4, 1), (5, 1), (6, 0), (7, 0), (8, 1), (9, 1), (10, 1), (11, 0)] mixed rfl (by kernel_rfl) (fun w3 hb3 hh3 => ?_))))))
   have M3 := hM2.drew hb3 hh3
   refine oF rfl rfl rfl (fV rfl rfl rfl (aV rfl rfl rfl (fun _ => mD rfl rfl (by omega) (by omega)) (bV rfl rfl rfl (bN (k) dW rfl rfl (by omega) ((R.mem M3).below_len (aJ aF hxa)) ((R.mem M3).someK (aJ aF hxa))) (bV rfl rfl rfl (bJ 0 eP (R.mem M3) (Nat.lt_of_le_of_lt (Nat.zero_le _) ((R.mem M3).below_len (aJ aF hxa))) rfl) ?_))))
   refine bV rfl rfl rfl (eJ (o := 0) (.int _ _) cC (R.mem M3) (aJ aF hxa) rfl rfl) (oF rfl rfl rfl (fV rfl rfl rfl (bV rfl rfl rfl (bN (k + 1) dW rfl rfl rfl ((R.mem M3).below_len (aJ aF hxb)) ((R.mem M3).someK (aJ aF hxb))) (bV rfl rfl rfl (bJ 0 eP (R.mem M3) (Nat.lt_of_le_of_lt (Nat.zero_le _) ((R.mem M3).below_len (aJ aF hxb))) rfl) ?_))))
   refine bV rfl rfl rfl (eJ (o := 0) (.int _ _) cC (R.mem M3) (aJ aF hxb) rfl rfl) (aV rfl rfl rfl (fun _ => dO (.bool (decide _)) rfl rfl rfl) (cD (aC ?_)))
   refine aZ rfl (fun h27 => ?_) (fun h27 => ?_)
   ·refine aD (aA (bP rfl rfl (aB (aC (aM (iY (cE (qD ?_))))))))
    refine iY (cE (bW (.int _ _) rfl ?_))
    exact ⟨iE (by unfold gQ; rw [if_neg h8, if_neg (by rw [aJg hxa hxb (by omega)]; decide)]), M3.below⟩
   ·refine aK (dE (aC (aA (aY rfl rfl (wq (bU rfl rfl (by omega) (by omega)) rfl (bP rfl rfl ?_))))))
    refine aB ?_
    refine cS (k + 1) (bR rfl eZ) (cV rfl jQ) ?_ ?_
    ·exact ⟨⟨.inl (by omega), aZu hadj hxa hxb (by omega)⟩, M3⟩
    ·omega
  ·refine cR (cZ (cX (eQ (aC (aD (aA (bP rfl rfl ?_)))))))
   refine aB (aC (aM (bW (.int _ _) rfl ?_)))
   exact ⟨iE (by unfold gQ; rw [if_neg h8, if_pos (vL fun i x y hx hy => hadj i x y (by have := (List.getElem?_eq_some_iff.1 hy).1; omega) hx hy)]), hM2.below⟩
set_option maxHeartbeats 4000000 in
theorem xW (w : World) (b : Body) (key : Int) :
  Calls Tryz.prog 188 #[(.agg (aF b).toArray), .int .u32 key] w (fun ex w' => ∃ v, ex = .returned v ∧ (fun v w' => v = .int .i64 (lX b.key key) ∧ Below w.heap.size w w') v w') := by
 refine aH #[.tmp 4] 9 Tryz.func188 rfl Tryz.results188 Tryz.ntmps188 rfl ?_
 have M0 := Mem.refl w
 refine aD (aA (bG (.agg (List.toArray _)) M0 rfl rfl rfl (fun b1 w1 M1 => (bP rfl rfl (aB (aC (aD (aA (wq (aE 0 eP rfl) rfl (wq (aL 0 (.int _ _) cC M1 rfl rfl rfl) rfl ?_))))))))))
 refine aY rfl rfl (bX aEw rfl rfl (kG _ _ _) ?_)
 rintro v2 w2 ⟨rfl, rfl⟩
 have M2 : Mem _ _ [_] _ := M1
 refine bP rfl rfl (aB (aC (aM (bW (.int _ _) rfl ?_))))
 exact ⟨rfl, M2.below⟩
set_option maxHeartbeats 4000000 in
theorem pZ (w : World) (key : Int) (A : Option Addr) (n c : Nat) (xs : List Body) (R : Rd w 10 A n (xs.map aF)) (hs : cA xs) :
  Calls Tryz.prog 187 #[.slice A n c, .int .u32 key, .func (.func 188) #[] #[]] w (fun ex w' => ∃ v, ex = .returned v ∧ (fun v w' => v = .tuple #[.int .i64 (vO key xs : Int), .bool (decide (0 ≤ cK key xs))] ∧ Below w.heap.size w w') v w') := by
 have hlen : xs.length = n := by simpa using R.len
 have hbd := R.bound
 refine aH #[.tmp 6, .tmp 7] 49 Tryz.func187 rfl Tryz.results187 Tryz.ntmps187 rfl ?_
 have M0 := Mem.refl w
 refine aD (aA (bP rfl rfl (wq (aI (.bool false) rfl) rfl (aB (aC (aD (aA (eG rfl rfl (wq (cP Tryz.underlying29 rfl) rfl ?_)))))))))
 refine bP rfl rfl (aB (aC (aD (aA (aY rfl rfl (bP rfl rfl (bP rfl rfl (aB (aC (aD (aS ?_)))))))))))
 refine dK (σ := Nat × Nat) [0, 1, 2, 6, 7, 8] (fun (i, j) => [(9, .int .i64 (i : Int)), (10, .int .i64 (j : Int))]) (fun (i, j) w' => (i ≤ j ∧ j ≤ n ∧ (∀ (p : Nat) (c : Body), p < i → xs[p]? = some c → c.key < key) ∧ ∀ (p : Nat) (c : Body), j ≤ p → xs[p]? = some c → ¬ c.key < key) ∧ Mem w [] [] w') (fun (i, j) => j - i) (0, n) (bR rfl (bR rfl eZ)) (⟨⟨by omega, by omega, fun p c h => by omega, fun p c h hc => by have := (List.getElem?_eq_some_iff.1 hc).1; omega⟩, M0⟩) ?_
 rintro ⟨i, j⟩ ρ1 w1 ⟨⟨hij, hjn, hlo, hhi⟩, hM1⟩
 refine aD (aD (aA (aY rfl rfl (aY rfl rfl (dA rfl rfl rfl rfl (aB (aC ?_)))))))
 refine aZ rfl (fun h17 => ?_) (fun h17 => ?_)
 ·obtain ⟨xb, hxb⟩ := cI (k := (i + j) / 2) hlen (by omega)
  refine aK (aC (aS (aD (aA (aY rfl rfl (aY rfl rfl (wq (bU rfl rfl (by omega) (by omega)) rfl (wq (bZ us3 Tryz.underlying178 rfl (iP _ (by omega) (by omega))) rfl (wq (gM rfl rfl (by decide)) rfl ?_)))))))))
  refine aT 22 (.int .u64 (((i + j) / 2 : Nat) : Int)) (iE (bKc i j)) (wq (bZ bIl Tryz.underlying3 rfl (kQ _ (by omega) (by omega))) rfl (bP rfl rfl (aB (aC (aD (aA (wq (aG (.func _ _ _) rfl) rfl (eG rfl rfl ?_))))))))
  refine aY rfl rfl (wq (bN ((i + j) / 2) dW rfl rfl rfl ((R.mem hM1).below_len (aJ aF hxb)) ((R.mem hM1).someK (aJ aF hxb))) rfl (wq (dC _ bS (R.mem hM1) (aJ aF hxb) rfl) rfl (aY rfl rfl (bX aUw rfl rfl (xW _ xb key) ?_))))
  rintro v2 w2 ⟨rfl, hb2⟩
  have M2 := hM1.callB hb2
  refine dA rfl rfl rfl rfl (aB (aC ?_))
  refine aZ rfl (fun h31 => ?_) (fun h31 => ?_)
  ·refine aA (aY rfl rfl (wq (bU rfl rfl (by omega) (by omega)) rfl (bP rfl rfl (aB (dE ?_)))))
   refine cS ((i + j) / 2 + 1, j) (bR rfl (bR rfl eZ)) (cV rfl (cV rfl (cV rfl (cV rfl (cV rfl (cV rfl jQ)))))) ?_ ?_
   ·exact ⟨⟨by omega, hjn, fun p c hp hc => by have := wK hs (show p ≤ (i + j) / 2 by omega) hc hxb; have := tJ.1 h31; omega, hhi⟩, M2⟩
   ·(show j - ((i + j) / 2 + 1) < j - i; omega)
  ·refine aA (aY rfl rfl (bP rfl rfl (aB (dE ?_))))
   refine cS (i, (i + j) / 2) (bR rfl (bR rfl eZ)) (cV rfl (cV rfl (cV rfl (cV rfl (cV rfl (cV rfl jQ)))))) ?_ ?_
   ·exact ⟨⟨by omega, by omega, hlo, fun p c hp hc => by have := wK hs hp hxb hc; have := mt tJ.2 h31; omega⟩, M2⟩
   ·(show (i + j) / 2 - i < j - i; omega)
 ·have hij' : i = j := by omega
  have hless := tQ (key := key) (xs := xs) (k := i) (by omega) hlo (by rw [hij']; exact hhi)
  refine cR (cZ (cX (eQ (aC (aD (aA (aY rfl rfl ?_)))))))
  refine aY rfl rfl (aY rfl rfl (dA rfl rfl rfl rfl (wq (aG (.bool (decide _)) rfl) rfl ?_)))
  refine cU 39 rfl (fun g39 => ?_) (fun g39 => ?_)
  ·obtain ⟨xi, hxi⟩ := cI (k := i) hlen (by omega)
   refine wq (aG (.func _ _ _) rfl) rfl (eG rfl rfl (aY rfl rfl (wq (bN (i) dW rfl rfl rfl ((R.mem hM1).below_len (aJ aF hxi)) ((R.mem hM1).someK (aJ aF hxi))) rfl (wq (dC _ bS (R.mem hM1) (aJ aF hxi) rfl) rfl (aY rfl rfl ?_)))))
   refine bX aUw rfl rfl (xW _ xi key) ?_
   rintro v3 w3 ⟨rfl, hb3⟩
   have M3 := hM1.callB hb3
   refine dA rfl rfl rfl rfl (wq (bQ true (.bool (decide _)) rfl rfl) rfl (bP rfl rfl (wq (aI (.bool (decide _)) rfl) rfl (aB (aC (aM (iH (.int _ _) (.bool (decide _)) rfl rfl ?_)))))))
   exact ⟨aAu (iE (by rw [hless])) (bD (aRe hs hxi hlo (by rw [hij']; exact hhi))), M3.below⟩
  ·refine aN rfl rfl (aN rfl rfl (aN rfl rfl (aN rfl rfl (aN rfl rfl (aN rfl rfl ?_)))))
   refine aN rfl rfl (aN rfl rfl (wq (bQ false (.bool false) rfl rfl) rfl (bP rfl rfl (wq (aI (.bool false) rfl) rfl (aB (aC (aM ?_)))))))
   refine iH (.int _ _) (.bool false) rfl rfl ?_
   exact ⟨aAu (iE (by rw [hless])) (bF (aJi fun p c hp hc => hlo p c (by omega) hc)), hM1.below⟩
set_option maxHeartbeats 4000000 in
theorem qY (w : World) (key : Int) (A : Option Addr) (n c : Nat) (xs : List Body) (R : Rd w 10 A n (xs.map aF)) (hs : cA xs) :
  Calls Tryz.prog 161 #[.slice A n c, .int .u32 key] w (fun ex w' => ∃ v, ex = .returned v ∧ (fun v w' => v = .tuple #[.int .i64 (vO key xs : Int), .bool (decide (0 ≤ cK key xs))] ∧ Below w.heap.size w w') v w') := by
 refine aH #[.tmp 4, .tmp 5] 11 Tryz.func161 rfl Tryz.results161 Tryz.ntmps161 rfl ?_
 have M0 := Mem.refl w
 refine aD (aA (bP rfl rfl (wq (aI (.bool false) rfl) rfl (aB (aC (aD (aA (eG rfl rfl (aY rfl rfl ?_)))))))))
 refine bX bDt rfl rfl (pZ _ key _ _ _ xs (R.mem M0) hs) ?_
 rintro v1 w1 ⟨rfl, hb1⟩
 have M1 := M0.callB hb1
 refine wq (bE (.int _ _) rfl rfl) rfl (wq (bE (.bool (decide _)) rfl rfl) rfl (bP rfl rfl (wq (aI (.bool (decide _)) rfl) rfl (aB (aC (aM (iH (.int _ _) (.bool (decide _)) rfl rfl ?_)))))))
 exact ⟨rfl, M1.below⟩
end Go.Proofs.YtaoaknafiegfoaaGreatDoor
