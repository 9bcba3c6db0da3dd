/- Part of the proof of the laws of this seat: Aw, V7. No conditions. -/
import Derived.Test.YtaoaknafiegfoaaGreatDoorK5
import Derived.Test.YtaoaknafiegfoaaGreatDoorK22
import Derived.Test.YtaoaknafiegfoaaGreatDoorK23
import Derived.Test.YtaoaknafiegfoaaGreatDoorK2
import Derived.Test.YtaoaknafiegfoaaGreatDoorK6
set_option linter.unusedVariables false
set_option linter.unusedSimpArgs false
set_option linter.unnecessarySimpa false
namespace Go.Proofs.YtaoaknafiegfoaaGreatDoor
open Go.Bil
open Go.RowKit (Below)
open Go.Proofs
set_option maxHeartbeats 4000000 in
theorem aPu (w : World) (A : Option Addr) (n c : Nat) (xs : List Body) (R : Rd w 10 A n (xs.map aF)) :
  Calls Tryz.prog 103 #[.slice A n c] w (fun ex w' => ∃ v, ex = .returned v ∧ (fun v w' => v = .int .i64 (oA xs) ∧ Below w.heap.size w w') v w') := by
 have hlen : xs.length = n := by simpa using R.len
 have hbd := R.bound
 refine aI #[.tmp 2] 22 Tryz.func103 rfl Tryz.results103 Tryz.ntmps103 rfl ?_
 have M0 := Mem.refl w
 refine aE (aA (bI rfl rfl (aB (aC (aE (aE (aA (dO rfl rfl (wq (dC Tryz.underlying29 rfl) rfl (cZ rfl rfl rfl rfl ?_))))))))))
 refine aB (aC ?_)
 refine aW rfl (fun h7 => ?_) (fun h7 => ?_)
 ·refine aE (aA (bI rfl rfl (aB (aC (aO (cM (cD (.int _ _) rfl ?_)))))))
  exact ⟨iE (by unfold oA; rw [if_pos (by omega)]), M0.below⟩
 ·refine aL (aC (aE (aE (aA (bI rfl rfl (aB (aC (aQ (dS (σ := Nat) [0] (fun k => [(3, .int .i64 (k : Int))]) (fun k w' => (k ≤ n ∧ ∀ (j : Nat) (c : Body), j < k → xs[j]? = some c → check c = 0) ∧ Mem w [] [] w') (fun k => n - k) 0 (bA rfl eB) (⟨⟨by omega, fun j c hj => by omega⟩, M0⟩) ?_)))))))))
  rintro k ρ1 w1 ⟨⟨hk, hok⟩, hM1⟩
  refine aE (aE (aA (aP rfl rfl (dO rfl rfl (wq (dC Tryz.underlying29 rfl) rfl (cZ rfl rfl rfl rfl (aB (aC ?_))))))))
  refine aW rfl (fun h11 => ?_) (fun h11 => ?_)
  ·obtain ⟨xb, hxb⟩ := cS (k := k) hlen (by omega)
   refine aL (aC (aE (aQ (aE (aA (dO rfl rfl (aP rfl rfl (wq (bP (k) dH rfl rfl rfl ((R.mem hM1).below_len (aG aF hxb)) ((R.mem hM1).someK (aG aF hxb))) rfl (wq (dN _ bO (R.mem hM1) (aG aF hxb) rfl) rfl (bY bKi rfl rfl (aAd _ xb) ?_))))))))))
   rintro v2 w2 ⟨rfl, hb2⟩
   have M2 := hM1.callB hb2
   refine bI rfl rfl (aB (aC (aE (aA (aP rfl rfl (cZ rfl rfl rfl rfl (aB (aC ?_))))))))
   refine aW rfl (fun h20 => ?_) (fun h20 => ?_)
   ·refine aE (aA (aP rfl rfl (bI rfl rfl (aB (aC (aO (kO (cM ?_))))))))
    refine rS (kO (cM (cD (.int _ _) rfl ?_)))
    exact ⟨iE (by unfold oA; rw [if_neg (by omega), tK hxb h20 hok]), M2.below⟩
   ·refine aL (cV (aC (aA (aP rfl rfl (wq (aY rfl rfl (by omega) (by omega)) rfl (bI rfl rfl ?_))))))
    refine aB ?_
    refine cG (k + 1) (bA rfl eB) (cN rfl gV) ?_ ?_
    ·exact ⟨⟨by omega, pI (p := fun _ c => check c = 0) hok hxb (by omega)⟩, M2⟩
    ·omega
  ·refine cX (dF (dK (eS (aC (aE (aA (bI rfl rfl ?_)))))))
   refine aB (aC (aO (cD (.int _ _) rfl ?_)))
   exact ⟨iE (by unfold oA; rw [if_neg (by omega), nC (fun j c hj => hok j c (by have := (List.getElem?_eq_some_iff.1 hj).1; omega) hj)]), hM1.below⟩
set_option maxHeartbeats 4000000 in
theorem aYn (w : World) (A : Option Addr) (n c : Nat) (xs : List Body) (R : Rd w 10 A n (xs.map aF)) :
  Calls Tryz.prog 119 #[.slice A n c] w (fun ex w' => ∃ v, ex = .returned v ∧ (fun v w' => v = .int .i64 (oA xs) ∧ Below w.heap.size w w') v w') := by
 have hlen : xs.length = n := by simpa using R.len
 have hbd := R.bound
 refine aI #[.tmp 2] 21 Tryz.func119 rfl Tryz.results119 Tryz.ntmps119 rfl ?_
 have M0 := Mem.refl w
 refine aE (aA (bI rfl rfl (aB (aC (aE (aE (aA (dO rfl rfl (wq (dC Tryz.underlying29 rfl) rfl (cZ rfl rfl rfl rfl ?_))))))))))
 refine aB (aC ?_)
 refine aW rfl (fun h8 => ?_) (fun h8 => ?_)
 ·refine aE (aA (bI rfl rfl (aB (aC (aO (cM (cD (.int _ _) rfl ?_)))))))
  exact ⟨iE (by unfold oA; rw [if_pos (by omega)]), M0.below⟩
 ·refine aL (aC (aE (aE (aA (dO rfl rfl (wq (dC Tryz.underlying29 rfl) rfl (aP rfl rfl (aB (aC (aQ (dS (σ := Nat) [9, 10] (fun k => [(11, .int .i64 (k : Int))]) (fun k w' => (k ≤ n ∧ ∀ (j : Nat) (c : Body), j < k → xs[j]? = some c → check c = 0) ∧ Mem w [] [] w') (fun k => n - k) 0 (bA rfl eB) (⟨⟨by omega, fun j c hj => by omega⟩, M0⟩) ?_)))))))))))
  rintro k ρ1 w1 ⟨⟨hk, hok⟩, hM1⟩
  refine aE (aA (cZ rfl rfl rfl rfl (aB (aC (aE ?_)))))
  refine aW rfl (fun h12 => ?_) (fun h12 => ?_)
  ·obtain ⟨xb, hxb⟩ := cS (k := k) hlen (by omega)
   refine aL (aC (aE (aQ (aE (aA (wq (bP (k) dH rfl rfl rfl ((R.mem hM1).below_len (aG aF hxb)) ((R.mem hM1).someK (aG aF hxb))) rfl (wq (dN _ bO (R.mem hM1) (aG aF hxb) rfl) rfl (aS fN hM1 rfl rfl (fun b2 w2 M2 => (bG 0 _ bO M2 rfl rfl rfl rfl rfl (aR rfl) rfl (fun w3 M3 => ?_)))))))))))
   refine aB (aC (aE (aA (wq (aX 0 bO M3 rfl rfl rfl) rfl (bY aQq rfl rfl (vY _ xb) ?_)))))
   rintro v4 w4 ⟨rfl, hb4⟩
   have M4 := M3.callB hb4
   refine bI rfl rfl (aB (aC (aE (aA (aP rfl rfl (cZ rfl rfl rfl rfl (aB (aC ?_))))))))
   refine aW rfl (fun h18 => ?_) (fun h18 => ?_)
   ·refine aE (aA (aP rfl rfl (bI rfl rfl (aB (aC (aO (kO (cM ?_))))))))
    refine rS (kO (cM (cD (.int _ _) rfl ?_)))
    exact ⟨iE (by unfold oA; rw [if_neg (by omega), tK hxb h18 hok]), M4.below⟩
   ·refine aL (cV (aC (aA (wq (aY rfl rfl (by omega) (by omega)) rfl (aP rfl rfl (aB ?_))))))
    refine cG (k + 1) (bA rfl eB) (cN rfl (cN rfl gV)) ?_ ?_
    ·exact ⟨⟨by omega, pI (p := fun _ c => check c = 0) hok hxb (by omega)⟩, M4.keep [false]⟩
    ·omega
  ·refine cX (dF (dK (eS (aC (aE (aA (bI rfl rfl ?_)))))))
   refine aB (aC (aO (cD (.int _ _) rfl ?_)))
   exact ⟨iE (by unfold oA; rw [if_neg (by omega), nC (fun j c hj => hok j c (by have := (List.getElem?_eq_some_iff.1 hj).1; omega) hj)]), hM1.below⟩
theorem aUw {xs : List Body} {k : Nat} {a b : Body} (h : ∀ (j : Nat) (x y : Body), j < k → xs[j]? = some x → xs[j + 1]? = some y → x.key < y.key) (ha : xs[k]? = some a) (hb : xs[k + 1]? = some b) (hab : a.key < b.key) :
  ∀ (j : Nat) (x y : Body), j < k + 1 → xs[j]? = some x → xs[j + 1]? = some y → x.key < y.key := by
 intro j x y hj hx hy
 by_cases e : j = k
 ·subst e
  rw [ha] at hx
  rw [hb] at hy
  injection hx with hx
  injection hy with hy
  subst hx
  subst hy
  exact hab
 ·exact h j x y (by omega) hx hy
set_option maxHeartbeats 4000000 in
theorem aEa (w : World) (A : Option Addr) (n c : Nat) (xs : List Body) (R : Rd w 10 A n (xs.map aF)) :
  Calls Tryz.prog 82 #[.slice A n c] w (fun ex w' => ∃ v, ex = .returned v ∧ (fun v w' => v = .int .i64 (iK xs) ∧ Below w.heap.size w w') v w') := by
 have hlen : xs.length = n := by simpa using R.len
 have hbd := R.bound
 refine aI #[.tmp 2] 28 Tryz.func82 rfl Tryz.results82 Tryz.ntmps82 rfl ?_
 have M0 := Mem.refl w
 refine aE (aA (bI rfl rfl (aB (aC (aE (aE (aA (dO rfl rfl (bY bKr rfl rfl (aYn _ _ _ _ xs (R.mem M0)) ?_)))))))))
 rintro v1 w1 ⟨rfl, hb1⟩
 have M1 := M0.callB hb1
 refine bI rfl rfl (aB (aC (aE (aA (aP rfl rfl (cZ rfl rfl rfl rfl (aB (aC ?_))))))))
 refine aW rfl (fun h8 => ?_) (fun h8 => ?_)
 ·refine aE (aA (aP rfl rfl (bI rfl rfl (aB (aC (aO (cM (cD (.int _ _) rfl ?_))))))))
  exact ⟨iE (by unfold iK; rw [if_pos h8]), M1.below⟩
 ·refine aL (aC (aE (aE (aA (bI rfl rfl (aB (aC (aQ (dS (σ := Nat) [0] (fun k => [(4, .int .i64 ((k + 1 : Nat) : Int))]) (fun k w' => ((k + 1 ≤ n ∨ k = 0) ∧ ∀ (j : Nat) (x y : Body), j < k → xs[j]? = some x → xs[j + 1]? = some y → x.key < y.key) ∧ Mem w [] [] w') (fun k => n - k) 0 (bA rfl eB) (⟨⟨.inr rfl, fun j x y hj => by omega⟩, M1⟩) ?_)))))))))
  rintro k ρ2 w2 ⟨⟨hk, hadj⟩, hM2⟩
  refine aE (aE (aA (aP rfl rfl (dO rfl rfl (wq (dC Tryz.underlying29 rfl) rfl (cZ rfl rfl rfl rfl (aB (aC ?_))))))))
  refine aW rfl (fun h13 => ?_) (fun h13 => ?_)
  ·obtain ⟨xa, hxa⟩ := cS (k := k) hlen (by omega)
   obtain ⟨xb, hxb⟩ := cS (k := k + 1) hlen (by omega)
   refine aL (aC (aE (aQ (aE (bQ [(0, 0), (1, 0), (2, 0), (3, 1), (4, 1), (5, 1), (6, 0), (7, 0), (8, 1), (9, 1), (10, 1), (11, 0)] mixed rfl (by kernel_rfl) (fun w3 hb3 hh3 => ?_))))))
   have M3 := hM2.drew hb3 hh3
   refine jP rfl rfl rfl (eF rfl rfl rfl (aV rfl rfl rfl (fun _ => fU rfl rfl (by omega) (by omega)) (bS rfl rfl rfl (bP (k) dH rfl rfl (by omega) ((R.mem M3).below_len (aG aF hxa)) ((R.mem M3).someK (aG aF hxa))) (bS rfl rfl rfl (bB 0 dL (R.mem M3) (Nat.lt_of_le_of_lt (Nat.zero_le _) ((R.mem M3).below_len (aG aF hxa))) rfl) ?_))))
   refine bS rfl rfl rfl (dY (o := 0) (.int _ _) bW (R.mem M3) (aG aF hxa) rfl rfl) (jP rfl rfl rfl (eF rfl rfl rfl (bS rfl rfl rfl (bP (k + 1) dH rfl rfl rfl ((R.mem M3).below_len (aG aF hxb)) ((R.mem M3).someK (aG aF hxb))) (bS rfl rfl rfl (bB 0 dL (R.mem M3) (Nat.lt_of_le_of_lt (Nat.zero_le _) ((R.mem M3).below_len (aG aF hxb))) rfl) ?_))))
   refine bS rfl rfl rfl (dY (o := 0) (.int _ _) bW (R.mem M3) (aG aF hxb) rfl rfl) (aV rfl rfl rfl (fun _ => bZ (.bool (decide _)) rfl rfl rfl) (bX (aC ?_)))
   refine aW rfl (fun h27 => ?_) (fun h27 => ?_)
   ·refine aE (aA (bI rfl rfl (aB (aC (aO (kO (cM (rS ?_))))))))
    refine kO (cM (cD (.int _ _) rfl ?_))
    exact ⟨iE (by unfold iK; rw [if_neg h8, if_neg (by rw [aCq hxa hxb (by omega)]; decide)]), M3.below⟩
   ·refine aL (cV (aC (aA (aP rfl rfl (wq (aY rfl rfl (by omega) (by omega)) rfl (bI rfl rfl ?_))))))
    refine aB ?_
    refine cG (k + 1) (bA rfl eB) (cN rfl gV) ?_ ?_
    ·exact ⟨⟨.inl (by omega), aUw hadj hxa hxb (by omega)⟩, M3⟩
    ·omega
  ·refine cX (dF (dK (eS (aC (aE (aA (bI rfl rfl ?_)))))))
   refine aB (aC (aO (cD (.int _ _) rfl ?_)))
   exact ⟨iE (by unfold iK; rw [if_neg h8, if_pos (uQ fun i x y hx hy => hadj i x y (by have := (List.getElem?_eq_some_iff.1 hy).1; omega) hx hy)]), hM2.below⟩
set_option maxHeartbeats 4000000 in
theorem aLs (w : World) (A : Option Addr) (n c : Nat) (xs : List Body) (R : Rd w 10 A n (xs.map aF)) :
  Calls Tryz.prog 135 #[.slice A n c] w (fun ex w' => ∃ v, ex = .returned v ∧ (fun v w' => v = .int .i64 (iK xs) ∧ Below w.heap.size w w') v w') := by
 have hlen : xs.length = n := by simpa using R.len
 have hbd := R.bound
 refine aI #[.tmp 2] 29 Tryz.func135 rfl Tryz.results135 Tryz.ntmps135 rfl ?_
 have M0 := Mem.refl w
 refine aE (aA (bI rfl rfl (aB (aC (aE (aA (dO rfl rfl (bY bLj rfl rfl (aPu _ _ _ _ xs (R.mem M0)) ?_))))))))
 rintro v1 w1 ⟨rfl, hb1⟩
 have M1 := M0.callB hb1
 refine bI rfl rfl (aB (aC (aE (aE (aA (aP rfl rfl (cZ rfl rfl rfl rfl (aB (aC ?_)))))))))
 refine aW rfl (fun h8 => ?_) (fun h8 => ?_)
 ·refine aE (aA (aP rfl rfl (bI rfl rfl (aB (aC (aO (cM (cD (.int _ _) rfl ?_))))))))
  exact ⟨iE (by unfold iK; rw [if_pos h8]), M1.below⟩
 ·refine aL (aC (aE (aE (aA (bI rfl rfl (aB (aC (aQ (dS (σ := Nat) [0] (fun k => [(4, .int .i64 (k : Int))]) (fun k w' => ((k + 1 ≤ n ∨ k = 0) ∧ ∀ (j : Nat) (x y : Body), j < k → xs[j]? = some x → xs[j + 1]? = some y → x.key < y.key) ∧ Mem w [] [] w') (fun k => n - k) 0 (bA rfl eB) (⟨⟨.inr rfl, fun j x y hj => by omega⟩, M1⟩) ?_)))))))))
  rintro k ρ2 w2 ⟨⟨hk, hadj⟩, hM2⟩
  refine aE (aE (aA (aP rfl rfl (wq (aY rfl rfl (by omega) (by omega)) rfl (dO rfl rfl (wq (dC Tryz.underlying29 rfl) rfl (cZ rfl rfl rfl rfl ?_)))))))
  refine aB (aC ?_)
  refine aW rfl (fun h14 => ?_) (fun h14 => ?_)
  ·obtain ⟨xa, hxa⟩ := cS (k := k) hlen (by omega)
   obtain ⟨xb, hxb⟩ := cS (k := k + 1) hlen (by omega)
   refine aL (aC (aE (aQ (aE (bQ [(0, 0), (1, 0), (2, 0), (3, 1), (4, 1), (5, 1), (6, 0), (7, 0), (8, 1), (9, 1), (10, 1), (11, 0)] mixed rfl (by kernel_rfl) (fun w3 hb3 hh3 => ?_))))))
   have M3 := hM2.drew hb3 hh3
   refine jP rfl rfl rfl (eF rfl rfl rfl (aV rfl rfl rfl (fun _ => aY rfl rfl (by omega) (by omega)) (bS rfl rfl rfl (bP (k + 1) dH rfl rfl rfl ((R.mem M3).below_len (aG aF hxb)) ((R.mem M3).someK (aG aF hxb))) (bS rfl rfl rfl (bB 0 dL (R.mem M3) (Nat.lt_of_le_of_lt (Nat.zero_le _) ((R.mem M3).below_len (aG aF hxb))) rfl) ?_))))
   refine bS rfl rfl rfl (dY (o := 0) (.int _ _) bW (R.mem M3) (aG aF hxb) rfl rfl) (jP rfl rfl rfl (eF rfl rfl rfl (bS rfl rfl rfl (bP (k) dH rfl rfl rfl ((R.mem M3).below_len (aG aF hxa)) ((R.mem M3).someK (aG aF hxa))) (bS rfl rfl rfl (bB 0 dL (R.mem M3) (Nat.lt_of_le_of_lt (Nat.zero_le _) ((R.mem M3).below_len (aG aF hxa))) rfl) ?_))))
   refine bS rfl rfl rfl (dY (o := 0) (.int _ _) bW (R.mem M3) (aG aF hxa) rfl rfl) (aV rfl rfl rfl (fun _ => bZ (.bool (decide _)) rfl rfl rfl) (bX (aC ?_)))
   refine aW rfl (fun h28 => ?_) (fun h28 => ?_)
   ·refine aE (aA (bI rfl rfl (aB (aC (aO (kO (cM (rS ?_))))))))
    refine kO (cM (cD (.int _ _) rfl ?_))
    exact ⟨iE (by unfold iK; rw [if_neg h8, if_neg (by rw [aCq hxa hxb (by omega)]; decide)]), M3.below⟩
   ·refine aL (cV (aC (aA (aP rfl rfl (wq (aY rfl rfl (by omega) (by omega)) rfl (bI rfl rfl ?_))))))
    refine aB ?_
    refine cG (k + 1) (bA rfl eB) (cN rfl gV) ?_ ?_
    ·exact ⟨⟨.inl (by omega), aUw hadj hxa hxb (by omega)⟩, M3⟩
    ·omega
  ·refine cX (dF (dK (eS (aC (aE (aA (bI rfl rfl ?_)))))))
   refine aB (aC (aO (cD (.int _ _) rfl ?_)))
   exact ⟨iE (by unfold iK; rw [if_neg h8, if_pos (uQ fun i x y hx hy => hadj i x y (by have := (List.getElem?_eq_some_iff.1 hy).1; omega) hx hy)]), hM2.below⟩
set_option maxHeartbeats 4000000 in
theorem aDt (w : World) (b : Body) (key : Int) :
  Calls Tryz.prog 188 #[(.agg (aF b).toArray), .int .u32 key] w (fun ex w' => ∃ v, ex = .returned v ∧ (fun v w' => v = .int .i64 (oU b.key key) ∧ Below w.heap.size w w') v w') := by
 refine aI #[.tmp 4] 9 Tryz.func188 rfl Tryz.results188 Tryz.ntmps188 rfl ?_
 have M0 := Mem.refl w
 refine aE (aA (bK (.agg (List.toArray _)) M0 rfl rfl rfl (fun b1 w1 M1 => (bI rfl rfl (aB (aC (aE (aA (wq (aD 0 dL rfl) rfl (wq (aM 0 (.int _ _) bW M1 rfl rfl rfl) rfl ?_))))))))))
 refine aP rfl rfl (bY aJb rfl rfl (nD _ _ _) ?_)
 rintro v2 w2 ⟨rfl, rfl⟩
 have M2 : Mem _ _ [_] _ := M1
 refine bI rfl rfl (aB (aC (aO (cD (.int _ _) rfl ?_))))
 exact ⟨rfl, M2.below⟩
set_option maxHeartbeats 4000000 in
theorem tG (w : World) (key : Int) (A : Option Addr) (n c : Nat) (xs : List Body) (R : Rd w 10 A n (xs.map aF)) (hs : cW xs) :
  Calls Tryz.prog 187 #[.slice A n c, .int .u32 key, .func (.func 188) #[] #[]] w (fun ex w' => ∃ v, ex = .returned v ∧ (fun v w' => v = .tuple #[.int .i64 (aAc key xs : Int), .bool (decide (0 ≤ dI key xs))] ∧ Below w.heap.size w w') v w') := by
 have hlen : xs.length = n := by simpa using R.len
 have hbd := R.bound
 refine aI #[.tmp 6, .tmp 7] 49 Tryz.func187 rfl Tryz.results187 Tryz.ntmps187 rfl ?_
 have M0 := Mem.refl w
 refine aE (aA (bI rfl rfl (wq (aJ (.bool false) rfl) rfl (aB (aC (aE (aA (dO rfl rfl (wq (dC Tryz.underlying29 rfl) rfl ?_)))))))))
 refine bI rfl rfl (aB (aC (aE (aA (aP rfl rfl (bI rfl rfl (bI rfl rfl (aB (aC (aE (aQ ?_)))))))))))
 refine dS (σ := Nat × Nat) [0, 1, 2, 6, 7, 8] (fun (i, j) => [(9, .int .i64 (i : Int)), (10, .int .i64 (j : Int))]) (fun (i, j) w' => (i ≤ j ∧ j ≤ n ∧ (∀ (p : Nat) (c : Body), p < i → xs[p]? = some c → c.key < key) ∧ ∀ (p : Nat) (c : Body), j ≤ p → xs[p]? = some c → ¬ c.key < key) ∧ Mem w [] [] w') (fun (i, j) => j - i) (0, n) (bA rfl (bA rfl eB)) (⟨⟨by omega, by omega, fun p c h => by omega, fun p c h hc => by have := (List.getElem?_eq_some_iff.1 hc).1; omega⟩, M0⟩) ?_
 rintro ⟨i, j⟩ ρ1 w1 ⟨⟨hij, hjn, hlo, hhi⟩, hM1⟩
 refine aE (aE (aA (aP rfl rfl (aP rfl rfl (cZ rfl rfl rfl rfl (aB (aC ?_)))))))
 refine aW rfl (fun h17 => ?_) (fun h17 => ?_)
 ·obtain ⟨xb, hxb⟩ := cS (k := (i + j) / 2) hlen (by omega)
  refine aL (aC (aQ (aE (aA (aP rfl rfl (aP rfl rfl (wq (aY rfl rfl (by omega) (by omega)) rfl (wq (aZ us3 Tryz.underlying178 rfl (kU _ (by omega) (by omega))) rfl (wq (jQ rfl rfl (by decide)) rfl ?_)))))))))
  refine aK 22 (.int .u64 (((i + j) / 2 : Nat) : Int)) (iE (bSk i j)) (wq (aZ bQy Tryz.underlying3 rfl (fH _ (by omega) (by omega))) rfl (bI rfl rfl (aB (aC (aE (aA (wq (aH (.func _ _ _) rfl) rfl (dO rfl rfl ?_))))))))
  refine aP rfl rfl (wq (bP ((i + j) / 2) dH rfl rfl rfl ((R.mem hM1).below_len (aG aF hxb)) ((R.mem hM1).someK (aG aF hxb))) rfl (wq (dN _ bO (R.mem hM1) (aG aF hxb) rfl) rfl (aP rfl rfl (bY bEt rfl rfl (aDt _ xb key) ?_))))
  rintro v2 w2 ⟨rfl, hb2⟩
  have M2 := hM1.callB hb2
  refine cZ rfl rfl rfl rfl (aB (aC ?_))
  refine aW rfl (fun h31 => ?_) (fun h31 => ?_)
  ·refine aA (aP rfl rfl (wq (aY rfl rfl (by omega) (by omega)) rfl (bI rfl rfl (aB (cV ?_)))))
   refine cG ((i + j) / 2 + 1, j) (bA rfl (bA rfl eB)) (cN rfl (cN rfl (cN rfl (cN rfl (cN rfl (cN rfl gV)))))) ?_ ?_
   ·exact ⟨⟨by omega, hjn, fun p c hp hc => by have := aAl hs (show p ≤ (i + j) / 2 by omega) hc hxb; have := xE.1 h31; omega, hhi⟩, M2⟩
   ·(show j - ((i + j) / 2 + 1) < j - i; omega)
  ·refine aA (aP rfl rfl (bI rfl rfl (aB (cV ?_))))
   refine cG (i, (i + j) / 2) (bA rfl (bA rfl eB)) (cN rfl (cN rfl (cN rfl (cN rfl (cN rfl (cN rfl gV)))))) ?_ ?_
   ·exact ⟨⟨by omega, by omega, hlo, fun p c hp hc => by have := aAl hs hp hxb hc; have := mt xE.2 h31; omega⟩, M2⟩
   ·(show (i + j) / 2 - i < j - i; omega)
 ·have hij' : i = j := by omega
  have hless := xW (key := key) (xs := xs) (k := i) (by omega) hlo (by rw [hij']; exact hhi)
  refine cX (dF (dK (eS (aC (aE (aA (aP rfl rfl ?_)))))))
  refine aP rfl rfl (aP rfl rfl (cZ rfl rfl rfl rfl (wq (aH (.bool (decide _)) rfl) rfl ?_)))
  refine dM 39 rfl (fun g39 => ?_) (fun g39 => ?_)
  ·obtain ⟨xi, hxi⟩ := cS (k := i) hlen (by omega)
   refine wq (aH (.func _ _ _) rfl) rfl (dO rfl rfl (aP rfl rfl (wq (bP (i) dH rfl rfl rfl ((R.mem hM1).below_len (aG aF hxi)) ((R.mem hM1).someK (aG aF hxi))) rfl (wq (dN _ bO (R.mem hM1) (aG aF hxi) rfl) rfl (aP rfl rfl ?_)))))
   refine bY bEt rfl rfl (aDt _ xi key) ?_
   rintro v3 w3 ⟨rfl, hb3⟩
   have M3 := hM1.callB hb3
   refine cZ rfl rfl rfl rfl (wq (bR true (.bool (decide _)) rfl rfl) rfl (bI rfl rfl (wq (aJ (.bool (decide _)) rfl) rfl (aB (aC (aO (gA (.int _ _) (.bool (decide _)) rfl rfl ?_)))))))
   exact ⟨tP (iE (by rw [hless])) (bD (aYd hs hxi hlo (by rw [hij']; exact hhi))), M3.below⟩
  ·refine aN rfl rfl (aN rfl rfl (aN rfl rfl (aN rfl rfl (aN rfl rfl (aN rfl rfl ?_)))))
   refine aN rfl rfl (aN rfl rfl (wq (bR false (.bool false) rfl rfl) rfl (bI rfl rfl (wq (aJ (.bool false) rfl) rfl (aB (aC (aO ?_)))))))
   refine gA (.int _ _) (.bool false) rfl rfl ?_
   exact ⟨tP (iE (by rw [hless])) (bF (aRm fun p c hp hc => hlo p c (by omega) hc)), hM1.below⟩
set_option maxHeartbeats 4000000 in
theorem uO (w : World) (key : Int) (A : Option Addr) (n c : Nat) (xs : List Body) (R : Rd w 10 A n (xs.map aF)) (hs : cW xs) :
  Calls Tryz.prog 161 #[.slice A n c, .int .u32 key] w (fun ex w' => ∃ v, ex = .returned v ∧ (fun v w' => v = .tuple #[.int .i64 (aAc key xs : Int), .bool (decide (0 ≤ dI key xs))] ∧ Below w.heap.size w w') v w') := by
 refine aI #[.tmp 4, .tmp 5] 11 Tryz.func161 rfl Tryz.results161 Tryz.ntmps161 rfl ?_
 have M0 := Mem.refl w
 refine aE (aA (bI rfl rfl (wq (aJ (.bool false) rfl) rfl (aB (aC (aE (aA (dO rfl rfl (aP rfl rfl ?_)))))))))
 refine bY bMs rfl rfl (tG _ key _ _ _ xs (R.mem M0) hs) ?_
 rintro v1 w1 ⟨rfl, hb1⟩
 have M1 := M0.callB hb1
 refine wq (bN (.int _ _) rfl rfl) rfl (wq (bN (.bool (decide _)) rfl rfl) rfl (bI rfl rfl (wq (aJ (.bool (decide _)) rfl) rfl (aB (aC (aO (gA (.int _ _) (.bool (decide _)) rfl rfl ?_)))))))
 exact ⟨rfl, M1.below⟩
end Go.Proofs.YtaoaknafiegfoaaGreatDoor
