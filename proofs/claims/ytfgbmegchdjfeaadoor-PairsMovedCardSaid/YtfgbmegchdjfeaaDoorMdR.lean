/- The laws of pairs, plain. -/
import Derived.Test.YtfgbmegchdjfeaaDoorMdQ
set_option linter.unusedVariables false
set_option linter.unusedSimpArgs false
namespace Go.Bil
theorem sorted_mem {xs : List Body} (hs : Sorted xs) {a b : Body} (ha : a ∈ xs) (hb : b ∈ xs) (h : a.key = b.key) : a = b := by
  obtain ⟨i, hi⟩ := List.getElem?_of_mem ha
  obtain ⟨j, hj⟩ := List.getElem?_of_mem hb
  have : i = j := by
    rcases Nat.lt_trichotomy i j with h' | h' | h'
    · have := sorted_lt hs h' hi hj; omega
    · exact h'
    · have := sorted_lt hs h' hj hi; omega
  subst this
  rw [hi] at hj
  injection hj
theorem mem_findS {xs : List Body} (hs : Sorted xs) {z : Int × Int} : z ∈ findP xs ↔ ∃ a ∈ xs, ∃ b ∈ xs, a.key < b.key ∧ ovl (boxOf a) (boxOf b) ∧ z = (a.key, b.key) := by
  rw [mem_findP]
  constructor
  · rintro ⟨i, k, a, b, h1, h2, h3, h4, h5⟩
    exact ⟨a, List.mem_of_getElem? h2, b, List.mem_of_getElem? h3, sorted_lt hs h1 h2 h3, h4, h5⟩
  · rintro ⟨a, ha, b, hb, h1, h2, h3⟩
    obtain ⟨i, hi⟩ := List.getElem?_of_mem ha
    obtain ⟨k, hk⟩ := List.getElem?_of_mem hb
    rcases Nat.lt_or_ge i k with h | h
    · exact ⟨i, k, a, b, h, hi, hk, h2, h3⟩
    · have := up_le hs h hk hi; omega
theorem findP_lt {xs : List Body} (hs : Sorted xs) {z : Int × Int} (h : z ∈ findP xs) : z.1 < z.2 ∧ 0 ≤ findI z.1 xs ∧ 0 ≤ findI z.2 xs := by
  obtain ⟨a, ha, b, hb, h1, h2, rfl⟩ := (mem_findS hs).1 h
  refine ⟨h1, ?_, ?_⟩
  · rcases findI_cases a.key xs with ⟨_, h⟩ | ⟨_, _, _, _, h⟩
    · exact absurd rfl (h a ha)
    · simp only; omega
  · rcases findI_cases b.key xs with ⟨_, h⟩ | ⟨_, _, _, _, h⟩
    · exact absurd rfl (h b hb)
    · simp only; omega
theorem asc_at {l : List (Int × Int)} (h : Asc l) {i j : Nat} {x y : Int × Int} (hij : i < j) (hx : l[i]? = some x) (hy : l[j]? = some y) : ltP x y := by
  have hi := (List.getElem?_eq_some_iff.1 hx)
  have hj := (List.getElem?_eq_some_iff.1 hy)
  have := List.pairwise_iff_getElem.1 h i j hi.1 hj.1 hij
  rwa [hi.2, hj.2] at this
theorem mulpred (n : Nat) : (n : Int) * ((n : Int) - 1) = ((n * (n - 1) : Nat) : Int) := by
  cases n with
  | zero => simp
  | succ n => rw [Nat.add_sub_cancel]; simp [Int.natCast_mul]
theorem quo2 (a : Nat) (h : a ≤ 4611686018427387904) : IntKind.i64.wrap ((a : Int).tdiv 2) = ((a / 2 : Nat) : Int) := by
  have e : (a : Int).tdiv 2 = ((a / 2 : Nat) : Int) := (Int.ofNat_tdiv a 2).symm
  rw [e]
  exact w64 _ (by omega) (by omega)
theorem tmod_nat {f n a : Nat} {z : Int} (hz : z = (n : Int)) (h : a = f % n) : (f : Int).tmod z = (a : Int) := by
  subst hz
  subst h
  exact (Int.ofNat_tmod f n).symm
/-! ### Without a body -/
def restP (key : Int) (l : List (Int × Int)) : List (Int × Int) := l.filter (fun z => decide (z.1 ≠ key ∧ z.2 ≠ key))
theorem restP_yes {key : Int} {l : List (Int × Int)} {k : Nat} {z : Int × Int} (h : l[k]? = some z) (h1 : z.1 ≠ key) (h2 : z.2 ≠ key) : restP key (l.take (k + 1)) = restP key (l.take k) ++ [z] := by
  unfold restP
  rw [take_snoc h, List.filter_append]
  congr 1
  simp only [List.filter_cons, decide_eq_true (And.intro h1 h2), if_true, List.filter_nil]
theorem restP_no {key : Int} {l : List (Int × Int)} {k : Nat} {z : Int × Int} (h : l[k]? = some z) (h1 : ¬ (z.1 ≠ key ∧ z.2 ≠ key)) : restP key (l.take (k + 1)) = restP key (l.take k) := by
  unfold restP
  rw [take_snoc h, List.filter_append]
  simp only [List.filter_cons, decide_eq_false h1, Bool.false_eq_true, if_false, List.filter_nil, List.append_nil]
theorem restP_len (key : Int) (l : List (Int × Int)) : (restP key l).length ≤ l.length := List.length_filter_le _ _
theorem erase_sorted {xs : List Body} (hs : Sorted xs) (k : Nat) : Sorted (xs.eraseIdx k) := List.Pairwise.sublist (List.eraseIdx_sublist xs k) hs
theorem mem_erase_key {xs : List Body} (hs : Sorted xs) {k : Nat} {y : Body} (hy : xs[k]? = some y) {a : Body} : a ∈ xs.eraseIdx k ↔ a ∈ xs ∧ a.key ≠ y.key := by
  have hk : Keys xs := by
    unfold Keys
    exact List.pairwise_map.2 (hs.imp fun h e => by omega)
  constructor
  · intro h
    exact ⟨(List.eraseIdx_sublist xs k).subset h, erase_not hk hy a h⟩
  · rintro ⟨h1, h2⟩
    rcases List.mem_cons.1 ((perm_erase hy).mem_iff.1 h1) with e | e
    · subst e; exact absurd rfl h2
    · exact e
theorem find_cut {xs : List Body} (hs : Sorted xs) {k : Nat} {y : Body} (hy : xs[k]? = some y) : findP (xs.eraseIdx k) = restP y.key (findP xs) := by
  refine asc_unique (findP_asc (erase_sorted hs k)) (List.Pairwise.sublist List.filter_sublist (findP_asc hs)) fun z => ?_
  unfold restP
  rw [List.mem_filter, mem_findS (erase_sorted hs k), mem_findS hs, decide_eq_true_iff]
  constructor
  · rintro ⟨a, ha, b, hb, h1, h2, rfl⟩
    have ha' := (mem_erase_key hs hy).1 ha
    have hb' := (mem_erase_key hs hy).1 hb
    exact ⟨⟨a, ha'.1, b, hb'.1, h1, h2, rfl⟩, ha'.2, hb'.2⟩
  · rintro ⟨⟨a, ha, b, hb, h1, h2, rfl⟩, h3, h4⟩
    exact ⟨a, (mem_erase_key hs hy).2 ⟨ha, h3⟩, b, (mem_erase_key hs hy).2 ⟨hb, h4⟩, h1, h2, rfl⟩
theorem cut_rows {α β : Type} (f : α → β) {l : List α} {k n : Nat} (hn : l.length = n) (hk : k < n) : ([] ++ ((l.map f).drop 0).take (k - 0)) ++ ((l.map f).drop (k + 1)).take (n - (k + 1)) = (l.eraseIdx k).map f := by
  rw [List.nil_append, List.drop_zero, Nat.sub_zero, List.take_of_length_le (l := (l.map f).drop (k + 1)) (by simp; omega), List.eraseIdx_eq_take_drop_succ, List.map_append, List.map_take, List.map_drop]
theorem lon_rest {xs : List Body} (hV : View xs) {k : Nat} {y : Body} (hy : xs[k]? = some y) : lonB xs y.key = decide ((restP y.key (findP xs)).length = (findP xs).length) := by
  have hs := hV.s
  obtain ⟨i, c, hi, hck, hf⟩ : ∃ (i : Nat) (c : Body), xs[i]? = some c ∧ c.key = y.key ∧ findI y.key xs = (i : Int) := (findI_cases y.key xs).elim (fun h => absurd rfl (h.2 y (List.mem_of_getElem? hy))) id
  have hcy : c = y := sorted_mem hs (List.mem_of_getElem? hi) (List.mem_of_getElem? hy) hck
  subst hcy
  rw [Bool.eq_iff_iff, lonB_iff hV.okb hi hf, decide_eq_true_iff]
  unfold restP
  rw [List.length_filter_eq_length_iff]
  simp only [decide_eq_true_eq]
  constructor
  · intro h z hz
    obtain ⟨a, ha, b, hb, h1, h2, rfl⟩ := (mem_findS hs).1 hz
    obtain ⟨p, hp⟩ := List.getElem?_of_mem ha
    obtain ⟨q, hq⟩ := List.getElem?_of_mem hb
    refine ⟨fun e => ?_, fun e => ?_⟩
    · have : a = c := sorted_mem hs ha (List.mem_of_getElem? hi) e
      subst this
      exact h q b hq (fun e' => by subst e'; rw [hi] at hq; injection hq with hq; subst hq; omega) h2
    · have : b = c := sorted_mem hs hb (List.mem_of_getElem? hi) e
      subst this
      exact h p a hp (fun e' => by subst e'; rw [hi] at hp; injection hp with hp; subst hp; omega) (ovl_comm h2)
  · intro h q b hq hne ho
    have hb := List.mem_of_getElem? hq
    have hc := List.mem_of_getElem? hi
    rcases Int.lt_trichotomy c.key b.key with h' | h' | h'
    · exact (h _ ((mem_findS hs).2 ⟨c, hc, b, hb, h', ho, rfl⟩)).1 rfl
    · have : c = b := sorted_mem hs hc hb h'
      subst this
      rcases Nat.lt_trichotomy q i with h2 | h2 | h2
      · have := sorted_lt hs h2 hq hi; omega
      · exact hne h2
      · have := sorted_lt hs h2 hi hq; omega
    · exact (h _ ((mem_findS hs).2 ⟨b, hb, c, hc, h', ovl_comm ho, rfl⟩)).2 rfl
/-! ### Moved -/
def mvB (dx dy : Int) (b : Body) : Body := { b with px := b.px + dx, py := b.py + dy }
theorem mv_sorted {dx dy : Int} {xs : List Body} (hs : Sorted xs) : Sorted (xs.map (mvB dx dy)) := List.pairwise_map.2 (hs.imp fun h => h)
theorem mv_ovl {dx dy : Int} {a b : Body} : ovl (boxOf (mvB dx dy a)) (boxOf (mvB dx dy b)) ↔ ovl (boxOf a) (boxOf b) := by
  have e1 : ∀ c, extX (mvB dx dy c) = extX c := fun c => rfl
  have e2 : ∀ c, extY (mvB dx dy c) = extY c := fun c => rfl
  simp only [ovl, boxOf, e1, e2]
  simp only [mvB]
  omega
theorem mv_find {dx dy : Int} {xs : List Body} (hs : Sorted xs) : findP (xs.map (mvB dx dy)) = findP xs := by
  refine asc_unique (findP_asc (mv_sorted hs)) (findP_asc hs) fun z => ?_
  rw [mem_findS (mv_sorted hs), mem_findS hs]
  constructor
  · rintro ⟨a, ha, b, hb, h1, h2, rfl⟩
    obtain ⟨a', ha', rfl⟩ := List.mem_map.1 ha
    obtain ⟨b', hb', rfl⟩ := List.mem_map.1 hb
    exact ⟨a', ha', b', hb', h1, mv_ovl.1 h2, rfl⟩
  · rintro ⟨a, ha, b, hb, h1, h2, rfl⟩
    exact ⟨mvB dx dy a, List.mem_map.2 ⟨a, ha, rfl⟩, mvB dx dy b, List.mem_map.2 ⟨b, hb, rfl⟩, h1, mv_ovl.2 h2, rfl⟩
theorem mv_ok {dx dy : Int} {b : Body} (h : Okb b) (h1 : -1073741824 ≤ b.px + dx ∧ b.px + dx ≤ 1073741824) (h2 : -1073741824 ≤ b.py + dy ∧ b.py + dy ≤ 1073741824) : Okb (mvB dx dy b) :=
  ⟨h.r, h.a, h.m, h.c, ⟨h1.1, h1.2, h2.1, h2.2⟩, h.v⟩
/-! ### Within the box of a body -/
theorem within_iff' {xs : List Body} (hV : View xs) {y b : Body} (hy : y ∈ xs) (hb : b ∈ xs) : (b.key = y.key ∨ prI y.key b.key ∈ findP xs) ↔ ovl (boxOf b) (boxOf y) := by
  have hs := hV.s
  constructor
  · rintro (h | h)
    · have : b = y := sorted_mem hs hb hy h
      subst this
      exact ovl_self (hV.okb b hb)
    · obtain ⟨p, hp, q, hq, h1, h2, h3⟩ := (mem_findS hs).1 h
      unfold prI at h3
      injection h3 with h4 h5
      rcases Int.le_total y.key b.key with h' | h'
      · have e1 : p = y := sorted_mem hs hp hy (by omega)
        have e2 : q = b := sorted_mem hs hq hb (by omega)
        subst e1; subst e2
        exact ovl_comm h2
      · have e1 : p = b := sorted_mem hs hp hb (by omega)
        have e2 : q = y := sorted_mem hs hq hy (by omega)
        subst e1; subst e2
        exact h2
  · intro h
    rcases Int.lt_trichotomy b.key y.key with h' | h' | h'
    · refine .inr ((mem_findS hs).2 ⟨b, hb, y, hy, h', h, ?_⟩)
      unfold prI; apply Prod.ext <;> simp only <;> omega
    · exact .inl h'
    · refine .inr ((mem_findS hs).2 ⟨y, hy, b, hb, h', ovl_comm h, ?_⟩)
      unfold prI; apply Prod.ext <;> simp only <;> omega
theorem mem_take_snoc {l : List (Int × Int)} {k : Nat} {z x : Int × Int} (h : l[k]? = some z) : x ∈ l.take (k + 1) ↔ x ∈ l.take k ∨ z = x := by
  rw [take_snoc h, List.mem_append, List.mem_singleton]
  exact ⟨fun h => h.imp id Eq.symm, fun h => h.imp id Eq.symm⟩
end Go.Bil
namespace Go.Bil
theorem findP_small {xs : List Body} (h : xs.length ≤ 40) : (findP xs).length ≤ 1600 := by
  have := findK_len xs xs.length
  have h2 : xs.length * xs.length ≤ 40 * 40 := Nat.mul_le_mul h h
  unfold findP
  omega
def vecCells (v : Int × Int) : List Value := [.int .i32 v.1, .int .i32 v.2]
theorem vecOf (l : List Value) (h : Ints [.i32, .i32] l) : ∃ v, l = vecCells v ∧ ((-2147483648 ≤ v.1 ∧ v.1 ≤ 2147483647) ∧ (-2147483648 ≤ v.2 ∧ v.2 ≤ 2147483647)) := by
  obtain ⟨z0, l0, rfl, w0, h0⟩ := ints_cons h
  obtain ⟨z1, l1, rfl, w1, h1⟩ := ints_cons h0
  obtain rfl := ints_nil h1
  exact ⟨(z0, z1), rfl, w0, w1⟩
end Go.Bil
