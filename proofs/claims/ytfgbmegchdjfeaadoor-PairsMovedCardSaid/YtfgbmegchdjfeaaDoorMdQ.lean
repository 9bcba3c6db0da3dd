/- Pairs of bodies whose boxes overlap, plain. -/
import Derived.Test.YtfgbmegchdjfeaaDoorMdP
set_option linter.unusedVariables false
set_option linter.unusedSimpArgs false
namespace Go.Bil
def z0B : Bx := ⟨0, 0, 0, 0⟩
def encBx (a : Bx) : Value := .agg (bxCells a).toArray
def bxM (xs : List Body) : Int → Option Bx := fun k => (xs.reverse.find? (fun b => decide (b.key = k))).map boxOf
theorem bxM_nil (k : Int) : bxM [] k = none := rfl
theorem bxM_snoc {xs : List Body} {k : Nat} {b : Body} (h : xs[k]? = some b) (q : Int) : bxM (xs.take (k + 1)) q = if q = b.key then some (boxOf b) else bxM (xs.take k) q := by
  unfold bxM
  rw [take_snoc h, List.reverse_append]
  simp only [List.reverse_cons, List.reverse_nil, List.nil_append, List.singleton_append, List.find?_cons]
  by_cases e : q = b.key
  · rw [if_pos e, decide_eq_true e.symm]; rfl
  · rw [if_neg e, decide_eq_false (fun h => e h.symm)]
theorem bxM_get {xs : List Body} (hs : Sorted xs) {b : Body} (hb : b ∈ xs) : bxM xs b.key = some (boxOf b) := by
  unfold bxM
  cases hf : xs.reverse.find? (fun c => decide (c.key = b.key)) with
  | none =>
    have := List.find?_eq_none.1 hf b (by simpa using hb)
    simp at this
  | some c =>
    have hc := List.find?_some hf
    have hm : c ∈ xs := by simpa using List.mem_of_find?_eq_some hf
    simp only [decide_eq_true_eq] at hc
    obtain ⟨i, hi⟩ := List.getElem?_of_mem hm
    obtain ⟨j, hj⟩ := List.getElem?_of_mem hb
    have : i = j := by
      rcases Nat.lt_trichotomy i j with h | h | h
      · have := sorted_lt hs h hi hj; omega
      · exact h
      · have := sorted_lt hs h hj hi; omega
    subst this
    rw [hi] at hj
    injection hj with hj
    subst hj
    rfl
/-- Whether the boxes of a pair are apart. -/
def apB (f : Int → Option Bx) (z : Int × Int) : Bool := decide (¬ ovl ((f z.1).getD z0B) ((f z.2).getD z0B))
def gOf (xs : List Body) : Nat → List Int := fun n => (xs.filter (fun b => decide (n ∈ (cellsB (boxOf b)).map bucketI))).map (·.key)
theorem gOf_snoc {xs : List Body} {k : Nat} {b : Body} (h : xs[k]? = some b) : gOf (xs.take (k + 1)) = addG (gOf (xs.take k)) b.key ((cellsB (boxOf b)).map bucketI) := by
  funext n
  unfold gOf addG
  rw [take_snoc h, List.filter_append, List.map_append]
  by_cases e : n ∈ (cellsB (boxOf b)).map bucketI
  · rw [if_pos e]; simp only [List.filter_cons, decide_eq_true e, if_true, List.filter_nil, List.map_cons, List.map_nil]
  · rw [if_neg e]; simp only [List.filter_cons, decide_eq_false e, Bool.false_eq_true, if_false, List.filter_nil, List.map_nil, List.append_nil]
theorem mem_gOf {xs : List Body} {n : Nat} {x : Int} : x ∈ gOf xs n ↔ ∃ b ∈ xs, n ∈ (cellsB (boxOf b)).map bucketI ∧ b.key = x := by
  simp only [gOf, List.mem_map, List.mem_filter, decide_eq_true_eq]
  constructor
  · rintro ⟨b, ⟨h1, h2⟩, h3⟩; exact ⟨b, h1, by simpa using h2, h3⟩
  · rintro ⟨b, h1, h2, h3⟩; exact ⟨b, ⟨h1, by simpa using h2⟩, h3⟩
theorem gOf_len (xs : List Body) (n : Nat) : (gOf xs n).length ≤ xs.length := by
  unfold gOf
  rw [List.length_map]
  exact List.length_filter_le _ _
/-- The pairs of body i with those behind it, up to place k. -/
def rowK (xs : List Body) (i k : Nat) : List (Int × Int) :=
  (((xs.take k).drop (i + 1)).filter (fun b => decide (ovl (boxOf (xs.getD i default)) (boxOf b)))).map (fun b => ((xs.getD i default).key, b.key))
def findK (xs : List Body) (i : Nat) : List (Int × Int) := (List.range i).flatMap (fun j => rowK xs j xs.length)
def findP (xs : List Body) : List (Int × Int) := findK xs xs.length
theorem drop_take_succ {α : Type} {xs : List α} {k i : Nat} {b : α} (h : xs[k]? = some b) (hi : i + 1 ≤ k) : (xs.take (k + 1)).drop (i + 1) = (xs.take k).drop (i + 1) ++ [b] := by
  have hk := (List.getElem?_eq_some_iff.1 h).1
  rw [take_snoc h, List.drop_append_of_le_length (by simp; omega)]
theorem rowK_yes {xs : List Body} {i k : Nat} {a b : Body} (ha : xs[i]? = some a) (h : xs[k]? = some b) (hi : i + 1 ≤ k) (ho : ovl (boxOf a) (boxOf b)) : rowK xs i (k + 1) = rowK xs i k ++ [(a.key, b.key)] := by
  unfold rowK
  have e : xs.getD i default = a := by rw [List.getD_eq_getElem?_getD, ha]; rfl
  rw [drop_take_succ h hi, e, List.filter_append, List.map_append]
  congr 1
  simp only [List.filter_cons, decide_eq_true ho, if_true, List.filter_nil, List.map_cons, List.map_nil]
theorem rowK_no {xs : List Body} {i k : Nat} {a b : Body} (ha : xs[i]? = some a) (h : xs[k]? = some b) (hi : i + 1 ≤ k) (ho : ¬ ovl (boxOf a) (boxOf b)) : rowK xs i (k + 1) = rowK xs i k := by
  unfold rowK
  have e : xs.getD i default = a := by rw [List.getD_eq_getElem?_getD, ha]; rfl
  rw [drop_take_succ h hi, e, List.filter_append, List.map_append]
  simp only [List.filter_cons, decide_eq_false ho, Bool.false_eq_true, if_false, List.filter_nil, List.map_nil, List.append_nil]
theorem rowK_start (xs : List Body) (i : Nat) : rowK xs i (i + 1) = [] := by
  unfold rowK
  rw [List.drop_eq_nil_of_le (by simp; omega)]
  rfl
theorem findK_succ (xs : List Body) (i : Nat) : findK xs (i + 1) = findK xs i ++ rowK xs i xs.length := by
  unfold findK
  rw [List.range_succ, List.flatMap_append]
  simp
theorem rowK_len (xs : List Body) (i k : Nat) : (rowK xs i k).length ≤ xs.length := by
  unfold rowK
  rw [List.length_map]
  refine Nat.le_trans (List.length_filter_le _ _) ?_
  simp
  omega
theorem findK_len (xs : List Body) : ∀ i, (findK xs i).length ≤ i * xs.length
  | 0 => by simp [findK]
  | i + 1 => by
    rw [findK_succ, List.length_append, Nat.add_mul, Nat.one_mul]
    have := findK_len xs i
    have := rowK_len xs i xs.length
    omega
theorem mem_rowK {xs : List Body} {i : Nat} {a : Body} (ha : xs[i]? = some a) {z : Int × Int} : z ∈ rowK xs i xs.length ↔ ∃ (k : Nat) (b : Body), i < k ∧ xs[k]? = some b ∧ ovl (boxOf a) (boxOf b) ∧ z = (a.key, b.key) := by
  unfold rowK
  have e : xs.getD i default = a := by rw [List.getD_eq_getElem?_getD, ha]; rfl
  rw [e, List.take_of_length_le (Nat.le_refl _)]
  simp only [List.mem_map, List.mem_filter, decide_eq_true_eq]
  constructor
  · rintro ⟨b, ⟨h1, h2⟩, rfl⟩
    obtain ⟨q, hq⟩ := List.getElem?_of_mem h1
    rw [List.getElem?_drop] at hq
    exact ⟨i + 1 + q, b, by omega, hq, h2, rfl⟩
  · rintro ⟨k, b, h1, h2, h3, rfl⟩
    refine ⟨b, ⟨List.mem_of_getElem? (i := k - (i + 1)) ?_, h3⟩, rfl⟩
    rw [List.getElem?_drop, show i + 1 + (k - (i + 1)) = k by omega]
    exact h2
theorem mem_findP {xs : List Body} {z : Int × Int} : z ∈ findP xs ↔ ∃ (i k : Nat) (a b : Body), i < k ∧ xs[i]? = some a ∧ xs[k]? = some b ∧ ovl (boxOf a) (boxOf b) ∧ z = (a.key, b.key) := by
  simp only [findP, findK, List.mem_flatMap, List.mem_range]
  constructor
  · rintro ⟨i, hi, hz⟩
    obtain ⟨a, ha⟩ := getSome (xs := xs) (k := i) rfl hi
    obtain ⟨k, b, h1, h2, h3, h4⟩ := (mem_rowK ha).1 hz
    exact ⟨i, k, a, b, h1, ha, h2, h3, h4⟩
  · rintro ⟨i, k, a, b, h1, h2, h3, h4, h5⟩
    exact ⟨i, (List.getElem?_eq_some_iff.1 h2).1, (mem_rowK h2).2 ⟨k, b, h1, h3, h4, h5⟩⟩
theorem findK_asc {xs : List Body} (hs : Sorted xs) : ∀ i, i ≤ xs.length → Asc (findK xs i)
  | 0, _ => by simp [findK]
  | i + 1, hi => by
    obtain ⟨a, ha⟩ := getSome (xs := xs) (k := i) rfl (by omega)
    rw [findK_succ]
    refine List.pairwise_append.2 ⟨findK_asc hs i (by omega), ?_, ?_⟩
    · unfold rowK
      have e : xs.getD i default = a := by rw [List.getD_eq_getElem?_getD, ha]; rfl
      rw [e]
      have hsub : List.Sublist (((xs.take xs.length).drop (i + 1)).filter (fun b => decide (ovl (boxOf a) (boxOf b)))) xs := List.filter_sublist.trans ((List.drop_sublist _ _).trans (List.take_sublist _ _))
      have := List.Pairwise.sublist hsub hs
      exact List.pairwise_map.2 (this.imp fun h => .inr ⟨rfl, h⟩)
    · intro x hx y hy
      obtain ⟨k, b, _, hb, _, rfl⟩ := (mem_rowK ha).1 hy
      simp only [findK, List.mem_flatMap, List.mem_range] at hx
      obtain ⟨j, hj, hx⟩ := hx
      obtain ⟨c, hc⟩ := getSome (xs := xs) (k := j) rfl (by omega)
      obtain ⟨_, _, _, _, _, rfl⟩ := (mem_rowK hc).1 hx
      exact .inl (sorted_lt hs hj hc ha)
theorem findP_asc {xs : List Body} (hs : Sorted xs) : Asc (findP xs) := findK_asc hs xs.length (Nat.le_refl _)
theorem ovl_comm {a b : Bx} (h : ovl a b) : ovl b a := by unfold ovl at *; omega
/-- What is left of the candidates when those apart are taken out. -/
theorem cands_find {xs : List Body} (hs : Sorted xs) {ps : List (Int × Int)} (hp : Asc ps) (hm : ∀ z, z ∈ ps ↔ z ∈ cands (gOf xs) 1024) : ps.filter (fun z => !apB (bxM xs) z) = findP xs := by
  refine asc_unique (List.Pairwise.sublist List.filter_sublist hp) (findP_asc hs) fun z => ?_
  rw [List.mem_filter, hm z, mem_cands, mem_findP]
  unfold apB
  simp only [Bool.not_eq_true', decide_eq_false_iff_not, Decidable.not_not]
  constructor
  · rintro ⟨⟨j, hj, ka, hka, kb, hkb, hne, rfl⟩, ho⟩
    obtain ⟨a, ha, _, rfl⟩ := mem_gOf.1 hka
    obtain ⟨b, hb, _, rfl⟩ := mem_gOf.1 hkb
    obtain ⟨p, hp⟩ := List.getElem?_of_mem ha
    obtain ⟨q, hq⟩ := List.getElem?_of_mem hb
    rcases Nat.lt_trichotomy p q with h | h | h
    · have hlt := sorted_lt hs h hp hq
      have e : prI a.key b.key = (a.key, b.key) := by unfold prI; apply Prod.ext <;> simp only <;> omega
      rw [e] at ho ⊢
      simp only [bxM_get hs ha, bxM_get hs hb, Option.getD_some] at ho
      exact ⟨p, q, a, b, h, hp, hq, ho, rfl⟩
    · subst h; rw [hp] at hq; injection hq with hq; subst hq; exact absurd rfl hne
    · have hlt := sorted_lt hs h hq hp
      have e : prI a.key b.key = (b.key, a.key) := by unfold prI; apply Prod.ext <;> simp only <;> omega
      rw [e] at ho ⊢
      simp only [bxM_get hs ha, bxM_get hs hb, Option.getD_some] at ho
      exact ⟨q, p, b, a, h, hq, hp, ho, rfl⟩
  · rintro ⟨i, k, a, b, hik, ha, hb, ho, rfl⟩
    have ham := List.mem_of_getElem? ha
    have hbm := List.mem_of_getElem? hb
    have hlt := sorted_lt hs hik ha hb
    refine ⟨?_, by simp only [bxM_get hs ham, bxM_get hs hbm, Option.getD_some]; exact ho⟩
    obtain ⟨c, hc1, hc2⟩ := ovl_cell ho
    refine ⟨bucketI c, bucket_lt c, a.key, mem_gOf.2 ⟨a, ham, List.mem_map.2 ⟨c, hc1, rfl⟩, rfl⟩, b.key, mem_gOf.2 ⟨b, hbm, List.mem_map.2 ⟨c, hc2, rfl⟩, rfl⟩, by omega, ?_⟩
    unfold prI
    apply Prod.ext <;> simp only <;> omega
/-- All pairs. -/
def allQ : List Body → List (Int × Int)
  | [] => []
  | a :: l => l.map (fun b => (a.key, b.key)) ++ allQ l
theorem allQ_len : ∀ xs : List Body, 2 * (allQ xs).length = xs.length * (xs.length - 1)
  | [] => rfl
  | a :: l => by
    have ih := allQ_len l
    simp only [allQ, List.length_append, List.length_map, List.length_cons, Nat.add_sub_cancel, Nat.mul_add, ih]
    cases hl : l.length with
    | zero => simp
    | succ n => simp only [Nat.add_sub_cancel, Nat.add_mul, Nat.mul_add]; omega
theorem mem_allQ {xs : List Body} (hs : Sorted xs) {a b : Body} (ha : a ∈ xs) (hb : b ∈ xs) (hlt : a.key < b.key) : (a.key, b.key) ∈ allQ xs := by
  induction xs with
  | nil => cases ha
  | cons c l ih =>
    have e := List.pairwise_cons.1 hs
    unfold allQ
    rcases List.mem_cons.1 ha with h1 | h1
    · subst h1
      rcases List.mem_cons.1 hb with h2 | h2
      · subst h2; omega
      · exact List.mem_append_left _ (List.mem_map.2 ⟨b, h2, rfl⟩)
    · rcases List.mem_cons.1 hb with h2 | h2
      · subst h2; have := e.1 a h1; omega
      · exact List.mem_append_right _ (ih e.2 h1 h2)
theorem cands_len {xs : List Body} (hs : Sorted xs) {ps : List (Int × Int)} (hp : Asc ps) (hm : ∀ z, z ∈ ps ↔ z ∈ cands (gOf xs) 1024) : 2 * ps.length ≤ xs.length * (xs.length - 1) := by
  rw [← allQ_len]
  have := nodup_le (asc_nodup hp) (m := allQ xs) fun z hz => by
    obtain ⟨j, hj, ka, hka, kb, hkb, hne, rfl⟩ := mem_cands.1 ((hm z).1 hz)
    obtain ⟨a, ha, _, rfl⟩ := mem_gOf.1 hka
    obtain ⟨b, hb, _, rfl⟩ := mem_gOf.1 hkb
    rcases Int.lt_or_le a.key b.key with h | h
    · have e : prI a.key b.key = (a.key, b.key) := by unfold prI; apply Prod.ext <;> simp only <;> omega
      rw [e]; exact mem_allQ hs ha hb h
    · have e : prI a.key b.key = (b.key, a.key) := by unfold prI; apply Prod.ext <;> simp only <;> omega
      rw [e]; exact mem_allQ hs hb ha (by omega)
  omega
end Go.Bil
namespace Go.Bil
/-! ### Deleting in place -/
theorem findIdx_at {α : Type} {p : α → Bool} : ∀ {l : List α} {k : Nat} {x : α}, l[k]? = some x → p x = true → (∀ (j : Nat) (y : α), j < k → l[j]? = some y → p y = false) → l.findIdx p = k
  | a :: l, 0, x, h, hp, _ => by simp only [List.getElem?_cons_zero, Option.some.injEq] at h; subst h; simp [List.findIdx_cons, hp]
  | a :: l, k + 1, x, h, hp, hn => by
    have h0 := hn 0 a (by omega) rfl
    have ih := findIdx_at (l := l) (k := k) (by simpa using h) hp (fun j y hj hy => hn (j + 1) y (by omega) (by simpa using hy))
    simp [List.findIdx_cons, h0, ih]
theorem findIdx_no {α : Type} {p : α → Bool} : ∀ {l : List α}, (∀ (j : Nat) (y : α), l[j]? = some y → p y = false) → l.findIdx p = l.length
  | [], _ => rfl
  | a :: l, h => by
    have h0 := h 0 a rfl
    have ih := findIdx_no (l := l) (fun j y hy => h (j + 1) y (by simpa using hy))
    simp [List.findIdx_cons, h0, ih]
theorem findIdx_before {α : Type} {p : α → Bool} {l : List α} {j : Nat} {y : α} (hj : j < l.findIdx p) (hy : l[j]? = some y) : p y = false := by
  have hjl := (List.getElem?_eq_some_iff.1 hy).1
  have := List.not_of_lt_findIdx hj
  have e := (List.getElem?_eq_some_iff.1 hy).2
  rw [e] at this
  simpa using this
theorem filter_none {α : Type} {p : α → Bool} {l : List α} (h : ¬ l.findIdx p < l.length) : l.filter (fun z => !p z) = l := by
  refine List.filter_eq_self.2 fun x hx => ?_
  obtain ⟨i, hi⟩ := List.getElem?_of_mem hx
  have := findIdx_before (p := p) (l := l) (j := i) (by have := (List.getElem?_eq_some_iff.1 hi).1; omega) hi
  simp [this]
theorem filter_first {α : Type} {p : α → Bool} {l : List α} (h : l.findIdx p < l.length) : l.take (l.findIdx p) = (l.take (l.findIdx p + 1)).filter (fun z => !p z) := by
  obtain ⟨x, hx⟩ := getSome (xs := l) (k := l.findIdx p) rfl h
  have hp : p x = true := by
    have := List.findIdx_getElem (w := h)
    rwa [(List.getElem?_eq_some_iff.1 hx).2] at this
  rw [take_snoc hx, List.filter_append]
  have h1 : (l.take (l.findIdx p)).filter (fun z => !p z) = l.take (l.findIdx p) := by
    refine List.filter_eq_self.2 fun y hy => ?_
    obtain ⟨i, hi⟩ := List.getElem?_of_mem hy
    have hil := (List.getElem?_eq_some_iff.1 hi).1
    rw [List.length_take] at hil
    rw [List.getElem?_take_of_lt (by omega)] at hi
    have := findIdx_before (p := p) (by omega) hi
    simp [this]
  rw [h1]
  simp [hp]
theorem filter_step {α : Type} {p : α → Bool} {l : List α} {j : Nat} {x : α} (h : l[j]? = some x) : (l.take (j + 1)).filter (fun z => !p z) = (l.take j).filter (fun z => !p z) ++ if p x then [] else [x] := by
  rw [take_snoc h, List.filter_append]
  cases hp : p x <;> simp [hp]
theorem set_take {α : Type} {l : List α} {k : Nat} {x : α} (hk : k < l.length) : (l.set k x).take (k + 1) = l.take k ++ [x] := by
  rw [take_snoc (List.getElem?_set_self hk), List.take_set_of_le (Nat.le_refl k)]
theorem set_drop {α : Type} {l : List α} {k j : Nat} {x : α} (hk : k < j) : (l.set k x).drop j = l.drop j := List.drop_set_of_lt hk
theorem drop_get {α : Type} {l m : List α} {j : Nat} (h : l.drop j = m.drop j) : l[j]? = m[j]? := by
  have := congrArg (fun q => q[0]?) h
  simpa [List.getElem?_drop] using this
theorem drop_next {α : Type} {l m : List α} {j : Nat} (h : l.drop j = m.drop j) : l.drop (j + 1) = m.drop (j + 1) := by
  have := congrArg (List.drop 1) h
  simpa [List.drop_drop, Nat.add_comm] using this
theorem RowIs.apartTail {w0 w : World} {X : List Nat} {T sz : Nat} {A : Option Addr} {n c : Nat} {ls : List (List Value)} {er : Ent} {S : List Ent} (M : Mem w0 X (er :: S) w) (hR : RowIs T sz A n c ls er) : 0 < n → ∀ q off, A = some ⟨q, off, none⟩ → q ∉ blks S := by
  intro hn q off hA
  obtain ⟨b, L, h1, h2, _, _⟩ := hR.block hn
  rw [h1] at hA
  injection hA with hA
  injection hA with hA
  subst hA
  subst h2
  have := M.apart
  simp only [blks, List.filterMap_cons] at this
  exact (List.nodup_cons.1 this).1
theorem Mem.awayTail {w0 w : World} {T : List Ent} {L : List Ent} {sz nn : Nat} {A : Option Addr} {ls : List (List Value)} (M : Mem w0 [] (L ++ T) w) (R : Rd w0 sz A nn ls) : 0 < nn → ∀ q off, A = some ⟨q, off, none⟩ → q ∉ blks T := by
  intro hn q off hA h
  obtain ⟨o, ho⟩ := mem_blks.1 h
  obtain ⟨b, off', hb, hlt, _⟩ := R.at_ hn
  rw [hb] at hA
  injection hA with hA
  injection hA with hA
  subst hA
  rcases (M.own b o (List.mem_append_right _ ho)).2 with h | h
  · omega
  · cases h
theorem Mem.dummies {w0 w : World} {X : List Nat} {S : List Ent} (k : Nat) (M : Mem w0 X S w) (o : Obj) : Mem w0 X (S ++ List.replicate k (none, o)) w :=
  ⟨M.os, M.tape, M.output, M.size, M.old, fun b o' hb => by
    rcases List.mem_append.1 hb with h | h
    · exact M.own b o' h
    · exact absurd (List.eq_of_mem_replicate h) (by simp), by
    have e : ∀ k, blks (List.replicate k ((none, o) : Ent)) = [] := fun k => by induction k with
      | zero => rfl
      | succ k ih => simp [blks, List.replicate_succ] at ih ⊢
    rw [blks_append, e]; simpa using M.apart⟩
def nilRow : Row := ⟨none, 0, 0, (none, default)⟩
theorem grid_new (T : Nat) : GridRows T (List.replicate 1024 nilRow) (gOf []) := ⟨List.length_replicate, fun j r hr => by
  have : r = nilRow := List.eq_of_mem_replicate (List.mem_of_getElem? hr)
  subst this
  exact RowIs.nil _ _ _⟩
theorem Mem.gridNew {w0 w : World} {X : List Nat} {L : List Ent} {b T : Nat} (M : Mem w0 X (L ++ [(some b, bc (gcells (List.replicate 1024 nilRow) 0) T)]) w) : Mem w0 X (L ++ ((some b, bc (gcells (List.replicate 1024 nilRow) 0) T) :: (List.replicate 1024 nilRow).map Row.e)) w := by
  have := M.dummies 1024 default
  rw [List.append_assoc] at this
  rw [List.map_replicate]
  exact this
theorem Mem.gridRd {w0 w : World} {X : List Nat} {L : List Ent} {rs : List Row} {cnt : Int} {b T : Nat} (M : Mem w0 X (L ++ ((some b, bc (gcells rs cnt) T) :: rs.map Row.e)) w) (h : rs.length = 1024) : Rd w 1025 (some ⟨b, 0, none⟩) 1 [gcells rs cnt] := by
  have hb := (M.own b _ (List.mem_append_right _ List.mem_cons_self)).1
  refine ⟨rfl, by simp [gcells_len h], by omega, fun _ => ⟨b, 0, rfl, (Array.getElem?_eq_some_iff.1 hb).1, fun i l hl => ?_⟩⟩
  obtain ⟨rfl, rfl⟩ : i = 0 ∧ l = gcells rs cnt := by
    cases i with
    | zero => simpa using hl.symm
    | succ i => simp at hl
  simpa using Cells.of_heap hb (by simp)
theorem Mem.rowRd {w0 w : World} {X : List Nat} {L : List Ent} {rs : List Row} {e : Ent} {T : Nat} {g : Nat → List Int} (M : Mem w0 X (L ++ (e :: rs.map Row.e)) w) (h : GridRows T rs g) (j : Nat) (r : Row) (hr : rs[j]? = some r) : Rd w 1 r.A r.n ((g j).map keyCell) ∧ r.n ≤ r.c :=
  ⟨(h.row j r hr).rd M (List.mem_append_right _ (List.mem_cons_of_mem _ (List.mem_map.2 ⟨r, List.mem_of_getElem? hr, rfl⟩))), (h.row j r hr).slice⟩
end Go.Bil
namespace Go.Bil
def withinL (xs : List Body) (a : Bx) : List Int := (xs.filter (fun b => decide (ovl (boxOf b) a))).map (·.key)
theorem withinL_yes {xs : List Body} {a : Bx} {k : Nat} {b : Body} (h : xs[k]? = some b) (ho : ovl (boxOf b) a) : withinL (xs.take (k + 1)) a = withinL (xs.take k) a ++ [b.key] := by
  unfold withinL
  rw [filter_snoc h, List.map_append]
  congr 1
  simp only [decide_eq_true ho, if_true, List.map_cons, List.map_nil]
theorem withinL_no {xs : List Body} {a : Bx} {k : Nat} {b : Body} (h : xs[k]? = some b) (ho : ¬ ovl (boxOf b) a) : withinL (xs.take (k + 1)) a = withinL (xs.take k) a := by
  unfold withinL
  rw [filter_snoc h, List.map_append]
  simp only [decide_eq_false ho, Bool.false_eq_true, if_false, List.map_nil, List.append_nil]
theorem withinL_len (xs : List Body) (a : Bx) : (withinL xs a).length ≤ xs.length := by
  unfold withinL
  rw [List.length_map]
  exact List.length_filter_le _ _
def lonB (xs : List Body) (key : Int) : Bool := if findI key xs < 0 then false else decide ((withinL xs (boxOf (xs.getD (findI key xs).toNat default))).length = 1)
theorem filter_one {α : Type} {p : α → Bool} : ∀ {l : List α} {i : Nat} {x : α}, l[i]? = some x → p x = true → ((l.filter p).length = 1 ↔ ∀ (k : Nat) (y : α), l[k]? = some y → k ≠ i → p y = false)
  | a :: l, 0, x, h, hp => by
    simp only [List.getElem?_cons_zero, Option.some.injEq] at h
    subst h
    rw [List.filter_cons, if_pos hp, List.length_cons]
    constructor
    · intro h k y hk hne
      cases k with
      | zero => exact absurd rfl hne
      | succ k =>
        have h0 : l.filter p = [] := List.eq_nil_of_length_eq_zero (by omega)
        have hm : y ∈ l := List.mem_of_getElem? (by simpa using hk)
        have := List.filter_eq_nil_iff.1 h0 y hm
        simpa using this
    · intro h
      have : l.filter p = [] := List.filter_eq_nil_iff.2 fun y hy => by
        obtain ⟨k, hk⟩ := List.getElem?_of_mem hy
        simp [h (k + 1) y (by simpa using hk) (by omega)]
      rw [this]
      rfl
  | a :: l, i + 1, x, h, hp => by
    have h' : l[i]? = some x := by simpa using h
    have ih := filter_one h' hp
    rw [List.filter_cons]
    by_cases ha : p a = true
    · rw [if_pos ha, List.length_cons]
      have hx : x ∈ l.filter p := List.mem_filter.2 ⟨List.mem_of_getElem? h', hp⟩
      have hpos := List.length_pos_of_mem hx
      refine ⟨fun h => by omega, fun h => ?_⟩
      have := h 0 a rfl (by omega)
      rw [ha] at this; cases this
    · rw [if_neg ha]
      refine ih.trans ⟨fun h k y hk hne => ?_, fun h k y hk hne => h (k + 1) y (by simpa using hk) (by omega)⟩
      cases k with
      | zero => simp only [List.getElem?_cons_zero, Option.some.injEq] at hk; subst hk; simpa using ha
      | succ k => exact h k y (by simpa using hk) (by omega)
theorem ovl_self {b : Body} (h : Okb b) : ovl (boxOf b) (boxOf b) := by
  have := box_full h
  unfold ovl
  omega
theorem lonB_iff {xs : List Body} (hb : ∀ b ∈ xs, Okb b) {key : Int} {i : Nat} {b : Body} (hi : xs[i]? = some b) (hf : findI key xs = (i : Int)) : lonB xs key = true ↔ ∀ (k : Nat) (c : Body), xs[k]? = some c → k ≠ i → ¬ ovl (boxOf b) (boxOf c) := by
  have e : xs.getD (findI key xs).toNat default = b := by rw [hf, Int.toNat_natCast, List.getD_eq_getElem?_getD, hi]; rfl
  unfold lonB
  rw [if_neg (by omega), e, decide_eq_true_iff]
  unfold withinL
  rw [List.length_map, filter_one hi (decide_eq_true (ovl_self (hb b (List.mem_of_getElem? hi))))]
  constructor
  · intro h k c hk hne ho
    have := h k c hk hne
    simp only [decide_eq_false_iff_not] at this
    exact this (ovl_comm ho)
  · intro h k c hk hne
    simp only [decide_eq_false_iff_not]
    exact fun ho => h k c hk hne (ovl_comm ho)
theorem lonB_none {xs : List Body} {key : Int} (hf : findI key xs < 0) : lonB xs key = false := by unfold lonB; rw [if_pos hf]
def viewL (xs : List Body) : List Body := if 40 < xs.length then [] else (sortV xs).1
abbrev viewP (xs : List Body) : Prop := xs.length ≤ 40 ∧ (sortV xs).2 = 0
theorem viewL_len (xs : List Body) : (viewL xs).length ≤ 40 := by
  unfold viewL
  split
  · simp
  · have := sortV_len xs; omega
structure View (v : List Body) : Prop where
  s : Sorted v
  ok : ∀ b ∈ v, check b = 0
  len : v.length ≤ 40
theorem View.okb {v : List Body} (h : View v) : ∀ b ∈ v, Okb b := fun b hb => check_ok (h.ok b hb)
theorem view_of {xs : List Body} (h : viewP xs) : View (viewL xs) ∧ viewL xs = sortB xs ∧ Keys xs := by
  obtain ⟨h1, h2⟩ := h
  obtain ⟨hk, he, hv⟩ := sortV_ok h2
  have e : viewL xs = sortB xs := by unfold viewL; rw [if_neg (by omega), hv]
  refine ⟨⟨by rw [e]; exact sorted_B hk, ?_, viewL_len xs⟩, e, hk⟩
  rw [e]
  exact (eachI_ok (each_sort he)).2
end Go.Bil
namespace Go.Bil
theorem Mem.order4 {w0 w : World} {X : List Nat} {a b c d : Ent} {T : List Ent} (M : Mem w0 X ([a, b, c, d] ++ T) w) : Mem w0 X [d, c, a, b] w := by
  have M1 : Mem w0 X ([a, b] ++ [c, d]) w := M.sub (List.sublist_append_left [a, b, c, d] T)
  exact M1.perm (List.perm_append_comm.trans (List.Perm.swap d c [a, b]))
end Go.Bil
namespace Go.Bil
def bC (k x y : Int) : Body := ⟨k, 65536, 0, 0, 0, 0, x, y, 0, 0⟩
end Go.Bil
