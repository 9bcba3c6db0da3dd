/- Part of the proof of the laws of this seat: MdP, MdQ, MdR. No conditions. -/
import Derived.Test.YtjbhobahebebkaaDoorK13
import Derived.Test.YtjbhobahebebkaaDoorK15
import Derived.Test.YtjbhobahebebkaaDoorK3
/- Pairs of keys, plain: candidates of a grid, sorting of pairs, pairs of overlapping boxes. -/
set_option linter.unusedVariables false
set_option linter.unusedSimpArgs false
namespace Go.Bil
def pairCells (p : Int × Int) : List Value := [.int .u32 p.1, .int .u32 p.2]
theorem pairCells_len (p : Int × Int) : (pairCells p).length = 2 := rfl
theorem pairs_len (m : List (Int × Int)) : ∀ y ∈ m.map pairCells, y.length = 2 := by
  intro y hy
  obtain ⟨x, _, rfl⟩ := List.mem_map.1 hy
  rfl
def prI (a b : Int) : Int × Int := (min a b, max a b)
theorem prI_comm (a b : Int) : prI a b = prI b a := by unfold prI; apply Prod.ext <;> simp only <;> omega
def prsR (a : Int) (xs : List Int) : List (Int × Int) := (xs.filter (fun x => decide (a ≠ x))).map (prI a)
def prsLk (l : List Int) (k : Nat) : List (Int × Int) := (List.range k).flatMap (fun p => prsR (l.getD p 0) (l.take p))
def prsL (l : List Int) : List (Int × Int) := prsLk l l.length
def cands (g : Nat → List Int) (n : Nat) : List (Int × Int) := (List.range n).flatMap (fun j => prsL (g j))
theorem mem_prsR {a : Int} {xs : List Int} {z : Int × Int} : z ∈ prsR a xs ↔ ∃ x ∈ xs, a ≠ x ∧ z = prI a x := by
  simp only [prsR, List.mem_map, List.mem_filter, decide_eq_true_eq]
  constructor
  · rintro ⟨x, ⟨h1, h2⟩, rfl⟩; exact ⟨x, h1, h2, rfl⟩
  · rintro ⟨x, h1, h2, rfl⟩; exact ⟨x, ⟨h1, h2⟩, rfl⟩
theorem prsR_snoc {a x : Int} {l : List Int} {q : Nat} (h : l[q]? = some x) (z : Int × Int) : z ∈ prsR a (l.take (q + 1)) ↔ (a ≠ x ∧ z = prI a x) ∨ z ∈ prsR a (l.take q) := by
  rw [mem_prsR, mem_prsR, take_snoc h]
  constructor
  · rintro ⟨y, hy, h1, h2⟩
    rcases List.mem_append.1 hy with hy | hy
    · exact .inr ⟨y, hy, h1, h2⟩
    · simp only [List.mem_singleton] at hy; subst hy; exact .inl ⟨h1, h2⟩
  · rintro (⟨h1, h2⟩ | ⟨y, hy, h1, h2⟩)
    · exact ⟨x, by simp, h1, h2⟩
    · exact ⟨y, List.mem_append_left _ hy, h1, h2⟩
theorem prsLk_snoc {l : List Int} {k : Nat} {a : Int} (h : l[k]? = some a) : prsLk l (k + 1) = prsLk l k ++ prsR a (l.take k) := by
  unfold prsLk
  rw [List.range_succ, List.flatMap_append]
  simp [List.getD_eq_getElem?_getD, h]
theorem cands_succ (g : Nat → List Int) (n : Nat) : cands g (n + 1) = cands g n ++ prsL (g n) := by
  unfold cands
  rw [List.range_succ, List.flatMap_append]
  simp
theorem mem_prsL {l : List Int} {z : Int × Int} : z ∈ prsL l ↔ ∃ a ∈ l, ∃ b ∈ l, a ≠ b ∧ z = prI a b := by
  simp only [prsL, prsLk, List.mem_flatMap, List.mem_range, mem_prsR]
  constructor
  · rintro ⟨p, hp, x, hx, h1, h2⟩
    have e : l.getD p 0 = l[p] := by simp [List.getD_eq_getElem?_getD, hp]
    exact ⟨_, by rw [e]; exact List.getElem_mem hp, x, List.mem_of_mem_take hx, h1, h2⟩
  · rintro ⟨a, ha, b, hb, h1, h2⟩
    obtain ⟨p, hp⟩ := List.getElem?_of_mem ha
    obtain ⟨q, hq⟩ := List.getElem?_of_mem hb
    have hpl := (List.getElem?_eq_some_iff.1 hp).1
    have hql := (List.getElem?_eq_some_iff.1 hq).1
    rcases Nat.lt_trichotomy p q with h | h | h
    · refine ⟨q, hql, a, ?_, ?_, ?_⟩
      · exact List.mem_of_getElem? (i := p) (by rw [List.getElem?_take_of_lt h]; exact hp)
      · rw [List.getD_eq_getElem?_getD, hq]; exact fun e => h1 e.symm
      · rw [List.getD_eq_getElem?_getD, hq, h2]; exact prI_comm a b
    · subst h; rw [hp] at hq; injection hq with hq; exact absurd hq h1
    · refine ⟨p, hpl, b, ?_, ?_, ?_⟩
      · exact List.mem_of_getElem? (i := q) (by rw [List.getElem?_take_of_lt h]; exact hq)
      · rw [List.getD_eq_getElem?_getD, hp]; exact h1
      · rw [List.getD_eq_getElem?_getD, hp]; exact h2
theorem mem_cands {g : Nat → List Int} {n : Nat} {z : Int × Int} : z ∈ cands g n ↔ ∃ j, j < n ∧ ∃ a ∈ g j, ∃ b ∈ g j, a ≠ b ∧ z = prI a b := by
  simp only [cands, List.mem_flatMap, List.mem_range, mem_prsL]
theorem take_get {ks : List Int} {q p : Nat} {x : Int} (h : ks[q]? = some x) (hq : q < p) : (((ks.map keyCell).drop 0).take (p - 0))[q]? = some (keyCell x) := by
  rw [List.getElem?_take_of_lt (by omega), List.drop_zero, List.getElem?_map, h]
  rfl
/-! ### Lexicographic order -/
def ltP (a b : Int × Int) : Prop := a.1 < b.1 ∨ (a.1 = b.1 ∧ a.2 < b.2)
instance (a b : Int × Int) : Decidable (ltP a b) := by unfold ltP; infer_instance
def cmpP (a b : Int × Int) : Int := if cmpI a.1 b.1 = 0 then cmpI a.2 b.2 else cmpI a.1 b.1
theorem cmpP_neg {a b : Int × Int} : cmpP a b < 0 ↔ ltP a b := by
  unfold cmpP ltP cmpI
  (repeat' split) <;> omega
theorem ltP_trans {a b c : Int × Int} (h : ltP a b) (h' : ltP b c) : ltP a c := by unfold ltP at *; omega
theorem ltP_irrefl {a : Int × Int} : ¬ ltP a a := by unfold ltP; omega
theorem ltP_total {a b : Int × Int} (h : a ≠ b) (h' : ¬ ltP b a) : ltP a b := by
  unfold ltP at *
  have : a.1 ≠ b.1 ∨ a.2 ≠ b.2 := by
    by_cases h1 : a.1 = b.1
    · exact .inr fun h2 => h (Prod.ext h1 h2)
    · exact .inl h1
  omega
abbrev Asc (l : List (Int × Int)) : Prop := l.Pairwise ltP
theorem asc_unique : ∀ {l m : List (Int × Int)}, Asc l → Asc m → (∀ z, z ∈ l ↔ z ∈ m) → l = m
  | [], [], _, _, _ => rfl
  | [], b :: m, _, _, h => absurd ((h b).2 (by simp)) (by simp)
  | a :: l, [], _, _, h => absurd ((h a).1 (by simp)) (by simp)
  | a :: l, b :: m, h1, h2, h => by
    have e1 := List.pairwise_cons.1 h1
    have e2 := List.pairwise_cons.1 h2
    have hab : a = b := by
      rcases List.mem_cons.1 ((h a).1 (by simp)) with e | e
      · exact e
      · rcases List.mem_cons.1 ((h b).2 (by simp)) with e' | e'
        · exact e'.symm
        · exact absurd (ltP_trans (e2.1 a e) (e1.1 b e')) ltP_irrefl
    subst hab
    refine congrArg (a :: ·) (asc_unique e1.2 e2.2 fun z => ⟨fun hz => ?_, fun hz => ?_⟩)
    · rcases List.mem_cons.1 ((h z).1 (List.mem_cons_of_mem _ hz)) with e | e
      · subst e; exact absurd (e1.1 z hz) ltP_irrefl
      · exact e
    · rcases List.mem_cons.1 ((h z).2 (List.mem_cons_of_mem _ hz)) with e | e
      · subst e; exact absurd (e2.1 z hz) ltP_irrefl
      · exact e
theorem asc_nodup {l : List (Int × Int)} (h : Asc l) : l.Nodup := h.imp fun hab e => by subst e; exact ltP_irrefl hab
theorem nodup_le : ∀ {l m : List (Int × Int)}, l.Nodup → (∀ z ∈ l, z ∈ m) → l.length ≤ m.length
  | [], m, _, _ => by simp
  | a :: l, m, h, hs => by
    have e := List.nodup_cons.1 h
    have ha := hs a (by simp)
    have := nodup_le (l := l) (m := m.erase a) e.2 fun z hz => (List.mem_erase_of_ne (fun e' => by subst e'; exact e.1 hz)).2 (hs z (List.mem_cons_of_mem _ hz))
    rw [List.length_erase_of_mem ha] at this
    have hpos : 0 < m.length := List.length_pos_of_mem ha
    simp only [List.length_cons]
    omega
/-- All pairs of two lists. -/
def prodL (ks : List Int) : List (Int × Int) := ks.flatMap (fun a => ks.map (fun b => (a, b)))
theorem mem_prodL {ks : List Int} {z : Int × Int} : z ∈ prodL ks ↔ z.1 ∈ ks ∧ z.2 ∈ ks := by
  simp only [prodL, List.mem_flatMap, List.mem_map]
  constructor
  · rintro ⟨a, ha, b, hb, rfl⟩; exact ⟨ha, hb⟩
  · rintro ⟨h1, h2⟩; exact ⟨z.1, h1, z.2, h2, rfl⟩
theorem prodL_len (ks : List Int) : (prodL ks).length = ks.length * ks.length := by
  unfold prodL
  have : ∀ l : List Int, (l.flatMap (fun a => ks.map (fun b => (a, b)))).length = l.length * ks.length := by
    intro l
    induction l with
    | nil => simp
    | cons a l ih => simp only [List.flatMap_cons, List.length_append, ih, List.length_map, List.length_cons, Nat.add_mul, Nat.one_mul]; omega
  exact this ks
theorem prI_mem {ks : List Int} {a b : Int} (ha : a ∈ ks) (hb : b ∈ ks) : prI a b ∈ prodL ks := by
  rw [mem_prodL]
  unfold prI
  simp only [Int.min_def, Int.max_def]
  constructor <;> split <;> assumption
end Go.Bil
namespace Go.Bil
theorem grow3 (w : World) (o p q : Obj) : ∃ n os, ({ ({ ({ ({ w with heap := w.heap.push o } : World) with heap := (w.heap.push o).push p } : World) with drawn := w.drawn + 1 } : World) with heap := ((w.heap.push o).push p).push q } : World) = Go.Sort.grow (w.drewN n) os := ⟨1, #[o, p, q], by
  have e : ((w.heap.push o).push p).push q = w.heap ++ #[o, p, q] := by apply Array.ext'; simp
  simp [Go.Sort.grow, e, World.drewN]
  exact ⟨rfl, rfl, rfl⟩⟩
theorem Mem.drewE {w0 w : World} {X : List Nat} {S : List Ent} (M : Mem w0 X S w) : Mem w0 X S { w with drawn := w.drawn + 1 } := M.drew ⟨rfl, rfl, rfl, Nat.le_refl _, fun _ _ => rfl⟩ rfl
theorem Mem.notNew {w0 w : World} {S : List Ent} {b : Nat} (k : Nat) (M : Mem w0 [] S w) (hb : b < w0.heap.size) : b ∉ blks (S.take k) := by
  intro h
  obtain ⟨o, ho⟩ := mem_blks.1 h
  rcases (M.own b o (List.mem_of_mem_take ho)).2 with h | h
  · omega
  · cases h
theorem came_len {α : Type} {L T : List (α × Nat)} (hT : (T.map (·.2)).Nodup) (hs : ∀ p ∈ T, p ∈ L) : T.length ≤ L.length := by
  have : ∀ {T L : List (α × Nat)}, (T.map (·.2)).Nodup → (∀ p ∈ T, p ∈ L) → T.length ≤ L.length := by
    intro T
    induction T with
    | nil => intros; simp
    | cons a T ih =>
      intro L h hs
      simp only [List.map_cons, List.nodup_cons] at h
      obtain ⟨i, hi⟩ := List.getElem?_of_mem (hs a (by simp))
      have hlt := (List.getElem?_eq_some_iff.1 hi).1
      have := ih (L := L.eraseIdx i) h.2 fun p hp => by
        have hpL := (perm_erase hi).mem_iff.1 (hs p (List.mem_cons_of_mem _ hp))
        rcases List.mem_cons.1 hpL with e | e
        · subst e; exact absurd (List.mem_map.2 ⟨p, hp, rfl⟩) h.1
        · exact e
      rw [List.length_eraseIdx_of_lt hlt] at this
      simp only [List.length_cons]
      omega
  exact this hT hs
theorem came_snoc {α : Type} {T : List (α × Nat)} {p : α × Nat} (hT : (T.map (·.2)).Nodup) (hp : p.2 ∉ T.map (·.2)) : ((T ++ [p]).map (·.2)).Nodup := by
  simp only [List.map_append, List.map_cons, List.map_nil, List.nodup_append, List.nodup_cons, List.not_mem_nil, not_false_eq_true, List.nodup_nil, and_self, List.mem_singleton, true_and]
  exact ⟨hT, fun x hx y hy e => hp (by rw [← hy, ← e]; exact hx)⟩
theorem swo_pair : Go.Sort.SWO (Go.Proofs.ltOf cmpP) := by
  have e : ∀ x y : Int × Int, Go.Proofs.ltOf cmpP x y = decide (ltP x y) := fun x y => decide_eq_decide.2 cmpP_neg
  refine ⟨fun x => ?_, fun x y z => ?_, fun x y z => ?_⟩
  · rw [e]; exact decide_eq_false ltP_irrefl
  · rw [e, e, e]; simp only [decide_eq_true_eq]; exact ltP_trans
  · rw [e, e, e]; simp only [decide_eq_false_iff_not]; unfold ltP; omega
end Go.Bil
namespace Go.Bil
theorem asc_of {l : List (Int × Int)} (h : l.Nodup) (h' : l.Pairwise fun a b => ¬ ltP b a) : Asc l := List.Pairwise.imp₂ (fun a b hab hba => ltP_total hab hba) h h'
end Go.Bil
namespace Go.Bil
theorem cand_step {A A' C : List (Int × Int)} {xa xb : Int} {l : List Int} {q : Nat} (hZ : ∀ z, z ∈ A' ↔ z = prI xa xb ∨ z ∈ A) (hI : ∀ z, z ∈ A ↔ z ∈ C ++ prsR xa (l.take q)) (hxb : l[q]? = some xb) (hne : xa ≠ xb) : ∀ z, z ∈ A' ↔ z ∈ C ++ prsR xa (l.take (q + 1)) := fun z => by
  rw [hZ z, hI z, List.mem_append, List.mem_append, prsR_snoc hxb]
  constructor
  · rintro (h | h | h)
    · exact .inr (.inl ⟨hne, h⟩)
    · exact .inl h
    · exact .inr (.inr h)
  · rintro (h | ⟨_, h⟩ | h)
    · exact .inr (.inl h)
    · exact .inl h
    · exact .inr (.inr h)
theorem cand_same {A C : List (Int × Int)} {xa xb : Int} {l : List Int} {q : Nat} (hI : ∀ z, z ∈ A ↔ z ∈ C ++ prsR xa (l.take q)) (hxb : l[q]? = some xb) (hne : ¬ xa ≠ xb) : ∀ z, z ∈ A ↔ z ∈ C ++ prsR xa (l.take (q + 1)) := fun z => by
  rw [hI z, List.mem_append, List.mem_append, prsR_snoc hxb]
  constructor
  · rintro (h | h)
    · exact .inl h
    · exact .inr (.inr h)
  · rintro (h | ⟨h, _⟩ | h)
    · exact .inl h
    · exact absurd h hne
    · exact .inr h
theorem cand_prod {g : Nat → List Int} {ks : List Int} (hks : ∀ j, j < 1024 → ∀ x ∈ g j, x ∈ ks) {z : Int × Int} (hz : z ∈ cands g 1024) : z ∈ prodL ks := by
  obtain ⟨j, hj, a, ha, b, hb, _, rfl⟩ := mem_cands.1 hz
  exact prI_mem (hks j hj a ha) (hks j hj b hb)
end Go.Bil
namespace Go.Bil
theorem bxOf (l : List Value) (h : Ints [.i32, .i32, .i32, .i32] l) : ∃ a, l = bxCells a ∧ Okx a := by
  obtain ⟨z0, l0, rfl, w0, h0⟩ := ints_cons h
  obtain ⟨z1, l1, rfl, w1, h1⟩ := ints_cons h0
  obtain ⟨z2, l2, rfl, w2, h2⟩ := ints_cons h1
  obtain ⟨z3, l3, rfl, w3, h3⟩ := ints_cons h2
  obtain rfl := ints_nil h3
  exact ⟨⟨z0, z1, z2, z3⟩, rfl, ⟨w0, w1, w2, w3⟩⟩
end Go.Bil

/- Pairs of bodies whose boxes overlap, plain. -/
set_option linter.unusedVariables false
set_option linter.unusedSimpArgs false
namespace Go.Bil
def gOf (xs : List Body) : Nat → List Int := fun n => (xs.filter (fun b => decide (n ∈ (cellsB (boxOf b)).map bucketI))).map (·.key)
end Go.Bil
namespace Go.Bil
/-! ### Deleting in place -/
theorem Mem.awayTail {w0 w : World} {T : List Ent} {L : List Ent} {sz nn : Nat} {A : Option Addr} {ls : List (List Value)} (M : Mem w0 [] (L ++ T) w) (R : Rd w0 sz A nn ls) : 0 < nn → ∀ q off, A = some ⟨q, off, none⟩ → q ∉ blks T := by
  intro hn q off hA h
  obtain ⟨o, ho⟩ := mem_blks.1 h
  obtain ⟨b, off', hb, hlt, _⟩ := R.at_ hn
  rw [hb] at hA
  injection hA with hA
  injection hA with hA
  subst hA
  rcases (M.own b o (List.mem_append_right _ ho)).2 with h | h
  · omega
  · cases h
theorem Mem.dummies {w0 w : World} {X : List Nat} {S : List Ent} (k : Nat) (M : Mem w0 X S w) (o : Obj) : Mem w0 X (S ++ List.replicate k (none, o)) w :=
  ⟨M.os, M.tape, M.output, M.size, M.old, fun b o' hb => by
    rcases List.mem_append.1 hb with h | h
    · exact M.own b o' h
    · exact absurd (List.eq_of_mem_replicate h) (by simp), by
    have e : ∀ k, blks (List.replicate k ((none, o) : Ent)) = [] := fun k => by induction k with
      | zero => rfl
      | succ k ih => simp [blks, List.replicate_succ] at ih ⊢
    rw [blks_append, e]; simpa using M.apart⟩
def nilRow : Row := ⟨none, 0, 0, (none, default)⟩
theorem grid_new (T : Nat) : GridRows T (List.replicate 1024 nilRow) (gOf []) := ⟨List.length_replicate, fun j r hr => by
  have : r = nilRow := List.eq_of_mem_replicate (List.mem_of_getElem? hr)
  subst this
  exact RowIs.nil _ _ _⟩
theorem Mem.gridNew {w0 w : World} {X : List Nat} {L : List Ent} {b T : Nat} (M : Mem w0 X (L ++ [(some b, bc (gcells (List.replicate 1024 nilRow) 0) T)]) w) : Mem w0 X (L ++ ((some b, bc (gcells (List.replicate 1024 nilRow) 0) T) :: (List.replicate 1024 nilRow).map Row.e)) w := by
  have := M.dummies 1024 default
  rw [List.append_assoc] at this
  rw [List.map_replicate]
  exact this
theorem Mem.gridRd {w0 w : World} {X : List Nat} {L : List Ent} {rs : List Row} {cnt : Int} {b T : Nat} (M : Mem w0 X (L ++ ((some b, bc (gcells rs cnt) T) :: rs.map Row.e)) w) (h : rs.length = 1024) : Rd w 1025 (some ⟨b, 0, none⟩) 1 [gcells rs cnt] := by
  have hb := (M.own b _ (List.mem_append_right _ List.mem_cons_self)).1
  refine ⟨rfl, by simp [gcells_len h], by omega, fun _ => ⟨b, 0, rfl, (Array.getElem?_eq_some_iff.1 hb).1, fun i l hl => ?_⟩⟩
  obtain ⟨rfl, rfl⟩ : i = 0 ∧ l = gcells rs cnt := by
    cases i with
    | zero => simpa using hl.symm
    | succ i => simp at hl
  simpa using Cells.of_heap hb (by simp)
theorem Mem.rowRd {w0 w : World} {X : List Nat} {L : List Ent} {rs : List Row} {e : Ent} {T : Nat} {g : Nat → List Int} (M : Mem w0 X (L ++ (e :: rs.map Row.e)) w) (h : GridRows T rs g) (j : Nat) (r : Row) (hr : rs[j]? = some r) : Rd w 1 r.A r.n ((g j).map keyCell) ∧ r.n ≤ r.c :=
  ⟨(h.row j r hr).rd M (List.mem_append_right _ (List.mem_cons_of_mem _ (List.mem_map.2 ⟨r, List.mem_of_getElem? hr, rfl⟩))), (h.row j r hr).slice⟩
end Go.Bil
namespace Go.Bil
end Go.Bil
namespace Go.Bil
end Go.Bil
namespace Go.Bil
end Go.Bil

/- The laws of pairs, plain. -/
set_option linter.unusedVariables false
set_option linter.unusedSimpArgs false
namespace Go.Bil
theorem tmod_nat {f n a : Nat} {z : Int} (hz : z = (n : Int)) (h : a = f % n) : (f : Int).tmod z = (a : Int) := by
  subst hz
  subst h
  exact (Int.ofNat_tmod f n).symm
/-! ### Without a body -/
/-! ### Moved -/
/-! ### Within the box of a body -/
end Go.Bil
namespace Go.Bil
def vecCells (v : Int × Int) : List Value := [.int .i32 v.1, .int .i32 v.2]
theorem vecOf (l : List Value) (h : Ints [.i32, .i32] l) : ∃ v, l = vecCells v ∧ ((-2147483648 ≤ v.1 ∧ v.1 ≤ 2147483647) ∧ (-2147483648 ≤ v.2 ∧ v.2 ≤ 2147483647)) := by
  obtain ⟨z0, l0, rfl, w0, h0⟩ := ints_cons h
  obtain ⟨z1, l1, rfl, w1, h1⟩ := ints_cons h0
  obtain rfl := ints_nil h1
  exact ⟨(z0, z1), rfl, w0, w1⟩
end Go.Bil
