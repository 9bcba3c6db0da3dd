/- Memory: what a call owns, as a list of blocks; rules for loads and stores. -/
import Derived.Test.YtfgbmegchdjfeaaDoorFwB
set_option linter.unusedVariables false
set_option linter.unusedSimpArgs false
namespace Go.Bil
open Go.RowKit (Below)

/-! ### Facts on types, each closed -/
def oneB (P : Program) (T : TypeId) : Bool :=
  match P.underlying T with
  | some (.struct _) | some (.array ..) | none => false
  | _ => P.cellsOf T == 1
def aggN (P : Program) (T : TypeId) : Option Nat :=
  match P.underlying T with
  | some (.struct _) | some (.array ..) => (P.info? T).map (·.size)
  | _ => none
def fldB (P : Program) (s f : Nat) (off : Nat) : Bool :=
  match P.underlying s with
  | some (.struct fs) => (match fs[f]? with | some x => x.offset == off && P.cellsOf x.type != 0 && (P.info? x.type).isSome | none => false)
  | _ => false
/-- Field f of struct s: type t, at cell off. -/
def fldT (P : Program) (s f t off : Nat) : Bool :=
  match P.underlying s with
  | some (.struct fs) => (match fs[f]? with | some x => x.offset == off && x.type == t | none => false)
  | _ => false
def zeroL (P : Program) (T : TypeId) : Option (List Value) := ((P.info? T).bind (·.zero)).map (·.cells.toList)
def zeroV (P : Program) (T : TypeId) : Option Value := (P.info? T).bind (·.zero)

theorem run_underlying' {P : Program} {T : TypeId} {d : TypeDesc} (h : P.underlying T = some d) (w : World) : (underlying T).run P w = .ok d w := by simp [underlying, h]
theorem run_sizeOf' {P : Program} {T : TypeId} (h : (P.info? T).isSome = true) (w : World) : (sizeOf T).run P w = .ok (P.cellsOf T) w := by
  obtain ⟨i, hi⟩ := Option.isSome_iff_exists.1 h
  simp [sizeOf, typeInfo, Program.cellsOf, hi]
theorem info_of_underlying {P : Program} {T : TypeId} {d : TypeDesc} (h : P.underlying T = some d) : (P.info? T).isSome = true := by
  unfold Program.underlying at h
  cases hi : P.info? T with
  | none => simp [hi] at h
  | some i => rfl
theorem oneB_spec {P : Program} {T : TypeId} (h : oneB P T = true) (w : World) : (isAgg T).run P w = .ok false w ∧ P.cellsOf T = 1 ∧ (P.info? T).isSome = true := by
  unfold oneB at h
  cases hu : P.underlying T with
  | none => simp [hu] at h
  | some d =>
    have hi := info_of_underlying hu
    cases d <;> simp [hu] at h <;> exact ⟨by simp [isAgg, underlying, hu], h, hi⟩
theorem aggN_spec {P : Program} {T m : Nat} (h : aggN P T = some m) (w : World) : (isAgg T).run P w = .ok true w ∧ P.cellsOf T = m ∧ (P.info? T).isSome = true := by
  unfold aggN at h
  cases hu : P.underlying T with
  | none => simp [hu] at h
  | some d =>
    cases d <;> simp [hu] at h <;> obtain ⟨i, hi, hm⟩ := h <;> exact ⟨by simp [isAgg, underlying, hu], by simp [Program.cellsOf, hi, hm], by simp [hi]⟩

/-! ### What a call owns -/
abbrev Ent := Option Nat × Obj
def blks (S : List Ent) : List Nat := S.filterMap (·.1)
def bc (l : List Value) (T : TypeId) : Obj := .cells l.toArray T (0, 0)

/-- The world w, seen from w0: what was there is as it was but for the blocks X; the blocks of S hold what S says; they are new, or of X; no two are one. -/
structure Mem (w0 : World) (X : List Nat) (S : List Ent) (w : World) : Prop where
  os : w.os = w0.os
  tape : w.tape = w0.tape
  output : w.output = w0.output
  size : w0.heap.size ≤ w.heap.size
  old : ∀ b, b < w0.heap.size → b ∉ X → w.heap[b]? = w0.heap[b]?
  own : ∀ b o, (some b, o) ∈ S → w.heap[b]? = some o ∧ (w0.heap.size ≤ b ∨ b ∈ X)
  apart : (blks S).Nodup

theorem Mem.refl (w : World) : Mem w [] [] w := ⟨rfl, rfl, rfl, Nat.le_refl _, fun _ _ _ => rfl, by simp, by simp [blks]⟩
theorem mem_blks {S : List Ent} {b : Nat} : b ∈ blks S ↔ ∃ o, (some b, o) ∈ S := by
  simp only [blks, List.mem_filterMap]
  constructor
  · rintro ⟨⟨x, o⟩, h, rfl⟩; exact ⟨o, h⟩
  · rintro ⟨o, h⟩; exact ⟨_, h, rfl⟩
/-- What a call asks of the world it begins in. -/
structure Own (S : List Ent) (w : World) : Prop where
  own : ∀ b o, (some b, o) ∈ S → w.heap[b]? = some o
  apart : (blks S).Nodup
theorem Own.mem {S : List Ent} {w : World} (h : Own S w) : Mem w (blks S) S w :=
  ⟨rfl, rfl, rfl, Nat.le_refl _, fun _ _ _ => rfl, fun b o hb => ⟨h.own b o hb, .inr (mem_blks.2 ⟨o, hb⟩)⟩, h.apart⟩
theorem Own.nil (w : World) : Own [] w := ⟨by simp, by simp [blks]⟩
section
variable {w0 w w' : World} {X : List Nat} {S S' : List Ent}
theorem Mem.lt (M : Mem w0 X S w) {b : Nat} {o : Obj} (h : (some b, o) ∈ S) : b < w.heap.size := by
  have := (M.own b o h).1
  exact (Array.getElem?_eq_some_iff.1 this).1
theorem Mem.perm (M : Mem w0 X S w) (h : S.Perm S') : Mem w0 X S' w :=
  ⟨M.os, M.tape, M.output, M.size, M.old, fun b o hb => M.own b o (h.mem_iff.2 hb), (h.filterMap _).nodup_iff.1 M.apart⟩
theorem Mem.sub (M : Mem w0 X S w) (h : S'.Sublist S) : Mem w0 X S' w :=
  ⟨M.os, M.tape, M.output, M.size, M.old, fun b o hb => M.own b o (h.subset hb), (h.filterMap _).nodup M.apart⟩
theorem Mem.toOwn (M : Mem w0 X S w) : Own S w := ⟨fun b o h => (M.own b o h).1, M.apart⟩
theorem blks_append (A B : List Ent) : blks (A ++ B) = blks A ++ blks B := by simp [blks]
/-- A call has been made over A; the rest R stays. -/
theorem Mem.call {A R A' : List Ent} (M : Mem w0 X (A ++ R) w) (C : Mem w (blks A) A' w') : Mem w0 X (A' ++ R) w' := by
  have hA : ∀ b, b ∈ blks A → w0.heap.size ≤ b ∨ b ∈ X := fun b hb => by
    obtain ⟨o, ho⟩ := mem_blks.1 hb
    exact (M.own b o (List.mem_append_left _ ho)).2
  have hap := M.apart
  rw [blks_append, List.nodup_append] at hap
  obtain ⟨_, hR, hAR⟩ := hap
  refine ⟨C.os.trans M.os, C.tape.trans M.tape, C.output.trans M.output, Nat.le_trans M.size C.size, ?_, ?_, ?_⟩
  · intro b hb hX
    rw [C.old b (Nat.lt_of_lt_of_le hb M.size) ?_]
    · exact M.old b hb hX
    · intro hbA
      rcases hA b hbA with h | h
      · omega
      · exact hX h
  · intro b o hb
    rcases List.mem_append.1 hb with h | h
    · obtain ⟨h1, h2⟩ := C.own b o h
      refine ⟨h1, ?_⟩
      rcases h2 with h2 | h2
      · exact .inl (Nat.le_trans M.size h2)
      · exact hA b h2
    · obtain ⟨h1, h2⟩ := M.own b o (List.mem_append_right _ h)
      refine ⟨?_, h2⟩
      rw [C.old b (M.lt (List.mem_append_right _ h)) ?_, h1]
      intro hbA
      exact hAR b hbA b (mem_blks.2 ⟨o, h⟩) rfl
  · rw [blks_append, List.nodup_append]
    refine ⟨C.apart, hR, ?_⟩
    intro x hx y hy hxy
    subst hxy
    obtain ⟨o, ho⟩ := mem_blks.1 hx
    obtain ⟨o', ho'⟩ := mem_blks.1 hy
    have hlt := M.lt (List.mem_append_right A ho')
    rcases (C.own x o ho).2 with h | h
    · omega
    · exact hAR x h x hy rfl
/-- A call that owns nothing of ours: what it hands over comes last. -/
theorem Mem.call0 {A' : List Ent} (M : Mem w0 X S w) (C : Mem w [] A' w') : Mem w0 X (S ++ A') w' :=
  (Mem.call (A := []) (R := S) (by simpa using M) C).perm List.perm_append_comm
theorem Mem.callB (M : Mem w0 X S w) (C : Below w.heap.size w w') : Mem w0 X S w' := by
  have := M.call0 (A' := []) ⟨C.os, C.tape, C.output, C.size, fun b hb _ => C.block b hb, by simp, by simp [blks]⟩
  simpa using this
theorem Mem.below (M : Mem w0 [] S w) : Below w0.heap.size w0 w := ⟨M.os, M.tape, M.output, M.size, fun b hb => M.old b hb (by simp)⟩
theorem Mem.drop (M : Mem w0 X S w) : Mem w0 X [] w := M.sub (List.nil_sublist _)
/-- The entries from i on, k of them, are handed to a call; they come back in their places, what is new comes last. -/
theorem Mem.seg {A' : List Ent} (i k : Nat) (M : Mem w0 X S w) (C : Mem w (blks ((S.drop i).take k)) A' w') :
    Mem w0 X (S.take i ++ A'.take k ++ S.drop (i + k) ++ A'.drop k) w' := by
  have e : S = S.take i ++ ((S.drop i).take k ++ S.drop (i + k)) := by
    rw [← List.drop_drop, List.take_append_drop, List.take_append_drop]
  have p : S.Perm ((S.drop i).take k ++ (S.take i ++ S.drop (i + k))) := by
    conv => lhs; rw [e]
    rw [← List.append_assoc, ← List.append_assoc]
    exact List.perm_append_comm.append_right _
  refine ((M.perm p).call C).perm ?_
  have e' : A' = A'.take k ++ A'.drop k := (List.take_append_drop k A').symm
  conv => lhs; rw [e']
  simp only [List.append_assoc]
  have q : (A'.take k ++ (A'.drop k ++ (S.take i ++ S.drop (i + k)))).Perm (A'.take k ++ (S.take i ++ (S.drop (i + k) ++ A'.drop k))) := by
    refine List.Perm.append_left _ ?_
    rw [← List.append_assoc (S.take i)]
    exact List.perm_append_comm
  refine q.trans ?_
  rw [← List.append_assoc, ← List.append_assoc (S.take i)]
  exact List.perm_append_comm.append_right _

/-- Of the entries, those that are marked. -/
def keepE : List Ent → List Bool → List Ent
  | e :: S, b :: ks => bif b then e :: keepE S ks else keepE S ks
  | _, _ => []
theorem keepE_sub : ∀ (S : List Ent) (ks : List Bool), (keepE S ks).Sublist S
  | [], ks => by cases ks <;> simp [keepE]
  | e :: S, [] => by simp [keepE]
  | e :: S, b :: ks => by
    unfold keepE
    cases b with
    | true => exact (keepE_sub S ks).cons_cons e
    | false => exact (keepE_sub S ks).cons e
theorem Mem.keep (ks : List Bool) (M : Mem w0 X S w) : Mem w0 X (keepE S ks) w := M.sub (keepE_sub S ks)
theorem heap_push (w : World) (o : Obj) (b : Nat) : ({ w with heap := w.heap.push o } : World).heap[b]? = if b = w.heap.size then some o else w.heap[b]? := by
  show (w.heap.push o)[b]? = _
  rw [Array.getElem?_push]
theorem Mem.alloc (M : Mem w0 X S w) (o : Obj) : Mem w0 X (S ++ [(some w.heap.size, o)]) { w with heap := w.heap.push o } := by
  refine ⟨M.os, M.tape, M.output, by simpa using Nat.le_succ_of_le M.size, ?_, ?_, ?_⟩
  · intro b hb hX
    rw [heap_push, if_neg (by have := M.size; omega)]
    exact M.old b hb hX
  · intro b o' hb
    rcases List.mem_append.1 hb with h | h
    · obtain ⟨h1, h2⟩ := M.own b o' h
      have := M.lt h
      exact ⟨by rw [heap_push, if_neg (by omega)]; exact h1, h2⟩
    · simp only [List.mem_singleton, Prod.mk.injEq, Option.some.injEq] at h
      obtain ⟨rfl, rfl⟩ := h
      exact ⟨by rw [heap_push, if_pos rfl], .inl M.size⟩
  · rw [blks_append, List.nodup_append]
    refine ⟨M.apart, by simp [blks], ?_⟩
    intro x hx y hy hxy
    subst hxy
    obtain ⟨o', ho'⟩ := mem_blks.1 hx
    have := M.lt ho'
    have hy' : x = w.heap.size := by simpa [blks] using hy
    omega
/-- A place kept free for a row that is nil as yet. -/
theorem Mem.dummy (M : Mem w0 X S w) (o : Obj) : Mem w0 X (S ++ [(none, o)]) w :=
  ⟨M.os, M.tape, M.output, M.size, M.old, fun b o' hb => by
    rcases List.mem_append.1 hb with h | h
    · exact M.own b o' h
    · simp at h, by rw [blks_append]; simpa [blks] using M.apart⟩

theorem blks_set {i b : Nat} {o o' : Obj} (h : S[i]? = some (some b, o)) : blks (S.set i (some b, o')) = blks S := by
  induction S generalizing i with
  | nil => simp at h
  | cons e S ih =>
    cases i with
    | zero =>
      simp only [List.getElem?_cons_zero, Option.some.injEq] at h
      subst h
      simp [blks]
    | succ i =>
      simp only [List.getElem?_cons_succ] at h
      have := ih h
      simp only [List.set_cons_succ, blks, List.filterMap_cons] at this ⊢
      cases e.1 <;> simp [this]
/-- Block b, entry i, is given another content. -/
theorem Mem.write {i b : Nat} {o : Obj} (M : Mem w0 X S w) (hi : S[i]? = some (some b, o)) (o' : Obj) (hw : w'.os = w.os ∧ w'.tape = w.tape ∧ w'.output = w.output ∧ w'.heap.size = w.heap.size)
    (hb : w'.heap[b]? = some o') (hne : ∀ c, c ≠ b → w'.heap[c]? = w.heap[c]?) : Mem w0 X (S.set i (some b, o')) w' := by
  obtain ⟨h1, h2, h3, h4⟩ := hw
  have hmem : (some b, o) ∈ S := List.mem_of_getElem? hi
  refine ⟨h1.trans M.os, h2.trans M.tape, h3.trans M.output, by rw [h4]; exact M.size, ?_, ?_, by rw [blks_set hi]; exact M.apart⟩
  · intro c hc hX
    rw [hne c ?_]
    · exact M.old c hc hX
    · intro e
      subst e
      rcases (M.own c o hmem).2 with h | h
      · omega
      · exact hX h
  · intro c o'' hc
    rcases List.mem_or_eq_of_mem_set hc with h | h
    · by_cases hcb : c = b
      · subst hcb
        -- another entry of the same block: it was entry i itself
        refine ⟨?_, (M.own c o hmem).2⟩
        rw [hb]
        obtain ⟨j, hj⟩ := List.getElem?_of_mem hc
        by_cases hij : j = i
        · subst hij
          rw [List.getElem?_set_self (by have := (List.getElem?_eq_some_iff.1 hi).1; exact this)] at hj
          injection hj with hj
          injection hj with _ hj
          rw [hj]
        · exfalso
          rw [List.getElem?_set_ne (Ne.symm hij)] at hj
          have hnd := M.apart
          exact nodup_two hnd hij hj hi
      · obtain ⟨h5, h6⟩ := M.own c o'' h
        exact ⟨by rw [hne c hcb]; exact h5, h6⟩
    · injection h with h5 h6
      injection h5 with h5
      subst h5
      subst h6
      exact ⟨hb, (M.own c o hmem).2⟩
where
  nodup_two {S : List Ent} {i j b : Nat} {o o' : Obj} (h : (blks S).Nodup) (hij : j ≠ i) (hj : S[j]? = some (some b, o')) (hi : S[i]? = some (some b, o)) : False := by
    induction S generalizing i j with
    | nil => simp at hi
    | cons e S ih =>
      have hS : (blks S).Nodup := (List.Sublist.filterMap _ (List.sublist_cons_self e S)).nodup h
      have hhead : ∀ (k : Nat) (o1 o2 : Obj), e = (some b, o1) → S[k]? = some (some b, o2) → False := by
        rintro k o1 o2 rfl hk
        have : b ∈ blks S := mem_blks.2 ⟨o2, List.mem_of_getElem? hk⟩
        simp only [blks, List.filterMap_cons, List.nodup_cons] at h
        exact h.1 this
      cases i with
      | zero =>
        cases j with
        | zero => exact hij rfl
        | succ j =>
          simp only [List.getElem?_cons_zero, Option.some.injEq, List.getElem?_cons_succ] at hi hj
          exact hhead j _ _ hi hj
      | succ i =>
        cases j with
        | zero =>
          simp only [List.getElem?_cons_zero, Option.some.injEq, List.getElem?_cons_succ] at hi hj
          exact hhead i _ _ hj hi
        | succ j =>
          simp only [List.getElem?_cons_succ] at hi hj
          exact ih hS (by omega) hj hi
end
end Go.Bil
