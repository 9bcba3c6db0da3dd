/- Rules for operations that look at memory or make some. -/
import Derived.Test.YtfgbmegchdjfeaaDoorFwC
set_option linter.unusedVariables false
set_option linter.unusedSimpArgs false
namespace Go.Bil
open Go.RowKit (Below)

def nth : List Value → Nat → Option Value
  | [], _ => none
  | v :: _, 0 => some v
  | _ :: l, k + 1 => nth l k
theorem nth_eq : ∀ (l : List Value) (j : Nat), nth l j = l[j]?
  | [], j => by simp [nth]
  | o :: l, 0 => by simp [nth]
  | o :: l, k + 1 => by simp [nth, nth_eq l k]
def nthE : List Ent → Nat → Option Ent
  | [], _ => none
  | v :: _, 0 => some v
  | _ :: l, k + 1 => nthE l k
theorem nthE_eq : ∀ (l : List Ent) (j : Nat), nthE l j = l[j]?
  | [], j => by simp [nthE]
  | o :: l, 0 => by simp [nthE]
  | o :: l, k + 1 => by simp [nthE, nthE_eq l k]
def vcells : Value → List Value
  | .agg cs => cs.toList
  | v => [v]
theorem vcells_eq (v : Value) : v.cells = (vcells v).toArray := by cases v <;> simp [Value.cells, vcells]

/-! ### Cells of the world -/
/-- From b, off on the cells l lie. -/
def Cells (w : World) (b off : Nat) (l : List Value) : Prop := ∀ j v, l[j]? = some v → w.cell? ⟨b, off + j, none⟩ = some v
theorem add_none (b o k : Nat) : (⟨b, o, none⟩ : Addr).add k = ⟨b, o + k, none⟩ := by unfold Addr.add; split <;> simp_all
theorem cell_of_heap {w : World} {b off : Nat} {l : List Value} {T : TypeId} {fr : Nat × Nat} (h : w.heap[b]? = some (.cells l.toArray T fr)) : w.cell? ⟨b, off, none⟩ = l[off]? := by
  simp [World.cell?, h]
theorem frozen_of_heap {w : World} {b off : Nat} {l : List Value} {T : TypeId} (h : w.heap[b]? = some (bc l T)) : w.frozen? ⟨b, off, none⟩ = false := by
  simp [World.frozen?, h, bc]
theorem Cells.of_heap {w : World} {b off : Nat} {l m : List Value} {T : TypeId} {fr : Nat × Nat} (h : w.heap[b]? = some (.cells l.toArray T fr)) (hm : m = (l.drop off).take m.length) : Cells w b off m := by
  intro j v hj
  rw [cell_of_heap h]
  rw [hm] at hj
  simp only [List.getElem?_take, List.getElem?_drop] at hj
  split at hj
  · exact hj
  · cases hj
theorem Cells.below {w w' : World} {b off : Nat} {l : List Value} (h : Cells w b off l) (hl : l ≠ []) (hb : w'.heap[b]? = w.heap[b]?) : Cells w' b off l := by
  intro j v hj
  rw [← h j v hj]
  simp [World.cell?, hb]
theorem Cells.lt {w : World} {b off : Nat} {l : List Value} (h : Cells w b off l) (hl : l ≠ []) : b < w.heap.size := by
  cases l with
  | nil => exact absurd rfl hl
  | cons v l =>
    have := h 0 v (by simp)
    simp only [World.cell?] at this
    split at this
    · rename_i h1; exact (Array.getElem?_eq_some_iff.1 h1).1
    · cases this
theorem Cells.part {w : World} {b off : Nat} {l : List Value} (h : Cells w b off l) (k m : Nat) : Cells w b (off + k) ((l.drop k).take m) := by
  intro j v hj
  simp only [List.getElem?_take, List.getElem?_drop] at hj
  split at hj
  · have := h (k + j) v hj
    rwa [Nat.add_assoc]
  · cases hj

section
variable {P : Program} {n : Nat} {Q : Exit → Rho → World → Prop} {ρ : Rho} {w : World} {l0 rest : List Oper}
variable {d : Nat} {ty : TypeId} {pos : String} {af : Array Edge} {gd : Option (Nat × Bool)}

theorem run_loadVar1 {T : TypeId} {b off : Nat} {v : Value} (hT : oneB P T = true) (h : w.cell? ⟨b, off, none⟩ = some v) : (loadVar T ⟨b, off, none⟩).run P w = .ok v w := by
  simp only [loadVar, Sem.run_bind, (oneB_spec hT w).1, Result.andThen_ok]
  simp [run_load, h]
theorem run_loadVarA {T m : Nat} {b off : Nat} {l : List Value} (hT : aggN P T = some m) (hm : l.length = m) (h : Cells w b off l) : (loadVar T ⟨b, off, none⟩).run P w = .ok (.agg l.toArray) w := by
  obtain ⟨h1, h2, h3⟩ := aggN_spec hT w
  simp only [loadVar, Sem.run_bind, h1, Result.andThen_ok, if_true, run_sizeOf' h3, h2]
  have : (loadCells ⟨b, off, none⟩ m).run P w = .ok l.toArray w := by
    rw [← hm]
    exact run_loadCells_list w _ l (fun j v hj => by rw [add_none]; exact h j v hj)
  simp [this]

theorem r_load1 {T : TypeId} {x : Operand} {b off : Nat} (v : Value) (hT : oneB P T = true) (hx : ev ρ x = .pointer (some ⟨b, off, none⟩)) (hc : w.cell? ⟨b, off, none⟩ = some v) : Ans P ρ w (.load T x) v := fun dst ty pos af gd => (by simp [execOp, hx, Instr.loadAt, Instr.sureAddr, run_loadVar1 hT hc])
theorem r_loadA {T m : Nat} {x : Operand} {b off : Nat} (l : List Value) (hT : aggN P T = some m) (hx : ev ρ x = .pointer (some ⟨b, off, none⟩)) (hm : l.length = m) (hc : Cells w b off l) : Ans P ρ w (.load T x) (.agg l.toArray) := fun dst ty pos af gd => (by simp [execOp, hx, Instr.loadAt, Instr.sureAddr, run_loadVarA hT hm hc])

variable {w0 : World} {X : List Nat} {S : List Ent}
theorem Mem.at_ {i b : Nat} {o : Obj} (M : Mem w0 X S w) (hi : nthE S i = some (some b, o)) : w.heap[b]? = some o := by
  rw [nthE_eq] at hi
  exact (M.own b o (List.mem_of_getElem? hi)).1
/-- A cell of a block that is owned. -/
theorem r_ld (i : Nat) {T : TypeId} {x : Operand} {b off : Nat} {l : List Value} {T' : TypeId} (v : Value) (hT : oneB P T = true) (M : Mem w0 X S w) (hx : ev ρ x = .pointer (some ⟨b, off, none⟩))
    (hi : nthE S i = some (some b, bc l T')) (hv : nth l off = some v) : Ans P ρ w (.load T x) v := r_load1 v hT  hx (by rw [cell_of_heap (M.at_ hi), ← nth_eq]; exact hv)
/-- A struct or array in a block that is owned: m cells from off on. -/
theorem r_ldA (i : Nat) {T m : Nat} {x : Operand} {b off : Nat} {l : List Value} {T' : TypeId} (v : List Value) (hT : aggN P T = some m) (M : Mem w0 X S w) (hx : ev ρ x = .pointer (some ⟨b, off, none⟩))
    (hi : nthE S i = some (some b, bc l T')) (hv : (l.drop off).take m = v) (hl : v.length = m) : Ans P ρ w (.load T x) (.agg v.toArray) := r_loadA v hT  hx hl (Cells.of_heap (M.at_ hi) (by rw [hl]; exact hv.symm))

theorem r_fieldAddr {s f : Nat} (off' : Nat) {x : Operand} {b off : Nat} (hf : fldB P s f off' = true) (hx : ev ρ x = .pointer (some ⟨b, off, none⟩)) : Ans P ρ w (.fieldAddr s x f) (.pointer (some ⟨b, off + off', none⟩)) := by
  intro dst ty pos af gd
  unfold fldB at hf
  cases hu : P.underlying s with
  | none => simp [hu] at hf
  | some D =>
    cases D <;> simp [hu] at hf
    rename_i fs
    cases hx' : fs[f]? with
    | none => simp [hx'] at hf
    | some fd =>
      simp [hx'] at hf
      obtain ⟨⟨h1, h2⟩, h3⟩ := hf
      simp [execOp, hx, Instr.fieldAt, run_underlying' hu, hx', Instr.sureAddr, fieldPlace, run_sizeOf' h3, h2, add_none, h1]
/-- One cell of a struct that is a value. -/
theorem r_field1 {s f t : Nat} (off : Nat) {x : Operand} {l : List Value} (v : Value) (hf : fldT P s f t off = true) (hT : oneB P t = true) (hx : ev ρ x = .agg l.toArray) (hv : nth l off = some v) : Ans P ρ w (.field s x f) v := by
  intro dst ty pos af gd
  unfold fldT at hf
  rw [nth_eq] at hv
  cases hu : P.underlying s with
  | none => simp [hu] at hf
  | some D =>
    cases D <;> simp [hu] at hf
    rename_i fs
    cases hx' : fs[f]? with
    | none => simp [hx'] at hf
    | some fd =>
      simp [hx'] at hf
      obtain ⟨rfl, rfl⟩ := hf
      simp [execOp, hx, Instr.field, run_underlying' hu, hx', asAgg, part, (oneB_spec hT w).1, hv]
/-- A struct or array in a struct that is a value. -/
theorem r_fieldA {s f t m : Nat} (off : Nat) {x : Operand} {l : List Value} (v : List Value) (hf : fldT P s f t off = true) (hT : aggN P t = some m) (hx : ev ρ x = .agg l.toArray) (hv : (l.drop off).take m = v) : Ans P ρ w (.field s x f) (.agg v.toArray) := by
  intro dst ty pos af gd
  unfold fldT at hf
  obtain ⟨h1, h2, h3⟩ := aggN_spec hT w
  cases hu : P.underlying s with
  | none => simp [hu] at hf
  | some D =>
    cases D <;> simp [hu] at hf
    rename_i fs
    cases hx' : fs[f]? with
    | none => simp [hx'] at hf
    | some fd =>
      simp [hx'] at hf
      obtain ⟨rfl, rfl⟩ := hf
      subst hv
      simp [execOp, hx, Instr.field, run_underlying' hu, hx', asAgg, part, h1, run_sizeOf' h3, h2]

/-! ### New blocks -/
theorem wl_alloc {T : TypeId} {z : List Value} (hz : zeroL P T = some z) (M : Mem w0 X S w) (hg : gok l0 ρ gd = true) (hd : Nat.blt d n = true)
    (h : ∀ b w', Mem w0 X (S ++ [(some b, bc z T)]) w' → wl P n l0 rest Q (upd ρ d (.pointer (some ⟨b, 0, none⟩))) w') : wl P n l0 (⟨some d, .alloc T, ty, pos, af, gd⟩ :: rest) Q ρ w := by
  refine wl_val hg hd ?_ (h w.heap.size _ (M.alloc _))
  unfold zeroL at hz
  cases hi : P.info? T with
  | none => simp [hi] at hz
  | some i =>
    cases hz' : i.zero with
    | none => simp [hi, hz'] at hz
    | some v =>
      simp [hi, hz'] at hz
      subst hz
      simp [execOp, Instr.alloc, zeroValue, typeInfo, hi, hz', newVar, newRow, bc]
theorem wl_box {T : TypeId} {x : Operand} (v : Value) (M : Mem w0 X S w) (hg : gok l0 ρ gd = true) (hd : Nat.blt d n = true) (hx : ev ρ x = v)
    (h : ∀ b w', Mem w0 X (S ++ [(some b, bc (vcells v) T)]) w' → wl P n l0 rest Q (upd ρ d (.pointer (some ⟨b, 0, none⟩))) w') : wl P n l0 (⟨some d, .box T x, ty, pos, af, gd⟩ :: rest) Q ρ w := by
  refine wl_val hg hd ?_ (h w.heap.size _ (M.alloc _))
  simp [execOp, Instr.box, newVar, newRow, bc, hx, vcells_eq]

/-! ### Stores -/
def one (v : Value) : Bool := match v with | .agg _ | .tuple _ => false | _ => true
theorem heap_setCell (w : World) (b off : Nat) (v : Value) (l : List Value) (T : TypeId) (h : w.heap[b]? = some (bc l T)) :
    (w.setCell ⟨b, off, none⟩ v).heap[b]? = some (bc (l.set off v) T) ∧ ∀ c, c ≠ b → (w.setCell ⟨b, off, none⟩ v).heap[c]? = w.heap[c]? := by
  constructor
  · simp [World.setCell, Array.getElem?_modify, h, bc]
  · intro c hc
    simp only [World.setCell, Array.getElem?_modify]
    rw [if_neg (fun e => hc e.symm)]
theorem Mem.setCell {i b off : Nat} {l : List Value} {T : TypeId} (M : Mem w0 X S w) (hi : nthE S i = some (some b, bc l T)) (v : Value) :
    Mem w0 X (S.set i (some b, bc (l.set off v) T)) (w.setCell ⟨b, off, none⟩ v) := by
  have h := M.at_ hi
  rw [nthE_eq] at hi
  exact M.write hi _ ⟨rfl, rfl, rfl, by simp [World.setCell]⟩ (heap_setCell w b off v l T h).1 (heap_setCell w b off v l T h).2
/-- One cell is written. -/
theorem wl_st (i : Nat) {T : TypeId} {x y : Operand} {b off : Nat} {l : List Value} {T' : TypeId} (v : Value) (hT : oneB P T = true) (M : Mem w0 X S w) (hg : gok l0 ρ gd = true) (hx : ev ρ x = .pointer (some ⟨b, off, none⟩)) (hy : ev ρ y = v) (h1 : one v = true)
    (hi : nthE S i = some (some b, bc l T')) (hoff : (nth l off).isSome = true) (h : ∀ w', Mem w0 X (S.set i (some b, bc (l.set off v) T')) w' → wl P n l0 rest Q ρ w') : wl P n l0 (⟨none, .store T x y, ty, pos, af, gd⟩ :: rest) Q ρ w := by
  refine wl_unit hg ?_ (h _ (M.setCell hi v))
  obtain ⟨h2, h3, h4⟩ := oneB_spec hT w
  have hh := M.at_ hi
  obtain ⟨u, hu⟩ := Option.isSome_iff_exists.1 hoff
  have hc : w.cell? ⟨b, off, none⟩ = some u := by rw [cell_of_heap hh, ← nth_eq]; exact hu
  have hcs : v.cells = #[v] := by cases v <;> simp [Value.cells, one] at h1 ⊢
  have h1' : v.oneCell' = true := by cases v <;> simp [Value.oneCell', one] at h1 ⊢
  simp [execOp, hx, hy, Instr.storeAt, Instr.sureAddr, storeVar, hcs, run_sizeOf' h4, h3, storeCells, add_none, run_store P w _ v .plain h1', hc, frozen_of_heap hh]
def setL (l : List Value) (off : Nat) : List Value → List Value
  | [] => l
  | v :: vs => setL (l.set off v) (off + 1) vs
theorem run_storeCells {i b : Nat} {T : TypeId} : ∀ (vs : List Value) (off j : Nat) (l : List Value) (S : List Ent) (w : World), Mem w0 X S w → nthE S i = some (some b, bc l T) → (∀ v ∈ vs, one v = true) → off + j + vs.length ≤ l.length →
    ∃ w', (storeCells ⟨b, off, none⟩ vs j).run P w = .ok () w' ∧ Mem w0 X (S.set i (some b, bc (setL l (off + j) vs) T)) w'
  | [], off, j, l, S, w, M, hi, _, _ => ⟨w, rfl, by
      rw [nthE_eq] at hi
      have e : S.set i (some b, bc (setL l (off + j) []) T) = S := by
        refine List.ext_getElem? fun k => ?_
        by_cases hk : i = k
        · subst hk
          rw [List.getElem?_set_self (List.getElem?_eq_some_iff.1 hi).1, hi]
          rfl
        · rw [List.getElem?_set_ne hk]
      rw [e]
      exact M⟩
  | v :: vs, off, j, l, S, w, M, hi, h1, hl => by
    simp only [List.length_cons] at hl
    have hh := M.at_ hi
    have hv := h1 v (by simp)
    have h1' : v.oneCell' = true := by cases v <;> simp [Value.oneCell', one] at hv ⊢
    have hc : w.cell? ⟨b, off + j, none⟩ = some (l[off + j]'(by omega)) := by rw [cell_of_heap hh]; exact List.getElem?_eq_getElem _
    have M' := M.setCell (off := off + j) hi v
    have hi' : nthE (S.set i (some b, bc (l.set (off + j) v) T)) i = some (some b, bc (l.set (off + j) v) T) := by
      rw [nthE_eq] at hi ⊢
      rw [List.getElem?_set_self (List.getElem?_eq_some_iff.1 hi).1]
    obtain ⟨w', hw', M''⟩ := run_storeCells vs off (j + 1) _ _ _ M' hi' (fun v hv => h1 v (by simp [hv])) (by simp; omega)
    refine ⟨w', ?_, ?_⟩
    · simp [storeCells, add_none, run_store P w _ v .plain h1', hc, frozen_of_heap hh]
      exact hw'
    · rw [List.set_set] at M''
      exact M''
/-- A struct or array is written. -/
theorem wl_stA (i : Nat) {T m : Nat} {x y : Operand} {b off : Nat} {l : List Value} {T' : TypeId} (v : List Value) (hT : aggN P T = some m) (M : Mem w0 X S w) (hg : gok l0 ρ gd = true) (hx : ev ρ x = .pointer (some ⟨b, off, none⟩)) (hy : ev ρ y = .agg v.toArray)
    (hi : nthE S i = some (some b, bc l T')) (hm : v.length = m) (h1 : ∀ u ∈ v, one u = true) (hoff : off + v.length ≤ l.length)
    (h : ∀ w', Mem w0 X (S.set i (some b, bc (setL l off v) T')) w' → wl P n l0 rest Q ρ w') : wl P n l0 (⟨none, .store T x y, ty, pos, af, gd⟩ :: rest) Q ρ w := by
  obtain ⟨w', hw', M'⟩ := run_storeCells (P := P) v off 0 l S w M hi h1 (by omega)
  refine wl_unit hg ?_ (h w' (by simpa using M'))
  obtain ⟨h2, h3, h4⟩ := aggN_spec hT w
  simp [execOp, hx, hy, Instr.storeAt, Instr.sureAddr, storeVar, Value.cells, run_sizeOf' h4, h3, hm, hw']
/-- A struct or array is written, whole, over a block of its own size. -/
theorem setL_all : ∀ (l v : List Value), l.length = v.length → setL l 0 v = v := by
  have gen : ∀ (v p l : List Value), l.length = v.length → setL (p ++ l) p.length v = p ++ v := by
    intro v
    induction v with
    | nil => intro p l h; have : l = [] := List.eq_nil_of_length_eq_zero h; subst this; rfl
    | cons x v ih =>
      intro p l h
      cases l with
      | nil => simp at h
      | cons y l =>
        simp only [setL]
        have e : (p ++ y :: l).set p.length x = (p ++ [x]) ++ l := by simp
        rw [e]
        have := ih (p ++ [x]) l (by simpa using h)
        simp only [List.length_append, List.length_cons, List.length_nil] at this
        simpa using this
  intro l v h
  have := gen v [] l h
  simpa using this
theorem wl_stW (i : Nat) {T m : Nat} {x y : Operand} {b : Nat} {l : List Value} {T' : TypeId} (v : List Value) (hT : aggN P T = some m) (M : Mem w0 X S w) (hg : gok l0 ρ gd = true) (hx : ev ρ x = .pointer (some ⟨b, 0, none⟩)) (hy : ev ρ y = .agg v.toArray)
    (hi : nthE S i = some (some b, bc l T')) (hm : v.length = m) (h1 : ∀ u ∈ v, one u = true) (hl : l.length = m)
    (h : ∀ w', Mem w0 X (S.set i (some b, bc v T')) w' → wl P n l0 rest Q ρ w') : wl P n l0 (⟨none, .store T x y, ty, pos, af, gd⟩ :: rest) Q ρ w :=
  wl_stA i v hT M hg hx hy hi hm h1 (by omega) (fun w' M' => h w' (by rw [setL_all l v (by omega)] at M'; exact M'))
end
end Go.Bil
