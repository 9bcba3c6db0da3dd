/- Literals of structs, arrays and slices; slicing; comparisons with nil; equality of structs; indexes into values. -/
import Derived.Test.YtfgbmegchdjfeaaDoorFwE
set_option linter.unusedVariables false
set_option linter.unusedSimpArgs false
namespace Go.Bil
open Go.RowKit (Below)

/-! ### Literals -/
def len' : List Value → Nat
  | [] => 0
  | _ :: l => len' l + 1
theorem len'_eq : ∀ l : List Value, len' l = l.length
  | [] => rfl
  | _ :: l => by simp [len', len'_eq l]
/-- 'fill' over lists. -/
def fillL (place : Nat → Option (Nat × Nat)) (cs : List Value) : List (Nat × Value) → Option (List Value)
  | [] => some cs
  | (i, v) :: r =>
    match place i with
    | none => none
    | some (off, size) => bif Nat.beq (len' (vcells v)) size && Nat.ble (off + len' (vcells v)) (len' cs) then fillL place (setL cs off (vcells v)) r else none
theorem setL_length : ∀ (vs l : List Value) (o : Nat), (setL l o vs).length = l.length
  | [], _, _ => rfl
  | v :: vs, l, o => by simp [setL, setL_length vs]
theorem foldl_setL : ∀ (vs l : List Value) (off k : Nat), (vs.zipIdx k).foldl (fun (cs : Array Value) (p : Value × Nat) => cs.setIfInBounds (off + p.2) p.1) l.toArray = (setL l (off + k) vs).toArray
  | [], l, off, k => rfl
  | v :: vs, l, off, k => by
    simp only [List.zipIdx_cons, List.foldl_cons, List.setIfInBounds_toArray, setL]
    exact foldl_setL vs _ off (k + 1)
theorem fill_eq (place : Nat → Option (Nat × Nat)) : ∀ (ps : List (Nat × Value)) (cs r : List Value), fillL place cs ps = some r → Instr.fill place cs.toArray ps = some r.toArray
  | [], cs, r, h => by simp [fillL] at h; simp [Instr.fill, h]
  | (i, v) :: ps, cs, r, h => by
    unfold fillL at h
    unfold Instr.fill
    cases hp : place i with
    | none => simp [hp] at h
    | some q =>
      obtain ⟨off, size⟩ := q
      simp only [hp] at h ⊢
      cases hc : (Nat.beq (len' (vcells v)) size && Nat.ble (off + len' (vcells v)) (len' cs)) with
      | false => simp [hc] at h
      | true =>
        simp only [hc, cond_true] at h
        simp only [Bool.and_eq_true, len'_eq] at hc
        have h1 : (vcells v).length = size := Nat.eq_of_beq_eq_true hc.1
        have h2 : off + (vcells v).length ≤ cs.length := Nat.le_of_ble_eq_true hc.2
        have hcs : v.cells.size = size := by rw [vcells_eq]; simpa using h1
        rw [if_neg (by
          simp only [hcs, ne_eq, not_true_eq_false, decide_false, Bool.false_or, decide_eq_true_eq, List.size_toArray]
          omega)]
        have hf := foldl_setL (vcells v) cs off 0
        rw [Nat.add_zero] at hf
        have he : (v.cells.zipIdx.foldl (fun (cs : Array Value) (p : Value × Nat) => cs.setIfInBounds (off + p.2) p.1) cs.toArray) = (setL cs off (vcells v)).toArray := by
          rw [← hf, vcells_eq, ← Array.foldl_toList, Array.toList_zipIdx]
        have ih := fill_eq place ps _ r h
        rw [← he] at ih
        exact ih

def atP : List (Nat × Nat) → Nat → Option (Nat × Nat)
  | [], _ => none
  | p :: _, 0 => some p
  | _ :: l, k + 1 => atP l k
theorem atP_eq : ∀ (l : List (Nat × Nat)) (j : Nat), atP l j = l[j]?
  | [], j => by simp [atP]
  | o :: l, 0 => by simp [atP]
  | o :: l, k + 1 => by simp [atP, atP_eq l k]
/-- Struct type T: zero z, its fields at pl (offset, size). -/
def structB (P : Program) (T : TypeId) (z : List Value) (pl : List (Nat × Nat)) : Prop :=
  ∃ fs zi, P.underlying T = some (.struct fs) ∧ P.info? T = some zi ∧ zi.zero = some (.agg z.toArray) ∧ fs.toList.map (fun f => (f.offset, P.cellsOf f.type)) = pl ∧ (∀ f ∈ fs, (P.info? f.type).isSome = true)
section
variable {P : Program} {n : Nat} {Q : Exit → Rho → World → Prop} {ρ : Rho} {w : World} {l0 rest : List Oper}
variable {d : Nat} {ty : TypeId} {pos : String} {af : Array Edge} {gd : Option (Nat × Bool)}
variable {w0 : World} {X : List Nat} {S : List Ent}

def evP (ρ : Rho) : List (Nat × Operand) → List (Nat × Value)
  | [] => []
  | (i, x) :: r => (i, ev ρ x) :: evP ρ r
theorem ev_const (ρ : Rho) (v : Value) : ev ρ (.const v) = v := rfl
theorem evP_eq (ρ : Rho) : ∀ ps : List (Nat × Operand), ps.map (fun (i, x) => (i, ev ρ x)) = evP ρ ps
  | [] => rfl
  | (i, x) :: r => by simp [evP, evP_eq ρ r]
theorem r_build {T : TypeId} {z : List Value} {pl : List (Nat × Nat)} {ps : List (Nat × Operand)} (vs : List (Nat × Value)) (cs : List Value) (hT : structB P T z pl) 
    (hvs : evP ρ ps = vs) (hv : fillL (atP pl) z vs = some cs) : Ans P ρ w (.build T ps.toArray) (.agg cs.toArray) := by
  intro dst ty pos af gd
  obtain ⟨fs, zi, hu, hi, hz, hpl, hall⟩ := hT
  have hm : (fs.mapM fun f => (do pure (f.offset, ← sizeOf f.type) : Sem (Nat × Nat))).run P w = .ok pl.toArray w := by
    have key : ∀ l : List Field, (∀ f ∈ l, (P.info? f.type).isSome = true) → (l.mapM fun f => (do pure (f.offset, ← sizeOf f.type) : Sem (Nat × Nat))).run P w = .ok (l.map (fun f => (f.offset, P.cellsOf f.type))) w := by
      intro l
      induction l with
      | nil => intro _; rfl
      | cons f l ih =>
        intro hl
        have h1 := run_sizeOf' (P := P) (hl f (by simp)) w
        have h2 := ih (fun f hf => hl f (by simp [hf]))
        simp only [List.mapM_cons, Sem.run_bind, h1, h2, Result.andThen_ok, Sem.run_pure, List.map_cons]
    have := key fs.toList (fun f hf => hall f (by simpa using hf))
    rw [← hpl]
    conv => lhs; rw [← Array.toArray_toList (xs := fs)]
    rw [List.mapM_toArray]
    simp only [Sem.run_map, this, Result.andThen_ok]
  have hpl' : (fun i => pl.toArray[i]?) = atP pl := by funext i; simp [atP_eq]
  have hf := fill_eq (atP pl) vs z cs hv
  subst hvs
  simp only [execOp, Instr.build, List.map_toArray, evP_eq, Sem.run_bind, zeroValue, typeInfo, run_program, Result.andThen_ok, hi, Sem.run_pure, hz, run_underlying' hu, hm, Value.cells, hpl', hf]

/-- The slice literal {x0, x1, ..}: a block of its own. -/
theorem fill_seq {size : Nat} : ∀ (vs : List Value) (k : Nat) (pre post : List Value), pre.length = k * size → post.length = vs.length * size → (∀ v ∈ vs, (vcells v).length = size) →
    fillL (fun i => some (i * size, size)) (pre ++ post) ((vs.zipIdx k).map fun p => (p.2, p.1)) = some (pre ++ vs.flatMap vcells)
  | [], k, pre, post, _, h2, _ => by
    have : post = [] := List.eq_nil_of_length_eq_zero (by simpa using h2)
    simp [fillL, this]
  | v :: vs, k, pre, post, h1, h2, h3 => by
    have hv := h3 v (by simp)
    simp only [List.length_cons, Nat.add_mul, Nat.one_mul] at h2
    have hc : (Nat.beq (len' (vcells v)) size && Nat.ble (k * size + len' (vcells v)) (len' (pre ++ post))) = true := by
      have e1 : k * size + (vcells v).length ≤ (pre ++ post).length := by rw [List.length_append, h1, h2, hv]; omega
      rw [hv] at e1
      rw [len'_eq, len'_eq, hv, Nat.beq_refl, Bool.true_and, Nat.ble_eq]
      exact e1
    simp only [List.zipIdx_cons, List.map_cons, fillL, hc, cond_true]
    have hset : ∀ (vs p q : List Value), vs.length ≤ q.length → setL (p ++ q) p.length vs = p ++ vs ++ q.drop vs.length := by
      intro vs
      induction vs with
      | nil => intro p q _; simp [setL]
      | cons x vs ih =>
        intro p q h
        cases q with
        | nil => simp at h
        | cons y q =>
          simp only [setL]
          have e : (p ++ y :: q).set p.length x = (p ++ [x]) ++ q := by simp
          rw [e]
          have := ih (p ++ [x]) q (by simpa using h)
          simp only [List.length_append, List.length_cons, List.length_nil] at this
          simpa using this
    rw [← h1, hset (vcells v) pre post (by omega)]
    have ih := fill_seq vs (k + 1) (pre ++ vcells v) (post.drop (vcells v).length) (by simp [h1, hv, Nat.add_mul]) (by simp; omega) (fun u hu => h3 u (by simp [hu]))
    rw [ih]
    simp
def seqP (ρ : Rho) : Nat → List (Nat × Operand) → Option (List Value)
  | _, [] => some []
  | k, (i, x) :: r => bif Nat.beq i k then (match seqP ρ (k + 1) r with | some l => some (ev ρ x :: l) | none => none) else none
theorem seqP_spec (ρ : Rho) : ∀ (ps : List (Nat × Operand)) (k : Nat) (vs : List Value), seqP ρ k ps = some vs → evP ρ ps = (vs.zipIdx k).map (fun p => (p.2, p.1))
  | [], k, vs, h => by simp [seqP] at h; subst h; rfl
  | (i, x) :: r, k, vs, h => by
    unfold seqP at h
    cases hi : Nat.beq i k with
    | false => simp [hi] at h
    | true =>
      have := Nat.eq_of_beq_eq_true hi
      subst this
      simp only [hi, cond_true] at h
      cases hr : seqP ρ (i + 1) r with
      | none => simp [hr] at h
      | some l =>
        simp only [hr, Option.some.injEq] at h
        subst h
        simp [evP, seqP_spec ρ r (i + 1) l hr]
theorem wl_bslice0 {t e sz bytes len : Nat} {ps : List (Nat × Operand)} (vs : List Value) (ls : List (List Value)) (hls : vs.map vcells = ls) (ht : sliceB P t e sz bytes = true) (M : Mem w0 X S w) (hg : gok l0 ρ gd = true) (hd : Nat.blt d n = true)
    (hvs : seqP ρ 0 ps = some vs) (hlen : vs.length = len) (hsz : ∀ v ∈ vs, (vcells v).length = sz) (hbig : len * sz ≤ 16777216)
    (h : Mem w0 X (S ++ [(some w.heap.size, bc ls.flatten e)]) { w with heap := w.heap.push (bc ls.flatten e) } → wl P n l0 rest Q (upd ρ d (.slice (some ⟨w.heap.size, 0, none⟩) len len)) { w with heap := w.heap.push (bc ls.flatten e) }) : wl P n l0 (⟨some d, .buildSlice t len ps.toArray, ty, pos, af, gd⟩ :: rest) Q ρ w := by
  subst hls
  obtain ⟨h1, h2, h3, h4, h5, h6, zv, hzv, hzs⟩ := sliceB_spec ht
  have hev := seqP_spec ρ ps 0 vs hvs
  refine wl_val hg hd ?_ (h (M.alloc _))
  obtain ⟨zi, hzi⟩ : ∃ zi, P.info? e = some zi := Option.isSome_iff_exists.1 h2
  have hz' : zi.zero = some zv := by simpa [zeroV, hzi] using hzv
  have hbig' : ¬ (16777216 < len * sz) := by omega
  have hfm : (vs.map vcells).flatten = vs.flatMap vcells := by simp [List.flatMap]
  by_cases h0 : len * sz = 0
  · have hl0 : len = 0 := by rcases Nat.mul_eq_zero.1 h0 with h | h <;> omega
    subst hl0
    have hvs0 : vs = [] := List.eq_nil_of_length_eq_zero hlen
    subst hvs0
    simp only [execOp, Instr.buildSlice, Sem.run_bind, run_underlying' h1, Result.andThen_ok, run_sizeOf' h2, h3, List.map_toArray, evP_eq, hev]
    have e0 : (Array.map (fun x : Nat => (default : Value)) (Array.range 0)) = #[] := by simp
    simp [Instr.fill, newRow, bc, e0]
  · obtain ⟨z, hzl, hzm⟩ : ∃ z : List Value, z.length = len * sz ∧ ((Array.range (len * sz)).map (zv.cells[· % zv.cells.size]!)) = z.toArray :=
      ⟨((Array.range (len * sz)).map (zv.cells[· % zv.cells.size]!)).toList, by simp, by rw [Array.toArray_toList]⟩
    have hf := fill_eq _ _ _ _ (fill_seq (size := sz) vs 0 [] z (by simp) (by rw [hzl, hlen]) hsz)
    simp only [List.nil_append] at hf
    have hzero : (zeroValue e).run P w = .ok zv w := by simp [zeroValue, typeInfo, hzi, hz']
    simp only [execOp, Instr.buildSlice, Sem.run_bind, run_underlying' h1, Result.andThen_ok, run_sizeOf' h2, h3, List.map_toArray, evP_eq, hev]
    simp only [gt_iff_lt, show (2 ^ 24 : Nat) = 16777216 from rfl, hbig', if_false, h0, Sem.run_bind, hzero, Result.andThen_ok, Sem.run_pure, hzm, hf]
    simp [newRow, bc, hfm]

theorem wl_bslice {t e sz bytes len : Nat} {ps : List (Nat × Operand)} (vs : List Value) (ls : List (List Value)) (hls : vs.map vcells = ls) (ht : sliceB P t e sz bytes = true) (M : Mem w0 X S w) (hg : gok l0 ρ gd = true) (hd : Nat.blt d n = true)
    (hvs : seqP ρ 0 ps = some vs) (hlen : vs.length = len) (hsz : ∀ v ∈ vs, (vcells v).length = sz) (hbig : len * sz ≤ 16777216)
    (h : ∀ b w', Mem w0 X (S ++ [(some b, bc ls.flatten e)]) w' → wl P n l0 rest Q (upd ρ d (.slice (some ⟨b, 0, none⟩) len len)) w') : wl P n l0 (⟨some d, .buildSlice t len ps.toArray, ty, pos, af, gd⟩ :: rest) Q ρ w :=
  wl_bslice0 vs ls hls ht M hg hd hvs hlen hsz hbig (h _ _)

theorem Cells.ofMem {b : Nat} {l : List Value} {T : TypeId} (i : Nat) (M : Mem w0 X S w) (hi : nthE S i = some (some b, bc l T)) : Cells w b 0 l :=
  Cells.of_heap (M.at_ hi) (by simp)

/-! ### Comparisons with nil -/
theorem run_ptr_nil {t e : TypeId} {p : Option Addr} (ht : P.underlying t = some (.pointer e)) (w : World) : (binOp .eql t (.pointer p) (.pointer none)).run P w = .ok (.bool p.isNone) w ∧ (binOp .neq t (.pointer p) (.pointer none)).run P w = .ok (.bool (!p.isNone)) w := by
  have e' : P.pointee t = e := by simp [Program.pointee, ht]
  exact ⟨run_eql_pointer_nil w t p (by rw [e']; exact ht), run_neq_pointer_nil w t p (by rw [e']; exact ht)⟩
theorem r_eqPtrNil {t t' e : TypeId} {x : Operand} {p : Option Addr} (b : Bool) (ht : P.underlying t = some (.pointer e)) (hx : ev ρ x = .pointer p) (hb : p.isNone = b) : Ans P ρ w (.binOp .eql t x (.const (.pointer none)) t') (.bool b) := fun dst ty pos af gd => (by
    subst hb
    have hq : (eqGuard .eql t x (.const (.pointer none)) (.pointer p) (.pointer none)).run P w = .ok () w := rfl
    have hb := (run_ptr_nil (P := P) (p := p) ht w).1
    simp only [execOp, hx, ev_const, Sem.run_bind, hq, hb, Result.andThen_ok, Sem.run_pure])
theorem run_map_nil {t k e : TypeId} {p : Option Nat} (ht : P.underlying t = some (.map k e)) (w : World) : (binOp .eql t (.map p) (.map none)).run P w = .ok (.bool p.isNone) w := by
  have key : ∀ d : Nat, (Op.equalIn (d + 1) t (.map p) (.map none)).run P w = .ok p.isNone w := fun d => by cases p <;> simp [Op.equalIn, run_underlying' ht]
  have e : (Op.equal t (.map p) (.map none)).run P w = .ok p.isNone w := key 9999
  simp only [binOp, Sem.run_bind, e, Result.andThen_ok, Sem.run_pure]
theorem r_eqMapNil {t t' k e : TypeId} {x : Operand} {p : Option Nat} (b : Bool) (ht : P.underlying t = some (.map k e)) (hx : ev ρ x = .map p) (hb : p.isNone = b) : Ans P ρ w (.binOp .eql t x (.const (.map none)) t') (.bool b) := fun dst ty pos af gd => (by
    subst hb
    have hq : (eqGuard .eql t x (.const (.map none)) (.map p) (.map none)).run P w = .ok () w := rfl
    simp only [execOp, hx, ev_const, Sem.run_bind, hq, run_map_nil ht w, Result.andThen_ok, Sem.run_pure])
theorem run_slice_nil {t e : TypeId} {A : Option Addr} {m c : Nat} (ht : P.underlying t = some (.slice e)) (w : World) : (binOp .eql t (.slice A m c) (.slice none 0 0)).run P w = .ok (.bool A.isNone) w := by
  have key : ∀ d : Nat, (Op.equalIn (d + 1) t (.slice A m c) (.slice none 0 0)).run P w = .ok A.isNone w := fun d => by cases A <;> simp [Op.equalIn, run_underlying' ht]
  have e : (Op.equal t (.slice A m c) (.slice none 0 0)).run P w = .ok A.isNone w := key 9999
  simp only [binOp, Sem.run_bind, e, Result.andThen_ok, Sem.run_pure]
theorem r_eqSliceNil {t t' e : TypeId} {x : Operand} {A : Option Addr} {m c : Nat} (b : Bool) (ht : P.underlying t = some (.slice e)) (hx : ev ρ x = .slice A m c) (hb : A.isNone = b) : Ans P ρ w (.binOp .eql t x (.const (.slice none 0 0)) t') (.bool b) := fun dst ty pos af gd => (by
    subst hb
    have hq : (eqGuard .eql t x (.const (.slice none 0 0)) (.slice A m c) (.slice none 0 0)).run P w = .ok () w := rfl
    simp only [execOp, hx, ev_const, Sem.run_bind, hq, run_slice_nil ht w, Result.andThen_ok, Sem.run_pure])

/-! ### Equality of structs -/
/-- The two read so as type T, equal or not: r. -/
def EqA (P : Program) (T : TypeId) (a b : List Value) (r : Bool) : Prop := P.eqGuardType P.depth T = false ∧ ∀ w, (Op.equalIn 10000 T (.agg a.toArray) (.agg b.toArray)).run P w = .ok r w
theorem r_eqA {t t' : TypeId} {x y : Operand} {a b : List Value} {r : Bool} (he : EqA P t a b r) (hx : ev ρ x = .agg a.toArray) (hy : ev ρ y = .agg b.toArray) : Ans P ρ w (.binOp .eql t x y t') (.bool r) := fun dst ty pos af gd => (by simp [execOp, hx, hy, run_eqGuard_agg (P := P) w .eql t x y a.toArray b.toArray he.1, run_eql_struct, he.2 w])
theorem r_neA {t t' : TypeId} {x y : Operand} {a b : List Value} {p : Prop} {dp : Decidable p} (he : EqA P t a b (@decide p dp)) (hx : ev ρ x = .agg a.toArray) (hy : ev ρ y = .agg b.toArray) : Ans P ρ w (.binOp .neq t x y t') (.bool (decide (¬ p))) := fun dst ty pos af gd => (by simp [execOp, hx, hy, run_eqGuard_agg (P := P) w .neq t x y a.toArray b.toArray he.1, run_neq_struct, he.2 w])

/-! ### Slicing -/
def subA (A : Option Addr) (c l sz : Nat) : Option Addr := if c = l then A else A.map (·.add (l * sz))
theorem Rd.sub {w : World} {sz m c : Nat} {A : Option Addr} {ls : List (List Value)} (R : Rd w sz A m ls) (l h : Nat) (hl : l ≤ h) (hh : h ≤ m) (hc : m ≤ c) : Rd w sz (subA A c l sz) (h - l) ((ls.drop l).take (h - l)) := by
  by_cases h0 : h - l = 0
  · rw [h0]
    exact Rd.nil w sz _
  · obtain ⟨b, off, rfl, hlt, _⟩ := R.at_ (by omega)
    have e : subA (some ⟨b, off, none⟩) c l sz = some ⟨b, off + l * sz, none⟩ := by
      unfold subA
      rw [if_neg (by omega)]
      simp [add_none]
    rw [e]
    exact R.part l (h - l) (by omega)
theorem run_sliceBound {P : Program} {k : IntKind} {i : Int} {y : Nat} {code : BoundsCode} (h0 : 0 ≤ i) (h1 : i ≤ y) (w : World) : (Instr.sliceBound (.int k i) y code).run P w = .ok i.toNat w := by
  simp [Instr.sliceBound, asIntOf, h0, h1]
theorem r_slice {t e sz bytes : Nat} {x : Operand} {lo hi : Option Operand} {A : Option Addr} {m c : Nat} (l h' : Int) (ht : sliceB P t e sz bytes = true) (hx : ev ρ x = .slice A m c)
    (hlo : lo.elim (l = 0) (fun o => ∃ k, ev ρ o = .int k l)) (hhi : hi.elim (h' = m) (fun o => ∃ k, ev ρ o = .int k h')) (h0 : 0 ≤ l) (h1 : l ≤ h') (h2 : h' ≤ c) : Ans P ρ w (.slice t x lo hi none) (.slice (subA A c l.toNat sz) (h'.toNat - l.toNat) (c - l.toNat)) := by
  intro dst ty pos af gd
  obtain ⟨q1, q2, q3, q4, q5, q6, zv, hzv, hzs⟩ := sliceB_spec ht
  have hb : (Instr.sliceBounds true m c (lo.map (ev ρ)) (hi.map (ev ρ)) none).run P w = .ok (l.toNat, h'.toNat, c) w := by
    cases hi with
    | none =>
      simp only [Option.elim] at hhi
      subst hhi
      cases lo with
      | none => simp only [Option.elim] at hlo; subst hlo; simp [Instr.sliceBounds]
      | some o => obtain ⟨k, hk⟩ := hlo; simp [Instr.sliceBounds, hk, run_sliceBound (P := P) (k := k) (y := m) h0 (by omega)]
    | some o' =>
      obtain ⟨k', hk'⟩ := hhi
      have e1 := run_sliceBound (P := P) (k := k') (i := h') (y := c) (code := .sliceAcap) (by omega) h2
      cases lo with
      | none => simp only [Option.elim] at hlo; subst hlo; simp [Instr.sliceBounds, hk', e1]
      | some o => obtain ⟨k, hk⟩ := hlo; simp [Instr.sliceBounds, hk, hk', e1, run_sliceBound (P := P) (k := k) (y := h'.toNat) h0 (by omega)]
  have he : ∀ w, (Instr.sliceAt t (.slice A m c) (lo.map (ev ρ)) (hi.map (ev ρ)) none).run P w = (Instr.slice t (.slice A m c) (lo.map (ev ρ)) (hi.map (ev ρ)) none).run P w := fun w => by
    simp only [Instr.sliceAt, Sem.run_bind, run_underlying' q1, Result.andThen_ok]
  simp only [execOp, hx, Option.map_none, Sem.run_bind, he]
  simp only [Instr.slice, Sem.run_bind, run_underlying' q1, Result.andThen_ok, hb, run_sizeOf' q2, q3, Sem.run_pure, subA]
end
end Go.Bil
