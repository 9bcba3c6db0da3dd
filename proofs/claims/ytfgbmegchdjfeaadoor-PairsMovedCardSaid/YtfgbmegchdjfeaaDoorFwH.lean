/- Rules along a plan (a region whose order is open); elements of a slice by their place; the rest. -/
import Derived.Test.YtfgbmegchdjfeaaDoorFwG
set_option linter.unusedVariables false
set_option linter.unusedSimpArgs false
namespace Go.Bil
open Go.RowKit (Below)

section
variable {P : Program} {n : Nat} {Q : Exit → Rho → World → Prop} {ρ : Rho} {w : World} {l0 rest : List Oper}
variable {d : Nat} {op : Op} {ty : TypeId} {pos : String} {af : Array Edge} {gd : Option (Nat × Bool)}
variable {w0 : World} {X : List Nat} {S : List Ent}

/-! ### Along a plan -/
theorem D_p {i : Nat} {r : List (Nat × Nat)} {pend : Pend} {v : Value} (ho : nthO l0 i = some ⟨some d, op, ty, pos, af, gd⟩) (hg : gok l0 ρ gd = true) (hd : Nat.blt d n = true) (A : ∀ w', Ans P ρ w' op v)
    (h : D P n l0 Q r pend (upd ρ d v) w) : D P n l0 Q ((i, 0) :: r) pend ρ w :=
  ⟨_, d, v, ho, rfl, hd, fun w' => .inl ⟨hg, A w' _ _ _ _ _⟩, h⟩
theorem D_s {i : Nat} {r : List (Nat × Nat)} {pend : Pend} (ho : nthO l0 i = some ⟨some d, op, ty, pos, af, gd⟩) (hg : gok l0 ρ gd = false) (hd : Nat.blt d n = true)
    (h : D P n l0 Q r pend (upd ρ d undef) w) : D P n l0 Q ((i, 0) :: r) pend ρ w :=
  ⟨_, d, undef, ho, rfl, hd, fun w' => .inr ⟨hg, rfl⟩, h⟩
theorem D_r {i : Nat} {r : List (Nat × Nat)} {pend : Pend} {v : Value} (ho : nthO l0 i = some ⟨some d, op, ty, pos, af, gd⟩) (hg : gok l0 ρ gd = true) (hd : Nat.blt d n = true) (A : Ans P ρ w op v)
    (h : D P n l0 Q r ((i, fun w' => Yl P l0 ⟨some d, op, ty, pos, af, gd⟩ ρ v w') :: pend) (upd ρ d v) w) : D P n l0 Q ((i, 1) :: r) pend ρ w :=
  ⟨_, d, v, ho, rfl, hd, .inl ⟨hg, A _ _ _ _ _⟩, h⟩
theorem Yl_of {v : Value} (hg : gok l0 ρ gd = true) (A : Ans P ρ w op v) : Yl P l0 ⟨some d, op, ty, pos, af, gd⟩ ρ v w := .inl ⟨hg, A _ _ _ _ _⟩
def maskB (l0 : List Oper) (j : Nat) : List Nat → List Bool
  | [] => []
  | i :: l => depB l0.toArray j i :: maskB l0 j l
def idxs : Pend → List Nat
  | [] => []
  | p :: l => p.1 :: idxs l
def dropM : Pend → List Bool → Pend
  | p :: l, b :: m => bif b then dropM l m else p :: dropM l m
  | _, _ => []
theorem leftL_mask (j : Nat) : ∀ pend : Pend, leftL l0 j pend = dropM pend (maskB l0 j (idxs pend))
  | [] => rfl
  | p :: l => by simp only [leftL, idxs, maskB, dropM, leftL_mask j l]
theorem D_e {i : Nat} {r : List (Nat × Nat)} {pend : Pend} {o : Oper} (ks : List Bool) (ho : nthO l0 i = some o) (hk : maskB l0 i (idxs pend) = ks)
    (h : wl P n l0 [o] (thenQ (fun ρ' w' => allP (dropM pend ks) w' ∧ D P n l0 Q r (dropM pend ks) ρ' w') (fun _ _ _ => False)) ρ w) : D P n l0 Q ((i, 2) :: r) pend ρ w := by
  refine ⟨o, ho, ?_⟩
  rw [leftL_mask, hk]
  exact h
theorem D_nil {pend : Pend} (h : Q .normal ρ w) : D P n l0 Q [] pend ρ w := h
/-- A Bool that is not known, along a plan. -/
theorem D_split {pl : List (Nat × Nat)} {pend : Pend} (t : Nat) (b : Bool) (ht : ρ t = .bool b) (h1 : b = true → D P n l0 Q pl pend (upd ρ t (.bool true)) w) (h2 : b = false → D P n l0 Q pl pend (upd ρ t (.bool false)) w) : D P n l0 Q pl pend ρ w := by
  cases b with
  | true => have := h1 rfl; rwa [upd_self ht] at this
  | false => have := h2 rfl; rwa [upd_self ht] at this
theorem D_splitD {pl : List (Nat × Nat)} {pend : Pend} (t : Nat) {p : Prop} {dp : Decidable p} (ht : ρ t = .bool (@decide p dp)) (h1 : p → D P n l0 Q pl pend (upd ρ t (.bool true)) w) (h2 : ¬ p → D P n l0 Q pl pend (upd ρ t (.bool false)) w) : D P n l0 Q pl pend ρ w :=
  D_split t _ ht (fun h => h1 (of_decide_eq_true h)) (fun h => h2 (of_decide_eq_false h))
theorem Mem.drew (M : Mem w0 X S w) {w' : World} (hb : Below w.heap.size w w') (hh : w'.heap = w.heap) : Mem w0 X S w' :=
  ⟨hb.os.trans M.os, hb.tape.trans M.tape, hb.output.trans M.output, by rw [hh]; exact M.size, by rw [hh]; exact M.old, by rw [hh]; exact M.own, M.apart⟩
theorem D_re {pl : List (Nat × Nat)} {pend : Pend} (t : Nat) (v : Value) (ht : ρ t = v) (h : D P n l0 Q pl pend (upd ρ t v) w) : D P n l0 Q pl pend ρ w := by
  rwa [upd_self ht] at h

/-! ### Elements of a slice, by their place -/
/-- The address k cells behind the slice's first. -/
def elt (A : Option Addr) (k : Nat) : Value := .pointer (A.map (·.add k))
theorem mapGet {α β : Type} {xs : List α} {k : Nat} {x : α} (f : α → β) (h : xs[k]? = some x) : (xs.map f)[k]? = some (f x) := by simp [h]
theorem Rd.below_len {sz m : Nat} {A : Option Addr} {ls : List (List Value)} (R : Rd w sz A m ls) {k : Nat} {l : List Value} (hl : ls[k]? = some l) : k < m := by rw [← R.len]; exact (List.getElem?_eq_some_iff.1 hl).1
/-- &x[k]. -/
theorem r_idxR {t e sz bytes : Nat} {x y : Operand} {A : Option Addr} {m c : Nat} {kk : IntKind} {z : Int} (k : Nat) (ht : sliceB P t e sz bytes = true) (hx : ev ρ x = .slice A m c) (hy : ev ρ y = .int kk z) (hz : z = (k : Int)) (hk : k < m) (hA : A.isSome = true) :
    Ans P ρ w (.indexAddr t x y) (elt A (k * sz)) := fun dst ty pos af gd => by
  obtain ⟨h1, h2, h3, h4, h5, h6, zv, hzv, hzs⟩ := sliceB_spec ht
  obtain ⟨a, rfl⟩ := Option.isSome_iff_exists.1 hA
  have : 0 ≤ z ∧ z < (m : Int) := ⟨by omega, by omega⟩
  subst hz
  simp [execOp, hx, hy, Instr.indexAt, asIntOf, run_underlying' h1, this, run_sizeOf' h2, h3, elt, hk]
theorem Rd.some {sz m : Nat} {A : Option Addr} {ls : List (List Value)} (R : Rd w sz A m ls) (hm : 0 < m) : A.isSome = true := by
  obtain ⟨b, off, rfl, _⟩ := R.at_ hm
  rfl
theorem r_fieldAddrE {s f : Nat} (off' : Nat) {x : Operand} {A : Option Addr} {k sz m : Nat} {ls : List (List Value)} (hf : fldB P s f off' = true) (R : Rd w sz A m ls) (hm : 0 < m) (hx : ev ρ x = elt A k) : Ans P ρ w (.fieldAddr s x f) (elt A (k + off')) := by
  obtain ⟨b, off, rfl, _⟩ := R.at_ hm
  have hx' : ev ρ x = .pointer (Option.some ⟨b, off + k, none⟩) := by rw [hx]; simp [elt, add_none]
  have h := r_fieldAddr (P := P) (w := w) off' hf hx'
  intro dst ty pos af gd
  rw [h dst ty pos af gd]
  simp [elt, add_none, Nat.add_assoc]
theorem r_nilCheckE {x : Operand} {A : Option Addr} {k sz m : Nat} {ls : List (List Value)} (R : Rd w sz A m ls) (hm : 0 < m) (hx : ev ρ x = elt A k) : Ans P ρ w (.nilCheck x) (elt A k) := by
  obtain ⟨b, off, rfl, _⟩ := R.at_ hm
  have hx' : ev ρ x = .pointer (Option.some ⟨b, off + k, none⟩) := by rw [hx]; simp [elt, add_none]
  have h := r_nilCheck (P := P) (w := w) hx'
  intro dst ty pos af gd
  rw [h dst ty pos af gd]
  simp [elt, add_none]
theorem Rd.cell {sz m : Nat} {A : Option Addr} {ls : List (List Value)} (R : Rd w sz A m ls) {k : Nat} {l : List Value} (hl : ls[k]? = Option.some l) : ∃ b off, A = Option.some ⟨b, off, none⟩ ∧ b < w.heap.size ∧ Cells w b (off + k * sz) l := by
  obtain ⟨b, off, hA, hlt, hc⟩ := R.at_ (by have := R.below_len hl; omega)
  exact ⟨b, off, hA, hlt, hc k l hl⟩
/-- A cell of x[k]. -/
theorem r_ldE {T : TypeId} {x : Operand} {A : Option Addr} {k o sz m : Nat} {ls : List (List Value)} {l : List Value} (v : Value) (hT : oneB P T = true) (R : Rd w sz A m ls) (hl : ls[k]? = Option.some l) (hx : ev ρ x = elt A (k * sz + o)) (hv : nth l o = Option.some v) : Ans P ρ w (.load T x) v := by
  obtain ⟨b, off, rfl, _, C⟩ := R.cell hl
  exact r_load1 v hT (b := b) (off := off + (k * sz + o)) (by rw [hx]; simp [elt, add_none]) (by rw [← Nat.add_assoc]; exact C o v (by rw [← nth_eq]; exact hv))
/-- x[k], of one cell. -/
theorem r_ldE0 {T : TypeId} {x : Operand} {A : Option Addr} {k sz m : Nat} {ls : List (List Value)} (v : Value) (hT : oneB P T = true) (R : Rd w sz A m ls) (hl : ls[k]? = Option.some [v]) (hx : ev ρ x = elt A (k * sz)) : Ans P ρ w (.load T x) v :=
  r_ldE (o := 0) v hT R hl (by simpa using hx) rfl
/-- x[k], whole. -/
theorem r_ldEA {T N : TypeId} {x : Operand} {A : Option Addr} {k m : Nat} {ls : List (List Value)} (l : List Value) (hT : aggN P T = Option.some N) (R : Rd w N A m ls) (hl : ls[k]? = Option.some l) (hx : ev ρ x = elt A (k * N)) : Ans P ρ w (.load T x) (.agg l.toArray) := by
  obtain ⟨b, off, rfl, _, C⟩ := R.cell hl
  exact r_loadA l hT (b := b) (off := off + k * N) (by rw [hx]; simp [elt, add_none]) (R.each l (List.mem_of_getElem? hl)) C
/-- A part of x[k]. -/
theorem r_ldEP {T N : TypeId} {x : Operand} {A : Option Addr} {k o sz m : Nat} {ls : List (List Value)} {l : List Value} (v : List Value) (hT : aggN P T = Option.some N) (R : Rd w sz A m ls) (hl : ls[k]? = Option.some l) (hx : ev ρ x = elt A (k * sz + o)) (hv : (l.drop o).take N = v) (hN : v.length = N) : Ans P ρ w (.load T x) (.agg v.toArray) := by
  obtain ⟨b, off, rfl, _, C⟩ := R.cell hl
  subst hv
  exact r_loadA _ hT (b := b) (off := off + (k * sz + o)) (by rw [hx]; simp [elt, add_none]) hN (by rw [← Nat.add_assoc]; exact C.part o N)

/-- A whole block that is owned. -/
theorem r_ldW (i : Nat) {T m : Nat} {x : Operand} {b : Nat} {l : List Value} {T' : TypeId} (hT : aggN P T = Option.some m) (M : Mem w0 X S w) (hx : ev ρ x = .pointer (Option.some ⟨b, 0, none⟩))
    (hi : nthE S i = Option.some (Option.some b, bc l T')) (hl : l.length = m) : Ans P ρ w (.load T x) (.agg l.toArray) :=
  r_loadA l hT hx hl (Cells.ofMem i M hi)
theorem r_ext {x : Operand} {i : Nat} {l : List Value} (v : Value) (hx : ev ρ x = .tuple l.toArray) (hv : nth l i = Option.some v) : Ans P ρ w (.extract x i) v := r_extract v hx (by rw [← nth_eq]; exact hv)

/-! ### Calls -/
def callOk (P : Program) (f : FuncId) : Bool := match P.funcs[f]? with | some fn => fn.body.isSome && !(fn.name == "runtime.NumGoroutine") | none => false
theorem wl_cal {x : Operand} {args : List Operand} {ts : Array TypeId} {f : FuncId} {first cap : List Value} (hf : callOk P f = true)
    (hg : gok l0 ρ gd = true) (hd : Nat.blt d n = true) (hx : ev ρ x = .func (.func f) first.toArray cap.toArray)
    (h : Calls P f (first ++ args.map (ev ρ) ++ cap).toArray w (fun e w' => ∃ v, e = .returned v ∧ wl P n l0 rest Q (upd ρ d v) w')) :
    wl P n l0 (⟨some d, .call ⟨.value x, args.toArray, ts⟩, ty, pos, af, gd⟩ :: rest) Q ρ w := by
  unfold callOk at hf
  cases hfn : P.funcs[f]? with
  | none => simp [hfn] at hf
  | some fn =>
    simp only [hfn, Bool.and_eq_true, Bool.not_eq_true'] at hf
    exact wl_call hfn (by cases h : fn.body <;> simp [h] at hf ⊢) hf.2 hg hd hx h

theorem roundN {σ : Type} {K : List Nat} {ρ0 : Rho} {fr : σ → List (Nat × Value)} {I : σ → World → Prop} {μ : σ → Nat} {s : σ} (s' : σ) (h1 : AgreeL ρ (fr s')) (h2 : AgreeK ρ0 ρ K) (h3 : I s' w) (h4 : μ s' < μ s) : roundQ K ρ0 fr I μ s Q .normal ρ w := ⟨s', h1, h2, h3, h4⟩
theorem roundX {σ : Type} {K : List Nat} {ρ0 : Rho} {fr : σ → List (Nat × Value)} {I : σ → World → Prop} {μ : σ → Nat} {s : σ} {i : Nat} (h : Q (.exit i) ρ w) : roundQ K ρ0 fr I μ s Q (.exit i) ρ w := h
theorem roundR {σ : Type} {K : List Nat} {ρ0 : Rho} {fr : σ → List (Nat × Value)} {I : σ → World → Prop} {μ : σ → Nat} {s : σ} (h : Q .ret ρ w) : roundQ K ρ0 fr I μ s Q .ret ρ w := h
theorem agN {ρ : Rho} : AgreeL ρ [] := trivial
theorem agC {ρ : Rho} {t : Nat} {v : Value} {l : List (Nat × Value)} (h : ρ t = v) (hl : AgreeL ρ l) : AgreeL ρ ((t, v) :: l) := ⟨h, hl⟩
theorem akN {ρ ρ' : Rho} : AgreeK ρ ρ' [] := trivial
theorem akC {ρ ρ' : Rho} {t : Nat} {l : List Nat} (h : ρ' t = ρ t) (hl : AgreeK ρ ρ' l) : AgreeK ρ ρ' (t :: l) := ⟨h, hl⟩
theorem alN {w : World} : allP [] w := trivial
theorem alC {p : Nat × (World → Prop)} {l : Pend} {w : World} (h : p.2 w) (hl : allP l w) : allP (p :: l) w := ⟨h, hl⟩
theorem iE {k : IntKind} {a b : Int} (h : a = b) : Value.int k a = Value.int k b := by rw [h]
theorem bD {p q : Prop} {_ : Decidable p} {_ : Decidable q} (h : p ↔ q) : Value.bool (decide p) = Value.bool (decide q) := by rw [decide_eq_decide.2 h]
theorem bT {q : Prop} {_ : Decidable q} (h : q) : Value.bool true = Value.bool (decide q) := by rw [decide_eq_true h]
theorem bF {q : Prop} {_ : Decidable q} (h : ¬ q) : Value.bool false = Value.bool (decide q) := by rw [decide_eq_false h]
theorem w64 (x : Int) (h1 : -9223372036854775808 ≤ x) (h2 : x ≤ 9223372036854775807) : IntKind.wrap .i64 x = x := by simp only [IntKind.wrap, IntKind.bits, IntKind.signed, Bool.true_and, decide_eq_true_eq, ge_iff_le]; split <;> omega
/-- Where two ways meet: what both leave. -/
def meetQ {σ : Type} (K : List Nat) (ρ0 : Rho) (fr : σ → List (Nat × Value)) (I : σ → World → Prop) (Q : Exit → Rho → World → Prop) : Exit → Rho → World → Prop :=
  thenQ (fun ρ w => ∃ s, AgreeL ρ (fr s) ∧ AgreeK ρ0 ρ K ∧ I s w) Q
theorem meetN {σ : Type} {K : List Nat} {ρ0 : Rho} {fr : σ → List (Nat × Value)} {I : σ → World → Prop} (s : σ) (h1 : AgreeL ρ (fr s)) (h2 : AgreeK ρ0 ρ K) (h3 : I s w) : meetQ K ρ0 fr I Q .normal ρ w := ⟨s, h1, h2, h3⟩
theorem meetX {σ : Type} {K : List Nat} {ρ0 : Rho} {fr : σ → List (Nat × Value)} {I : σ → World → Prop} {i : Nat} (h : Q (.exit i) ρ w) : meetQ K ρ0 fr I Q (.exit i) ρ w := h
theorem meetR {σ : Type} {K : List Nat} {ρ0 : Rho} {fr : σ → List (Nat × Value)} {I : σ → World → Prop} (h : Q .ret ρ w) : meetQ K ρ0 fr I Q .ret ρ w := h
theorem W_meet {σ : Type} {x y : Code} (K : List Nat) (fr : σ → List (Nat × Value)) (I : σ → World → Prop) (hx : W P n x (meetQ K ρ fr I Q) ρ w) (hy : ∀ s ρ' w', I s w' → W P n y Q (updL (keep K ρ ρ') (fr s)) w') : W P n (.seq x y) Q ρ w :=
  W_join _ hx fun ρ' w' ⟨s, h1, h2, h3⟩ => by
    have := hy s ρ' w' h3
    rw [keep_self h2, updL_self h1] at this
    exact this
/-- Sums and differences that stay in range. -/
theorem r_add {t t' : TypeId} {x y : Operand} {a b : Int} (hx : ev ρ x = .int .i64 a) (hy : ev ρ y = .int .i64 b) (h1 : -9223372036854775808 ≤ a + b) (h2 : a + b ≤ 9223372036854775807) : Ans P ρ w (.binOp .add t x y t') (.int .i64 (a + b)) :=
  r_bin _ hx hy (by simp only [ibin, w64 _ h1 h2])
theorem r_sub {t t' : TypeId} {x y : Operand} {a b : Int} (hx : ev ρ x = .int .i64 a) (hy : ev ρ y = .int .i64 b) (h1 : -9223372036854775808 ≤ a - b) (h2 : a - b ≤ 9223372036854775807) : Ans P ρ w (.binOp .sub t x y t') (.int .i64 (a - b)) :=
  r_bin _ hx hy (by simp only [ibin, w64 _ h1 h2])
theorem r_mul {t t' : TypeId} {x y : Operand} {a b : Int} (hx : ev ρ x = .int .i64 a) (hy : ev ρ y = .int .i64 b) (h1 : -9223372036854775808 ≤ a * b) (h2 : a * b ≤ 9223372036854775807) : Ans P ρ w (.binOp .mul t x y t') (.int .i64 (a * b)) :=
  r_bin _ hx hy (by simp only [ibin, w64 _ h1 h2])
/-- A conversion that keeps the number. -/
theorem r_convK {s t : TypeId} {x : Operand} {k k' : IntKind} {a : Int} (hs : (P.underlying s).isSome = true) (ht : P.underlying t = Option.some (.int k')) (hx : ev ρ x = .int k a) (hk : k'.wrap a = a) : Ans P ρ w (.convert s t x) (.int k' a) := by
  have h := r_conv (w := w) hs ht hx
  rwa [hk] at h

/-! ### Equality of structs, field by field -/
theorem eqF_nil {dd : Nat} {xs ys : Array Value} {w : World} : (Op.eqFields dd xs ys []).run P w = .ok true w := by simp [Op.eqFields]
theorem eqF_cons {dd : Nat} {xs ys : Array Value} {f : Field} {fs : List Field} {a b : Value} {r s : Bool} {w : World} (hn : (f.name == "_") = false) (ha : (part f.type xs f.offset).run P w = .ok a w) (hb : (part f.type ys f.offset).run P w = .ok b w) (he : (Op.equalIn dd f.type a b).run P w = .ok r w)
    (hr : (Op.eqFields dd xs ys fs).run P w = .ok s w) : (Op.eqFields dd xs ys (f :: fs)).run P w = .ok (r && s) w := by
  have hn' : f.name ≠ "_" := by simpa using hn
  simp only [Op.eqFields, if_pos hn', Sem.run_bind, ha, hb, he, Result.andThen_ok]
  cases r
  · simp
  · simpa using hr
theorem part1 {T off : Nat} {l : List Value} {v : Value} {w : World} (hT : oneB P T = true) (hv : nth l off = Option.some v) : (part T l.toArray off).run P w = .ok v w := by
  rw [nth_eq] at hv
  simp [part, (oneB_spec hT w).1, hv]
theorem partA {T off m : Nat} {l : List Value} {v : List Value} {w : World} (hT : aggN P T = Option.some m) (hv : (l.drop off).take m = v) : (part T l.toArray off).run P w = .ok (.agg v.toArray) w := by
  obtain ⟨h1, h2, h3⟩ := aggN_spec hT w
  subst hv
  simp only [part, Sem.run_bind, h1, Result.andThen_ok, if_true, run_sizeOf' h3, h2, Sem.run_pure]
  simp [List.extract_eq_take_drop, List.drop_take]
theorem eq_struct {T : TypeId} {fs : Array Field} {dd : Nat} {xs ys : List Value} {r : Bool} {w : World} (hu : P.underlying T = Option.some (.struct fs)) (hp : P.stoodInHeld T = false) (h : (Op.eqFields dd xs.toArray ys.toArray fs.toList).run P w = .ok r w) : (Op.equalIn (dd + 1) T (.agg xs.toArray) (.agg ys.toArray)).run P w = .ok r w := by
  have hf : P.fieldsOf T = fs := by simp [Program.fieldsOf, hu]
  rw [run_equalIn_struct (P := P) w dd T _ _ (by rw [hf]; exact hu) hp, hf]
  exact h
theorem eq_int {T : TypeId} {dd : Nat} {k k' : IntKind} {a b : Int} {w : World} (hu : P.underlying T = Option.some (.int k')) : (Op.equalIn (dd + 1) T (.int k a) (.int k b)).run P w = .ok (decide (a = b)) w := by
  rw [run_equalIn_int w dd T k k' a b hu]
  congr 1
theorem bv {t : Nat} {b b' : Bool} (h : ρ t = .bool b) (e : b = b') : ρ t = .bool b' := by rw [h, e]
theorem iv {t : Nat} {k : IntKind} {a b : Int} (h : ρ t = .int k a) (e : a = b) : ρ t = .int k b := by rw [h, e]
theorem slv {t : Nat} {A A' : Option Addr} {m m' c c' : Nat} (h : ρ t = .slice A m c) (h1 : A = A') (h2 : m = m') (h3 : c = c') : ρ t = .slice A' m' c' := by rw [h, h1, h2, h3]
theorem nthMem {e : Ent} {S : List Ent} {i : Nat} (h : nthE S i = Option.some e) : e ∈ S := by
  rw [nthE_eq] at h
  exact List.mem_of_getElem? h
theorem Rd.someK {sz m : Nat} {A : Option Addr} {ls : List (List Value)} (R : Rd w sz A m ls) {k : Nat} {l : List Value} (hl : ls[k]? = Option.some l) : A.isSome = true := R.some (Nat.lt_of_le_of_lt (Nat.zero_le k) (R.below_len hl))
theorem D_s1 {i : Nat} {r : List (Nat × Nat)} {pend : Pend} (ho : nthO l0 i = Option.some ⟨Option.some d, op, ty, pos, af, gd⟩) (hg : gok l0 ρ gd = false) (hd : Nat.blt d n = true)
    (h : D P n l0 Q r ((i, fun w' => Yl P l0 ⟨Option.some d, op, ty, pos, af, gd⟩ ρ undef w') :: pend) (upd ρ d undef) w) : D P n l0 Q ((i, 1) :: r) pend ρ w :=
  ⟨_, d, undef, ho, rfl, hd, .inr ⟨hg, rfl⟩, h⟩
theorem r_eqPtrNilE {t t' e : TypeId} {x : Operand} {A : Option Addr} {k sz m : Nat} {ls : List (List Value)} {l : List Value} (ht : P.underlying t = Option.some (.pointer e)) (R : Rd w sz A m ls) {kk : Nat} (hl : ls[kk]? = Option.some l) (hx : ev ρ x = elt A k) :
    Ans P ρ w (.binOp .eql t x (.const (.pointer none)) t') (.bool false) := by
  obtain ⟨b, off, rfl, _⟩ := R.cell hl
  exact r_eqPtrNil false ht (p := Option.some ((⟨b, off, none⟩ : Addr).add k)) (by rw [hx]; rfl) rfl
theorem structB_mk {T : TypeId} {z : List Value} {pl : List (Nat × Nat)} {fs : Array Field} (hu : P.underlying T = some (.struct fs)) (hz : zeroV P T = some (.agg z.toArray)) (hpl : fs.toList.map (fun f => (f.offset, P.cellsOf f.type)) = pl) (ha : (fs.toList.all fun f => (P.info? f.type).isSome) = true) : structB P T z pl := by
  obtain ⟨zi, hzi⟩ := Option.isSome_iff_exists.1 (info_of_underlying hu)
  refine ⟨fs, zi, hu, hzi, by simpa [zeroV, hzi] using hz, hpl, fun f hf => ?_⟩
  exact List.all_eq_true.1 ha f (by simpa using hf)
end
end Go.Bil
