/- The frame: a walk over Go's code whose frames are functions from temporaries to values. Rules for code and for lists of operations. -/
import Derived.WalkKit
import Derived.Still
import Derived.Deep.Draws
import Derived.Deep.LoopGhost
set_option linter.unusedVariables false
set_option linter.unusedSimpArgs false
namespace Go.Bil

abbrev Rho := Nat → Value
/-- One temporary is written. -/
def upd (ρ : Rho) (d : Nat) (v : Value) : Rho := fun t => bif Nat.beq t d then v else ρ t
def put (ρ : Rho) (d : Option Nat) (v : Value) : Rho := match d with | some d => upd ρ d v | none => ρ
def ev (ρ : Rho) : Operand → Value
  | .tmp t => ρ t
  | .const v => v
  | .global g => .pointer (some ⟨g, 0, none⟩)
  | .func f => .func (.func f) #[] #[]

theorem upd_self {ρ : Rho} {d : Nat} {v : Value} (h : ρ d = v) : upd ρ d v = ρ := by
  funext t
  unfold upd
  cases e : Nat.beq t d with
  | false => rfl
  | true => rw [Nat.eq_of_beq_eq_true e, h]; rfl

structure Agree (n : Nat) (a : Act) (ρ : Rho) : Prop where
  size : a.tmps.size = n
  defers : a.defers = []
  at_ : ∀ t, a.tmps.getD t undef = ρ t

theorem Agree.eval {n : Nat} {a : Act} {ρ : Rho} (h : Agree n a ρ) : a.eval = ev ρ := by
  funext x
  cases x with
  | tmp t => exact h.at_ t
  | _ => rfl

theorem Agree.upd {n : Nat} {a : Act} {ρ : Rho} (h : Agree n a ρ) (d : Nat) (hd : Nat.blt d n = true) (v : Value) : Agree n (a.put (some d) v) (upd ρ d v) := by
  have hd' : d < a.tmps.size := by rw [h.size]; simpa using hd
  refine ⟨by simp [Act.put, h.size], h.defers, fun t => ?_⟩
  have ht := h.at_ t
  unfold Bil.upd
  cases e : Nat.beq t d with
  | true =>
    have : t = d := Nat.eq_of_beq_eq_true e
    subst this
    simp [Act.put, hd']
  | false =>
    have hne : d ≠ t := fun h => by subst h; simp at e
    simpa [Act.put, Array.getElem?_setIfInBounds_ne hne] using ht

def lift (n : Nat) (Q : Exit → Rho → World → Prop) : Exit → Act → World → Prop := fun e a w => ∃ ρ, Agree n a ρ ∧ Q e ρ w

@[irreducible] def W (P : Program) (n : Nat) (c : Code) (Q : Exit → Rho → World → Prop) (ρ : Rho) (w : World) : Prop :=
  ∀ a, Agree n a ρ → c.wp P (lift n Q) a w

@[irreducible] def wl (P : Program) (n : Nat) (l0 l : List Oper) (Q : Exit → Rho → World → Prop) (ρ : Rho) (w : World) : Prop :=
  ∀ a, Agree n a ρ → wpList P l0.toArray (lift n Q) l a w

section
variable {P : Program} {n : Nat} {Q : Exit → Rho → World → Prop} {ρ : Rho} {w : World}

/-! ### Where a piece of code goes -/
def thenQ (K : Rho → World → Prop) (Q : Exit → Rho → World → Prop) : Exit → Rho → World → Prop
  | .normal, ρ, w => K ρ w
  | e, ρ, w => Q e ρ w
def blkQ (id : Nat) (Q : Exit → Rho → World → Prop) : Exit → Rho → World → Prop
  | .exit i, ρ, w => if i = id then Q .normal ρ w else Q (.exit i) ρ w
  | e, ρ, w => Q e ρ w
theorem thenN {K : Rho → World → Prop} (h : K ρ w) : thenQ K Q .normal ρ w := h
theorem thenX {K : Rho → World → Prop} {i : Nat} (h : Q (.exit i) ρ w) : thenQ K Q (.exit i) ρ w := h
theorem thenR {K : Rho → World → Prop} (h : Q .ret ρ w) : thenQ K Q .ret ρ w := h
theorem blkN {id : Nat} (h : Q .normal ρ w) : blkQ id Q .normal ρ w := h
theorem blkR {id : Nat} (h : Q .ret ρ w) : blkQ id Q .ret ρ w := h
theorem blkH {id : Nat} (h : Q .normal ρ w) : blkQ id Q (.exit id) ρ w := by simpa [blkQ] using h
theorem blkX {id i : Nat} (hi : Nat.beq i id = false) (h : Q (.exit i) ρ w) : blkQ id Q (.exit i) ρ w := by
  have : i ≠ id := fun e => by subst e; simp at hi
  simpa [blkQ, this] using h

theorem lift_then {K : Rho → World → Prop} {P : Program} {n : Nat} {c : Code} {Q : Exit → Rho → World → Prop} (hK : ∀ ρ w, K ρ w → W P n c Q ρ w) {e : Exit} {a : Act} {w : World} (h : lift n (thenQ K Q) e a w) :
    Exit.then (fun a w => c.wp P (lift n Q) a w) (lift n Q) e a w := by
  obtain ⟨ρ, ha, hq⟩ := h
  cases e with
  | normal => have := hK ρ w hq; unfold W at this; exact this a ha
  | _ => exact ⟨ρ, ha, hq⟩

theorem W_mono {c : Code} {Q' : Exit → Rho → World → Prop} (h : W P n c Q ρ w) (hq : ∀ e ρ w, Q e ρ w → Q' e ρ w) : W P n c Q' ρ w := by
  unfold W at *
  exact fun a ha => Code.wp_mono (fun e a w ⟨ρ, h1, h2⟩ => ⟨ρ, h1, hq _ _ _ h2⟩) (h a ha)

theorem W_seq {x y : Code} (h : W P n x (thenQ (W P n y Q) Q) ρ w) : W P n (.seq x y) Q ρ w := by
  unfold W
  intro a ha
  unfold W at h
  exact wp_seq (Code.wp_mono (fun e a w hq => lift_then (c := y) (K := W P n y Q) (fun _ _ h => h) (by unfold W; exact hq)) (h a ha))

/-- A meeting point: what is known behind x, whatever way was taken. -/
theorem W_join {x y : Code} (J : Rho → World → Prop) (h : W P n x (thenQ J Q) ρ w) (hy : ∀ ρ w, J ρ w → W P n y Q ρ w) : W P n (.seq x y) Q ρ w :=
  W_seq (W_mono h fun e ρ w hq => by cases e <;> first | exact hq | exact hy _ _ hq)

theorem W_block {id : Nat} {c : Code} (h : W P n c (blkQ id Q) ρ w) : W P n (.block id c) Q ρ w := by
  unfold W at *
  intro a ha
  refine wp_block (Code.wp_mono ?_ (h a ha))
  rintro e a w ⟨ρ, h1, h2⟩
  cases e with
  | exit i =>
    simp only [blkQ] at h2
    simp only [Exit.inBlock]
    split <;> rename_i hi
    · rw [if_pos hi] at h2; exact ⟨ρ, h1, h2⟩
    · rw [if_neg hi] at h2; exact ⟨ρ, h1, h2⟩
  | _ => exact ⟨ρ, h1, h2⟩

theorem W_skip (h : Q .normal ρ w) : W P n .skip Q ρ w := by unfold W; exact fun a ha => wp_skip ⟨ρ, ha, h⟩
theorem W_label {l : Nat} (h : Q .normal ρ w) : W P n (.label l) Q ρ w := by unfold W; exact fun a ha => wp_label ⟨ρ, ha, h⟩
theorem W_exit {id : Nat} (h : Q (.exit id) ρ w) : W P n (.exit id) Q ρ w := by unfold W; exact fun a ha => wp_exit ⟨ρ, ha, h⟩
theorem W_goto {l : Nat} (h : Q (.goto l) ρ w) : W P n (.goto l) Q ρ w := by unfold W; exact fun a ha => wp_goto ⟨ρ, ha, h⟩
theorem W_ret (h : Q .ret ρ w) : W P n .ret Q ρ w := by unfold W; exact fun a ha => wp_ret ⟨ρ, ha, h⟩

theorem W_cond {c : Operand} {x y : Code} (b : Bool) (hc : ev ρ c = .bool b) (ht : b = true → W P n x Q ρ w) (hf : b = false → W P n y Q ρ w) : W P n (.cond c x y) Q ρ w := by
  unfold W at *
  intro a ha
  refine wp_cond_split (t := b) (by rw [ha.eval]; exact hc) (fun h => ht h a ha) (fun h => hf h a ha)
theorem W_condD {c : Operand} {x y : Code} {p : Prop} {dp : Decidable p} (hc : ev ρ c = .bool (@decide p dp)) (ht : p → W P n x Q ρ w) (hf : ¬ p → W P n y Q ρ w) : W P n (.cond c x y) Q ρ w :=
  W_cond _ hc (fun h => ht (of_decide_eq_true h)) (fun h => hf (of_decide_eq_false h))
theorem W_condT {c : Operand} {x y : Code} (hc : ev ρ c = .bool true) (h : W P n x Q ρ w) : W P n (.cond c x y) Q ρ w := W_cond true hc (fun _ => h) (fun h => by cases h)
theorem W_condF {c : Operand} {x y : Code} (hc : ev ρ c = .bool false) (h : W P n y Q ρ w) : W P n (.cond c x y) Q ρ w := W_cond false hc (fun h => by cases h) (fun _ => h)

/-! ### Loops -/
def updL (ρ : Rho) : List (Nat × Value) → Rho
  | [] => ρ
  | (t, v) :: l => upd (updL ρ l) t v
def AgreeL (ρ : Rho) : List (Nat × Value) → Prop
  | [] => True
  | (t, v) :: l => ρ t = v ∧ AgreeL ρ l
def memB (t : Nat) : List Nat → Bool
  | [] => false
  | x :: l => bif Nat.beq t x then true else memB t l
/-- The temporaries of K as in ρ, all others whatever they are. -/
def keep (K : List Nat) (ρ ρ' : Rho) : Rho := fun t => bif memB t K then ρ t else ρ' t
def AgreeK (ρ ρ' : Rho) : List Nat → Prop
  | [] => True
  | t :: l => ρ' t = ρ t ∧ AgreeK ρ ρ' l
theorem updL_self {ρ : Rho} : ∀ {l : List (Nat × Value)}, AgreeL ρ l → updL ρ l = ρ
  | [], _ => rfl
  | (t, v) :: l, h => by
    show upd (updL ρ l) t v = ρ
    rw [updL_self h.2]
    exact upd_self h.1
theorem keep_self {ρ ρ' : Rho} : ∀ {K : List Nat}, AgreeK ρ ρ' K → keep K ρ ρ' = ρ'
  | [], _ => rfl
  | t :: K, h => by
    have ih := keep_self h.2
    funext x
    have ihx := congrFun ih x
    unfold keep at *
    unfold memB
    cases e : Nat.beq x t with
    | true => rw [Nat.eq_of_beq_eq_true e]; exact h.1.symm
    | false => exact ihx

def roundQ {σ : Type} (K : List Nat) (ρ0 : Rho) (fr : σ → List (Nat × Value)) (I : σ → World → Prop) (μ : σ → Nat) (s : σ) (Q : Exit → Rho → World → Prop) : Exit → Rho → World → Prop :=
  thenQ (fun ρ w => ∃ s', AgreeL ρ (fr s') ∧ AgreeK ρ0 ρ K ∧ I s' w ∧ μ s' < μ s) Q

theorem agreeK_refl {ρ : Rho} : ∀ K : List Nat, AgreeK ρ ρ K
  | [] => trivial
  | _ :: K => ⟨rfl, agreeK_refl K⟩
theorem W_loop {σ : Type} {c : Code} (K : List Nat) (fr : σ → List (Nat × Value)) (I : σ → World → Prop) (μ : σ → Nat) (s0 : σ) (h0 : AgreeL ρ (fr s0)) (hI : I s0 w)
    (round : ∀ s ρ' w', I s w' → W P n c (roundQ K ρ fr I μ s Q) (updL (keep K ρ ρ') (fr s)) w') : W P n (.loop c) Q ρ w := by
  unfold W
  intro a ha
  refine wp_loop_ghost (fun m a w => ∃ s ρ', Agree n a ρ' ∧ AgreeL ρ' (fr s) ∧ AgreeK ρ ρ' K ∧ I s w ∧ μ s = m) (μ s0) ⟨s0, ρ, ha, h0, agreeK_refl K, hI, rfl⟩ ?_
  rintro m a' w' ⟨s, ρ', ha', hL, hK, hIs, hm⟩
  have hr := round s ρ' w' hIs
  have e : updL (keep K ρ ρ') (fr s) = ρ' := by rw [keep_self hK]; exact updL_self hL
  rw [e] at hr
  unfold W at hr
  refine Code.wp_mono ?_ (hr a' ha')
  rintro e a'' w'' ⟨ρ'', h1, h2⟩
  cases e with
  | normal =>
    obtain ⟨s', hL', hK', hI', hlt⟩ := h2
    exact ⟨μ s', by omega, s', ρ'', h1, hL', hK', hI', rfl⟩
  | _ => exact ⟨ρ'', h1, h2⟩
end

/-- A loop of at most k rounds, each walked by itself. -/
def Wr (P : Program) (n : Nat) (c : Code) (Q : Exit → Rho → World → Prop) : Nat → Rho → World → Prop
  | 0, _, _ => False
  | k + 1, ρ, w => W P n c (thenQ (Wr P n c Q k) Q) ρ w
theorem Wr_s {P : Program} {n : Nat} {c : Code} {Q : Exit → Rho → World → Prop} {k : Nat} {ρ : Rho} {w : World} (h : W P n c (thenQ (Wr P n c Q k) Q) ρ w) : Wr P n c Q (k + 1) ρ w := h
theorem W_rounds {P : Program} {n : Nat} {Q : Exit → Rho → World → Prop} {ρ : Rho} {w : World} {c : Code} (k : Nat) (h : Wr P n c Q k ρ w) : W P n (.loop c) Q ρ w := by
  have key : ∀ k ρ w a, Agree n a ρ → Wr P n c Q k ρ w → Code.rounds P c (lift n Q) k a w := by
    intro k
    induction k with
    | zero => intro ρ w a _ h; exact h.elim
    | succ k ih =>
      intro ρ w a ha h
      have h' : W P n c (thenQ (Wr P n c Q k) Q) ρ w := h
      unfold W at h'
      rw [rounds_succ]
      refine Code.wp_mono ?_ (h' a ha)
      rintro e a' w' ⟨ρ', h1, h2⟩
      cases e with
      | normal => exact ih ρ' w' a' h1 h2
      | _ => exact ⟨ρ', h1, h2⟩
  unfold W
  exact fun a ha => wp_loop_rounds k (key k ρ w a ha h)

/-! ### The whole function -/
def resM (rs : Array ResultVar) (ρ : Rho) : Sem Value := do
  let vs ← rs.mapM fun
    | .tmp t => pure (ρ t)
    | .cell a t => do loadVar t (← asAddr (ρ a))
  pure (if h : vs.size = 1 then vs[0] else .tuple vs)
def finQ (P : Program) (rs : Array ResultVar) (R : Value → World → Prop) : Exit → Rho → World → Prop
  | .normal, ρ, w => ∃ v, (resM rs ρ).run P w = .ok v w ∧ R v w
  | .ret, ρ, w => ∃ v, (resM rs ρ).run P w = .ok v w ∧ R v w
  | _, _, _ => False
/-- The frame at the beginning: the arguments. -/
def fr0 : Nat → List Value → Rho
  | _, [] => fun _ => undef
  | k, v :: l => upd (fr0 (k + 1) l) k v

theorem fr0_at (l : List Value) : ∀ k t, fr0 k l t = if k ≤ t then l.getD (t - k) undef else undef := by
  induction l with
  | nil => intro k t; simp [fr0]
  | cons v l ih =>
    intro k t
    unfold fr0 upd
    cases e : Nat.beq t k with
    | true =>
      have : t = k := Nat.eq_of_beq_eq_true e
      subst this
      simp
    | false =>
      have hne : t ≠ k := fun h => by subst h; simp at e
      simp only [cond_false, ih]
      by_cases h : k ≤ t
      · rw [if_pos (by omega), if_pos h]
        obtain ⟨m, rfl⟩ : ∃ m, t = k + 1 + m := ⟨t - (k + 1), by omega⟩
        have e1 : k + 1 + m - (k + 1) = m := by omega
        have e2 : k + 1 + m - k = m + 1 := by omega
        rw [e1, e2]
        simp
      · rw [if_neg (by omega), if_neg h]

theorem results_eq (fn : Func) {n : Nat} {a : Act} {ρ : Rho} (ha : Agree n a ρ) : results fn a.tmps = resM fn.results ρ := by
  unfold results resM
  simp only [ha.at_]
  rfl

theorem calls_of_W {P : Program} {f : FuncId} {fn : Func} {c : Code} {args : List Value} {w : World} {R : Value → World → Prop} (rs : Array ResultVar) (n : Nat)
    (hf : P.funcs[f]? = some fn) (hb : fn.body = some c) (hr : fn.results = rs) (hn : fn.ntmps = n) (hle : Nat.ble args.length n = true)
    (h : W P n c (finQ P rs R) (fr0 0 args) w) : Calls P f args.toArray w (fun e w' => ∃ v, e = .returned v ∧ R v w') := by
  subst hr
  refine calls_of_wp hf hb ?_
  have hle' : args.length ≤ n := by simpa using hle
  have ha : Agree n { tmps := args.toArray ++ Array.replicate (fn.ntmps - args.toArray.size) undef, defers := [] } (fr0 0 args) := by
    refine ⟨by simp; omega, rfl, fun t => ?_⟩
    rw [fr0_at]
    simp only [Nat.zero_le, if_true, Nat.sub_zero]
    by_cases h1 : t < args.length
    · simp only [Array.getD_eq_getD_getElem?, List.getD_eq_getElem?_getD]
      rw [Array.getElem?_append_left (by simpa using h1)]
      simp
    · simp only [Array.getD_eq_getD_getElem?, List.getD_eq_getElem?_getD]
      rw [Array.getElem?_append_right (by simpa using Nat.le_of_not_lt h1)]
      simp only [Array.getElem?_replicate]
      split <;> simp [List.getElem?_eq_none (Nat.le_of_not_lt h1)]
  unfold W at h
  refine Code.wp_mono ?_ (h _ ha)
  rintro e a w' ⟨ρ, h1, h2⟩
  cases e with
  | normal =>
    obtain ⟨v, h3, h4⟩ := h2
    exact ⟨h1.defers, v, by rw [results_eq fn h1]; exact h3, v, rfl, h4⟩
  | ret =>
    obtain ⟨v, h3, h4⟩ := h2
    exact ⟨h1.defers, v, by rw [results_eq fn h1]; exact h3, v, rfl, h4⟩
  | _ => exact h2.elim
section
variable {P : Program} {R : Value → World → Prop} {ρ : Rho} {w : World}
theorem fin1 {t : Nat} (v : Value) (hv : ρ t = v) (h : R v w) : finQ P #[.tmp t] R .ret ρ w := ⟨v, by simp [resM, hv], h⟩
theorem fin1n {t : Nat} (v : Value) (hv : ρ t = v) (h : R v w) : finQ P #[.tmp t] R .normal ρ w := ⟨v, by simp [resM, hv], h⟩
theorem fin2 {t u : Nat} (v1 v2 : Value) (h1 : ρ t = v1) (h2 : ρ u = v2) (h : R (.tuple #[v1, v2]) w) : finQ P #[.tmp t, .tmp u] R .ret ρ w := ⟨_, by simp [resM, h1, h2], h⟩
theorem fin0 (h : R (.tuple #[]) w) : finQ P #[] R .ret ρ w := ⟨_, by simp [resM], h⟩
theorem fin0n (h : R (.tuple #[]) w) : finQ P #[] R .normal ρ w := ⟨_, by simp [resM], h⟩
end
end Go.Bil
