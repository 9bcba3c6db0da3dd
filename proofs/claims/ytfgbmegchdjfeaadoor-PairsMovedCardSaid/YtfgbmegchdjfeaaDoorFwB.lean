/- Rules for single operations that do not look at memory. -/
import Derived.Test.YtfgbmegchdjfeaaDoorFwA
set_option linter.unusedVariables false
set_option linter.unusedSimpArgs false
namespace Go.Bil

def nthO : List Oper → Nat → Option Oper
  | [], _ => none
  | o :: _, 0 => some o
  | _ :: l, k + 1 => nthO l k
theorem nthO_eq : ∀ (l : List Oper) (j : Nat), nthO l j = l[j]?
  | [], j => by simp [nthO]
  | o :: l, 0 => by simp [nthO]
  | o :: l, k + 1 => by simp [nthO, nthO_eq l k]
/-- What operation j has answered. -/
def ans (l0 : List Oper) (ρ : Rho) (j : Nat) : Option Bool :=
  match nthO l0 j with
  | some ⟨some t, _, _, _, _, _⟩ => (match ρ t with | .bool b => some b | _ => none)
  | _ => none
/-- Whether a guard lets its operation run. -/
def gok (l0 : List Oper) (ρ : Rho) : Option (Nat × Bool) → Bool
  | none => true
  | some (j, want) => (match ans l0 ρ j with | some b => (match b, want with | true, true => true | false, false => true | _, _ => false) | none => false)

section
variable {P : Program} {n : Nat} {Q : Exit → Rho → World → Prop} {ρ : Rho} {w : World} {l0 rest : List Oper}

theorem ans_yielded {a : Act} (ha : Agree n a ρ) (j : Nat) : yielded l0.toArray a.tmps j = ans l0 ρ j := by
  unfold yielded ans
  rw [nthO_eq]
  simp only [List.getElem?_toArray]
  cases h : l0[j]? with
  | none => rfl
  | some o =>
    obtain ⟨dst, _, _, _, _, _⟩ := o
    cases dst with
    | none => rfl
    | some t =>
      have ht : ρ t = (a.tmps[t]?).getD undef := by rw [← ha.at_ t]; simp
      simp only [Option.bind_some, ht]
      cases h2 : a.tmps[t]? with
      | none => rfl
      | some v => cases v <;> rfl

theorem gok_wanted {a : Act} (ha : Agree n a ρ) (o : Oper) : Region.wanted o (yielded l0.toArray a.tmps) = gok l0 ρ o.guard := by
  unfold Region.wanted gok
  cases o.guard with
  | none => rfl
  | some g =>
    obtain ⟨j, want⟩ := g
    simp only [ans_yielded ha]
    cases ans l0 ρ j with
    | none => rfl
    | some b => cases b <;> cases want <;> rfl

theorem wl_nil (h : Q .normal ρ w) : wl P n l0 [] Q ρ w := by unfold wl; exact fun a ha => ⟨ρ, ha, h⟩
theorem W_region {id : Nat} {l : List Oper} (h : wl P n l l Q ρ w) : W P n (.region id l.toArray false) Q ρ w := by
  unfold W
  unfold wl at h
  exact fun a ha => wp_region_lit (h a ha)
theorem wl_mono {l : List Oper} {Q' : Exit → Rho → World → Prop} (h : wl P n l0 l Q ρ w) (hq : ∀ e ρ w, Q e ρ w → Q' e ρ w) : wl P n l0 l Q' ρ w := by
  unfold wl at *
  intro a ha
  have := h a ha
  clear h
  revert this
  generalize ha' : a = a'
  have gen : ∀ (l : List Oper) (a : Act) (w : World), wpList P l0.toArray (lift n Q) l a w → wpList P l0.toArray (lift n Q') l a w := by
    intro l
    induction l with
    | nil => intro a w h; obtain ⟨ρ, h1, h2⟩ := h; exact ⟨ρ, h1, hq _ _ _ h2⟩
    | cons o l ih =>
      intro a w h
      unfold wpList at h ⊢
      split
      · rename_i hw
        rw [if_pos hw] at h
        refine h.imp (fun h => ?_) (fun ⟨h1, a, w, ρ, h2, h3⟩ => ⟨h1, a, w, ρ, h2, hq _ _ _ h3⟩)
        unfold Oper.wp at *
        generalize (execOp a.eval o).run P w = r at *
        cases r with
        | ok nx w' =>
          cases nx <;> simp only [Oper.upon] at h ⊢ <;> first
            | exact ih _ _ h
            | exact Calls.mono h (fun e w'' he => by
                cases e with
                | returned v => exact ih _ _ he
                | panicked c => obtain ⟨ρ, h1, h2⟩ := he; exact ⟨ρ, h1, hq _ _ _ h2⟩
                | outgrown => obtain ⟨a, w, ρ, h1, h2⟩ := he; exact ⟨a, w, ρ, h1, hq _ _ _ h2⟩)
            | exact Rows.mono h (fun _ _ he => ih _ _ he)
        | halt x w' =>
          cases x <;> simp only [Oper.upon] at h ⊢
          obtain ⟨ρ, h1, h2⟩ := h
          exact ⟨ρ, h1, hq _ _ _ h2⟩
      · rename_i hw
        rw [if_neg hw] at h
        exact ih _ _ h
  exact gen l a' w

/-- An operation that answers a value. -/
theorem wl_val {d : Nat} {op : Op} {ty : TypeId} {pos : String} {af : Array Edge} {gd : Option (Nat × Bool)} {v : Value} {w' : World} (hg : gok l0 ρ gd = true) (hd : Nat.blt d n = true)
    (hrun : (execOp (ev ρ) ⟨some d, op, ty, pos, af, gd⟩).run P w = .ok (.value v) w') (h : wl P n l0 rest Q (upd ρ d v) w') : wl P n l0 (⟨some d, op, ty, pos, af, gd⟩ :: rest) Q ρ w := by
  unfold wl at *
  intro a ha
  unfold wpList
  rw [gok_wanted ha]
  rw [if_pos hg]
  refine .inl ?_
  unfold Oper.wp
  rw [ha.eval, hrun]
  exact h _ (ha.upd d hd v)
/-- What an operation answers, the world left alone. -/
def Ans (P : Program) (ρ : Rho) (w : World) (op : Op) (v : Value) : Prop := ∀ dst ty pos af gd, (execOp (ev ρ) ⟨dst, op, ty, pos, af, gd⟩).run P w = .ok (.value v) w
theorem wl_q {d : Nat} {op : Op} {ty : TypeId} {pos : String} {af : Array Edge} {gd : Option (Nat × Bool)} {v : Value} (A : Ans P ρ w op v) (hg : gok l0 ρ gd = true) (hd : Nat.blt d n = true)
    (h : wl P n l0 rest Q (upd ρ d v) w) : wl P n l0 (⟨some d, op, ty, pos, af, gd⟩ :: rest) Q ρ w := wl_val hg hd (A _ _ _ _ _) h
/-- One whose value nobody keeps. -/
theorem wl_val0 {op : Op} {ty : TypeId} {pos : String} {af : Array Edge} {gd : Option (Nat × Bool)} {v : Value} {w' : World} (hg : gok l0 ρ gd = true)
    (hrun : (execOp (ev ρ) ⟨none, op, ty, pos, af, gd⟩).run P w = .ok (.value v) w') (h : wl P n l0 rest Q ρ w') : wl P n l0 (⟨none, op, ty, pos, af, gd⟩ :: rest) Q ρ w := by
  unfold wl at *
  intro a ha
  unfold wpList
  rw [gok_wanted ha]
  rw [if_pos hg]
  refine .inl ?_
  unfold Oper.wp
  rw [ha.eval, hrun]
  exact h _ ha
/-- One that answers nothing: a store. -/
theorem wl_unit {op : Op} {ty : TypeId} {pos : String} {af : Array Edge} {gd : Option (Nat × Bool)} {w' : World} (hg : gok l0 ρ gd = true)
    (hrun : (execOp (ev ρ) ⟨none, op, ty, pos, af, gd⟩).run P w = .ok .skip w') (h : wl P n l0 rest Q ρ w') : wl P n l0 (⟨none, op, ty, pos, af, gd⟩ :: rest) Q ρ w := by
  unfold wl at *
  intro a ha
  unfold wpList
  rw [gok_wanted ha]
  rw [if_pos hg]
  refine .inl ?_
  unfold Oper.wp
  rw [ha.eval, hrun]
  exact h _ ha
/-- One whose guard says no. -/
theorem wl_skip {d : Nat} {op : Op} {ty : TypeId} {pos : String} {af : Array Edge} {gd : Option (Nat × Bool)} (hg : gok l0 ρ gd = false) (hd : Nat.blt d n = true)
    (h : wl P n l0 rest Q (upd ρ d undef) w) : wl P n l0 (⟨some d, op, ty, pos, af, gd⟩ :: rest) Q ρ w := by
  unfold wl at *
  intro a ha
  unfold wpList
  rw [gok_wanted ha]
  rw [if_neg (by simp [hg])]
  exact h _ (ha.upd d hd undef)
theorem wl_skip0 {op : Op} {ty : TypeId} {pos : String} {af : Array Edge} {gd : Option (Nat × Bool)} (hg : gok l0 ρ gd = false)
    (h : wl P n l0 rest Q ρ w) : wl P n l0 (⟨none, op, ty, pos, af, gd⟩ :: rest) Q ρ w := by
  unfold wl at *
  intro a ha
  unfold wpList
  rw [gok_wanted ha]
  rw [if_neg (by simp [hg])]
  exact h _ ha
/-- A Bool that is not known: both ways. -/
theorem wl_split {l : List Oper} (t : Nat) (b : Bool) (ht : ρ t = .bool b) (h1 : b = true → wl P n l0 l Q (upd ρ t (.bool true)) w) (h2 : b = false → wl P n l0 l Q (upd ρ t (.bool false)) w) : wl P n l0 l Q ρ w := by
  cases b with
  | true => have := h1 rfl; rwa [upd_self ht] at this
  | false => have := h2 rfl; rwa [upd_self ht] at this
theorem wl_splitD {l : List Oper} (t : Nat) {p : Prop} {dp : Decidable p} (ht : ρ t = .bool (@decide p dp)) (h1 : p → wl P n l0 l Q (upd ρ t (.bool true)) w) (h2 : ¬ p → wl P n l0 l Q (upd ρ t (.bool false)) w) : wl P n l0 l Q ρ w :=
  wl_split t _ ht (fun h => h1 (of_decide_eq_true h)) (fun h => h2 (of_decide_eq_false h))
/-- A temporary is given another spelling of what it holds. -/
theorem wl_re {l : List Oper} (t : Nat) (v : Value) (ht : ρ t = v) (h : wl P n l0 l Q (upd ρ t v) w) : wl P n l0 l Q ρ w := by
  rwa [upd_self ht] at h
theorem W_re {c : Code} (t : Nat) (v : Value) (ht : ρ t = v) (h : W P n c Q (upd ρ t v) w) : W P n c Q ρ w := by
  rwa [upd_self ht] at h
/-- Only the temporaries of K are still wanted. -/
theorem W_cut {c : Code} (K : List (Nat × Value)) (hK : AgreeL ρ K) (h : ∀ ρ', W P n c Q (updL ρ' K) w) : W P n c Q ρ w := by
  have := h ρ
  rwa [updL_self hK] at this

section
variable {d : Nat} {ty : TypeId} {pos : String} {af : Array Edge} {gd : Option (Nat × Bool)}

theorem r_move {x : Operand} (v : Value) (hx : ev ρ x = v) : Ans P ρ w (.move x) v := fun dst ty pos af gd => (by rw [← hx]; rfl)
theorem r_assign {x : Operand} (v : Value) (hx : ev ρ x = v) : Ans P ρ w (.assign x) v := fun dst ty pos af gd => (by rw [← hx]; rfl)
theorem r_pick {c x y : Operand} (b : Bool) (v : Value) (hc : ev ρ c = .bool b) (hv : (bif b then ev ρ x else ev ρ y) = v) : Ans P ρ w (.pick c x y) v := fun dst ty pos af gd => (by subst hv; cases b <;> simp [execOp, hc, asBool])
/-- The operations on two whole numbers that cannot fail. -/
def ibin (op : BinOp) (k : IntKind) (a b : Int) : Option Value :=
  match op with
  | .add => some (.int k (k.wrap (a + b)))
  | .sub => some (.int k (k.wrap (a - b)))
  | .mul => some (.int k (k.wrap (a * b)))
  | .and => some (.int k (k.wrap ((BitVec.ofInt k.bits a &&& BitVec.ofInt k.bits b).toNat)))
  | .or => some (.int k (k.wrap ((BitVec.ofInt k.bits a ||| BitVec.ofInt k.bits b).toNat)))
  | .xor => some (.int k (k.wrap ((BitVec.ofInt k.bits a ^^^ BitVec.ofInt k.bits b).toNat)))
  | .andNot => some (.int k (k.wrap ((BitVec.ofInt k.bits a &&& ~~~ BitVec.ofInt k.bits b).toNat)))
  | .eql => some (.bool (decide (a = b)))
  | .neq => some (.bool (decide (¬ a = b)))
  | .lss => some (.bool (decide (a < b)))
  | .leq => some (.bool (decide (a ≤ b)))
  | .gtr => some (.bool (decide (b < a)))
  | .geq => some (.bool (decide (b ≤ a)))
  | _ => none
theorem eqGuard_int (op : BinOp) (t : TypeId) (x y : Operand) (k k' : IntKind) (a b : Int) (w : World) : (eqGuard op t x y (.int k a) (.int k' b)).run P w = .ok () w := by
  cases op <;> rfl
theorem binOp_int (op : BinOp) (t : TypeId) (k : IntKind) (a b : Int) (v : Value) (h : ibin op k a b = some v) (w : World) : (binOp op t (.int k a) (.int k b)).run P w = .ok v w := by
  cases op <;> simp only [ibin, Option.some.injEq, reduceCtorEq] at h <;> subst h <;> simp [binOp, Op.intArith, Op.intBits, Op.intCmp, bne, Int.instDecidableEq]
  all_goals first
    | rfl
    | (congr 1; exact (Bool.decide_coe _).symm ▸ rfl)
    | (by_cases e : a = b <;> simp [e])
theorem r_bin {op : BinOp} {t t' : TypeId} {x y : Operand} {k : IntKind} {a b : Int} (v : Value) (hx : ev ρ x = .int k a) (hy : ev ρ y = .int k b) (hv : ibin op k a b = some v) : Ans P ρ w (.binOp op t x y t') v := fun dst ty pos af gd => (by simp only [execOp, hx, hy, Sem.run_bind, eqGuard_int, Result.andThen_ok, binOp_int op t k a b v hv, Sem.run_pure])
theorem r_quo {t t' : TypeId} {x y : Operand} {k : IntKind} {a b : Int} (hx : ev ρ x = .int k a) (hy : ev ρ y = .int k b) (hb : b ≠ 0) : Ans P ρ w (.binOp .quo t x y t') (.int k (k.wrap (a.tdiv b))) := fun dst ty pos af gd => (by simp [execOp, hx, hy, eqGuard_int, binOp, Op.intDiv, hb])
theorem r_rem {t t' : TypeId} {x y : Operand} {k : IntKind} {a b : Int} (hx : ev ρ x = .int k a) (hy : ev ρ y = .int k b) (hb : b ≠ 0) : Ans P ρ w (.binOp .rem t x y t') (.int k (a.tmod b)) := fun dst ty pos af gd => (by simp [execOp, hx, hy, eqGuard_int, binOp, Op.intDiv, hb])
theorem r_shl {t t' : TypeId} {x y : Operand} {k k' : IntKind} {a b : Int} (hx : ev ρ x = .int k a) (hy : ev ρ y = .int k' b) (hb : 0 ≤ b) : Ans P ρ w (.binOp .shl t x y t') (.int k (k.wrap (a * 2 ^ (min b.toNat k.bits)))) := fun dst ty pos af gd => (by simp [execOp, hx, hy, eqGuard_int, binOp, Op.shift, show ¬ b < 0 by omega])
theorem r_shr {t t' : TypeId} {x y : Operand} {k k' : IntKind} {a b : Int} (hx : ev ρ x = .int k a) (hy : ev ρ y = .int k' b) (hb : 0 ≤ b) : Ans P ρ w (.binOp .shr t x y t') (.int k (a.fdiv (2 ^ (min b.toNat k.bits)))) := fun dst ty pos af gd => (by simp [execOp, hx, hy, eqGuard_int, binOp, Op.shift, show ¬ b < 0 by omega])
theorem r_not {t : TypeId} {x : Operand} {p : Prop} {dp : Decidable p} (hx : ev ρ x = .bool (@decide p dp)) : Ans P ρ w (.unOp .not t x) (.bool (decide (¬ p))) := fun dst ty pos af gd => (by simp [execOp, hx, Op.unary])
theorem r_notB {t : TypeId} {x : Operand} {b : Bool} (v : Bool) (hx : ev ρ x = .bool b) (hv : (!b) = v) : Ans P ρ w (.unOp .not t x) (.bool v) := fun dst ty pos af gd => (by subst hv; simp [execOp, hx, Op.unary])
theorem r_neg {t : TypeId} {x : Operand} {k : IntKind} {a : Int} (hx : ev ρ x = .int k a) : Ans P ρ w (.unOp .neg t x) (.int k (k.wrap (- a))) := fun dst ty pos af gd => (by simp [execOp, hx, Op.unary, Op.intArith])
theorem r_conv {s t : TypeId} {x : Operand} {k k' : IntKind} {a : Int} (hs : (P.underlying s).isSome = true) (ht : P.underlying t = some (.int k')) (hx : ev ρ x = .int k a) : Ans P ρ w (.convert s t x) (.int k' (k'.wrap a)) := by
  intro dst ty pos af gd
  obtain ⟨ds, hs'⟩ := Option.isSome_iff_exists.1 hs
  cases ds <;> simp [execOp, convert, underlying, hs', ht, hx, Conv.intToInt]
theorem r_extract {x : Operand} {i : Nat} {l : List Value} (v : Value) (hx : ev ρ x = .tuple l.toArray) (hv : l[i]? = some v) : Ans P ρ w (.extract x i) v := fun dst ty pos af gd => (by simp [execOp, hx, Instr.extract, hv])
theorem r_makeFunc {fn : Fn} {first cap : List Operand} : Ans P ρ w (.makeFunc fn first.toArray cap.toArray) (.func fn (first.map (ev ρ)).toArray (cap.map (ev ρ)).toArray) := fun dst ty pos af gd => (by simp [execOp, Instr.makeFunc])
theorem r_lenS {x : Operand} {t : TypeId} {e : TypeId} {A : Option Addr} {m c : Nat} (ht : P.underlying t = some (.slice e)) (hx : ev ρ x = .slice A m c) : Ans P ρ w (.call ⟨.builtin .len, [x].toArray, [t].toArray⟩) (.int .i64 (m : Int)) := fun dst ty pos af gd => (by simp [execOp, hx, resolve, invoke, builtin, Builtin.len_, underlying, ht, goInt])
theorem r_lenStr {x : Operand} {t : TypeId} {s : ByteArray} (ht : P.underlying t = some .string) (hx : ev ρ x = .string s) : Ans P ρ w (.call ⟨.builtin .len, [x].toArray, [t].toArray⟩) (.int .i64 (s.size : Int)) := fun dst ty pos af gd => (by simp [execOp, hx, resolve, invoke, builtin, Builtin.len_, underlying, ht, goInt])
theorem r_nilCheck {x : Operand} {a : Addr} (hx : ev ρ x = .pointer (some a)) : Ans P ρ w (.nilCheck x) (.pointer (some a)) := fun dst ty pos af gd => (by simp [execOp, hx])
/-- A call of a Go function. -/
theorem wl_call {x : Operand} {args : List Operand} {ts : Array TypeId} {f : FuncId} {first cap : List Value} {fn : Func} (hf : P.funcs[f]? = some fn) (hb : fn.body.isNone = false) (hnm : (fn.name == "runtime.NumGoroutine") = false)
    (hg : gok l0 ρ gd = true) (hd : Nat.blt d n = true) (hx : ev ρ x = .func (.func f) first.toArray cap.toArray)
    (h : Calls P f (first ++ args.map (ev ρ) ++ cap).toArray w (fun e w' => ∃ v, e = .returned v ∧ wl P n l0 rest Q (upd ρ d v) w')) :
    wl P n l0 (⟨some d, .call ⟨.value x, args.toArray, ts⟩, ty, pos, af, gd⟩ :: rest) Q ρ w := by
  unfold wl at *
  intro a ha
  unfold wpList
  rw [gok_wanted ha]
  rw [if_pos hg]
  refine .inl ?_
  unfold Oper.wp
  rw [ha.eval]
  have : (execOp (ev ρ) ⟨some d, .call ⟨.value x, args.toArray, ts⟩, ty, pos, af, gd⟩).run P w = .ok (.enter f (first ++ args.map (ev ρ) ++ cap).toArray) w := by
    have hb' : ¬ fn.body = Option.none := by intro e; rw [e] at hb; cases hb
    have hnm' : ¬ fn.name = "runtime.NumGoroutine" := by simpa using hnm
    simp [execOp, hx, resolve, Deferred.ofValue, invoke, callFunc, hf, hnm', hb']
  rw [this]
  refine Calls.mono h ?_
  rintro e w' ⟨v, rfl, hv⟩
  exact hv _ (ha.upd d hd v)
end
end
end Go.Bil
