/- A region whose order is open: one walk in one order serves every order. What only looks is taken first; what it saw must still be so behind each operation that does not wait for it. -/
import Derived.Test.YtfgbmegchdjfeaaDoorFwF
set_option linter.unusedVariables false
set_option linter.unusedSimpArgs false
namespace Go.Bil
open Go.RowKit (Below)

section tree
variable {P : Program} {ops : Array Oper} {Qa : Act → World → Prop}
/-- j waits for i, at however many steps. -/
def dep (ops : Array Oper) : Nat → Nat → Nat → Bool
  | 0, _, _ => false
  | f + 1, j, i => match ops[j]? with
    | some o => o.after.toList.any fun e => Region.binds .any e && (e.on == i || dep ops f e.on i)
    | none => false
def depB (ops : Array Oper) (j i : Nat) : Bool := dep ops ops.size j i
def Closed (ops : Array Oper) (listed : Array Bool) : Prop := ∀ j o, ops[j]? = some o → listed.getD j false = true → ∀ e ∈ o.after, Region.binds .any e = true → listed.getD e.on false = true
abbrev Pend := List (Nat × (World → Prop))
def left (ops : Array Oper) (j : Nat) (pend : Pend) : Pend := pend.filter fun p => !depB ops j p.1
def exitQ (Qa : Act → World → Prop) : Exit → Act → World → Prop
  | .normal, a, w => Qa a w
  | _, _, _ => False

def Tr (P : Program) (ops : Array Oper) (Qa : Act → World → Prop) : Nat → Pend → Array Bool → Act → World → Prop
  | 0, _, listed, a, w => Region.ready .any ops listed = [] ∧ Qa a w
  | f + 1, pend, listed, a, w => (Region.ready .any ops listed = [] → Qa a w) ∧
      ∀ j ∈ Region.ready .any ops listed, wpOp P ops (exitQ Qa) j (fun a' w' => (∀ p ∈ left ops j pend, p.2 w') ∧ Tr P ops Qa f (left ops j pend) (listed.setIfInBounds j true) a' w') a w

theorem Tr_sub : ∀ (f : Nat) (pend pend' : Pend) (listed : Array Bool) (a : Act) (w : World), (∀ p ∈ pend', p ∈ pend ∨ ∀ w, p.2 w) → Tr P ops Qa f pend listed a w → Tr P ops Qa f pend' listed a w
  | 0, _, _, _, _, _, _, h => h
  | f + 1, pend, pend', listed, a, w, hs, h => ⟨h.1, fun j hj => wpOp_mono (fun a' w' ⟨h1, h2⟩ => by
      have hl : ∀ p ∈ left ops j pend', p ∈ left ops j pend ∨ ∀ w, p.2 w := fun p hp => by
        have hp' := List.mem_filter.1 hp
        rcases hs p hp'.1 with h | h
        · exact .inl (List.mem_filter.2 ⟨h, hp'.2⟩)
        · exact .inr h
      exact ⟨fun p hp => by rcases hl p hp with h | h; exact h1 p h; exact h w', Tr_sub f _ _ _ _ _ hl h2⟩) (h.2 j hj)⟩
theorem Tr_any : ∀ (f : Nat) (pend : Pend) (listed : Array Bool) (a : Act) (w : World), Tr P ops Qa f pend listed a w → wpAny P .any ops (exitQ Qa) f listed a w
  | 0, _, _, _, _, h => h
  | f + 1, pend, listed, a, w, h => ⟨h.1, fun j hj => wpOp_mono (fun a' w' h' => Tr_any f _ _ _ _ h'.2) (h.2 j hj)⟩

theorem not_listed {listed : Array Bool} {i : Nat} (h : listed.getD i true = false) : listed.getD i false = false := by
  rcases Nat.lt_or_ge i listed.size with h' | h'
  · simp [h'] at h ⊢; exact h
  · simp [Array.getElem?_eq_none h'] at h
theorem dep_listed {listed : Array Bool} (hc : Closed ops listed) : ∀ (f j i : Nat) (o : Oper), ops[j]? = some o → (∀ e ∈ o.after, Region.binds .any e = true → listed.getD e.on false = true) → dep ops f j i = true → listed.getD i false = true
  | 0, _, _, _, _, _, h => by simp [dep] at h
  | f + 1, j, i, o, ho, hd, h => by
    simp only [dep, ho] at h
    obtain ⟨e, he, h1⟩ := List.any_eq_true.1 h
    simp only [Bool.and_eq_true, Bool.or_eq_true, beq_iff_eq] at h1
    have hl := hd e (by simpa using he) h1.1
    rcases h1.2 with h2 | h2
    · rw [← h2]; exact hl
    · cases ho' : ops[e.on]? with
      | none => cases f <;> simp [dep, ho'] at h2
      | some o' => exact dep_listed hc f e.on i o' ho' (hc e.on o' ho' hl) h2
theorem Closed.set {listed : Array Bool} (hc : Closed ops listed) {j : Nat} (hj : j ∈ Region.ready .any ops listed) : Closed ops (listed.setIfInBounds j true) := by
  obtain ⟨_, oj, hoj, hall⟩ := mem_ready.1 hj
  intro k o ho hl e he hb
  by_cases hjk : j = k
  · subst hjk
    have : o = oj := Option.some.inj (ho.symm.trans hoj)
    subst this
    exact getD_set_true (hall e he hb)
  · rw [getD_set_ne false hjk] at hl
    exact getD_set_true (hc k o ho hl e he hb)

/-- The operation oi, wanted or not, in a frame: it answers v and leaves the world alone. -/
def Yi (P : Program) (ops : Array Oper) (o : Oper) (v : Value) (a : Act) (w : World) : Prop :=
  (Region.wanted o (yielded ops a.tmps) = true ∧ (execOp a.eval o).run P w = .ok (.value v) w) ∨ (Region.wanted o (yielded ops a.tmps) = false ∧ v = undef)
theorem Yi.wpOp {i : Nat} {o : Oper} {v : Value} {a : Act} {w : World} (hi : ops[i]? = some o) (hy : Yi P ops o v a w) {Q : Exit → Act → World → Prop} {K : Act → World → Prop} (h : K (a.put o.dst v) w) : wpOp P ops Q i K a w := by
  unfold Go.wpOp
  simp only [hi]
  rcases hy with ⟨hw, hv⟩ | ⟨hw, rfl⟩
  · simp only [hw, if_true, Oper.wp, hv, Oper.upon]; exact .inl h
  · simp only [hw, Bool.false_eq_true, if_false]; exact h

/-- Operation oj, apart from oi: it goes with oi's answer in its place as without; and oi sees what it saw. -/
theorem wpOp_apart {j : Nat} {oi oj : Oper} {v : Value} (hj : ops[j]? = some oj) (hap : oi.apart ops oj = true) (hsi : ∀ cs b, oi.op ≠ .select cs b) (hsj : ∀ cs b, oj.op ≠ .select cs b)
    {K : Act → World → Prop} {a : Act} {w : World} (h : wpOp P ops (exitQ Qa) j K (a.put oi.dst v) w) :
    wpOp P ops (exitQ Qa) j (fun a' w' => (execOp a'.eval oi = execOp a.eval oi ∧ Region.wanted oi (yielded ops a'.tmps) = Region.wanted oi (yielded ops a.tmps)) ∧ K (a'.put oi.dst v) w') a w := by
  obtain ⟨h1, h2, h3⟩ := Oper.apart_spec hap
  have keep : ∀ u, execOp (a.put oj.dst u).eval oi = execOp a.eval oi ∧ Region.wanted oi (yielded ops (a.put oj.dst u).tmps) = Region.wanted oi (yielded ops a.tmps) := fun u =>
    ⟨execOp_put oi hsi a oj.dst u h3, wanted_put oi a oj.dst u h3⟩
  unfold wpOp at h ⊢
  simp only [hj] at h ⊢
  rw [wanted_put oj a oi.dst v h1] at h
  split
  · rename_i hw
    simp only [hw, if_true] at h
    rcases h with h | ⟨_, _, _, hlets⟩
    · refine .inl ?_
      unfold Oper.wp at h ⊢
      rw [execOp_put oj hsj a oi.dst v h1] at h
      generalize (execOp a.eval oj).run P w = r at h ⊢
      cases r with
      | ok nx w' =>
        cases nx <;> simp only [Oper.upon] at h ⊢
        case value u => exact ⟨keep u, by rw [← Act.put_comm a v u h2]; exact h⟩
        case skip => exact ⟨keep _, by rw [← Act.put_comm a v undef h2]; exact h⟩
        case defer d =>
          refine ⟨?_, ?_⟩
          · have e1 : ({ a with defers := d :: a.defers } : Act).put oj.dst undef = { a.put oj.dst undef with defers := d :: a.defers } := by cases oj.dst <;> rfl
            rw [e1]
            exact keep undef
          · rw [← Act.put_comm _ v undef h2, ← Act.put_defers]
            exact h
        case enter f args =>
          refine Calls.mono h fun e w'' he => ?_
          cases e with
          | returned u => exact ⟨keep u, by rw [← Act.put_comm a v u h2]; exact he⟩
          | panicked c => exact he
          | outgrown => exact he
        case row row args => exact Rows.mono h fun u w'' he => ⟨keep u, by rw [← Act.put_comm a v u h2]; exact he⟩
      | halt x w' =>
        cases x <;> simp only [Oper.upon] at h ⊢
        exact h
    · exact hlets.elim
  · rename_i hw
    simp only [hw] at h
    exact ⟨keep _, by rw [← Act.put_comm a v undef h2]; exact h⟩

theorem Tr_read {i : Nat} {oi : Oper} {v : Value} {Y : World → Prop} (hi : ops[i]? = some oi) (hsel : Region.noSelect ops = true) :
    ∀ (f : Nat) (pend : Pend) (listed : Array Bool) (a : Act) (w : World),
      (∀ j oj, ops[j]? = some oj → j ≠ i → listed.getD j true = false → (∀ e ∈ oj.after, Region.binds .any e = true → e.on ≠ i) → oi.apart ops oj = true) →
      i ∈ Region.ready .any ops listed → Closed ops listed → (∀ p ∈ pend, p.2 w) → Y w → (∀ w', Y w' → Yi P ops oi v a w') →
      Tr P ops Qa f ((i, Y) :: pend) (listed.setIfInBounds i true) (a.put oi.dst v) w → Tr P ops Qa (f + 1) pend listed a w := by
  intro f
  induction f with
  | zero =>
    intro pend listed a w _ hr hc hp hy hY H
    refine ⟨fun h => (by rw [h] at hr; cases hr), fun j hj => ?_⟩
    by_cases hji : j = i
    · subst hji
      exact (hY w hy).wpOp hi ⟨fun p hp' => hp p (List.mem_filter.1 hp').1, H⟩
    · have := ready_mono hj hji
      rw [H.1] at this
      cases this
  | succ f ih =>
    intro pend listed a w hfree hr hc hp hy hY H
    refine ⟨fun h => (by rw [h] at hr; cases hr), fun j hj => ?_⟩
    by_cases hji : j = i
    · subst hji
      exact (hY w hy).wpOp hi ⟨fun p hp' => hp p (List.mem_filter.1 hp').1, Tr_sub _ _ _ _ _ _ (fun p hp' => .inl (List.mem_cons_of_mem _ (List.mem_filter.1 hp').1)) H⟩
    · have h1 := H.2 j (ready_mono hj hji)
      obtain ⟨hjun, oj, hoj, hall⟩ := mem_ready.1 hj
      have hiun := not_listed (mem_ready.1 hr).1
      have hnot : ∀ e ∈ oj.after, Region.binds .any e = true → e.on ≠ i := fun e he hb heq => by
        have h1 := hall e he hb
        rw [heq, hiun] at h1
        cases h1
      have hdep : depB ops j i = false := by
        cases hd : depB ops j i with
        | false => rfl
        | true =>
          have := dep_listed hc ops.size j i oj hoj hall hd
          rw [hiun] at this
          cases this
      have hleft : left ops j ((i, Y) :: pend) = (i, Y) :: left ops j pend := by simp [left, hdep]
      have h2 := wpOp_apart hoj (hfree j oj hoj hji hjun hnot) (fun cs b => Region.noSelect_spec hsel i oi cs b hi) (fun cs b => Region.noSelect_spec hsel j oj cs b hoj) h1
      have hfree' : ∀ k ok, ops[k]? = some ok → k ≠ i → (listed.setIfInBounds j true).getD k true = false →
          (∀ e ∈ ok.after, Region.binds .any e = true → e.on ≠ i) → oi.apart ops ok = true := fun k ok hk hki hun hno => by
        refine hfree k ok hk hki ?_ hno
        by_cases hjk : j = k
        · subst hjk; exact hjun
        · rw [getD_set_ne true hjk] at hun; exact hun
      refine wpOp_mono (fun a' w' h3 => ?_) h2
      obtain ⟨⟨e1, e2⟩, h4, h5⟩ := h3
      rw [hleft] at h4 h5
      refine ⟨fun p hp' => h4 p (List.mem_cons_of_mem _ hp'), ?_⟩
      refine ih (left ops j pend) (listed.setIfInBounds j true) a' w' hfree' (ready_mono hr (Ne.symm hji)) (hc.set hj) (fun p hp' => h4 p (List.mem_cons_of_mem _ hp')) (h4 (i, Y) (by simp)) (fun w'' hy'' => ?_) ?_
      · have := hY w'' hy''
        unfold Yi at this ⊢
        rw [e1, e2]
        exact this
      · rw [Array.setIfInBounds_comm _ _ hji]
        exact h5
theorem Tr_eff {i : Nat} {f : Nat} {pend : Pend} {listed : Array Bool} {a : Act} {w : World} (hr : Region.ready .any ops listed = [i])
    (h : wpOp P ops (exitQ Qa) i (fun a' w' => (∀ p ∈ left ops i pend, p.2 w') ∧ Tr P ops Qa f (left ops i pend) (listed.setIfInBounds i true) a' w') a w) : Tr P ops Qa (f + 1) pend listed a w :=
  ⟨fun h0 => (by rw [hr] at h0; cases h0), fun j hj => by
    rw [hr] at hj
    have : j = i := by simpa using hj
    subst this
    exact h⟩
end tree

/-- The plan: operation numbers with 0 (looks at nothing), 1 (looks), 2 (acts). -/
def planB (ops : Array Oper) : Array Bool → List (Nat × Nat) → Bool
  | listed, [] => (Region.ready .any ops listed).isEmpty
  | listed, (i, 2) :: r => decide (Region.ready .any ops listed = [i]) && planB ops (listed.setIfInBounds i true) r
  | listed, (i, _) :: r => (Region.ready .any ops listed).contains i && Region.free .any ops listed i && planB ops (listed.setIfInBounds i true) r
section walk
variable {P : Program} {n : Nat} {Q : Exit → Rho → World → Prop} {ρ : Rho} {w : World} {l0 : List Oper}
/-- The operation answers v, or is not wanted and leaves nothing. -/
def Yl (P : Program) (l0 : List Oper) (o : Oper) (ρ : Rho) (v : Value) (w : World) : Prop :=
  (gok l0 ρ o.guard = true ∧ (execOp (ev ρ) o).run P w = .ok (.value v) w) ∨ (gok l0 ρ o.guard = false ∧ v = undef)
def allP : List (Nat × (World → Prop)) → World → Prop
  | [], _ => True
  | p :: l, w => p.2 w ∧ allP l w
def leftL (l0 : List Oper) (j : Nat) : Pend → Pend
  | [] => []
  | p :: l => bif depB l0.toArray j p.1 then leftL l0 j l else p :: leftL l0 j l
theorem leftL_eq (j : Nat) : ∀ l : Pend, leftL l0 j l = left l0.toArray j l
  | [] => rfl
  | p :: l => by
    unfold leftL left
    rw [List.filter_cons]
    cases h : depB l0.toArray j p.1 with
    | true => simp [leftL_eq j l, left]
    | false => simp [leftL_eq j l, left]
theorem allP_spec : ∀ (l : Pend) (w : World), allP l w ↔ ∀ p ∈ l, p.2 w
  | [], w => by simp [allP]
  | p :: l, w => by simp [allP, allP_spec l w]

/-- What is to be shown, along the plan. -/
def D (P : Program) (n : Nat) (l0 : List Oper) (Q : Exit → Rho → World → Prop) : List (Nat × Nat) → Pend → Rho → World → Prop
  | [], _, ρ, w => Q .normal ρ w
  | (i, 0) :: r, pend, ρ, w => ∃ o d v, nthO l0 i = some o ∧ o.dst = some d ∧ Nat.blt d n = true ∧ (∀ w', Yl P l0 o ρ v w') ∧ D P n l0 Q r pend (upd ρ d v) w
  | (i, 2) :: r, pend, ρ, w => ∃ o, nthO l0 i = some o ∧ wl P n l0 [o] (thenQ (fun ρ' w' => allP (leftL l0 i pend) w' ∧ D P n l0 Q r (leftL l0 i pend) ρ' w') (fun _ _ _ => False)) ρ w
  | (i, _) :: r, pend, ρ, w => ∃ o d v, nthO l0 i = some o ∧ o.dst = some d ∧ Nat.blt d n = true ∧ Yl P l0 o ρ v w ∧ D P n l0 Q r ((i, fun w' => Yl P l0 o ρ v w') :: pend) (upd ρ d v) w

theorem Yl_Yi {a : Act} {o : Oper} {v : Value} (ha : Agree n a ρ) (h : Yl P l0 o ρ v w) : Yi P l0.toArray o v a w := by
  unfold Yl at h
  unfold Yi
  rw [gok_wanted ha, ha.eval]
  exact h

theorem D_tree (hsel : Region.noSelect l0.toArray = true) : ∀ (pl : List (Nat × Nat)) (pend : Pend) (listed : Array Bool) (ρ : Rho) (w : World) (a : Act), Agree n a ρ → planB l0.toArray listed pl = true → Closed l0.toArray listed → allP pend w → D P n l0 Q pl pend ρ w →
    Tr P l0.toArray (fun a w => lift n Q .normal a w) pl.length pend listed a w := by
  intro pl
  induction pl with
  | nil =>
    intro pend listed ρ w a ha hp hc hall h
    simp only [planB, List.isEmpty_iff] at hp
    exact ⟨hp, ρ, ha, h⟩
  | cons x pl ih =>
    intro pend listed ρ w a ha hp hc hall h
    obtain ⟨i, k⟩ := x
    have quiet : ∀ (o : Oper) (d : Nat) (v : Value) (Y : World → Prop) (pend' : Pend), ((Region.ready .any l0.toArray listed).contains i && Region.free .any l0.toArray listed i && planB l0.toArray (listed.setIfInBounds i true) pl) = true →
        nthO l0 i = some o → o.dst = some d → Nat.blt d n = true → Y w → (∀ w', Y w' → Yl P l0 o ρ v w') → (pend' = (i, Y) :: pend ∨ (pend' = pend ∧ ∀ w, Y w)) → D P n l0 Q pl pend' (upd ρ d v) w →
        Tr P l0.toArray (fun a w => lift n Q .normal a w) (pl.length + 1) pend listed a w := by
      intro o d v Y pend' hpl ho hd hdn hy hY hpend hD
      simp only [Bool.and_eq_true] at hpl
      obtain ⟨⟨h1, h2⟩, h3⟩ := hpl
      have hr : i ∈ Region.ready .any l0.toArray listed := by simpa using h1
      have hoi : l0.toArray[i]? = some o := by rw [nthO_eq] at ho; simpa using ho
      have ha' : Agree n (a.put o.dst v) (upd ρ d v) := by rw [hd]; exact ha.upd d hdn v
      have hall' : allP pend' w := by
        rcases hpend with rfl | ⟨rfl, _⟩
        · exact ⟨hy, hall⟩
        · exact hall
      have H := ih pend' (listed.setIfInBounds i true) (upd ρ d v) w (a.put o.dst v) ha' h3 (hc.set hr) hall' hD
      refine Tr_read hoi hsel pl.length pend listed a w (Region.free_spec hoi h2) hr hc ((allP_spec _ _).1 hall) hy (fun w' hy' => Yl_Yi ha (hY w' hy')) ?_
      refine Tr_sub _ pend' _ _ _ _ (fun p hp' => ?_) H
      rcases hpend with rfl | ⟨rfl, hall2⟩
      · exact .inl hp'
      · rcases List.mem_cons.1 hp' with rfl | h
        · exact .inr hall2
        · exact .inl h
    match k, hp, h with
    | 0, hp, h =>
      obtain ⟨o, d, v, h1, h2, h3, h4, h5⟩ := h
      exact quiet o d v (fun w' => Yl P l0 o ρ v w') pend hp h1 h2 h3 (h4 w) (fun _ h => h) (.inr ⟨rfl, h4⟩) h5
    | 1, hp, h =>
      obtain ⟨o, d, v, h1, h2, h3, h4, h5⟩ := h
      exact quiet o d v (fun w' => Yl P l0 o ρ v w') _ hp h1 h2 h3 h4 (fun _ h => h) (.inl rfl) h5
    | k + 3, hp, h =>
      obtain ⟨o, d, v, h1, h2, h3, h4, h5⟩ := h
      exact quiet o d v (fun w' => Yl P l0 o ρ v w') _ hp h1 h2 h3 h4 (fun _ h => h) (.inl rfl) h5
    | 2, hp, h =>
      obtain ⟨o, ho, h1⟩ := h
      simp only [planB, Bool.and_eq_true, decide_eq_true_eq] at hp
      obtain ⟨hr, hp'⟩ := hp
      have hoi : l0.toArray[i]? = some o := by rw [nthO_eq] at ho; simpa using ho
      refine Tr_eff hr ?_
      have hir : i ∈ Region.ready .any l0.toArray listed := by rw [hr]; simp
      have hc' := hc.set hir
      unfold wl at h1
      have h2 := h1 a ha
      unfold wpList at h2
      unfold wpOp
      simp only [hoi]
      have fin : ∀ a' w', lift n (thenQ (fun ρ' w' => allP (leftL l0 i pend) w' ∧ D P n l0 Q pl (leftL l0 i pend) ρ' w') (fun _ _ _ => False)) .normal a' w' →
          ((∀ p ∈ left l0.toArray i pend, p.2 w') ∧ Tr P l0.toArray (fun a w => lift n Q .normal a w) pl.length (left l0.toArray i pend) (listed.setIfInBounds i true) a' w') := by
        rintro a' w' ⟨ρ', ha', h3, h4⟩
        rw [leftL_eq] at h3 h4
        exact ⟨(allP_spec _ _).1 h3, ih _ _ ρ' w' a' ha' hp' hc' h3 h4⟩
      split
      · rename_i hw
        rw [if_pos hw] at h2
        rcases h2 with h2 | ⟨_, a0, w0, ρ0, _, h3⟩
        · refine .inl ?_
          unfold Oper.wp at h2 ⊢
          generalize (execOp a.eval o).run P w = r at h2 ⊢
          cases r with
          | ok nx w' =>
            cases nx <;> simp only [Oper.upon, wpList] at h2 ⊢ <;> first
              | exact fin _ _ h2
              | exact Calls.mono h2 (fun e w'' he => by
                  cases e with
                  | returned v => exact fin _ _ he
                  | panicked c => obtain ⟨_, _, h3⟩ := he; exact h3.elim
                  | outgrown => obtain ⟨_, _, _, _, h3⟩ := he; exact h3.elim)
              | exact Rows.mono h2 (fun _ _ he => fin _ _ he)
          | halt x w' =>
            cases x <;> simp only [Oper.upon] at h2 ⊢
            obtain ⟨_, _, h3⟩ := h2
            exact h3.elim
        · exact h3.elim
      · rename_i hw
        rw [if_neg hw] at h2
        exact fin _ _ h2

theorem W_draw1 {id : Nat} (pl : List (Nat × Nat)) (hm : P.follows .mixedOrders = true) (hlen : pl.length = l0.length) (hB : (Region.noSelect l0.toArray && planB l0.toArray (Array.replicate l0.length false) pl) = true)
    (h : D P n l0 Q pl [] ρ { w with drawn := w.drawn + 1 }) : W P n (.region id l0.toArray true) Q ρ w := by
  unfold W
  intro a ha
  simp only [Bool.and_eq_true] at hB
  refine wp_region_any hm ?_
  have hc : Closed l0.toArray (Array.replicate l0.length false) := fun j o _ hl => by
    rcases Nat.lt_or_ge j l0.length with h | h
    · simp [h] at hl
    · simp [Array.getElem?_eq_none (show (Array.replicate l0.length false).size ≤ j by simpa using h)] at hl
  have := Tr_any _ _ _ _ _ (D_tree (Q := Q) hB.1 pl [] (Array.replicate l0.length false) ρ { w with drawn := w.drawn + 1 } a ha hB.2 hc trivial h)
  rw [hlen] at this
  have e : l0.toArray.size = l0.length := by simp
  rw [e]
  have gen : ∀ (f : Nat) (listed : Array Bool) (a : Act) (w : World), wpAny P .any l0.toArray (exitQ fun a w => lift n Q .normal a w) f listed a w → wpAny P .any l0.toArray (lift n Q) f listed a w := by
    intro f
    induction f with
    | zero => intro listed a w h; exact h
    | succ f ih =>
      intro listed a w h
      refine ⟨h.1, fun i hi => ?_⟩
      have h2 := h.2 i hi
      unfold wpOp at h2 ⊢
      split
      · rename_i ho; simp only [ho] at h2; exact ih _ _ _ h2
      · rename_i o ho
        simp only [ho] at h2
        split
        · rename_i hw
          rw [if_pos hw] at h2
          rcases h2 with h2 | ⟨_, _, _, h3⟩
          · refine .inl ?_
            unfold Oper.wp at h2 ⊢
            generalize (execOp a.eval o).run P w = r at h2 ⊢
            cases r with
            | ok nx w' =>
              cases nx <;> simp only [Oper.upon] at h2 ⊢ <;> first
                | exact ih _ _ _ h2
                | exact Calls.mono h2 (fun e w'' he => by
                    cases e with
                    | returned v => exact ih _ _ _ he
                    | panicked c => exact he.elim
                    | outgrown => obtain ⟨_, _, h3⟩ := he; exact h3.elim)
                | exact Rows.mono h2 (fun _ _ he => ih _ _ _ he)
            | halt x w' =>
              cases x <;> simp only [Oper.upon] at h2 ⊢
              exact h2.elim
          · exact h3.elim
        · rename_i hw
          rw [if_neg hw] at h2
          exact ih _ _ _ h2
  exact gen _ _ _ _ this
theorem W_draw {id : Nat} (pl : List (Nat × Nat)) (hm : P.follows .mixedOrders = true) (hlen : pl.length = l0.length) (hB : (Region.noSelect l0.toArray && planB l0.toArray (Array.replicate l0.length false) pl) = true)
    (h : ∀ w', Below w.heap.size w w' → w'.heap = w.heap → D P n l0 Q pl [] ρ w') : W P n (.region id l0.toArray true) Q ρ w :=
  W_draw1 pl hm hlen hB (h _ ⟨rfl, rfl, rfl, Nat.le_refl _, fun _ _ => rfl⟩ rfl)

end walk
end Go.Bil
