/- Part of the proof of the laws of this seat: FwX. No conditions. -/
import Derived.Test.YtmcddmhkjcgneaaGreatDoorK26
import Derived.ScopeJumps
/- A scope in which the run jumps back to one label. -/
set_option linter.unusedVariables false
set_option linter.unusedSimpArgs false
namespace Go.Bil
section
variable {P : Program} {n : Nat} {Q : Exit → Rho → World → Prop} {ρ : Rho} {w : World}
def jumpQ (l : Nat) (J : Rho → World → Prop) (Q : Exit → Rho → World → Prop) : Exit → Rho → World → Prop
  | .goto l', ρ, w => l' = l ∧ J ρ w
  | e, ρ, w => Q e ρ w
theorem jumpR {l : Nat} {J : Rho → World → Prop} (h : Q .ret ρ w) : jumpQ l J Q .ret ρ w := h
theorem jumpG {l : Nat} {J : Rho → World → Prop} (h : J ρ w) : jumpQ l J Q (.goto l) ρ w := ⟨rfl, h⟩
theorem thenG {l : Nat} {K : Rho → World → Prop} (h : Q (.goto l) ρ w) : thenQ K Q (.goto l) ρ w := h
/-- A whole number that a temporary holds, as a measure. -/
def tmpN (t : Nat) (ρ : Rho) : Nat := match ρ t with
  | .int _ z => z.toNat
  | _ => 0
theorem tmpN_eq {t : Nat} {k : IntKind} {z : Int} (h : ρ t = .int k z) : tmpN t ρ = z.toNat := by unfold tmpN; rw [h]
theorem lift_jump {l : Nat} {J : Rho → World → Prop} {e : Exit} {a : Act} (h : lift n (jumpQ l J Q) e a w) : Exit.jump l (lift n (fun _ => J) .normal) (lift n Q) e a w := by
  obtain ⟨ρ, ha, hq⟩ := h
  cases e with
  | goto l' => exact ⟨hq.1, ρ, ha, hq.2⟩
  | _ => exact ⟨ρ, ha, hq⟩
theorem W_scope {c rest : Code} (l : Nat) (J : Rho → World → Prop) (μ : Rho → Nat) (hf : findLabel c l = some rest) (first : W P n c (jumpQ l J Q) ρ w) (pass : ∀ ρ w, J ρ w → W P n rest (jumpQ l (fun ρ' w' => J ρ' w' ∧ μ ρ' < μ ρ) Q) ρ w) : W P n (.scope c) Q ρ w := by
  have fr : ∀ {a : Act} {ρ : Rho}, Agree n a ρ → ρ = fun t => a.tmps.getD t undef := fun ha => funext fun t => (ha.at_ t).symm
  unfold W at *
  intro a ha
  refine wp_scope_jumps l (lift n (fun _ => J) .normal) (fun a _ => μ (fun t => a.tmps.getD t undef)) hf (Code.wp_mono (fun e a w h => lift_jump h) (first a ha)) ?_
  rintro a w ⟨ρ, ha, hJ⟩
  refine Code.wp_mono (fun e a' w' h => ?_) (pass ρ w hJ a ha)
  obtain ⟨ρ', ha', hq⟩ := h
  cases e with
  | goto l' =>
    refine ⟨hq.1, ⟨ρ', ha', hq.2.1⟩, ?_⟩
    have h2 := hq.2.2
    rw [fr ha, fr ha'] at h2
    exact h2
  | _ => exact ⟨ρ', ha', hq⟩
end
end Go.Bil
