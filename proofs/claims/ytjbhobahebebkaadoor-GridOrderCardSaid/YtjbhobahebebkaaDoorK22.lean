/- Part of the proof of the laws of this seat: FwU, FwV, FwY. No conditions. -/
import Derived.Test.YtjbhobahebebkaaDoorK11
import Derived.Laws.MakeOwn
/- A slice that is made with a length: as many zero elements. -/
set_option linter.unusedVariables false
set_option linter.unusedSimpArgs false
namespace Go.Bil
end Go.Bil

/- A region whose order is open in several places: a plan is a tree, and every way is walked. -/
set_option linter.unusedVariables false
set_option linter.unusedSimpArgs false
namespace Go.Bil
open Go.RowKit (Below)
inductive Pl where
  | done : Pl
  | op (i k : Nat) (r : Pl) : Pl
  | fork (i j : Nat) (ri rj : Pl) : Pl
def Pl.len : Pl → Nat
  | .done => 0
  | .op _ _ r => r.len + 1
  | .fork _ _ ri _ => ri.len + 1
section
variable {P : Program} {n : Nat} {Q : Exit → Rho → World → Prop} {ρ : Rho} {w : World} {l0 rest : List Oper}
variable {d : Nat} {op : Op} {ty : TypeId} {pos : String} {af : Array Edge} {gd : Option (Nat × Bool)}
/-- An operation that acts, and what then goes on. -/
def Ac (P : Program) (n : Nat) (l0 : List Oper) (R : Pend → Rho → World → Prop) (i : Nat) (pend : Pend) (ρ : Rho) (w : World) : Prop :=
  ∃ o, nthO l0 i = some o ∧ wl P n l0 [o] (thenQ (fun ρ' w' => allP (leftL l0 i pend) w' ∧ R (leftL l0 i pend) ρ' w') (fun _ _ _ => False)) ρ w
def T (P : Program) (n : Nat) (l0 : List Oper) (Q : Exit → Rho → World → Prop) : Pl → Pend → Rho → World → Prop
  | .done, _, ρ, w => Q .normal ρ w
  | .op i 0 r, pend, ρ, w => ∃ o d v, nthO l0 i = some o ∧ o.dst = some d ∧ Nat.blt d n = true ∧ (∀ w', Yl P l0 o ρ v w') ∧ T P n l0 Q r pend (upd ρ d v) w
  | .op i 2 r, pend, ρ, w => Ac P n l0 (fun pend ρ w => T P n l0 Q r pend ρ w) i pend ρ w
  | .op i _ r, pend, ρ, w => ∃ o d v, nthO l0 i = some o ∧ o.dst = some d ∧ Nat.blt d n = true ∧ Yl P l0 o ρ v w ∧ T P n l0 Q r ((i, fun w' => Yl P l0 o ρ v w') :: pend) (upd ρ d v) w
  | .fork i j ri rj, pend, ρ, w => Ac P n l0 (fun pend ρ w => T P n l0 Q ri pend ρ w) i pend ρ w ∧ Ac P n l0 (fun pend ρ w => T P n l0 Q rj pend ρ w) j pend ρ w
end
end Go.Bil

/- Where ways meet behind a part whose continuation is already known. -/
set_option linter.unusedVariables false
set_option linter.unusedSimpArgs false
namespace Go.Bil
section
variable {P : Program} {n : Nat} {Q : Exit → Rho → World → Prop} {ρ : Rho} {w : World}
theorem W_meetC {σ : Type} {x y : Code} (K : List Nat) (fr : σ → List (Nat × Value)) (I : σ → World → Prop) (hx : W P n x (meetQ K ρ fr I Q) ρ w) (hy : ∀ s ρ' w', I s w' → W P n y Q (updL (keep K ρ ρ') (fr s)) w') : W P n x (thenQ (W P n y Q) Q) ρ w :=
  W_mono hx fun e ρ' w' hq => by
    cases e <;> first | exact hq | skip
    obtain ⟨s, h1, h2, h3⟩ := hq
    have := hy s ρ' w' h3
    rw [keep_self h2, updL_self h1] at this
    exact this
end
end Go.Bil
