/- Part of the proof of the laws of this seat: Gl. No conditions. -/
import Derived.Test.YtjbhobahebebkaaDoorK5
import Derived.Test.YtjbhobahebebkaaDoorRows
import Derived.Test.YtjbhobahebebkaaDoorK16
import Derived.Test.YtjbhobahebebkaaDoorK3
import Derived.WalkKit
import Derived.ProofKit
import Derived.Handed
import Derived.ChangeVars
import Derived.JoinedOf
import Derived.LaidLaws
import Derived.Stop.LaidErr
import Derived.Lib.LaidTab
/- What the package-level variables box.none and cell.factors hold when the rows' calls begin, and a world in which they hold it. No conditions. -/
set_option linter.unusedVariables false
set_option linter.unusedSimpArgs false
set_option linter.unnecessarySimpa false
namespace Go.Proofs.YtjbhobahebebkaaDoor
open Go.Bil
open Go.RowKit (Below)
open Go.Proofs

open Go.ChangeShapes Go.WideShapes Go.ChangeAt Go.RowKit
theorem gF : Tryd.prog.globalNamed "billiard/cell.factors" = some 0 := by kernel_rfl
theorem gFt : (Tryd.prog.globals[0]?).map (·.type) = some 91 := by kernel_rfl
theorem cellsF_ : Tryd.prog.cellsOf 91 = 2 := by kernel_rfl
theorem cellsU_ : Tryd.prog.cellsOf 42 = 1 := by kernel_rfl
def laidL : List (String × DataW Unit) := [("billiard/cell.factors", Rows.laid_billiard_cell_factors)]
theorem fac_of_laid {W : World} (h : laidMet Tryd.prog laidL W) : W.var? Tryd.prog "billiard/cell.factors" = some #[.int .u32 73856093, .int .u32 19349663] :=
  Lib.tabIs_of_head (k := .u32) (zs := [73856093, 19349663]) gF gFt Tryd.underlying91 Tryd.underlying42 cellsU_ cellsF_ h
theorem rd_of_var {P : Program} {W : World} {n : String} {g sz : Nat} {l : List Value} (hg : P.globalNamed n = some g) (h : W.var? P n = some l.toArray) (hl : l.length = sz) : Rd W sz (some ⟨g, 0, none⟩) 1 [l] := by
  simp only [World.var?, hg, Option.bind_some] at h
  split at h
  · rename_i cs t fr hb
    injection h with h
    subst h
    refine ⟨rfl, by simp [hl], by omega, fun _ => ⟨g, 0, rfl, (Array.getElem?_eq_some_iff.1 hb).1, fun i m hm => ?_⟩⟩
    obtain ⟨rfl, rfl⟩ : i = 0 ∧ m = l := by
      cases i with
      | zero => simpa using hm.symm
      | succ i => simp at hm
    simpa using Cells.of_heap hb (by simp)
  · cases h
theorem rdF {W : World} (h : laidMet Tryd.prog laidL W) : Rd W 2 (some ⟨0, 0, none⟩) 1 [[.int .u32 73856093, .int .u32 19349663]] := rd_of_var gF (fac_of_laid h) rfl
def setCells (cs : Array Value) : Obj → Obj
  | .cells _ t frozen => .cells cs t frozen
  | o => o
noncomputable def laidWorld (os : Os) : World :=
  { World.holding Tryd.prog os ⟨#[], #[], []⟩ with heap := (World.holding Tryd.prog os ⟨#[], #[], []⟩).heap.modify 0 (setCells #[.int .u32 73856093, .int .u32 19349663]) }

end Go.Proofs.YtjbhobahebebkaaDoor
