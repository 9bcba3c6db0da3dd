/- Part of the proof of the laws of this seat: M26. No conditions. -/
import Derived.Test.YtlmcphcgiclanaaGreatDoorK2
import Derived.Test.YtlmcphcgiclanaaGreatDoorK5
import Derived.Test.YtlmcphcgiclanaaGreatDoorK29
import Derived.Test.YtlmcphcgiclanaaGreatDoorK18
import Derived.Test.YtlmcphcgiclanaaGreatDoorK13
set_option linter.unusedVariables false
set_option linter.unusedSimpArgs false
set_option linter.unnecessarySimpa false
namespace Go.Proofs.YtlmcphcgiclanaaGreatDoor
open Go.Bil
open Go.RowKit (Below)
open Go.Proofs
set_option maxHeartbeats 4000000 in
theorem aAk (w : World) (b : Body) :
  Calls Tryz.prog 84 #[(.agg (aF b).toArray)] w (fun ex w' => ∃ v, ex = .returned v ∧ (fun v w' => v = .bool (decide (b.mass = 0)) ∧ Below w.heap.size w w') v w') := by
 refine aH #[.tmp 2] 6 Tryz.func84 rfl Tryz.results84 Tryz.ntmps84 rfl ?_
 have M0 := Mem.refl w
 refine aD (aA (bK (.agg (List.toArray _)) M0 rfl rfl rfl (fun b1 w1 M1 => (wq (aI (.bool false) rfl) rfl (aB (aC (aD (aA (wq (aE 4 fF rfl) rfl (wq (aM 0 (.int _ _) aU M1 rfl rfl rfl) rfl ?_))))))))))
 refine cT rfl rfl rfl rfl (wq (aI (.bool (decide _)) rfl) rfl (aB (aC (aN (cC (.bool (decide _)) rfl ?_)))))
 exact ⟨rfl, M1.below⟩
end Go.Proofs.YtlmcphcgiclanaaGreatDoor
