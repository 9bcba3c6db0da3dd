/- Part of the proof of the laws of this seat: M26. No conditions. -/
import Derived.Test.YtaoaknafiegfoaaGreatDoorK2
import Derived.Test.YtaoaknafiegfoaaGreatDoorK5
import Derived.Test.YtaoaknafiegfoaaGreatDoorK29
import Derived.Test.YtaoaknafiegfoaaGreatDoorK18
import Derived.Test.YtaoaknafiegfoaaGreatDoorK13
set_option linter.unusedVariables false
set_option linter.unusedSimpArgs false
set_option linter.unnecessarySimpa false
namespace Go.Proofs.YtaoaknafiegfoaaGreatDoor
open Go.Bil
open Go.RowKit (Below)
open Go.Proofs
set_option maxHeartbeats 4000000 in
theorem aAv (w : World) (b : Body) :
  Calls Tryz.prog 111 #[(.agg (aF b).toArray)] w (fun ex w' => ∃ v, ex = .returned v ∧ (fun v w' => v = .bool (decide (b.mass = 0)) ∧ Below w.heap.size w w') v w') := by
 refine aH #[.tmp 2] 6 Tryz.func111 rfl Tryz.results111 Tryz.ntmps111 rfl ?_
 have M0 := Mem.refl w
 refine aD (aA (bG (.agg (List.toArray _)) M0 rfl rfl rfl (fun b1 w1 M1 => (wq (aI (.bool false) rfl) rfl (aB (aC (aD (aA (wq (aE 4 fB rfl) rfl (wq (aL 0 (.int _ _) aU M1 rfl rfl rfl) rfl ?_))))))))))
 refine dA rfl rfl rfl rfl (wq (aI (.bool (decide _)) rfl) rfl (aB (aC (aM (bW (.bool (decide _)) rfl ?_)))))
 exact ⟨rfl, M1.below⟩
end Go.Proofs.YtaoaknafiegfoaaGreatDoor
