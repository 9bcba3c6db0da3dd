/- Part of the proof of the laws of this seat: M26. No conditions. -/
import Derived.Test.YtmcddmhkjcgneaaGreatDoorK5
import Derived.Test.YtmcddmhkjcgneaaGreatDoorK25
import Derived.Test.YtmcddmhkjcgneaaGreatDoorK16
import Derived.Test.YtmcddmhkjcgneaaGreatDoorK26
/- Walks of Go functions over the frame of this claim: what each computes, for every input of the stated types (M26). -/
set_option linter.unusedVariables false
set_option linter.unusedSimpArgs false
set_option linter.unnecessarySimpa false
namespace Go.Proofs.YtmcddmhkjcgneaaGreatDoor
open Go.Bil
open Go.RowKit (Below)
open Go.Proofs

set_option maxHeartbeats 4000000 in
theorem body_IsStatic (w : World) (b : Body) :
    Calls Tryz.prog 50 #[(.agg (bodyCells b).toArray)] w (fun ex w' => ∃ v, ex = .returned v ∧ (fun v w' => v = .bool (decide (b.mass = 0)) ∧ Below w.heap.size w w') v w') := by
  refine calls_of_W #[.tmp 2] 6 Tryz.func50 rfl Tryz.results50 Tryz.ntmps50 rfl ?_
  have M0 := Mem.refl w
  refine W_seq ?_
  refine W_region ?_
  refine wl_box (.agg (List.toArray _)) M0 rfl rfl rfl (fun b1 w1 M1 => ?_)
  refine wl_q (r_assign (.bool false) rfl) rfl rfl ?_
  refine wl_nil ?_
  refine thenN ?_
  refine W_seq ?_
  refine W_region ?_
  refine wl_q (r_fieldAddr 4 fld32_3 rfl) rfl rfl ?_
  refine wl_q (r_ld 0 (.int _ _) one21 M1 rfl rfl rfl) rfl rfl ?_
  refine wl_q (r_bin (.bool (decide _)) rfl rfl rfl) rfl rfl ?_
  refine wl_q (r_assign (.bool (decide _)) rfl) rfl rfl ?_
  refine wl_nil ?_
  refine thenN ?_
  refine W_ret ?_
  skip
  refine fin1 (.bool (decide _)) rfl ?_
  exact ⟨rfl, M1.below⟩

end Go.Proofs.YtmcddmhkjcgneaaGreatDoor
