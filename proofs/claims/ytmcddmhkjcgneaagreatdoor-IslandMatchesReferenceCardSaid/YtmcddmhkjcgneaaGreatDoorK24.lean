/- Part of the proof of the laws of this seat: W11, Aw11. No conditions. -/
import Derived.Test.YtmcddmhkjcgneaaGreatDoorK5
import Derived.Test.YtmcddmhkjcgneaaGreatDoorK21
import Derived.Test.YtmcddmhkjcgneaaGreatDoorK23
/- Walks of Go functions over the frame of this claim: what each computes, for every input of the stated types (W11). -/
set_option linter.unusedVariables false
set_option linter.unusedSimpArgs false
set_option linter.unnecessarySimpa false
namespace Go.Proofs.YtmcddmhkjcgneaaGreatDoor
open Go.Bil
open Go.RowKit (Below)
open Go.Proofs

set_option maxHeartbeats 4000000 in
theorem ref11_View (w : World) (A : Option Addr) (n c : Nat) (xs : List Body) (R : Rd w 10 A n (xs.map bodyCells)) :
    Calls Tryz.prog 14 #[.slice A n c] w (fun ex w' => ∃ v, ex = .returned v ∧ (fun v w' => ∃ r : Row, v = .tuple #[.slice r.A r.n r.c, .bool (decide (viewP xs))] ∧ RowIs 32 10 r.A r.n r.c ((viewL xs).map bodyCells) r.e ∧ Mem w [] [r.e] w') v w') := by
  have hlen : xs.length = n := by simpa using R.len
  have hbd := R.bound
  refine calls_of_W #[.tmp 2, .tmp 3] 17 Tryz.func14 rfl Tryz.results14 Tryz.ntmps14 rfl ?_
  have M0 := Mem.refl w
  refine W_seq ?_
  refine W_region ?_
  refine wl_q (r_assign (.slice _ _ _) rfl) rfl rfl ?_
  refine wl_q (r_assign (.bool false) rfl) rfl rfl ?_
  refine wl_nil ?_
  refine thenN ?_
  refine W_seq ?_
  refine W_seq ?_
  refine W_region ?_
  refine wl_q (r_move (.slice _ _ _) rfl) rfl rfl ?_
  refine wl_q (r_lenS Tryz.underlying22 rfl) rfl rfl ?_
  refine wl_q (r_bin (.bool (decide _)) rfl rfl rfl) rfl rfl ?_
  refine wl_nil ?_
  refine thenN ?_
  refine W_condD rfl (fun h8 => ?_) (fun h8 => ?_)
  · skip
    refine W_seq ?_
    refine W_region ?_
    refine wl_q (r_assign (.slice _ _ _) rfl) rfl rfl ?_
    refine wl_q (r_assign (.bool false) rfl) rfl rfl ?_
    refine wl_nil ?_
    refine thenN ?_
    refine W_ret ?_
    refine thenR ?_
    skip
    refine fin2 (.slice _ _ _) (.bool false) rfl rfl ?_
    exact ⟨nilRow, tupE rfl (bF (fun h => by have := h.1; omega)), by unfold viewL; rw [if_pos (by omega)]; exact RowIs.nil _ _ _, M0.dummy default⟩
  · skip
    refine W_skip ?_
    refine thenN ?_
    refine W_seq ?_
    refine W_region ?_
    refine wl_q (r_move (.slice _ _ _) rfl) rfl rfl ?_
    refine wl_cal cal33 rfl rfl rfl ?_
    refine (ref07_Sort _ _ _ _ xs (R.mem M0) (by omega)).mono ?_
    rintro _ w1 ⟨v1, rfl, ⟨A1, n1, c1, e1, rfl, hR1, hM1⟩⟩
    refine ⟨_, rfl, ?_⟩
    have M1 : Mem _ _ [_] _ := M0.call0 hM1
    refine wl_q (r_move (.tuple (List.toArray _)) rfl) rfl rfl ?_
    refine wl_q (r_ext (.slice _ _ _) rfl rfl) rfl rfl ?_
    refine wl_q (r_ext (.int _ _) rfl rfl) rfl rfl ?_
    refine wl_q (r_assign (.slice _ _ _) rfl) rfl rfl ?_
    refine wl_q (r_assign (.int _ _) rfl) rfl rfl ?_
    refine wl_nil ?_
    refine thenN ?_
    refine W_seq ?_
    refine W_region ?_
    refine wl_q (r_move (.slice _ _ _) rfl) rfl rfl ?_
    refine wl_q (r_move (.int _ _) rfl) rfl rfl ?_
    refine wl_q (r_bin (.bool (decide _)) rfl rfl rfl) rfl rfl ?_
    refine wl_q (r_assign (.slice _ _ _) rfl) rfl rfl ?_
    refine wl_q (r_assign (.bool (decide _)) rfl) rfl rfl ?_
    refine wl_nil ?_
    refine thenN ?_
    refine W_ret ?_
    skip
    refine fin2 (.slice _ _ _) (.bool (decide _)) rfl rfl ?_
    exact ⟨⟨A1, n1, c1, e1⟩, tupE rfl (bD ⟨fun h => ⟨by omega, h⟩, fun h => h.2⟩), by unfold viewL; rw [if_neg (by omega)]; exact hR1, M1⟩

end Go.Proofs.YtmcddmhkjcgneaaGreatDoor

/- Walks of Go functions over the frame of this claim: what each computes, for every input of the stated types (Aw11). -/
set_option linter.unusedVariables false
set_option linter.unusedSimpArgs false
set_option linter.unnecessarySimpa false
namespace Go.Proofs.YtmcddmhkjcgneaaGreatDoor
open Go.Bil
open Go.RowKit (Below)
open Go.Proofs

end Go.Proofs.YtmcddmhkjcgneaaGreatDoor
