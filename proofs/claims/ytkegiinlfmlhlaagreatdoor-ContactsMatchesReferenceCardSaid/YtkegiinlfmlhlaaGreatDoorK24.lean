/- Part of the proof of the laws of this seat: W11, Aw11. No conditions. -/
import Derived.Test.YtkegiinlfmlhlaaGreatDoorK5
import Derived.Test.YtkegiinlfmlhlaaGreatDoorK20
import Derived.Test.YtkegiinlfmlhlaaGreatDoorK23
/- Walks of Go functions over the frame of this claim: what each computes, for every input of the stated types (W11). -/
set_option linter.unusedVariables false
set_option linter.unusedSimpArgs false
set_option linter.unnecessarySimpa false
namespace Go.Proofs.YtkegiinlfmlhlaaGreatDoor
open Go.Bil
open Go.RowKit (Below)
open Go.Proofs

set_option maxHeartbeats 4000000 in
theorem ref11_View (w : World) (A : Option Addr) (n c : Nat) (xs : List Body) (R : Rd w 10 A n (xs.map bodyCells)) :
    Calls Tryz.prog 5 #[.slice A n c] w (fun ex w' => ∃ v, ex = .returned v ∧ (fun v w' => ∃ r : Row, v = .tuple #[.slice r.A r.n r.c, .bool (decide (viewP xs))] ∧ RowIs 46 10 r.A r.n r.c ((viewL xs).map bodyCells) r.e ∧ Mem w [] [r.e] w') v w') := by
  have hlen : xs.length = n := by simpa using R.len
  have hbd := R.bound
  refine calls_of_W #[.tmp 2, .tmp 3] 17 Tryz.func5 rfl Tryz.results5 Tryz.ntmps5 rfl ?_
  have M0 := Mem.refl w
  refine W_seq ?_
  refine W_region ?_
  refine wl_q (r_assign (.slice _ _ _) rfl) rfl rfl ?_
  refine wl_q (r_assign (.bool false) rfl) rfl rfl ?_
  refine wl_nil ?_
  refine thenN ?_
  refine W_seq ?_
  refine W_seq ?_
  refine W_region ?_
  refine wl_q (r_move (.slice _ _ _) rfl) rfl rfl ?_
  refine wl_q (r_lenS Tryz.underlying22 rfl) rfl rfl ?_
  refine wl_q (r_bin (.bool (decide _)) rfl rfl rfl) rfl rfl ?_
  refine wl_nil ?_
  refine thenN ?_
  refine W_condD rfl (fun h8 => ?_) (fun h8 => ?_)
  · skip
    refine W_seq ?_
    refine W_region ?_
    refine wl_q (r_assign (.slice _ _ _) rfl) rfl rfl ?_
    refine wl_q (r_assign (.bool false) rfl) rfl rfl ?_
    refine wl_nil ?_
    refine thenN ?_
    refine W_ret ?_
    refine thenR ?_
    skip
    refine fin2 (.slice _ _ _) (.bool false) rfl rfl ?_
    exact ⟨nilRow, tupE rfl (bF (fun h => by have := h.1; omega)), by unfold viewL; rw [if_pos (by omega)]; exact RowIs.nil _ _ _, M0.dummy default⟩
  · skip
    refine W_skip ?_
    refine thenN ?_
    refine W_seq ?_
    refine W_region ?_
    refine wl_q (r_move (.slice _ _ _) rfl) rfl rfl ?_
    refine wl_cal cal16 rfl rfl rfl ?_
    refine (ref07_Sort _ _ _ _ xs (R.mem M0) (by omega)).mono ?_
    rintro _ w1 ⟨v1, rfl, ⟨A1, n1, c1, e1, rfl, hR1, hM1⟩⟩
    refine ⟨_, rfl, ?_⟩
    have M1 : Mem _ _ [_] _ := M0.call0 hM1
    refine wl_q (r_move (.tuple (List.toArray _)) rfl) rfl rfl ?_
    refine wl_q (r_ext (.slice _ _ _) rfl rfl) rfl rfl ?_
    refine wl_q (r_ext (.int _ _) rfl rfl) rfl rfl ?_
    refine wl_q (r_assign (.slice _ _ _) rfl) rfl rfl ?_
    refine wl_q (r_assign (.int _ _) rfl) rfl rfl ?_
    refine wl_nil ?_
    refine thenN ?_
    refine W_seq ?_
    refine W_region ?_
    refine wl_q (r_move (.slice _ _ _) rfl) rfl rfl ?_
    refine wl_q (r_move (.int _ _) rfl) rfl rfl ?_
    refine wl_q (r_bin (.bool (decide _)) rfl rfl rfl) rfl rfl ?_
    refine wl_q (r_assign (.slice _ _ _) rfl) rfl rfl ?_
    refine wl_q (r_assign (.bool (decide _)) rfl) rfl rfl ?_
    refine wl_nil ?_
    refine thenN ?_
    refine W_ret ?_
    skip
    refine fin2 (.slice _ _ _) (.bool (decide _)) rfl rfl ?_
    exact ⟨⟨A1, n1, c1, e1⟩, tupE rfl (bD ⟨fun h => ⟨by omega, h⟩, fun h => h.2⟩), by unfold viewL; rw [if_neg (by omega)]; exact hR1, M1⟩

set_option maxHeartbeats 4000000 in
theorem ref10_Less (w : World) (a b : Int × Int) :
    Calls Tryz.prog 14 #[(.agg (pairCells a).toArray), (.agg (pairCells b).toArray)] w (fun ex w' => ∃ v, ex = .returned v ∧ (fun v w' => v = .bool (decide (ltP a b)) ∧ Below w.heap.size w w') v w') := by
  refine calls_of_W #[.tmp 4] 24 Tryz.func14 rfl Tryz.results14 Tryz.ntmps14 rfl ?_
  have M0 := Mem.refl w
  refine W_seq ?_
  refine W_region ?_
  refine wl_box (.agg (List.toArray _)) M0 rfl rfl rfl (fun b1 w1 M1 => ?_)
  refine wl_box (.agg (List.toArray _)) M1 rfl rfl rfl (fun b2 w2 M2 => ?_)
  refine wl_q (r_assign (.bool false) rfl) rfl rfl ?_
  refine wl_nil ?_
  refine thenN ?_
  refine W_seq ?_
  refine W_region ?_
  refine wl_q (r_fieldAddr 0 fld31_0 rfl) rfl rfl ?_
  refine wl_q (r_ld 0 (.int _ _) one24 M2 rfl rfl rfl) rfl rfl ?_
  refine wl_q (r_fieldAddr 0 fld31_0 rfl) rfl rfl ?_
  refine wl_q (r_ld 1 (.int _ _) one24 M2 rfl rfl rfl) rfl rfl ?_
  refine wl_q (r_bin (.bool (decide _)) rfl rfl rfl) rfl rfl ?_
  refine wl_q (r_move (.bool (decide _)) rfl) rfl rfl ?_
  refine wl_splitD 10 rfl (fun g10 => ?_) (fun g10 => ?_)
  · skip
    refine wl_skip rfl rfl ?_
    refine wl_skip rfl rfl ?_
    refine wl_skip rfl rfl ?_
    refine wl_skip rfl rfl ?_
    refine wl_skip rfl rfl ?_
    refine wl_skip rfl rfl ?_
    refine wl_skip rfl rfl ?_
    refine wl_skip rfl rfl ?_
    refine wl_skip rfl rfl ?_
    refine wl_skip rfl rfl ?_
    refine wl_skip rfl rfl ?_
    refine wl_skip rfl rfl ?_
    refine wl_q (r_pick true (.bool true) rfl rfl) rfl rfl ?_
    refine wl_q (r_assign (.bool true) rfl) rfl rfl ?_
    refine wl_nil ?_
    refine thenN ?_
    refine W_ret ?_
    skip
    refine fin1 (.bool true) rfl ?_
    exact ⟨by unfold ltP; first | exact bF (by omega) | exact bT (by omega) | exact bD (by omega), M2.below⟩
  · skip
    refine wl_q (r_fieldAddr 0 fld31_0 rfl) rfl rfl ?_
    refine wl_q (r_ld 0 (.int _ _) one24 M2 rfl rfl rfl) rfl rfl ?_
    refine wl_q (r_fieldAddr 0 fld31_0 rfl) rfl rfl ?_
    refine wl_q (r_ld 1 (.int _ _) one24 M2 rfl rfl rfl) rfl rfl ?_
    refine wl_q (r_bin (.bool (decide _)) rfl rfl rfl) rfl rfl ?_
    refine wl_q (r_move (.bool (decide _)) rfl) rfl rfl ?_
    refine wl_splitD 16 rfl (fun g16 => ?_) (fun g16 => ?_)
    · skip
      refine wl_q (r_fieldAddr 1 fld31_1 rfl) rfl rfl ?_
      refine wl_q (r_ld 0 (.int _ _) one24 M2 rfl rfl rfl) rfl rfl ?_
      refine wl_q (r_fieldAddr 1 fld31_1 rfl) rfl rfl ?_
      refine wl_q (r_ld 1 (.int _ _) one24 M2 rfl rfl rfl) rfl rfl ?_
      refine wl_q (r_bin (.bool (decide _)) rfl rfl rfl) rfl rfl ?_
      refine wl_q (r_pick true (.bool (decide _)) rfl rfl) rfl rfl ?_
      refine wl_q (r_pick false (.bool (decide _)) rfl rfl) rfl rfl ?_
      refine wl_q (r_assign (.bool (decide _)) rfl) rfl rfl ?_
      refine wl_nil ?_
      refine thenN ?_
      refine W_ret ?_
      skip
      refine fin1 (.bool (decide _)) rfl ?_
      exact ⟨by unfold ltP; first | exact bF (by omega) | exact bT (by omega) | exact bD (by omega), M2.below⟩
    · skip
      refine wl_skip rfl rfl ?_
      refine wl_skip rfl rfl ?_
      refine wl_skip rfl rfl ?_
      refine wl_skip rfl rfl ?_
      refine wl_skip rfl rfl ?_
      refine wl_q (r_pick false (.bool false) rfl rfl) rfl rfl ?_
      refine wl_q (r_pick false (.bool false) rfl rfl) rfl rfl ?_
      refine wl_q (r_assign (.bool false) rfl) rfl rfl ?_
      refine wl_nil ?_
      refine thenN ?_
      refine W_ret ?_
      skip
      refine fin1 (.bool false) rfl ?_
      exact ⟨by unfold ltP; first | exact bF (by omega) | exact bT (by omega) | exact bD (by omega), M2.below⟩

end Go.Proofs.YtkegiinlfmlhlaaGreatDoor

/- Walks of Go functions over the frame of this claim: what each computes, for every input of the stated types (Aw11). -/
set_option linter.unusedVariables false
set_option linter.unusedSimpArgs false
set_option linter.unnecessarySimpa false
namespace Go.Proofs.YtkegiinlfmlhlaaGreatDoor
open Go.Bil
open Go.RowKit (Below)
open Go.Proofs

end Go.Proofs.YtkegiinlfmlhlaaGreatDoor
