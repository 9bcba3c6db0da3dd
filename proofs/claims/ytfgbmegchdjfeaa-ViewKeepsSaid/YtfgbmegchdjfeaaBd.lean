/- Walks of Go functions over the frame of this claim: what each computes, for every input of the stated types (Bd). -/
import Derived.Test.YtfgbmegchdjfeaaTy
import Derived.Test.YtfgbmegchdjfeaaR5
set_option linter.unusedVariables false
set_option linter.unusedSimpArgs false
set_option linter.unnecessarySimpa false
namespace Go.Proofs.Ytfgbmegchdjfeaa
open Go.Bil
open Go.RowKit (Below)
open Go.Proofs

set_option maxHeartbeats 4000000 in
theorem body_within (w : World) (x y l : Int) (h0 : 0 ≤ l) (h1 : l ≤ 2147483647) :
    Calls Try.prog 42 #[.agg [.int .i32 x, .int .i32 y].toArray, .int .i32 l] w (fun ex w' => ∃ v, ex = .returned v ∧ (fun v w' => v = .bool (decide (-l ≤ x ∧ x ≤ l ∧ -l ≤ y ∧ y ≤ l)) ∧ Below w.heap.size w w') v w') := by
  have hneg : IntKind.i32.wrap (-l) = -l := wr32 _ (by omega) (by omega)
  refine calls_of_W #[.tmp 4] 29 Try.func42 rfl Try.results42 Try.ntmps42 rfl ?_
  have M0 := Mem.refl w
  refine W_seq ?_
  refine W_region ?_
  refine wl_box (.agg (List.toArray _)) M0 rfl rfl rfl (fun b1 w1 M1 => ?_)
  refine wl_q (r_assign (.bool false) rfl) rfl rfl ?_
  refine wl_nil ?_
  refine thenN ?_
  refine W_seq ?_
  refine W_region ?_
  refine wl_q (r_move (.int _ _) rfl) rfl rfl ?_
  refine wl_q (r_neg rfl) rfl rfl ?_
  refine wl_re 6 (.int .i32 (-l)) (iE hneg) ?_
  refine wl_q (r_fieldAddr 0 fld36_0 rfl) rfl rfl ?_
  refine wl_q (r_ld 0 (.int _ _) one21 M1 rfl rfl rfl) rfl rfl ?_
  refine wl_q (r_bin (.bool (decide _)) rfl rfl rfl) rfl rfl ?_
  refine wl_q (r_move (.bool (decide _)) rfl) rfl rfl ?_
  refine wl_splitD 10 rfl (fun g10 => ?_) (fun g10 => ?_)
  · skip
    refine wl_q (r_fieldAddr 0 fld36_0 rfl) rfl rfl ?_
    refine wl_q (r_ld 0 (.int _ _) one21 M1 rfl rfl rfl) rfl rfl ?_
    refine wl_q (r_move (.int _ _) rfl) rfl rfl ?_
    refine wl_q (r_bin (.bool (decide _)) rfl rfl rfl) rfl rfl ?_
    refine wl_q (r_pick true (.bool (decide _)) rfl rfl) rfl rfl ?_
    refine wl_q (r_move (.bool (decide _)) rfl) rfl rfl ?_
    refine wl_splitD 16 rfl (fun g16 => ?_) (fun g16 => ?_)
    · skip
      refine wl_q (r_move (.int _ _) rfl) rfl rfl ?_
      refine wl_q (r_neg rfl) rfl rfl ?_
      refine wl_re 18 (.int .i32 (-l)) (iE hneg) ?_
      refine wl_q (r_fieldAddr 1 fld36_1 rfl) rfl rfl ?_
      refine wl_q (r_ld 0 (.int _ _) one21 M1 rfl rfl rfl) rfl rfl ?_
      refine wl_q (r_bin (.bool (decide _)) rfl rfl rfl) rfl rfl ?_
      refine wl_q (r_pick true (.bool (decide _)) rfl rfl) rfl rfl ?_
      refine wl_q (r_move (.bool (decide _)) rfl) rfl rfl ?_
      refine wl_splitD 23 rfl (fun g23 => ?_) (fun g23 => ?_)
      · skip
        refine wl_q (r_fieldAddr 1 fld36_1 rfl) rfl rfl ?_
        refine wl_q (r_ld 0 (.int _ _) one21 M1 rfl rfl rfl) rfl rfl ?_
        refine wl_q (r_move (.int _ _) rfl) rfl rfl ?_
        refine wl_q (r_bin (.bool (decide _)) rfl rfl rfl) rfl rfl ?_
        refine wl_q (r_pick true (.bool (decide _)) rfl rfl) rfl rfl ?_
        refine wl_q (r_assign (.bool (decide _)) rfl) rfl rfl ?_
        refine wl_nil ?_
        refine thenN ?_
        refine W_ret ?_
        skip
        refine fin1 (.bool (decide _)) rfl ?_
        exact ⟨by first | exact bF (by omega) | exact bT (by omega) | exact bD (by omega), M1.below⟩
      · skip
        refine wl_skip rfl rfl ?_
        refine wl_skip rfl rfl ?_
        refine wl_skip rfl rfl ?_
        refine wl_skip rfl rfl ?_
        refine wl_q (r_pick false (.bool false) rfl rfl) rfl rfl ?_
        refine wl_q (r_assign (.bool false) rfl) rfl rfl ?_
        refine wl_nil ?_
        refine thenN ?_
        refine W_ret ?_
        skip
        refine fin1 (.bool false) rfl ?_
        exact ⟨by first | exact bF (by omega) | exact bT (by omega) | exact bD (by omega), M1.below⟩
    · skip
      refine wl_skip rfl rfl ?_
      refine wl_skip rfl rfl ?_
      refine wl_skip rfl rfl ?_
      refine wl_skip rfl rfl ?_
      refine wl_skip rfl rfl ?_
      refine wl_q (r_pick false (.bool false) rfl rfl) rfl rfl ?_
      refine wl_q (r_move (.bool false) rfl) rfl rfl ?_
      refine wl_skip rfl rfl ?_
      refine wl_skip rfl rfl ?_
      refine wl_skip rfl rfl ?_
      refine wl_skip rfl rfl ?_
      refine wl_q (r_pick false (.bool false) rfl rfl) rfl rfl ?_
      refine wl_q (r_assign (.bool false) rfl) rfl rfl ?_
      refine wl_nil ?_
      refine thenN ?_
      refine W_ret ?_
      skip
      refine fin1 (.bool false) rfl ?_
      exact ⟨by first | exact bF (by omega) | exact bT (by omega) | exact bD (by omega), M1.below⟩
  · skip
    refine wl_skip rfl rfl ?_
    refine wl_skip rfl rfl ?_
    refine wl_skip rfl rfl ?_
    refine wl_skip rfl rfl ?_
    refine wl_q (r_pick false (.bool false) rfl rfl) rfl rfl ?_
    refine wl_q (r_move (.bool false) rfl) rfl rfl ?_
    refine wl_skip rfl rfl ?_
    refine wl_skip rfl rfl ?_
    refine wl_skip rfl rfl ?_
    refine wl_skip rfl rfl ?_
    refine wl_skip rfl rfl ?_
    refine wl_q (r_pick false (.bool false) rfl rfl) rfl rfl ?_
    refine wl_q (r_move (.bool false) rfl) rfl rfl ?_
    refine wl_skip rfl rfl ?_
    refine wl_skip rfl rfl ?_
    refine wl_skip rfl rfl ?_
    refine wl_skip rfl rfl ?_
    refine wl_q (r_pick false (.bool false) rfl rfl) rfl rfl ?_
    refine wl_q (r_assign (.bool false) rfl) rfl rfl ?_
    refine wl_nil ?_
    refine thenN ?_
    refine W_ret ?_
    skip
    refine fin1 (.bool false) rfl ?_
    exact ⟨by first | exact bF (by omega) | exact bT (by omega) | exact bD (by omega), M1.below⟩

set_option maxHeartbeats 4000000 in
theorem body_Check1 (w : World) (b : Body) (p : Nat) (R : Rd w 10 (some ⟨p, 0, none⟩) 1 [bodyCells b]) :
    Calls Try.prog 40 #[.pointer (some ⟨p, 0, none⟩)] w (fun ex w' => ∃ v, ex = .returned v ∧ (fun v w' => v = .bool (decide (4096 ≤ b.radius ∧ b.radius ≤ 4194304)) ∧ Below w.heap.size w w') v w') := by
  rw [← elt_zero p]
  refine calls_of_W #[.tmp 1] 10 Try.func40 rfl Try.results40 Try.ntmps40 rfl ?_
  have M0 := Mem.refl w
  refine W_seq ?_
  refine W_region ?_
  refine wl_q (r_assign (.bool false) rfl) rfl rfl ?_
  refine wl_nil ?_
  refine thenN ?_
  refine W_seq ?_
  refine W_region ?_
  refine wl_q (r_fieldAddrE 1 fld38_1 R (Nat.lt_of_le_of_lt (Nat.zero_le _) (R.below_len (show [bodyCells b][0]? = some (bodyCells b) from rfl))) rfl) rfl rfl ?_
  refine wl_q (r_ldE (o := 1) (.int _ _) one21 R (show [bodyCells b][0]? = some (bodyCells b) from rfl) rfl rfl) rfl rfl ?_
  refine wl_q (r_bin (.bool (decide _)) rfl rfl rfl) rfl rfl ?_
  refine wl_q (r_move (.bool (decide _)) rfl) rfl rfl ?_
  refine wl_splitD 5 rfl (fun g5 => ?_) (fun g5 => ?_)
  · skip
    refine wl_q (r_fieldAddrE 1 fld38_1 R (Nat.lt_of_le_of_lt (Nat.zero_le _) (R.below_len (show [bodyCells b][0]? = some (bodyCells b) from rfl))) rfl) rfl rfl ?_
    refine wl_q (r_ldE (o := 1) (.int _ _) one21 R (show [bodyCells b][0]? = some (bodyCells b) from rfl) rfl rfl) rfl rfl ?_
    refine wl_q (r_bin (.bool (decide _)) rfl rfl rfl) rfl rfl ?_
    refine wl_q (r_pick true (.bool (decide _)) rfl rfl) rfl rfl ?_
    refine wl_q (r_assign (.bool (decide _)) rfl) rfl rfl ?_
    refine wl_nil ?_
    refine thenN ?_
    refine W_ret ?_
    skip
    refine fin1 (.bool (decide _)) rfl ?_
    exact ⟨by first | exact bF (by omega) | exact bT (by omega) | exact bD (by omega), M0.below⟩
  · skip
    refine wl_skip rfl rfl ?_
    refine wl_skip rfl rfl ?_
    refine wl_skip rfl rfl ?_
    refine wl_q (r_pick false (.bool false) rfl rfl) rfl rfl ?_
    refine wl_q (r_assign (.bool false) rfl) rfl rfl ?_
    refine wl_nil ?_
    refine thenN ?_
    refine W_ret ?_
    skip
    refine fin1 (.bool false) rfl ?_
    exact ⟨by first | exact bF (by omega) | exact bT (by omega) | exact bD (by omega), M0.below⟩

set_option maxHeartbeats 4000000 in
theorem body_Check2 (w : World) (b : Body) (p : Nat) (R : Rd w 10 (some ⟨p, 0, none⟩) 1 [bodyCells b]) :
    Calls Try.prog 41 #[.pointer (some ⟨p, 0, none⟩)] w (fun ex w' => ∃ v, ex = .returned v ∧ (fun v w' => v = .bool (decide (-4194304 ≤ b.ax ∧ b.ax ≤ 4194304 ∧ -4194304 ≤ b.ay ∧ b.ay ≤ 4194304)) ∧ Below w.heap.size w w') v w') := by
  rw [← elt_zero p]
  refine calls_of_W #[.tmp 1] 5 Try.func41 rfl Try.results41 Try.ntmps41 rfl ?_
  have M0 := Mem.refl w
  refine W_seq ?_
  refine W_region ?_
  refine wl_q (r_assign (.bool false) rfl) rfl rfl ?_
  refine wl_nil ?_
  refine thenN ?_
  refine W_seq ?_
  refine W_region ?_
  refine wl_q (r_fieldAddrE 2 fld38_2 R (Nat.lt_of_le_of_lt (Nat.zero_le _) (R.below_len (show [bodyCells b][0]? = some (bodyCells b) from rfl))) rfl) rfl rfl ?_
  refine wl_q (r_ldEP (o := 2) _ agg36 R (show [bodyCells b][0]? = some (bodyCells b) from rfl) rfl rfl rfl) rfl rfl ?_
  refine wl_cal cal42 rfl rfl rfl ?_
  refine (body_within _ _ _ _ (by omega) (by omega)).mono ?_
  rintro _ w1 ⟨v1, rfl, ⟨rfl, hb1⟩⟩
  refine ⟨_, rfl, ?_⟩
  have M1 := M0.callB hb1
  refine wl_q (r_assign (.bool (decide _)) rfl) rfl rfl ?_
  refine wl_nil ?_
  refine thenN ?_
  refine W_ret ?_
  skip
  refine fin1 (.bool (decide _)) rfl ?_
  exact ⟨by first | exact bF (by omega) | exact bT (by omega) | exact bD (by omega), M1.below⟩

set_option maxHeartbeats 4000000 in
theorem body_Check3 (w : World) (b : Body) (p : Nat) (R : Rd w 10 (some ⟨p, 0, none⟩) 1 [bodyCells b]) :
    Calls Try.prog 43 #[.pointer (some ⟨p, 0, none⟩)] w (fun ex w' => ∃ v, ex = .returned v ∧ (fun v w' => v = .bool (decide (0 ≤ b.mass ∧ b.mass ≤ 1048576)) ∧ Below w.heap.size w w') v w') := by
  rw [← elt_zero p]
  refine calls_of_W #[.tmp 1] 10 Try.func43 rfl Try.results43 Try.ntmps43 rfl ?_
  have M0 := Mem.refl w
  refine W_seq ?_
  refine W_region ?_
  refine wl_q (r_assign (.bool false) rfl) rfl rfl ?_
  refine wl_nil ?_
  refine thenN ?_
  refine W_seq ?_
  refine W_region ?_
  refine wl_q (r_fieldAddrE 4 fld38_3 R (Nat.lt_of_le_of_lt (Nat.zero_le _) (R.below_len (show [bodyCells b][0]? = some (bodyCells b) from rfl))) rfl) rfl rfl ?_
  refine wl_q (r_ldE (o := 4) (.int _ _) one21 R (show [bodyCells b][0]? = some (bodyCells b) from rfl) rfl rfl) rfl rfl ?_
  refine wl_q (r_bin (.bool (decide _)) rfl rfl rfl) rfl rfl ?_
  refine wl_q (r_move (.bool (decide _)) rfl) rfl rfl ?_
  refine wl_splitD 5 rfl (fun g5 => ?_) (fun g5 => ?_)
  · skip
    refine wl_q (r_fieldAddrE 4 fld38_3 R (Nat.lt_of_le_of_lt (Nat.zero_le _) (R.below_len (show [bodyCells b][0]? = some (bodyCells b) from rfl))) rfl) rfl rfl ?_
    refine wl_q (r_ldE (o := 4) (.int _ _) one21 R (show [bodyCells b][0]? = some (bodyCells b) from rfl) rfl rfl) rfl rfl ?_
    refine wl_q (r_bin (.bool (decide _)) rfl rfl rfl) rfl rfl ?_
    refine wl_q (r_pick true (.bool (decide _)) rfl rfl) rfl rfl ?_
    refine wl_q (r_assign (.bool (decide _)) rfl) rfl rfl ?_
    refine wl_nil ?_
    refine thenN ?_
    refine W_ret ?_
    skip
    refine fin1 (.bool (decide _)) rfl ?_
    exact ⟨by first | exact bF (by omega) | exact bT (by omega) | exact bD (by omega), M0.below⟩
  · skip
    refine wl_skip rfl rfl ?_
    refine wl_skip rfl rfl ?_
    refine wl_skip rfl rfl ?_
    refine wl_q (r_pick false (.bool false) rfl rfl) rfl rfl ?_
    refine wl_q (r_assign (.bool false) rfl) rfl rfl ?_
    refine wl_nil ?_
    refine thenN ?_
    refine W_ret ?_
    skip
    refine fin1 (.bool false) rfl ?_
    exact ⟨by first | exact bF (by omega) | exact bT (by omega) | exact bD (by omega), M0.below⟩

set_option maxHeartbeats 4000000 in
theorem body_Check4 (w : World) (b : Body) (p : Nat) (R : Rd w 10 (some ⟨p, 0, none⟩) 1 [bodyCells b]) :
    Calls Try.prog 44 #[.pointer (some ⟨p, 0, none⟩)] w (fun ex w' => ∃ v, ex = .returned v ∧ (fun v w' => v = .bool (decide (0 ≤ b.bounce ∧ b.bounce ≤ 65536)) ∧ Below w.heap.size w w') v w') := by
  rw [← elt_zero p]
  refine calls_of_W #[.tmp 1] 10 Try.func44 rfl Try.results44 Try.ntmps44 rfl ?_
  have M0 := Mem.refl w
  refine W_seq ?_
  refine W_region ?_
  refine wl_q (r_assign (.bool false) rfl) rfl rfl ?_
  refine wl_nil ?_
  refine thenN ?_
  refine W_seq ?_
  refine W_region ?_
  refine wl_q (r_fieldAddrE 5 fld38_4 R (Nat.lt_of_le_of_lt (Nat.zero_le _) (R.below_len (show [bodyCells b][0]? = some (bodyCells b) from rfl))) rfl) rfl rfl ?_
  refine wl_q (r_ldE (o := 5) (.int _ _) one21 R (show [bodyCells b][0]? = some (bodyCells b) from rfl) rfl rfl) rfl rfl ?_
  refine wl_q (r_bin (.bool (decide _)) rfl rfl rfl) rfl rfl ?_
  refine wl_q (r_move (.bool (decide _)) rfl) rfl rfl ?_
  refine wl_splitD 5 rfl (fun g5 => ?_) (fun g5 => ?_)
  · skip
    refine wl_q (r_fieldAddrE 5 fld38_4 R (Nat.lt_of_le_of_lt (Nat.zero_le _) (R.below_len (show [bodyCells b][0]? = some (bodyCells b) from rfl))) rfl) rfl rfl ?_
    refine wl_q (r_ldE (o := 5) (.int _ _) one21 R (show [bodyCells b][0]? = some (bodyCells b) from rfl) rfl rfl) rfl rfl ?_
    refine wl_q (r_bin (.bool (decide _)) rfl rfl rfl) rfl rfl ?_
    refine wl_q (r_pick true (.bool (decide _)) rfl rfl) rfl rfl ?_
    refine wl_q (r_assign (.bool (decide _)) rfl) rfl rfl ?_
    refine wl_nil ?_
    refine thenN ?_
    refine W_ret ?_
    skip
    refine fin1 (.bool (decide _)) rfl ?_
    exact ⟨by first | exact bF (by omega) | exact bT (by omega) | exact bD (by omega), M0.below⟩
  · skip
    refine wl_skip rfl rfl ?_
    refine wl_skip rfl rfl ?_
    refine wl_skip rfl rfl ?_
    refine wl_q (r_pick false (.bool false) rfl rfl) rfl rfl ?_
    refine wl_q (r_assign (.bool false) rfl) rfl rfl ?_
    refine wl_nil ?_
    refine thenN ?_
    refine W_ret ?_
    skip
    refine fin1 (.bool false) rfl ?_
    exact ⟨by first | exact bF (by omega) | exact bT (by omega) | exact bD (by omega), M0.below⟩

set_option maxHeartbeats 4000000 in
theorem body_Check5 (w : World) (b : Body) (p : Nat) (R : Rd w 10 (some ⟨p, 0, none⟩) 1 [bodyCells b]) :
    Calls Try.prog 45 #[.pointer (some ⟨p, 0, none⟩)] w (fun ex w' => ∃ v, ex = .returned v ∧ (fun v w' => v = .bool (decide (-1073741824 ≤ b.px ∧ b.px ≤ 1073741824 ∧ -1073741824 ≤ b.py ∧ b.py ≤ 1073741824)) ∧ Below w.heap.size w w') v w') := by
  rw [← elt_zero p]
  refine calls_of_W #[.tmp 1] 5 Try.func45 rfl Try.results45 Try.ntmps45 rfl ?_
  have M0 := Mem.refl w
  refine W_seq ?_
  refine W_region ?_
  refine wl_q (r_assign (.bool false) rfl) rfl rfl ?_
  refine wl_nil ?_
  refine thenN ?_
  refine W_seq ?_
  refine W_region ?_
  refine wl_q (r_fieldAddrE 6 fld38_5 R (Nat.lt_of_le_of_lt (Nat.zero_le _) (R.below_len (show [bodyCells b][0]? = some (bodyCells b) from rfl))) rfl) rfl rfl ?_
  refine wl_q (r_ldEP (o := 6) _ agg36 R (show [bodyCells b][0]? = some (bodyCells b) from rfl) rfl rfl rfl) rfl rfl ?_
  refine wl_cal cal42 rfl rfl rfl ?_
  refine (body_within _ _ _ _ (by omega) (by omega)).mono ?_
  rintro _ w1 ⟨v1, rfl, ⟨rfl, hb1⟩⟩
  refine ⟨_, rfl, ?_⟩
  have M1 := M0.callB hb1
  refine wl_q (r_assign (.bool (decide _)) rfl) rfl rfl ?_
  refine wl_nil ?_
  refine thenN ?_
  refine W_ret ?_
  skip
  refine fin1 (.bool (decide _)) rfl ?_
  exact ⟨by first | exact bF (by omega) | exact bT (by omega) | exact bD (by omega), M1.below⟩

set_option maxHeartbeats 4000000 in
theorem body_Check6 (w : World) (b : Body) (p : Nat) (R : Rd w 10 (some ⟨p, 0, none⟩) 1 [bodyCells b]) :
    Calls Try.prog 46 #[.pointer (some ⟨p, 0, none⟩)] w (fun ex w' => ∃ v, ex = .returned v ∧ (fun v w' => v = .bool (decide (-16777216 ≤ b.vx ∧ b.vx ≤ 16777216 ∧ -16777216 ≤ b.vy ∧ b.vy ≤ 16777216)) ∧ Below w.heap.size w w') v w') := by
  rw [← elt_zero p]
  refine calls_of_W #[.tmp 1] 5 Try.func46 rfl Try.results46 Try.ntmps46 rfl ?_
  have M0 := Mem.refl w
  refine W_seq ?_
  refine W_region ?_
  refine wl_q (r_assign (.bool false) rfl) rfl rfl ?_
  refine wl_nil ?_
  refine thenN ?_
  refine W_seq ?_
  refine W_region ?_
  refine wl_q (r_fieldAddrE 8 fld38_6 R (Nat.lt_of_le_of_lt (Nat.zero_le _) (R.below_len (show [bodyCells b][0]? = some (bodyCells b) from rfl))) rfl) rfl rfl ?_
  refine wl_q (r_ldEP (o := 8) _ agg36 R (show [bodyCells b][0]? = some (bodyCells b) from rfl) rfl rfl rfl) rfl rfl ?_
  refine wl_cal cal42 rfl rfl rfl ?_
  refine (body_within _ _ _ _ (by omega) (by omega)).mono ?_
  rintro _ w1 ⟨v1, rfl, ⟨rfl, hb1⟩⟩
  refine ⟨_, rfl, ?_⟩
  have M1 := M0.callB hb1
  refine wl_q (r_assign (.bool (decide _)) rfl) rfl rfl ?_
  refine wl_nil ?_
  refine thenN ?_
  refine W_ret ?_
  skip
  refine fin1 (.bool (decide _)) rfl ?_
  exact ⟨by first | exact bF (by omega) | exact bT (by omega) | exact bD (by omega), M1.below⟩

set_option maxHeartbeats 4000000 in
theorem body_Check (w : World) (b : Body) :
    Calls Try.prog 33 #[(.agg (bodyCells b).toArray)] w (fun ex w' => ∃ v, ex = .returned v ∧ (fun v w' => v = .int .i64 (check b) ∧ Below w.heap.size w w') v w') := by
  refine calls_of_W #[.tmp 2] 28 Try.func33 rfl Try.results33 Try.ntmps33 rfl ?_
  have M0 := Mem.refl w
  refine W_seq ?_
  refine W_region ?_
  refine wl_box (.agg (List.toArray _)) M0 rfl rfl rfl (fun b1 w1 M1 => ?_)
  refine wl_q (r_assign (.int _ _) rfl) rfl rfl ?_
  refine wl_nil ?_
  refine thenN ?_
  refine W_seq ?_
  refine W_seq ?_
  refine W_region ?_
  refine wl_q (r_makeFuncV [] [.pointer _] rfl rfl) rfl rfl ?_
  refine wl_q (r_build [(0, .func _ _ _), (1, .int _ _)] _ struct70 rfl rfl) rfl rfl ?_
  refine wl_q (r_makeFuncV [] [.pointer _] rfl rfl) rfl rfl ?_
  refine wl_q (r_build [(0, .func _ _ _), (1, .int _ _)] _ struct70 rfl rfl) rfl rfl ?_
  refine wl_q (r_makeFuncV [] [.pointer _] rfl rfl) rfl rfl ?_
  refine wl_q (r_build [(0, .func _ _ _), (1, .int _ _)] _ struct70 rfl rfl) rfl rfl ?_
  refine wl_q (r_makeFuncV [] [.pointer _] rfl rfl) rfl rfl ?_
  refine wl_q (r_build [(0, .func _ _ _), (1, .int _ _)] _ struct70 rfl rfl) rfl rfl ?_
  refine wl_q (r_makeFuncV [] [.pointer _] rfl rfl) rfl rfl ?_
  refine wl_q (r_build [(0, .func _ _ _), (1, .int _ _)] _ struct70 rfl rfl) rfl rfl ?_
  refine wl_q (r_makeFuncV [] [.pointer _] rfl rfl) rfl rfl ?_
  refine wl_q (r_build [(0, .func _ _ _), (1, .int _ _)] _ struct70 rfl rfl) rfl rfl ?_
  refine wl_q (r_buildA [.agg (List.toArray _), .agg (List.toArray _), .agg (List.toArray _), .agg (List.toArray _), .agg (List.toArray _), .agg (List.toArray _)] arr72 zero72 rfl rfl (lens_of rfl)) rfl rfl ?_
  refine wl_q (r_move (.int _ _) rfl) rfl rfl ?_
  refine wl_nil ?_
  refine thenN ?_
  refine W_block ?_
  refine W_rounds 7 (Wr_s ?_)
  refine W_seq ?_
  refine W_region ?_
  refine wl_q (r_bin (.bool (decide _)) rfl rfl rfl) rfl rfl ?_
  refine wl_re 19 (.bool true) (bT (by omega)).symm ?_
  refine wl_nil ?_
  refine thenN ?_
  refine W_seq ?_
  refine W_condT rfl ?_
  refine W_skip ?_
  refine thenN ?_
  refine W_seq ?_
  refine W_block ?_
  refine W_seq ?_
  refine W_region ?_
  refine wl_q (r_idxA 0 _ arr72 agg70 rfl rfl (by decide) (by decide) rfl rfl) rfl rfl ?_
  refine wl_alloc zero70 M1 rfl rfl (fun b2 w2 M2 => ?_)
  refine wl_stW 1 _ agg70 M2 rfl rfl rfl rfl rfl (ones_of rfl) rfl (fun w3 M3 => ?_)
  refine wl_nil ?_
  refine thenN ?_
  refine W_seq ?_
  refine W_region ?_
  refine wl_q (r_fieldAddr 0 fld70_0 rfl) rfl rfl ?_
  refine wl_q (r_ld 1 (.func _ _ _) one24 M3 rfl rfl rfl) rfl rfl ?_
  refine wl_cal cal40 rfl rfl rfl ?_
  refine (body_Check1 _ b _ (rdOf 0 M3 rfl rfl)).mono ?_
  rintro _ w4 ⟨v4, rfl, ⟨rfl, hb4⟩⟩
  refine ⟨_, rfl, ?_⟩
  have M4 := M3.callB hb4
  refine wl_q (r_not rfl) rfl rfl ?_
  refine wl_nil ?_
  refine thenN ?_
  refine W_condD rfl (fun h24 => ?_) (fun h24 => ?_)
  · skip
    refine W_seq ?_
    refine W_region ?_
    refine wl_q (r_fieldAddr 1 fld70_1 rfl) rfl rfl ?_
    refine wl_q (r_ld 1 (.int _ _) one25 M4 rfl rfl rfl) rfl rfl ?_
    refine wl_q (r_assign (.int _ _) rfl) rfl rfl ?_
    refine wl_nil ?_
    refine thenN ?_
    refine W_ret ?_
    refine blkR ?_
    refine thenR ?_
    refine thenR ?_
    refine blkR ?_
    refine thenR ?_
    skip
    refine fin1 (.int _ _) rfl ?_
    exact ⟨iE (check_4 b (by omega)).symm, M4.below⟩
  · skip
    refine W_skip ?_
    refine blkN ?_
    refine thenN ?_
    refine W_region ?_
    refine wl_q (r_add rfl rfl (by omega) (by omega)) rfl rfl ?_
    refine wl_re 27 (.int .i64 1) (iE (by omega)) ?_
    refine wl_q (r_move (.int _ _) rfl) rfl rfl ?_
    refine wl_nil ?_
    refine thenN (Wr_s ?_)
    refine W_seq ?_
    refine W_region ?_
    refine wl_q (r_bin (.bool (decide _)) rfl rfl rfl) rfl rfl ?_
    refine wl_re 19 (.bool true) (bT (by omega)).symm ?_
    refine wl_nil ?_
    refine thenN ?_
    refine W_seq ?_
    refine W_condT rfl ?_
    refine W_skip ?_
    refine thenN ?_
    refine W_seq ?_
    refine W_block ?_
    refine W_seq ?_
    refine W_region ?_
    refine wl_q (r_idxA 1 _ arr72 agg70 rfl rfl (by decide) (by decide) rfl rfl) rfl rfl ?_
    refine wl_alloc zero70 M4 rfl rfl (fun b5 w5 M5 => ?_)
    refine wl_stW 2 _ agg70 M5 rfl rfl rfl rfl rfl (ones_of rfl) rfl (fun w6 M6 => ?_)
    refine wl_nil ?_
    refine thenN ?_
    refine W_seq ?_
    refine W_region ?_
    refine wl_q (r_fieldAddr 0 fld70_0 rfl) rfl rfl ?_
    refine wl_q (r_ld 2 (.func _ _ _) one24 M6 rfl rfl rfl) rfl rfl ?_
    refine wl_cal cal41 rfl rfl rfl ?_
    refine (body_Check2 _ b _ (rdOf 0 M6 rfl rfl)).mono ?_
    rintro _ w7 ⟨v7, rfl, ⟨rfl, hb7⟩⟩
    refine ⟨_, rfl, ?_⟩
    have M7 := M6.callB hb7
    refine wl_q (r_not rfl) rfl rfl ?_
    refine wl_nil ?_
    refine thenN ?_
    refine W_condD rfl (fun h24 => ?_) (fun h24 => ?_)
    · skip
      refine W_seq ?_
      refine W_region ?_
      refine wl_q (r_fieldAddr 1 fld70_1 rfl) rfl rfl ?_
      refine wl_q (r_ld 2 (.int _ _) one25 M7 rfl rfl rfl) rfl rfl ?_
      refine wl_q (r_assign (.int _ _) rfl) rfl rfl ?_
      refine wl_nil ?_
      refine thenN ?_
      refine W_ret ?_
      refine blkR ?_
      refine thenR ?_
      refine thenR ?_
      refine blkR ?_
      refine thenR ?_
      skip
      refine fin1 (.int _ _) rfl ?_
      exact ⟨iE (check_5 b (by omega) (by omega)).symm, M7.below⟩
    · skip
      refine W_skip ?_
      refine blkN ?_
      refine thenN ?_
      refine W_region ?_
      refine wl_q (r_add rfl rfl (by omega) (by omega)) rfl rfl ?_
      refine wl_re 27 (.int .i64 2) (iE (by omega)) ?_
      refine wl_q (r_move (.int _ _) rfl) rfl rfl ?_
      refine wl_nil ?_
      refine thenN (Wr_s ?_)
      refine W_seq ?_
      refine W_region ?_
      refine wl_q (r_bin (.bool (decide _)) rfl rfl rfl) rfl rfl ?_
      refine wl_re 19 (.bool true) (bT (by omega)).symm ?_
      refine wl_nil ?_
      refine thenN ?_
      refine W_seq ?_
      refine W_condT rfl ?_
      refine W_skip ?_
      refine thenN ?_
      refine W_seq ?_
      refine W_block ?_
      refine W_seq ?_
      refine W_region ?_
      refine wl_q (r_idxA 2 _ arr72 agg70 rfl rfl (by decide) (by decide) rfl rfl) rfl rfl ?_
      refine wl_alloc zero70 M7 rfl rfl (fun b8 w8 M8 => ?_)
      refine wl_stW 3 _ agg70 M8 rfl rfl rfl rfl rfl (ones_of rfl) rfl (fun w9 M9 => ?_)
      refine wl_nil ?_
      refine thenN ?_
      refine W_seq ?_
      refine W_region ?_
      refine wl_q (r_fieldAddr 0 fld70_0 rfl) rfl rfl ?_
      refine wl_q (r_ld 3 (.func _ _ _) one24 M9 rfl rfl rfl) rfl rfl ?_
      refine wl_cal cal43 rfl rfl rfl ?_
      refine (body_Check3 _ b _ (rdOf 0 M9 rfl rfl)).mono ?_
      rintro _ w10 ⟨v10, rfl, ⟨rfl, hb10⟩⟩
      refine ⟨_, rfl, ?_⟩
      have M10 := M9.callB hb10
      refine wl_q (r_not rfl) rfl rfl ?_
      refine wl_nil ?_
      refine thenN ?_
      refine W_condD rfl (fun h24 => ?_) (fun h24 => ?_)
      · skip
        refine W_seq ?_
        refine W_region ?_
        refine wl_q (r_fieldAddr 1 fld70_1 rfl) rfl rfl ?_
        refine wl_q (r_ld 3 (.int _ _) one25 M10 rfl rfl rfl) rfl rfl ?_
        refine wl_q (r_assign (.int _ _) rfl) rfl rfl ?_
        refine wl_nil ?_
        refine thenN ?_
        refine W_ret ?_
        refine blkR ?_
        refine thenR ?_
        refine thenR ?_
        refine blkR ?_
        refine thenR ?_
        skip
        refine fin1 (.int _ _) rfl ?_
        exact ⟨iE (check_6 b (by omega) (by omega) (by omega)).symm, M10.below⟩
      · skip
        refine W_skip ?_
        refine blkN ?_
        refine thenN ?_
        refine W_region ?_
        refine wl_q (r_add rfl rfl (by omega) (by omega)) rfl rfl ?_
        refine wl_re 27 (.int .i64 3) (iE (by omega)) ?_
        refine wl_q (r_move (.int _ _) rfl) rfl rfl ?_
        refine wl_nil ?_
        refine thenN (Wr_s ?_)
        refine W_seq ?_
        refine W_region ?_
        refine wl_q (r_bin (.bool (decide _)) rfl rfl rfl) rfl rfl ?_
        refine wl_re 19 (.bool true) (bT (by omega)).symm ?_
        refine wl_nil ?_
        refine thenN ?_
        refine W_seq ?_
        refine W_condT rfl ?_
        refine W_skip ?_
        refine thenN ?_
        refine W_seq ?_
        refine W_block ?_
        refine W_seq ?_
        refine W_region ?_
        refine wl_q (r_idxA 3 _ arr72 agg70 rfl rfl (by decide) (by decide) rfl rfl) rfl rfl ?_
        refine wl_alloc zero70 M10 rfl rfl (fun b11 w11 M11 => ?_)
        refine wl_stW 4 _ agg70 M11 rfl rfl rfl rfl rfl (ones_of rfl) rfl (fun w12 M12 => ?_)
        refine wl_nil ?_
        refine thenN ?_
        refine W_seq ?_
        refine W_region ?_
        refine wl_q (r_fieldAddr 0 fld70_0 rfl) rfl rfl ?_
        refine wl_q (r_ld 4 (.func _ _ _) one24 M12 rfl rfl rfl) rfl rfl ?_
        refine wl_cal cal44 rfl rfl rfl ?_
        refine (body_Check4 _ b _ (rdOf 0 M12 rfl rfl)).mono ?_
        rintro _ w13 ⟨v13, rfl, ⟨rfl, hb13⟩⟩
        refine ⟨_, rfl, ?_⟩
        have M13 := M12.callB hb13
        refine wl_q (r_not rfl) rfl rfl ?_
        refine wl_nil ?_
        refine thenN ?_
        refine W_condD rfl (fun h24 => ?_) (fun h24 => ?_)
        · skip
          refine W_seq ?_
          refine W_region ?_
          refine wl_q (r_fieldAddr 1 fld70_1 rfl) rfl rfl ?_
          refine wl_q (r_ld 4 (.int _ _) one25 M13 rfl rfl rfl) rfl rfl ?_
          refine wl_q (r_assign (.int _ _) rfl) rfl rfl ?_
          refine wl_nil ?_
          refine thenN ?_
          refine W_ret ?_
          refine blkR ?_
          refine thenR ?_
          refine thenR ?_
          refine blkR ?_
          refine thenR ?_
          skip
          refine fin1 (.int _ _) rfl ?_
          exact ⟨iE (check_7 b (by omega) (by omega) (by omega) (by omega)).symm, M13.below⟩
        · skip
          refine W_skip ?_
          refine blkN ?_
          refine thenN ?_
          refine W_region ?_
          refine wl_q (r_add rfl rfl (by omega) (by omega)) rfl rfl ?_
          refine wl_re 27 (.int .i64 4) (iE (by omega)) ?_
          refine wl_q (r_move (.int _ _) rfl) rfl rfl ?_
          refine wl_nil ?_
          refine thenN (Wr_s ?_)
          refine W_seq ?_
          refine W_region ?_
          refine wl_q (r_bin (.bool (decide _)) rfl rfl rfl) rfl rfl ?_
          refine wl_re 19 (.bool true) (bT (by omega)).symm ?_
          refine wl_nil ?_
          refine thenN ?_
          refine W_seq ?_
          refine W_condT rfl ?_
          refine W_skip ?_
          refine thenN ?_
          refine W_seq ?_
          refine W_block ?_
          refine W_seq ?_
          refine W_region ?_
          refine wl_q (r_idxA 4 _ arr72 agg70 rfl rfl (by decide) (by decide) rfl rfl) rfl rfl ?_
          refine wl_alloc zero70 M13 rfl rfl (fun b14 w14 M14 => ?_)
          refine wl_stW 5 _ agg70 M14 rfl rfl rfl rfl rfl (ones_of rfl) rfl (fun w15 M15 => ?_)
          refine wl_nil ?_
          refine thenN ?_
          refine W_seq ?_
          refine W_region ?_
          refine wl_q (r_fieldAddr 0 fld70_0 rfl) rfl rfl ?_
          refine wl_q (r_ld 5 (.func _ _ _) one24 M15 rfl rfl rfl) rfl rfl ?_
          refine wl_cal cal45 rfl rfl rfl ?_
          refine (body_Check5 _ b _ (rdOf 0 M15 rfl rfl)).mono ?_
          rintro _ w16 ⟨v16, rfl, ⟨rfl, hb16⟩⟩
          refine ⟨_, rfl, ?_⟩
          have M16 := M15.callB hb16
          refine wl_q (r_not rfl) rfl rfl ?_
          refine wl_nil ?_
          refine thenN ?_
          refine W_condD rfl (fun h24 => ?_) (fun h24 => ?_)
          · skip
            refine W_seq ?_
            refine W_region ?_
            refine wl_q (r_fieldAddr 1 fld70_1 rfl) rfl rfl ?_
            refine wl_q (r_ld 5 (.int _ _) one25 M16 rfl rfl rfl) rfl rfl ?_
            refine wl_q (r_assign (.int _ _) rfl) rfl rfl ?_
            refine wl_nil ?_
            refine thenN ?_
            refine W_ret ?_
            refine blkR ?_
            refine thenR ?_
            refine thenR ?_
            refine blkR ?_
            refine thenR ?_
            skip
            refine fin1 (.int _ _) rfl ?_
            exact ⟨iE (check_8 b (by omega) (by omega) (by omega) (by omega) (by omega)).symm, M16.below⟩
          · skip
            refine W_skip ?_
            refine blkN ?_
            refine thenN ?_
            refine W_region ?_
            refine wl_q (r_add rfl rfl (by omega) (by omega)) rfl rfl ?_
            refine wl_re 27 (.int .i64 5) (iE (by omega)) ?_
            refine wl_q (r_move (.int _ _) rfl) rfl rfl ?_
            refine wl_nil ?_
            refine thenN (Wr_s ?_)
            refine W_seq ?_
            refine W_region ?_
            refine wl_q (r_bin (.bool (decide _)) rfl rfl rfl) rfl rfl ?_
            refine wl_re 19 (.bool true) (bT (by omega)).symm ?_
            refine wl_nil ?_
            refine thenN ?_
            refine W_seq ?_
            refine W_condT rfl ?_
            refine W_skip ?_
            refine thenN ?_
            refine W_seq ?_
            refine W_block ?_
            refine W_seq ?_
            refine W_region ?_
            refine wl_q (r_idxA 5 _ arr72 agg70 rfl rfl (by decide) (by decide) rfl rfl) rfl rfl ?_
            refine wl_alloc zero70 M16 rfl rfl (fun b17 w17 M17 => ?_)
            refine wl_stW 6 _ agg70 M17 rfl rfl rfl rfl rfl (ones_of rfl) rfl (fun w18 M18 => ?_)
            refine wl_nil ?_
            refine thenN ?_
            refine W_seq ?_
            refine W_region ?_
            refine wl_q (r_fieldAddr 0 fld70_0 rfl) rfl rfl ?_
            refine wl_q (r_ld 6 (.func _ _ _) one24 M18 rfl rfl rfl) rfl rfl ?_
            refine wl_cal cal46 rfl rfl rfl ?_
            refine (body_Check6 _ b _ (rdOf 0 M18 rfl rfl)).mono ?_
            rintro _ w19 ⟨v19, rfl, ⟨rfl, hb19⟩⟩
            refine ⟨_, rfl, ?_⟩
            have M19 := M18.callB hb19
            refine wl_q (r_not rfl) rfl rfl ?_
            refine wl_nil ?_
            refine thenN ?_
            refine W_condD rfl (fun h24 => ?_) (fun h24 => ?_)
            · skip
              refine W_seq ?_
              refine W_region ?_
              refine wl_q (r_fieldAddr 1 fld70_1 rfl) rfl rfl ?_
              refine wl_q (r_ld 6 (.int _ _) one25 M19 rfl rfl rfl) rfl rfl ?_
              refine wl_q (r_assign (.int _ _) rfl) rfl rfl ?_
              refine wl_nil ?_
              refine thenN ?_
              refine W_ret ?_
              refine blkR ?_
              refine thenR ?_
              refine thenR ?_
              refine blkR ?_
              refine thenR ?_
              skip
              refine fin1 (.int _ _) rfl ?_
              exact ⟨iE (check_9 b (by omega) (by omega) (by omega) (by omega) (by omega) (by omega)).symm, M19.below⟩
            · skip
              refine W_skip ?_
              refine blkN ?_
              refine thenN ?_
              refine W_region ?_
              refine wl_q (r_add rfl rfl (by omega) (by omega)) rfl rfl ?_
              refine wl_re 27 (.int .i64 6) (iE (by omega)) ?_
              refine wl_q (r_move (.int _ _) rfl) rfl rfl ?_
              refine wl_nil ?_
              refine thenN (Wr_s ?_)
              refine W_seq ?_
              refine W_region ?_
              refine wl_q (r_bin (.bool (decide _)) rfl rfl rfl) rfl rfl ?_
              refine wl_re 19 (.bool false) (bF (by omega)).symm ?_
              refine wl_nil ?_
              refine thenN ?_
              refine W_seq ?_
              refine W_condF rfl ?_
              refine W_exit ?_
              refine thenX ?_
              refine thenX ?_
              refine blkH ?_
              refine thenN ?_
              refine W_seq ?_
              refine W_region ?_
              refine wl_q (r_assign (.int _ _) rfl) rfl rfl ?_
              refine wl_nil ?_
              refine thenN ?_
              refine W_ret ?_
              skip
              refine fin1 (.int _ _) rfl ?_
              exact ⟨iE (check_0 b (by omega) (by omega) (by omega) (by omega) (by omega) (by omega)).symm, M19.below⟩

end Go.Proofs.Ytfgbmegchdjfeaa
