/- Part of the proof of the laws of this seat: Z1, Z1b, Z1c, Z1d, W3, Z2, W4, Z3, W5. No conditions. -/
import Derived.Test.YtmcddmhkjcgneaaGreatDoorK5
import Derived.Test.YtmcddmhkjcgneaaGreatDoorK12
import Derived.Test.YtmcddmhkjcgneaaGreatDoorK16
import Derived.Test.YtmcddmhkjcgneaaGreatDoorK11
import Derived.Test.YtmcddmhkjcgneaaGreatDoorK15
/- Walks of Go functions over the frame of this claim: what each computes, for every input of the stated types (Z1). -/
set_option linter.unusedVariables false
set_option linter.unusedSimpArgs false
set_option linter.unnecessarySimpa false
namespace Go.Proofs.YtmcddmhkjcgneaaGreatDoor
open Go.Bil
open Go.RowKit (Below)
open Go.Proofs

set_option maxHeartbeats 8000000 in
theorem ref01_digits (w : World) (a : Int) (h0 : -9223372036854775808 ≤ a) (h1 : a ≤ 9223372036854775807) :
    Calls Tryz.prog 144 #[.int .i64 a] w (fun ex w' => ∃ v, ex = .returned v ∧ (fun v w' => v = (.agg ((digs a.natAbs).map u64Cell).toArray) ∧ Below w.heap.size w w') v w') := by
  obtain ⟨m, hm⟩ : ∃ m, m = a.natAbs := ⟨_, rfl⟩
  refine calls_of_W #[.cell 2 197] 24 Tryz.func144 rfl Tryz.results144 Tryz.ntmps144 rfl ?_
  have M0 := Mem.refl w
  refine W_seq ?_
  refine W_region ?_
  refine wl_alloc zero197 M0 rfl rfl (fun b1 w1 M1 => ?_)
  refine wl_nil ?_
  refine thenN ?_
  refine W_seq ?_
  refine W_region ?_
  refine wl_alloc zero197 M1 rfl rfl (fun b2 w2 M2 => ?_)
  refine wl_nil ?_
  refine thenN ?_
  refine W_seq ?_
  refine W_region ?_
  refine wl_q (r_move (.int _ _) rfl) rfl rfl ?_
  refine wl_q (r_conv us2 Tryz.underlying26 rfl) rfl rfl ?_
  refine wl_q (r_assign (.int _ _) rfl) rfl rfl ?_
  refine wl_nil ?_
  refine thenN ?_
  refine W_seq ?_
  refine W_seq ?_
  refine W_region ?_
  refine wl_q (r_move (.int _ _) rfl) rfl rfl ?_
  refine wl_q (r_bin (.bool (decide _)) rfl rfl rfl) rfl rfl ?_
  refine wl_nil ?_
  refine thenN ?_
  refine W_condD rfl (fun h9 => ?_) (fun h9 => ?_)
  · skip
    refine W_region ?_
    refine wl_q (r_move (.int _ _) rfl) rfl rfl ?_
    refine wl_q (r_neg rfl) rfl rfl ?_
    refine wl_re 11 (.int .u64 ((m : Nat) : Int)) (iE (by rw [wrU, wrU]; omega)) ?_
    refine wl_q (r_assign (.int _ _) rfl) rfl rfl ?_
    refine wl_nil ?_
    refine thenN ?_
    refine W_seq ?_
    refine W_seq ?_
    refine W_region ?_
    refine wl_q (r_assign (.int _ _) rfl) rfl rfl ?_
    refine wl_nil ?_
    refine thenN ?_
    refine W_block ?_
    refine W_rounds 5 (Wr_s ?_)
    refine W_seq ?_
    refine W_seq ?_
    refine W_region ?_
    refine wl_q (r_move (.int _ _) rfl) rfl rfl ?_
    refine wl_q (r_bin (.bool (decide _)) rfl rfl rfl) rfl rfl ?_
    refine wl_re 13 (.bool true) (bT (by first | decide | omega)).symm ?_
    refine wl_nil ?_
    refine thenN ?_
    refine W_condT rfl ?_
    refine W_skip ?_
    refine thenN ?_
    refine W_seq ?_
    refine W_block ?_
    refine W_seq ?_
    refine W_region ?_
    refine wl_q (r_move (.int _ _) rfl) rfl rfl ?_
    refine wl_q (r_move (.int _ _) rfl) rfl rfl ?_
    refine wl_re 17 (.int .u64 ((m : Nat) : Int)) (iE (by first | rfl | (rw [wrU]; omega) | (rw [wrU, wrU]; omega))) ?_
    refine wl_q (r_rem rfl rfl (by decide)) rfl rfl ?_
    refine wl_re 18 (.int .u64 ((m % 65536 : Nat) : Int)) (iE (u_rem (m) 65536)) ?_
    refine wl_q (r_fieldAddr 0 fld197_0 rfl) rfl rfl ?_
    refine wl_q (r_idxP (0) arr195 rfl rfl rfl (by decide)) rfl rfl ?_
    refine wl_st 1 (.int _ _) one26 M2 rfl rfl rfl rfl rfl rfl (fun w3 M3 => ?_)
    refine wl_nil ?_
    refine thenN ?_
    refine W_region ?_
    refine wl_q (r_move (.int _ _) rfl) rfl rfl ?_
    refine wl_re 21 (.int .u64 ((m : Nat) : Int)) (iE (by first | rfl | (rw [wrU]; omega) | (rw [wrU, wrU]; omega))) ?_
    refine wl_q (r_quo rfl rfl (by decide)) rfl rfl ?_
    refine wl_re 22 (.int .u64 ((m / 65536 : Nat) : Int)) (iE (u_quo (m) 65536 (by omega))) ?_
    refine wl_q (r_assign (.int _ _) rfl) rfl rfl ?_
    refine wl_nil ?_
    refine blkN ?_
    refine thenN ?_
    refine W_region ?_
    refine wl_q (r_move (.int _ _) rfl) rfl rfl ?_
    refine wl_q (r_add rfl rfl (by first | decide | omega) (by first | decide | omega)) rfl rfl ?_
    refine wl_re 15 (.int .i64 1) (iE (by first | decide | omega)) ?_
    refine wl_q (r_assign (.int _ _) rfl) rfl rfl ?_
    refine wl_nil ?_
    refine thenN (Wr_s ?_)
    refine W_fresh (fr := [(2, .pointer _), (3, .pointer _), (4, .int _ _), (5, .int .i64 1)]) (agC rfl (agC rfl (agC rfl (agC rfl agN)))) (fun ρ4 => ?_)
    refine W_seq ?_
    refine W_seq ?_
    refine W_region ?_
    refine wl_q (r_move (.int _ _) rfl) rfl rfl ?_
    refine wl_q (r_bin (.bool (decide _)) rfl rfl rfl) rfl rfl ?_
    refine wl_re 13 (.bool true) (bT (by first | decide | omega)).symm ?_
    refine wl_nil ?_
    refine thenN ?_
    refine W_condT rfl ?_
    refine W_skip ?_
    refine thenN ?_
    refine W_seq ?_
    refine W_block ?_
    refine W_seq ?_
    refine W_region ?_
    refine wl_q (r_move (.int _ _) rfl) rfl rfl ?_
    refine wl_q (r_move (.int _ _) rfl) rfl rfl ?_
    refine wl_re 17 (.int .u64 ((m / 65536 : Nat) : Int)) (iE (by first | rfl | (rw [wrU]; omega) | (rw [wrU, wrU]; omega))) ?_
    refine wl_q (r_rem rfl rfl (by decide)) rfl rfl ?_
    refine wl_re 18 (.int .u64 ((m / 65536 % 65536 : Nat) : Int)) (iE (u_rem (m / 65536) 65536)) ?_
    refine wl_q (r_fieldAddr 0 fld197_0 rfl) rfl rfl ?_
    refine wl_q (r_idxP (1) arr195 rfl rfl rfl (by decide)) rfl rfl ?_
    refine wl_st 1 (.int _ _) one26 M3 rfl rfl rfl rfl rfl rfl (fun w5 M5 => ?_)
    refine wl_nil ?_
    refine thenN ?_
    refine W_region ?_
    refine wl_q (r_move (.int _ _) rfl) rfl rfl ?_
    refine wl_re 21 (.int .u64 ((m / 65536 : Nat) : Int)) (iE (by first | rfl | (rw [wrU]; omega) | (rw [wrU, wrU]; omega))) ?_
    refine wl_q (r_quo rfl rfl (by decide)) rfl rfl ?_
    refine wl_re 22 (.int .u64 ((m / 65536 / 65536 : Nat) : Int)) (iE (u_quo (m / 65536) 65536 (by omega))) ?_
    refine wl_q (r_assign (.int _ _) rfl) rfl rfl ?_
    refine wl_nil ?_
    refine blkN ?_
    refine thenN ?_
    refine W_region ?_
    refine wl_q (r_move (.int _ _) rfl) rfl rfl ?_
    refine wl_q (r_add rfl rfl (by first | decide | omega) (by first | decide | omega)) rfl rfl ?_
    refine wl_re 15 (.int .i64 2) (iE (by first | decide | omega)) ?_
    refine wl_q (r_assign (.int _ _) rfl) rfl rfl ?_
    refine wl_nil ?_
    refine thenN (Wr_s ?_)
    refine W_fresh (fr := [(2, .pointer _), (3, .pointer _), (4, .int _ _), (5, .int .i64 2)]) (agC rfl (agC rfl (agC rfl (agC rfl agN)))) (fun ρ6 => ?_)
    refine W_seq ?_
    refine W_seq ?_
    refine W_region ?_
    refine wl_q (r_move (.int _ _) rfl) rfl rfl ?_
    refine wl_q (r_bin (.bool (decide _)) rfl rfl rfl) rfl rfl ?_
    refine wl_re 13 (.bool true) (bT (by first | decide | omega)).symm ?_
    refine wl_nil ?_
    refine thenN ?_
    refine W_condT rfl ?_
    refine W_skip ?_
    refine thenN ?_
    refine W_seq ?_
    refine W_block ?_
    refine W_seq ?_
    refine W_region ?_
    refine wl_q (r_move (.int _ _) rfl) rfl rfl ?_
    refine wl_q (r_move (.int _ _) rfl) rfl rfl ?_
    refine wl_re 17 (.int .u64 ((m / 65536 / 65536 : Nat) : Int)) (iE (by first | rfl | (rw [wrU]; omega) | (rw [wrU, wrU]; omega))) ?_
    refine wl_q (r_rem rfl rfl (by decide)) rfl rfl ?_
    refine wl_re 18 (.int .u64 ((m / 65536 / 65536 % 65536 : Nat) : Int)) (iE (u_rem (m / 65536 / 65536) 65536)) ?_
    refine wl_q (r_fieldAddr 0 fld197_0 rfl) rfl rfl ?_
    refine wl_q (r_idxP (2) arr195 rfl rfl rfl (by decide)) rfl rfl ?_
    refine wl_st 1 (.int _ _) one26 M5 rfl rfl rfl rfl rfl rfl (fun w7 M7 => ?_)
    refine wl_nil ?_
    refine thenN ?_
    refine W_region ?_
    refine wl_q (r_move (.int _ _) rfl) rfl rfl ?_
    refine wl_re 21 (.int .u64 ((m / 65536 / 65536 : Nat) : Int)) (iE (by first | rfl | (rw [wrU]; omega) | (rw [wrU, wrU]; omega))) ?_
    refine wl_q (r_quo rfl rfl (by decide)) rfl rfl ?_
    refine wl_re 22 (.int .u64 ((m / 65536 / 65536 / 65536 : Nat) : Int)) (iE (u_quo (m / 65536 / 65536) 65536 (by omega))) ?_
    refine wl_q (r_assign (.int _ _) rfl) rfl rfl ?_
    refine wl_nil ?_
    refine blkN ?_
    refine thenN ?_
    refine W_region ?_
    refine wl_q (r_move (.int _ _) rfl) rfl rfl ?_
    refine wl_q (r_add rfl rfl (by first | decide | omega) (by first | decide | omega)) rfl rfl ?_
    refine wl_re 15 (.int .i64 3) (iE (by first | decide | omega)) ?_
    refine wl_q (r_assign (.int _ _) rfl) rfl rfl ?_
    refine wl_nil ?_
    refine thenN (Wr_s ?_)
    refine W_fresh (fr := [(2, .pointer _), (3, .pointer _), (4, .int _ _), (5, .int .i64 3)]) (agC rfl (agC rfl (agC rfl (agC rfl agN)))) (fun ρ8 => ?_)
    refine W_seq ?_
    refine W_seq ?_
    refine W_region ?_
    refine wl_q (r_move (.int _ _) rfl) rfl rfl ?_
    refine wl_q (r_bin (.bool (decide _)) rfl rfl rfl) rfl rfl ?_
    refine wl_re 13 (.bool true) (bT (by first | decide | omega)).symm ?_
    refine wl_nil ?_
    refine thenN ?_
    refine W_condT rfl ?_
    refine W_skip ?_
    refine thenN ?_
    refine W_seq ?_
    refine W_block ?_
    refine W_seq ?_
    refine W_region ?_
    refine wl_q (r_move (.int _ _) rfl) rfl rfl ?_
    refine wl_q (r_move (.int _ _) rfl) rfl rfl ?_
    refine wl_re 17 (.int .u64 ((m / 65536 / 65536 / 65536 : Nat) : Int)) (iE (by first | rfl | (rw [wrU]; omega) | (rw [wrU, wrU]; omega))) ?_
    refine wl_q (r_rem rfl rfl (by decide)) rfl rfl ?_
    refine wl_re 18 (.int .u64 ((m / 65536 / 65536 / 65536 % 65536 : Nat) : Int)) (iE (u_rem (m / 65536 / 65536 / 65536) 65536)) ?_
    refine wl_q (r_fieldAddr 0 fld197_0 rfl) rfl rfl ?_
    refine wl_q (r_idxP (3) arr195 rfl rfl rfl (by decide)) rfl rfl ?_
    refine wl_st 1 (.int _ _) one26 M7 rfl rfl rfl rfl rfl rfl (fun w9 M9 => ?_)
    refine wl_nil ?_
    refine thenN ?_
    refine W_region ?_
    refine wl_q (r_move (.int _ _) rfl) rfl rfl ?_
    refine wl_re 21 (.int .u64 ((m / 65536 / 65536 / 65536 : Nat) : Int)) (iE (by first | rfl | (rw [wrU]; omega) | (rw [wrU, wrU]; omega))) ?_
    refine wl_q (r_quo rfl rfl (by decide)) rfl rfl ?_
    refine wl_re 22 (.int .u64 ((m / 65536 / 65536 / 65536 / 65536 : Nat) : Int)) (iE (u_quo (m / 65536 / 65536 / 65536) 65536 (by omega))) ?_
    refine wl_q (r_assign (.int _ _) rfl) rfl rfl ?_
    refine wl_nil ?_
    refine blkN ?_
    refine thenN ?_
    refine W_region ?_
    refine wl_q (r_move (.int _ _) rfl) rfl rfl ?_
    refine wl_q (r_add rfl rfl (by first | decide | omega) (by first | decide | omega)) rfl rfl ?_
    refine wl_re 15 (.int .i64 4) (iE (by first | decide | omega)) ?_
    refine wl_q (r_assign (.int _ _) rfl) rfl rfl ?_
    refine wl_nil ?_
    refine thenN (Wr_s ?_)
    refine W_fresh (fr := [(2, .pointer _), (3, .pointer _), (4, .int _ _), (5, .int .i64 4)]) (agC rfl (agC rfl (agC rfl (agC rfl agN)))) (fun ρ10 => ?_)
    refine W_seq ?_
    refine W_seq ?_
    refine W_region ?_
    refine wl_q (r_move (.int _ _) rfl) rfl rfl ?_
    refine wl_q (r_bin (.bool (decide _)) rfl rfl rfl) rfl rfl ?_
    refine wl_re 13 (.bool false) (bF (by first | decide | omega)).symm ?_
    refine wl_nil ?_
    refine thenN ?_
    refine W_condF rfl ?_
    refine W_exit ?_
    refine thenX ?_
    refine thenX ?_
    refine blkH ?_
    refine thenN ?_
    refine W_seq ?_
    refine W_region ?_
    refine wl_q (r_ldW 1 agg197 M9 rfl rfl rfl) rfl rfl ?_
    refine wl_stW 0 _ agg197 M9 rfl rfl rfl rfl rfl (ones_of rfl) rfl (fun w11 M11 => ?_)
    refine wl_nil ?_
    refine thenN ?_
    refine W_ret ?_
    skip
    refine finC1 0 agg197 M11 rfl rfl rfl ?_
    exact ⟨by rw [← hm]; rfl, M11.below⟩
  · skip
    refine W_skip ?_
    refine thenN ?_
    refine W_seq ?_
    refine W_seq ?_
    refine W_region ?_
    refine wl_q (r_assign (.int _ _) rfl) rfl rfl ?_
    refine wl_nil ?_
    refine thenN ?_
    refine W_block ?_
    refine W_rounds 5 (Wr_s ?_)
    refine W_seq ?_
    refine W_seq ?_
    refine W_region ?_
    refine wl_q (r_move (.int _ _) rfl) rfl rfl ?_
    refine wl_q (r_bin (.bool (decide _)) rfl rfl rfl) rfl rfl ?_
    refine wl_re 13 (.bool true) (bT (by first | decide | omega)).symm ?_
    refine wl_nil ?_
    refine thenN ?_
    refine W_condT rfl ?_
    refine W_skip ?_
    refine thenN ?_
    refine W_seq ?_
    refine W_block ?_
    refine W_seq ?_
    refine W_region ?_
    refine wl_q (r_move (.int _ _) rfl) rfl rfl ?_
    refine wl_q (r_move (.int _ _) rfl) rfl rfl ?_
    refine wl_re 17 (.int .u64 ((m : Nat) : Int)) (iE (by first | rfl | (rw [wrU]; omega) | (rw [wrU, wrU]; omega))) ?_
    refine wl_q (r_rem rfl rfl (by decide)) rfl rfl ?_
    refine wl_re 18 (.int .u64 ((m % 65536 : Nat) : Int)) (iE (u_rem (m) 65536)) ?_
    refine wl_q (r_fieldAddr 0 fld197_0 rfl) rfl rfl ?_
    refine wl_q (r_idxP (0) arr195 rfl rfl rfl (by decide)) rfl rfl ?_
    refine wl_st 1 (.int _ _) one26 M2 rfl rfl rfl rfl rfl rfl (fun w12 M12 => ?_)
    refine wl_nil ?_
    refine thenN ?_
    refine W_region ?_
    refine wl_q (r_move (.int _ _) rfl) rfl rfl ?_
    refine wl_re 21 (.int .u64 ((m : Nat) : Int)) (iE (by first | rfl | (rw [wrU]; omega) | (rw [wrU, wrU]; omega))) ?_
    refine wl_q (r_quo rfl rfl (by decide)) rfl rfl ?_
    refine wl_re 22 (.int .u64 ((m / 65536 : Nat) : Int)) (iE (u_quo (m) 65536 (by omega))) ?_
    refine wl_q (r_assign (.int _ _) rfl) rfl rfl ?_
    refine wl_nil ?_
    refine blkN ?_
    refine thenN ?_
    refine W_region ?_
    refine wl_q (r_move (.int _ _) rfl) rfl rfl ?_
    refine wl_q (r_add rfl rfl (by first | decide | omega) (by first | decide | omega)) rfl rfl ?_
    refine wl_re 15 (.int .i64 1) (iE (by first | decide | omega)) ?_
    refine wl_q (r_assign (.int _ _) rfl) rfl rfl ?_
    refine wl_nil ?_
    refine thenN (Wr_s ?_)
    refine W_fresh (fr := [(2, .pointer _), (3, .pointer _), (4, .int _ _), (5, .int .i64 1)]) (agC rfl (agC rfl (agC rfl (agC rfl agN)))) (fun ρ13 => ?_)
    refine W_seq ?_
    refine W_seq ?_
    refine W_region ?_
    refine wl_q (r_move (.int _ _) rfl) rfl rfl ?_
    refine wl_q (r_bin (.bool (decide _)) rfl rfl rfl) rfl rfl ?_
    refine wl_re 13 (.bool true) (bT (by first | decide | omega)).symm ?_
    refine wl_nil ?_
    refine thenN ?_
    refine W_condT rfl ?_
    refine W_skip ?_
    refine thenN ?_
    refine W_seq ?_
    refine W_block ?_
    refine W_seq ?_
    refine W_region ?_
    refine wl_q (r_move (.int _ _) rfl) rfl rfl ?_
    refine wl_q (r_move (.int _ _) rfl) rfl rfl ?_
    refine wl_re 17 (.int .u64 ((m / 65536 : Nat) : Int)) (iE (by first | rfl | (rw [wrU]; omega) | (rw [wrU, wrU]; omega))) ?_
    refine wl_q (r_rem rfl rfl (by decide)) rfl rfl ?_
    refine wl_re 18 (.int .u64 ((m / 65536 % 65536 : Nat) : Int)) (iE (u_rem (m / 65536) 65536)) ?_
    refine wl_q (r_fieldAddr 0 fld197_0 rfl) rfl rfl ?_
    refine wl_q (r_idxP (1) arr195 rfl rfl rfl (by decide)) rfl rfl ?_
    refine wl_st 1 (.int _ _) one26 M12 rfl rfl rfl rfl rfl rfl (fun w14 M14 => ?_)
    refine wl_nil ?_
    refine thenN ?_
    refine W_region ?_
    refine wl_q (r_move (.int _ _) rfl) rfl rfl ?_
    refine wl_re 21 (.int .u64 ((m / 65536 : Nat) : Int)) (iE (by first | rfl | (rw [wrU]; omega) | (rw [wrU, wrU]; omega))) ?_
    refine wl_q (r_quo rfl rfl (by decide)) rfl rfl ?_
    refine wl_re 22 (.int .u64 ((m / 65536 / 65536 : Nat) : Int)) (iE (u_quo (m / 65536) 65536 (by omega))) ?_
    refine wl_q (r_assign (.int _ _) rfl) rfl rfl ?_
    refine wl_nil ?_
    refine blkN ?_
    refine thenN ?_
    refine W_region ?_
    refine wl_q (r_move (.int _ _) rfl) rfl rfl ?_
    refine wl_q (r_add rfl rfl (by first | decide | omega) (by first | decide | omega)) rfl rfl ?_
    refine wl_re 15 (.int .i64 2) (iE (by first | decide | omega)) ?_
    refine wl_q (r_assign (.int _ _) rfl) rfl rfl ?_
    refine wl_nil ?_
    refine thenN (Wr_s ?_)
    refine W_fresh (fr := [(2, .pointer _), (3, .pointer _), (4, .int _ _), (5, .int .i64 2)]) (agC rfl (agC rfl (agC rfl (agC rfl agN)))) (fun ρ15 => ?_)
    refine W_seq ?_
    refine W_seq ?_
    refine W_region ?_
    refine wl_q (r_move (.int _ _) rfl) rfl rfl ?_
    refine wl_q (r_bin (.bool (decide _)) rfl rfl rfl) rfl rfl ?_
    refine wl_re 13 (.bool true) (bT (by first | decide | omega)).symm ?_
    refine wl_nil ?_
    refine thenN ?_
    refine W_condT rfl ?_
    refine W_skip ?_
    refine thenN ?_
    refine W_seq ?_
    refine W_block ?_
    refine W_seq ?_
    refine W_region ?_
    refine wl_q (r_move (.int _ _) rfl) rfl rfl ?_
    refine wl_q (r_move (.int _ _) rfl) rfl rfl ?_
    refine wl_re 17 (.int .u64 ((m / 65536 / 65536 : Nat) : Int)) (iE (by first | rfl | (rw [wrU]; omega) | (rw [wrU, wrU]; omega))) ?_
    refine wl_q (r_rem rfl rfl (by decide)) rfl rfl ?_
    refine wl_re 18 (.int .u64 ((m / 65536 / 65536 % 65536 : Nat) : Int)) (iE (u_rem (m / 65536 / 65536) 65536)) ?_
    refine wl_q (r_fieldAddr 0 fld197_0 rfl) rfl rfl ?_
    refine wl_q (r_idxP (2) arr195 rfl rfl rfl (by decide)) rfl rfl ?_
    refine wl_st 1 (.int _ _) one26 M14 rfl rfl rfl rfl rfl rfl (fun w16 M16 => ?_)
    refine wl_nil ?_
    refine thenN ?_
    refine W_region ?_
    refine wl_q (r_move (.int _ _) rfl) rfl rfl ?_
    refine wl_re 21 (.int .u64 ((m / 65536 / 65536 : Nat) : Int)) (iE (by first | rfl | (rw [wrU]; omega) | (rw [wrU, wrU]; omega))) ?_
    refine wl_q (r_quo rfl rfl (by decide)) rfl rfl ?_
    refine wl_re 22 (.int .u64 ((m / 65536 / 65536 / 65536 : Nat) : Int)) (iE (u_quo (m / 65536 / 65536) 65536 (by omega))) ?_
    refine wl_q (r_assign (.int _ _) rfl) rfl rfl ?_
    refine wl_nil ?_
    refine blkN ?_
    refine thenN ?_
    refine W_region ?_
    refine wl_q (r_move (.int _ _) rfl) rfl rfl ?_
    refine wl_q (r_add rfl rfl (by first | decide | omega) (by first | decide | omega)) rfl rfl ?_
    refine wl_re 15 (.int .i64 3) (iE (by first | decide | omega)) ?_
    refine wl_q (r_assign (.int _ _) rfl) rfl rfl ?_
    refine wl_nil ?_
    refine thenN (Wr_s ?_)
    refine W_fresh (fr := [(2, .pointer _), (3, .pointer _), (4, .int _ _), (5, .int .i64 3)]) (agC rfl (agC rfl (agC rfl (agC rfl agN)))) (fun ρ17 => ?_)
    refine W_seq ?_
    refine W_seq ?_
    refine W_region ?_
    refine wl_q (r_move (.int _ _) rfl) rfl rfl ?_
    refine wl_q (r_bin (.bool (decide _)) rfl rfl rfl) rfl rfl ?_
    refine wl_re 13 (.bool true) (bT (by first | decide | omega)).symm ?_
    refine wl_nil ?_
    refine thenN ?_
    refine W_condT rfl ?_
    refine W_skip ?_
    refine thenN ?_
    refine W_seq ?_
    refine W_block ?_
    refine W_seq ?_
    refine W_region ?_
    refine wl_q (r_move (.int _ _) rfl) rfl rfl ?_
    refine wl_q (r_move (.int _ _) rfl) rfl rfl ?_
    refine wl_re 17 (.int .u64 ((m / 65536 / 65536 / 65536 : Nat) : Int)) (iE (by first | rfl | (rw [wrU]; omega) | (rw [wrU, wrU]; omega))) ?_
    refine wl_q (r_rem rfl rfl (by decide)) rfl rfl ?_
    refine wl_re 18 (.int .u64 ((m / 65536 / 65536 / 65536 % 65536 : Nat) : Int)) (iE (u_rem (m / 65536 / 65536 / 65536) 65536)) ?_
    refine wl_q (r_fieldAddr 0 fld197_0 rfl) rfl rfl ?_
    refine wl_q (r_idxP (3) arr195 rfl rfl rfl (by decide)) rfl rfl ?_
    refine wl_st 1 (.int _ _) one26 M16 rfl rfl rfl rfl rfl rfl (fun w18 M18 => ?_)
    refine wl_nil ?_
    refine thenN ?_
    refine W_region ?_
    refine wl_q (r_move (.int _ _) rfl) rfl rfl ?_
    refine wl_re 21 (.int .u64 ((m / 65536 / 65536 / 65536 : Nat) : Int)) (iE (by first | rfl | (rw [wrU]; omega) | (rw [wrU, wrU]; omega))) ?_
    refine wl_q (r_quo rfl rfl (by decide)) rfl rfl ?_
    refine wl_re 22 (.int .u64 ((m / 65536 / 65536 / 65536 / 65536 : Nat) : Int)) (iE (u_quo (m / 65536 / 65536 / 65536) 65536 (by omega))) ?_
    refine wl_q (r_assign (.int _ _) rfl) rfl rfl ?_
    refine wl_nil ?_
    refine blkN ?_
    refine thenN ?_
    refine W_region ?_
    refine wl_q (r_move (.int _ _) rfl) rfl rfl ?_
    refine wl_q (r_add rfl rfl (by first | decide | omega) (by first | decide | omega)) rfl rfl ?_
    refine wl_re 15 (.int .i64 4) (iE (by first | decide | omega)) ?_
    refine wl_q (r_assign (.int _ _) rfl) rfl rfl ?_
    refine wl_nil ?_
    refine thenN (Wr_s ?_)
    refine W_fresh (fr := [(2, .pointer _), (3, .pointer _), (4, .int _ _), (5, .int .i64 4)]) (agC rfl (agC rfl (agC rfl (agC rfl agN)))) (fun ρ19 => ?_)
    refine W_seq ?_
    refine W_seq ?_
    refine W_region ?_
    refine wl_q (r_move (.int _ _) rfl) rfl rfl ?_
    refine wl_q (r_bin (.bool (decide _)) rfl rfl rfl) rfl rfl ?_
    refine wl_re 13 (.bool false) (bF (by first | decide | omega)).symm ?_
    refine wl_nil ?_
    refine thenN ?_
    refine W_condF rfl ?_
    refine W_exit ?_
    refine thenX ?_
    refine thenX ?_
    refine blkH ?_
    refine thenN ?_
    refine W_seq ?_
    refine W_region ?_
    refine wl_q (r_ldW 1 agg197 M18 rfl rfl rfl) rfl rfl ?_
    refine wl_stW 0 _ agg197 M18 rfl rfl rfl rfl rfl (ones_of rfl) rfl (fun w20 M20 => ?_)
    refine wl_nil ?_
    refine thenN ?_
    refine W_ret ?_
    skip
    refine finC1 0 agg197 M20 rfl rfl rfl ?_
    exact ⟨by rw [← hm]; rfl, M20.below⟩

end Go.Proofs.YtmcddmhkjcgneaaGreatDoor

/- Walks of Go functions over the frame of this claim: what each computes, for every input of the stated types (Z1b). -/
set_option linter.unusedVariables false
set_option linter.unusedSimpArgs false
set_option linter.unnecessarySimpa false
namespace Go.Proofs.YtmcddmhkjcgneaaGreatDoor
open Go.Bil
open Go.RowKit (Below)
open Go.Proofs

set_option maxHeartbeats 64000000 in
set_option maxRecDepth 10000 in
theorem ref01_product (w : World) (a b : Int) (ha0 : -9223372036854775808 ≤ a) (ha1 : a ≤ 9223372036854775807) (hb0 : -9223372036854775808 ≤ b) (hb1 : b ≤ 9223372036854775807) :
    Calls Tryz.prog 128 #[.int .i64 a, .int .i64 b] w (fun ex w' => ∃ v, ex = .returned v ∧ (fun v w' => ∃ D : List Nat, v = (.agg ((D).map u64Cell).toArray) ∧ D.length = 8 ∧ (∀ x ∈ D, x < 65536) ∧ valD D = a.natAbs * b.natAbs ∧ Below w.heap.size w w') v w') := by
  obtain ⟨x0, x1, x2, x3, hx, hx0, hx1, hx2, hx3, hX⟩ := digs4 (m := a.natAbs) (by omega)
  obtain ⟨y0, y1, y2, y3, hy, hy0, hy1, hy2, hy3, hY⟩ := digs4 (m := b.natAbs) (by omega)
  refine calls_of_W #[.cell 4 197] 57 Tryz.func128 rfl Tryz.results128 Tryz.ntmps128 rfl ?_
  have M0 := Mem.refl w
  refine W_seq ?_
  refine W_region ?_
  refine wl_alloc zero197 M0 rfl rfl (fun b1 w1 M1 => ?_)
  refine wl_nil ?_
  refine thenN ?_
  refine W_seq ?_
  refine W_region ?_
  refine wl_q (r_move (.int _ _) rfl) rfl rfl ?_
  refine wl_cal cal144 rfl rfl rfl ?_
  refine (ref01_digits _ a ha0 ha1).mono ?_
  rintro _ w2 ⟨v2, rfl, ⟨rfl, hb2⟩⟩
  refine ⟨_, rfl, ?_⟩
  have M2 := M1.callB hb2
  refine wl_re 13 (.agg (List.map u64Cell [x0, x1, x2, x3, 0, 0, 0, 0]).toArray) (congrArg (fun l => Value.agg (List.map u64Cell l).toArray) hx) ?_
  refine wl_alloc zero197 M2 rfl rfl (fun b3 w3 M3 => ?_)
  refine wl_stW 1 _ agg197 M3 rfl rfl rfl rfl rfl (ones_of rfl) rfl (fun w4 M4 => ?_)
  refine wl_nil ?_
  refine thenN ?_
  refine W_seq ?_
  refine W_region ?_
  refine wl_q (r_move (.int _ _) rfl) rfl rfl ?_
  refine wl_cal cal144 rfl rfl rfl ?_
  refine (ref01_digits _ b hb0 hb1).mono ?_
  rintro _ w5 ⟨v5, rfl, ⟨rfl, hb5⟩⟩
  refine ⟨_, rfl, ?_⟩
  have M5 := M4.callB hb5
  refine wl_re 15 (.agg (List.map u64Cell [y0, y1, y2, y3, 0, 0, 0, 0]).toArray) (congrArg (fun l => Value.agg (List.map u64Cell l).toArray) hy) ?_
  refine wl_alloc zero197 M5 rfl rfl (fun b6 w6 M6 => ?_)
  refine wl_stW 2 _ agg197 M6 rfl rfl rfl rfl rfl (ones_of rfl) rfl (fun w7 M7 => ?_)
  refine wl_nil ?_
  refine thenN ?_
  refine W_seq ?_
  refine W_region ?_
  refine wl_alloc zero197 M7 rfl rfl (fun b8 w8 M8 => ?_)
  refine wl_nil ?_
  refine thenN ?_
  refine W_seq ?_
  refine W_seq ?_
  refine W_region ?_
  refine wl_q (r_assign (.int _ _) rfl) rfl rfl ?_
  refine wl_nil ?_
  refine thenN ?_
  refine W_block ?_
  refine W_rounds 5 (Wr_s ?_)
  refine W_seq ?_
  refine W_seq ?_
  refine W_region ?_
  refine wl_q (r_move (.int _ _) rfl) rfl rfl ?_
  refine wl_q (r_bin (.bool (decide _)) rfl rfl rfl) rfl rfl ?_
  refine wl_re 17 (.bool true) (bT (by first | decide | omega)).symm ?_
  refine wl_nil ?_
  refine thenN ?_
  refine W_condT rfl ?_
  refine W_skip ?_
  refine thenN ?_
  refine W_seq ?_
  refine W_block ?_
  refine W_seq ?_
  refine W_region ?_
  refine wl_q (r_assign (.int _ _) rfl) rfl rfl ?_
  refine wl_nil ?_
  refine thenN ?_
  refine W_seq ?_
  refine W_seq ?_
  refine W_region ?_
  refine wl_q (r_assign (.int _ _) rfl) rfl rfl ?_
  refine wl_nil ?_
  refine thenN ?_
  refine W_block ?_
  refine W_rounds 5 (Wr_s ?_)
  refine W_seq ?_
  refine W_seq ?_
  refine W_region ?_
  refine wl_q (r_move (.int _ _) rfl) rfl rfl ?_
  refine wl_q (r_bin (.bool (decide _)) rfl rfl rfl) rfl rfl ?_
  refine wl_re 21 (.bool true) (bT (by first | decide | omega)).symm ?_
  refine wl_nil ?_
  refine thenN ?_
  refine W_condT rfl ?_
  refine W_skip ?_
  refine thenN ?_
  refine W_seq ?_
  refine W_block ?_
  refine W_seq ?_
  refine W_draw [(0, 0), (1, 0), (2, 0), (3, 0), (4, 0), (5, 1), (6, 0), (7, 0), (8, 0), (9, 1), (10, 0), (11, 0), (12, 0), (13, 1), (14, 0), (15, 0), (16, 0), (17, 0), (18, 0)] mixed rfl (by kernel_rfl) (fun w9 hb9 hh9 => ?_)
  have M9 := M8.drew hb9 hh9
  obtain ⟨t00, ht00, ba00, bb00, bc00, bd00, be00⟩ := mul_step2 (z := 0) (c := 0) (x := x0) (y := y0) (by decide) (by decide) hx0 hy0
  refine D_p rfl rfl rfl (fun _ => r_move (.int _ _) rfl) ?_
  refine D_p rfl rfl rfl (fun _ => r_move (.int _ _) rfl) ?_
  refine D_p rfl rfl rfl (fun _ => r_add rfl rfl (by first | decide | omega) (by first | decide | omega)) ?_
  refine D_p rfl rfl rfl (fun _ => r_fieldAddr 0 fld197_0 rfl) ?_
  refine D_p rfl rfl rfl (fun _ => r_idxP (0) arr195 rfl rfl rfl (by decide)) ?_
  refine D_r rfl rfl rfl (r_ld 3 (.int _ _) one26 M9 rfl rfl rfl) ?_
  refine D_p rfl rfl rfl (fun _ => r_move (.int _ _) rfl) ?_
  refine D_p rfl rfl rfl (fun _ => r_fieldAddr 0 fld197_0 rfl) ?_
  refine D_p rfl rfl rfl (fun _ => r_idxP (0) arr195 rfl rfl rfl (by decide)) ?_
  refine D_r rfl rfl rfl (r_ld 1 (.int _ _) one26 M9 rfl rfl rfl) ?_
  refine D_p rfl rfl rfl (fun _ => r_move (.int _ _) rfl) ?_
  refine D_p rfl rfl rfl (fun _ => r_fieldAddr 0 fld197_0 rfl) ?_
  refine D_p rfl rfl rfl (fun _ => r_idxP (0) arr195 rfl rfl rfl (by decide)) ?_
  refine D_r rfl rfl rfl (r_ld 2 (.int _ _) one26 M9 rfl rfl rfl) ?_
  refine D_p rfl rfl rfl (fun _ => r_bin (.int _ _) rfl rfl rfl) ?_
  refine D_re 38 (.int .u64 ((x0 * y0 : Nat) : Int)) (iE (mulU x0 y0 ba00)) ?_
  refine D_p rfl rfl rfl (fun _ => r_bin (.int _ _) rfl rfl rfl) ?_
  refine D_re 39 (.int .u64 ((0 + x0 * y0 : Nat) : Int)) (iE (addU (0) (x0 * y0) bb00)) ?_
  refine D_p rfl rfl rfl (fun _ => r_move (.int _ _) rfl) ?_
  refine D_p rfl rfl rfl (fun _ => r_bin (.int _ _) rfl rfl rfl) ?_
  refine D_re 41 (.int .u64 (t00 : Int)) (iE ((addU (0 + x0 * y0) (0) bc00).trans (congrArg _ ht00.symm))) ?_
  refine D_p rfl rfl rfl (fun _ => r_assign (.int _ _) rfl) ?_
  refine D_nil ?_
  refine thenN ?_
  refine W_seq ?_
  refine W_region ?_
  refine wl_q (r_move (.int _ _) rfl) rfl rfl ?_
  refine wl_q (r_move (.int _ _) rfl) rfl rfl ?_
  refine wl_q (r_add rfl rfl (by first | decide | omega) (by first | decide | omega)) rfl rfl ?_
  refine wl_re 44 (.int .i64 0) (iE (by first | decide | omega)) ?_
  refine wl_q (r_move (.int _ _) rfl) rfl rfl ?_
  refine wl_q (r_rem rfl rfl (by decide)) rfl rfl ?_
  refine wl_re 46 (.int .u64 ((t00 % 65536 : Nat) : Int)) (iE (u_rem t00 65536)) ?_
  refine wl_q (r_fieldAddr 0 fld197_0 rfl) rfl rfl ?_
  refine wl_q (r_idxP (0) arr195 rfl rfl rfl (by decide)) rfl rfl ?_
  refine wl_st 3 (.int _ _) one26 M9 rfl rfl rfl rfl rfl rfl (fun w10 M10 => ?_)
  refine wl_nil ?_
  refine thenN ?_
  refine W_region ?_
  refine wl_q (r_move (.int _ _) rfl) rfl rfl ?_
  refine wl_q (r_quo rfl rfl (by decide)) rfl rfl ?_
  refine wl_re 50 (.int .u64 ((t00 / 65536 : Nat) : Int)) (iE (u_quo t00 65536 bd00)) ?_
  refine wl_q (r_assign (.int _ _) rfl) rfl rfl ?_
  refine wl_nil ?_
  refine blkN ?_
  refine thenN ?_
  refine W_region ?_
  refine wl_q (r_move (.int _ _) rfl) rfl rfl ?_
  refine wl_q (r_add rfl rfl (by first | decide | omega) (by first | decide | omega)) rfl rfl ?_
  refine wl_re 23 (.int .i64 1) (iE (by first | decide | omega)) ?_
  refine wl_q (r_assign (.int _ _) rfl) rfl rfl ?_
  refine wl_nil ?_
  refine thenN (Wr_s ?_)
  refine W_fresh (fr := [(4, .pointer _), (5, .pointer _), (6, .pointer _), (7, .pointer _), (8, .int .i64 0), (9, .int _ _), (10, .int .i64 1), (11, .int _ _), (16, .int .i64 0), (17, .bool true)]) (agC rfl (agC rfl (agC rfl (agC rfl (agC rfl (agC rfl (agC rfl (agC rfl (agC rfl (agC rfl agN)))))))))) (fun ρ11 => ?_)
  have M12 : Mem _ _ [_, _, _, (some _, bc [.int .u64 ((t00 % 65536 : Nat) : Int), .int .u64 0, .int .u64 0, .int .u64 0, .int .u64 0, .int .u64 0, .int .u64 0, .int .u64 0] 197)] _ := M10
  refine W_seq ?_
  refine W_seq ?_
  refine W_region ?_
  refine wl_q (r_move (.int _ _) rfl) rfl rfl ?_
  refine wl_q (r_bin (.bool (decide _)) rfl rfl rfl) rfl rfl ?_
  refine wl_re 21 (.bool true) (bT (by first | decide | omega)).symm ?_
  refine wl_nil ?_
  refine thenN ?_
  refine W_condT rfl ?_
  refine W_skip ?_
  refine thenN ?_
  refine W_seq ?_
  refine W_block ?_
  refine W_seq ?_
  refine W_draw [(0, 0), (1, 0), (2, 0), (3, 0), (4, 0), (5, 1), (6, 0), (7, 0), (8, 0), (9, 1), (10, 0), (11, 0), (12, 0), (13, 1), (14, 0), (15, 0), (16, 0), (17, 0), (18, 0)] mixed rfl (by kernel_rfl) (fun w13 hb13 hh13 => ?_)
  have M13 := M12.drew hb13 hh13
  obtain ⟨t01, ht01, ba01, bb01, bc01, bd01, be01⟩ := mul_step2 (z := 0) (c := t00 / 65536) (x := x0) (y := y1) (by decide) be00 hx0 hy1
  refine D_p rfl rfl rfl (fun _ => r_move (.int _ _) rfl) ?_
  refine D_p rfl rfl rfl (fun _ => r_move (.int _ _) rfl) ?_
  refine D_p rfl rfl rfl (fun _ => r_add rfl rfl (by first | decide | omega) (by first | decide | omega)) ?_
  refine D_p rfl rfl rfl (fun _ => r_fieldAddr 0 fld197_0 rfl) ?_
  refine D_p rfl rfl rfl (fun _ => r_idxP (1) arr195 rfl rfl rfl (by decide)) ?_
  refine D_r rfl rfl rfl (r_ld 3 (.int _ _) one26 M13 rfl rfl rfl) ?_
  refine D_p rfl rfl rfl (fun _ => r_move (.int _ _) rfl) ?_
  refine D_p rfl rfl rfl (fun _ => r_fieldAddr 0 fld197_0 rfl) ?_
  refine D_p rfl rfl rfl (fun _ => r_idxP (0) arr195 rfl rfl rfl (by decide)) ?_
  refine D_r rfl rfl rfl (r_ld 1 (.int _ _) one26 M13 rfl rfl rfl) ?_
  refine D_p rfl rfl rfl (fun _ => r_move (.int _ _) rfl) ?_
  refine D_p rfl rfl rfl (fun _ => r_fieldAddr 0 fld197_0 rfl) ?_
  refine D_p rfl rfl rfl (fun _ => r_idxP (1) arr195 rfl rfl rfl (by decide)) ?_
  refine D_r rfl rfl rfl (r_ld 2 (.int _ _) one26 M13 rfl rfl rfl) ?_
  refine D_p rfl rfl rfl (fun _ => r_bin (.int _ _) rfl rfl rfl) ?_
  refine D_re 38 (.int .u64 ((x0 * y1 : Nat) : Int)) (iE (mulU x0 y1 ba01)) ?_
  refine D_p rfl rfl rfl (fun _ => r_bin (.int _ _) rfl rfl rfl) ?_
  refine D_re 39 (.int .u64 ((0 + x0 * y1 : Nat) : Int)) (iE (addU (0) (x0 * y1) bb01)) ?_
  refine D_p rfl rfl rfl (fun _ => r_move (.int _ _) rfl) ?_
  refine D_p rfl rfl rfl (fun _ => r_bin (.int _ _) rfl rfl rfl) ?_
  refine D_re 41 (.int .u64 (t01 : Int)) (iE ((addU (0 + x0 * y1) (t00 / 65536) bc01).trans (congrArg _ ht01.symm))) ?_
  refine D_p rfl rfl rfl (fun _ => r_assign (.int _ _) rfl) ?_
  refine D_nil ?_
  refine thenN ?_
  refine W_seq ?_
  refine W_region ?_
  refine wl_q (r_move (.int _ _) rfl) rfl rfl ?_
  refine wl_q (r_move (.int _ _) rfl) rfl rfl ?_
  refine wl_q (r_add rfl rfl (by first | decide | omega) (by first | decide | omega)) rfl rfl ?_
  refine wl_re 44 (.int .i64 1) (iE (by first | decide | omega)) ?_
  refine wl_q (r_move (.int _ _) rfl) rfl rfl ?_
  refine wl_q (r_rem rfl rfl (by decide)) rfl rfl ?_
  refine wl_re 46 (.int .u64 ((t01 % 65536 : Nat) : Int)) (iE (u_rem t01 65536)) ?_
  refine wl_q (r_fieldAddr 0 fld197_0 rfl) rfl rfl ?_
  refine wl_q (r_idxP (1) arr195 rfl rfl rfl (by decide)) rfl rfl ?_
  refine wl_st 3 (.int _ _) one26 M13 rfl rfl rfl rfl rfl rfl (fun w14 M14 => ?_)
  refine wl_nil ?_
  refine thenN ?_
  refine W_region ?_
  refine wl_q (r_move (.int _ _) rfl) rfl rfl ?_
  refine wl_q (r_quo rfl rfl (by decide)) rfl rfl ?_
  refine wl_re 50 (.int .u64 ((t01 / 65536 : Nat) : Int)) (iE (u_quo t01 65536 bd01)) ?_
  refine wl_q (r_assign (.int _ _) rfl) rfl rfl ?_
  refine wl_nil ?_
  refine blkN ?_
  refine thenN ?_
  refine W_region ?_
  refine wl_q (r_move (.int _ _) rfl) rfl rfl ?_
  refine wl_q (r_add rfl rfl (by first | decide | omega) (by first | decide | omega)) rfl rfl ?_
  refine wl_re 23 (.int .i64 2) (iE (by first | decide | omega)) ?_
  refine wl_q (r_assign (.int _ _) rfl) rfl rfl ?_
  refine wl_nil ?_
  refine thenN (Wr_s ?_)
  refine W_fresh (fr := [(4, .pointer _), (5, .pointer _), (6, .pointer _), (7, .pointer _), (8, .int .i64 0), (9, .int _ _), (10, .int .i64 2), (11, .int _ _), (16, .int .i64 0), (17, .bool true)]) (agC rfl (agC rfl (agC rfl (agC rfl (agC rfl (agC rfl (agC rfl (agC rfl (agC rfl (agC rfl agN)))))))))) (fun ρ15 => ?_)
  have M16 : Mem _ _ [_, _, _, (some _, bc [.int .u64 ((t00 % 65536 : Nat) : Int), .int .u64 ((t01 % 65536 : Nat) : Int), .int .u64 0, .int .u64 0, .int .u64 0, .int .u64 0, .int .u64 0, .int .u64 0] 197)] _ := M14
  refine W_seq ?_
  refine W_seq ?_
  refine W_region ?_
  refine wl_q (r_move (.int _ _) rfl) rfl rfl ?_
  refine wl_q (r_bin (.bool (decide _)) rfl rfl rfl) rfl rfl ?_
  refine wl_re 21 (.bool true) (bT (by first | decide | omega)).symm ?_
  refine wl_nil ?_
  refine thenN ?_
  refine W_condT rfl ?_
  refine W_skip ?_
  refine thenN ?_
  refine W_seq ?_
  refine W_block ?_
  refine W_seq ?_
  refine W_draw [(0, 0), (1, 0), (2, 0), (3, 0), (4, 0), (5, 1), (6, 0), (7, 0), (8, 0), (9, 1), (10, 0), (11, 0), (12, 0), (13, 1), (14, 0), (15, 0), (16, 0), (17, 0), (18, 0)] mixed rfl (by kernel_rfl) (fun w17 hb17 hh17 => ?_)
  have M17 := M16.drew hb17 hh17
  obtain ⟨t02, ht02, ba02, bb02, bc02, bd02, be02⟩ := mul_step2 (z := 0) (c := t01 / 65536) (x := x0) (y := y2) (by decide) be01 hx0 hy2
  refine D_p rfl rfl rfl (fun _ => r_move (.int _ _) rfl) ?_
  refine D_p rfl rfl rfl (fun _ => r_move (.int _ _) rfl) ?_
  refine D_p rfl rfl rfl (fun _ => r_add rfl rfl (by first | decide | omega) (by first | decide | omega)) ?_
  refine D_p rfl rfl rfl (fun _ => r_fieldAddr 0 fld197_0 rfl) ?_
  refine D_p rfl rfl rfl (fun _ => r_idxP (2) arr195 rfl rfl rfl (by decide)) ?_
  refine D_r rfl rfl rfl (r_ld 3 (.int _ _) one26 M17 rfl rfl rfl) ?_
  refine D_p rfl rfl rfl (fun _ => r_move (.int _ _) rfl) ?_
  refine D_p rfl rfl rfl (fun _ => r_fieldAddr 0 fld197_0 rfl) ?_
  refine D_p rfl rfl rfl (fun _ => r_idxP (0) arr195 rfl rfl rfl (by decide)) ?_
  refine D_r rfl rfl rfl (r_ld 1 (.int _ _) one26 M17 rfl rfl rfl) ?_
  refine D_p rfl rfl rfl (fun _ => r_move (.int _ _) rfl) ?_
  refine D_p rfl rfl rfl (fun _ => r_fieldAddr 0 fld197_0 rfl) ?_
  refine D_p rfl rfl rfl (fun _ => r_idxP (2) arr195 rfl rfl rfl (by decide)) ?_
  refine D_r rfl rfl rfl (r_ld 2 (.int _ _) one26 M17 rfl rfl rfl) ?_
  refine D_p rfl rfl rfl (fun _ => r_bin (.int _ _) rfl rfl rfl) ?_
  refine D_re 38 (.int .u64 ((x0 * y2 : Nat) : Int)) (iE (mulU x0 y2 ba02)) ?_
  refine D_p rfl rfl rfl (fun _ => r_bin (.int _ _) rfl rfl rfl) ?_
  refine D_re 39 (.int .u64 ((0 + x0 * y2 : Nat) : Int)) (iE (addU (0) (x0 * y2) bb02)) ?_
  refine D_p rfl rfl rfl (fun _ => r_move (.int _ _) rfl) ?_
  refine D_p rfl rfl rfl (fun _ => r_bin (.int _ _) rfl rfl rfl) ?_
  refine D_re 41 (.int .u64 (t02 : Int)) (iE ((addU (0 + x0 * y2) (t01 / 65536) bc02).trans (congrArg _ ht02.symm))) ?_
  refine D_p rfl rfl rfl (fun _ => r_assign (.int _ _) rfl) ?_
  refine D_nil ?_
  refine thenN ?_
  refine W_seq ?_
  refine W_region ?_
  refine wl_q (r_move (.int _ _) rfl) rfl rfl ?_
  refine wl_q (r_move (.int _ _) rfl) rfl rfl ?_
  refine wl_q (r_add rfl rfl (by first | decide | omega) (by first | decide | omega)) rfl rfl ?_
  refine wl_re 44 (.int .i64 2) (iE (by first | decide | omega)) ?_
  refine wl_q (r_move (.int _ _) rfl) rfl rfl ?_
  refine wl_q (r_rem rfl rfl (by decide)) rfl rfl ?_
  refine wl_re 46 (.int .u64 ((t02 % 65536 : Nat) : Int)) (iE (u_rem t02 65536)) ?_
  refine wl_q (r_fieldAddr 0 fld197_0 rfl) rfl rfl ?_
  refine wl_q (r_idxP (2) arr195 rfl rfl rfl (by decide)) rfl rfl ?_
  refine wl_st 3 (.int _ _) one26 M17 rfl rfl rfl rfl rfl rfl (fun w18 M18 => ?_)
  refine wl_nil ?_
  refine thenN ?_
  refine W_region ?_
  refine wl_q (r_move (.int _ _) rfl) rfl rfl ?_
  refine wl_q (r_quo rfl rfl (by decide)) rfl rfl ?_
  refine wl_re 50 (.int .u64 ((t02 / 65536 : Nat) : Int)) (iE (u_quo t02 65536 bd02)) ?_
  refine wl_q (r_assign (.int _ _) rfl) rfl rfl ?_
  refine wl_nil ?_
  refine blkN ?_
  refine thenN ?_
  refine W_region ?_
  refine wl_q (r_move (.int _ _) rfl) rfl rfl ?_
  refine wl_q (r_add rfl rfl (by first | decide | omega) (by first | decide | omega)) rfl rfl ?_
  refine wl_re 23 (.int .i64 3) (iE (by first | decide | omega)) ?_
  refine wl_q (r_assign (.int _ _) rfl) rfl rfl ?_
  refine wl_nil ?_
  refine thenN (Wr_s ?_)
  refine W_fresh (fr := [(4, .pointer _), (5, .pointer _), (6, .pointer _), (7, .pointer _), (8, .int .i64 0), (9, .int _ _), (10, .int .i64 3), (11, .int _ _), (16, .int .i64 0), (17, .bool true)]) (agC rfl (agC rfl (agC rfl (agC rfl (agC rfl (agC rfl (agC rfl (agC rfl (agC rfl (agC rfl agN)))))))))) (fun ρ19 => ?_)
  have M20 : Mem _ _ [_, _, _, (some _, bc [.int .u64 ((t00 % 65536 : Nat) : Int), .int .u64 ((t01 % 65536 : Nat) : Int), .int .u64 ((t02 % 65536 : Nat) : Int), .int .u64 0, .int .u64 0, .int .u64 0, .int .u64 0, .int .u64 0] 197)] _ := M18
  refine W_seq ?_
  refine W_seq ?_
  refine W_region ?_
  refine wl_q (r_move (.int _ _) rfl) rfl rfl ?_
  refine wl_q (r_bin (.bool (decide _)) rfl rfl rfl) rfl rfl ?_
  refine wl_re 21 (.bool true) (bT (by first | decide | omega)).symm ?_
  refine wl_nil ?_
  refine thenN ?_
  refine W_condT rfl ?_
  refine W_skip ?_
  refine thenN ?_
  refine W_seq ?_
  refine W_block ?_
  refine W_seq ?_
  refine W_draw [(0, 0), (1, 0), (2, 0), (3, 0), (4, 0), (5, 1), (6, 0), (7, 0), (8, 0), (9, 1), (10, 0), (11, 0), (12, 0), (13, 1), (14, 0), (15, 0), (16, 0), (17, 0), (18, 0)] mixed rfl (by kernel_rfl) (fun w21 hb21 hh21 => ?_)
  have M21 := M20.drew hb21 hh21
  obtain ⟨t03, ht03, ba03, bb03, bc03, bd03, be03⟩ := mul_step2 (z := 0) (c := t02 / 65536) (x := x0) (y := y3) (by decide) be02 hx0 hy3
  refine D_p rfl rfl rfl (fun _ => r_move (.int _ _) rfl) ?_
  refine D_p rfl rfl rfl (fun _ => r_move (.int _ _) rfl) ?_
  refine D_p rfl rfl rfl (fun _ => r_add rfl rfl (by first | decide | omega) (by first | decide | omega)) ?_
  refine D_p rfl rfl rfl (fun _ => r_fieldAddr 0 fld197_0 rfl) ?_
  refine D_p rfl rfl rfl (fun _ => r_idxP (3) arr195 rfl rfl rfl (by decide)) ?_
  refine D_r rfl rfl rfl (r_ld 3 (.int _ _) one26 M21 rfl rfl rfl) ?_
  refine D_p rfl rfl rfl (fun _ => r_move (.int _ _) rfl) ?_
  refine D_p rfl rfl rfl (fun _ => r_fieldAddr 0 fld197_0 rfl) ?_
  refine D_p rfl rfl rfl (fun _ => r_idxP (0) arr195 rfl rfl rfl (by decide)) ?_
  refine D_r rfl rfl rfl (r_ld 1 (.int _ _) one26 M21 rfl rfl rfl) ?_
  refine D_p rfl rfl rfl (fun _ => r_move (.int _ _) rfl) ?_
  refine D_p rfl rfl rfl (fun _ => r_fieldAddr 0 fld197_0 rfl) ?_
  refine D_p rfl rfl rfl (fun _ => r_idxP (3) arr195 rfl rfl rfl (by decide)) ?_
  refine D_r rfl rfl rfl (r_ld 2 (.int _ _) one26 M21 rfl rfl rfl) ?_
  refine D_p rfl rfl rfl (fun _ => r_bin (.int _ _) rfl rfl rfl) ?_
  refine D_re 38 (.int .u64 ((x0 * y3 : Nat) : Int)) (iE (mulU x0 y3 ba03)) ?_
  refine D_p rfl rfl rfl (fun _ => r_bin (.int _ _) rfl rfl rfl) ?_
  refine D_re 39 (.int .u64 ((0 + x0 * y3 : Nat) : Int)) (iE (addU (0) (x0 * y3) bb03)) ?_
  refine D_p rfl rfl rfl (fun _ => r_move (.int _ _) rfl) ?_
  refine D_p rfl rfl rfl (fun _ => r_bin (.int _ _) rfl rfl rfl) ?_
  refine D_re 41 (.int .u64 (t03 : Int)) (iE ((addU (0 + x0 * y3) (t02 / 65536) bc03).trans (congrArg _ ht03.symm))) ?_
  refine D_p rfl rfl rfl (fun _ => r_assign (.int _ _) rfl) ?_
  refine D_nil ?_
  refine thenN ?_
  refine W_seq ?_
  refine W_region ?_
  refine wl_q (r_move (.int _ _) rfl) rfl rfl ?_
  refine wl_q (r_move (.int _ _) rfl) rfl rfl ?_
  refine wl_q (r_add rfl rfl (by first | decide | omega) (by first | decide | omega)) rfl rfl ?_
  refine wl_re 44 (.int .i64 3) (iE (by first | decide | omega)) ?_
  refine wl_q (r_move (.int _ _) rfl) rfl rfl ?_
  refine wl_q (r_rem rfl rfl (by decide)) rfl rfl ?_
  refine wl_re 46 (.int .u64 ((t03 % 65536 : Nat) : Int)) (iE (u_rem t03 65536)) ?_
  refine wl_q (r_fieldAddr 0 fld197_0 rfl) rfl rfl ?_
  refine wl_q (r_idxP (3) arr195 rfl rfl rfl (by decide)) rfl rfl ?_
  refine wl_st 3 (.int _ _) one26 M21 rfl rfl rfl rfl rfl rfl (fun w22 M22 => ?_)
  refine wl_nil ?_
  refine thenN ?_
  refine W_region ?_
  refine wl_q (r_move (.int _ _) rfl) rfl rfl ?_
  refine wl_q (r_quo rfl rfl (by decide)) rfl rfl ?_
  refine wl_re 50 (.int .u64 ((t03 / 65536 : Nat) : Int)) (iE (u_quo t03 65536 bd03)) ?_
  refine wl_q (r_assign (.int _ _) rfl) rfl rfl ?_
  refine wl_nil ?_
  refine blkN ?_
  refine thenN ?_
  refine W_region ?_
  refine wl_q (r_move (.int _ _) rfl) rfl rfl ?_
  refine wl_q (r_add rfl rfl (by first | decide | omega) (by first | decide | omega)) rfl rfl ?_
  refine wl_re 23 (.int .i64 4) (iE (by first | decide | omega)) ?_
  refine wl_q (r_assign (.int _ _) rfl) rfl rfl ?_
  refine wl_nil ?_
  refine thenN (Wr_s ?_)
  refine W_fresh (fr := [(4, .pointer _), (5, .pointer _), (6, .pointer _), (7, .pointer _), (8, .int .i64 0), (9, .int _ _), (10, .int .i64 4), (11, .int _ _), (16, .int .i64 0), (17, .bool true)]) (agC rfl (agC rfl (agC rfl (agC rfl (agC rfl (agC rfl (agC rfl (agC rfl (agC rfl (agC rfl agN)))))))))) (fun ρ23 => ?_)
  have M24 : Mem _ _ [_, _, _, (some _, bc [.int .u64 ((t00 % 65536 : Nat) : Int), .int .u64 ((t01 % 65536 : Nat) : Int), .int .u64 ((t02 % 65536 : Nat) : Int), .int .u64 ((t03 % 65536 : Nat) : Int), .int .u64 0, .int .u64 0, .int .u64 0, .int .u64 0] 197)] _ := M22
  refine W_seq ?_
  refine W_seq ?_
  refine W_region ?_
  refine wl_q (r_move (.int _ _) rfl) rfl rfl ?_
  refine wl_q (r_bin (.bool (decide _)) rfl rfl rfl) rfl rfl ?_
  refine wl_re 21 (.bool false) (bF (by first | decide | omega)).symm ?_
  refine wl_nil ?_
  refine thenN ?_
  refine W_condF rfl ?_
  refine W_exit ?_
  refine thenX ?_
  refine thenX ?_
  refine blkH ?_
  refine thenN ?_
  refine W_region ?_
  refine wl_q (r_move (.int _ _) rfl) rfl rfl ?_
  refine wl_q (r_add rfl rfl (by first | decide | omega) (by first | decide | omega)) rfl rfl ?_
  refine wl_re 52 (.int .i64 4) (iE (by first | decide | omega)) ?_
  refine wl_q (r_move (.int _ _) rfl) rfl rfl ?_
  refine wl_q (r_fieldAddr 0 fld197_0 rfl) rfl rfl ?_
  refine wl_q (r_idxP (4) arr195 rfl rfl rfl (by decide)) rfl rfl ?_
  refine wl_st 3 (.int _ _) one26 M24 rfl rfl rfl rfl rfl rfl (fun w25 M25 => ?_)
  refine wl_nil ?_
  refine blkN ?_
  refine thenN ?_
  refine W_region ?_
  refine wl_q (r_move (.int _ _) rfl) rfl rfl ?_
  refine wl_q (r_add rfl rfl (by first | decide | omega) (by first | decide | omega)) rfl rfl ?_
  refine wl_re 19 (.int .i64 1) (iE (by first | decide | omega)) ?_
  refine wl_q (r_assign (.int _ _) rfl) rfl rfl ?_
  refine wl_nil ?_
  refine thenN (Wr_s ?_)
  refine W_fresh (fr := [(4, .pointer _), (5, .pointer _), (6, .pointer _), (7, .pointer _), (8, .int .i64 1), (9, .int _ _), (10, .int .i64 4), (11, .int _ _)]) (agC rfl (agC rfl (agC rfl (agC rfl (agC rfl (agC rfl (agC rfl (agC rfl agN)))))))) (fun ρ26 => ?_)
  have M27 : Mem _ _ [_, _, _, (some _, bc [.int .u64 ((t00 % 65536 : Nat) : Int), .int .u64 ((t01 % 65536 : Nat) : Int), .int .u64 ((t02 % 65536 : Nat) : Int), .int .u64 ((t03 % 65536 : Nat) : Int), .int .u64 ((t03 / 65536 : Nat) : Int), .int .u64 0, .int .u64 0, .int .u64 0] 197)] _ := M25
  refine W_seq ?_
  refine W_seq ?_
  refine W_region ?_
  refine wl_q (r_move (.int _ _) rfl) rfl rfl ?_
  refine wl_q (r_bin (.bool (decide _)) rfl rfl rfl) rfl rfl ?_
  refine wl_re 17 (.bool true) (bT (by first | decide | omega)).symm ?_
  refine wl_nil ?_
  refine thenN ?_
  refine W_condT rfl ?_
  refine W_skip ?_
  refine thenN ?_
  refine W_seq ?_
  refine W_block ?_
  refine W_seq ?_
  refine W_region ?_
  refine wl_q (r_assign (.int _ _) rfl) rfl rfl ?_
  refine wl_nil ?_
  refine thenN ?_
  refine W_seq ?_
  refine W_seq ?_
  refine W_region ?_
  refine wl_q (r_assign (.int _ _) rfl) rfl rfl ?_
  refine wl_nil ?_
  refine thenN ?_
  refine W_block ?_
  refine W_rounds 5 (Wr_s ?_)
  refine W_seq ?_
  refine W_seq ?_
  refine W_region ?_
  refine wl_q (r_move (.int _ _) rfl) rfl rfl ?_
  refine wl_q (r_bin (.bool (decide _)) rfl rfl rfl) rfl rfl ?_
  refine wl_re 21 (.bool true) (bT (by first | decide | omega)).symm ?_
  refine wl_nil ?_
  refine thenN ?_
  refine W_condT rfl ?_
  refine W_skip ?_
  refine thenN ?_
  refine W_seq ?_
  refine W_block ?_
  refine W_seq ?_
  refine W_draw [(0, 0), (1, 0), (2, 0), (3, 0), (4, 0), (5, 1), (6, 0), (7, 0), (8, 0), (9, 1), (10, 0), (11, 0), (12, 0), (13, 1), (14, 0), (15, 0), (16, 0), (17, 0), (18, 0)] mixed rfl (by kernel_rfl) (fun w28 hb28 hh28 => ?_)
  have M28 := M27.drew hb28 hh28
  obtain ⟨t10, ht10, ba10, bb10, bc10, bd10, be10⟩ := mul_step2 (z := t01 % 65536) (c := 0) (x := x1) (y := y0) (Nat.mod_lt _ (by decide)) (by decide) hx1 hy0
  refine D_p rfl rfl rfl (fun _ => r_move (.int _ _) rfl) ?_
  refine D_p rfl rfl rfl (fun _ => r_move (.int _ _) rfl) ?_
  refine D_p rfl rfl rfl (fun _ => r_add rfl rfl (by first | decide | omega) (by first | decide | omega)) ?_
  refine D_p rfl rfl rfl (fun _ => r_fieldAddr 0 fld197_0 rfl) ?_
  refine D_p rfl rfl rfl (fun _ => r_idxP (1) arr195 rfl rfl rfl (by decide)) ?_
  refine D_r rfl rfl rfl (r_ld 3 (.int _ _) one26 M28 rfl rfl rfl) ?_
  refine D_p rfl rfl rfl (fun _ => r_move (.int _ _) rfl) ?_
  refine D_p rfl rfl rfl (fun _ => r_fieldAddr 0 fld197_0 rfl) ?_
  refine D_p rfl rfl rfl (fun _ => r_idxP (1) arr195 rfl rfl rfl (by decide)) ?_
  refine D_r rfl rfl rfl (r_ld 1 (.int _ _) one26 M28 rfl rfl rfl) ?_
  refine D_p rfl rfl rfl (fun _ => r_move (.int _ _) rfl) ?_
  refine D_p rfl rfl rfl (fun _ => r_fieldAddr 0 fld197_0 rfl) ?_
  refine D_p rfl rfl rfl (fun _ => r_idxP (0) arr195 rfl rfl rfl (by decide)) ?_
  refine D_r rfl rfl rfl (r_ld 2 (.int _ _) one26 M28 rfl rfl rfl) ?_
  refine D_p rfl rfl rfl (fun _ => r_bin (.int _ _) rfl rfl rfl) ?_
  refine D_re 38 (.int .u64 ((x1 * y0 : Nat) : Int)) (iE (mulU x1 y0 ba10)) ?_
  refine D_p rfl rfl rfl (fun _ => r_bin (.int _ _) rfl rfl rfl) ?_
  refine D_re 39 (.int .u64 ((t01 % 65536 + x1 * y0 : Nat) : Int)) (iE (addU (t01 % 65536) (x1 * y0) bb10)) ?_
  refine D_p rfl rfl rfl (fun _ => r_move (.int _ _) rfl) ?_
  refine D_p rfl rfl rfl (fun _ => r_bin (.int _ _) rfl rfl rfl) ?_
  refine D_re 41 (.int .u64 (t10 : Int)) (iE ((addU (t01 % 65536 + x1 * y0) (0) bc10).trans (congrArg _ ht10.symm))) ?_
  refine D_p rfl rfl rfl (fun _ => r_assign (.int _ _) rfl) ?_
  refine D_nil ?_
  refine thenN ?_
  refine W_seq ?_
  refine W_region ?_
  refine wl_q (r_move (.int _ _) rfl) rfl rfl ?_
  refine wl_q (r_move (.int _ _) rfl) rfl rfl ?_
  refine wl_q (r_add rfl rfl (by first | decide | omega) (by first | decide | omega)) rfl rfl ?_
  refine wl_re 44 (.int .i64 1) (iE (by first | decide | omega)) ?_
  refine wl_q (r_move (.int _ _) rfl) rfl rfl ?_
  refine wl_q (r_rem rfl rfl (by decide)) rfl rfl ?_
  refine wl_re 46 (.int .u64 ((t10 % 65536 : Nat) : Int)) (iE (u_rem t10 65536)) ?_
  refine wl_q (r_fieldAddr 0 fld197_0 rfl) rfl rfl ?_
  refine wl_q (r_idxP (1) arr195 rfl rfl rfl (by decide)) rfl rfl ?_
  refine wl_st 3 (.int _ _) one26 M28 rfl rfl rfl rfl rfl rfl (fun w29 M29 => ?_)
  refine wl_nil ?_
  refine thenN ?_
  refine W_region ?_
  refine wl_q (r_move (.int _ _) rfl) rfl rfl ?_
  refine wl_q (r_quo rfl rfl (by decide)) rfl rfl ?_
  refine wl_re 50 (.int .u64 ((t10 / 65536 : Nat) : Int)) (iE (u_quo t10 65536 bd10)) ?_
  refine wl_q (r_assign (.int _ _) rfl) rfl rfl ?_
  refine wl_nil ?_
  refine blkN ?_
  refine thenN ?_
  refine W_region ?_
  refine wl_q (r_move (.int _ _) rfl) rfl rfl ?_
  refine wl_q (r_add rfl rfl (by first | decide | omega) (by first | decide | omega)) rfl rfl ?_
  refine wl_re 23 (.int .i64 1) (iE (by first | decide | omega)) ?_
  refine wl_q (r_assign (.int _ _) rfl) rfl rfl ?_
  refine wl_nil ?_
  refine thenN (Wr_s ?_)
  refine W_fresh (fr := [(4, .pointer _), (5, .pointer _), (6, .pointer _), (7, .pointer _), (8, .int .i64 1), (9, .int _ _), (10, .int .i64 1), (11, .int _ _), (16, .int .i64 1), (17, .bool true)]) (agC rfl (agC rfl (agC rfl (agC rfl (agC rfl (agC rfl (agC rfl (agC rfl (agC rfl (agC rfl agN)))))))))) (fun ρ30 => ?_)
  have M31 : Mem _ _ [_, _, _, (some _, bc [.int .u64 ((t00 % 65536 : Nat) : Int), .int .u64 ((t10 % 65536 : Nat) : Int), .int .u64 ((t02 % 65536 : Nat) : Int), .int .u64 ((t03 % 65536 : Nat) : Int), .int .u64 ((t03 / 65536 : Nat) : Int), .int .u64 0, .int .u64 0, .int .u64 0] 197)] _ := M29
  refine W_seq ?_
  refine W_seq ?_
  refine W_region ?_
  refine wl_q (r_move (.int _ _) rfl) rfl rfl ?_
  refine wl_q (r_bin (.bool (decide _)) rfl rfl rfl) rfl rfl ?_
  refine wl_re 21 (.bool true) (bT (by first | decide | omega)).symm ?_
  refine wl_nil ?_
  refine thenN ?_
  refine W_condT rfl ?_
  refine W_skip ?_
  refine thenN ?_
  refine W_seq ?_
  refine W_block ?_
  refine W_seq ?_
  refine W_draw [(0, 0), (1, 0), (2, 0), (3, 0), (4, 0), (5, 1), (6, 0), (7, 0), (8, 0), (9, 1), (10, 0), (11, 0), (12, 0), (13, 1), (14, 0), (15, 0), (16, 0), (17, 0), (18, 0)] mixed rfl (by kernel_rfl) (fun w32 hb32 hh32 => ?_)
  have M32 := M31.drew hb32 hh32
  obtain ⟨t11, ht11, ba11, bb11, bc11, bd11, be11⟩ := mul_step2 (z := t02 % 65536) (c := t10 / 65536) (x := x1) (y := y1) (Nat.mod_lt _ (by decide)) be10 hx1 hy1
  refine D_p rfl rfl rfl (fun _ => r_move (.int _ _) rfl) ?_
  refine D_p rfl rfl rfl (fun _ => r_move (.int _ _) rfl) ?_
  refine D_p rfl rfl rfl (fun _ => r_add rfl rfl (by first | decide | omega) (by first | decide | omega)) ?_
  refine D_p rfl rfl rfl (fun _ => r_fieldAddr 0 fld197_0 rfl) ?_
  refine D_p rfl rfl rfl (fun _ => r_idxP (2) arr195 rfl rfl rfl (by decide)) ?_
  refine D_r rfl rfl rfl (r_ld 3 (.int _ _) one26 M32 rfl rfl rfl) ?_
  refine D_p rfl rfl rfl (fun _ => r_move (.int _ _) rfl) ?_
  refine D_p rfl rfl rfl (fun _ => r_fieldAddr 0 fld197_0 rfl) ?_
  refine D_p rfl rfl rfl (fun _ => r_idxP (1) arr195 rfl rfl rfl (by decide)) ?_
  refine D_r rfl rfl rfl (r_ld 1 (.int _ _) one26 M32 rfl rfl rfl) ?_
  refine D_p rfl rfl rfl (fun _ => r_move (.int _ _) rfl) ?_
  refine D_p rfl rfl rfl (fun _ => r_fieldAddr 0 fld197_0 rfl) ?_
  refine D_p rfl rfl rfl (fun _ => r_idxP (1) arr195 rfl rfl rfl (by decide)) ?_
  refine D_r rfl rfl rfl (r_ld 2 (.int _ _) one26 M32 rfl rfl rfl) ?_
  refine D_p rfl rfl rfl (fun _ => r_bin (.int _ _) rfl rfl rfl) ?_
  refine D_re 38 (.int .u64 ((x1 * y1 : Nat) : Int)) (iE (mulU x1 y1 ba11)) ?_
  refine D_p rfl rfl rfl (fun _ => r_bin (.int _ _) rfl rfl rfl) ?_
  refine D_re 39 (.int .u64 ((t02 % 65536 + x1 * y1 : Nat) : Int)) (iE (addU (t02 % 65536) (x1 * y1) bb11)) ?_
  refine D_p rfl rfl rfl (fun _ => r_move (.int _ _) rfl) ?_
  refine D_p rfl rfl rfl (fun _ => r_bin (.int _ _) rfl rfl rfl) ?_
  refine D_re 41 (.int .u64 (t11 : Int)) (iE ((addU (t02 % 65536 + x1 * y1) (t10 / 65536) bc11).trans (congrArg _ ht11.symm))) ?_
  refine D_p rfl rfl rfl (fun _ => r_assign (.int _ _) rfl) ?_
  refine D_nil ?_
  refine thenN ?_
  refine W_seq ?_
  refine W_region ?_
  refine wl_q (r_move (.int _ _) rfl) rfl rfl ?_
  refine wl_q (r_move (.int _ _) rfl) rfl rfl ?_
  refine wl_q (r_add rfl rfl (by first | decide | omega) (by first | decide | omega)) rfl rfl ?_
  refine wl_re 44 (.int .i64 2) (iE (by first | decide | omega)) ?_
  refine wl_q (r_move (.int _ _) rfl) rfl rfl ?_
  refine wl_q (r_rem rfl rfl (by decide)) rfl rfl ?_
  refine wl_re 46 (.int .u64 ((t11 % 65536 : Nat) : Int)) (iE (u_rem t11 65536)) ?_
  refine wl_q (r_fieldAddr 0 fld197_0 rfl) rfl rfl ?_
  refine wl_q (r_idxP (2) arr195 rfl rfl rfl (by decide)) rfl rfl ?_
  refine wl_st 3 (.int _ _) one26 M32 rfl rfl rfl rfl rfl rfl (fun w33 M33 => ?_)
  refine wl_nil ?_
  refine thenN ?_
  refine W_region ?_
  refine wl_q (r_move (.int _ _) rfl) rfl rfl ?_
  refine wl_q (r_quo rfl rfl (by decide)) rfl rfl ?_
  refine wl_re 50 (.int .u64 ((t11 / 65536 : Nat) : Int)) (iE (u_quo t11 65536 bd11)) ?_
  refine wl_q (r_assign (.int _ _) rfl) rfl rfl ?_
  refine wl_nil ?_
  refine blkN ?_
  refine thenN ?_
  refine W_region ?_
  refine wl_q (r_move (.int _ _) rfl) rfl rfl ?_
  refine wl_q (r_add rfl rfl (by first | decide | omega) (by first | decide | omega)) rfl rfl ?_
  refine wl_re 23 (.int .i64 2) (iE (by first | decide | omega)) ?_
  refine wl_q (r_assign (.int _ _) rfl) rfl rfl ?_
  refine wl_nil ?_
  refine thenN (Wr_s ?_)
  refine W_fresh (fr := [(4, .pointer _), (5, .pointer _), (6, .pointer _), (7, .pointer _), (8, .int .i64 1), (9, .int _ _), (10, .int .i64 2), (11, .int _ _), (16, .int .i64 1), (17, .bool true)]) (agC rfl (agC rfl (agC rfl (agC rfl (agC rfl (agC rfl (agC rfl (agC rfl (agC rfl (agC rfl agN)))))))))) (fun ρ34 => ?_)
  have M35 : Mem _ _ [_, _, _, (some _, bc [.int .u64 ((t00 % 65536 : Nat) : Int), .int .u64 ((t10 % 65536 : Nat) : Int), .int .u64 ((t11 % 65536 : Nat) : Int), .int .u64 ((t03 % 65536 : Nat) : Int), .int .u64 ((t03 / 65536 : Nat) : Int), .int .u64 0, .int .u64 0, .int .u64 0] 197)] _ := M33
  refine W_seq ?_
  refine W_seq ?_
  refine W_region ?_
  refine wl_q (r_move (.int _ _) rfl) rfl rfl ?_
  refine wl_q (r_bin (.bool (decide _)) rfl rfl rfl) rfl rfl ?_
  refine wl_re 21 (.bool true) (bT (by first | decide | omega)).symm ?_
  refine wl_nil ?_
  refine thenN ?_
  refine W_condT rfl ?_
  refine W_skip ?_
  refine thenN ?_
  refine W_seq ?_
  refine W_block ?_
  refine W_seq ?_
  refine W_draw [(0, 0), (1, 0), (2, 0), (3, 0), (4, 0), (5, 1), (6, 0), (7, 0), (8, 0), (9, 1), (10, 0), (11, 0), (12, 0), (13, 1), (14, 0), (15, 0), (16, 0), (17, 0), (18, 0)] mixed rfl (by kernel_rfl) (fun w36 hb36 hh36 => ?_)
  have M36 := M35.drew hb36 hh36
  obtain ⟨t12, ht12, ba12, bb12, bc12, bd12, be12⟩ := mul_step2 (z := t03 % 65536) (c := t11 / 65536) (x := x1) (y := y2) (Nat.mod_lt _ (by decide)) be11 hx1 hy2
  refine D_p rfl rfl rfl (fun _ => r_move (.int _ _) rfl) ?_
  refine D_p rfl rfl rfl (fun _ => r_move (.int _ _) rfl) ?_
  refine D_p rfl rfl rfl (fun _ => r_add rfl rfl (by first | decide | omega) (by first | decide | omega)) ?_
  refine D_p rfl rfl rfl (fun _ => r_fieldAddr 0 fld197_0 rfl) ?_
  refine D_p rfl rfl rfl (fun _ => r_idxP (3) arr195 rfl rfl rfl (by decide)) ?_
  refine D_r rfl rfl rfl (r_ld 3 (.int _ _) one26 M36 rfl rfl rfl) ?_
  refine D_p rfl rfl rfl (fun _ => r_move (.int _ _) rfl) ?_
  refine D_p rfl rfl rfl (fun _ => r_fieldAddr 0 fld197_0 rfl) ?_
  refine D_p rfl rfl rfl (fun _ => r_idxP (1) arr195 rfl rfl rfl (by decide)) ?_
  refine D_r rfl rfl rfl (r_ld 1 (.int _ _) one26 M36 rfl rfl rfl) ?_
  refine D_p rfl rfl rfl (fun _ => r_move (.int _ _) rfl) ?_
  refine D_p rfl rfl rfl (fun _ => r_fieldAddr 0 fld197_0 rfl) ?_
  refine D_p rfl rfl rfl (fun _ => r_idxP (2) arr195 rfl rfl rfl (by decide)) ?_
  refine D_r rfl rfl rfl (r_ld 2 (.int _ _) one26 M36 rfl rfl rfl) ?_
  refine D_p rfl rfl rfl (fun _ => r_bin (.int _ _) rfl rfl rfl) ?_
  refine D_re 38 (.int .u64 ((x1 * y2 : Nat) : Int)) (iE (mulU x1 y2 ba12)) ?_
  refine D_p rfl rfl rfl (fun _ => r_bin (.int _ _) rfl rfl rfl) ?_
  refine D_re 39 (.int .u64 ((t03 % 65536 + x1 * y2 : Nat) : Int)) (iE (addU (t03 % 65536) (x1 * y2) bb12)) ?_
  refine D_p rfl rfl rfl (fun _ => r_move (.int _ _) rfl) ?_
  refine D_p rfl rfl rfl (fun _ => r_bin (.int _ _) rfl rfl rfl) ?_
  refine D_re 41 (.int .u64 (t12 : Int)) (iE ((addU (t03 % 65536 + x1 * y2) (t11 / 65536) bc12).trans (congrArg _ ht12.symm))) ?_
  refine D_p rfl rfl rfl (fun _ => r_assign (.int _ _) rfl) ?_
  refine D_nil ?_
  refine thenN ?_
  refine W_seq ?_
  refine W_region ?_
  refine wl_q (r_move (.int _ _) rfl) rfl rfl ?_
  refine wl_q (r_move (.int _ _) rfl) rfl rfl ?_
  refine wl_q (r_add rfl rfl (by first | decide | omega) (by first | decide | omega)) rfl rfl ?_
  refine wl_re 44 (.int .i64 3) (iE (by first | decide | omega)) ?_
  refine wl_q (r_move (.int _ _) rfl) rfl rfl ?_
  refine wl_q (r_rem rfl rfl (by decide)) rfl rfl ?_
  refine wl_re 46 (.int .u64 ((t12 % 65536 : Nat) : Int)) (iE (u_rem t12 65536)) ?_
  refine wl_q (r_fieldAddr 0 fld197_0 rfl) rfl rfl ?_
  refine wl_q (r_idxP (3) arr195 rfl rfl rfl (by decide)) rfl rfl ?_
  refine wl_st 3 (.int _ _) one26 M36 rfl rfl rfl rfl rfl rfl (fun w37 M37 => ?_)
  refine wl_nil ?_
  refine thenN ?_
  refine W_region ?_
  refine wl_q (r_move (.int _ _) rfl) rfl rfl ?_
  refine wl_q (r_quo rfl rfl (by decide)) rfl rfl ?_
  refine wl_re 50 (.int .u64 ((t12 / 65536 : Nat) : Int)) (iE (u_quo t12 65536 bd12)) ?_
  refine wl_q (r_assign (.int _ _) rfl) rfl rfl ?_
  refine wl_nil ?_
  refine blkN ?_
  refine thenN ?_
  refine W_region ?_
  refine wl_q (r_move (.int _ _) rfl) rfl rfl ?_
  refine wl_q (r_add rfl rfl (by first | decide | omega) (by first | decide | omega)) rfl rfl ?_
  refine wl_re 23 (.int .i64 3) (iE (by first | decide | omega)) ?_
  refine wl_q (r_assign (.int _ _) rfl) rfl rfl ?_
  refine wl_nil ?_
  refine thenN (Wr_s ?_)
  refine W_fresh (fr := [(4, .pointer _), (5, .pointer _), (6, .pointer _), (7, .pointer _), (8, .int .i64 1), (9, .int _ _), (10, .int .i64 3), (11, .int _ _), (16, .int .i64 1), (17, .bool true)]) (agC rfl (agC rfl (agC rfl (agC rfl (agC rfl (agC rfl (agC rfl (agC rfl (agC rfl (agC rfl agN)))))))))) (fun ρ38 => ?_)
  have M39 : Mem _ _ [_, _, _, (some _, bc [.int .u64 ((t00 % 65536 : Nat) : Int), .int .u64 ((t10 % 65536 : Nat) : Int), .int .u64 ((t11 % 65536 : Nat) : Int), .int .u64 ((t12 % 65536 : Nat) : Int), .int .u64 ((t03 / 65536 : Nat) : Int), .int .u64 0, .int .u64 0, .int .u64 0] 197)] _ := M37
  refine W_seq ?_
  refine W_seq ?_
  refine W_region ?_
  refine wl_q (r_move (.int _ _) rfl) rfl rfl ?_
  refine wl_q (r_bin (.bool (decide _)) rfl rfl rfl) rfl rfl ?_
  refine wl_re 21 (.bool true) (bT (by first | decide | omega)).symm ?_
  refine wl_nil ?_
  refine thenN ?_
  refine W_condT rfl ?_
  refine W_skip ?_
  refine thenN ?_
  refine W_seq ?_
  refine W_block ?_
  refine W_seq ?_
  refine W_draw [(0, 0), (1, 0), (2, 0), (3, 0), (4, 0), (5, 1), (6, 0), (7, 0), (8, 0), (9, 1), (10, 0), (11, 0), (12, 0), (13, 1), (14, 0), (15, 0), (16, 0), (17, 0), (18, 0)] mixed rfl (by kernel_rfl) (fun w40 hb40 hh40 => ?_)
  have M40 := M39.drew hb40 hh40
  obtain ⟨t13, ht13, ba13, bb13, bc13, bd13, be13⟩ := mul_step2 (z := t03 / 65536) (c := t12 / 65536) (x := x1) (y := y3) be03 be12 hx1 hy3
  refine D_p rfl rfl rfl (fun _ => r_move (.int _ _) rfl) ?_
  refine D_p rfl rfl rfl (fun _ => r_move (.int _ _) rfl) ?_
  refine D_p rfl rfl rfl (fun _ => r_add rfl rfl (by first | decide | omega) (by first | decide | omega)) ?_
  refine D_p rfl rfl rfl (fun _ => r_fieldAddr 0 fld197_0 rfl) ?_
  refine D_p rfl rfl rfl (fun _ => r_idxP (4) arr195 rfl rfl rfl (by decide)) ?_
  refine D_r rfl rfl rfl (r_ld 3 (.int _ _) one26 M40 rfl rfl rfl) ?_
  refine D_p rfl rfl rfl (fun _ => r_move (.int _ _) rfl) ?_
  refine D_p rfl rfl rfl (fun _ => r_fieldAddr 0 fld197_0 rfl) ?_
  refine D_p rfl rfl rfl (fun _ => r_idxP (1) arr195 rfl rfl rfl (by decide)) ?_
  refine D_r rfl rfl rfl (r_ld 1 (.int _ _) one26 M40 rfl rfl rfl) ?_
  refine D_p rfl rfl rfl (fun _ => r_move (.int _ _) rfl) ?_
  refine D_p rfl rfl rfl (fun _ => r_fieldAddr 0 fld197_0 rfl) ?_
  refine D_p rfl rfl rfl (fun _ => r_idxP (3) arr195 rfl rfl rfl (by decide)) ?_
  refine D_r rfl rfl rfl (r_ld 2 (.int _ _) one26 M40 rfl rfl rfl) ?_
  refine D_p rfl rfl rfl (fun _ => r_bin (.int _ _) rfl rfl rfl) ?_
  refine D_re 38 (.int .u64 ((x1 * y3 : Nat) : Int)) (iE (mulU x1 y3 ba13)) ?_
  refine D_p rfl rfl rfl (fun _ => r_bin (.int _ _) rfl rfl rfl) ?_
  refine D_re 39 (.int .u64 ((t03 / 65536 + x1 * y3 : Nat) : Int)) (iE (addU (t03 / 65536) (x1 * y3) bb13)) ?_
  refine D_p rfl rfl rfl (fun _ => r_move (.int _ _) rfl) ?_
  refine D_p rfl rfl rfl (fun _ => r_bin (.int _ _) rfl rfl rfl) ?_
  refine D_re 41 (.int .u64 (t13 : Int)) (iE ((addU (t03 / 65536 + x1 * y3) (t12 / 65536) bc13).trans (congrArg _ ht13.symm))) ?_
  refine D_p rfl rfl rfl (fun _ => r_assign (.int _ _) rfl) ?_
  refine D_nil ?_
  refine thenN ?_
  refine W_seq ?_
  refine W_region ?_
  refine wl_q (r_move (.int _ _) rfl) rfl rfl ?_
  refine wl_q (r_move (.int _ _) rfl) rfl rfl ?_
  refine wl_q (r_add rfl rfl (by first | decide | omega) (by first | decide | omega)) rfl rfl ?_
  refine wl_re 44 (.int .i64 4) (iE (by first | decide | omega)) ?_
  refine wl_q (r_move (.int _ _) rfl) rfl rfl ?_
  refine wl_q (r_rem rfl rfl (by decide)) rfl rfl ?_
  refine wl_re 46 (.int .u64 ((t13 % 65536 : Nat) : Int)) (iE (u_rem t13 65536)) ?_
  refine wl_q (r_fieldAddr 0 fld197_0 rfl) rfl rfl ?_
  refine wl_q (r_idxP (4) arr195 rfl rfl rfl (by decide)) rfl rfl ?_
  refine wl_st 3 (.int _ _) one26 M40 rfl rfl rfl rfl rfl rfl (fun w41 M41 => ?_)
  refine wl_nil ?_
  refine thenN ?_
  refine W_region ?_
  refine wl_q (r_move (.int _ _) rfl) rfl rfl ?_
  refine wl_q (r_quo rfl rfl (by decide)) rfl rfl ?_
  refine wl_re 50 (.int .u64 ((t13 / 65536 : Nat) : Int)) (iE (u_quo t13 65536 bd13)) ?_
  refine wl_q (r_assign (.int _ _) rfl) rfl rfl ?_
  refine wl_nil ?_
  refine blkN ?_
  refine thenN ?_
  refine W_region ?_
  refine wl_q (r_move (.int _ _) rfl) rfl rfl ?_
  refine wl_q (r_add rfl rfl (by first | decide | omega) (by first | decide | omega)) rfl rfl ?_
  refine wl_re 23 (.int .i64 4) (iE (by first | decide | omega)) ?_
  refine wl_q (r_assign (.int _ _) rfl) rfl rfl ?_
  refine wl_nil ?_
  refine thenN (Wr_s ?_)
  refine W_fresh (fr := [(4, .pointer _), (5, .pointer _), (6, .pointer _), (7, .pointer _), (8, .int .i64 1), (9, .int _ _), (10, .int .i64 4), (11, .int _ _), (16, .int .i64 1), (17, .bool true)]) (agC rfl (agC rfl (agC rfl (agC rfl (agC rfl (agC rfl (agC rfl (agC rfl (agC rfl (agC rfl agN)))))))))) (fun ρ42 => ?_)
  have M43 : Mem _ _ [_, _, _, (some _, bc [.int .u64 ((t00 % 65536 : Nat) : Int), .int .u64 ((t10 % 65536 : Nat) : Int), .int .u64 ((t11 % 65536 : Nat) : Int), .int .u64 ((t12 % 65536 : Nat) : Int), .int .u64 ((t13 % 65536 : Nat) : Int), .int .u64 0, .int .u64 0, .int .u64 0] 197)] _ := M41
  refine W_seq ?_
  refine W_seq ?_
  refine W_region ?_
  refine wl_q (r_move (.int _ _) rfl) rfl rfl ?_
  refine wl_q (r_bin (.bool (decide _)) rfl rfl rfl) rfl rfl ?_
  refine wl_re 21 (.bool false) (bF (by first | decide | omega)).symm ?_
  refine wl_nil ?_
  refine thenN ?_
  refine W_condF rfl ?_
  refine W_exit ?_
  refine thenX ?_
  refine thenX ?_
  refine blkH ?_
  refine thenN ?_
  refine W_region ?_
  refine wl_q (r_move (.int _ _) rfl) rfl rfl ?_
  refine wl_q (r_add rfl rfl (by first | decide | omega) (by first | decide | omega)) rfl rfl ?_
  refine wl_re 52 (.int .i64 5) (iE (by first | decide | omega)) ?_
  refine wl_q (r_move (.int _ _) rfl) rfl rfl ?_
  refine wl_q (r_fieldAddr 0 fld197_0 rfl) rfl rfl ?_
  refine wl_q (r_idxP (5) arr195 rfl rfl rfl (by decide)) rfl rfl ?_
  refine wl_st 3 (.int _ _) one26 M43 rfl rfl rfl rfl rfl rfl (fun w44 M44 => ?_)
  refine wl_nil ?_
  refine blkN ?_
  refine thenN ?_
  refine W_region ?_
  refine wl_q (r_move (.int _ _) rfl) rfl rfl ?_
  refine wl_q (r_add rfl rfl (by first | decide | omega) (by first | decide | omega)) rfl rfl ?_
  refine wl_re 19 (.int .i64 2) (iE (by first | decide | omega)) ?_
  refine wl_q (r_assign (.int _ _) rfl) rfl rfl ?_
  refine wl_nil ?_
  refine thenN (Wr_s ?_)
  refine W_fresh (fr := [(4, .pointer _), (5, .pointer _), (6, .pointer _), (7, .pointer _), (8, .int .i64 2), (9, .int _ _), (10, .int .i64 4), (11, .int _ _)]) (agC rfl (agC rfl (agC rfl (agC rfl (agC rfl (agC rfl (agC rfl (agC rfl agN)))))))) (fun ρ45 => ?_)
  have M46 : Mem _ _ [_, _, _, (some _, bc [.int .u64 ((t00 % 65536 : Nat) : Int), .int .u64 ((t10 % 65536 : Nat) : Int), .int .u64 ((t11 % 65536 : Nat) : Int), .int .u64 ((t12 % 65536 : Nat) : Int), .int .u64 ((t13 % 65536 : Nat) : Int), .int .u64 ((t13 / 65536 : Nat) : Int), .int .u64 0, .int .u64 0] 197)] _ := M44
  refine W_seq ?_
  refine W_seq ?_
  refine W_region ?_
  refine wl_q (r_move (.int _ _) rfl) rfl rfl ?_
  refine wl_q (r_bin (.bool (decide _)) rfl rfl rfl) rfl rfl ?_
  refine wl_re 17 (.bool true) (bT (by first | decide | omega)).symm ?_
  refine wl_nil ?_
  refine thenN ?_
  refine W_condT rfl ?_
  refine W_skip ?_
  refine thenN ?_
  refine W_seq ?_
  refine W_block ?_
  refine W_seq ?_
  refine W_region ?_
  refine wl_q (r_assign (.int _ _) rfl) rfl rfl ?_
  refine wl_nil ?_
  refine thenN ?_
  refine W_seq ?_
  refine W_seq ?_
  refine W_region ?_
  refine wl_q (r_assign (.int _ _) rfl) rfl rfl ?_
  refine wl_nil ?_
  refine thenN ?_
  refine W_block ?_
  refine W_rounds 5 (Wr_s ?_)
  refine W_seq ?_
  refine W_seq ?_
  refine W_region ?_
  refine wl_q (r_move (.int _ _) rfl) rfl rfl ?_
  refine wl_q (r_bin (.bool (decide _)) rfl rfl rfl) rfl rfl ?_
  refine wl_re 21 (.bool true) (bT (by first | decide | omega)).symm ?_
  refine wl_nil ?_
  refine thenN ?_
  refine W_condT rfl ?_
  refine W_skip ?_
  refine thenN ?_
  refine W_seq ?_
  refine W_block ?_
  refine W_seq ?_
  refine W_draw [(0, 0), (1, 0), (2, 0), (3, 0), (4, 0), (5, 1), (6, 0), (7, 0), (8, 0), (9, 1), (10, 0), (11, 0), (12, 0), (13, 1), (14, 0), (15, 0), (16, 0), (17, 0), (18, 0)] mixed rfl (by kernel_rfl) (fun w47 hb47 hh47 => ?_)
  have M47 := M46.drew hb47 hh47
  obtain ⟨t20, ht20, ba20, bb20, bc20, bd20, be20⟩ := mul_step2 (z := t11 % 65536) (c := 0) (x := x2) (y := y0) (Nat.mod_lt _ (by decide)) (by decide) hx2 hy0
  refine D_p rfl rfl rfl (fun _ => r_move (.int _ _) rfl) ?_
  refine D_p rfl rfl rfl (fun _ => r_move (.int _ _) rfl) ?_
  refine D_p rfl rfl rfl (fun _ => r_add rfl rfl (by first | decide | omega) (by first | decide | omega)) ?_
  refine D_p rfl rfl rfl (fun _ => r_fieldAddr 0 fld197_0 rfl) ?_
  refine D_p rfl rfl rfl (fun _ => r_idxP (2) arr195 rfl rfl rfl (by decide)) ?_
  refine D_r rfl rfl rfl (r_ld 3 (.int _ _) one26 M47 rfl rfl rfl) ?_
  refine D_p rfl rfl rfl (fun _ => r_move (.int _ _) rfl) ?_
  refine D_p rfl rfl rfl (fun _ => r_fieldAddr 0 fld197_0 rfl) ?_
  refine D_p rfl rfl rfl (fun _ => r_idxP (2) arr195 rfl rfl rfl (by decide)) ?_
  refine D_r rfl rfl rfl (r_ld 1 (.int _ _) one26 M47 rfl rfl rfl) ?_
  refine D_p rfl rfl rfl (fun _ => r_move (.int _ _) rfl) ?_
  refine D_p rfl rfl rfl (fun _ => r_fieldAddr 0 fld197_0 rfl) ?_
  refine D_p rfl rfl rfl (fun _ => r_idxP (0) arr195 rfl rfl rfl (by decide)) ?_
  refine D_r rfl rfl rfl (r_ld 2 (.int _ _) one26 M47 rfl rfl rfl) ?_
  refine D_p rfl rfl rfl (fun _ => r_bin (.int _ _) rfl rfl rfl) ?_
  refine D_re 38 (.int .u64 ((x2 * y0 : Nat) : Int)) (iE (mulU x2 y0 ba20)) ?_
  refine D_p rfl rfl rfl (fun _ => r_bin (.int _ _) rfl rfl rfl) ?_
  refine D_re 39 (.int .u64 ((t11 % 65536 + x2 * y0 : Nat) : Int)) (iE (addU (t11 % 65536) (x2 * y0) bb20)) ?_
  refine D_p rfl rfl rfl (fun _ => r_move (.int _ _) rfl) ?_
  refine D_p rfl rfl rfl (fun _ => r_bin (.int _ _) rfl rfl rfl) ?_
  refine D_re 41 (.int .u64 (t20 : Int)) (iE ((addU (t11 % 65536 + x2 * y0) (0) bc20).trans (congrArg _ ht20.symm))) ?_
  refine D_p rfl rfl rfl (fun _ => r_assign (.int _ _) rfl) ?_
  refine D_nil ?_
  refine thenN ?_
  refine W_seq ?_
  refine W_region ?_
  refine wl_q (r_move (.int _ _) rfl) rfl rfl ?_
  refine wl_q (r_move (.int _ _) rfl) rfl rfl ?_
  refine wl_q (r_add rfl rfl (by first | decide | omega) (by first | decide | omega)) rfl rfl ?_
  refine wl_re 44 (.int .i64 2) (iE (by first | decide | omega)) ?_
  refine wl_q (r_move (.int _ _) rfl) rfl rfl ?_
  refine wl_q (r_rem rfl rfl (by decide)) rfl rfl ?_
  refine wl_re 46 (.int .u64 ((t20 % 65536 : Nat) : Int)) (iE (u_rem t20 65536)) ?_
  refine wl_q (r_fieldAddr 0 fld197_0 rfl) rfl rfl ?_
  refine wl_q (r_idxP (2) arr195 rfl rfl rfl (by decide)) rfl rfl ?_
  refine wl_st 3 (.int _ _) one26 M47 rfl rfl rfl rfl rfl rfl (fun w48 M48 => ?_)
  refine wl_nil ?_
  refine thenN ?_
  refine W_region ?_
  refine wl_q (r_move (.int _ _) rfl) rfl rfl ?_
  refine wl_q (r_quo rfl rfl (by decide)) rfl rfl ?_
  refine wl_re 50 (.int .u64 ((t20 / 65536 : Nat) : Int)) (iE (u_quo t20 65536 bd20)) ?_
  refine wl_q (r_assign (.int _ _) rfl) rfl rfl ?_
  refine wl_nil ?_
  refine blkN ?_
  refine thenN ?_
  refine W_region ?_
  refine wl_q (r_move (.int _ _) rfl) rfl rfl ?_
  refine wl_q (r_add rfl rfl (by first | decide | omega) (by first | decide | omega)) rfl rfl ?_
  refine wl_re 23 (.int .i64 1) (iE (by first | decide | omega)) ?_
  refine wl_q (r_assign (.int _ _) rfl) rfl rfl ?_
  refine wl_nil ?_
  refine thenN (Wr_s ?_)
  refine W_fresh (fr := [(4, .pointer _), (5, .pointer _), (6, .pointer _), (7, .pointer _), (8, .int .i64 2), (9, .int _ _), (10, .int .i64 1), (11, .int _ _), (16, .int .i64 2), (17, .bool true)]) (agC rfl (agC rfl (agC rfl (agC rfl (agC rfl (agC rfl (agC rfl (agC rfl (agC rfl (agC rfl agN)))))))))) (fun ρ49 => ?_)
  have M50 : Mem _ _ [_, _, _, (some _, bc [.int .u64 ((t00 % 65536 : Nat) : Int), .int .u64 ((t10 % 65536 : Nat) : Int), .int .u64 ((t20 % 65536 : Nat) : Int), .int .u64 ((t12 % 65536 : Nat) : Int), .int .u64 ((t13 % 65536 : Nat) : Int), .int .u64 ((t13 / 65536 : Nat) : Int), .int .u64 0, .int .u64 0] 197)] _ := M48
  refine W_seq ?_
  refine W_seq ?_
  refine W_region ?_
  refine wl_q (r_move (.int _ _) rfl) rfl rfl ?_
  refine wl_q (r_bin (.bool (decide _)) rfl rfl rfl) rfl rfl ?_
  refine wl_re 21 (.bool true) (bT (by first | decide | omega)).symm ?_
  refine wl_nil ?_
  refine thenN ?_
  refine W_condT rfl ?_
  refine W_skip ?_
  refine thenN ?_
  refine W_seq ?_
  refine W_block ?_
  refine W_seq ?_
  refine W_draw [(0, 0), (1, 0), (2, 0), (3, 0), (4, 0), (5, 1), (6, 0), (7, 0), (8, 0), (9, 1), (10, 0), (11, 0), (12, 0), (13, 1), (14, 0), (15, 0), (16, 0), (17, 0), (18, 0)] mixed rfl (by kernel_rfl) (fun w51 hb51 hh51 => ?_)
  have M51 := M50.drew hb51 hh51
  obtain ⟨t21, ht21, ba21, bb21, bc21, bd21, be21⟩ := mul_step2 (z := t12 % 65536) (c := t20 / 65536) (x := x2) (y := y1) (Nat.mod_lt _ (by decide)) be20 hx2 hy1
  refine D_p rfl rfl rfl (fun _ => r_move (.int _ _) rfl) ?_
  refine D_p rfl rfl rfl (fun _ => r_move (.int _ _) rfl) ?_
  refine D_p rfl rfl rfl (fun _ => r_add rfl rfl (by first | decide | omega) (by first | decide | omega)) ?_
  refine D_p rfl rfl rfl (fun _ => r_fieldAddr 0 fld197_0 rfl) ?_
  refine D_p rfl rfl rfl (fun _ => r_idxP (3) arr195 rfl rfl rfl (by decide)) ?_
  refine D_r rfl rfl rfl (r_ld 3 (.int _ _) one26 M51 rfl rfl rfl) ?_
  refine D_p rfl rfl rfl (fun _ => r_move (.int _ _) rfl) ?_
  refine D_p rfl rfl rfl (fun _ => r_fieldAddr 0 fld197_0 rfl) ?_
  refine D_p rfl rfl rfl (fun _ => r_idxP (2) arr195 rfl rfl rfl (by decide)) ?_
  refine D_r rfl rfl rfl (r_ld 1 (.int _ _) one26 M51 rfl rfl rfl) ?_
  refine D_p rfl rfl rfl (fun _ => r_move (.int _ _) rfl) ?_
  refine D_p rfl rfl rfl (fun _ => r_fieldAddr 0 fld197_0 rfl) ?_
  refine D_p rfl rfl rfl (fun _ => r_idxP (1) arr195 rfl rfl rfl (by decide)) ?_
  refine D_r rfl rfl rfl (r_ld 2 (.int _ _) one26 M51 rfl rfl rfl) ?_
  refine D_p rfl rfl rfl (fun _ => r_bin (.int _ _) rfl rfl rfl) ?_
  refine D_re 38 (.int .u64 ((x2 * y1 : Nat) : Int)) (iE (mulU x2 y1 ba21)) ?_
  refine D_p rfl rfl rfl (fun _ => r_bin (.int _ _) rfl rfl rfl) ?_
  refine D_re 39 (.int .u64 ((t12 % 65536 + x2 * y1 : Nat) : Int)) (iE (addU (t12 % 65536) (x2 * y1) bb21)) ?_
  refine D_p rfl rfl rfl (fun _ => r_move (.int _ _) rfl) ?_
  refine D_p rfl rfl rfl (fun _ => r_bin (.int _ _) rfl rfl rfl) ?_
  refine D_re 41 (.int .u64 (t21 : Int)) (iE ((addU (t12 % 65536 + x2 * y1) (t20 / 65536) bc21).trans (congrArg _ ht21.symm))) ?_
  refine D_p rfl rfl rfl (fun _ => r_assign (.int _ _) rfl) ?_
  refine D_nil ?_
  refine thenN ?_
  refine W_seq ?_
  refine W_region ?_
  refine wl_q (r_move (.int _ _) rfl) rfl rfl ?_
  refine wl_q (r_move (.int _ _) rfl) rfl rfl ?_
  refine wl_q (r_add rfl rfl (by first | decide | omega) (by first | decide | omega)) rfl rfl ?_
  refine wl_re 44 (.int .i64 3) (iE (by first | decide | omega)) ?_
  refine wl_q (r_move (.int _ _) rfl) rfl rfl ?_
  refine wl_q (r_rem rfl rfl (by decide)) rfl rfl ?_
  refine wl_re 46 (.int .u64 ((t21 % 65536 : Nat) : Int)) (iE (u_rem t21 65536)) ?_
  refine wl_q (r_fieldAddr 0 fld197_0 rfl) rfl rfl ?_
  refine wl_q (r_idxP (3) arr195 rfl rfl rfl (by decide)) rfl rfl ?_
  refine wl_st 3 (.int _ _) one26 M51 rfl rfl rfl rfl rfl rfl (fun w52 M52 => ?_)
  refine wl_nil ?_
  refine thenN ?_
  refine W_region ?_
  refine wl_q (r_move (.int _ _) rfl) rfl rfl ?_
  refine wl_q (r_quo rfl rfl (by decide)) rfl rfl ?_
  refine wl_re 50 (.int .u64 ((t21 / 65536 : Nat) : Int)) (iE (u_quo t21 65536 bd21)) ?_
  refine wl_q (r_assign (.int _ _) rfl) rfl rfl ?_
  refine wl_nil ?_
  refine blkN ?_
  refine thenN ?_
  refine W_region ?_
  refine wl_q (r_move (.int _ _) rfl) rfl rfl ?_
  refine wl_q (r_add rfl rfl (by first | decide | omega) (by first | decide | omega)) rfl rfl ?_
  refine wl_re 23 (.int .i64 2) (iE (by first | decide | omega)) ?_
  refine wl_q (r_assign (.int _ _) rfl) rfl rfl ?_
  refine wl_nil ?_
  refine thenN (Wr_s ?_)
  refine W_fresh (fr := [(4, .pointer _), (5, .pointer _), (6, .pointer _), (7, .pointer _), (8, .int .i64 2), (9, .int _ _), (10, .int .i64 2), (11, .int _ _), (16, .int .i64 2), (17, .bool true)]) (agC rfl (agC rfl (agC rfl (agC rfl (agC rfl (agC rfl (agC rfl (agC rfl (agC rfl (agC rfl agN)))))))))) (fun ρ53 => ?_)
  have M54 : Mem _ _ [_, _, _, (some _, bc [.int .u64 ((t00 % 65536 : Nat) : Int), .int .u64 ((t10 % 65536 : Nat) : Int), .int .u64 ((t20 % 65536 : Nat) : Int), .int .u64 ((t21 % 65536 : Nat) : Int), .int .u64 ((t13 % 65536 : Nat) : Int), .int .u64 ((t13 / 65536 : Nat) : Int), .int .u64 0, .int .u64 0] 197)] _ := M52
  refine W_seq ?_
  refine W_seq ?_
  refine W_region ?_
  refine wl_q (r_move (.int _ _) rfl) rfl rfl ?_
  refine wl_q (r_bin (.bool (decide _)) rfl rfl rfl) rfl rfl ?_
  refine wl_re 21 (.bool true) (bT (by first | decide | omega)).symm ?_
  refine wl_nil ?_
  refine thenN ?_
  refine W_condT rfl ?_
  refine W_skip ?_
  refine thenN ?_
  refine W_seq ?_
  refine W_block ?_
  refine W_seq ?_
  refine W_draw [(0, 0), (1, 0), (2, 0), (3, 0), (4, 0), (5, 1), (6, 0), (7, 0), (8, 0), (9, 1), (10, 0), (11, 0), (12, 0), (13, 1), (14, 0), (15, 0), (16, 0), (17, 0), (18, 0)] mixed rfl (by kernel_rfl) (fun w55 hb55 hh55 => ?_)
  have M55 := M54.drew hb55 hh55
  obtain ⟨t22, ht22, ba22, bb22, bc22, bd22, be22⟩ := mul_step2 (z := t13 % 65536) (c := t21 / 65536) (x := x2) (y := y2) (Nat.mod_lt _ (by decide)) be21 hx2 hy2
  refine D_p rfl rfl rfl (fun _ => r_move (.int _ _) rfl) ?_
  refine D_p rfl rfl rfl (fun _ => r_move (.int _ _) rfl) ?_
  refine D_p rfl rfl rfl (fun _ => r_add rfl rfl (by first | decide | omega) (by first | decide | omega)) ?_
  refine D_p rfl rfl rfl (fun _ => r_fieldAddr 0 fld197_0 rfl) ?_
  refine D_p rfl rfl rfl (fun _ => r_idxP (4) arr195 rfl rfl rfl (by decide)) ?_
  refine D_r rfl rfl rfl (r_ld 3 (.int _ _) one26 M55 rfl rfl rfl) ?_
  refine D_p rfl rfl rfl (fun _ => r_move (.int _ _) rfl) ?_
  refine D_p rfl rfl rfl (fun _ => r_fieldAddr 0 fld197_0 rfl) ?_
  refine D_p rfl rfl rfl (fun _ => r_idxP (2) arr195 rfl rfl rfl (by decide)) ?_
  refine D_r rfl rfl rfl (r_ld 1 (.int _ _) one26 M55 rfl rfl rfl) ?_
  refine D_p rfl rfl rfl (fun _ => r_move (.int _ _) rfl) ?_
  refine D_p rfl rfl rfl (fun _ => r_fieldAddr 0 fld197_0 rfl) ?_
  refine D_p rfl rfl rfl (fun _ => r_idxP (2) arr195 rfl rfl rfl (by decide)) ?_
  refine D_r rfl rfl rfl (r_ld 2 (.int _ _) one26 M55 rfl rfl rfl) ?_
  refine D_p rfl rfl rfl (fun _ => r_bin (.int _ _) rfl rfl rfl) ?_
  refine D_re 38 (.int .u64 ((x2 * y2 : Nat) : Int)) (iE (mulU x2 y2 ba22)) ?_
  refine D_p rfl rfl rfl (fun _ => r_bin (.int _ _) rfl rfl rfl) ?_
  refine D_re 39 (.int .u64 ((t13 % 65536 + x2 * y2 : Nat) : Int)) (iE (addU (t13 % 65536) (x2 * y2) bb22)) ?_
  refine D_p rfl rfl rfl (fun _ => r_move (.int _ _) rfl) ?_
  refine D_p rfl rfl rfl (fun _ => r_bin (.int _ _) rfl rfl rfl) ?_
  refine D_re 41 (.int .u64 (t22 : Int)) (iE ((addU (t13 % 65536 + x2 * y2) (t21 / 65536) bc22).trans (congrArg _ ht22.symm))) ?_
  refine D_p rfl rfl rfl (fun _ => r_assign (.int _ _) rfl) ?_
  refine D_nil ?_
  refine thenN ?_
  refine W_seq ?_
  refine W_region ?_
  refine wl_q (r_move (.int _ _) rfl) rfl rfl ?_
  refine wl_q (r_move (.int _ _) rfl) rfl rfl ?_
  refine wl_q (r_add rfl rfl (by first | decide | omega) (by first | decide | omega)) rfl rfl ?_
  refine wl_re 44 (.int .i64 4) (iE (by first | decide | omega)) ?_
  refine wl_q (r_move (.int _ _) rfl) rfl rfl ?_
  refine wl_q (r_rem rfl rfl (by decide)) rfl rfl ?_
  refine wl_re 46 (.int .u64 ((t22 % 65536 : Nat) : Int)) (iE (u_rem t22 65536)) ?_
  refine wl_q (r_fieldAddr 0 fld197_0 rfl) rfl rfl ?_
  refine wl_q (r_idxP (4) arr195 rfl rfl rfl (by decide)) rfl rfl ?_
  refine wl_st 3 (.int _ _) one26 M55 rfl rfl rfl rfl rfl rfl (fun w56 M56 => ?_)
  refine wl_nil ?_
  refine thenN ?_
  refine W_region ?_
  refine wl_q (r_move (.int _ _) rfl) rfl rfl ?_
  refine wl_q (r_quo rfl rfl (by decide)) rfl rfl ?_
  refine wl_re 50 (.int .u64 ((t22 / 65536 : Nat) : Int)) (iE (u_quo t22 65536 bd22)) ?_
  refine wl_q (r_assign (.int _ _) rfl) rfl rfl ?_
  refine wl_nil ?_
  refine blkN ?_
  refine thenN ?_
  refine W_region ?_
  refine wl_q (r_move (.int _ _) rfl) rfl rfl ?_
  refine wl_q (r_add rfl rfl (by first | decide | omega) (by first | decide | omega)) rfl rfl ?_
  refine wl_re 23 (.int .i64 3) (iE (by first | decide | omega)) ?_
  refine wl_q (r_assign (.int _ _) rfl) rfl rfl ?_
  refine wl_nil ?_
  refine thenN (Wr_s ?_)
  refine W_fresh (fr := [(4, .pointer _), (5, .pointer _), (6, .pointer _), (7, .pointer _), (8, .int .i64 2), (9, .int _ _), (10, .int .i64 3), (11, .int _ _), (16, .int .i64 2), (17, .bool true)]) (agC rfl (agC rfl (agC rfl (agC rfl (agC rfl (agC rfl (agC rfl (agC rfl (agC rfl (agC rfl agN)))))))))) (fun ρ57 => ?_)
  have M58 : Mem _ _ [_, _, _, (some _, bc [.int .u64 ((t00 % 65536 : Nat) : Int), .int .u64 ((t10 % 65536 : Nat) : Int), .int .u64 ((t20 % 65536 : Nat) : Int), .int .u64 ((t21 % 65536 : Nat) : Int), .int .u64 ((t22 % 65536 : Nat) : Int), .int .u64 ((t13 / 65536 : Nat) : Int), .int .u64 0, .int .u64 0] 197)] _ := M56
  refine W_seq ?_
  refine W_seq ?_
  refine W_region ?_
  refine wl_q (r_move (.int _ _) rfl) rfl rfl ?_
  refine wl_q (r_bin (.bool (decide _)) rfl rfl rfl) rfl rfl ?_
  refine wl_re 21 (.bool true) (bT (by first | decide | omega)).symm ?_
  refine wl_nil ?_
  refine thenN ?_
  refine W_condT rfl ?_
  refine W_skip ?_
  refine thenN ?_
  refine W_seq ?_
  refine W_block ?_
  refine W_seq ?_
  refine W_draw [(0, 0), (1, 0), (2, 0), (3, 0), (4, 0), (5, 1), (6, 0), (7, 0), (8, 0), (9, 1), (10, 0), (11, 0), (12, 0), (13, 1), (14, 0), (15, 0), (16, 0), (17, 0), (18, 0)] mixed rfl (by kernel_rfl) (fun w59 hb59 hh59 => ?_)
  have M59 := M58.drew hb59 hh59
  obtain ⟨t23, ht23, ba23, bb23, bc23, bd23, be23⟩ := mul_step2 (z := t13 / 65536) (c := t22 / 65536) (x := x2) (y := y3) be13 be22 hx2 hy3
  refine D_p rfl rfl rfl (fun _ => r_move (.int _ _) rfl) ?_
  refine D_p rfl rfl rfl (fun _ => r_move (.int _ _) rfl) ?_
  refine D_p rfl rfl rfl (fun _ => r_add rfl rfl (by first | decide | omega) (by first | decide | omega)) ?_
  refine D_p rfl rfl rfl (fun _ => r_fieldAddr 0 fld197_0 rfl) ?_
  refine D_p rfl rfl rfl (fun _ => r_idxP (5) arr195 rfl rfl rfl (by decide)) ?_
  refine D_r rfl rfl rfl (r_ld 3 (.int _ _) one26 M59 rfl rfl rfl) ?_
  refine D_p rfl rfl rfl (fun _ => r_move (.int _ _) rfl) ?_
  refine D_p rfl rfl rfl (fun _ => r_fieldAddr 0 fld197_0 rfl) ?_
  refine D_p rfl rfl rfl (fun _ => r_idxP (2) arr195 rfl rfl rfl (by decide)) ?_
  refine D_r rfl rfl rfl (r_ld 1 (.int _ _) one26 M59 rfl rfl rfl) ?_
  refine D_p rfl rfl rfl (fun _ => r_move (.int _ _) rfl) ?_
  refine D_p rfl rfl rfl (fun _ => r_fieldAddr 0 fld197_0 rfl) ?_
  refine D_p rfl rfl rfl (fun _ => r_idxP (3) arr195 rfl rfl rfl (by decide)) ?_
  refine D_r rfl rfl rfl (r_ld 2 (.int _ _) one26 M59 rfl rfl rfl) ?_
  refine D_p rfl rfl rfl (fun _ => r_bin (.int _ _) rfl rfl rfl) ?_
  refine D_re 38 (.int .u64 ((x2 * y3 : Nat) : Int)) (iE (mulU x2 y3 ba23)) ?_
  refine D_p rfl rfl rfl (fun _ => r_bin (.int _ _) rfl rfl rfl) ?_
  refine D_re 39 (.int .u64 ((t13 / 65536 + x2 * y3 : Nat) : Int)) (iE (addU (t13 / 65536) (x2 * y3) bb23)) ?_
  refine D_p rfl rfl rfl (fun _ => r_move (.int _ _) rfl) ?_
  refine D_p rfl rfl rfl (fun _ => r_bin (.int _ _) rfl rfl rfl) ?_
  refine D_re 41 (.int .u64 (t23 : Int)) (iE ((addU (t13 / 65536 + x2 * y3) (t22 / 65536) bc23).trans (congrArg _ ht23.symm))) ?_
  refine D_p rfl rfl rfl (fun _ => r_assign (.int _ _) rfl) ?_
  refine D_nil ?_
  refine thenN ?_
  refine W_seq ?_
  refine W_region ?_
  refine wl_q (r_move (.int _ _) rfl) rfl rfl ?_
  refine wl_q (r_move (.int _ _) rfl) rfl rfl ?_
  refine wl_q (r_add rfl rfl (by first | decide | omega) (by first | decide | omega)) rfl rfl ?_
  refine wl_re 44 (.int .i64 5) (iE (by first | decide | omega)) ?_
  refine wl_q (r_move (.int _ _) rfl) rfl rfl ?_
  refine wl_q (r_rem rfl rfl (by decide)) rfl rfl ?_
  refine wl_re 46 (.int .u64 ((t23 % 65536 : Nat) : Int)) (iE (u_rem t23 65536)) ?_
  refine wl_q (r_fieldAddr 0 fld197_0 rfl) rfl rfl ?_
  refine wl_q (r_idxP (5) arr195 rfl rfl rfl (by decide)) rfl rfl ?_
  refine wl_st 3 (.int _ _) one26 M59 rfl rfl rfl rfl rfl rfl (fun w60 M60 => ?_)
  refine wl_nil ?_
  refine thenN ?_
  refine W_region ?_
  refine wl_q (r_move (.int _ _) rfl) rfl rfl ?_
  refine wl_q (r_quo rfl rfl (by decide)) rfl rfl ?_
  refine wl_re 50 (.int .u64 ((t23 / 65536 : Nat) : Int)) (iE (u_quo t23 65536 bd23)) ?_
  refine wl_q (r_assign (.int _ _) rfl) rfl rfl ?_
  refine wl_nil ?_
  refine blkN ?_
  refine thenN ?_
  refine W_region ?_
  refine wl_q (r_move (.int _ _) rfl) rfl rfl ?_
  refine wl_q (r_add rfl rfl (by first | decide | omega) (by first | decide | omega)) rfl rfl ?_
  refine wl_re 23 (.int .i64 4) (iE (by first | decide | omega)) ?_
  refine wl_q (r_assign (.int _ _) rfl) rfl rfl ?_
  refine wl_nil ?_
  refine thenN (Wr_s ?_)
  refine W_fresh (fr := [(4, .pointer _), (5, .pointer _), (6, .pointer _), (7, .pointer _), (8, .int .i64 2), (9, .int _ _), (10, .int .i64 4), (11, .int _ _), (16, .int .i64 2), (17, .bool true)]) (agC rfl (agC rfl (agC rfl (agC rfl (agC rfl (agC rfl (agC rfl (agC rfl (agC rfl (agC rfl agN)))))))))) (fun ρ61 => ?_)
  have M62 : Mem _ _ [_, _, _, (some _, bc [.int .u64 ((t00 % 65536 : Nat) : Int), .int .u64 ((t10 % 65536 : Nat) : Int), .int .u64 ((t20 % 65536 : Nat) : Int), .int .u64 ((t21 % 65536 : Nat) : Int), .int .u64 ((t22 % 65536 : Nat) : Int), .int .u64 ((t23 % 65536 : Nat) : Int), .int .u64 0, .int .u64 0] 197)] _ := M60
  refine W_seq ?_
  refine W_seq ?_
  refine W_region ?_
  refine wl_q (r_move (.int _ _) rfl) rfl rfl ?_
  refine wl_q (r_bin (.bool (decide _)) rfl rfl rfl) rfl rfl ?_
  refine wl_re 21 (.bool false) (bF (by first | decide | omega)).symm ?_
  refine wl_nil ?_
  refine thenN ?_
  refine W_condF rfl ?_
  refine W_exit ?_
  refine thenX ?_
  refine thenX ?_
  refine blkH ?_
  refine thenN ?_
  refine W_region ?_
  refine wl_q (r_move (.int _ _) rfl) rfl rfl ?_
  refine wl_q (r_add rfl rfl (by first | decide | omega) (by first | decide | omega)) rfl rfl ?_
  refine wl_re 52 (.int .i64 6) (iE (by first | decide | omega)) ?_
  refine wl_q (r_move (.int _ _) rfl) rfl rfl ?_
  refine wl_q (r_fieldAddr 0 fld197_0 rfl) rfl rfl ?_
  refine wl_q (r_idxP (6) arr195 rfl rfl rfl (by decide)) rfl rfl ?_
  refine wl_st 3 (.int _ _) one26 M62 rfl rfl rfl rfl rfl rfl (fun w63 M63 => ?_)
  refine wl_nil ?_
  refine blkN ?_
  refine thenN ?_
  refine W_region ?_
  refine wl_q (r_move (.int _ _) rfl) rfl rfl ?_
  refine wl_q (r_add rfl rfl (by first | decide | omega) (by first | decide | omega)) rfl rfl ?_
  refine wl_re 19 (.int .i64 3) (iE (by first | decide | omega)) ?_
  refine wl_q (r_assign (.int _ _) rfl) rfl rfl ?_
  refine wl_nil ?_
  refine thenN (Wr_s ?_)
  refine W_fresh (fr := [(4, .pointer _), (5, .pointer _), (6, .pointer _), (7, .pointer _), (8, .int .i64 3), (9, .int _ _), (10, .int .i64 4), (11, .int _ _)]) (agC rfl (agC rfl (agC rfl (agC rfl (agC rfl (agC rfl (agC rfl (agC rfl agN)))))))) (fun ρ64 => ?_)
  have M65 : Mem _ _ [_, _, _, (some _, bc [.int .u64 ((t00 % 65536 : Nat) : Int), .int .u64 ((t10 % 65536 : Nat) : Int), .int .u64 ((t20 % 65536 : Nat) : Int), .int .u64 ((t21 % 65536 : Nat) : Int), .int .u64 ((t22 % 65536 : Nat) : Int), .int .u64 ((t23 % 65536 : Nat) : Int), .int .u64 ((t23 / 65536 : Nat) : Int), .int .u64 0] 197)] _ := M63
  refine W_seq ?_
  refine W_seq ?_
  refine W_region ?_
  refine wl_q (r_move (.int _ _) rfl) rfl rfl ?_
  refine wl_q (r_bin (.bool (decide _)) rfl rfl rfl) rfl rfl ?_
  refine wl_re 17 (.bool true) (bT (by first | decide | omega)).symm ?_
  refine wl_nil ?_
  refine thenN ?_
  refine W_condT rfl ?_
  refine W_skip ?_
  refine thenN ?_
  refine W_seq ?_
  refine W_block ?_
  refine W_seq ?_
  refine W_region ?_
  refine wl_q (r_assign (.int _ _) rfl) rfl rfl ?_
  refine wl_nil ?_
  refine thenN ?_
  refine W_seq ?_
  refine W_seq ?_
  refine W_region ?_
  refine wl_q (r_assign (.int _ _) rfl) rfl rfl ?_
  refine wl_nil ?_
  refine thenN ?_
  refine W_block ?_
  refine W_rounds 5 (Wr_s ?_)
  refine W_seq ?_
  refine W_seq ?_
  refine W_region ?_
  refine wl_q (r_move (.int _ _) rfl) rfl rfl ?_
  refine wl_q (r_bin (.bool (decide _)) rfl rfl rfl) rfl rfl ?_
  refine wl_re 21 (.bool true) (bT (by first | decide | omega)).symm ?_
  refine wl_nil ?_
  refine thenN ?_
  refine W_condT rfl ?_
  refine W_skip ?_
  refine thenN ?_
  refine W_seq ?_
  refine W_block ?_
  refine W_seq ?_
  refine W_draw [(0, 0), (1, 0), (2, 0), (3, 0), (4, 0), (5, 1), (6, 0), (7, 0), (8, 0), (9, 1), (10, 0), (11, 0), (12, 0), (13, 1), (14, 0), (15, 0), (16, 0), (17, 0), (18, 0)] mixed rfl (by kernel_rfl) (fun w66 hb66 hh66 => ?_)
  have M66 := M65.drew hb66 hh66
  obtain ⟨t30, ht30, ba30, bb30, bc30, bd30, be30⟩ := mul_step2 (z := t21 % 65536) (c := 0) (x := x3) (y := y0) (Nat.mod_lt _ (by decide)) (by decide) hx3 hy0
  refine D_p rfl rfl rfl (fun _ => r_move (.int _ _) rfl) ?_
  refine D_p rfl rfl rfl (fun _ => r_move (.int _ _) rfl) ?_
  refine D_p rfl rfl rfl (fun _ => r_add rfl rfl (by first | decide | omega) (by first | decide | omega)) ?_
  refine D_p rfl rfl rfl (fun _ => r_fieldAddr 0 fld197_0 rfl) ?_
  refine D_p rfl rfl rfl (fun _ => r_idxP (3) arr195 rfl rfl rfl (by decide)) ?_
  refine D_r rfl rfl rfl (r_ld 3 (.int _ _) one26 M66 rfl rfl rfl) ?_
  refine D_p rfl rfl rfl (fun _ => r_move (.int _ _) rfl) ?_
  refine D_p rfl rfl rfl (fun _ => r_fieldAddr 0 fld197_0 rfl) ?_
  refine D_p rfl rfl rfl (fun _ => r_idxP (3) arr195 rfl rfl rfl (by decide)) ?_
  refine D_r rfl rfl rfl (r_ld 1 (.int _ _) one26 M66 rfl rfl rfl) ?_
  refine D_p rfl rfl rfl (fun _ => r_move (.int _ _) rfl) ?_
  refine D_p rfl rfl rfl (fun _ => r_fieldAddr 0 fld197_0 rfl) ?_
  refine D_p rfl rfl rfl (fun _ => r_idxP (0) arr195 rfl rfl rfl (by decide)) ?_
  refine D_r rfl rfl rfl (r_ld 2 (.int _ _) one26 M66 rfl rfl rfl) ?_
  refine D_p rfl rfl rfl (fun _ => r_bin (.int _ _) rfl rfl rfl) ?_
  refine D_re 38 (.int .u64 ((x3 * y0 : Nat) : Int)) (iE (mulU x3 y0 ba30)) ?_
  refine D_p rfl rfl rfl (fun _ => r_bin (.int _ _) rfl rfl rfl) ?_
  refine D_re 39 (.int .u64 ((t21 % 65536 + x3 * y0 : Nat) : Int)) (iE (addU (t21 % 65536) (x3 * y0) bb30)) ?_
  refine D_p rfl rfl rfl (fun _ => r_move (.int _ _) rfl) ?_
  refine D_p rfl rfl rfl (fun _ => r_bin (.int _ _) rfl rfl rfl) ?_
  refine D_re 41 (.int .u64 (t30 : Int)) (iE ((addU (t21 % 65536 + x3 * y0) (0) bc30).trans (congrArg _ ht30.symm))) ?_
  refine D_p rfl rfl rfl (fun _ => r_assign (.int _ _) rfl) ?_
  refine D_nil ?_
  refine thenN ?_
  refine W_seq ?_
  refine W_region ?_
  refine wl_q (r_move (.int _ _) rfl) rfl rfl ?_
  refine wl_q (r_move (.int _ _) rfl) rfl rfl ?_
  refine wl_q (r_add rfl rfl (by first | decide | omega) (by first | decide | omega)) rfl rfl ?_
  refine wl_re 44 (.int .i64 3) (iE (by first | decide | omega)) ?_
  refine wl_q (r_move (.int _ _) rfl) rfl rfl ?_
  refine wl_q (r_rem rfl rfl (by decide)) rfl rfl ?_
  refine wl_re 46 (.int .u64 ((t30 % 65536 : Nat) : Int)) (iE (u_rem t30 65536)) ?_
  refine wl_q (r_fieldAddr 0 fld197_0 rfl) rfl rfl ?_
  refine wl_q (r_idxP (3) arr195 rfl rfl rfl (by decide)) rfl rfl ?_
  refine wl_st 3 (.int _ _) one26 M66 rfl rfl rfl rfl rfl rfl (fun w67 M67 => ?_)
  refine wl_nil ?_
  refine thenN ?_
  refine W_region ?_
  refine wl_q (r_move (.int _ _) rfl) rfl rfl ?_
  refine wl_q (r_quo rfl rfl (by decide)) rfl rfl ?_
  refine wl_re 50 (.int .u64 ((t30 / 65536 : Nat) : Int)) (iE (u_quo t30 65536 bd30)) ?_
  refine wl_q (r_assign (.int _ _) rfl) rfl rfl ?_
  refine wl_nil ?_
  refine blkN ?_
  refine thenN ?_
  refine W_region ?_
  refine wl_q (r_move (.int _ _) rfl) rfl rfl ?_
  refine wl_q (r_add rfl rfl (by first | decide | omega) (by first | decide | omega)) rfl rfl ?_
  refine wl_re 23 (.int .i64 1) (iE (by first | decide | omega)) ?_
  refine wl_q (r_assign (.int _ _) rfl) rfl rfl ?_
  refine wl_nil ?_
  refine thenN (Wr_s ?_)
  refine W_fresh (fr := [(4, .pointer _), (5, .pointer _), (6, .pointer _), (7, .pointer _), (8, .int .i64 3), (9, .int _ _), (10, .int .i64 1), (11, .int _ _), (16, .int .i64 3), (17, .bool true)]) (agC rfl (agC rfl (agC rfl (agC rfl (agC rfl (agC rfl (agC rfl (agC rfl (agC rfl (agC rfl agN)))))))))) (fun ρ68 => ?_)
  have M69 : Mem _ _ [_, _, _, (some _, bc [.int .u64 ((t00 % 65536 : Nat) : Int), .int .u64 ((t10 % 65536 : Nat) : Int), .int .u64 ((t20 % 65536 : Nat) : Int), .int .u64 ((t30 % 65536 : Nat) : Int), .int .u64 ((t22 % 65536 : Nat) : Int), .int .u64 ((t23 % 65536 : Nat) : Int), .int .u64 ((t23 / 65536 : Nat) : Int), .int .u64 0] 197)] _ := M67
  refine W_seq ?_
  refine W_seq ?_
  refine W_region ?_
  refine wl_q (r_move (.int _ _) rfl) rfl rfl ?_
  refine wl_q (r_bin (.bool (decide _)) rfl rfl rfl) rfl rfl ?_
  refine wl_re 21 (.bool true) (bT (by first | decide | omega)).symm ?_
  refine wl_nil ?_
  refine thenN ?_
  refine W_condT rfl ?_
  refine W_skip ?_
  refine thenN ?_
  refine W_seq ?_
  refine W_block ?_
  refine W_seq ?_
  refine W_draw [(0, 0), (1, 0), (2, 0), (3, 0), (4, 0), (5, 1), (6, 0), (7, 0), (8, 0), (9, 1), (10, 0), (11, 0), (12, 0), (13, 1), (14, 0), (15, 0), (16, 0), (17, 0), (18, 0)] mixed rfl (by kernel_rfl) (fun w70 hb70 hh70 => ?_)
  have M70 := M69.drew hb70 hh70
  obtain ⟨t31, ht31, ba31, bb31, bc31, bd31, be31⟩ := mul_step2 (z := t22 % 65536) (c := t30 / 65536) (x := x3) (y := y1) (Nat.mod_lt _ (by decide)) be30 hx3 hy1
  refine D_p rfl rfl rfl (fun _ => r_move (.int _ _) rfl) ?_
  refine D_p rfl rfl rfl (fun _ => r_move (.int _ _) rfl) ?_
  refine D_p rfl rfl rfl (fun _ => r_add rfl rfl (by first | decide | omega) (by first | decide | omega)) ?_
  refine D_p rfl rfl rfl (fun _ => r_fieldAddr 0 fld197_0 rfl) ?_
  refine D_p rfl rfl rfl (fun _ => r_idxP (4) arr195 rfl rfl rfl (by decide)) ?_
  refine D_r rfl rfl rfl (r_ld 3 (.int _ _) one26 M70 rfl rfl rfl) ?_
  refine D_p rfl rfl rfl (fun _ => r_move (.int _ _) rfl) ?_
  refine D_p rfl rfl rfl (fun _ => r_fieldAddr 0 fld197_0 rfl) ?_
  refine D_p rfl rfl rfl (fun _ => r_idxP (3) arr195 rfl rfl rfl (by decide)) ?_
  refine D_r rfl rfl rfl (r_ld 1 (.int _ _) one26 M70 rfl rfl rfl) ?_
  refine D_p rfl rfl rfl (fun _ => r_move (.int _ _) rfl) ?_
  refine D_p rfl rfl rfl (fun _ => r_fieldAddr 0 fld197_0 rfl) ?_
  refine D_p rfl rfl rfl (fun _ => r_idxP (1) arr195 rfl rfl rfl (by decide)) ?_
  refine D_r rfl rfl rfl (r_ld 2 (.int _ _) one26 M70 rfl rfl rfl) ?_
  refine D_p rfl rfl rfl (fun _ => r_bin (.int _ _) rfl rfl rfl) ?_
  refine D_re 38 (.int .u64 ((x3 * y1 : Nat) : Int)) (iE (mulU x3 y1 ba31)) ?_
  refine D_p rfl rfl rfl (fun _ => r_bin (.int _ _) rfl rfl rfl) ?_
  refine D_re 39 (.int .u64 ((t22 % 65536 + x3 * y1 : Nat) : Int)) (iE (addU (t22 % 65536) (x3 * y1) bb31)) ?_
  refine D_p rfl rfl rfl (fun _ => r_move (.int _ _) rfl) ?_
  refine D_p rfl rfl rfl (fun _ => r_bin (.int _ _) rfl rfl rfl) ?_
  refine D_re 41 (.int .u64 (t31 : Int)) (iE ((addU (t22 % 65536 + x3 * y1) (t30 / 65536) bc31).trans (congrArg _ ht31.symm))) ?_
  refine D_p rfl rfl rfl (fun _ => r_assign (.int _ _) rfl) ?_
  refine D_nil ?_
  refine thenN ?_
  refine W_seq ?_
  refine W_region ?_
  refine wl_q (r_move (.int _ _) rfl) rfl rfl ?_
  refine wl_q (r_move (.int _ _) rfl) rfl rfl ?_
  refine wl_q (r_add rfl rfl (by first | decide | omega) (by first | decide | omega)) rfl rfl ?_
  refine wl_re 44 (.int .i64 4) (iE (by first | decide | omega)) ?_
  refine wl_q (r_move (.int _ _) rfl) rfl rfl ?_
  refine wl_q (r_rem rfl rfl (by decide)) rfl rfl ?_
  refine wl_re 46 (.int .u64 ((t31 % 65536 : Nat) : Int)) (iE (u_rem t31 65536)) ?_
  refine wl_q (r_fieldAddr 0 fld197_0 rfl) rfl rfl ?_
  refine wl_q (r_idxP (4) arr195 rfl rfl rfl (by decide)) rfl rfl ?_
  refine wl_st 3 (.int _ _) one26 M70 rfl rfl rfl rfl rfl rfl (fun w71 M71 => ?_)
  refine wl_nil ?_
  refine thenN ?_
  refine W_region ?_
  refine wl_q (r_move (.int _ _) rfl) rfl rfl ?_
  refine wl_q (r_quo rfl rfl (by decide)) rfl rfl ?_
  refine wl_re 50 (.int .u64 ((t31 / 65536 : Nat) : Int)) (iE (u_quo t31 65536 bd31)) ?_
  refine wl_q (r_assign (.int _ _) rfl) rfl rfl ?_
  refine wl_nil ?_
  refine blkN ?_
  refine thenN ?_
  refine W_region ?_
  refine wl_q (r_move (.int _ _) rfl) rfl rfl ?_
  refine wl_q (r_add rfl rfl (by first | decide | omega) (by first | decide | omega)) rfl rfl ?_
  refine wl_re 23 (.int .i64 2) (iE (by first | decide | omega)) ?_
  refine wl_q (r_assign (.int _ _) rfl) rfl rfl ?_
  refine wl_nil ?_
  refine thenN (Wr_s ?_)
  refine W_fresh (fr := [(4, .pointer _), (5, .pointer _), (6, .pointer _), (7, .pointer _), (8, .int .i64 3), (9, .int _ _), (10, .int .i64 2), (11, .int _ _), (16, .int .i64 3), (17, .bool true)]) (agC rfl (agC rfl (agC rfl (agC rfl (agC rfl (agC rfl (agC rfl (agC rfl (agC rfl (agC rfl agN)))))))))) (fun ρ72 => ?_)
  have M73 : Mem _ _ [_, _, _, (some _, bc [.int .u64 ((t00 % 65536 : Nat) : Int), .int .u64 ((t10 % 65536 : Nat) : Int), .int .u64 ((t20 % 65536 : Nat) : Int), .int .u64 ((t30 % 65536 : Nat) : Int), .int .u64 ((t31 % 65536 : Nat) : Int), .int .u64 ((t23 % 65536 : Nat) : Int), .int .u64 ((t23 / 65536 : Nat) : Int), .int .u64 0] 197)] _ := M71
  refine W_seq ?_
  refine W_seq ?_
  refine W_region ?_
  refine wl_q (r_move (.int _ _) rfl) rfl rfl ?_
  refine wl_q (r_bin (.bool (decide _)) rfl rfl rfl) rfl rfl ?_
  refine wl_re 21 (.bool true) (bT (by first | decide | omega)).symm ?_
  refine wl_nil ?_
  refine thenN ?_
  refine W_condT rfl ?_
  refine W_skip ?_
  refine thenN ?_
  refine W_seq ?_
  refine W_block ?_
  refine W_seq ?_
  refine W_draw [(0, 0), (1, 0), (2, 0), (3, 0), (4, 0), (5, 1), (6, 0), (7, 0), (8, 0), (9, 1), (10, 0), (11, 0), (12, 0), (13, 1), (14, 0), (15, 0), (16, 0), (17, 0), (18, 0)] mixed rfl (by kernel_rfl) (fun w74 hb74 hh74 => ?_)
  have M74 := M73.drew hb74 hh74
  obtain ⟨t32, ht32, ba32, bb32, bc32, bd32, be32⟩ := mul_step2 (z := t23 % 65536) (c := t31 / 65536) (x := x3) (y := y2) (Nat.mod_lt _ (by decide)) be31 hx3 hy2
  refine D_p rfl rfl rfl (fun _ => r_move (.int _ _) rfl) ?_
  refine D_p rfl rfl rfl (fun _ => r_move (.int _ _) rfl) ?_
  refine D_p rfl rfl rfl (fun _ => r_add rfl rfl (by first | decide | omega) (by first | decide | omega)) ?_
  refine D_p rfl rfl rfl (fun _ => r_fieldAddr 0 fld197_0 rfl) ?_
  refine D_p rfl rfl rfl (fun _ => r_idxP (5) arr195 rfl rfl rfl (by decide)) ?_
  refine D_r rfl rfl rfl (r_ld 3 (.int _ _) one26 M74 rfl rfl rfl) ?_
  refine D_p rfl rfl rfl (fun _ => r_move (.int _ _) rfl) ?_
  refine D_p rfl rfl rfl (fun _ => r_fieldAddr 0 fld197_0 rfl) ?_
  refine D_p rfl rfl rfl (fun _ => r_idxP (3) arr195 rfl rfl rfl (by decide)) ?_
  refine D_r rfl rfl rfl (r_ld 1 (.int _ _) one26 M74 rfl rfl rfl) ?_
  refine D_p rfl rfl rfl (fun _ => r_move (.int _ _) rfl) ?_
  refine D_p rfl rfl rfl (fun _ => r_fieldAddr 0 fld197_0 rfl) ?_
  refine D_p rfl rfl rfl (fun _ => r_idxP (2) arr195 rfl rfl rfl (by decide)) ?_
  refine D_r rfl rfl rfl (r_ld 2 (.int _ _) one26 M74 rfl rfl rfl) ?_
  refine D_p rfl rfl rfl (fun _ => r_bin (.int _ _) rfl rfl rfl) ?_
  refine D_re 38 (.int .u64 ((x3 * y2 : Nat) : Int)) (iE (mulU x3 y2 ba32)) ?_
  refine D_p rfl rfl rfl (fun _ => r_bin (.int _ _) rfl rfl rfl) ?_
  refine D_re 39 (.int .u64 ((t23 % 65536 + x3 * y2 : Nat) : Int)) (iE (addU (t23 % 65536) (x3 * y2) bb32)) ?_
  refine D_p rfl rfl rfl (fun _ => r_move (.int _ _) rfl) ?_
  refine D_p rfl rfl rfl (fun _ => r_bin (.int _ _) rfl rfl rfl) ?_
  refine D_re 41 (.int .u64 (t32 : Int)) (iE ((addU (t23 % 65536 + x3 * y2) (t31 / 65536) bc32).trans (congrArg _ ht32.symm))) ?_
  refine D_p rfl rfl rfl (fun _ => r_assign (.int _ _) rfl) ?_
  refine D_nil ?_
  refine thenN ?_
  refine W_seq ?_
  refine W_region ?_
  refine wl_q (r_move (.int _ _) rfl) rfl rfl ?_
  refine wl_q (r_move (.int _ _) rfl) rfl rfl ?_
  refine wl_q (r_add rfl rfl (by first | decide | omega) (by first | decide | omega)) rfl rfl ?_
  refine wl_re 44 (.int .i64 5) (iE (by first | decide | omega)) ?_
  refine wl_q (r_move (.int _ _) rfl) rfl rfl ?_
  refine wl_q (r_rem rfl rfl (by decide)) rfl rfl ?_
  refine wl_re 46 (.int .u64 ((t32 % 65536 : Nat) : Int)) (iE (u_rem t32 65536)) ?_
  refine wl_q (r_fieldAddr 0 fld197_0 rfl) rfl rfl ?_
  refine wl_q (r_idxP (5) arr195 rfl rfl rfl (by decide)) rfl rfl ?_
  refine wl_st 3 (.int _ _) one26 M74 rfl rfl rfl rfl rfl rfl (fun w75 M75 => ?_)
  refine wl_nil ?_
  refine thenN ?_
  refine W_region ?_
  refine wl_q (r_move (.int _ _) rfl) rfl rfl ?_
  refine wl_q (r_quo rfl rfl (by decide)) rfl rfl ?_
  refine wl_re 50 (.int .u64 ((t32 / 65536 : Nat) : Int)) (iE (u_quo t32 65536 bd32)) ?_
  refine wl_q (r_assign (.int _ _) rfl) rfl rfl ?_
  refine wl_nil ?_
  refine blkN ?_
  refine thenN ?_
  refine W_region ?_
  refine wl_q (r_move (.int _ _) rfl) rfl rfl ?_
  refine wl_q (r_add rfl rfl (by first | decide | omega) (by first | decide | omega)) rfl rfl ?_
  refine wl_re 23 (.int .i64 3) (iE (by first | decide | omega)) ?_
  refine wl_q (r_assign (.int _ _) rfl) rfl rfl ?_
  refine wl_nil ?_
  refine thenN (Wr_s ?_)
  refine W_fresh (fr := [(4, .pointer _), (5, .pointer _), (6, .pointer _), (7, .pointer _), (8, .int .i64 3), (9, .int _ _), (10, .int .i64 3), (11, .int _ _), (16, .int .i64 3), (17, .bool true)]) (agC rfl (agC rfl (agC rfl (agC rfl (agC rfl (agC rfl (agC rfl (agC rfl (agC rfl (agC rfl agN)))))))))) (fun ρ76 => ?_)
  have M77 : Mem _ _ [_, _, _, (some _, bc [.int .u64 ((t00 % 65536 : Nat) : Int), .int .u64 ((t10 % 65536 : Nat) : Int), .int .u64 ((t20 % 65536 : Nat) : Int), .int .u64 ((t30 % 65536 : Nat) : Int), .int .u64 ((t31 % 65536 : Nat) : Int), .int .u64 ((t32 % 65536 : Nat) : Int), .int .u64 ((t23 / 65536 : Nat) : Int), .int .u64 0] 197)] _ := M75
  refine W_seq ?_
  refine W_seq ?_
  refine W_region ?_
  refine wl_q (r_move (.int _ _) rfl) rfl rfl ?_
  refine wl_q (r_bin (.bool (decide _)) rfl rfl rfl) rfl rfl ?_
  refine wl_re 21 (.bool true) (bT (by first | decide | omega)).symm ?_
  refine wl_nil ?_
  refine thenN ?_
  refine W_condT rfl ?_
  refine W_skip ?_
  refine thenN ?_
  refine W_seq ?_
  refine W_block ?_
  refine W_seq ?_
  refine W_draw [(0, 0), (1, 0), (2, 0), (3, 0), (4, 0), (5, 1), (6, 0), (7, 0), (8, 0), (9, 1), (10, 0), (11, 0), (12, 0), (13, 1), (14, 0), (15, 0), (16, 0), (17, 0), (18, 0)] mixed rfl (by kernel_rfl) (fun w78 hb78 hh78 => ?_)
  have M78 := M77.drew hb78 hh78
  obtain ⟨t33, ht33, ba33, bb33, bc33, bd33, be33⟩ := mul_step2 (z := t23 / 65536) (c := t32 / 65536) (x := x3) (y := y3) be23 be32 hx3 hy3
  refine D_p rfl rfl rfl (fun _ => r_move (.int _ _) rfl) ?_
  refine D_p rfl rfl rfl (fun _ => r_move (.int _ _) rfl) ?_
  refine D_p rfl rfl rfl (fun _ => r_add rfl rfl (by first | decide | omega) (by first | decide | omega)) ?_
  refine D_p rfl rfl rfl (fun _ => r_fieldAddr 0 fld197_0 rfl) ?_
  refine D_p rfl rfl rfl (fun _ => r_idxP (6) arr195 rfl rfl rfl (by decide)) ?_
  refine D_r rfl rfl rfl (r_ld 3 (.int _ _) one26 M78 rfl rfl rfl) ?_
  refine D_p rfl rfl rfl (fun _ => r_move (.int _ _) rfl) ?_
  refine D_p rfl rfl rfl (fun _ => r_fieldAddr 0 fld197_0 rfl) ?_
  refine D_p rfl rfl rfl (fun _ => r_idxP (3) arr195 rfl rfl rfl (by decide)) ?_
  refine D_r rfl rfl rfl (r_ld 1 (.int _ _) one26 M78 rfl rfl rfl) ?_
  refine D_p rfl rfl rfl (fun _ => r_move (.int _ _) rfl) ?_
  refine D_p rfl rfl rfl (fun _ => r_fieldAddr 0 fld197_0 rfl) ?_
  refine D_p rfl rfl rfl (fun _ => r_idxP (3) arr195 rfl rfl rfl (by decide)) ?_
  refine D_r rfl rfl rfl (r_ld 2 (.int _ _) one26 M78 rfl rfl rfl) ?_
  refine D_p rfl rfl rfl (fun _ => r_bin (.int _ _) rfl rfl rfl) ?_
  refine D_re 38 (.int .u64 ((x3 * y3 : Nat) : Int)) (iE (mulU x3 y3 ba33)) ?_
  refine D_p rfl rfl rfl (fun _ => r_bin (.int _ _) rfl rfl rfl) ?_
  refine D_re 39 (.int .u64 ((t23 / 65536 + x3 * y3 : Nat) : Int)) (iE (addU (t23 / 65536) (x3 * y3) bb33)) ?_
  refine D_p rfl rfl rfl (fun _ => r_move (.int _ _) rfl) ?_
  refine D_p rfl rfl rfl (fun _ => r_bin (.int _ _) rfl rfl rfl) ?_
  refine D_re 41 (.int .u64 (t33 : Int)) (iE ((addU (t23 / 65536 + x3 * y3) (t32 / 65536) bc33).trans (congrArg _ ht33.symm))) ?_
  refine D_p rfl rfl rfl (fun _ => r_assign (.int _ _) rfl) ?_
  refine D_nil ?_
  refine thenN ?_
  refine W_seq ?_
  refine W_region ?_
  refine wl_q (r_move (.int _ _) rfl) rfl rfl ?_
  refine wl_q (r_move (.int _ _) rfl) rfl rfl ?_
  refine wl_q (r_add rfl rfl (by first | decide | omega) (by first | decide | omega)) rfl rfl ?_
  refine wl_re 44 (.int .i64 6) (iE (by first | decide | omega)) ?_
  refine wl_q (r_move (.int _ _) rfl) rfl rfl ?_
  refine wl_q (r_rem rfl rfl (by decide)) rfl rfl ?_
  refine wl_re 46 (.int .u64 ((t33 % 65536 : Nat) : Int)) (iE (u_rem t33 65536)) ?_
  refine wl_q (r_fieldAddr 0 fld197_0 rfl) rfl rfl ?_
  refine wl_q (r_idxP (6) arr195 rfl rfl rfl (by decide)) rfl rfl ?_
  refine wl_st 3 (.int _ _) one26 M78 rfl rfl rfl rfl rfl rfl (fun w79 M79 => ?_)
  refine wl_nil ?_
  refine thenN ?_
  refine W_region ?_
  refine wl_q (r_move (.int _ _) rfl) rfl rfl ?_
  refine wl_q (r_quo rfl rfl (by decide)) rfl rfl ?_
  refine wl_re 50 (.int .u64 ((t33 / 65536 : Nat) : Int)) (iE (u_quo t33 65536 bd33)) ?_
  refine wl_q (r_assign (.int _ _) rfl) rfl rfl ?_
  refine wl_nil ?_
  refine blkN ?_
  refine thenN ?_
  refine W_region ?_
  refine wl_q (r_move (.int _ _) rfl) rfl rfl ?_
  refine wl_q (r_add rfl rfl (by first | decide | omega) (by first | decide | omega)) rfl rfl ?_
  refine wl_re 23 (.int .i64 4) (iE (by first | decide | omega)) ?_
  refine wl_q (r_assign (.int _ _) rfl) rfl rfl ?_
  refine wl_nil ?_
  refine thenN (Wr_s ?_)
  refine W_fresh (fr := [(4, .pointer _), (5, .pointer _), (6, .pointer _), (7, .pointer _), (8, .int .i64 3), (9, .int _ _), (10, .int .i64 4), (11, .int _ _), (16, .int .i64 3), (17, .bool true)]) (agC rfl (agC rfl (agC rfl (agC rfl (agC rfl (agC rfl (agC rfl (agC rfl (agC rfl (agC rfl agN)))))))))) (fun ρ80 => ?_)
  have M81 : Mem _ _ [_, _, _, (some _, bc [.int .u64 ((t00 % 65536 : Nat) : Int), .int .u64 ((t10 % 65536 : Nat) : Int), .int .u64 ((t20 % 65536 : Nat) : Int), .int .u64 ((t30 % 65536 : Nat) : Int), .int .u64 ((t31 % 65536 : Nat) : Int), .int .u64 ((t32 % 65536 : Nat) : Int), .int .u64 ((t33 % 65536 : Nat) : Int), .int .u64 0] 197)] _ := M79
  refine W_seq ?_
  refine W_seq ?_
  refine W_region ?_
  refine wl_q (r_move (.int _ _) rfl) rfl rfl ?_
  refine wl_q (r_bin (.bool (decide _)) rfl rfl rfl) rfl rfl ?_
  refine wl_re 21 (.bool false) (bF (by first | decide | omega)).symm ?_
  refine wl_nil ?_
  refine thenN ?_
  refine W_condF rfl ?_
  refine W_exit ?_
  refine thenX ?_
  refine thenX ?_
  refine blkH ?_
  refine thenN ?_
  refine W_region ?_
  refine wl_q (r_move (.int _ _) rfl) rfl rfl ?_
  refine wl_q (r_add rfl rfl (by first | decide | omega) (by first | decide | omega)) rfl rfl ?_
  refine wl_re 52 (.int .i64 7) (iE (by first | decide | omega)) ?_
  refine wl_q (r_move (.int _ _) rfl) rfl rfl ?_
  refine wl_q (r_fieldAddr 0 fld197_0 rfl) rfl rfl ?_
  refine wl_q (r_idxP (7) arr195 rfl rfl rfl (by decide)) rfl rfl ?_
  refine wl_st 3 (.int _ _) one26 M81 rfl rfl rfl rfl rfl rfl (fun w82 M82 => ?_)
  refine wl_nil ?_
  refine blkN ?_
  refine thenN ?_
  refine W_region ?_
  refine wl_q (r_move (.int _ _) rfl) rfl rfl ?_
  refine wl_q (r_add rfl rfl (by first | decide | omega) (by first | decide | omega)) rfl rfl ?_
  refine wl_re 19 (.int .i64 4) (iE (by first | decide | omega)) ?_
  refine wl_q (r_assign (.int _ _) rfl) rfl rfl ?_
  refine wl_nil ?_
  refine thenN (Wr_s ?_)
  refine W_fresh (fr := [(4, .pointer _), (5, .pointer _), (6, .pointer _), (7, .pointer _), (8, .int .i64 4), (9, .int _ _), (10, .int .i64 4), (11, .int _ _)]) (agC rfl (agC rfl (agC rfl (agC rfl (agC rfl (agC rfl (agC rfl (agC rfl agN)))))))) (fun ρ83 => ?_)
  have M84 : Mem _ _ [_, _, _, (some _, bc [.int .u64 ((t00 % 65536 : Nat) : Int), .int .u64 ((t10 % 65536 : Nat) : Int), .int .u64 ((t20 % 65536 : Nat) : Int), .int .u64 ((t30 % 65536 : Nat) : Int), .int .u64 ((t31 % 65536 : Nat) : Int), .int .u64 ((t32 % 65536 : Nat) : Int), .int .u64 ((t33 % 65536 : Nat) : Int), .int .u64 ((t33 / 65536 : Nat) : Int)] 197)] _ := M82
  refine W_seq ?_
  refine W_seq ?_
  refine W_region ?_
  refine wl_q (r_move (.int _ _) rfl) rfl rfl ?_
  refine wl_q (r_bin (.bool (decide _)) rfl rfl rfl) rfl rfl ?_
  refine wl_re 17 (.bool false) (bF (by first | decide | omega)).symm ?_
  refine wl_nil ?_
  refine thenN ?_
  refine W_condF rfl ?_
  refine W_exit ?_
  refine thenX ?_
  refine thenX ?_
  refine blkH ?_
  refine thenN ?_
  refine W_seq ?_
  refine W_region ?_
  refine wl_q (r_ldW 3 agg197 M84 rfl rfl rfl) rfl rfl ?_
  refine wl_stW 0 _ agg197 M84 rfl rfl rfl rfl rfl (ones_of rfl) rfl (fun w85 M85 => ?_)
  refine wl_nil ?_
  refine thenN ?_
  refine W_ret ?_
  skip
  refine finC1 0 agg197 M85 rfl rfl rfl ?_
  have hall := mul_all ht00 ht01 ht02 ht03 ht10 ht11 ht12 ht13 ht20 ht21 ht22 ht23 ht30 ht31 ht32 ht33
  rw [hX, hY] at hall
  exact ⟨[t00 % 65536, t10 % 65536, t20 % 65536, t30 % 65536, t31 % 65536, t32 % 65536, t33 % 65536, t33 / 65536], rfl, rfl, all8 (Nat.mod_lt _ (by decide)) (Nat.mod_lt _ (by decide)) (Nat.mod_lt _ (by decide)) (Nat.mod_lt _ (by decide)) (Nat.mod_lt _ (by decide)) (Nat.mod_lt _ (by decide)) (Nat.mod_lt _ (by decide)) be33, hall, M85.below⟩

end Go.Proofs.YtmcddmhkjcgneaaGreatDoor

/- Walks of Go functions over the frame of this claim: what each computes, for every input of the stated types (Z1c). -/
set_option linter.unusedVariables false
set_option linter.unusedSimpArgs false
set_option linter.unnecessarySimpa false
namespace Go.Proofs.YtmcddmhkjcgneaaGreatDoor
open Go.Bil
open Go.RowKit (Below)
open Go.Proofs

set_option maxHeartbeats 4000000 in
theorem ref01_bit (w : World) (d0 d1 d2 d3 d4 d5 d6 d7 : Nat) (hd : ∀ x ∈ ([d0, d1, d2, d3, d4, d5, d6, d7] : List Nat), x < 65536) (i : Nat) (hi : i < 128) :
    Calls Tryz.prog 143 #[(.agg (([d0, d1, d2, d3, d4, d5, d6, d7] : List Nat).map u64Cell).toArray), .int .i64 (i : Int)] w (fun ex w' => ∃ v, ex = .returned v ∧ (fun v w' => v = .int .u64 ((valD [d0, d1, d2, d3, d4, d5, d6, d7] / 2 ^ i % 2 : Nat) : Int) ∧ Below w.heap.size w w') v w') := by
  obtain ⟨d, hdj⟩ := getSome (xs := ([d0, d1, d2, d3, d4, d5, d6, d7] : List Nat)) (k := i / 16) (n := 8) rfl (by omega)
  have hdl := hd d (List.mem_of_getElem? hdj)
  refine calls_of_W #[.tmp 4] 22 Tryz.func143 rfl Tryz.results143 Tryz.ntmps143 rfl ?_
  have M0 := Mem.refl w
  refine W_seq ?_
  refine W_region ?_
  refine wl_box (.agg (List.toArray _)) M0 rfl rfl rfl (fun b1 w1 M1 => ?_)
  refine wl_q (r_assign (.int _ _) rfl) rfl rfl ?_
  refine wl_nil ?_
  refine thenN ?_
  refine W_seq ?_
  refine W_region ?_
  refine wl_q (r_move (.int _ _) rfl) rfl rfl ?_
  refine wl_q (r_quo rfl rfl (by decide)) rfl rfl ?_
  refine wl_re 8 (.int .i64 ((i / 16 : Nat) : Int)) (iE (quoN i 16 (by omega))) ?_
  refine wl_q (r_fieldAddr 0 fld197_0 rfl) rfl rfl ?_
  refine wl_q (r_idxP ((i / 16)) arr195 rfl rfl rfl (by omega)) rfl rfl ?_
  refine wl_q (r_ld 0 (.int _ _) one26 M1 rfl rfl (u64_nth hdj)) rfl rfl ?_
  refine wl_q (r_assign (.int _ _) rfl) rfl rfl ?_
  refine wl_nil ?_
  refine thenN ?_
  refine W_seq ?_
  refine W_seq ?_
  refine W_region ?_
  refine wl_q (r_assign (.int _ _) rfl) rfl rfl ?_
  refine wl_nil ?_
  refine thenN ?_
  refine W_block ?_
  refine W_loop (σ := Nat) [1, 4] (fun k => [(5, .int .u64 ((d / 2 ^ k : Nat) : Int)), (6, .int .i64 (k : Int))]) (fun k w' => k ≤ i % 16 ∧ Mem w [] [(some b1, bc (([d0, d1, d2, d3, d4, d5, d6, d7] : List Nat).map u64Cell) 197)] w') (fun k => i % 16 - k) 0 (agC (iv rfl (by simp)) (agC rfl agN)) (⟨by omega, M1⟩) ?_
  rintro k ρ2 w2 ⟨hk, hM2⟩
  refine W_seq ?_
  refine W_seq ?_
  refine W_region ?_
  refine wl_q (r_move (.int _ _) rfl) rfl rfl ?_
  refine wl_q (r_move (.int _ _) rfl) rfl rfl ?_
  refine wl_q (r_rem rfl rfl (by decide)) rfl rfl ?_
  refine wl_re 14 (.int .i64 ((i % 16 : Nat) : Int)) (iE (u_rem i 16)) ?_
  refine wl_q (r_bin (.bool (decide _)) rfl rfl rfl) rfl rfl ?_
  refine wl_nil ?_
  refine thenN ?_
  refine W_condD rfl (fun h15 => ?_) (fun h15 => ?_)
  · skip
    refine W_skip ?_
    refine thenN ?_
    refine W_seq ?_
    refine W_block ?_
    refine W_region ?_
    refine wl_q (r_move (.int _ _) rfl) rfl rfl ?_
    refine wl_q (r_quo rfl rfl (by decide)) rfl rfl ?_
    refine wl_re 19 (.int .u64 ((d / 2 ^ (k + 1) : Nat) : Int)) (iE ((u_quo (d / 2 ^ k) 2 (Nat.lt_of_le_of_lt (Nat.div_le_self _ _) (by omega))).trans (congrArg _ (by rw [Nat.pow_succ, Nat.div_div_eq_div_mul])))) ?_
    refine wl_q (r_assign (.int _ _) rfl) rfl rfl ?_
    refine wl_nil ?_
    refine blkN ?_
    refine thenN ?_
    refine W_region ?_
    refine wl_q (r_move (.int _ _) rfl) rfl rfl ?_
    refine wl_q (r_add rfl rfl (by omega) (by omega)) rfl rfl ?_
    refine wl_q (r_assign (.int _ _) rfl) rfl rfl ?_
    refine wl_nil ?_
    refine roundN (k + 1) (agC rfl (agC rfl agN)) (akC rfl (akC rfl akN)) ?_ ?_
    · exact ⟨by omega, hM2⟩
    · omega
  · skip
    have hks : k = i % 16 := by omega
    refine W_exit ?_
    refine thenX ?_
    refine roundX ?_
    refine blkH ?_
    refine thenN ?_
    refine W_seq ?_
    refine W_region ?_
    refine wl_q (r_move (.int _ _) rfl) rfl rfl ?_
    refine wl_q (r_rem rfl rfl (by decide)) rfl rfl ?_
    refine wl_re 21 (.int .u64 ((d / 2 ^ k % 2 : Nat) : Int)) (iE (u_rem (d / 2 ^ k) 2)) ?_
    refine wl_q (r_assign (.int _ _) rfl) rfl rfl ?_
    refine wl_nil ?_
    refine thenN ?_
    refine W_ret ?_
    skip
    refine fin1 (.int _ _) rfl ?_
    exact ⟨iE (congrArg _ (by rw [hks]; exact bit_eq (valD [d0, d1, d2, d3, d4, d5, d6, d7]) i (i / 16) (i % 16) d (by omega) (by omega) (valD_div [d0, d1, d2, d3, d4, d5, d6, d7] (i / 16) d hd hdj))), hM2.below⟩

set_option maxHeartbeats 8000000 in
theorem ref01_divide (w : World) (d0 d1 d2 d3 d4 d5 d6 d7 : Nat) (hd : ∀ x ∈ ([d0, d1, d2, d3, d4, d5, d6, d7] : List Nat), x < 65536) (z : Nat) (hz : 0 < z) (hz1 : z ≤ 9223372036854775807) (hX : valD [d0, d1, d2, d3, d4, d5, d6, d7] / z ≤ 4611686018427387904) (hX2 : valD [d0, d1, d2, d3, d4, d5, d6, d7] < 340282366920938463463374607431768211456) :
    Calls Tryz.prog 127 #[(.agg (([d0, d1, d2, d3, d4, d5, d6, d7] : List Nat).map u64Cell).toArray), .int .u64 (z : Int)] w (fun ex w' => ∃ v, ex = .returned v ∧ (fun v w' => v = .tuple #[.int .u64 ((valD [d0, d1, d2, d3, d4, d5, d6, d7] / z : Nat) : Int), .int .u64 ((valD [d0, d1, d2, d3, d4, d5, d6, d7] % z : Nat) : Int), .bool true] ∧ Below w.heap.size w w') v w') := by
  refine calls_of_W #[.tmp 4, .tmp 5, .tmp 6] 42 Tryz.func127 rfl Tryz.results127 Tryz.ntmps127 rfl ?_
  have M0 := Mem.refl w
  refine W_seq ?_
  refine W_region ?_
  refine wl_box (.agg (List.toArray _)) M0 rfl rfl rfl (fun b1 w1 M1 => ?_)
  refine wl_q (r_assign (.int _ _) rfl) rfl rfl ?_
  refine wl_q (r_assign (.int _ _) rfl) rfl rfl ?_
  refine wl_q (r_assign (.bool false) rfl) rfl rfl ?_
  refine wl_nil ?_
  refine thenN ?_
  refine W_seq ?_
  refine W_region ?_
  refine wl_q (r_assign (.int _ _) rfl) rfl rfl ?_
  refine wl_nil ?_
  refine thenN ?_
  refine W_seq ?_
  refine W_region ?_
  refine wl_q (r_assign (.int _ _) rfl) rfl rfl ?_
  refine wl_nil ?_
  refine thenN ?_
  refine W_seq ?_
  refine W_region ?_
  refine wl_q (r_assign (.bool true) rfl) rfl rfl ?_
  refine wl_nil ?_
  refine thenN ?_
  refine W_seq ?_
  refine W_seq ?_
  refine W_region ?_
  refine wl_q (r_assign (.int _ _) rfl) rfl rfl ?_
  refine wl_nil ?_
  refine thenN ?_
  refine W_block ?_
  refine W_loop (σ := Nat × Nat × Nat) [1, 2, 4, 5, 6] (fun (p, q, r) => [(7, .int .u64 (q : Int)), (8, .int .u64 (r : Int)), (9, .bool true), (10, .int .i64 ((p : Int) - 1))]) (fun (p, q, r) w' => (p ≤ 128 ∧ Lb (valD [d0, d1, d2, d3, d4, d5, d6, d7]) z p q r) ∧ Mem w [] [(some b1, bc (([d0, d1, d2, d3, d4, d5, d6, d7] : List Nat).map u64Cell) 197)] w') (fun (p, q, r) => p) (128, 0, 0) (agC rfl (agC rfl (agC rfl (agC (iv rfl (by decide)) agN)))) (⟨⟨by omega, lb_init hz hX2⟩, M1⟩) ?_
  rintro ⟨p, q, r⟩ ρ2 w2 ⟨⟨hp, hlb⟩, hM2⟩
  refine W_seq ?_
  refine W_seq ?_
  refine W_region ?_
  refine wl_q (r_move (.int _ _) rfl) rfl rfl ?_
  refine wl_q (r_bin (.bool (decide _)) rfl rfl rfl) rfl rfl ?_
  refine wl_nil ?_
  refine thenN ?_
  refine W_condD rfl (fun h13 => ?_) (fun h13 => ?_)
  · skip
    obtain ⟨s, rfl⟩ : ∃ s, p = s + 1 := ⟨p - 1, by omega⟩
    obtain ⟨b, hb⟩ : ∃ b, valD [d0, d1, d2, d3, d4, d5, d6, d7] / 2 ^ s % 2 = b := ⟨_, rfl⟩
    obtain ⟨hr, hb2, hq2, hyes, hno⟩ := lb_step hz hlb hb
    have hsm := lb_small (i := s) hX
    refine W_skip ?_
    refine thenN ?_
    refine W_seq ?_
    refine W_block ?_
    refine W_seq ?_
    refine W_region ?_
    refine wl_q (r_move (.int _ _) rfl) rfl rfl ?_
    refine wl_q (r_bin (.bool (decide _)) rfl rfl rfl) rfl rfl ?_
    refine wl_re 17 (.bool false) (bF (by omega)).symm ?_
    refine wl_q (r_assign (.bool false) rfl) rfl rfl ?_
    refine wl_nil ?_
    refine thenN ?_
    refine W_seq ?_
    refine W_region ?_
    refine wl_q (r_move (.int _ _) rfl) rfl rfl ?_
    refine wl_q (r_bin (.int _ _) rfl rfl rfl) rfl rfl ?_
    refine wl_re 19 (.int .u64 ((2 * r : Nat) : Int)) (iE (by rw [wrU]; omega)) ?_
    refine wl_q (r_ldW 0 agg197 hM2 rfl rfl rfl) rfl rfl ?_
    refine wl_q (r_move (.int _ _) rfl) rfl rfl ?_
    refine wl_re 21 (.int .i64 (s : Int)) (iE (by omega)) ?_
    refine wl_cal cal143 rfl rfl rfl ?_
    refine (ref01_bit _ d0 d1 d2 d3 d4 d5 d6 d7 hd s (by omega)).mono ?_
    rintro _ w3 ⟨v3, rfl, ⟨rfl, hb3⟩⟩
    refine ⟨_, rfl, ?_⟩
    have M3 := hM2.callB hb3
    refine wl_re 22 (.int .u64 (b : Int)) (iE (congrArg _ hb)) ?_
    refine wl_q (r_bin (.int _ _) rfl rfl rfl) rfl rfl ?_
    refine wl_re 23 (.int .u64 ((2 * r + b : Nat) : Int)) (iE (by rw [wrU]; omega)) ?_
    refine wl_q (r_assign (.int _ _) rfl) rfl rfl ?_
    refine wl_nil ?_
    refine thenN ?_
    refine W_seq ?_
    refine W_seq ?_
    refine W_region ?_
    refine wl_q (r_move (.int _ _) rfl) rfl rfl ?_
    refine wl_q (r_bin (.bool (decide _)) rfl rfl rfl) rfl rfl ?_
    refine wl_re 25 (.bool false) (bF (by omega)).symm ?_
    refine wl_nil ?_
    refine thenN ?_
    refine W_condF rfl ?_
    refine W_skip ?_
    refine thenN ?_
    refine W_seq ?_
    refine W_region ?_
    refine wl_q (r_move (.int _ _) rfl) rfl rfl ?_
    refine wl_q (r_bin (.int _ _) rfl rfl rfl) rfl rfl ?_
    refine wl_re 27 (.int .u64 ((2 * q : Nat) : Int)) (iE (by rw [wrU]; omega)) ?_
    refine wl_q (r_assign (.int _ _) rfl) rfl rfl ?_
    refine wl_nil ?_
    refine thenN ?_
    refine W_seq ?_
    refine W_region ?_
    refine wl_q (r_move (.bool false) rfl) rfl rfl ?_
    refine wl_q (r_move (.bool false) rfl) rfl rfl ?_
    refine wl_q (r_move (.int _ _) rfl) rfl rfl ?_
    refine wl_q (r_move (.int _ _) rfl) rfl rfl ?_
    refine wl_q (r_bin (.bool (decide _)) rfl rfl rfl) rfl rfl ?_
    refine wl_q (r_pick false (.bool (decide _)) rfl rfl) rfl rfl ?_
    refine wl_nil ?_
    refine thenN ?_
    refine W_condD rfl (fun h33 => ?_) (fun h33 => ?_)
    · skip
      refine W_seq ?_
      refine W_region ?_
      refine wl_q (r_move (.int _ _) rfl) rfl rfl ?_
      refine wl_q (r_move (.int _ _) rfl) rfl rfl ?_
      refine wl_q (r_bin (.int _ _) rfl rfl rfl) rfl rfl ?_
      refine wl_re 36 (.int .u64 ((2 * r + b - z : Nat) : Int)) (iE (by rw [wrU]; omega)) ?_
      refine wl_q (r_assign (.int _ _) rfl) rfl rfl ?_
      refine wl_nil ?_
      refine thenN ?_
      refine W_region ?_
      refine wl_q (r_move (.int _ _) rfl) rfl rfl ?_
      refine wl_q (r_bin (.int _ _) rfl rfl rfl) rfl rfl ?_
      refine wl_re 38 (.int .u64 ((2 * q + 1 : Nat) : Int)) (iE (by rw [wrU]; omega)) ?_
      refine wl_q (r_assign (.int _ _) rfl) rfl rfl ?_
      refine wl_nil ?_
      refine blkN ?_
      refine thenN ?_
      refine W_region ?_
      refine wl_q (r_move (.int _ _) rfl) rfl rfl ?_
      refine wl_q (r_sub rfl rfl (by omega) (by omega)) rfl rfl ?_
      refine wl_q (r_assign (.int _ _) rfl) rfl rfl ?_
      refine wl_nil ?_
      refine roundN (s, 2 * q + 1, 2 * r + b - z) (agC rfl (agC rfl (agC rfl (agC (iv rfl (by omega)) agN)))) (akC rfl (akC rfl (akC rfl (akC rfl (akC rfl akN))))) ?_ ?_
      · exact ⟨⟨by omega, hyes (by omega)⟩, M3⟩
      · (show s < s + 1; omega)
    · skip
      refine W_skip ?_
      refine blkN ?_
      refine thenN ?_
      refine W_region ?_
      refine wl_q (r_move (.int _ _) rfl) rfl rfl ?_
      refine wl_q (r_sub rfl rfl (by omega) (by omega)) rfl rfl ?_
      refine wl_q (r_assign (.int _ _) rfl) rfl rfl ?_
      refine wl_nil ?_
      refine roundN (s, 2 * q, 2 * r + b) (agC rfl (agC rfl (agC rfl (agC (iv rfl (by omega)) agN)))) (akC rfl (akC rfl (akC rfl (akC rfl (akC rfl akN))))) ?_ ?_
      · exact ⟨⟨by omega, hno (by omega)⟩, M3⟩
      · (show s < s + 1; omega)
  · skip
    obtain rfl : p = 0 := by omega
    obtain ⟨hq, hr⟩ := lb_done hlb
    refine W_exit ?_
    refine thenX ?_
    refine roundX ?_
    refine blkH ?_
    refine thenN ?_
    refine W_seq ?_
    refine W_region ?_
    refine wl_q (r_move (.int _ _) rfl) rfl rfl ?_
    refine wl_q (r_move (.int _ _) rfl) rfl rfl ?_
    refine wl_q (r_move (.bool true) rfl) rfl rfl ?_
    refine wl_q (r_assign (.int _ _) rfl) rfl rfl ?_
    refine wl_q (r_assign (.int _ _) rfl) rfl rfl ?_
    refine wl_q (r_assign (.bool true) rfl) rfl rfl ?_
    refine wl_nil ?_
    refine thenN ?_
    refine W_ret ?_
    skip
    refine fin3 (.int _ _) (.int _ _) (.bool true) rfl rfl rfl ?_
    exact ⟨by rw [hq, hr], hM2.below⟩

end Go.Proofs.YtmcddmhkjcgneaaGreatDoor

/- Walks of Go functions over the frame of this claim: what each computes, for every input of the stated types (Z1d). -/
set_option linter.unusedVariables false
set_option linter.unusedSimpArgs false
set_option linter.unnecessarySimpa false
namespace Go.Proofs.YtmcddmhkjcgneaaGreatDoor
open Go.Bil
open Go.RowKit (Below)
open Go.Proofs

set_option maxHeartbeats 4000000 in
theorem ref01_floor (w : World) (q r : Nat) (neg : Bool) (hq : q ≤ 4294967296) :
    Calls Tryz.prog 129 #[.int .u64 (q : Int), .int .u64 (r : Int), .bool true, .bool neg] w (fun ex w' => ∃ v, ex = .returned v ∧ (fun v w' => v = .tuple #[.int .i64 (if neg = true then (if 0 < r then -(q : Int) - 1 else -(q : Int)) else (q : Int)), .bool true] ∧ Below w.heap.size w w') v w') := by
  refine calls_of_W #[.tmp 8, .tmp 9] 33 Tryz.func129 rfl Tryz.results129 Tryz.ntmps129 rfl ?_
  have M0 := Mem.refl w
  refine W_seq ?_
  refine W_region ?_
  refine wl_q (r_assign (.int _ _) rfl) rfl rfl ?_
  refine wl_q (r_assign (.bool false) rfl) rfl rfl ?_
  refine wl_nil ?_
  refine thenN ?_
  refine W_seq ?_
  refine W_seq ?_
  refine W_region ?_
  refine wl_q (r_move (.bool _) rfl) rfl rfl ?_
  refine wl_q (r_notB _ rfl rfl) rfl rfl ?_
  refine wl_nil ?_
  refine thenN ?_
  refine W_cond _ rfl (fun h11 => ?_) (fun h11 => ?_)
  · skip
    have hn : neg = false := by simpa using h11
    refine W_seq ?_
    refine W_region ?_
    refine wl_q (r_move (.int _ _) rfl) rfl rfl ?_
    refine wl_q (r_convK us26 Tryz.underlying2 rfl (w64 _ (by omega) (by omega))) rfl rfl ?_
    refine wl_q (r_move (.bool true) rfl) rfl rfl ?_
    refine wl_q (r_move (.bool true) rfl) rfl rfl ?_
    refine wl_q (r_move (.int _ _) rfl) rfl rfl ?_
    refine wl_q (r_bin (.bool (decide _)) rfl rfl rfl) rfl rfl ?_
    refine wl_re 17 (.bool true) (bT (by omega)).symm ?_
    refine wl_q (r_pick true (.bool true) rfl rfl) rfl rfl ?_
    refine wl_q (r_assign (.int _ _) rfl) rfl rfl ?_
    refine wl_q (r_assign (.bool true) rfl) rfl rfl ?_
    refine wl_nil ?_
    refine thenN ?_
    refine W_ret ?_
    refine thenR ?_
    skip
    refine fin2 (.int _ _) (.bool true) rfl rfl ?_
    exact ⟨by rw [hn]; rfl, M0.below⟩
  · skip
    have hn : neg = true := by simpa using h11
    refine W_skip ?_
    refine thenN ?_
    refine W_seq ?_
    refine W_seq ?_
    refine W_region ?_
    refine wl_q (r_move (.int _ _) rfl) rfl rfl ?_
    refine wl_q (r_bin (.bool (decide _)) rfl rfl rfl) rfl rfl ?_
    refine wl_nil ?_
    refine thenN ?_
    refine W_condD rfl (fun h20 => ?_) (fun h20 => ?_)
    · skip
      refine W_seq ?_
      refine W_seq ?_
      refine W_region ?_
      refine wl_q (r_move (.int _ _) rfl) rfl rfl ?_
      refine wl_q (r_bin (.bool (decide _)) rfl rfl rfl) rfl rfl ?_
      refine wl_re 22 (.bool false) (bF (by omega)).symm ?_
      refine wl_nil ?_
      refine thenN ?_
      refine W_condF rfl ?_
      refine W_skip ?_
      refine thenN ?_
      refine W_region ?_
      refine wl_q (r_move (.int _ _) rfl) rfl rfl ?_
      refine wl_q (r_bin (.int _ _) rfl rfl rfl) rfl rfl ?_
      refine wl_re 24 (.int .u64 ((q + 1 : Nat) : Int)) (iE (by rw [wrU]; omega)) ?_
      refine wl_q (r_assign (.int _ _) rfl) rfl rfl ?_
      refine wl_nil ?_
      refine thenN ?_
      refine W_seq ?_
      refine W_region ?_
      refine wl_q (r_move (.int _ _) rfl) rfl rfl ?_
      refine wl_q (r_neg rfl) rfl rfl ?_
      refine wl_q (r_conv us26 Tryz.underlying2 rfl) rfl rfl ?_
      refine wl_re 27 (.int .i64 (-((q + 1 : Nat) : Int))) (iE (wrI_neg (q + 1) (by omega))) ?_
      refine wl_q (r_move (.bool true) rfl) rfl rfl ?_
      refine wl_q (r_move (.bool true) rfl) rfl rfl ?_
      refine wl_q (r_move (.int _ _) rfl) rfl rfl ?_
      refine wl_q (r_bin (.bool (decide _)) rfl rfl rfl) rfl rfl ?_
      refine wl_re 31 (.bool true) (bT (by omega)).symm ?_
      refine wl_q (r_pick true (.bool true) rfl rfl) rfl rfl ?_
      refine wl_q (r_assign (.int _ _) rfl) rfl rfl ?_
      refine wl_q (r_assign (.bool true) rfl) rfl rfl ?_
      refine wl_nil ?_
      refine thenN ?_
      refine W_ret ?_
      skip
      refine fin2 (.int _ _) (.bool true) rfl rfl ?_
      exact ⟨by rw [if_pos hn, if_pos (by omega)]; exact tupE (iE (by omega)) rfl, M0.below⟩
    · skip
      refine W_skip ?_
      refine thenN ?_
      refine W_seq ?_
      refine W_region ?_
      refine wl_q (r_move (.int _ _) rfl) rfl rfl ?_
      refine wl_q (r_neg rfl) rfl rfl ?_
      refine wl_q (r_conv us26 Tryz.underlying2 rfl) rfl rfl ?_
      refine wl_re 27 (.int .i64 (-((q : Nat) : Int))) (iE (wrI_neg (q) (by omega))) ?_
      refine wl_q (r_move (.bool true) rfl) rfl rfl ?_
      refine wl_q (r_move (.bool true) rfl) rfl rfl ?_
      refine wl_q (r_move (.int _ _) rfl) rfl rfl ?_
      refine wl_q (r_bin (.bool (decide _)) rfl rfl rfl) rfl rfl ?_
      refine wl_re 31 (.bool true) (bT (by omega)).symm ?_
      refine wl_q (r_pick true (.bool true) rfl rfl) rfl rfl ?_
      refine wl_q (r_assign (.int _ _) rfl) rfl rfl ?_
      refine wl_q (r_assign (.bool true) rfl) rfl rfl ?_
      refine wl_nil ?_
      refine thenN ?_
      refine W_ret ?_
      skip
      refine fin2 (.int _ _) (.bool true) rfl rfl ?_
      exact ⟨by rw [if_pos hn, if_neg (by omega)], M0.below⟩

set_option maxHeartbeats 8000000 in
theorem ref01_MulDiv (w : World) (a n d : Int) (ha : -4294967296 ≤ a ∧ a ≤ 4294967296) (hn : 0 ≤ n) (hnd : n ≤ d) (hd0 : 0 < d) (hd : d ≤ 9223372036854775807) :
    Calls Tryz.prog 117 #[.int .i64 a, .int .i64 n, .int .i64 d] w (fun ex w' => ∃ v, ex = .returned v ∧ (fun v w' => v = .tuple #[.int .i64 (a * n / d), .int .i64 0] ∧ Below w.heap.size w w') v w') := by
  obtain ⟨m, rfl⟩ := Int.eq_ofNat_of_zero_le hn
  obtain ⟨z, rfl⟩ := Int.eq_ofNat_of_zero_le (Int.le_of_lt hd0)
  have hmd := md_facts (a := a) (m := m) (z := z) ha (by omega) (by omega) (by omega)
  obtain ⟨q, hq⟩ : ∃ q, a.natAbs * m / z = q := ⟨_, rfl⟩
  obtain ⟨r, hr⟩ : ∃ r, a.natAbs * m % z = r := ⟨_, rfl⟩
  have hql : q ≤ 4294967296 := by rw [← hq]; exact hmd.2.2.2
  have hbig : a.natAbs * m ≤ 4294967296 * 9223372036854775807 := Nat.mul_le_mul (by omega) (by omega)
  refine calls_of_W #[.tmp 6, .tmp 7] 49 Tryz.func117 rfl Tryz.results117 Tryz.ntmps117 rfl ?_
  have M0 := Mem.refl w
  refine W_seq ?_
  refine W_region ?_
  refine wl_q (r_assign (.int _ _) rfl) rfl rfl ?_
  refine wl_q (r_assign (.int _ _) rfl) rfl rfl ?_
  refine wl_nil ?_
  refine thenN ?_
  refine W_seq ?_
  refine W_seq ?_
  refine W_region ?_
  refine wl_q (r_move (.int _ _) rfl) rfl rfl ?_
  refine wl_q (r_bin (.bool (decide _)) rfl rfl rfl) rfl rfl ?_
  refine wl_re 15 (.bool false) (bF (by omega)).symm ?_
  refine wl_nil ?_
  refine thenN ?_
  refine W_condF rfl ?_
  refine W_skip ?_
  refine thenN ?_
  refine W_seq ?_
  refine W_region ?_
  refine wl_q (r_move (.int _ _) rfl) rfl rfl ?_
  refine wl_q (r_conv us2 Tryz.underlying26 rfl) rfl rfl ?_
  refine wl_re 17 (.int .u64 (z : Int)) (iE (by rw [wrU]; omega)) ?_
  refine wl_q (r_assign (.int _ _) rfl) rfl rfl ?_
  refine wl_nil ?_
  refine thenN ?_
  refine W_seq ?_
  refine W_seq ?_
  refine W_region ?_
  refine wl_q (r_move (.int _ _) rfl) rfl rfl ?_
  refine wl_q (r_bin (.bool (decide _)) rfl rfl rfl) rfl rfl ?_
  refine wl_re 19 (.bool false) (bF (by omega)).symm ?_
  refine wl_nil ?_
  refine thenN ?_
  refine W_condF rfl ?_
  refine W_skip ?_
  refine thenN ?_
  refine W_seq ?_
  refine W_region ?_
  refine wl_q (r_move (.int _ _) rfl) rfl rfl ?_
  refine wl_q (r_move (.int _ _) rfl) rfl rfl ?_
  refine wl_cal cal128 rfl rfl rfl ?_
  refine (ref01_product _ a (m : Int) (by omega) (by omega) (by omega) (by omega)).mono ?_
  rintro _ w1 ⟨v1, rfl, ⟨D, rfl, hD8, hDd, hDv, hb1⟩⟩
  refine ⟨_, rfl, ?_⟩
  have M1 := M0.callB hb1
  obtain ⟨d0, d1, d2, d3, d4, d5, d6, d7, rfl⟩ := eight hD8
  rw [Int.natAbs_natCast] at hDv
  refine wl_q (r_move (.int _ _) rfl) rfl rfl ?_
  refine wl_cal cal127 rfl rfl rfl ?_
  refine (ref01_divide _ d0 d1 d2 d3 d4 d5 d6 d7 hDd z (by omega) (by omega) (by rw [hDv]; omega) (by rw [hDv]; omega)).mono ?_
  rintro _ w2 ⟨v2, rfl, ⟨rfl, hb2⟩⟩
  refine ⟨_, rfl, ?_⟩
  have M2 := M1.callB hb2
  refine wl_q (r_move (.tuple (List.toArray _)) rfl) rfl rfl ?_
  refine wl_q (r_ext (.int _ _) rfl rfl) rfl rfl ?_
  refine wl_re 28 (.int .u64 (q : Int)) (iE (by rw [hDv, hq])) ?_
  refine wl_q (r_ext (.int _ _) rfl rfl) rfl rfl ?_
  refine wl_re 29 (.int .u64 (r : Int)) (iE (by rw [hDv, hr])) ?_
  refine wl_q (r_ext (.bool true) rfl rfl) rfl rfl ?_
  refine wl_q (r_assign (.int _ _) rfl) rfl rfl ?_
  refine wl_q (r_assign (.int _ _) rfl) rfl rfl ?_
  refine wl_q (r_assign (.bool true) rfl) rfl rfl ?_
  refine wl_nil ?_
  refine thenN ?_
  refine W_seq ?_
  refine W_region ?_
  refine wl_q (r_move (.int _ _) rfl) rfl rfl ?_
  refine wl_q (r_move (.int _ _) rfl) rfl rfl ?_
  refine wl_q (r_move (.bool true) rfl) rfl rfl ?_
  refine wl_q (r_move (.int _ _) rfl) rfl rfl ?_
  refine wl_q (r_bin (.bool (decide _)) rfl rfl rfl) rfl rfl ?_
  refine wl_q (r_move (.int _ _) rfl) rfl rfl ?_
  refine wl_q (r_bin (.bool (decide _)) rfl rfl rfl) rfl rfl ?_
  refine wl_re 38 (.bool false) (bF (by omega)).symm ?_
  refine wl_q (r_binB _ Tryz.underlying4 rfl rfl rfl) rfl rfl ?_
  refine wl_re 39 (.bool (decide (a < 0))) (bv rfl (by simp)) ?_
  refine wl_q (r_move (.int _ _) rfl) rfl rfl ?_
  refine wl_q (r_bin (.bool (decide _)) rfl rfl rfl) rfl rfl ?_
  refine wl_re 41 (.bool false) (bF (by omega)).symm ?_
  refine wl_q (r_binB _ Tryz.underlying4 rfl rfl rfl) rfl rfl ?_
  refine wl_re 42 (.bool (decide (a < 0))) (bv rfl (by simp)) ?_
  refine wl_cal cal129 rfl rfl rfl ?_
  refine (ref01_floor _ q r (decide (a < 0)) hql).mono ?_
  rintro _ w3 ⟨v3, rfl, ⟨rfl, hb3⟩⟩
  refine ⟨_, rfl, ?_⟩
  have M3 := M2.callB hb3
  refine wl_q (r_move (.tuple (List.toArray _)) rfl) rfl rfl ?_
  refine wl_q (r_ext (.int _ _) rfl rfl) rfl rfl ?_
  refine wl_q (r_ext (.bool true) rfl rfl) rfl rfl ?_
  refine wl_q (r_assign (.int _ _) rfl) rfl rfl ?_
  refine wl_q (r_assign (.bool true) rfl) rfl rfl ?_
  refine wl_nil ?_
  refine thenN ?_
  refine W_seq ?_
  refine W_seq ?_
  refine W_region ?_
  refine wl_q (r_move (.bool true) rfl) rfl rfl ?_
  refine wl_q (r_notB false rfl rfl) rfl rfl ?_
  refine wl_nil ?_
  refine thenN ?_
  refine W_condF rfl ?_
  refine W_skip ?_
  refine thenN ?_
  refine W_seq ?_
  refine W_region ?_
  refine wl_q (r_move (.int _ _) rfl) rfl rfl ?_
  refine wl_q (r_assign (.int _ _) rfl) rfl rfl ?_
  refine wl_q (r_assign (.int _ _) rfl) rfl rfl ?_
  refine wl_nil ?_
  refine thenN ?_
  refine W_ret ?_
  skip
  refine fin2 (.int _ _) (.int _ _) rfl rfl ?_
  have hval : (if decide (a < 0) = true then (if 0 < r then -(q : Int) - 1 else -(q : Int)) else (q : Int)) = a * (m : Int) / (z : Int) := md_floor hq hr hd0
  exact ⟨tupE (iE hval) rfl, M3.below⟩

end Go.Proofs.YtmcddmhkjcgneaaGreatDoor

/- Walks of Go functions over the frame of this claim: what each computes, for every input of the stated types (W3). -/
set_option linter.unusedVariables false
set_option linter.unusedSimpArgs false
set_option linter.unnecessarySimpa false
namespace Go.Proofs.YtmcddmhkjcgneaaGreatDoor
open Go.Bil
open Go.RowKit (Below)
open Go.Proofs

set_option maxHeartbeats 8000000 in
theorem isqrt (w : World) (n : Nat) (hn : n < 18446744073709551616) :
    Calls Tryz.prog 114 #[.int .u64 (n : Int)] w (fun ex w' => ∃ v, ex = .returned v ∧ (fun v w' => v = .int .u64 ((isq n : Nat) : Int) ∧ Below w.heap.size w w') v w') := by
  refine calls_of_W #[.tmp 2] 32 Tryz.func114 rfl Tryz.results114 Tryz.ntmps114 rfl ?_
  have M0 := Mem.refl w
  refine W_seq ?_
  refine W_region ?_
  refine wl_q (r_assign (.int _ _) rfl) rfl rfl ?_
  refine wl_nil ?_
  refine thenN ?_
  refine W_seq ?_
  refine W_region ?_
  refine wl_q (r_move (.int _ _) rfl) rfl rfl ?_
  refine wl_q (r_assign (.int _ _) rfl) rfl rfl ?_
  refine wl_q (r_assign (.int _ _) rfl) rfl rfl ?_
  refine wl_nil ?_
  refine thenN ?_
  refine W_seq ?_
  refine W_seq ?_
  refine W_region ?_
  refine wl_q (r_move (.int _ _) rfl) rfl rfl ?_
  refine wl_nil ?_
  refine thenN ?_
  refine W_block ?_
  refine W_loop (σ := Nat × Nat × Nat) [2] (fun (i, R, e) => [(8, .int .i64 (i : Int)), (3, .int .u64 ((n - R * R : Nat) : Int)), (4, .int .u64 ((R * e : Nat) : Int))]) (fun (i, R, e) w' => Iq n i R e ∧ Mem w [] [] w') (fun (i, R, e) => 32 - i) (0, 0, 4294967296) (agC rfl (agC (iv rfl (by simp)) (agC (iv rfl (by simp)) agN))) (⟨iq_init hn, M0⟩) ?_
  rintro ⟨i, R, e⟩ ρ1 w1 ⟨I, hM1⟩
  have hile := I.ile
  have hle := I.le
  refine W_seq ?_
  refine W_region ?_
  refine wl_q (r_bin (.bool (decide _)) rfl rfl rfl) rfl rfl ?_
  refine wl_nil ?_
  refine thenN ?_
  refine W_seq ?_
  refine W_condD rfl (fun h9 => ?_) (fun h9 => ?_)
  · skip
    obtain ⟨f, hf1, hf2, hf3, hf4, hf5, hf6, hf7, hf8, hfy, hfn⟩ := iq_step (by omega) I
    refine W_skip ?_
    refine thenN ?_
    refine W_seq ?_
    refine W_block ?_
    refine W_seq ?_
    refine W_region ?_
    refine wl_q (r_move (.int _ _) rfl) rfl rfl ?_
    refine wl_q (r_assign (.int _ _) rfl) rfl rfl ?_
    refine wl_nil ?_
    refine thenN ?_
    refine W_seq ?_
    refine W_region ?_
    refine wl_q (r_move (.int _ _) rfl) rfl rfl ?_
    refine wl_q (r_mul rfl rfl (by omega) (by omega)) rfl rfl ?_
    refine wl_q (r_shr rfl rfl (by omega)) rfl rfl ?_
    refine wl_re 13 (.int .u64 ((f * f : Nat) : Int)) (iE ((u_shr62 (2 * i) _ (by omega) (by omega)).trans (congrArg _ hf4))) ?_
    refine wl_q (r_assign (.int _ _) rfl) rfl rfl ?_
    refine wl_nil ?_
    refine thenN ?_
    refine W_seq ?_
    refine W_region ?_
    refine wl_q (r_move (.int _ _) rfl) rfl rfl ?_
    refine wl_q (r_move (.int _ _) rfl) rfl rfl ?_
    refine wl_q (r_move (.int _ _) rfl) rfl rfl ?_
    refine wl_q (r_bin (.int _ _) rfl rfl rfl) rfl rfl ?_
    refine wl_re 17 (.int .u64 ((R * e + f * f : Nat) : Int)) (iE (by rw [wrU]; omega)) ?_
    refine wl_q (r_bin (.bool (decide _)) rfl rfl rfl) rfl rfl ?_
    refine wl_nil ?_
    refine thenN ?_
    refine W_condD rfl (fun h18 => ?_) (fun h18 => ?_)
    · skip
      have h18' : R * e + f * f ≤ n - R * R := by omega
      refine W_seq ?_
      refine W_region ?_
      refine wl_q (r_move (.int _ _) rfl) rfl rfl ?_
      refine wl_q (r_move (.int _ _) rfl) rfl rfl ?_
      refine wl_q (r_move (.int _ _) rfl) rfl rfl ?_
      refine wl_q (r_bin (.int _ _) rfl rfl rfl) rfl rfl ?_
      refine wl_re 22 (.int .u64 ((R * e + f * f : Nat) : Int)) (iE (by rw [wrU]; omega)) ?_
      refine wl_q (r_bin (.int _ _) rfl rfl rfl) rfl rfl ?_
      refine wl_re 23 (.int .u64 ((n - (R + f) * (R + f) : Nat) : Int)) (iE (by rw [wrU]; omega)) ?_
      refine wl_q (r_assign (.int _ _) rfl) rfl rfl ?_
      refine wl_nil ?_
      refine thenN ?_
      refine W_region ?_
      refine wl_q (r_move (.int _ _) rfl) rfl rfl ?_
      refine wl_q (r_shr rfl rfl (by decide)) rfl rfl ?_
      refine wl_re 25 (.int .u64 ((R * f : Nat) : Int)) (iE ((u_shr1 (R * e)).trans (congrArg _ hf5))) ?_
      refine wl_q (r_move (.int _ _) rfl) rfl rfl ?_
      refine wl_q (r_bin (.int _ _) rfl rfl rfl) rfl rfl ?_
      refine wl_re 27 (.int .u64 (((R + f) * f : Nat) : Int)) (iE (by rw [wrU]; omega)) ?_
      refine wl_q (r_assign (.int _ _) rfl) rfl rfl ?_
      refine wl_nil ?_
      refine blkN ?_
      refine thenN ?_
      refine W_region ?_
      refine wl_q (r_add rfl rfl (by omega) (by omega)) rfl rfl ?_
      refine wl_q (r_move (.int _ _) rfl) rfl rfl ?_
      refine wl_nil ?_
      refine roundN (i + 1, R + f, f) (agC rfl (agC rfl (agC rfl agN))) (akC rfl akN) ?_ ?_
      · exact ⟨hfy h18', hM1⟩
      · (show 32 - (i + 1) < 32 - i; omega)
    · skip
      have h18' : ¬ (R * e + f * f ≤ n - R * R) := by omega
      refine W_region ?_
      refine wl_q (r_move (.int _ _) rfl) rfl rfl ?_
      refine wl_q (r_shr rfl rfl (by decide)) rfl rfl ?_
      refine wl_re 29 (.int .u64 ((R * f : Nat) : Int)) (iE ((u_shr1 (R * e)).trans (congrArg _ hf5))) ?_
      refine wl_q (r_assign (.int _ _) rfl) rfl rfl ?_
      refine wl_nil ?_
      refine blkN ?_
      refine thenN ?_
      refine W_region ?_
      refine wl_q (r_add rfl rfl (by omega) (by omega)) rfl rfl ?_
      refine wl_q (r_move (.int _ _) rfl) rfl rfl ?_
      refine wl_nil ?_
      refine roundN (i + 1, R, f) (agC rfl (agC rfl (agC rfl agN))) (akC rfl akN) ?_ ?_
      · exact ⟨hfn h18', hM1⟩
      · (show 32 - (i + 1) < 32 - i; omega)
  · skip
    obtain rfl : i = 32 := by omega
    refine W_exit ?_
    refine thenX ?_
    refine roundX ?_
    refine blkH ?_
    refine thenN ?_
    refine W_seq ?_
    refine W_region ?_
    refine wl_q (r_move (.int _ _) rfl) rfl rfl ?_
    refine wl_q (r_assign (.int _ _) rfl) rfl rfl ?_
    refine wl_nil ?_
    refine thenN ?_
    refine W_ret ?_
    skip
    refine fin1 (.int _ _) rfl ?_
    exact ⟨iE (by rw [iq_done I]), hM1.below⟩

set_option maxHeartbeats 4000000 in
theorem vec_Diff (w : World) (a b : Int × Int) (ha : I32 a) (hb : I32 b) :
    Calls Tryz.prog 112 #[(.agg (vecCells a).toArray), (.agg (vecCells b).toArray)] w (fun ex w' => ∃ v, ex = .returned v ∧ (fun v w' => v = .tuple #[.int .i64 (b.1 - a.1), .int .i64 (b.2 - a.2)] ∧ Below w.heap.size w w') v w') := by
  have hax := ha.x
  have hay := ha.y
  have hbx := hb.x
  have hby := hb.y
  refine calls_of_W #[.tmp 4, .tmp 5] 20 Tryz.func112 rfl Tryz.results112 Tryz.ntmps112 rfl ?_
  have M0 := Mem.refl w
  refine W_seq ?_
  refine W_region ?_
  refine wl_box (.agg (List.toArray _)) M0 rfl rfl rfl (fun b1 w1 M1 => ?_)
  refine wl_box (.agg (List.toArray _)) M1 rfl rfl rfl (fun b2 w2 M2 => ?_)
  refine wl_q (r_assign (.int _ _) rfl) rfl rfl ?_
  refine wl_q (r_assign (.int _ _) rfl) rfl rfl ?_
  refine wl_nil ?_
  refine thenN ?_
  refine W_seq ?_
  refine W_draw [(0, 0), (1, 1), (2, 0), (3, 0), (4, 1), (5, 0), (6, 0), (7, 0), (8, 1), (9, 0), (10, 0), (11, 1), (12, 0), (13, 0), (14, 0), (15, 0)] mixed rfl (by kernel_rfl) (fun w3 hb3 hh3 => ?_)
  have M3 := M2.drew hb3 hh3
  refine D_p rfl rfl rfl (fun _ => r_fieldAddr 0 fld29_0 rfl) ?_
  refine D_r rfl rfl rfl (r_ld 1 (.int _ _) one21 M3 rfl rfl rfl) ?_
  refine D_p rfl rfl rfl (fun _ => r_convK us21 Tryz.underlying2 rfl (w64 _ (by omega) (by omega))) ?_
  refine D_p rfl rfl rfl (fun _ => r_fieldAddr 0 fld29_0 rfl) ?_
  refine D_r rfl rfl rfl (r_ld 0 (.int _ _) one21 M3 rfl rfl rfl) ?_
  refine D_p rfl rfl rfl (fun _ => r_convK us21 Tryz.underlying2 rfl (w64 _ (by omega) (by omega))) ?_
  refine D_p rfl rfl rfl (fun _ => r_sub rfl rfl (by omega) (by omega)) ?_
  refine D_p rfl rfl rfl (fun _ => r_fieldAddr 1 fld29_1 rfl) ?_
  refine D_r rfl rfl rfl (r_ld 1 (.int _ _) one21 M3 rfl rfl rfl) ?_
  refine D_p rfl rfl rfl (fun _ => r_convK us21 Tryz.underlying2 rfl (w64 _ (by omega) (by omega))) ?_
  refine D_p rfl rfl rfl (fun _ => r_fieldAddr 1 fld29_1 rfl) ?_
  refine D_r rfl rfl rfl (r_ld 0 (.int _ _) one21 M3 rfl rfl rfl) ?_
  refine D_p rfl rfl rfl (fun _ => r_convK us21 Tryz.underlying2 rfl (w64 _ (by omega) (by omega))) ?_
  refine D_p rfl rfl rfl (fun _ => r_sub rfl rfl (by omega) (by omega)) ?_
  refine D_p rfl rfl rfl (fun _ => r_assign (.int _ _) rfl) ?_
  refine D_p rfl rfl rfl (fun _ => r_assign (.int _ _) rfl) ?_
  refine D_nil ?_
  refine thenN ?_
  refine W_ret ?_
  skip
  refine fin2 (.int _ _) (.int _ _) rfl rfl ?_
  exact ⟨rfl, M3.below⟩

set_option maxHeartbeats 4000000 in
theorem vec_square (w : World) (n : Int) (hn : InD n) :
    Calls Tryz.prog 79 #[.int .i64 n] w (fun ex w' => ∃ v, ex = .returned v ∧ (fun v w' => v = .int .u64 ((n.natAbs * n.natAbs : Nat) : Int) ∧ Below w.heap.size w w') v w') := by
  have hlt := (lsq_lt hn hn).2.1
  unfold InD at hn
  refine calls_of_W #[.tmp 2] 12 Tryz.func79 rfl Tryz.results79 Tryz.ntmps79 rfl ?_
  have M0 := Mem.refl w
  refine W_seq ?_
  refine W_region ?_
  refine wl_q (r_assign (.int _ _) rfl) rfl rfl ?_
  refine wl_nil ?_
  refine thenN ?_
  refine W_seq ?_
  refine W_seq ?_
  refine W_region ?_
  refine wl_q (r_move (.int _ _) rfl) rfl rfl ?_
  refine wl_q (r_bin (.bool (decide _)) rfl rfl rfl) rfl rfl ?_
  refine wl_nil ?_
  refine thenN ?_
  refine W_condD rfl (fun h4 => ?_) (fun h4 => ?_)
  · skip
    refine W_region ?_
    refine wl_q (r_move (.int _ _) rfl) rfl rfl ?_
    refine wl_q (r_neg rfl) rfl rfl ?_
    refine wl_re 6 (.int .i64 (-n)) (iE (w64 _ (by omega) (by omega))) ?_
    refine wl_q (r_assign (.int _ _) rfl) rfl rfl ?_
    refine wl_nil ?_
    refine thenN ?_
    refine W_seq ?_
    refine W_region ?_
    refine wl_q (r_move (.int _ _) rfl) rfl rfl ?_
    refine wl_q (r_conv us2 Tryz.underlying26 rfl) rfl rfl ?_
    refine wl_re 8 (.int .u64 ((n.natAbs : Nat) : Int)) (iE (by rw [wrU]; omega)) ?_
    refine wl_q (r_move (.int _ _) rfl) rfl rfl ?_
    refine wl_q (r_conv us2 Tryz.underlying26 rfl) rfl rfl ?_
    refine wl_re 10 (.int .u64 ((n.natAbs : Nat) : Int)) (iE (by rw [wrU]; omega)) ?_
    refine wl_q (r_bin (.int _ _) rfl rfl rfl) rfl rfl ?_
    refine wl_re 11 (.int .u64 ((n.natAbs * n.natAbs : Nat) : Int)) (iE (mulU _ _ (by omega))) ?_
    refine wl_q (r_assign (.int _ _) rfl) rfl rfl ?_
    refine wl_nil ?_
    refine thenN ?_
    refine W_ret ?_
    skip
    refine fin1 (.int _ _) rfl ?_
    exact ⟨rfl, M0.below⟩
  · skip
    refine W_skip ?_
    refine thenN ?_
    refine W_seq ?_
    refine W_region ?_
    refine wl_q (r_move (.int _ _) rfl) rfl rfl ?_
    refine wl_q (r_conv us2 Tryz.underlying26 rfl) rfl rfl ?_
    refine wl_re 8 (.int .u64 ((n.natAbs : Nat) : Int)) (iE (by rw [wrU]; omega)) ?_
    refine wl_q (r_move (.int _ _) rfl) rfl rfl ?_
    refine wl_q (r_conv us2 Tryz.underlying26 rfl) rfl rfl ?_
    refine wl_re 10 (.int .u64 ((n.natAbs : Nat) : Int)) (iE (by rw [wrU]; omega)) ?_
    refine wl_q (r_bin (.int _ _) rfl rfl rfl) rfl rfl ?_
    refine wl_re 11 (.int .u64 ((n.natAbs * n.natAbs : Nat) : Int)) (iE (mulU _ _ (by omega))) ?_
    refine wl_q (r_assign (.int _ _) rfl) rfl rfl ?_
    refine wl_nil ?_
    refine thenN ?_
    refine W_ret ?_
    skip
    refine fin1 (.int _ _) rfl ?_
    exact ⟨rfl, M0.below⟩

set_option maxHeartbeats 4000000 in
theorem vec_LengthSq (w : World) (dx dy : Int) (hx : InD dx) (hy : InD dy) :
    Calls Tryz.prog 63 #[.int .i64 dx, .int .i64 dy] w (fun ex w' => ∃ v, ex = .returned v ∧ (fun v w' => v = .int .u64 ((lsq dx dy : Nat) : Int) ∧ Below w.heap.size w w') v w') := by
  have hl := lsq_lt hx hy
  refine calls_of_W #[.tmp 4] 10 Tryz.func63 rfl Tryz.results63 Tryz.ntmps63 rfl ?_
  have M0 := Mem.refl w
  refine W_seq ?_
  refine W_region ?_
  refine wl_q (r_assign (.int _ _) rfl) rfl rfl ?_
  refine wl_nil ?_
  refine thenN ?_
  refine W_seq ?_
  refine W_region ?_
  refine wl_q (r_move (.int _ _) rfl) rfl rfl ?_
  refine wl_cal cal79 rfl rfl rfl ?_
  refine (vec_square _ dx hx).mono ?_
  rintro _ w1 ⟨v1, rfl, ⟨rfl, hb1⟩⟩
  refine ⟨_, rfl, ?_⟩
  have M1 := M0.callB hb1
  refine wl_q (r_move (.int _ _) rfl) rfl rfl ?_
  refine wl_cal cal79 rfl rfl rfl ?_
  refine (vec_square _ dy hy).mono ?_
  rintro _ w2 ⟨v2, rfl, ⟨rfl, hb2⟩⟩
  refine ⟨_, rfl, ?_⟩
  have M2 := M1.callB hb2
  refine wl_q (r_bin (.int _ _) rfl rfl rfl) rfl rfl ?_
  refine wl_re 9 (.int .u64 ((lsq dx dy : Nat) : Int)) (iE (by rw [wrU]; unfold lsq at *; omega)) ?_
  refine wl_q (r_assign (.int _ _) rfl) rfl rfl ?_
  refine wl_nil ?_
  refine thenN ?_
  refine W_ret ?_
  skip
  refine fin1 (.int _ _) rfl ?_
  exact ⟨rfl, M2.below⟩

set_option maxHeartbeats 4000000 in
theorem vec_Length (w : World) (dx dy : Int) (hx : InD dx) (hy : InD dy) :
    Calls Tryz.prog 100 #[.int .i64 dx, .int .i64 dy] w (fun ex w' => ∃ v, ex = .returned v ∧ (fun v w' => v = .int .i64 (len dx dy) ∧ Below w.heap.size w w') v w') := by
  have hl := len_lt hx hy
  refine calls_of_W #[.tmp 4] 10 Tryz.func100 rfl Tryz.results100 Tryz.ntmps100 rfl ?_
  have M0 := Mem.refl w
  refine W_seq ?_
  refine W_region ?_
  refine wl_q (r_assign (.int _ _) rfl) rfl rfl ?_
  refine wl_nil ?_
  refine thenN ?_
  refine W_seq ?_
  refine W_region ?_
  refine wl_q (r_move (.int _ _) rfl) rfl rfl ?_
  refine wl_q (r_move (.int _ _) rfl) rfl rfl ?_
  refine wl_cal cal63 rfl rfl rfl ?_
  refine (vec_LengthSq _ dx dy hx hy).mono ?_
  rintro _ w1 ⟨v1, rfl, ⟨rfl, hb1⟩⟩
  refine ⟨_, rfl, ?_⟩
  have M1 := M0.callB hb1
  refine wl_cal cal114 rfl rfl rfl ?_
  refine (isqrt _ (lsq dx dy) (lsq_lt hx hy).1).mono ?_
  rintro _ w2 ⟨v2, rfl, ⟨rfl, hb2⟩⟩
  refine ⟨_, rfl, ?_⟩
  have M2 := M1.callB hb2
  refine wl_q (r_conv us26 Tryz.underlying2 rfl) rfl rfl ?_
  refine wl_re 9 (.int .i64 (len dx dy)) (iE (w64 (len dx dy) (by omega) (by omega))) ?_
  refine wl_q (r_assign (.int _ _) rfl) rfl rfl ?_
  refine wl_nil ?_
  refine thenN ?_
  refine W_ret ?_
  skip
  refine fin1 (.int _ _) rfl ?_
  exact ⟨rfl, M2.below⟩

set_option maxHeartbeats 4000000 in
theorem vec_floor (w : World) (a b : Int) (hb : 0 < b) (h0 : -1000000000000000000 ≤ a) (h1 : a ≤ 1000000000000000000) :
    Calls Tryz.prog 113 #[.int .i64 a, .int .i64 b] w (fun ex w' => ∃ v, ex = .returned v ∧ (fun v w' => v = .int .i64 (a / b) ∧ Below w.heap.size w w') v w') := by
  have hf := floor_trunc (a := a) hb
  have hb1 := tdiv_small a b
  refine calls_of_W #[.tmp 4] 16 Tryz.func113 rfl Tryz.results113 Tryz.ntmps113 rfl ?_
  have M0 := Mem.refl w
  refine W_seq ?_
  refine W_region ?_
  refine wl_q (r_assign (.int _ _) rfl) rfl rfl ?_
  refine wl_nil ?_
  refine thenN ?_
  refine W_seq ?_
  refine W_region ?_
  refine wl_q (r_move (.int _ _) rfl) rfl rfl ?_
  refine wl_q (r_move (.int _ _) rfl) rfl rfl ?_
  refine wl_q (r_quo rfl rfl (by omega)) rfl rfl ?_
  refine wl_re 8 (.int .i64 (a.tdiv b)) (iE (w64 _ (by omega) (by omega))) ?_
  refine wl_q (r_assign (.int _ _) rfl) rfl rfl ?_
  refine wl_nil ?_
  refine thenN ?_
  refine W_seq ?_
  refine W_seq ?_
  refine W_region ?_
  refine wl_q (r_move (.int _ _) rfl) rfl rfl ?_
  refine wl_q (r_move (.int _ _) rfl) rfl rfl ?_
  refine wl_q (r_rem rfl rfl (by omega)) rfl rfl ?_
  refine wl_q (r_bin (.bool (decide _)) rfl rfl rfl) rfl rfl ?_
  refine wl_nil ?_
  refine thenN ?_
  refine W_condD rfl (fun h12 => ?_) (fun h12 => ?_)
  · skip
    refine W_region ?_
    refine wl_q (r_move (.int _ _) rfl) rfl rfl ?_
    refine wl_q (r_sub rfl rfl (by omega) (by omega)) rfl rfl ?_
    refine wl_q (r_assign (.int _ _) rfl) rfl rfl ?_
    refine wl_nil ?_
    refine thenN ?_
    refine W_seq ?_
    refine W_region ?_
    refine wl_q (r_move (.int _ _) rfl) rfl rfl ?_
    refine wl_q (r_assign (.int _ _) rfl) rfl rfl ?_
    refine wl_nil ?_
    refine thenN ?_
    refine W_ret ?_
    skip
    refine fin1 (.int _ _) rfl ?_
    exact ⟨iE (by first | exact hf.1 (by omega) | exact hf.2 (by omega)), M0.below⟩
  · skip
    refine W_skip ?_
    refine thenN ?_
    refine W_seq ?_
    refine W_region ?_
    refine wl_q (r_move (.int _ _) rfl) rfl rfl ?_
    refine wl_q (r_assign (.int _ _) rfl) rfl rfl ?_
    refine wl_nil ?_
    refine thenN ?_
    refine W_ret ?_
    skip
    refine fin1 (.int _ _) rfl ?_
    exact ⟨iE (by first | exact hf.1 (by omega) | exact hf.2 (by omega)), M0.below⟩

set_option maxHeartbeats 4000000 in
theorem vec_Unit (w : World) (dx dy : Int) (hx : InD dx) (hy : InD dy) :
    Calls Tryz.prog 99 #[.int .i64 dx, .int .i64 dy] w (fun ex w' => ∃ v, ex = .returned v ∧ (fun v w' => v = (.agg (vecCells (unitV dx dy)).toArray) ∧ Below w.heap.size w w') v w') := by
  have hl := len_lt hx hy
  have hxx := hx
  have hyy := hy
  unfold InD at hxx hyy
  refine calls_of_W #[.cell 4 29] 23 Tryz.func99 rfl Tryz.results99 Tryz.ntmps99 rfl ?_
  have M0 := Mem.refl w
  refine W_seq ?_
  refine W_region ?_
  refine wl_alloc zero29 M0 rfl rfl (fun b1 w1 M1 => ?_)
  refine wl_nil ?_
  refine thenN ?_
  refine W_seq ?_
  refine W_region ?_
  refine wl_q (r_move (.int _ _) rfl) rfl rfl ?_
  refine wl_q (r_move (.int _ _) rfl) rfl rfl ?_
  refine wl_cal cal100 rfl rfl rfl ?_
  refine (vec_Length _ dx dy hx hy).mono ?_
  rintro _ w2 ⟨v2, rfl, ⟨rfl, hb2⟩⟩
  refine ⟨_, rfl, ?_⟩
  have M2 := M1.callB hb2
  refine wl_q (r_assign (.int _ _) rfl) rfl rfl ?_
  refine wl_nil ?_
  refine thenN ?_
  refine W_seq ?_
  refine W_seq ?_
  refine W_region ?_
  refine wl_q (r_move (.int _ _) rfl) rfl rfl ?_
  refine wl_q (r_bin (.bool (decide _)) rfl rfl rfl) rfl rfl ?_
  refine wl_nil ?_
  refine thenN ?_
  refine W_condD rfl (fun h10 => ?_) (fun h10 => ?_)
  · skip
    refine W_seq ?_
    refine W_region ?_
    refine wl_q (r_build [(0, .int _ _)] _ struct29 rfl rfl) rfl rfl ?_
    refine wl_stW 0 _ agg29 M2 rfl rfl rfl rfl rfl (ones_of rfl) rfl (fun w3 M3 => ?_)
    refine wl_nil ?_
    refine thenN ?_
    refine W_ret ?_
    refine thenR ?_
    skip
    refine finC1 0 agg29 M3 rfl rfl rfl ?_
    exact ⟨by unfold unitV; first | (rw [if_pos (by omega)]; rfl) | (rw [if_neg (by omega)]; rfl), M3.below⟩
  · skip
    refine W_skip ?_
    refine thenN ?_
    refine W_seq ?_
    refine W_region ?_
    refine wl_q (r_move (.int _ _) rfl) rfl rfl ?_
    refine wl_q (r_shl rfl rfl (by decide)) rfl rfl ?_
    refine wl_re 13 (.int .i64 (dx * 65536)) (iE (i64_shl16 dx hx)) ?_
    refine wl_q (r_move (.int _ _) rfl) rfl rfl ?_
    refine wl_cal cal113 rfl rfl rfl ?_
    refine (vec_floor _ (dx * 65536) (len dx dy) (by omega) (by omega) (by omega)).mono ?_
    rintro _ w4 ⟨v4, rfl, ⟨rfl, hb4⟩⟩
    refine ⟨_, rfl, ?_⟩
    have M4 := M2.callB hb4
    refine wl_q (r_conv us2 Tryz.underlying21 rfl) rfl rfl ?_
    refine wl_q (r_move (.int _ _) rfl) rfl rfl ?_
    refine wl_q (r_shl rfl rfl (by decide)) rfl rfl ?_
    refine wl_re 18 (.int .i64 (dy * 65536)) (iE (i64_shl16 dy hy)) ?_
    refine wl_q (r_move (.int _ _) rfl) rfl rfl ?_
    refine wl_cal cal113 rfl rfl rfl ?_
    refine (vec_floor _ (dy * 65536) (len dx dy) (by omega) (by omega) (by omega)).mono ?_
    rintro _ w5 ⟨v5, rfl, ⟨rfl, hb5⟩⟩
    refine ⟨_, rfl, ?_⟩
    have M5 := M4.callB hb5
    refine wl_q (r_conv us2 Tryz.underlying21 rfl) rfl rfl ?_
    refine wl_q (r_build [(0, .int _ _), (1, .int _ _)] _ struct29 rfl rfl) rfl rfl ?_
    refine wl_stW 0 _ agg29 M5 rfl rfl rfl rfl rfl (ones_of rfl) rfl (fun w6 M6 => ?_)
    refine wl_nil ?_
    refine thenN ?_
    refine W_ret ?_
    skip
    refine finC1 0 agg29 M6 rfl rfl rfl ?_
    exact ⟨by unfold unitV; first | (rw [if_pos (by omega)]; rfl) | (rw [if_neg (by omega)]; rfl), M6.below⟩

end Go.Proofs.YtmcddmhkjcgneaaGreatDoor

/- Walks of Go functions over the frame of this claim: what each computes, for every input of the stated types (Z2). -/
set_option linter.unusedVariables false
set_option linter.unusedSimpArgs false
set_option linter.unnecessarySimpa false
namespace Go.Proofs.YtmcddmhkjcgneaaGreatDoor
open Go.Bil
open Go.RowKit (Below)
open Go.Proofs

set_option maxHeartbeats 4000000 in
theorem ref01_Floor (w : World) (a b : Int) (hb : 0 < b) (h0 : -1000000000000000000 ≤ a) (h1 : a ≤ 1000000000000000000) :
    Calls Tryz.prog 83 #[.int .i64 a, .int .i64 b] w (fun ex w' => ∃ v, ex = .returned v ∧ (fun v w' => v = .int .i64 (a / b) ∧ Below w.heap.size w w') v w') := by
  have hf := floor_trunc (a := a) hb
  have hb1 := tdiv_small a b
  refine calls_of_W #[.tmp 4] 16 Tryz.func83 rfl Tryz.results83 Tryz.ntmps83 rfl ?_
  have M0 := Mem.refl w
  refine W_seq ?_
  refine W_region ?_
  refine wl_q (r_assign (.int _ _) rfl) rfl rfl ?_
  refine wl_nil ?_
  refine thenN ?_
  refine W_seq ?_
  refine W_region ?_
  refine wl_q (r_move (.int _ _) rfl) rfl rfl ?_
  refine wl_q (r_move (.int _ _) rfl) rfl rfl ?_
  refine wl_q (r_quo rfl rfl (by omega)) rfl rfl ?_
  refine wl_re 8 (.int .i64 (a.tdiv b)) (iE (w64 _ (by omega) (by omega))) ?_
  refine wl_q (r_assign (.int _ _) rfl) rfl rfl ?_
  refine wl_nil ?_
  refine thenN ?_
  refine W_seq ?_
  refine W_seq ?_
  refine W_region ?_
  refine wl_q (r_move (.int _ _) rfl) rfl rfl ?_
  refine wl_q (r_move (.int _ _) rfl) rfl rfl ?_
  refine wl_q (r_rem rfl rfl (by omega)) rfl rfl ?_
  refine wl_q (r_bin (.bool (decide _)) rfl rfl rfl) rfl rfl ?_
  refine wl_nil ?_
  refine thenN ?_
  refine W_condD rfl (fun h12 => ?_) (fun h12 => ?_)
  · skip
    refine W_seq ?_
    refine W_region ?_
    refine wl_q (r_move (.int _ _) rfl) rfl rfl ?_
    refine wl_q (r_sub rfl rfl (by omega) (by omega)) rfl rfl ?_
    refine wl_q (r_assign (.int _ _) rfl) rfl rfl ?_
    refine wl_nil ?_
    refine thenN ?_
    refine W_ret ?_
    refine thenR ?_
    skip
    refine fin1 (.int _ _) rfl ?_
    exact ⟨iE (by first | exact hf.1 (by omega) | exact hf.2 (by omega)), M0.below⟩
  · skip
    refine W_skip ?_
    refine thenN ?_
    refine W_seq ?_
    refine W_region ?_
    refine wl_q (r_move (.int _ _) rfl) rfl rfl ?_
    refine wl_q (r_assign (.int _ _) rfl) rfl rfl ?_
    refine wl_nil ?_
    refine thenN ?_
    refine W_ret ?_
    skip
    refine fin1 (.int _ _) rfl ?_
    exact ⟨iE (by first | exact hf.1 (by omega) | exact hf.2 (by omega)), M0.below⟩

set_option maxHeartbeats 8000000 in
theorem ref03_Isqrt (w : World) (n : Nat) (hn : n < 18446744073709551616) :
    Calls Tryz.prog 84 #[.int .u64 (n : Int)] w (fun ex w' => ∃ v, ex = .returned v ∧ (fun v w' => v = .int .u64 ((isq n : Nat) : Int) ∧ Below w.heap.size w w') v w') := by
  have hin := isq_lt hn
  refine calls_of_W #[.tmp 2] 23 Tryz.func84 rfl Tryz.results84 Tryz.ntmps84 rfl ?_
  have M0 := Mem.refl w
  refine W_seq ?_
  refine W_region ?_
  refine wl_q (r_assign (.int _ _) rfl) rfl rfl ?_
  refine wl_nil ?_
  refine thenN ?_
  refine W_seq ?_
  refine W_region ?_
  refine wl_q (r_assign (.int _ _) rfl) rfl rfl ?_
  refine wl_nil ?_
  refine thenN ?_
  refine W_seq ?_
  refine W_region ?_
  refine wl_q (r_assign (.int _ _) rfl) rfl rfl ?_
  refine wl_nil ?_
  refine thenN ?_
  refine W_seq ?_
  refine W_block ?_
  refine W_loop (σ := Nat × Nat) [0, 2] (fun (lo, hi) => [(3, .int .u64 (lo : Int)), (4, .int .u64 (hi : Int))]) (fun (lo, hi) w' => (lo ≤ isq n ∧ isq n ≤ hi ∧ hi ≤ 4294967295) ∧ Mem w [] [] w') (fun (lo, hi) => hi - lo) (0, 4294967295) (agC rfl (agC rfl agN)) (⟨⟨by omega, by omega, by omega⟩, M0⟩) ?_
  rintro ⟨lo, hi⟩ ρ1 w1 ⟨⟨hlo, hhi, hh⟩, hM1⟩
  refine W_seq ?_
  refine W_seq ?_
  refine W_region ?_
  refine wl_q (r_move (.int _ _) rfl) rfl rfl ?_
  refine wl_q (r_move (.int _ _) rfl) rfl rfl ?_
  refine wl_q (r_bin (.bool (decide _)) rfl rfl rfl) rfl rfl ?_
  refine wl_nil ?_
  refine thenN ?_
  refine W_condD rfl (fun h8 => ?_) (fun h8 => ?_)
  · skip
    obtain ⟨m, hm⟩ : ∃ m, m = (lo + hi + 1) / 2 := ⟨_, rfl⟩
    have hmm := isq_mid (n := n) (m := m)
    have hm2 : m * m ≤ 4294967295 * 4294967295 := Nat.mul_le_mul (by omega) (by omega)
    refine W_skip ?_
    refine thenN ?_
    refine W_block ?_
    refine W_seq ?_
    refine W_region ?_
    refine wl_q (r_move (.int _ _) rfl) rfl rfl ?_
    refine wl_q (r_move (.int _ _) rfl) rfl rfl ?_
    refine wl_q (r_bin (.int _ _) rfl rfl rfl) rfl rfl ?_
    refine wl_re 11 (.int .u64 ((lo + hi : Nat) : Int)) (iE (by rw [wrU]; omega)) ?_
    refine wl_q (r_bin (.int _ _) rfl rfl rfl) rfl rfl ?_
    refine wl_re 12 (.int .u64 ((lo + hi + 1 : Nat) : Int)) (iE (by rw [wrU]; omega)) ?_
    refine wl_q (r_quo rfl rfl (by decide)) rfl rfl ?_
    refine wl_re 13 (.int .u64 (m : Int)) (iE ((u_quo (lo + hi + 1) 2 (by omega)).trans (congrArg _ hm.symm))) ?_
    refine wl_q (r_assign (.int _ _) rfl) rfl rfl ?_
    refine wl_nil ?_
    refine thenN ?_
    refine W_seq ?_
    refine W_region ?_
    refine wl_q (r_move (.int _ _) rfl) rfl rfl ?_
    refine wl_q (r_move (.int _ _) rfl) rfl rfl ?_
    refine wl_q (r_bin (.int _ _) rfl rfl rfl) rfl rfl ?_
    refine wl_re 16 (.int .u64 ((m * m : Nat) : Int)) (iE (mulU m m (by omega))) ?_
    refine wl_q (r_move (.int _ _) rfl) rfl rfl ?_
    refine wl_q (r_bin (.bool (decide _)) rfl rfl rfl) rfl rfl ?_
    refine wl_nil ?_
    refine thenN ?_
    refine W_condD rfl (fun h18 => ?_) (fun h18 => ?_)
    · skip
      refine W_region ?_
      refine wl_q (r_move (.int _ _) rfl) rfl rfl ?_
      refine wl_q (r_assign (.int _ _) rfl) rfl rfl ?_
      refine wl_nil ?_
      refine blkN ?_
      refine roundN (m, hi) (agC rfl (agC rfl agN)) (akC rfl (akC rfl akN)) ?_ ?_
      · exact ⟨⟨hmm.1 (by omega), by omega, by omega⟩, hM1⟩
      · (show hi - m < hi - lo; omega)
    · skip
      refine W_region ?_
      refine wl_q (r_move (.int _ _) rfl) rfl rfl ?_
      refine wl_q (r_bin (.int _ _) rfl rfl rfl) rfl rfl ?_
      refine wl_re 21 (.int .u64 ((m - 1 : Nat) : Int)) (iE (by rw [wrU]; omega)) ?_
      refine wl_q (r_assign (.int _ _) rfl) rfl rfl ?_
      refine wl_nil ?_
      refine blkN ?_
      refine roundN (lo, m - 1) (agC rfl (agC rfl agN)) (akC rfl (akC rfl akN)) ?_ ?_
      · exact ⟨⟨by omega, by have := hmm.2 (by omega); omega, by omega⟩, hM1⟩
      · (show m - 1 - lo < hi - lo; omega)
  · skip
    refine W_exit ?_
    refine thenX ?_
    refine roundX ?_
    refine blkH ?_
    refine thenN ?_
    refine W_seq ?_
    refine W_region ?_
    refine wl_q (r_move (.int _ _) rfl) rfl rfl ?_
    refine wl_q (r_assign (.int _ _) rfl) rfl rfl ?_
    refine wl_nil ?_
    refine thenN ?_
    refine W_ret ?_
    skip
    refine fin1 (.int _ _) rfl ?_
    exact ⟨iE (by omega), hM1.below⟩

set_option maxHeartbeats 4000000 in
theorem ref04_LengthSq (w : World) (dx dy : Int) (hx : InD dx) (hy : InD dy) :
    Calls Tryz.prog 16 #[.int .i64 dx, .int .i64 dy] w (fun ex w' => ∃ v, ex = .returned v ∧ (fun v w' => v = .int .u64 ((lsq dx dy : Nat) : Int) ∧ Below w.heap.size w w') v w') := by
  have hl := lsq_lt hx hy
  unfold InD at hx hy
  refine calls_of_W #[.tmp 4] 24 Tryz.func16 rfl Tryz.results16 Tryz.ntmps16 rfl ?_
  have M0 := Mem.refl w
  refine W_seq ?_
  refine W_region ?_
  refine wl_q (r_assign (.int _ _) rfl) rfl rfl ?_
  refine wl_nil ?_
  refine thenN ?_
  refine W_seq ?_
  refine W_seq ?_
  refine W_region ?_
  refine wl_q (r_move (.int _ _) rfl) rfl rfl ?_
  refine wl_q (r_bin (.bool (decide _)) rfl rfl rfl) rfl rfl ?_
  refine wl_nil ?_
  refine thenN ?_
  refine W_condD rfl (fun h6 => ?_) (fun h6 => ?_)
  · skip
    refine W_region ?_
    refine wl_q (r_move (.int _ _) rfl) rfl rfl ?_
    refine wl_q (r_neg rfl) rfl rfl ?_
    refine wl_re 8 (.int .i64 (-dx)) (iE (w64 _ (by omega) (by omega))) ?_
    refine wl_q (r_assign (.int _ _) rfl) rfl rfl ?_
    refine wl_nil ?_
    refine thenN ?_
    refine W_seq ?_
    refine W_seq ?_
    refine W_region ?_
    refine wl_q (r_move (.int _ _) rfl) rfl rfl ?_
    refine wl_q (r_bin (.bool (decide _)) rfl rfl rfl) rfl rfl ?_
    refine wl_nil ?_
    refine thenN ?_
    refine W_condD rfl (fun h10 => ?_) (fun h10 => ?_)
    · skip
      refine W_region ?_
      refine wl_q (r_move (.int _ _) rfl) rfl rfl ?_
      refine wl_q (r_neg rfl) rfl rfl ?_
      refine wl_re 12 (.int .i64 (-dy)) (iE (w64 _ (by omega) (by omega))) ?_
      refine wl_q (r_assign (.int _ _) rfl) rfl rfl ?_
      refine wl_nil ?_
      refine thenN ?_
      refine W_seq ?_
      refine W_region ?_
      refine wl_q (r_move (.int _ _) rfl) rfl rfl ?_
      refine wl_q (r_conv us2 Tryz.underlying26 rfl) rfl rfl ?_
      refine wl_re 14 (.int .u64 ((dx.natAbs : Nat) : Int)) (iE (by rw [wrU]; omega)) ?_
      refine wl_q (r_move (.int _ _) rfl) rfl rfl ?_
      refine wl_q (r_conv us2 Tryz.underlying26 rfl) rfl rfl ?_
      refine wl_re 16 (.int .u64 ((dx.natAbs : Nat) : Int)) (iE (by rw [wrU]; omega)) ?_
      refine wl_q (r_bin (.int _ _) rfl rfl rfl) rfl rfl ?_
      refine wl_re 17 (.int .u64 ((dx.natAbs * dx.natAbs : Nat) : Int)) (iE (mulU _ _ (by omega))) ?_
      refine wl_q (r_move (.int _ _) rfl) rfl rfl ?_
      refine wl_q (r_conv us2 Tryz.underlying26 rfl) rfl rfl ?_
      refine wl_re 19 (.int .u64 ((dy.natAbs : Nat) : Int)) (iE (by rw [wrU]; omega)) ?_
      refine wl_q (r_move (.int _ _) rfl) rfl rfl ?_
      refine wl_q (r_conv us2 Tryz.underlying26 rfl) rfl rfl ?_
      refine wl_re 21 (.int .u64 ((dy.natAbs : Nat) : Int)) (iE (by rw [wrU]; omega)) ?_
      refine wl_q (r_bin (.int _ _) rfl rfl rfl) rfl rfl ?_
      refine wl_re 22 (.int .u64 ((dy.natAbs * dy.natAbs : Nat) : Int)) (iE (mulU _ _ (by omega))) ?_
      refine wl_q (r_bin (.int _ _) rfl rfl rfl) rfl rfl ?_
      refine wl_re 23 (.int .u64 ((lsq dx dy : Nat) : Int)) (iE (by rw [wrU]; unfold lsq at *; omega)) ?_
      refine wl_q (r_assign (.int _ _) rfl) rfl rfl ?_
      refine wl_nil ?_
      refine thenN ?_
      refine W_ret ?_
      skip
      refine fin1 (.int _ _) rfl ?_
      exact ⟨rfl, M0.below⟩
    · skip
      refine W_skip ?_
      refine thenN ?_
      refine W_seq ?_
      refine W_region ?_
      refine wl_q (r_move (.int _ _) rfl) rfl rfl ?_
      refine wl_q (r_conv us2 Tryz.underlying26 rfl) rfl rfl ?_
      refine wl_re 14 (.int .u64 ((dx.natAbs : Nat) : Int)) (iE (by rw [wrU]; omega)) ?_
      refine wl_q (r_move (.int _ _) rfl) rfl rfl ?_
      refine wl_q (r_conv us2 Tryz.underlying26 rfl) rfl rfl ?_
      refine wl_re 16 (.int .u64 ((dx.natAbs : Nat) : Int)) (iE (by rw [wrU]; omega)) ?_
      refine wl_q (r_bin (.int _ _) rfl rfl rfl) rfl rfl ?_
      refine wl_re 17 (.int .u64 ((dx.natAbs * dx.natAbs : Nat) : Int)) (iE (mulU _ _ (by omega))) ?_
      refine wl_q (r_move (.int _ _) rfl) rfl rfl ?_
      refine wl_q (r_conv us2 Tryz.underlying26 rfl) rfl rfl ?_
      refine wl_re 19 (.int .u64 ((dy.natAbs : Nat) : Int)) (iE (by rw [wrU]; omega)) ?_
      refine wl_q (r_move (.int _ _) rfl) rfl rfl ?_
      refine wl_q (r_conv us2 Tryz.underlying26 rfl) rfl rfl ?_
      refine wl_re 21 (.int .u64 ((dy.natAbs : Nat) : Int)) (iE (by rw [wrU]; omega)) ?_
      refine wl_q (r_bin (.int _ _) rfl rfl rfl) rfl rfl ?_
      refine wl_re 22 (.int .u64 ((dy.natAbs * dy.natAbs : Nat) : Int)) (iE (mulU _ _ (by omega))) ?_
      refine wl_q (r_bin (.int _ _) rfl rfl rfl) rfl rfl ?_
      refine wl_re 23 (.int .u64 ((lsq dx dy : Nat) : Int)) (iE (by rw [wrU]; unfold lsq at *; omega)) ?_
      refine wl_q (r_assign (.int _ _) rfl) rfl rfl ?_
      refine wl_nil ?_
      refine thenN ?_
      refine W_ret ?_
      skip
      refine fin1 (.int _ _) rfl ?_
      exact ⟨rfl, M0.below⟩
  · skip
    refine W_skip ?_
    refine thenN ?_
    refine W_seq ?_
    refine W_seq ?_
    refine W_region ?_
    refine wl_q (r_move (.int _ _) rfl) rfl rfl ?_
    refine wl_q (r_bin (.bool (decide _)) rfl rfl rfl) rfl rfl ?_
    refine wl_nil ?_
    refine thenN ?_
    refine W_condD rfl (fun h10 => ?_) (fun h10 => ?_)
    · skip
      refine W_region ?_
      refine wl_q (r_move (.int _ _) rfl) rfl rfl ?_
      refine wl_q (r_neg rfl) rfl rfl ?_
      refine wl_re 12 (.int .i64 (-dy)) (iE (w64 _ (by omega) (by omega))) ?_
      refine wl_q (r_assign (.int _ _) rfl) rfl rfl ?_
      refine wl_nil ?_
      refine thenN ?_
      refine W_seq ?_
      refine W_region ?_
      refine wl_q (r_move (.int _ _) rfl) rfl rfl ?_
      refine wl_q (r_conv us2 Tryz.underlying26 rfl) rfl rfl ?_
      refine wl_re 14 (.int .u64 ((dx.natAbs : Nat) : Int)) (iE (by rw [wrU]; omega)) ?_
      refine wl_q (r_move (.int _ _) rfl) rfl rfl ?_
      refine wl_q (r_conv us2 Tryz.underlying26 rfl) rfl rfl ?_
      refine wl_re 16 (.int .u64 ((dx.natAbs : Nat) : Int)) (iE (by rw [wrU]; omega)) ?_
      refine wl_q (r_bin (.int _ _) rfl rfl rfl) rfl rfl ?_
      refine wl_re 17 (.int .u64 ((dx.natAbs * dx.natAbs : Nat) : Int)) (iE (mulU _ _ (by omega))) ?_
      refine wl_q (r_move (.int _ _) rfl) rfl rfl ?_
      refine wl_q (r_conv us2 Tryz.underlying26 rfl) rfl rfl ?_
      refine wl_re 19 (.int .u64 ((dy.natAbs : Nat) : Int)) (iE (by rw [wrU]; omega)) ?_
      refine wl_q (r_move (.int _ _) rfl) rfl rfl ?_
      refine wl_q (r_conv us2 Tryz.underlying26 rfl) rfl rfl ?_
      refine wl_re 21 (.int .u64 ((dy.natAbs : Nat) : Int)) (iE (by rw [wrU]; omega)) ?_
      refine wl_q (r_bin (.int _ _) rfl rfl rfl) rfl rfl ?_
      refine wl_re 22 (.int .u64 ((dy.natAbs * dy.natAbs : Nat) : Int)) (iE (mulU _ _ (by omega))) ?_
      refine wl_q (r_bin (.int _ _) rfl rfl rfl) rfl rfl ?_
      refine wl_re 23 (.int .u64 ((lsq dx dy : Nat) : Int)) (iE (by rw [wrU]; unfold lsq at *; omega)) ?_
      refine wl_q (r_assign (.int _ _) rfl) rfl rfl ?_
      refine wl_nil ?_
      refine thenN ?_
      refine W_ret ?_
      skip
      refine fin1 (.int _ _) rfl ?_
      exact ⟨rfl, M0.below⟩
    · skip
      refine W_skip ?_
      refine thenN ?_
      refine W_seq ?_
      refine W_region ?_
      refine wl_q (r_move (.int _ _) rfl) rfl rfl ?_
      refine wl_q (r_conv us2 Tryz.underlying26 rfl) rfl rfl ?_
      refine wl_re 14 (.int .u64 ((dx.natAbs : Nat) : Int)) (iE (by rw [wrU]; omega)) ?_
      refine wl_q (r_move (.int _ _) rfl) rfl rfl ?_
      refine wl_q (r_conv us2 Tryz.underlying26 rfl) rfl rfl ?_
      refine wl_re 16 (.int .u64 ((dx.natAbs : Nat) : Int)) (iE (by rw [wrU]; omega)) ?_
      refine wl_q (r_bin (.int _ _) rfl rfl rfl) rfl rfl ?_
      refine wl_re 17 (.int .u64 ((dx.natAbs * dx.natAbs : Nat) : Int)) (iE (mulU _ _ (by omega))) ?_
      refine wl_q (r_move (.int _ _) rfl) rfl rfl ?_
      refine wl_q (r_conv us2 Tryz.underlying26 rfl) rfl rfl ?_
      refine wl_re 19 (.int .u64 ((dy.natAbs : Nat) : Int)) (iE (by rw [wrU]; omega)) ?_
      refine wl_q (r_move (.int _ _) rfl) rfl rfl ?_
      refine wl_q (r_conv us2 Tryz.underlying26 rfl) rfl rfl ?_
      refine wl_re 21 (.int .u64 ((dy.natAbs : Nat) : Int)) (iE (by rw [wrU]; omega)) ?_
      refine wl_q (r_bin (.int _ _) rfl rfl rfl) rfl rfl ?_
      refine wl_re 22 (.int .u64 ((dy.natAbs * dy.natAbs : Nat) : Int)) (iE (mulU _ _ (by omega))) ?_
      refine wl_q (r_bin (.int _ _) rfl rfl rfl) rfl rfl ?_
      refine wl_re 23 (.int .u64 ((lsq dx dy : Nat) : Int)) (iE (by rw [wrU]; unfold lsq at *; omega)) ?_
      refine wl_q (r_assign (.int _ _) rfl) rfl rfl ?_
      refine wl_nil ?_
      refine thenN ?_
      refine W_ret ?_
      skip
      refine fin1 (.int _ _) rfl ?_
      exact ⟨rfl, M0.below⟩

set_option maxHeartbeats 4000000 in
theorem ref04_Length (w : World) (dx dy : Int) (hx : InD dx) (hy : InD dy) :
    Calls Tryz.prog 68 #[.int .i64 dx, .int .i64 dy] w (fun ex w' => ∃ v, ex = .returned v ∧ (fun v w' => v = .int .i64 (len dx dy) ∧ Below w.heap.size w w') v w') := by
  have hl := len_lt hx hy
  refine calls_of_W #[.tmp 4] 10 Tryz.func68 rfl Tryz.results68 Tryz.ntmps68 rfl ?_
  have M0 := Mem.refl w
  refine W_seq ?_
  refine W_region ?_
  refine wl_q (r_assign (.int _ _) rfl) rfl rfl ?_
  refine wl_nil ?_
  refine thenN ?_
  refine W_seq ?_
  refine W_region ?_
  refine wl_q (r_move (.int _ _) rfl) rfl rfl ?_
  refine wl_q (r_move (.int _ _) rfl) rfl rfl ?_
  refine wl_cal cal16 rfl rfl rfl ?_
  refine (ref04_LengthSq _ dx dy hx hy).mono ?_
  rintro _ w1 ⟨v1, rfl, ⟨rfl, hb1⟩⟩
  refine ⟨_, rfl, ?_⟩
  have M1 := M0.callB hb1
  refine wl_cal cal84 rfl rfl rfl ?_
  refine (ref03_Isqrt _ (lsq dx dy) (lsq_lt hx hy).1).mono ?_
  rintro _ w2 ⟨v2, rfl, ⟨rfl, hb2⟩⟩
  refine ⟨_, rfl, ?_⟩
  have M2 := M1.callB hb2
  refine wl_q (r_conv us26 Tryz.underlying2 rfl) rfl rfl ?_
  refine wl_re 9 (.int .i64 (len dx dy)) (iE (w64 (len dx dy) (by omega) (by omega))) ?_
  refine wl_q (r_assign (.int _ _) rfl) rfl rfl ?_
  refine wl_nil ?_
  refine thenN ?_
  refine W_ret ?_
  skip
  refine fin1 (.int _ _) rfl ?_
  exact ⟨rfl, M2.below⟩

set_option maxHeartbeats 4000000 in
theorem ref04_Unit (w : World) (dx dy : Int) (hx : InD dx) (hy : InD dy) :
    Calls Tryz.prog 67 #[.int .i64 dx, .int .i64 dy] w (fun ex w' => ∃ v, ex = .returned v ∧ (fun v w' => v = (.agg (vecCells (unitV dx dy)).toArray) ∧ Below w.heap.size w w') v w') := by
  have hl := len_lt hx hy
  have hxx := hx
  have hyy := hy
  unfold InD at hxx hyy
  have hl0 := len_zero dx dy
  refine calls_of_W #[.cell 4 29] 27 Tryz.func67 rfl Tryz.results67 Tryz.ntmps67 rfl ?_
  have M0 := Mem.refl w
  refine W_seq ?_
  refine W_region ?_
  refine wl_alloc zero29 M0 rfl rfl (fun b1 w1 M1 => ?_)
  refine wl_nil ?_
  refine thenN ?_
  refine W_seq ?_
  refine W_seq ?_
  refine W_region ?_
  refine wl_q (r_move (.int _ _) rfl) rfl rfl ?_
  refine wl_q (r_bin (.bool (decide _)) rfl rfl rfl) rfl rfl ?_
  refine wl_q (r_move (.bool (decide _)) rfl) rfl rfl ?_
  refine wl_splitD 8 rfl (fun g8 => ?_) (fun g8 => ?_)
  · skip
    refine wl_q (r_move (.int _ _) rfl) rfl rfl ?_
    refine wl_q (r_bin (.bool (decide _)) rfl rfl rfl) rfl rfl ?_
    refine wl_q (r_pick true (.bool (decide _)) rfl rfl) rfl rfl ?_
    refine wl_nil ?_
    refine thenN ?_
    refine W_condD rfl (fun h11 => ?_) (fun h11 => ?_)
    · skip
      refine W_seq ?_
      refine W_region ?_
      refine wl_q (r_build [(0, .int _ _)] _ struct29 rfl rfl) rfl rfl ?_
      refine wl_stW 0 _ agg29 M1 rfl rfl rfl rfl rfl (ones_of rfl) rfl (fun w2 M2 => ?_)
      refine wl_nil ?_
      refine thenN ?_
      refine W_ret ?_
      refine thenR ?_
      skip
      refine finC1 0 agg29 M2 rfl rfl rfl ?_
      exact ⟨by unfold unitV; first | (rw [if_pos (by omega)]; rfl) | (rw [if_neg (by omega)]; rfl), M2.below⟩
    · skip
      refine W_skip ?_
      refine thenN ?_
      refine W_seq ?_
      refine W_region ?_
      refine wl_q (r_move (.int _ _) rfl) rfl rfl ?_
      refine wl_q (r_move (.int _ _) rfl) rfl rfl ?_
      refine wl_cal cal68 rfl rfl rfl ?_
      refine (ref04_Length _ dx dy hx hy).mono ?_
      rintro _ w3 ⟨v3, rfl, ⟨rfl, hb3⟩⟩
      refine ⟨_, rfl, ?_⟩
      have M3 := M1.callB hb3
      refine wl_q (r_assign (.int _ _) rfl) rfl rfl ?_
      refine wl_nil ?_
      refine thenN ?_
      refine W_seq ?_
      refine W_region ?_
      refine wl_q (r_move (.int _ _) rfl) rfl rfl ?_
      refine wl_q (r_mul rfl rfl (by omega) (by omega)) rfl rfl ?_
      refine wl_q (r_move (.int _ _) rfl) rfl rfl ?_
      refine wl_cal cal83 rfl rfl rfl ?_
      refine (ref01_Floor _ (dx * 65536) (len dx dy) (by omega) (by omega) (by omega)).mono ?_
      rintro _ w4 ⟨v4, rfl, ⟨rfl, hb4⟩⟩
      refine ⟨_, rfl, ?_⟩
      have M4 := M3.callB hb4
      refine wl_q (r_conv us2 Tryz.underlying21 rfl) rfl rfl ?_
      refine wl_q (r_move (.int _ _) rfl) rfl rfl ?_
      refine wl_q (r_mul rfl rfl (by omega) (by omega)) rfl rfl ?_
      refine wl_q (r_move (.int _ _) rfl) rfl rfl ?_
      refine wl_cal cal83 rfl rfl rfl ?_
      refine (ref01_Floor _ (dy * 65536) (len dx dy) (by omega) (by omega) (by omega)).mono ?_
      rintro _ w5 ⟨v5, rfl, ⟨rfl, hb5⟩⟩
      refine ⟨_, rfl, ?_⟩
      have M5 := M4.callB hb5
      refine wl_q (r_conv us2 Tryz.underlying21 rfl) rfl rfl ?_
      refine wl_q (r_build [(0, .int _ _), (1, .int _ _)] _ struct29 rfl rfl) rfl rfl ?_
      refine wl_stW 0 _ agg29 M5 rfl rfl rfl rfl rfl (ones_of rfl) rfl (fun w6 M6 => ?_)
      refine wl_nil ?_
      refine thenN ?_
      refine W_ret ?_
      skip
      refine finC1 0 agg29 M6 rfl rfl rfl ?_
      exact ⟨by unfold unitV; first | (rw [if_pos (by omega)]; rfl) | (rw [if_neg (by omega)]; rfl), M6.below⟩
  · skip
    refine wl_skip rfl rfl ?_
    refine wl_skip rfl rfl ?_
    refine wl_q (r_pick false (.bool false) rfl rfl) rfl rfl ?_
    refine wl_nil ?_
    refine thenN ?_
    refine W_condF rfl ?_
    refine W_skip ?_
    refine thenN ?_
    refine W_seq ?_
    refine W_region ?_
    refine wl_q (r_move (.int _ _) rfl) rfl rfl ?_
    refine wl_q (r_move (.int _ _) rfl) rfl rfl ?_
    refine wl_cal cal68 rfl rfl rfl ?_
    refine (ref04_Length _ dx dy hx hy).mono ?_
    rintro _ w7 ⟨v7, rfl, ⟨rfl, hb7⟩⟩
    refine ⟨_, rfl, ?_⟩
    have M7 := M1.callB hb7
    refine wl_q (r_assign (.int _ _) rfl) rfl rfl ?_
    refine wl_nil ?_
    refine thenN ?_
    refine W_seq ?_
    refine W_region ?_
    refine wl_q (r_move (.int _ _) rfl) rfl rfl ?_
    refine wl_q (r_mul rfl rfl (by omega) (by omega)) rfl rfl ?_
    refine wl_q (r_move (.int _ _) rfl) rfl rfl ?_
    refine wl_cal cal83 rfl rfl rfl ?_
    refine (ref01_Floor _ (dx * 65536) (len dx dy) (by omega) (by omega) (by omega)).mono ?_
    rintro _ w8 ⟨v8, rfl, ⟨rfl, hb8⟩⟩
    refine ⟨_, rfl, ?_⟩
    have M8 := M7.callB hb8
    refine wl_q (r_conv us2 Tryz.underlying21 rfl) rfl rfl ?_
    refine wl_q (r_move (.int _ _) rfl) rfl rfl ?_
    refine wl_q (r_mul rfl rfl (by omega) (by omega)) rfl rfl ?_
    refine wl_q (r_move (.int _ _) rfl) rfl rfl ?_
    refine wl_cal cal83 rfl rfl rfl ?_
    refine (ref01_Floor _ (dy * 65536) (len dx dy) (by omega) (by omega) (by omega)).mono ?_
    rintro _ w9 ⟨v9, rfl, ⟨rfl, hb9⟩⟩
    refine ⟨_, rfl, ?_⟩
    have M9 := M8.callB hb9
    refine wl_q (r_conv us2 Tryz.underlying21 rfl) rfl rfl ?_
    refine wl_q (r_build [(0, .int _ _), (1, .int _ _)] _ struct29 rfl rfl) rfl rfl ?_
    refine wl_stW 0 _ agg29 M9 rfl rfl rfl rfl rfl (ones_of rfl) rfl (fun w10 M10 => ?_)
    refine wl_nil ?_
    refine thenN ?_
    refine W_ret ?_
    skip
    refine finC1 0 agg29 M10 rfl rfl rfl ?_
    exact ⟨by unfold unitV; first | (rw [if_pos (by omega)]; rfl) | (rw [if_neg (by omega)]; rfl), M10.below⟩

set_option maxHeartbeats 4000000 in
theorem ref05_First (w : World) (b : Body) (hb : Okb b) :
    Calls Tryz.prog 81 #[(.agg (bodyCells b).toArray)] w (fun ex w' => ∃ v, ex = .returned v ∧ (fun v w' => v = (.agg (vecCells (endP b)).toArray) ∧ Below w.heap.size w w') v w') := by
  have ha := hb.a
  have hp := hb.p
  refine calls_of_W #[.cell 2 29] 18 Tryz.func81 rfl Tryz.results81 Tryz.ntmps81 rfl ?_
  have M0 := Mem.refl w
  refine W_seq ?_
  refine W_region ?_
  refine wl_box (.agg (List.toArray _)) M0 rfl rfl rfl (fun b1 w1 M1 => ?_)
  refine wl_alloc zero29 M1 rfl rfl (fun b2 w2 M2 => ?_)
  refine wl_nil ?_
  refine thenN ?_
  refine W_seq ?_
  refine W_region ?_
  refine wl_q (r_fieldAddr 6 fld32_5 rfl) rfl rfl ?_
  refine wl_q (r_fieldAddr 0 fld29_0 rfl) rfl rfl ?_
  refine wl_q (r_ld 0 (.int _ _) one21 M2 rfl rfl rfl) rfl rfl ?_
  refine wl_q (r_fieldAddr 2 fld32_2 rfl) rfl rfl ?_
  refine wl_q (r_fieldAddr 0 fld29_0 rfl) rfl rfl ?_
  refine wl_q (r_ld 0 (.int _ _) one21 M2 rfl rfl rfl) rfl rfl ?_
  refine wl_q (r_subK rfl rfl (wr32 _ (by omega) (by omega))) rfl rfl ?_
  refine wl_q (r_fieldAddr 6 fld32_5 rfl) rfl rfl ?_
  refine wl_q (r_fieldAddr 1 fld29_1 rfl) rfl rfl ?_
  refine wl_q (r_ld 0 (.int _ _) one21 M2 rfl rfl rfl) rfl rfl ?_
  refine wl_q (r_fieldAddr 2 fld32_2 rfl) rfl rfl ?_
  refine wl_q (r_fieldAddr 1 fld29_1 rfl) rfl rfl ?_
  refine wl_q (r_ld 0 (.int _ _) one21 M2 rfl rfl rfl) rfl rfl ?_
  refine wl_q (r_subK rfl rfl (wr32 _ (by omega) (by omega))) rfl rfl ?_
  refine wl_q (r_build [(0, .int _ _), (1, .int _ _)] _ struct29 rfl rfl) rfl rfl ?_
  refine wl_stW 1 _ agg29 M2 rfl rfl rfl rfl rfl (ones_of rfl) rfl (fun w3 M3 => ?_)
  refine wl_nil ?_
  refine thenN ?_
  refine W_ret ?_
  skip
  refine finC1 1 agg29 M3 rfl rfl rfl ?_
  exact ⟨rfl, M3.below⟩

set_option maxHeartbeats 4000000 in
theorem ref05_Second (w : World) (b : Body) (hb : Okb b) :
    Calls Tryz.prog 82 #[(.agg (bodyCells b).toArray)] w (fun ex w' => ∃ v, ex = .returned v ∧ (fun v w' => v = (.agg (vecCells (endQ b)).toArray) ∧ Below w.heap.size w w') v w') := by
  have ha := hb.a
  have hp := hb.p
  refine calls_of_W #[.cell 2 29] 18 Tryz.func82 rfl Tryz.results82 Tryz.ntmps82 rfl ?_
  have M0 := Mem.refl w
  refine W_seq ?_
  refine W_region ?_
  refine wl_box (.agg (List.toArray _)) M0 rfl rfl rfl (fun b1 w1 M1 => ?_)
  refine wl_alloc zero29 M1 rfl rfl (fun b2 w2 M2 => ?_)
  refine wl_nil ?_
  refine thenN ?_
  refine W_seq ?_
  refine W_region ?_
  refine wl_q (r_fieldAddr 6 fld32_5 rfl) rfl rfl ?_
  refine wl_q (r_fieldAddr 0 fld29_0 rfl) rfl rfl ?_
  refine wl_q (r_ld 0 (.int _ _) one21 M2 rfl rfl rfl) rfl rfl ?_
  refine wl_q (r_fieldAddr 2 fld32_2 rfl) rfl rfl ?_
  refine wl_q (r_fieldAddr 0 fld29_0 rfl) rfl rfl ?_
  refine wl_q (r_ld 0 (.int _ _) one21 M2 rfl rfl rfl) rfl rfl ?_
  refine wl_q (r_addK rfl rfl (wr32 _ (by omega) (by omega))) rfl rfl ?_
  refine wl_q (r_fieldAddr 6 fld32_5 rfl) rfl rfl ?_
  refine wl_q (r_fieldAddr 1 fld29_1 rfl) rfl rfl ?_
  refine wl_q (r_ld 0 (.int _ _) one21 M2 rfl rfl rfl) rfl rfl ?_
  refine wl_q (r_fieldAddr 2 fld32_2 rfl) rfl rfl ?_
  refine wl_q (r_fieldAddr 1 fld29_1 rfl) rfl rfl ?_
  refine wl_q (r_ld 0 (.int _ _) one21 M2 rfl rfl rfl) rfl rfl ?_
  refine wl_q (r_addK rfl rfl (wr32 _ (by omega) (by omega))) rfl rfl ?_
  refine wl_q (r_build [(0, .int _ _), (1, .int _ _)] _ struct29 rfl rfl) rfl rfl ?_
  refine wl_stW 1 _ agg29 M2 rfl rfl rfl rfl rfl (ones_of rfl) rfl (fun w3 M3 => ?_)
  refine wl_nil ?_
  refine thenN ?_
  refine W_ret ?_
  skip
  refine finC1 1 agg29 M3 rfl rfl rfl ?_
  exact ⟨rfl, M3.below⟩

end Go.Proofs.YtmcddmhkjcgneaaGreatDoor

/- Walks of Go functions over the frame of this claim: what each computes, for every input of the stated types (W4). -/
set_option linter.unusedVariables false
set_option linter.unusedSimpArgs false
set_option linter.unnecessarySimpa false
namespace Go.Proofs.YtmcddmhkjcgneaaGreatDoor
open Go.Bil
open Go.RowKit (Below)
open Go.Proofs

set_option maxHeartbeats 4000000 in
theorem body_Ends (w : World) (b : Body) (hb : Okb b) :
    Calls Tryz.prog 124 #[(.agg (bodyCells b).toArray)] w (fun ex w' => ∃ v, ex = .returned v ∧ (fun v w' => v = .tuple #[(.agg (vecCells (endP b)).toArray), (.agg (vecCells (endQ b)).toArray)] ∧ Below w.heap.size w w') v w') := by
  have ha := hb.a
  have hp := hb.p
  refine calls_of_W #[.cell 2 29, .cell 3 29] 36 Tryz.func124 rfl Tryz.results124 Tryz.ntmps124 rfl ?_
  have M0 := Mem.refl w
  refine W_seq ?_
  refine W_region ?_
  refine wl_box (.agg (List.toArray _)) M0 rfl rfl rfl (fun b1 w1 M1 => ?_)
  refine wl_alloc zero29 M1 rfl rfl (fun b2 w2 M2 => ?_)
  refine wl_alloc zero29 M2 rfl rfl (fun b3 w3 M3 => ?_)
  refine wl_nil ?_
  refine thenN ?_
  refine W_seq ?_
  refine W_region ?_
  refine wl_q (r_fieldAddr 6 fld32_5 rfl) rfl rfl ?_
  refine wl_q (r_fieldAddr 0 fld29_0 rfl) rfl rfl ?_
  refine wl_q (r_ld 0 (.int _ _) one21 M3 rfl rfl rfl) rfl rfl ?_
  refine wl_q (r_fieldAddr 2 fld32_2 rfl) rfl rfl ?_
  refine wl_q (r_fieldAddr 0 fld29_0 rfl) rfl rfl ?_
  refine wl_q (r_ld 0 (.int _ _) one21 M3 rfl rfl rfl) rfl rfl ?_
  refine wl_q (r_subK rfl rfl (wr32 _ (by omega) (by omega))) rfl rfl ?_
  refine wl_q (r_fieldAddr 6 fld32_5 rfl) rfl rfl ?_
  refine wl_q (r_fieldAddr 1 fld29_1 rfl) rfl rfl ?_
  refine wl_q (r_ld 0 (.int _ _) one21 M3 rfl rfl rfl) rfl rfl ?_
  refine wl_q (r_fieldAddr 2 fld32_2 rfl) rfl rfl ?_
  refine wl_q (r_fieldAddr 1 fld29_1 rfl) rfl rfl ?_
  refine wl_q (r_ld 0 (.int _ _) one21 M3 rfl rfl rfl) rfl rfl ?_
  refine wl_q (r_subK rfl rfl (wr32 _ (by omega) (by omega))) rfl rfl ?_
  refine wl_q (r_build [(0, .int _ _), (1, .int _ _)] _ struct29 rfl rfl) rfl rfl ?_
  refine wl_stW 1 _ agg29 M3 rfl rfl rfl rfl rfl (ones_of rfl) rfl (fun w4 M4 => ?_)
  refine wl_nil ?_
  refine thenN ?_
  refine W_seq ?_
  refine W_region ?_
  refine wl_q (r_fieldAddr 6 fld32_5 rfl) rfl rfl ?_
  refine wl_q (r_fieldAddr 0 fld29_0 rfl) rfl rfl ?_
  refine wl_q (r_ld 0 (.int _ _) one21 M4 rfl rfl rfl) rfl rfl ?_
  refine wl_q (r_fieldAddr 2 fld32_2 rfl) rfl rfl ?_
  refine wl_q (r_fieldAddr 0 fld29_0 rfl) rfl rfl ?_
  refine wl_q (r_ld 0 (.int _ _) one21 M4 rfl rfl rfl) rfl rfl ?_
  refine wl_q (r_addK rfl rfl (wr32 _ (by omega) (by omega))) rfl rfl ?_
  refine wl_q (r_fieldAddr 6 fld32_5 rfl) rfl rfl ?_
  refine wl_q (r_fieldAddr 1 fld29_1 rfl) rfl rfl ?_
  refine wl_q (r_ld 0 (.int _ _) one21 M4 rfl rfl rfl) rfl rfl ?_
  refine wl_q (r_fieldAddr 2 fld32_2 rfl) rfl rfl ?_
  refine wl_q (r_fieldAddr 1 fld29_1 rfl) rfl rfl ?_
  refine wl_q (r_ld 0 (.int _ _) one21 M4 rfl rfl rfl) rfl rfl ?_
  refine wl_q (r_addK rfl rfl (wr32 _ (by omega) (by omega))) rfl rfl ?_
  refine wl_q (r_build [(0, .int _ _), (1, .int _ _)] _ struct29 rfl rfl) rfl rfl ?_
  refine wl_stW 2 _ agg29 M4 rfl rfl rfl rfl rfl (ones_of rfl) rfl (fun w5 M5 => ?_)
  refine wl_nil ?_
  refine thenN ?_
  refine W_seq ?_
  refine W_draw [(0, 1), (1, 1), (2, 2), (3, 2)] mixed rfl (by kernel_rfl) (fun w6 hb6 hh6 => ?_)
  have M6 := M5.drew hb6 hh6
  refine D_r rfl rfl rfl (r_ldW 1 agg29 M6 rfl rfl rfl) ?_
  refine D_r rfl rfl rfl (r_ldW 2 agg29 M6 rfl rfl rfl) ?_
  refine D_e [false, true] rfl (by kernel_rfl) ?_
  refine wl_stW 1 _ agg29 M6 rfl rfl rfl rfl rfl (ones_of rfl) rfl (fun w7 M7 => ?_)
  refine wl_nil (thenN ⟨(alC (Yl_of rfl (r_ldW 2 agg29 M7 rfl rfl rfl)) alN), ?_⟩)
  refine D_e [true] rfl (by kernel_rfl) ?_
  refine wl_stW 2 _ agg29 M7 rfl rfl rfl rfl rfl (ones_of rfl) rfl (fun w8 M8 => ?_)
  refine wl_nil (thenN ⟨alN, ?_⟩)
  refine D_nil ?_
  refine thenN ?_
  refine W_ret ?_
  skip
  refine finCC 1 2 agg29 M8 rfl rfl rfl rfl rfl rfl ?_
  exact ⟨rfl, M8.below⟩

set_option maxHeartbeats 4000000 in
theorem point_Param (w : World) (p q c : Pt) (h : SgI p q) (hc : PtI c) :
    Calls Tryz.prog 150 #[(.agg (vecCells p).toArray), (.agg (vecCells q).toArray), (.agg (vecCells c).toArray)] w (fun ex w' => ∃ v, ex = .returned v ∧ (fun v w' => v = .tuple #[.int .i64 (parN p q c), .int .i64 (parD p q)] ∧ Below w.heap.size w w') v w') := by
  have hD := parD_rng h
  have hx := cross_rng h hc
  refine calls_of_W #[.tmp 6, .tmp 7] 42 Tryz.func150 rfl Tryz.results150 Tryz.ntmps150 rfl ?_
  have M0 := Mem.refl w
  refine W_seq ?_
  refine W_region ?_
  refine wl_box (.agg (List.toArray _)) M0 rfl rfl rfl (fun b1 w1 M1 => ?_)
  refine wl_box (.agg (List.toArray _)) M1 rfl rfl rfl (fun b2 w2 M2 => ?_)
  refine wl_box (.agg (List.toArray _)) M2 rfl rfl rfl (fun b3 w3 M3 => ?_)
  refine wl_q (r_assign (.int _ _) rfl) rfl rfl ?_
  refine wl_q (r_assign (.int _ _) rfl) rfl rfl ?_
  refine wl_nil ?_
  refine thenN ?_
  refine W_seq ?_
  refine W_region ?_
  refine wl_q (r_ldW 0 agg29 M3 rfl rfl rfl) rfl rfl ?_
  refine wl_q (r_ldW 1 agg29 M3 rfl rfl rfl) rfl rfl ?_
  refine wl_cal cal112 rfl rfl rfl ?_
  refine (vec_Diff _ p q h.hp.i32 h.hq.i32).mono ?_
  rintro _ w4 ⟨v4, rfl, ⟨rfl, hb4⟩⟩
  refine ⟨_, rfl, ?_⟩
  have M4 := M3.callB hb4
  refine wl_q (r_move (.tuple (List.toArray _)) rfl) rfl rfl ?_
  refine wl_q (r_ext (.int _ _) rfl rfl) rfl rfl ?_
  refine wl_q (r_ext (.int _ _) rfl rfl) rfl rfl ?_
  refine wl_q (r_assign (.int _ _) rfl) rfl rfl ?_
  refine wl_q (r_assign (.int _ _) rfl) rfl rfl ?_
  refine wl_nil ?_
  refine thenN ?_
  refine W_seq ?_
  refine W_region ?_
  refine wl_q (r_ldW 0 agg29 M4 rfl rfl rfl) rfl rfl ?_
  refine wl_q (r_ldW 2 agg29 M4 rfl rfl rfl) rfl rfl ?_
  refine wl_cal cal112 rfl rfl rfl ?_
  refine (vec_Diff _ p c h.hp.i32 hc.i32).mono ?_
  rintro _ w5 ⟨v5, rfl, ⟨rfl, hb5⟩⟩
  refine ⟨_, rfl, ?_⟩
  have M5 := M4.callB hb5
  refine wl_q (r_move (.tuple (List.toArray _)) rfl) rfl rfl ?_
  refine wl_q (r_ext (.int _ _) rfl rfl) rfl rfl ?_
  refine wl_q (r_ext (.int _ _) rfl rfl) rfl rfl ?_
  refine wl_q (r_assign (.int _ _) rfl) rfl rfl ?_
  refine wl_q (r_assign (.int _ _) rfl) rfl rfl ?_
  refine wl_nil ?_
  refine thenN ?_
  refine W_seq ?_
  refine W_region ?_
  refine wl_q (r_move (.int _ _) rfl) rfl rfl ?_
  refine wl_q (r_move (.int _ _) rfl) rfl rfl ?_
  refine wl_q (r_mul rfl rfl (by omega) (by omega)) rfl rfl ?_
  refine wl_q (r_move (.int _ _) rfl) rfl rfl ?_
  refine wl_q (r_move (.int _ _) rfl) rfl rfl ?_
  refine wl_q (r_mul rfl rfl (by omega) (by omega)) rfl rfl ?_
  refine wl_q (r_add rfl rfl (by omega) (by omega)) rfl rfl ?_
  refine wl_re 30 (.int .i64 (parD p q)) rfl ?_
  refine wl_q (r_assign (.int _ _) rfl) rfl rfl ?_
  refine wl_nil ?_
  refine thenN ?_
  refine W_seq ?_
  refine W_region ?_
  refine wl_q (r_move (.int _ _) rfl) rfl rfl ?_
  refine wl_q (r_move (.int _ _) rfl) rfl rfl ?_
  refine wl_q (r_mul rfl rfl (by omega) (by omega)) rfl rfl ?_
  refine wl_q (r_move (.int _ _) rfl) rfl rfl ?_
  refine wl_q (r_move (.int _ _) rfl) rfl rfl ?_
  refine wl_q (r_mul rfl rfl (by omega) (by omega)) rfl rfl ?_
  refine wl_q (r_add rfl rfl (by omega) (by omega)) rfl rfl ?_
  refine wl_q (r_move (.int _ _) rfl) rfl rfl ?_
  refine wl_q (r_min2 rfl rfl ) rfl rfl ?_
  refine wl_q (r_max2 rfl rfl ) rfl rfl ?_
  refine wl_q (r_move (.int _ _) rfl) rfl rfl ?_
  refine wl_q (r_assign (.int _ _) rfl) rfl rfl ?_
  refine wl_q (r_assign (.int _ _) rfl) rfl rfl ?_
  refine wl_nil ?_
  refine thenN ?_
  refine W_ret ?_
  skip
  refine fin2 (.int _ _) (.int _ _) rfl rfl ?_
  exact ⟨rfl, M5.below⟩

set_option maxHeartbeats 4000000 in
theorem near_part (w : World) (f a n d : Int) (bn bd : Nat) (ha : -16777216 ≤ a ∧ a ≤ 16777216) (hn : 0 ≤ n) (hnd : n ≤ d) (hd0 : 0 < d) (hd : d ≤ 562949953421312) (h1 : -16777216 ≤ a * n / d ∧ a * n / d ≤ 16777216) (h2 : -1082130432 ≤ f + a * n / d ∧ f + a * n / d ≤ 1082130432) (K1 : Rd w 1 (some ⟨bn, 0, none⟩) 1 [[.int .i64 n]]) (K2 : Rd w 1 (some ⟨bd, 0, none⟩) 1 [[.int .i64 d]]) :
    Calls Tryz.prog 151 #[.int .i32 f, .int .i64 a, .pointer (some ⟨bn, 0, none⟩), .pointer (some ⟨bd, 0, none⟩)] w (fun ex w' => ∃ v, ex = .returned v ∧ (fun v w' => v = .int .i32 (f + a * n / d) ∧ Below w.heap.size w w') v w') := by
  rw [← elt_zero bn, ← elt_zero bd]
  refine calls_of_W #[.tmp 6] 20 Tryz.func151 rfl Tryz.results151 Tryz.ntmps151 rfl ?_
  have M0 := Mem.refl w
  refine W_seq ?_
  refine W_region ?_
  refine wl_q (r_assign (.int _ _) rfl) rfl rfl ?_
  refine wl_nil ?_
  refine thenN ?_
  refine W_seq ?_
  refine W_region ?_
  refine wl_q (r_move (.int _ _) rfl) rfl rfl ?_
  refine wl_q (r_ldE (o := 0) (.int _ _) one2 (K1.mem M0) (show ([[.int .i64 n]] : List (List Value))[0]? = some [.int .i64 n] from rfl) rfl rfl) rfl rfl ?_
  refine wl_q (r_ldE (o := 0) (.int _ _) one2 (K2.mem M0) (show ([[.int .i64 d]] : List (List Value))[0]? = some [.int .i64 d] from rfl) rfl rfl) rfl rfl ?_
  refine wl_cal cal152 rfl rfl rfl ?_
  refine (mulDiv _ a n d (by omega) hn hnd hd0 (by omega)).mono ?_
  rintro _ w1 ⟨v1, rfl, ⟨rfl, hb1⟩⟩
  refine ⟨_, rfl, ?_⟩
  have M1 := M0.callB hb1
  refine wl_q (r_move (.tuple (List.toArray _)) rfl) rfl rfl ?_
  refine wl_q (r_ext (.int _ _) rfl rfl) rfl rfl ?_
  refine wl_q (r_ext (.int _ _) rfl rfl) rfl rfl ?_
  refine wl_q (r_assign (.int _ _) rfl) rfl rfl ?_
  refine wl_q (r_assign (.int _ _) rfl) rfl rfl ?_
  refine wl_nil ?_
  refine thenN ?_
  refine W_seq ?_
  refine W_region ?_
  refine wl_q (r_move (.int _ _) rfl) rfl rfl ?_
  refine wl_q (r_move (.int _ _) rfl) rfl rfl ?_
  refine wl_q (r_convK us2 Tryz.underlying21 rfl (wr32 _ (by omega) (by omega))) rfl rfl ?_
  refine wl_q (r_addK rfl rfl (wr32 _ (by omega) (by omega))) rfl rfl ?_
  refine wl_q (r_assign (.int _ _) rfl) rfl rfl ?_
  refine wl_nil ?_
  refine thenN ?_
  refine W_ret ?_
  skip
  refine fin1 (.int _ _) rfl ?_
  exact ⟨rfl, M1.below⟩

set_option maxHeartbeats 4000000 in
theorem point_Nearest (w : World) (p q c : Pt) (h : SgI p q) (hc : PtI c) :
    Calls Tryz.prog 142 #[(.agg (vecCells p).toArray), (.agg (vecCells q).toArray), (.agg (vecCells c).toArray)] w (fun ex w' => ∃ v, ex = .returned v ∧ (fun v w' => v = (.agg (vecCells (nearest p q c)).toArray) ∧ Below w.heap.size w w') v w') := by
  have hD := parD_rng h
  have hn := parN_rng (c := c) h
  have hx := h.x
  have hy := h.y
  refine calls_of_W #[.cell 6 29] 40 Tryz.func142 rfl Tryz.results142 Tryz.ntmps142 rfl ?_
  have M0 := Mem.refl w
  refine W_seq ?_
  refine W_region ?_
  refine wl_box (.agg (List.toArray _)) M0 rfl rfl rfl (fun b1 w1 M1 => ?_)
  refine wl_box (.agg (List.toArray _)) M1 rfl rfl rfl (fun b2 w2 M2 => ?_)
  refine wl_box (.agg (List.toArray _)) M2 rfl rfl rfl (fun b3 w3 M3 => ?_)
  refine wl_alloc zero29 M3 rfl rfl (fun b4 w4 M4 => ?_)
  refine wl_nil ?_
  refine thenN ?_
  refine W_seq ?_
  refine W_region ?_
  refine wl_q (r_ldW 0 agg29 M4 rfl rfl rfl) rfl rfl ?_
  refine wl_q (r_ldW 1 agg29 M4 rfl rfl rfl) rfl rfl ?_
  refine wl_q (r_ldW 2 agg29 M4 rfl rfl rfl) rfl rfl ?_
  refine wl_cal cal150 rfl rfl rfl ?_
  refine (point_Param _ p q c h hc).mono ?_
  rintro _ w5 ⟨v5, rfl, ⟨rfl, hb5⟩⟩
  refine ⟨_, rfl, ?_⟩
  have M5 := M4.callB hb5
  refine wl_q (r_move (.tuple (List.toArray _)) rfl) rfl rfl ?_
  refine wl_q (r_ext (.int _ _) rfl rfl) rfl rfl ?_
  refine wl_q (r_ext (.int _ _) rfl rfl) rfl rfl ?_
  refine wl_alloc zero2 M5 rfl rfl (fun b6 w6 M6 => ?_)
  refine wl_alloc zero2 M6 rfl rfl (fun b7 w7 M7 => ?_)
  refine wl_st 4 (.int _ _) one2 M7 rfl rfl rfl rfl rfl rfl (fun w8 M8 => ?_)
  refine wl_st 5 (.int _ _) one2 M8 rfl rfl rfl rfl rfl rfl (fun w9 M9 => ?_)
  refine wl_nil ?_
  refine thenN ?_
  refine W_seq ?_
  refine W_seq ?_
  refine W_region ?_
  refine wl_q (r_ld 5 (.int _ _) one2 M9 rfl rfl rfl) rfl rfl ?_
  refine wl_q (r_bin (.bool (decide _)) rfl rfl rfl) rfl rfl ?_
  refine wl_nil ?_
  refine thenN ?_
  refine W_condD rfl (fun h20 => ?_) (fun h20 => ?_)
  · skip
    refine W_seq ?_
    refine W_region ?_
    refine wl_q (r_ldW 0 agg29 M9 rfl rfl rfl) rfl rfl ?_
    refine wl_stW 3 _ agg29 M9 rfl rfl rfl rfl rfl (ones_of rfl) rfl (fun w10 M10 => ?_)
    refine wl_nil ?_
    refine thenN ?_
    refine W_ret ?_
    refine thenR ?_
    skip
    refine finC1 3 agg29 M10 rfl rfl rfl ?_
    exact ⟨by unfold nearest; first | (rw [if_pos h20]; rfl) | (rw [if_neg h20]; rfl), M10.below⟩
  · skip
    have hnr := near_rng (c := c) h h20
    refine W_skip ?_
    refine thenN ?_
    refine W_seq ?_
    refine W_region ?_
    refine wl_q (r_makeFuncV [] [.pointer _, .pointer _] rfl rfl) rfl rfl ?_
    refine wl_q (r_assign (.func _ _ _) rfl) rfl rfl ?_
    refine wl_nil ?_
    refine thenN ?_
    refine W_seq ?_
    refine W_region ?_
    refine wl_q (r_ldW 0 agg29 M9 rfl rfl rfl) rfl rfl ?_
    refine wl_q (r_ldW 1 agg29 M9 rfl rfl rfl) rfl rfl ?_
    refine wl_cal cal112 rfl rfl rfl ?_
    refine (vec_Diff _ p q h.hp.i32 h.hq.i32).mono ?_
    rintro _ w11 ⟨v11, rfl, ⟨rfl, hb11⟩⟩
    refine ⟨_, rfl, ?_⟩
    have M11 := M9.callB hb11
    refine wl_q (r_move (.tuple (List.toArray _)) rfl) rfl rfl ?_
    refine wl_q (r_ext (.int _ _) rfl rfl) rfl rfl ?_
    refine wl_q (r_ext (.int _ _) rfl rfl) rfl rfl ?_
    refine wl_q (r_assign (.int _ _) rfl) rfl rfl ?_
    refine wl_q (r_assign (.int _ _) rfl) rfl rfl ?_
    refine wl_nil ?_
    refine thenN ?_
    refine W_seq ?_
    refine W_draw [(0, 0), (1, 0), (2, 1), (3, 0), (5, 0), (6, 0), (7, 1), (8, 0), (4, 2), (9, 2), (10, 0), (11, 2)] mixed rfl (by kernel_rfl) (fun w12 hb12 hh12 => ?_)
    have M12 := M11.drew hb12 hh12
    refine D_p rfl rfl rfl (fun _ => r_move (.func _ _ _) rfl) ?_
    refine D_p rfl rfl rfl (fun _ => r_fieldAddr 0 fld29_0 rfl) ?_
    refine D_r rfl rfl rfl (r_ld 0 (.int _ _) one21 M12 rfl rfl rfl) ?_
    refine D_p rfl rfl rfl (fun _ => r_move (.int _ _) rfl) ?_
    refine D_p rfl rfl rfl (fun _ => r_move (.func _ _ _) rfl) ?_
    refine D_p rfl rfl rfl (fun _ => r_fieldAddr 1 fld29_1 rfl) ?_
    refine D_r rfl rfl rfl (r_ld 0 (.int _ _) one21 M12 rfl rfl rfl) ?_
    refine D_p rfl rfl rfl (fun _ => r_move (.int _ _) rfl) ?_
    refine D_e [false, true] rfl (by kernel_rfl) ?_
    refine wl_cal cal151 rfl rfl rfl ?_
    refine (near_part _ p.1 (q.1 - p.1) (parN p q c) (parD p q) b6 b7 (by omega) hn.1 hn.2 (by omega) (by omega) hnr.1.1 hnr.1.2 (rdOf 4 M12 rfl rfl) (rdOf 5 M12 rfl rfl)).mono ?_
    rintro _ w13 ⟨v13, rfl, ⟨rfl, hb13⟩⟩
    refine ⟨_, rfl, ?_⟩
    have M13 := M12.callB hb13
    refine wl_nil (thenN ⟨(alC (Yl_of rfl (r_ld 0 (.int _ _) one21 M13 rfl rfl rfl)) alN), ?_⟩)
    refine D_e [true] rfl (by kernel_rfl) ?_
    refine wl_cal cal151 rfl rfl rfl ?_
    refine (near_part _ p.2 (q.2 - p.2) (parN p q c) (parD p q) b6 b7 (by omega) hn.1 hn.2 (by omega) (by omega) hnr.2.1 hnr.2.2 (rdOf 4 M13 rfl rfl) (rdOf 5 M13 rfl rfl)).mono ?_
    rintro _ w14 ⟨v14, rfl, ⟨rfl, hb14⟩⟩
    refine ⟨_, rfl, ?_⟩
    have M14 := M13.callB hb14
    refine wl_nil (thenN ⟨alN, ?_⟩)
    refine D_p rfl rfl rfl (fun _ => r_build [(0, .int _ _), (1, .int _ _)] _ struct29 rfl rfl) ?_
    refine D_e [] rfl (by kernel_rfl) ?_
    refine wl_stW 3 _ agg29 M14 rfl rfl rfl rfl rfl (ones_of rfl) rfl (fun w15 M15 => ?_)
    refine wl_nil (thenN ⟨alN, ?_⟩)
    refine D_nil ?_
    refine thenN ?_
    refine W_ret ?_
    skip
    refine finC1 3 agg29 M15 rfl rfl rfl ?_
    exact ⟨by unfold nearest; first | (rw [if_pos h20]; rfl) | (rw [if_neg h20]; rfl), M15.below⟩

end Go.Proofs.YtmcddmhkjcgneaaGreatDoor

/- Walks of Go functions over the frame of this claim: what each computes, for every input of the stated types (Z3). -/
set_option linter.unusedVariables false
set_option linter.unusedSimpArgs false
set_option linter.unnecessarySimpa false
namespace Go.Proofs.YtmcddmhkjcgneaaGreatDoor
open Go.Bil
open Go.RowKit (Below)
open Go.Proofs

set_option maxHeartbeats 4000000 in
theorem ref12_Square (w : World) (p q : Pt) (h : SgI p q) :
    Calls Tryz.prog 115 #[(.agg (vecCells p).toArray), (.agg (vecCells q).toArray)] w (fun ex w' => ∃ v, ex = .returned v ∧ (fun v w' => v = .int .i64 (parD p q) ∧ Below w.heap.size w w') v w') := by
  have hD := parD_rng h
  have hp := h.hp.i32
  have hq := h.hq.i32
  have hpx := hp.x
  have hpy := hp.y
  have hqx := hq.x
  have hqy := hq.y
  refine calls_of_W #[.tmp 4] 28 Tryz.func115 rfl Tryz.results115 Tryz.ntmps115 rfl ?_
  have M0 := Mem.refl w
  refine W_seq ?_
  refine W_region ?_
  refine wl_box (.agg (List.toArray _)) M0 rfl rfl rfl (fun b1 w1 M1 => ?_)
  refine wl_box (.agg (List.toArray _)) M1 rfl rfl rfl (fun b2 w2 M2 => ?_)
  refine wl_q (r_assign (.int _ _) rfl) rfl rfl ?_
  refine wl_nil ?_
  refine thenN ?_
  refine W_seq ?_
  refine W_region ?_
  refine wl_q (r_fieldAddr 0 fld29_0 rfl) rfl rfl ?_
  refine wl_q (r_ld 1 (.int _ _) one21 M2 rfl rfl rfl) rfl rfl ?_
  refine wl_q (r_convK us21 Tryz.underlying2 rfl (w64 _ (by omega) (by omega))) rfl rfl ?_
  refine wl_q (r_fieldAddr 0 fld29_0 rfl) rfl rfl ?_
  refine wl_q (r_ld 0 (.int _ _) one21 M2 rfl rfl rfl) rfl rfl ?_
  refine wl_q (r_convK us21 Tryz.underlying2 rfl (w64 _ (by omega) (by omega))) rfl rfl ?_
  refine wl_q (r_sub rfl rfl (by omega) (by omega)) rfl rfl ?_
  refine wl_q (r_assign (.int _ _) rfl) rfl rfl ?_
  refine wl_nil ?_
  refine thenN ?_
  refine W_seq ?_
  refine W_region ?_
  refine wl_q (r_fieldAddr 1 fld29_1 rfl) rfl rfl ?_
  refine wl_q (r_ld 1 (.int _ _) one21 M2 rfl rfl rfl) rfl rfl ?_
  refine wl_q (r_convK us21 Tryz.underlying2 rfl (w64 _ (by omega) (by omega))) rfl rfl ?_
  refine wl_q (r_fieldAddr 1 fld29_1 rfl) rfl rfl ?_
  refine wl_q (r_ld 0 (.int _ _) one21 M2 rfl rfl rfl) rfl rfl ?_
  refine wl_q (r_convK us21 Tryz.underlying2 rfl (w64 _ (by omega) (by omega))) rfl rfl ?_
  refine wl_q (r_sub rfl rfl (by omega) (by omega)) rfl rfl ?_
  refine wl_q (r_assign (.int _ _) rfl) rfl rfl ?_
  refine wl_nil ?_
  refine thenN ?_
  refine W_seq ?_
  refine W_region ?_
  refine wl_q (r_move (.int _ _) rfl) rfl rfl ?_
  refine wl_q (r_move (.int _ _) rfl) rfl rfl ?_
  refine wl_q (r_mul rfl rfl (by omega) (by omega)) rfl rfl ?_
  refine wl_q (r_move (.int _ _) rfl) rfl rfl ?_
  refine wl_q (r_move (.int _ _) rfl) rfl rfl ?_
  refine wl_q (r_mul rfl rfl (by omega) (by omega)) rfl rfl ?_
  refine wl_q (r_add rfl rfl (by omega) (by omega)) rfl rfl ?_
  refine wl_q (r_assign (.int _ _) rfl) rfl rfl ?_
  refine wl_nil ?_
  refine thenN ?_
  refine W_ret ?_
  skip
  refine fin1 (.int _ _) rfl ?_
  exact ⟨rfl, M2.below⟩

set_option maxHeartbeats 4000000 in
theorem ref12_Limit (w : World) (n lo hi : Int) (h : lo ≤ hi) :
    Calls Tryz.prog 126 #[.int .i64 n, .int .i64 lo, .int .i64 hi] w (fun ex w' => ∃ v, ex = .returned v ∧ (fun v w' => v = .int .i64 (max lo (min n hi)) ∧ Below w.heap.size w w') v w') := by
  refine calls_of_W #[.tmp 6] 16 Tryz.func126 rfl Tryz.results126 Tryz.ntmps126 rfl ?_
  have M0 := Mem.refl w
  refine W_seq ?_
  refine W_region ?_
  refine wl_q (r_assign (.int _ _) rfl) rfl rfl ?_
  refine wl_nil ?_
  refine thenN ?_
  refine W_seq ?_
  refine W_seq ?_
  refine W_region ?_
  refine wl_q (r_move (.int _ _) rfl) rfl rfl ?_
  refine wl_q (r_move (.int _ _) rfl) rfl rfl ?_
  refine wl_q (r_bin (.bool (decide _)) rfl rfl rfl) rfl rfl ?_
  refine wl_nil ?_
  refine thenN ?_
  refine W_condD rfl (fun h9 => ?_) (fun h9 => ?_)
  · skip
    refine W_seq ?_
    refine W_region ?_
    refine wl_q (r_move (.int _ _) rfl) rfl rfl ?_
    refine wl_q (r_assign (.int _ _) rfl) rfl rfl ?_
    refine wl_nil ?_
    refine thenN ?_
    refine W_ret ?_
    refine thenR ?_
    skip
    refine fin1 (.int _ _) rfl ?_
    exact ⟨iE (by omega), M0.below⟩
  · skip
    refine W_skip ?_
    refine thenN ?_
    refine W_seq ?_
    refine W_seq ?_
    refine W_region ?_
    refine wl_q (r_move (.int _ _) rfl) rfl rfl ?_
    refine wl_q (r_move (.int _ _) rfl) rfl rfl ?_
    refine wl_q (r_bin (.bool (decide _)) rfl rfl rfl) rfl rfl ?_
    refine wl_nil ?_
    refine thenN ?_
    refine W_condD rfl (fun h13 => ?_) (fun h13 => ?_)
    · skip
      refine W_seq ?_
      refine W_region ?_
      refine wl_q (r_move (.int _ _) rfl) rfl rfl ?_
      refine wl_q (r_assign (.int _ _) rfl) rfl rfl ?_
      refine wl_nil ?_
      refine thenN ?_
      refine W_ret ?_
      refine thenR ?_
      skip
      refine fin1 (.int _ _) rfl ?_
      exact ⟨iE (by omega), M0.below⟩
    · skip
      refine W_skip ?_
      refine thenN ?_
      refine W_seq ?_
      refine W_region ?_
      refine wl_q (r_move (.int _ _) rfl) rfl rfl ?_
      refine wl_q (r_assign (.int _ _) rfl) rfl rfl ?_
      refine wl_nil ?_
      refine thenN ?_
      refine W_ret ?_
      skip
      refine fin1 (.int _ _) rfl ?_
      exact ⟨iE (by omega), M0.below⟩

set_option maxHeartbeats 4000000 in
theorem ref12_Param (w : World) (p q c : Pt) (h : SgI p q) (hc : PtI c) :
    Calls Tryz.prog 116 #[(.agg (vecCells p).toArray), (.agg (vecCells q).toArray), (.agg (vecCells c).toArray)] w (fun ex w' => ∃ v, ex = .returned v ∧ (fun v w' => v = .int .i64 (parN p q c) ∧ Below w.heap.size w w') v w') := by
  have hD := parD_rng h
  have hx := cross_rng h hc
  have hp := h.hp.i32
  have hq := h.hq.i32
  have hci := hc.i32
  have hpx := hp.x
  have hpy := hp.y
  have hqx := hq.x
  have hqy := hq.y
  have hcx := hci.x
  have hcy := hci.y
  refine calls_of_W #[.tmp 6] 48 Tryz.func116 rfl Tryz.results116 Tryz.ntmps116 rfl ?_
  have M0 := Mem.refl w
  refine W_seq ?_
  refine W_region ?_
  refine wl_box (.agg (List.toArray _)) M0 rfl rfl rfl (fun b1 w1 M1 => ?_)
  refine wl_box (.agg (List.toArray _)) M1 rfl rfl rfl (fun b2 w2 M2 => ?_)
  refine wl_box (.agg (List.toArray _)) M2 rfl rfl rfl (fun b3 w3 M3 => ?_)
  refine wl_q (r_assign (.int _ _) rfl) rfl rfl ?_
  refine wl_nil ?_
  refine thenN ?_
  refine W_seq ?_
  refine W_region ?_
  refine wl_q (r_fieldAddr 0 fld29_0 rfl) rfl rfl ?_
  refine wl_q (r_ld 1 (.int _ _) one21 M3 rfl rfl rfl) rfl rfl ?_
  refine wl_q (r_convK us21 Tryz.underlying2 rfl (w64 _ (by omega) (by omega))) rfl rfl ?_
  refine wl_q (r_fieldAddr 0 fld29_0 rfl) rfl rfl ?_
  refine wl_q (r_ld 0 (.int _ _) one21 M3 rfl rfl rfl) rfl rfl ?_
  refine wl_q (r_convK us21 Tryz.underlying2 rfl (w64 _ (by omega) (by omega))) rfl rfl ?_
  refine wl_q (r_sub rfl rfl (by omega) (by omega)) rfl rfl ?_
  refine wl_q (r_assign (.int _ _) rfl) rfl rfl ?_
  refine wl_nil ?_
  refine thenN ?_
  refine W_seq ?_
  refine W_region ?_
  refine wl_q (r_fieldAddr 1 fld29_1 rfl) rfl rfl ?_
  refine wl_q (r_ld 1 (.int _ _) one21 M3 rfl rfl rfl) rfl rfl ?_
  refine wl_q (r_convK us21 Tryz.underlying2 rfl (w64 _ (by omega) (by omega))) rfl rfl ?_
  refine wl_q (r_fieldAddr 1 fld29_1 rfl) rfl rfl ?_
  refine wl_q (r_ld 0 (.int _ _) one21 M3 rfl rfl rfl) rfl rfl ?_
  refine wl_q (r_convK us21 Tryz.underlying2 rfl (w64 _ (by omega) (by omega))) rfl rfl ?_
  refine wl_q (r_sub rfl rfl (by omega) (by omega)) rfl rfl ?_
  refine wl_q (r_assign (.int _ _) rfl) rfl rfl ?_
  refine wl_nil ?_
  refine thenN ?_
  refine W_seq ?_
  refine W_region ?_
  refine wl_q (r_fieldAddr 0 fld29_0 rfl) rfl rfl ?_
  refine wl_q (r_ld 2 (.int _ _) one21 M3 rfl rfl rfl) rfl rfl ?_
  refine wl_q (r_convK us21 Tryz.underlying2 rfl (w64 _ (by omega) (by omega))) rfl rfl ?_
  refine wl_q (r_fieldAddr 0 fld29_0 rfl) rfl rfl ?_
  refine wl_q (r_ld 0 (.int _ _) one21 M3 rfl rfl rfl) rfl rfl ?_
  refine wl_q (r_convK us21 Tryz.underlying2 rfl (w64 _ (by omega) (by omega))) rfl rfl ?_
  refine wl_q (r_sub rfl rfl (by omega) (by omega)) rfl rfl ?_
  refine wl_q (r_move (.int _ _) rfl) rfl rfl ?_
  refine wl_q (r_mul rfl rfl (by omega) (by omega)) rfl rfl ?_
  refine wl_q (r_fieldAddr 1 fld29_1 rfl) rfl rfl ?_
  refine wl_q (r_ld 2 (.int _ _) one21 M3 rfl rfl rfl) rfl rfl ?_
  refine wl_q (r_convK us21 Tryz.underlying2 rfl (w64 _ (by omega) (by omega))) rfl rfl ?_
  refine wl_q (r_fieldAddr 1 fld29_1 rfl) rfl rfl ?_
  refine wl_q (r_ld 0 (.int _ _) one21 M3 rfl rfl rfl) rfl rfl ?_
  refine wl_q (r_convK us21 Tryz.underlying2 rfl (w64 _ (by omega) (by omega))) rfl rfl ?_
  refine wl_q (r_sub rfl rfl (by omega) (by omega)) rfl rfl ?_
  refine wl_q (r_move (.int _ _) rfl) rfl rfl ?_
  refine wl_q (r_mul rfl rfl (by omega) (by omega)) rfl rfl ?_
  refine wl_q (r_add rfl rfl (by omega) (by omega)) rfl rfl ?_
  refine wl_q (r_assign (.int _ _) rfl) rfl rfl ?_
  refine wl_nil ?_
  refine thenN ?_
  refine W_seq ?_
  refine W_region ?_
  refine wl_q (r_move (.int _ _) rfl) rfl rfl ?_
  refine wl_q (r_ldW 0 agg29 M3 rfl rfl rfl) rfl rfl ?_
  refine wl_q (r_ldW 1 agg29 M3 rfl rfl rfl) rfl rfl ?_
  refine wl_cal cal115 rfl rfl rfl ?_
  refine (ref12_Square _ p q h).mono ?_
  rintro _ w4 ⟨v4, rfl, ⟨rfl, hb4⟩⟩
  refine ⟨_, rfl, ?_⟩
  have M4 := M3.callB hb4
  refine wl_cal cal126 rfl rfl rfl ?_
  refine (ref12_Limit _ ((c.1 - p.1) * (q.1 - p.1) + (c.2 - p.2) * (q.2 - p.2)) 0 (parD p q) (by omega)).mono ?_
  rintro _ w5 ⟨v5, rfl, ⟨rfl, hb5⟩⟩
  refine ⟨_, rfl, ?_⟩
  have M5 := M4.callB hb5
  refine wl_q (r_assign (.int _ _) rfl) rfl rfl ?_
  refine wl_nil ?_
  refine thenN ?_
  refine W_ret ?_
  skip
  refine fin1 (.int _ _) rfl ?_
  exact ⟨rfl, M5.below⟩

set_option maxHeartbeats 4000000 in
theorem ref12_Nearest (w : World) (p q c : Pt) (h : SgI p q) (hc : PtI c) :
    Calls Tryz.prog 102 #[(.agg (vecCells p).toArray), (.agg (vecCells q).toArray), (.agg (vecCells c).toArray)] w (fun ex w' => ∃ v, ex = .returned v ∧ (fun v w' => v = (.agg (vecCells (nearest p q c)).toArray) ∧ Below w.heap.size w w') v w') := by
  have hD := parD_rng h
  have hn := parN_rng (c := c) h
  have hx := h.x
  have hy := h.y
  have hp := h.hp.i32
  have hq := h.hq.i32
  have hpx := hp.x
  have hpy := hp.y
  have hqx := hq.x
  have hqy := hq.y
  refine calls_of_W #[.cell 6 29] 60 Tryz.func102 rfl Tryz.results102 Tryz.ntmps102 rfl ?_
  have M0 := Mem.refl w
  refine W_seq ?_
  refine W_region ?_
  refine wl_box (.agg (List.toArray _)) M0 rfl rfl rfl (fun b1 w1 M1 => ?_)
  refine wl_box (.agg (List.toArray _)) M1 rfl rfl rfl (fun b2 w2 M2 => ?_)
  refine wl_box (.agg (List.toArray _)) M2 rfl rfl rfl (fun b3 w3 M3 => ?_)
  refine wl_alloc zero29 M3 rfl rfl (fun b4 w4 M4 => ?_)
  refine wl_nil ?_
  refine thenN ?_
  refine W_seq ?_
  refine W_region ?_
  refine wl_q (r_ldW 0 agg29 M4 rfl rfl rfl) rfl rfl ?_
  refine wl_q (r_ldW 1 agg29 M4 rfl rfl rfl) rfl rfl ?_
  refine wl_cal cal115 rfl rfl rfl ?_
  refine (ref12_Square _ p q h).mono ?_
  rintro _ w5 ⟨v5, rfl, ⟨rfl, hb5⟩⟩
  refine ⟨_, rfl, ?_⟩
  have M5 := M4.callB hb5
  refine wl_q (r_assign (.int _ _) rfl) rfl rfl ?_
  refine wl_nil ?_
  refine thenN ?_
  refine W_seq ?_
  refine W_seq ?_
  refine W_region ?_
  refine wl_q (r_move (.int _ _) rfl) rfl rfl ?_
  refine wl_q (r_bin (.bool (decide _)) rfl rfl rfl) rfl rfl ?_
  refine wl_nil ?_
  refine thenN ?_
  refine W_condD rfl (fun h17 => ?_) (fun h17 => ?_)
  · skip
    refine W_seq ?_
    refine W_region ?_
    refine wl_q (r_ldW 0 agg29 M5 rfl rfl rfl) rfl rfl ?_
    refine wl_stW 3 _ agg29 M5 rfl rfl rfl rfl rfl (ones_of rfl) rfl (fun w6 M6 => ?_)
    refine wl_nil ?_
    refine thenN ?_
    refine W_ret ?_
    refine thenR ?_
    skip
    refine finC1 3 agg29 M6 rfl rfl rfl ?_
    exact ⟨by unfold nearest; first | (rw [if_pos h17]; rfl) | (rw [if_neg h17]; rfl), M6.below⟩
  · skip
    have hnr := near_rng (c := c) h h17
    refine W_skip ?_
    refine thenN ?_
    refine W_seq ?_
    refine W_region ?_
    refine wl_q (r_ldW 0 agg29 M5 rfl rfl rfl) rfl rfl ?_
    refine wl_q (r_ldW 1 agg29 M5 rfl rfl rfl) rfl rfl ?_
    refine wl_q (r_ldW 2 agg29 M5 rfl rfl rfl) rfl rfl ?_
    refine wl_cal cal116 rfl rfl rfl ?_
    refine (ref12_Param _ p q c h hc).mono ?_
    rintro _ w7 ⟨v7, rfl, ⟨rfl, hb7⟩⟩
    refine ⟨_, rfl, ?_⟩
    have M7 := M5.callB hb7
    refine wl_q (r_assign (.int _ _) rfl) rfl rfl ?_
    refine wl_nil ?_
    refine thenN ?_
    refine W_seq ?_
    refine W_region ?_
    refine wl_q (r_fieldAddr 0 fld29_0 rfl) rfl rfl ?_
    refine wl_q (r_ld 1 (.int _ _) one21 M7 rfl rfl rfl) rfl rfl ?_
    refine wl_q (r_convK us21 Tryz.underlying2 rfl (w64 _ (by omega) (by omega))) rfl rfl ?_
    refine wl_q (r_fieldAddr 0 fld29_0 rfl) rfl rfl ?_
    refine wl_q (r_ld 0 (.int _ _) one21 M7 rfl rfl rfl) rfl rfl ?_
    refine wl_q (r_convK us21 Tryz.underlying2 rfl (w64 _ (by omega) (by omega))) rfl rfl ?_
    refine wl_q (r_sub rfl rfl (by omega) (by omega)) rfl rfl ?_
    refine wl_q (r_move (.int _ _) rfl) rfl rfl ?_
    refine wl_q (r_move (.int _ _) rfl) rfl rfl ?_
    refine wl_cal cal117 rfl rfl rfl ?_
    refine (ref01_MulDiv _ (q.1 - p.1) (parN p q c) (parD p q) (by omega) hn.1 hn.2 (by omega) (by omega)).mono ?_
    rintro _ w8 ⟨v8, rfl, ⟨rfl, hb8⟩⟩
    refine ⟨_, rfl, ?_⟩
    have M8 := M7.callB hb8
    refine wl_q (r_move (.tuple (List.toArray _)) rfl) rfl rfl ?_
    refine wl_q (r_ext (.int _ _) rfl rfl) rfl rfl ?_
    refine wl_q (r_ext (.int _ _) rfl rfl) rfl rfl ?_
    refine wl_q (r_assign (.int _ _) rfl) rfl rfl ?_
    refine wl_q (r_assign (.int _ _) rfl) rfl rfl ?_
    refine wl_nil ?_
    refine thenN ?_
    refine W_seq ?_
    refine W_region ?_
    refine wl_q (r_fieldAddr 1 fld29_1 rfl) rfl rfl ?_
    refine wl_q (r_ld 1 (.int _ _) one21 M8 rfl rfl rfl) rfl rfl ?_
    refine wl_q (r_convK us21 Tryz.underlying2 rfl (w64 _ (by omega) (by omega))) rfl rfl ?_
    refine wl_q (r_fieldAddr 1 fld29_1 rfl) rfl rfl ?_
    refine wl_q (r_ld 0 (.int _ _) one21 M8 rfl rfl rfl) rfl rfl ?_
    refine wl_q (r_convK us21 Tryz.underlying2 rfl (w64 _ (by omega) (by omega))) rfl rfl ?_
    refine wl_q (r_sub rfl rfl (by omega) (by omega)) rfl rfl ?_
    refine wl_q (r_move (.int _ _) rfl) rfl rfl ?_
    refine wl_q (r_move (.int _ _) rfl) rfl rfl ?_
    refine wl_cal cal117 rfl rfl rfl ?_
    refine (ref01_MulDiv _ (q.2 - p.2) (parN p q c) (parD p q) (by omega) hn.1 hn.2 (by omega) (by omega)).mono ?_
    rintro _ w9 ⟨v9, rfl, ⟨rfl, hb9⟩⟩
    refine ⟨_, rfl, ?_⟩
    have M9 := M8.callB hb9
    refine wl_q (r_move (.tuple (List.toArray _)) rfl) rfl rfl ?_
    refine wl_q (r_ext (.int _ _) rfl rfl) rfl rfl ?_
    refine wl_q (r_ext (.int _ _) rfl rfl) rfl rfl ?_
    refine wl_q (r_assign (.int _ _) rfl) rfl rfl ?_
    refine wl_q (r_assign (.int _ _) rfl) rfl rfl ?_
    refine wl_nil ?_
    refine thenN ?_
    refine W_seq ?_
    refine W_region ?_
    refine wl_q (r_fieldAddr 0 fld29_0 rfl) rfl rfl ?_
    refine wl_q (r_ld 0 (.int _ _) one21 M9 rfl rfl rfl) rfl rfl ?_
    refine wl_q (r_move (.int _ _) rfl) rfl rfl ?_
    refine wl_q (r_convK us2 Tryz.underlying21 rfl (wr32 _ (by omega) (by omega))) rfl rfl ?_
    refine wl_q (r_addK rfl rfl (wr32 _ (by omega) (by omega))) rfl rfl ?_
    refine wl_q (r_fieldAddr 1 fld29_1 rfl) rfl rfl ?_
    refine wl_q (r_ld 0 (.int _ _) one21 M9 rfl rfl rfl) rfl rfl ?_
    refine wl_q (r_move (.int _ _) rfl) rfl rfl ?_
    refine wl_q (r_convK us2 Tryz.underlying21 rfl (wr32 _ (by omega) (by omega))) rfl rfl ?_
    refine wl_q (r_addK rfl rfl (wr32 _ (by omega) (by omega))) rfl rfl ?_
    refine wl_q (r_build [(0, .int _ _), (1, .int _ _)] _ struct29 rfl rfl) rfl rfl ?_
    refine wl_stW 3 _ agg29 M9 rfl rfl rfl rfl rfl (ones_of rfl) rfl (fun w10 M10 => ?_)
    refine wl_nil ?_
    refine thenN ?_
    refine W_ret ?_
    skip
    refine finC1 3 agg29 M10 rfl rfl rfl ?_
    exact ⟨by unfold nearest; first | (rw [if_pos h17]; rfl) | (rw [if_neg h17]; rfl), M10.below⟩

set_option maxHeartbeats 4000000 in
theorem ref13_DistSq (w : World) (a b : Pt) (ha : PtI a) (hb : PtI b) :
    Calls Tryz.prog 66 #[(.agg (vecCells a ++ vecCells b).toArray)] w (fun ex w' => ∃ v, ex = .returned v ∧ (fun v w' => v = .int .u64 ((lsq (b.1 - a.1) (b.2 - a.2) : Nat) : Int) ∧ Below w.heap.size w w') v w') := by
  have hai := ha.i32
  have hbi := hb.i32
  have hax := hai.x
  have hay := hai.y
  have hbx := hbi.x
  have hby := hbi.y
  refine calls_of_W #[.tmp 2] 22 Tryz.func66 rfl Tryz.results66 Tryz.ntmps66 rfl ?_
  have M0 := Mem.refl w
  refine W_seq ?_
  refine W_region ?_
  refine wl_box (.agg (List.toArray _)) M0 rfl rfl rfl (fun b1 w1 M1 => ?_)
  refine wl_q (r_assign (.int _ _) rfl) rfl rfl ?_
  refine wl_nil ?_
  refine thenN ?_
  refine W_seq ?_
  refine W_region ?_
  refine wl_q (r_fieldAddr 2 fld112_1 rfl) rfl rfl ?_
  refine wl_q (r_fieldAddr 0 fld29_0 rfl) rfl rfl ?_
  refine wl_q (r_ld 0 (.int _ _) one21 M1 rfl rfl rfl) rfl rfl ?_
  refine wl_q (r_convK us21 Tryz.underlying2 rfl (w64 _ (by omega) (by omega))) rfl rfl ?_
  refine wl_q (r_fieldAddr 0 fld112_0 rfl) rfl rfl ?_
  refine wl_q (r_fieldAddr 0 fld29_0 rfl) rfl rfl ?_
  refine wl_q (r_ld 0 (.int _ _) one21 M1 rfl rfl rfl) rfl rfl ?_
  refine wl_q (r_convK us21 Tryz.underlying2 rfl (w64 _ (by omega) (by omega))) rfl rfl ?_
  refine wl_q (r_sub rfl rfl (by omega) (by omega)) rfl rfl ?_
  refine wl_q (r_fieldAddr 2 fld112_1 rfl) rfl rfl ?_
  refine wl_q (r_fieldAddr 1 fld29_1 rfl) rfl rfl ?_
  refine wl_q (r_ld 0 (.int _ _) one21 M1 rfl rfl rfl) rfl rfl ?_
  refine wl_q (r_convK us21 Tryz.underlying2 rfl (w64 _ (by omega) (by omega))) rfl rfl ?_
  refine wl_q (r_fieldAddr 0 fld112_0 rfl) rfl rfl ?_
  refine wl_q (r_fieldAddr 1 fld29_1 rfl) rfl rfl ?_
  refine wl_q (r_ld 0 (.int _ _) one21 M1 rfl rfl rfl) rfl rfl ?_
  refine wl_q (r_convK us21 Tryz.underlying2 rfl (w64 _ (by omega) (by omega))) rfl rfl ?_
  refine wl_q (r_sub rfl rfl (by omega) (by omega)) rfl rfl ?_
  refine wl_cal cal16 rfl rfl rfl ?_
  refine (ref04_LengthSq _ (b.1 - a.1) (b.2 - a.2) (ha.inX hb) (ha.inY hb)).mono ?_
  rintro _ w2 ⟨v2, rfl, ⟨rfl, hb2⟩⟩
  refine ⟨_, rfl, ?_⟩
  have M2 := M1.callB hb2
  refine wl_q (r_assign (.int _ _) rfl) rfl rfl ?_
  refine wl_nil ?_
  refine thenN ?_
  refine W_ret ?_
  skip
  refine fin1 (.int _ _) rfl ?_
  exact ⟨rfl, M2.below⟩

end Go.Proofs.YtmcddmhkjcgneaaGreatDoor

/- Walks of Go functions over the frame of this claim: what each computes, for every input of the stated types (W5). -/
set_option linter.unusedVariables false
set_option linter.unusedSimpArgs false
set_option linter.unnecessarySimpa false
namespace Go.Proofs.YtmcddmhkjcgneaaGreatDoor
open Go.Bil
open Go.RowKit (Below)
open Go.Proofs

set_option maxHeartbeats 4000000 in
theorem choose1 (w : World) (s : Ch) (x y : Pt) (ba bb bl : Nat) (hx : PtI x) (hy : PtI y) (hO : Own [(some ba, bc (vecCells s.1) 29), (some bb, bc (vecCells s.2.1) 29), (some bl, bc [.int .u64 (s.2.2 : Int)] 26)] w) :
    Calls Tryz.prog 141 #[(.agg (vecCells x).toArray), (.agg (vecCells y).toArray), .pointer (some ⟨bl, 0, none⟩), .pointer (some ⟨ba, 0, none⟩), .pointer (some ⟨bb, 0, none⟩)] w (fun ex w' => ∃ v, ex = .returned v ∧ (fun v w' => v = .tuple #[] ∧ Mem w (blks [(some ba, bc (vecCells s.1) 29), (some bb, bc (vecCells s.2.1) 29), (some bl, bc [.int .u64 (s.2.2 : Int)] 26)]) [(some ba, bc (vecCells (chStep s x y).1) 29), (some bb, bc (vecCells (chStep s x y).2.1) 29), (some bl, bc [.int .u64 ((chStep s x y).2.2 : Int)] 26)] w') v w') := by
  refine calls_of_W #[] 20 Tryz.func141 rfl Tryz.results141 Tryz.ntmps141 rfl ?_
  have M0 := hO.mem
  refine W_seq ?_
  refine W_region ?_
  refine wl_box (.agg (List.toArray _)) M0 rfl rfl rfl (fun b1 w1 M1 => ?_)
  refine wl_box (.agg (List.toArray _)) M1 rfl rfl rfl (fun b2 w2 M2 => ?_)
  refine wl_nil ?_
  refine thenN ?_
  refine W_seq ?_
  refine W_region ?_
  refine wl_q (r_ldW 3 agg29 M2 rfl rfl rfl) rfl rfl ?_
  refine wl_q (r_ldW 4 agg29 M2 rfl rfl rfl) rfl rfl ?_
  refine wl_cal cal112 rfl rfl rfl ?_
  refine (vec_Diff _ x y hx.i32 hy.i32).mono ?_
  rintro _ w3 ⟨v3, rfl, ⟨rfl, hb3⟩⟩
  refine ⟨_, rfl, ?_⟩
  have M3 := M2.callB hb3
  refine wl_q (r_ext (.int _ _) rfl rfl) rfl rfl ?_
  refine wl_q (r_ext (.int _ _) rfl rfl) rfl rfl ?_
  refine wl_cal cal63 rfl rfl rfl ?_
  refine (vec_LengthSq _ (y.1 - x.1) (y.2 - x.2) (hx.inX hy) (hx.inY hy)).mono ?_
  rintro _ w4 ⟨v4, rfl, ⟨rfl, hb4⟩⟩
  refine ⟨_, rfl, ?_⟩
  have M4 := M3.callB hb4
  refine wl_q (r_assign (.int _ _) rfl) rfl rfl ?_
  refine wl_nil ?_
  refine thenN ?_
  refine W_seq ?_
  refine W_region ?_
  refine wl_q (r_move (.int _ _) rfl) rfl rfl ?_
  refine wl_q (r_ld 2 (.int _ _) one26 M4 rfl rfl rfl) rfl rfl ?_
  refine wl_q (r_bin (.bool (decide _)) rfl rfl rfl) rfl rfl ?_
  refine wl_nil ?_
  refine thenN ?_
  refine W_condD rfl (fun h16 => ?_) (fun h16 => ?_)
  · skip
    refine W_draw [(0, 1), (1, 1), (2, 0), (3, 2), (4, 2), (5, 2)] mixed rfl (by kernel_rfl) (fun w5 hb5 hh5 => ?_)
    have M5 := M4.drew hb5 hh5
    refine D_r rfl rfl rfl (r_ldW 3 agg29 M5 rfl rfl rfl) ?_
    refine D_r rfl rfl rfl (r_ldW 4 agg29 M5 rfl rfl rfl) ?_
    refine D_p rfl rfl rfl (fun _ => r_move (.int _ _) rfl) ?_
    refine D_e [false, true] rfl (by kernel_rfl) ?_
    refine wl_stW 0 _ agg29 M5 rfl rfl rfl rfl rfl (ones_of rfl) rfl (fun w6 M6 => ?_)
    refine wl_nil (thenN ⟨(alC (Yl_of rfl (r_ldW 4 agg29 M6 rfl rfl rfl)) alN), ?_⟩)
    refine D_e [true] rfl (by kernel_rfl) ?_
    refine wl_stW 1 _ agg29 M6 rfl rfl rfl rfl rfl (ones_of rfl) rfl (fun w7 M7 => ?_)
    refine wl_nil (thenN ⟨alN, ?_⟩)
    refine D_e [] rfl (by kernel_rfl) ?_
    refine wl_st 2 (.int _ _) one26 M7 rfl rfl rfl rfl rfl rfl (fun w8 M8 => ?_)
    refine wl_nil (thenN ⟨alN, ?_⟩)
    refine D_nil ?_
    refine fin0n ?_
    exact ⟨rfl, by unfold chStep; first | (rw [if_pos (by omega)]; exact M8.keep [true, true, true, false, false]) | (rw [if_neg (by omega)]; exact M8.keep [true, true, true, false, false])⟩
  · skip
    refine W_skip ?_
    refine fin0n ?_
    exact ⟨rfl, by unfold chStep; first | (rw [if_pos (by omega)]; exact M4.keep [true, true, true, false, false]) | (rw [if_neg (by omega)]; exact M4.keep [true, true, true, false, false])⟩

set_option maxHeartbeats 8000000 in
theorem seg_choose (w : World) (ap aq bp bq : Pt) (h1 : SgI ap aq) (h2 : SgI bp bq) :
    Calls Tryz.prog 125 #[(.agg (vecCells ap).toArray), (.agg (vecCells aq).toArray), (.agg (vecCells bp).toArray), (.agg (vecCells bq).toArray)] w (fun ex w' => ∃ v, ex = .returned v ∧ (fun v w' => v = .tuple #[(.agg (vecCells (chosen ap aq bp bq).1).toArray), (.agg (vecCells (chosen ap aq bp bq).2.1).toArray), .int .u64 ((chosen ap aq bp bq).2.2 : Int)] ∧ Below w.heap.size w w') v w') := by
  refine calls_of_W #[.cell 8 29, .cell 9 29, .cell 10 26] 48 Tryz.func125 rfl Tryz.results125 Tryz.ntmps125 rfl ?_
  have M0 := Mem.refl w
  refine W_seq ?_
  refine W_region ?_
  refine wl_box (.agg (List.toArray _)) M0 rfl rfl rfl (fun b1 w1 M1 => ?_)
  refine wl_box (.agg (List.toArray _)) M1 rfl rfl rfl (fun b2 w2 M2 => ?_)
  refine wl_box (.agg (List.toArray _)) M2 rfl rfl rfl (fun b3 w3 M3 => ?_)
  refine wl_box (.agg (List.toArray _)) M3 rfl rfl rfl (fun b4 w4 M4 => ?_)
  refine wl_alloc zero29 M4 rfl rfl (fun b5 w5 M5 => ?_)
  refine wl_alloc zero29 M5 rfl rfl (fun b6 w6 M6 => ?_)
  refine wl_alloc zero26 M6 rfl rfl (fun b7 w7 M7 => ?_)
  refine wl_nil ?_
  refine thenN ?_
  refine W_seq ?_
  refine W_region ?_
  refine wl_st 6 (.int _ _) one26 M7 rfl rfl rfl rfl rfl rfl (fun w8 M8 => ?_)
  refine wl_nil ?_
  refine thenN ?_
  refine W_seq ?_
  refine W_region ?_
  obtain ⟨s, hS⟩ : ∃ z, z = ch0 := ⟨_, rfl⟩
  have hC : ChI s := by rw [hS]; exact ch0_in
  have M9 : Mem _ _ [_, _, _, _, (some b5, bc (vecCells ch0.1) 29), (some b6, bc (vecCells ch0.2.1) 29), (some b7, bc [.int .u64 (ch0.2.2 : Int)] 26)] _ := M8
  rw [← hS] at M9
  refine wl_q (r_makeFuncV [] [.pointer _, .pointer _, .pointer _] rfl rfl) rfl rfl ?_
  refine wl_q (r_assign (.func _ _ _) rfl) rfl rfl ?_
  refine wl_nil ?_
  refine thenN ?_
  refine W_seq ?_
  refine W_seq ?_
  refine W_region ?_
  refine wl_q (r_ldW 0 agg29 M9 rfl rfl rfl) rfl rfl ?_
  refine wl_q (r_ldW 1 agg29 M9 rfl rfl rfl) rfl rfl ?_
  refine wl_q (r_buildA [.agg (List.toArray _), .agg (List.toArray _)] arr213 zero213 rfl rfl (lens_of rfl)) rfl rfl ?_
  refine wl_q (r_move (.int _ _) rfl) rfl rfl ?_
  refine wl_nil ?_
  refine thenN ?_
  refine W_block ?_
  refine W_rounds 3 (Wr_s ?_)
  refine W_seq ?_
  refine W_region ?_
  refine wl_q (r_bin (.bool (decide _)) rfl rfl rfl) rfl rfl ?_
  refine wl_re 21 (.bool true) (bT (by first | decide | omega)).symm ?_
  refine wl_nil ?_
  refine thenN ?_
  refine W_seq ?_
  refine W_condT rfl ?_
  refine W_skip ?_
  refine thenN ?_
  refine W_seq ?_
  refine W_block ?_
  refine W_seq ?_
  refine W_region ?_
  refine wl_q (r_idxA 0 _ arr213 agg29 rfl rfl (by decide) (by decide) rfl rfl) rfl rfl ?_
  refine wl_alloc zero29 M9 rfl rfl (fun b10 w10 M10 => ?_)
  refine wl_stW 7 _ agg29 M10 rfl rfl rfl rfl rfl (ones_of rfl) rfl (fun w11 M11 => ?_)
  refine wl_nil ?_
  refine thenN ?_
  refine W_draw [(0, 0), (1, 1), (2, 1), (3, 1), (4, 1), (5, 2), (6, 2)] mixed rfl (by kernel_rfl) (fun w12 hb12 hh12 => ?_)
  have M12 := M11.drew hb12 hh12
  refine D_p rfl rfl rfl (fun _ => r_move (.func _ _ _) rfl) ?_
  refine D_r rfl rfl rfl (r_ldW 7 agg29 M12 rfl rfl rfl) ?_
  refine D_r rfl rfl rfl (r_ldW 2 agg29 M12 rfl rfl rfl) ?_
  refine D_r rfl rfl rfl (r_ldW 3 agg29 M12 rfl rfl rfl) ?_
  refine D_r rfl rfl rfl (r_ldW 7 agg29 M12 rfl rfl rfl) ?_
  refine D_e [true, true, true, false] rfl (by kernel_rfl) ?_
  refine wl_cal cal142 rfl rfl rfl ?_
  refine (point_Nearest _ bp bq ap h2 h1.hp).mono ?_
  rintro _ w13 ⟨v13, rfl, ⟨rfl, hb13⟩⟩
  refine ⟨_, rfl, ?_⟩
  have M13 := M12.callB hb13
  refine wl_nil (thenN ⟨(alC (Yl_of rfl (r_ldW 7 agg29 M13 rfl rfl rfl)) alN), ?_⟩)
  refine D_e [true] rfl (by kernel_rfl) ?_
  refine wl_cal cal141 rfl rfl rfl ?_
  refine (choose1 _ s ap (nearest bp bq ap) _ _ _ h1.hp (nearest_in h2) (M13.ownSeg 4 3)).mono ?_
  rintro _ w14 ⟨v14, rfl, ⟨rfl, hM14⟩⟩
  refine ⟨_, rfl, ?_⟩
  have M14 : Mem _ _ [_, _, _, _, _, _, _, _] _ := M13.seg 4 3 hM14
  obtain ⟨s, hs⟩ : ∃ z, z = chStep s ap (nearest bp bq ap) := ⟨_, rfl⟩
  rw [← hs] at M14
  replace hC := hC.step (x := ap) (y := (nearest bp bq ap)) h1.hp (nearest_in h2)
  rw [← hs] at hC
  replace hS := hs.trans (congrArg (fun z => chStep z ap (nearest bp bq ap)) hS)
  refine wl_nil (thenN ⟨alN, ?_⟩)
  refine D_nil ?_
  refine blkN ?_
  refine thenN ?_
  refine W_region ?_
  refine wl_q (r_add rfl rfl (by first | decide | omega) (by first | decide | omega)) rfl rfl ?_
  refine wl_re 30 (.int .i64 1) (iE (by first | decide | omega)) ?_
  refine wl_q (r_move (.int _ _) rfl) rfl rfl ?_
  refine wl_nil ?_
  refine thenN (Wr_s ?_)
  refine W_seq ?_
  refine W_region ?_
  refine wl_q (r_bin (.bool (decide _)) rfl rfl rfl) rfl rfl ?_
  refine wl_re 21 (.bool true) (bT (by first | decide | omega)).symm ?_
  refine wl_nil ?_
  refine thenN ?_
  refine W_seq ?_
  refine W_condT rfl ?_
  refine W_skip ?_
  refine thenN ?_
  refine W_seq ?_
  refine W_block ?_
  refine W_seq ?_
  refine W_region ?_
  refine wl_q (r_idxA 1 _ arr213 agg29 rfl rfl (by decide) (by decide) rfl rfl) rfl rfl ?_
  refine wl_alloc zero29 M14 rfl rfl (fun b15 w15 M15 => ?_)
  refine wl_stW 8 _ agg29 M15 rfl rfl rfl rfl rfl (ones_of rfl) rfl (fun w16 M16 => ?_)
  refine wl_nil ?_
  refine thenN ?_
  refine W_draw [(0, 0), (1, 1), (2, 1), (3, 1), (4, 1), (5, 2), (6, 2)] mixed rfl (by kernel_rfl) (fun w17 hb17 hh17 => ?_)
  have M17 := M16.drew hb17 hh17
  refine D_p rfl rfl rfl (fun _ => r_move (.func _ _ _) rfl) ?_
  refine D_r rfl rfl rfl (r_ldW 8 agg29 M17 rfl rfl rfl) ?_
  refine D_r rfl rfl rfl (r_ldW 2 agg29 M17 rfl rfl rfl) ?_
  refine D_r rfl rfl rfl (r_ldW 3 agg29 M17 rfl rfl rfl) ?_
  refine D_r rfl rfl rfl (r_ldW 8 agg29 M17 rfl rfl rfl) ?_
  refine D_e [true, true, true, false] rfl (by kernel_rfl) ?_
  refine wl_cal cal142 rfl rfl rfl ?_
  refine (point_Nearest _ bp bq aq h2 h1.hq).mono ?_
  rintro _ w18 ⟨v18, rfl, ⟨rfl, hb18⟩⟩
  refine ⟨_, rfl, ?_⟩
  have M18 := M17.callB hb18
  refine wl_nil (thenN ⟨(alC (Yl_of rfl (r_ldW 8 agg29 M18 rfl rfl rfl)) alN), ?_⟩)
  refine D_e [true] rfl (by kernel_rfl) ?_
  refine wl_cal cal141 rfl rfl rfl ?_
  refine (choose1 _ s aq (nearest bp bq aq) _ _ _ h1.hq (nearest_in h2) (M18.ownSeg 4 3)).mono ?_
  rintro _ w19 ⟨v19, rfl, ⟨rfl, hM19⟩⟩
  refine ⟨_, rfl, ?_⟩
  have M19 : Mem _ _ [_, _, _, _, _, _, _, _, _] _ := M18.seg 4 3 hM19
  obtain ⟨s, hs⟩ : ∃ z, z = chStep s aq (nearest bp bq aq) := ⟨_, rfl⟩
  rw [← hs] at M19
  replace hC := hC.step (x := aq) (y := (nearest bp bq aq)) h1.hq (nearest_in h2)
  rw [← hs] at hC
  replace hS := hs.trans (congrArg (fun z => chStep z aq (nearest bp bq aq)) hS)
  refine wl_nil (thenN ⟨alN, ?_⟩)
  refine D_nil ?_
  refine blkN ?_
  refine thenN ?_
  refine W_region ?_
  refine wl_q (r_add rfl rfl (by first | decide | omega) (by first | decide | omega)) rfl rfl ?_
  refine wl_re 30 (.int .i64 2) (iE (by first | decide | omega)) ?_
  refine wl_q (r_move (.int _ _) rfl) rfl rfl ?_
  refine wl_nil ?_
  refine thenN (Wr_s ?_)
  refine W_seq ?_
  refine W_region ?_
  refine wl_q (r_bin (.bool (decide _)) rfl rfl rfl) rfl rfl ?_
  refine wl_re 21 (.bool false) (bF (by first | decide | omega)).symm ?_
  refine wl_nil ?_
  refine thenN ?_
  refine W_seq ?_
  refine W_condF rfl ?_
  refine W_exit ?_
  refine thenX ?_
  refine thenX ?_
  refine blkH ?_
  refine thenN ?_
  refine W_seq ?_
  refine W_seq ?_
  refine W_region ?_
  refine wl_q (r_ldW 2 agg29 M19 rfl rfl rfl) rfl rfl ?_
  refine wl_q (r_ldW 3 agg29 M19 rfl rfl rfl) rfl rfl ?_
  refine wl_q (r_buildA [.agg (List.toArray _), .agg (List.toArray _)] arr213 zero213 rfl rfl (lens_of rfl)) rfl rfl ?_
  refine wl_q (r_move (.int _ _) rfl) rfl rfl ?_
  refine wl_nil ?_
  refine thenN ?_
  refine W_block ?_
  refine W_rounds 3 (Wr_s ?_)
  refine W_seq ?_
  refine W_region ?_
  refine wl_q (r_bin (.bool (decide _)) rfl rfl rfl) rfl rfl ?_
  refine wl_re 35 (.bool true) (bT (by first | decide | omega)).symm ?_
  refine wl_nil ?_
  refine thenN ?_
  refine W_seq ?_
  refine W_condT rfl ?_
  refine W_skip ?_
  refine thenN ?_
  refine W_seq ?_
  refine W_block ?_
  refine W_seq ?_
  refine W_region ?_
  refine wl_q (r_idxA 0 _ arr213 agg29 rfl rfl (by decide) (by decide) rfl rfl) rfl rfl ?_
  refine wl_alloc zero29 M19 rfl rfl (fun b20 w20 M20 => ?_)
  refine wl_stW 9 _ agg29 M20 rfl rfl rfl rfl rfl (ones_of rfl) rfl (fun w21 M21 => ?_)
  refine wl_nil ?_
  refine thenN ?_
  refine W_draw [(0, 0), (1, 1), (2, 1), (3, 1), (5, 1), (4, 2), (6, 2)] mixed rfl (by kernel_rfl) (fun w22 hb22 hh22 => ?_)
  have M22 := M21.drew hb22 hh22
  refine D_p rfl rfl rfl (fun _ => r_move (.func _ _ _) rfl) ?_
  refine D_r rfl rfl rfl (r_ldW 0 agg29 M22 rfl rfl rfl) ?_
  refine D_r rfl rfl rfl (r_ldW 1 agg29 M22 rfl rfl rfl) ?_
  refine D_r rfl rfl rfl (r_ldW 9 agg29 M22 rfl rfl rfl) ?_
  refine D_r rfl rfl rfl (r_ldW 9 agg29 M22 rfl rfl rfl) ?_
  refine D_e [false, true, true, true] rfl (by kernel_rfl) ?_
  refine wl_cal cal142 rfl rfl rfl ?_
  refine (point_Nearest _ ap aq bp h1 h2.hp).mono ?_
  rintro _ w23 ⟨v23, rfl, ⟨rfl, hb23⟩⟩
  refine ⟨_, rfl, ?_⟩
  have M23 := M22.callB hb23
  refine wl_nil (thenN ⟨(alC (Yl_of rfl (r_ldW 9 agg29 M23 rfl rfl rfl)) alN), ?_⟩)
  refine D_e [true] rfl (by kernel_rfl) ?_
  refine wl_cal cal141 rfl rfl rfl ?_
  refine (choose1 _ s (nearest ap aq bp) bp _ _ _ (nearest_in h1) h2.hp (M23.ownSeg 4 3)).mono ?_
  rintro _ w24 ⟨v24, rfl, ⟨rfl, hM24⟩⟩
  refine ⟨_, rfl, ?_⟩
  have M24 : Mem _ _ [_, _, _, _, _, _, _, _, _, _] _ := M23.seg 4 3 hM24
  obtain ⟨s, hs⟩ : ∃ z, z = chStep s (nearest ap aq bp) bp := ⟨_, rfl⟩
  rw [← hs] at M24
  replace hC := hC.step (x := (nearest ap aq bp)) (y := bp) (nearest_in h1) h2.hp
  rw [← hs] at hC
  replace hS := hs.trans (congrArg (fun z => chStep z (nearest ap aq bp) bp) hS)
  refine wl_nil (thenN ⟨alN, ?_⟩)
  refine D_nil ?_
  refine blkN ?_
  refine thenN ?_
  refine W_region ?_
  refine wl_q (r_add rfl rfl (by first | decide | omega) (by first | decide | omega)) rfl rfl ?_
  refine wl_re 44 (.int .i64 1) (iE (by first | decide | omega)) ?_
  refine wl_q (r_move (.int _ _) rfl) rfl rfl ?_
  refine wl_nil ?_
  refine thenN (Wr_s ?_)
  refine W_seq ?_
  refine W_region ?_
  refine wl_q (r_bin (.bool (decide _)) rfl rfl rfl) rfl rfl ?_
  refine wl_re 35 (.bool true) (bT (by first | decide | omega)).symm ?_
  refine wl_nil ?_
  refine thenN ?_
  refine W_seq ?_
  refine W_condT rfl ?_
  refine W_skip ?_
  refine thenN ?_
  refine W_seq ?_
  refine W_block ?_
  refine W_seq ?_
  refine W_region ?_
  refine wl_q (r_idxA 1 _ arr213 agg29 rfl rfl (by decide) (by decide) rfl rfl) rfl rfl ?_
  refine wl_alloc zero29 M24 rfl rfl (fun b25 w25 M25 => ?_)
  refine wl_stW 10 _ agg29 M25 rfl rfl rfl rfl rfl (ones_of rfl) rfl (fun w26 M26 => ?_)
  refine wl_nil ?_
  refine thenN ?_
  refine W_draw [(0, 0), (1, 1), (2, 1), (3, 1), (5, 1), (4, 2), (6, 2)] mixed rfl (by kernel_rfl) (fun w27 hb27 hh27 => ?_)
  have M27 := M26.drew hb27 hh27
  refine D_p rfl rfl rfl (fun _ => r_move (.func _ _ _) rfl) ?_
  refine D_r rfl rfl rfl (r_ldW 0 agg29 M27 rfl rfl rfl) ?_
  refine D_r rfl rfl rfl (r_ldW 1 agg29 M27 rfl rfl rfl) ?_
  refine D_r rfl rfl rfl (r_ldW 10 agg29 M27 rfl rfl rfl) ?_
  refine D_r rfl rfl rfl (r_ldW 10 agg29 M27 rfl rfl rfl) ?_
  refine D_e [false, true, true, true] rfl (by kernel_rfl) ?_
  refine wl_cal cal142 rfl rfl rfl ?_
  refine (point_Nearest _ ap aq bq h1 h2.hq).mono ?_
  rintro _ w28 ⟨v28, rfl, ⟨rfl, hb28⟩⟩
  refine ⟨_, rfl, ?_⟩
  have M28 := M27.callB hb28
  refine wl_nil (thenN ⟨(alC (Yl_of rfl (r_ldW 10 agg29 M28 rfl rfl rfl)) alN), ?_⟩)
  refine D_e [true] rfl (by kernel_rfl) ?_
  refine wl_cal cal141 rfl rfl rfl ?_
  refine (choose1 _ s (nearest ap aq bq) bq _ _ _ (nearest_in h1) h2.hq (M28.ownSeg 4 3)).mono ?_
  rintro _ w29 ⟨v29, rfl, ⟨rfl, hM29⟩⟩
  refine ⟨_, rfl, ?_⟩
  have M29 : Mem _ _ [_, _, _, _, _, _, _, _, _, _, _] _ := M28.seg 4 3 hM29
  obtain ⟨s, hs⟩ : ∃ z, z = chStep s (nearest ap aq bq) bq := ⟨_, rfl⟩
  rw [← hs] at M29
  replace hC := hC.step (x := (nearest ap aq bq)) (y := bq) (nearest_in h1) h2.hq
  rw [← hs] at hC
  replace hS := hs.trans (congrArg (fun z => chStep z (nearest ap aq bq) bq) hS)
  refine wl_nil (thenN ⟨alN, ?_⟩)
  refine D_nil ?_
  refine blkN ?_
  refine thenN ?_
  refine W_region ?_
  refine wl_q (r_add rfl rfl (by first | decide | omega) (by first | decide | omega)) rfl rfl ?_
  refine wl_re 44 (.int .i64 2) (iE (by first | decide | omega)) ?_
  refine wl_q (r_move (.int _ _) rfl) rfl rfl ?_
  refine wl_nil ?_
  refine thenN (Wr_s ?_)
  refine W_seq ?_
  refine W_region ?_
  refine wl_q (r_bin (.bool (decide _)) rfl rfl rfl) rfl rfl ?_
  refine wl_re 35 (.bool false) (bF (by first | decide | omega)).symm ?_
  refine wl_nil ?_
  refine thenN ?_
  refine W_seq ?_
  refine W_condF rfl ?_
  refine W_exit ?_
  refine thenX ?_
  refine thenX ?_
  refine blkH ?_
  refine thenN ?_
  refine W_seq ?_
  refine W_draw [(0, 1), (1, 1), (2, 1), (3, 2), (4, 2), (5, 2)] mixed rfl (by kernel_rfl) (fun w30 hb30 hh30 => ?_)
  have M30 := M29.drew hb30 hh30
  refine D_r rfl rfl rfl (r_ldW 4 agg29 M30 rfl rfl rfl) ?_
  refine D_r rfl rfl rfl (r_ldW 5 agg29 M30 rfl rfl rfl) ?_
  refine D_r rfl rfl rfl (r_ld 6 (.int _ _) one26 M30 rfl rfl rfl) ?_
  refine D_e [false, false, true] rfl (by kernel_rfl) ?_
  refine wl_stW 4 _ agg29 M30 rfl rfl rfl rfl rfl (ones_of rfl) rfl (fun w31 M31 => ?_)
  refine wl_nil (thenN ⟨(alC (Yl_of rfl (r_ld 6 (.int _ _) one26 M31 rfl rfl rfl)) (alC (Yl_of rfl (r_ldW 5 agg29 M31 rfl rfl rfl)) alN)), ?_⟩)
  refine D_e [false, true] rfl (by kernel_rfl) ?_
  refine wl_stW 5 _ agg29 M31 rfl rfl rfl rfl rfl (ones_of rfl) rfl (fun w32 M32 => ?_)
  refine wl_nil (thenN ⟨(alC (Yl_of rfl (r_ld 6 (.int _ _) one26 M32 rfl rfl rfl)) alN), ?_⟩)
  refine D_e [true] rfl (by kernel_rfl) ?_
  refine wl_st 6 (.int _ _) one26 M32 rfl rfl rfl rfl rfl rfl (fun w33 M33 => ?_)
  refine wl_nil (thenN ⟨alN, ?_⟩)
  refine D_nil ?_
  refine thenN ?_
  refine W_ret ?_
  skip
  refine finCC1 4 5 6 agg29 one26 M33 rfl rfl rfl rfl rfl rfl rfl rfl ?_
  exact ⟨by rw [show s = chosen ap aq bp bq from hS], M33.below⟩

set_option maxHeartbeats 4000000 in
theorem seg_Chosen (w : World) (ap aq bp bq : Pt) (h1 : SgI ap aq) (h2 : SgI bp bq) :
    Calls Tryz.prog 111 #[(.agg (vecCells ap).toArray), (.agg (vecCells aq).toArray), (.agg (vecCells bp).toArray), (.agg (vecCells bq).toArray)] w (fun ex w' => ∃ v, ex = .returned v ∧ (fun v w' => v = .tuple #[(.agg (vecCells (chosen ap aq bp bq).1).toArray), (.agg (vecCells (chosen ap aq bp bq).2.1).toArray)] ∧ Below w.heap.size w w') v w') := by
  refine calls_of_W #[.cell 8 29, .cell 9 29] 21 Tryz.func111 rfl Tryz.results111 Tryz.ntmps111 rfl ?_
  have M0 := Mem.refl w
  refine W_seq ?_
  refine W_region ?_
  refine wl_box (.agg (List.toArray _)) M0 rfl rfl rfl (fun b1 w1 M1 => ?_)
  refine wl_box (.agg (List.toArray _)) M1 rfl rfl rfl (fun b2 w2 M2 => ?_)
  refine wl_box (.agg (List.toArray _)) M2 rfl rfl rfl (fun b3 w3 M3 => ?_)
  refine wl_box (.agg (List.toArray _)) M3 rfl rfl rfl (fun b4 w4 M4 => ?_)
  refine wl_alloc zero29 M4 rfl rfl (fun b5 w5 M5 => ?_)
  refine wl_alloc zero29 M5 rfl rfl (fun b6 w6 M6 => ?_)
  refine wl_nil ?_
  refine thenN ?_
  refine W_seq ?_
  refine W_region ?_
  refine wl_q (r_ldW 0 agg29 M6 rfl rfl rfl) rfl rfl ?_
  refine wl_q (r_ldW 1 agg29 M6 rfl rfl rfl) rfl rfl ?_
  refine wl_q (r_ldW 2 agg29 M6 rfl rfl rfl) rfl rfl ?_
  refine wl_q (r_ldW 3 agg29 M6 rfl rfl rfl) rfl rfl ?_
  refine wl_cal cal125 rfl rfl rfl ?_
  refine (seg_choose _ ap aq bp bq h1 h2).mono ?_
  rintro _ w7 ⟨v7, rfl, ⟨rfl, hb7⟩⟩
  refine ⟨_, rfl, ?_⟩
  have M7 := M6.callB hb7
  refine wl_q (r_move (.tuple (List.toArray _)) rfl) rfl rfl ?_
  refine wl_q (r_ext (.agg (List.toArray _)) rfl rfl) rfl rfl ?_
  refine wl_q (r_ext (.agg (List.toArray _)) rfl rfl) rfl rfl ?_
  refine wl_q (r_ext (.int _ _) rfl rfl) rfl rfl ?_
  refine wl_stW 4 _ agg29 M7 rfl rfl rfl rfl rfl (ones_of rfl) rfl (fun w8 M8 => ?_)
  refine wl_stW 5 _ agg29 M8 rfl rfl rfl rfl rfl (ones_of rfl) rfl (fun w9 M9 => ?_)
  refine wl_nil ?_
  refine thenN ?_
  refine W_seq ?_
  refine W_draw [(0, 1), (1, 1), (2, 2), (3, 2)] mixed rfl (by kernel_rfl) (fun w10 hb10 hh10 => ?_)
  have M10 := M9.drew hb10 hh10
  refine D_r rfl rfl rfl (r_ldW 4 agg29 M10 rfl rfl rfl) ?_
  refine D_r rfl rfl rfl (r_ldW 5 agg29 M10 rfl rfl rfl) ?_
  refine D_e [false, true] rfl (by kernel_rfl) ?_
  refine wl_stW 4 _ agg29 M10 rfl rfl rfl rfl rfl (ones_of rfl) rfl (fun w11 M11 => ?_)
  refine wl_nil (thenN ⟨(alC (Yl_of rfl (r_ldW 5 agg29 M11 rfl rfl rfl)) alN), ?_⟩)
  refine D_e [true] rfl (by kernel_rfl) ?_
  refine wl_stW 5 _ agg29 M11 rfl rfl rfl rfl rfl (ones_of rfl) rfl (fun w12 M12 => ?_)
  refine wl_nil (thenN ⟨alN, ?_⟩)
  refine D_nil ?_
  refine thenN ?_
  refine W_ret ?_
  skip
  refine finCC 4 5 agg29 M12 rfl rfl rfl rfl rfl rfl ?_
  exact ⟨rfl, M12.below⟩

end Go.Proofs.YtmcddmhkjcgneaaGreatDoor
