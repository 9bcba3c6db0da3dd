/- Part of the proof of the laws of this seat: Z1, Z1b, Z1c, Z1d, W3, Z2, W4, Z3, Z4, W5, W6. No conditions. -/
import Derived.Test.YtmcddmhkjcgneaaGreatDoorK5
import Derived.Test.YtmcddmhkjcgneaaGreatDoorK12
import Derived.Test.YtmcddmhkjcgneaaGreatDoorK16
import Derived.Test.YtmcddmhkjcgneaaGreatDoorK11
import Derived.Test.YtmcddmhkjcgneaaGreatDoorK15
/- Walks of Go functions over the frame of this claim: what each computes, for every input of the stated types (Z1). -/
set_option linter.unusedVariables false
set_option linter.unusedSimpArgs false
set_option linter.unnecessarySimpa false
namespace Go.Proofs.YtmcddmhkjcgneaaGreatDoor
open Go.Bil
open Go.RowKit (Below)
open Go.Proofs

end Go.Proofs.YtmcddmhkjcgneaaGreatDoor

/- Walks of Go functions over the frame of this claim: what each computes, for every input of the stated types (Z1b). -/
set_option linter.unusedVariables false
set_option linter.unusedSimpArgs false
set_option linter.unnecessarySimpa false
namespace Go.Proofs.YtmcddmhkjcgneaaGreatDoor
open Go.Bil
open Go.RowKit (Below)
open Go.Proofs

end Go.Proofs.YtmcddmhkjcgneaaGreatDoor

/- Walks of Go functions over the frame of this claim: what each computes, for every input of the stated types (Z1c). -/
set_option linter.unusedVariables false
set_option linter.unusedSimpArgs false
set_option linter.unnecessarySimpa false
namespace Go.Proofs.YtmcddmhkjcgneaaGreatDoor
open Go.Bil
open Go.RowKit (Below)
open Go.Proofs

end Go.Proofs.YtmcddmhkjcgneaaGreatDoor

/- Walks of Go functions over the frame of this claim: what each computes, for every input of the stated types (Z1d). -/
set_option linter.unusedVariables false
set_option linter.unusedSimpArgs false
set_option linter.unnecessarySimpa false
namespace Go.Proofs.YtmcddmhkjcgneaaGreatDoor
open Go.Bil
open Go.RowKit (Below)
open Go.Proofs

end Go.Proofs.YtmcddmhkjcgneaaGreatDoor

/- Walks of Go functions over the frame of this claim: what each computes, for every input of the stated types (W3). -/
set_option linter.unusedVariables false
set_option linter.unusedSimpArgs false
set_option linter.unnecessarySimpa false
namespace Go.Proofs.YtmcddmhkjcgneaaGreatDoor
open Go.Bil
open Go.RowKit (Below)
open Go.Proofs

set_option maxHeartbeats 8000000 in
theorem isqrt (w : World) (n : Nat) (hn : n < 18446744073709551616) :
    Calls Tryz.prog 114 #[.int .u64 (n : Int)] w (fun ex w' => ∃ v, ex = .returned v ∧ (fun v w' => v = .int .u64 ((isq n : Nat) : Int) ∧ Below w.heap.size w w') v w') := by
  refine calls_of_W #[.tmp 2] 32 Tryz.func114 rfl Tryz.results114 Tryz.ntmps114 rfl ?_
  have M0 := Mem.refl w
  refine W_seq ?_
  refine W_region ?_
  refine wl_q (r_assign (.int _ _) rfl) rfl rfl ?_
  refine wl_nil ?_
  refine thenN ?_
  refine W_seq ?_
  refine W_region ?_
  refine wl_q (r_move (.int _ _) rfl) rfl rfl ?_
  refine wl_q (r_assign (.int _ _) rfl) rfl rfl ?_
  refine wl_q (r_assign (.int _ _) rfl) rfl rfl ?_
  refine wl_nil ?_
  refine thenN ?_
  refine W_seq ?_
  refine W_seq ?_
  refine W_region ?_
  refine wl_q (r_move (.int _ _) rfl) rfl rfl ?_
  refine wl_nil ?_
  refine thenN ?_
  refine W_block ?_
  refine W_loop (σ := Nat × Nat × Nat) [2] (fun (i, R, e) => [(8, .int .i64 (i : Int)), (3, .int .u64 ((n - R * R : Nat) : Int)), (4, .int .u64 ((R * e : Nat) : Int))]) (fun (i, R, e) w' => Iq n i R e ∧ Mem w [] [] w') (fun (i, R, e) => 32 - i) (0, 0, 4294967296) (agC rfl (agC (iv rfl (by simp)) (agC (iv rfl (by simp)) agN))) (⟨iq_init hn, M0⟩) ?_
  rintro ⟨i, R, e⟩ ρ1 w1 ⟨I, hM1⟩
  have hile := I.ile
  have hle := I.le
  refine W_seq ?_
  refine W_region ?_
  refine wl_q (r_bin (.bool (decide _)) rfl rfl rfl) rfl rfl ?_
  refine wl_nil ?_
  refine thenN ?_
  refine W_seq ?_
  refine W_condD rfl (fun h9 => ?_) (fun h9 => ?_)
  · skip
    obtain ⟨f, hf1, hf2, hf3, hf4, hf5, hf6, hf7, hf8, hfy, hfn⟩ := iq_step (by omega) I
    refine W_skip ?_
    refine thenN ?_
    refine W_seq ?_
    refine W_block ?_
    refine W_seq ?_
    refine W_region ?_
    refine wl_q (r_move (.int _ _) rfl) rfl rfl ?_
    refine wl_q (r_assign (.int _ _) rfl) rfl rfl ?_
    refine wl_nil ?_
    refine thenN ?_
    refine W_seq ?_
    refine W_region ?_
    refine wl_q (r_move (.int _ _) rfl) rfl rfl ?_
    refine wl_q (r_mul rfl rfl (by omega) (by omega)) rfl rfl ?_
    refine wl_q (r_shr rfl rfl (by omega)) rfl rfl ?_
    refine wl_re 13 (.int .u64 ((f * f : Nat) : Int)) (iE ((u_shr62 (2 * i) _ (by omega) (by omega)).trans (congrArg _ hf4))) ?_
    refine wl_q (r_assign (.int _ _) rfl) rfl rfl ?_
    refine wl_nil ?_
    refine thenN ?_
    refine W_seq ?_
    refine W_region ?_
    refine wl_q (r_move (.int _ _) rfl) rfl rfl ?_
    refine wl_q (r_move (.int _ _) rfl) rfl rfl ?_
    refine wl_q (r_move (.int _ _) rfl) rfl rfl ?_
    refine wl_q (r_bin (.int _ _) rfl rfl rfl) rfl rfl ?_
    refine wl_re 17 (.int .u64 ((R * e + f * f : Nat) : Int)) (iE (by rw [wrU]; omega)) ?_
    refine wl_q (r_bin (.bool (decide _)) rfl rfl rfl) rfl rfl ?_
    refine wl_nil ?_
    refine thenN ?_
    refine W_condD rfl (fun h18 => ?_) (fun h18 => ?_)
    · skip
      have h18' : R * e + f * f ≤ n - R * R := by omega
      refine W_seq ?_
      refine W_region ?_
      refine wl_q (r_move (.int _ _) rfl) rfl rfl ?_
      refine wl_q (r_move (.int _ _) rfl) rfl rfl ?_
      refine wl_q (r_move (.int _ _) rfl) rfl rfl ?_
      refine wl_q (r_bin (.int _ _) rfl rfl rfl) rfl rfl ?_
      refine wl_re 22 (.int .u64 ((R * e + f * f : Nat) : Int)) (iE (by rw [wrU]; omega)) ?_
      refine wl_q (r_bin (.int _ _) rfl rfl rfl) rfl rfl ?_
      refine wl_re 23 (.int .u64 ((n - (R + f) * (R + f) : Nat) : Int)) (iE (by rw [wrU]; omega)) ?_
      refine wl_q (r_assign (.int _ _) rfl) rfl rfl ?_
      refine wl_nil ?_
      refine thenN ?_
      refine W_region ?_
      refine wl_q (r_move (.int _ _) rfl) rfl rfl ?_
      refine wl_q (r_shr rfl rfl (by decide)) rfl rfl ?_
      refine wl_re 25 (.int .u64 ((R * f : Nat) : Int)) (iE ((u_shr1 (R * e)).trans (congrArg _ hf5))) ?_
      refine wl_q (r_move (.int _ _) rfl) rfl rfl ?_
      refine wl_q (r_bin (.int _ _) rfl rfl rfl) rfl rfl ?_
      refine wl_re 27 (.int .u64 (((R + f) * f : Nat) : Int)) (iE (by rw [wrU]; omega)) ?_
      refine wl_q (r_assign (.int _ _) rfl) rfl rfl ?_
      refine wl_nil ?_
      refine blkN ?_
      refine thenN ?_
      refine W_region ?_
      refine wl_q (r_add rfl rfl (by omega) (by omega)) rfl rfl ?_
      refine wl_q (r_move (.int _ _) rfl) rfl rfl ?_
      refine wl_nil ?_
      refine roundN (i + 1, R + f, f) (agC rfl (agC rfl (agC rfl agN))) (akC rfl akN) ?_ ?_
      · exact ⟨hfy h18', hM1⟩
      · (show 32 - (i + 1) < 32 - i; omega)
    · skip
      have h18' : ¬ (R * e + f * f ≤ n - R * R) := by omega
      refine W_region ?_
      refine wl_q (r_move (.int _ _) rfl) rfl rfl ?_
      refine wl_q (r_shr rfl rfl (by decide)) rfl rfl ?_
      refine wl_re 29 (.int .u64 ((R * f : Nat) : Int)) (iE ((u_shr1 (R * e)).trans (congrArg _ hf5))) ?_
      refine wl_q (r_assign (.int _ _) rfl) rfl rfl ?_
      refine wl_nil ?_
      refine blkN ?_
      refine thenN ?_
      refine W_region ?_
      refine wl_q (r_add rfl rfl (by omega) (by omega)) rfl rfl ?_
      refine wl_q (r_move (.int _ _) rfl) rfl rfl ?_
      refine wl_nil ?_
      refine roundN (i + 1, R, f) (agC rfl (agC rfl (agC rfl agN))) (akC rfl akN) ?_ ?_
      · exact ⟨hfn h18', hM1⟩
      · (show 32 - (i + 1) < 32 - i; omega)
  · skip
    obtain rfl : i = 32 := by omega
    refine W_exit ?_
    refine thenX ?_
    refine roundX ?_
    refine blkH ?_
    refine thenN ?_
    refine W_seq ?_
    refine W_region ?_
    refine wl_q (r_move (.int _ _) rfl) rfl rfl ?_
    refine wl_q (r_assign (.int _ _) rfl) rfl rfl ?_
    refine wl_nil ?_
    refine thenN ?_
    refine W_ret ?_
    skip
    refine fin1 (.int _ _) rfl ?_
    exact ⟨iE (by rw [iq_done I]), hM1.below⟩

set_option maxHeartbeats 4000000 in
theorem vec_Diff (w : World) (a b : Int × Int) (ha : I32 a) (hb : I32 b) :
    Calls Tryz.prog 112 #[(.agg (vecCells a).toArray), (.agg (vecCells b).toArray)] w (fun ex w' => ∃ v, ex = .returned v ∧ (fun v w' => v = .tuple #[.int .i64 (b.1 - a.1), .int .i64 (b.2 - a.2)] ∧ Below w.heap.size w w') v w') := by
  have hax := ha.x
  have hay := ha.y
  have hbx := hb.x
  have hby := hb.y
  refine calls_of_W #[.tmp 4, .tmp 5] 20 Tryz.func112 rfl Tryz.results112 Tryz.ntmps112 rfl ?_
  have M0 := Mem.refl w
  refine W_seq ?_
  refine W_region ?_
  refine wl_box (.agg (List.toArray _)) M0 rfl rfl rfl (fun b1 w1 M1 => ?_)
  refine wl_box (.agg (List.toArray _)) M1 rfl rfl rfl (fun b2 w2 M2 => ?_)
  refine wl_q (r_assign (.int _ _) rfl) rfl rfl ?_
  refine wl_q (r_assign (.int _ _) rfl) rfl rfl ?_
  refine wl_nil ?_
  refine thenN ?_
  refine W_seq ?_
  refine W_draw [(0, 0), (1, 1), (2, 0), (3, 0), (4, 1), (5, 0), (6, 0), (7, 0), (8, 1), (9, 0), (10, 0), (11, 1), (12, 0), (13, 0), (14, 0), (15, 0)] mixed rfl (by kernel_rfl) (fun w3 hb3 hh3 => ?_)
  have M3 := M2.drew hb3 hh3
  refine D_p rfl rfl rfl (fun _ => r_fieldAddr 0 fld29_0 rfl) ?_
  refine D_r rfl rfl rfl (r_ld 1 (.int _ _) one21 M3 rfl rfl rfl) ?_
  refine D_p rfl rfl rfl (fun _ => r_convK us21 Tryz.underlying2 rfl (w64 _ (by omega) (by omega))) ?_
  refine D_p rfl rfl rfl (fun _ => r_fieldAddr 0 fld29_0 rfl) ?_
  refine D_r rfl rfl rfl (r_ld 0 (.int _ _) one21 M3 rfl rfl rfl) ?_
  refine D_p rfl rfl rfl (fun _ => r_convK us21 Tryz.underlying2 rfl (w64 _ (by omega) (by omega))) ?_
  refine D_p rfl rfl rfl (fun _ => r_sub rfl rfl (by omega) (by omega)) ?_
  refine D_p rfl rfl rfl (fun _ => r_fieldAddr 1 fld29_1 rfl) ?_
  refine D_r rfl rfl rfl (r_ld 1 (.int _ _) one21 M3 rfl rfl rfl) ?_
  refine D_p rfl rfl rfl (fun _ => r_convK us21 Tryz.underlying2 rfl (w64 _ (by omega) (by omega))) ?_
  refine D_p rfl rfl rfl (fun _ => r_fieldAddr 1 fld29_1 rfl) ?_
  refine D_r rfl rfl rfl (r_ld 0 (.int _ _) one21 M3 rfl rfl rfl) ?_
  refine D_p rfl rfl rfl (fun _ => r_convK us21 Tryz.underlying2 rfl (w64 _ (by omega) (by omega))) ?_
  refine D_p rfl rfl rfl (fun _ => r_sub rfl rfl (by omega) (by omega)) ?_
  refine D_p rfl rfl rfl (fun _ => r_assign (.int _ _) rfl) ?_
  refine D_p rfl rfl rfl (fun _ => r_assign (.int _ _) rfl) ?_
  refine D_nil ?_
  refine thenN ?_
  refine W_ret ?_
  skip
  refine fin2 (.int _ _) (.int _ _) rfl rfl ?_
  exact ⟨rfl, M3.below⟩

set_option maxHeartbeats 4000000 in
theorem vec_square (w : World) (n : Int) (hn : InD n) :
    Calls Tryz.prog 79 #[.int .i64 n] w (fun ex w' => ∃ v, ex = .returned v ∧ (fun v w' => v = .int .u64 ((n.natAbs * n.natAbs : Nat) : Int) ∧ Below w.heap.size w w') v w') := by
  have hlt := (lsq_lt hn hn).2.1
  unfold InD at hn
  refine calls_of_W #[.tmp 2] 12 Tryz.func79 rfl Tryz.results79 Tryz.ntmps79 rfl ?_
  have M0 := Mem.refl w
  refine W_seq ?_
  refine W_region ?_
  refine wl_q (r_assign (.int _ _) rfl) rfl rfl ?_
  refine wl_nil ?_
  refine thenN ?_
  refine W_seq ?_
  refine W_seq ?_
  refine W_region ?_
  refine wl_q (r_move (.int _ _) rfl) rfl rfl ?_
  refine wl_q (r_bin (.bool (decide _)) rfl rfl rfl) rfl rfl ?_
  refine wl_nil ?_
  refine thenN ?_
  refine W_condD rfl (fun h4 => ?_) (fun h4 => ?_)
  · skip
    refine W_region ?_
    refine wl_q (r_move (.int _ _) rfl) rfl rfl ?_
    refine wl_q (r_neg rfl) rfl rfl ?_
    refine wl_re 6 (.int .i64 (-n)) (iE (w64 _ (by omega) (by omega))) ?_
    refine wl_q (r_assign (.int _ _) rfl) rfl rfl ?_
    refine wl_nil ?_
    refine thenN ?_
    refine W_seq ?_
    refine W_region ?_
    refine wl_q (r_move (.int _ _) rfl) rfl rfl ?_
    refine wl_q (r_conv us2 Tryz.underlying26 rfl) rfl rfl ?_
    refine wl_re 8 (.int .u64 ((n.natAbs : Nat) : Int)) (iE (by rw [wrU]; omega)) ?_
    refine wl_q (r_move (.int _ _) rfl) rfl rfl ?_
    refine wl_q (r_conv us2 Tryz.underlying26 rfl) rfl rfl ?_
    refine wl_re 10 (.int .u64 ((n.natAbs : Nat) : Int)) (iE (by rw [wrU]; omega)) ?_
    refine wl_q (r_bin (.int _ _) rfl rfl rfl) rfl rfl ?_
    refine wl_re 11 (.int .u64 ((n.natAbs * n.natAbs : Nat) : Int)) (iE (mulU _ _ (by omega))) ?_
    refine wl_q (r_assign (.int _ _) rfl) rfl rfl ?_
    refine wl_nil ?_
    refine thenN ?_
    refine W_ret ?_
    skip
    refine fin1 (.int _ _) rfl ?_
    exact ⟨rfl, M0.below⟩
  · skip
    refine W_skip ?_
    refine thenN ?_
    refine W_seq ?_
    refine W_region ?_
    refine wl_q (r_move (.int _ _) rfl) rfl rfl ?_
    refine wl_q (r_conv us2 Tryz.underlying26 rfl) rfl rfl ?_
    refine wl_re 8 (.int .u64 ((n.natAbs : Nat) : Int)) (iE (by rw [wrU]; omega)) ?_
    refine wl_q (r_move (.int _ _) rfl) rfl rfl ?_
    refine wl_q (r_conv us2 Tryz.underlying26 rfl) rfl rfl ?_
    refine wl_re 10 (.int .u64 ((n.natAbs : Nat) : Int)) (iE (by rw [wrU]; omega)) ?_
    refine wl_q (r_bin (.int _ _) rfl rfl rfl) rfl rfl ?_
    refine wl_re 11 (.int .u64 ((n.natAbs * n.natAbs : Nat) : Int)) (iE (mulU _ _ (by omega))) ?_
    refine wl_q (r_assign (.int _ _) rfl) rfl rfl ?_
    refine wl_nil ?_
    refine thenN ?_
    refine W_ret ?_
    skip
    refine fin1 (.int _ _) rfl ?_
    exact ⟨rfl, M0.below⟩

set_option maxHeartbeats 4000000 in
theorem vec_LengthSq (w : World) (dx dy : Int) (hx : InD dx) (hy : InD dy) :
    Calls Tryz.prog 63 #[.int .i64 dx, .int .i64 dy] w (fun ex w' => ∃ v, ex = .returned v ∧ (fun v w' => v = .int .u64 ((lsq dx dy : Nat) : Int) ∧ Below w.heap.size w w') v w') := by
  have hl := lsq_lt hx hy
  refine calls_of_W #[.tmp 4] 10 Tryz.func63 rfl Tryz.results63 Tryz.ntmps63 rfl ?_
  have M0 := Mem.refl w
  refine W_seq ?_
  refine W_region ?_
  refine wl_q (r_assign (.int _ _) rfl) rfl rfl ?_
  refine wl_nil ?_
  refine thenN ?_
  refine W_seq ?_
  refine W_region ?_
  refine wl_q (r_move (.int _ _) rfl) rfl rfl ?_
  refine wl_cal cal79 rfl rfl rfl ?_
  refine (vec_square _ dx hx).mono ?_
  rintro _ w1 ⟨v1, rfl, ⟨rfl, hb1⟩⟩
  refine ⟨_, rfl, ?_⟩
  have M1 := M0.callB hb1
  refine wl_q (r_move (.int _ _) rfl) rfl rfl ?_
  refine wl_cal cal79 rfl rfl rfl ?_
  refine (vec_square _ dy hy).mono ?_
  rintro _ w2 ⟨v2, rfl, ⟨rfl, hb2⟩⟩
  refine ⟨_, rfl, ?_⟩
  have M2 := M1.callB hb2
  refine wl_q (r_bin (.int _ _) rfl rfl rfl) rfl rfl ?_
  refine wl_re 9 (.int .u64 ((lsq dx dy : Nat) : Int)) (iE (by rw [wrU]; unfold lsq at *; omega)) ?_
  refine wl_q (r_assign (.int _ _) rfl) rfl rfl ?_
  refine wl_nil ?_
  refine thenN ?_
  refine W_ret ?_
  skip
  refine fin1 (.int _ _) rfl ?_
  exact ⟨rfl, M2.below⟩

set_option maxHeartbeats 4000000 in
theorem vec_Length (w : World) (dx dy : Int) (hx : InD dx) (hy : InD dy) :
    Calls Tryz.prog 100 #[.int .i64 dx, .int .i64 dy] w (fun ex w' => ∃ v, ex = .returned v ∧ (fun v w' => v = .int .i64 (len dx dy) ∧ Below w.heap.size w w') v w') := by
  have hl := len_lt hx hy
  refine calls_of_W #[.tmp 4] 10 Tryz.func100 rfl Tryz.results100 Tryz.ntmps100 rfl ?_
  have M0 := Mem.refl w
  refine W_seq ?_
  refine W_region ?_
  refine wl_q (r_assign (.int _ _) rfl) rfl rfl ?_
  refine wl_nil ?_
  refine thenN ?_
  refine W_seq ?_
  refine W_region ?_
  refine wl_q (r_move (.int _ _) rfl) rfl rfl ?_
  refine wl_q (r_move (.int _ _) rfl) rfl rfl ?_
  refine wl_cal cal63 rfl rfl rfl ?_
  refine (vec_LengthSq _ dx dy hx hy).mono ?_
  rintro _ w1 ⟨v1, rfl, ⟨rfl, hb1⟩⟩
  refine ⟨_, rfl, ?_⟩
  have M1 := M0.callB hb1
  refine wl_cal cal114 rfl rfl rfl ?_
  refine (isqrt _ (lsq dx dy) (lsq_lt hx hy).1).mono ?_
  rintro _ w2 ⟨v2, rfl, ⟨rfl, hb2⟩⟩
  refine ⟨_, rfl, ?_⟩
  have M2 := M1.callB hb2
  refine wl_q (r_conv us26 Tryz.underlying2 rfl) rfl rfl ?_
  refine wl_re 9 (.int .i64 (len dx dy)) (iE (w64 (len dx dy) (by omega) (by omega))) ?_
  refine wl_q (r_assign (.int _ _) rfl) rfl rfl ?_
  refine wl_nil ?_
  refine thenN ?_
  refine W_ret ?_
  skip
  refine fin1 (.int _ _) rfl ?_
  exact ⟨rfl, M2.below⟩

set_option maxHeartbeats 4000000 in
theorem vec_floor (w : World) (a b : Int) (hb : 0 < b) (h0 : -1000000000000000000 ≤ a) (h1 : a ≤ 1000000000000000000) :
    Calls Tryz.prog 113 #[.int .i64 a, .int .i64 b] w (fun ex w' => ∃ v, ex = .returned v ∧ (fun v w' => v = .int .i64 (a / b) ∧ Below w.heap.size w w') v w') := by
  have hf := floor_trunc (a := a) hb
  have hb1 := tdiv_small a b
  refine calls_of_W #[.tmp 4] 16 Tryz.func113 rfl Tryz.results113 Tryz.ntmps113 rfl ?_
  have M0 := Mem.refl w
  refine W_seq ?_
  refine W_region ?_
  refine wl_q (r_assign (.int _ _) rfl) rfl rfl ?_
  refine wl_nil ?_
  refine thenN ?_
  refine W_seq ?_
  refine W_region ?_
  refine wl_q (r_move (.int _ _) rfl) rfl rfl ?_
  refine wl_q (r_move (.int _ _) rfl) rfl rfl ?_
  refine wl_q (r_quo rfl rfl (by omega)) rfl rfl ?_
  refine wl_re 8 (.int .i64 (a.tdiv b)) (iE (w64 _ (by omega) (by omega))) ?_
  refine wl_q (r_assign (.int _ _) rfl) rfl rfl ?_
  refine wl_nil ?_
  refine thenN ?_
  refine W_seq ?_
  refine W_seq ?_
  refine W_region ?_
  refine wl_q (r_move (.int _ _) rfl) rfl rfl ?_
  refine wl_q (r_move (.int _ _) rfl) rfl rfl ?_
  refine wl_q (r_rem rfl rfl (by omega)) rfl rfl ?_
  refine wl_q (r_bin (.bool (decide _)) rfl rfl rfl) rfl rfl ?_
  refine wl_nil ?_
  refine thenN ?_
  refine W_condD rfl (fun h12 => ?_) (fun h12 => ?_)
  · skip
    refine W_region ?_
    refine wl_q (r_move (.int _ _) rfl) rfl rfl ?_
    refine wl_q (r_sub rfl rfl (by omega) (by omega)) rfl rfl ?_
    refine wl_q (r_assign (.int _ _) rfl) rfl rfl ?_
    refine wl_nil ?_
    refine thenN ?_
    refine W_seq ?_
    refine W_region ?_
    refine wl_q (r_move (.int _ _) rfl) rfl rfl ?_
    refine wl_q (r_assign (.int _ _) rfl) rfl rfl ?_
    refine wl_nil ?_
    refine thenN ?_
    refine W_ret ?_
    skip
    refine fin1 (.int _ _) rfl ?_
    exact ⟨iE (by first | exact hf.1 (by omega) | exact hf.2 (by omega)), M0.below⟩
  · skip
    refine W_skip ?_
    refine thenN ?_
    refine W_seq ?_
    refine W_region ?_
    refine wl_q (r_move (.int _ _) rfl) rfl rfl ?_
    refine wl_q (r_assign (.int _ _) rfl) rfl rfl ?_
    refine wl_nil ?_
    refine thenN ?_
    refine W_ret ?_
    skip
    refine fin1 (.int _ _) rfl ?_
    exact ⟨iE (by first | exact hf.1 (by omega) | exact hf.2 (by omega)), M0.below⟩

set_option maxHeartbeats 4000000 in
theorem vec_Unit (w : World) (dx dy : Int) (hx : InD dx) (hy : InD dy) :
    Calls Tryz.prog 99 #[.int .i64 dx, .int .i64 dy] w (fun ex w' => ∃ v, ex = .returned v ∧ (fun v w' => v = (.agg (vecCells (unitV dx dy)).toArray) ∧ Below w.heap.size w w') v w') := by
  have hl := len_lt hx hy
  have hxx := hx
  have hyy := hy
  unfold InD at hxx hyy
  refine calls_of_W #[.cell 4 29] 23 Tryz.func99 rfl Tryz.results99 Tryz.ntmps99 rfl ?_
  have M0 := Mem.refl w
  refine W_seq ?_
  refine W_region ?_
  refine wl_alloc zero29 M0 rfl rfl (fun b1 w1 M1 => ?_)
  refine wl_nil ?_
  refine thenN ?_
  refine W_seq ?_
  refine W_region ?_
  refine wl_q (r_move (.int _ _) rfl) rfl rfl ?_
  refine wl_q (r_move (.int _ _) rfl) rfl rfl ?_
  refine wl_cal cal100 rfl rfl rfl ?_
  refine (vec_Length _ dx dy hx hy).mono ?_
  rintro _ w2 ⟨v2, rfl, ⟨rfl, hb2⟩⟩
  refine ⟨_, rfl, ?_⟩
  have M2 := M1.callB hb2
  refine wl_q (r_assign (.int _ _) rfl) rfl rfl ?_
  refine wl_nil ?_
  refine thenN ?_
  refine W_seq ?_
  refine W_seq ?_
  refine W_region ?_
  refine wl_q (r_move (.int _ _) rfl) rfl rfl ?_
  refine wl_q (r_bin (.bool (decide _)) rfl rfl rfl) rfl rfl ?_
  refine wl_nil ?_
  refine thenN ?_
  refine W_condD rfl (fun h10 => ?_) (fun h10 => ?_)
  · skip
    refine W_seq ?_
    refine W_region ?_
    refine wl_q (r_build [(0, .int _ _)] _ struct29 rfl rfl) rfl rfl ?_
    refine wl_stW 0 _ agg29 M2 rfl rfl rfl rfl rfl (ones_of rfl) rfl (fun w3 M3 => ?_)
    refine wl_nil ?_
    refine thenN ?_
    refine W_ret ?_
    refine thenR ?_
    skip
    refine finC1 0 agg29 M3 rfl rfl rfl ?_
    exact ⟨by unfold unitV; first | (rw [if_pos (by omega)]; rfl) | (rw [if_neg (by omega)]; rfl), M3.below⟩
  · skip
    refine W_skip ?_
    refine thenN ?_
    refine W_seq ?_
    refine W_region ?_
    refine wl_q (r_move (.int _ _) rfl) rfl rfl ?_
    refine wl_q (r_shl rfl rfl (by decide)) rfl rfl ?_
    refine wl_re 13 (.int .i64 (dx * 65536)) (iE (i64_shl16 dx hx)) ?_
    refine wl_q (r_move (.int _ _) rfl) rfl rfl ?_
    refine wl_cal cal113 rfl rfl rfl ?_
    refine (vec_floor _ (dx * 65536) (len dx dy) (by omega) (by omega) (by omega)).mono ?_
    rintro _ w4 ⟨v4, rfl, ⟨rfl, hb4⟩⟩
    refine ⟨_, rfl, ?_⟩
    have M4 := M2.callB hb4
    refine wl_q (r_conv us2 Tryz.underlying21 rfl) rfl rfl ?_
    refine wl_q (r_move (.int _ _) rfl) rfl rfl ?_
    refine wl_q (r_shl rfl rfl (by decide)) rfl rfl ?_
    refine wl_re 18 (.int .i64 (dy * 65536)) (iE (i64_shl16 dy hy)) ?_
    refine wl_q (r_move (.int _ _) rfl) rfl rfl ?_
    refine wl_cal cal113 rfl rfl rfl ?_
    refine (vec_floor _ (dy * 65536) (len dx dy) (by omega) (by omega) (by omega)).mono ?_
    rintro _ w5 ⟨v5, rfl, ⟨rfl, hb5⟩⟩
    refine ⟨_, rfl, ?_⟩
    have M5 := M4.callB hb5
    refine wl_q (r_conv us2 Tryz.underlying21 rfl) rfl rfl ?_
    refine wl_q (r_build [(0, .int _ _), (1, .int _ _)] _ struct29 rfl rfl) rfl rfl ?_
    refine wl_stW 0 _ agg29 M5 rfl rfl rfl rfl rfl (ones_of rfl) rfl (fun w6 M6 => ?_)
    refine wl_nil ?_
    refine thenN ?_
    refine W_ret ?_
    skip
    refine finC1 0 agg29 M6 rfl rfl rfl ?_
    exact ⟨by unfold unitV; first | (rw [if_pos (by omega)]; rfl) | (rw [if_neg (by omega)]; rfl), M6.below⟩

end Go.Proofs.YtmcddmhkjcgneaaGreatDoor

/- Walks of Go functions over the frame of this claim: what each computes, for every input of the stated types (Z2). -/
set_option linter.unusedVariables false
set_option linter.unusedSimpArgs false
set_option linter.unnecessarySimpa false
namespace Go.Proofs.YtmcddmhkjcgneaaGreatDoor
open Go.Bil
open Go.RowKit (Below)
open Go.Proofs

end Go.Proofs.YtmcddmhkjcgneaaGreatDoor

/- Walks of Go functions over the frame of this claim: what each computes, for every input of the stated types (W4). -/
set_option linter.unusedVariables false
set_option linter.unusedSimpArgs false
set_option linter.unnecessarySimpa false
namespace Go.Proofs.YtmcddmhkjcgneaaGreatDoor
open Go.Bil
open Go.RowKit (Below)
open Go.Proofs

set_option maxHeartbeats 4000000 in
theorem body_Ends (w : World) (b : Body) (hb : Okb b) :
    Calls Tryz.prog 124 #[(.agg (bodyCells b).toArray)] w (fun ex w' => ∃ v, ex = .returned v ∧ (fun v w' => v = .tuple #[(.agg (vecCells (endP b)).toArray), (.agg (vecCells (endQ b)).toArray)] ∧ Below w.heap.size w w') v w') := by
  have ha := hb.a
  have hp := hb.p
  refine calls_of_W #[.cell 2 29, .cell 3 29] 36 Tryz.func124 rfl Tryz.results124 Tryz.ntmps124 rfl ?_
  have M0 := Mem.refl w
  refine W_seq ?_
  refine W_region ?_
  refine wl_box (.agg (List.toArray _)) M0 rfl rfl rfl (fun b1 w1 M1 => ?_)
  refine wl_alloc zero29 M1 rfl rfl (fun b2 w2 M2 => ?_)
  refine wl_alloc zero29 M2 rfl rfl (fun b3 w3 M3 => ?_)
  refine wl_nil ?_
  refine thenN ?_
  refine W_seq ?_
  refine W_region ?_
  refine wl_q (r_fieldAddr 6 fld32_5 rfl) rfl rfl ?_
  refine wl_q (r_fieldAddr 0 fld29_0 rfl) rfl rfl ?_
  refine wl_q (r_ld 0 (.int _ _) one21 M3 rfl rfl rfl) rfl rfl ?_
  refine wl_q (r_fieldAddr 2 fld32_2 rfl) rfl rfl ?_
  refine wl_q (r_fieldAddr 0 fld29_0 rfl) rfl rfl ?_
  refine wl_q (r_ld 0 (.int _ _) one21 M3 rfl rfl rfl) rfl rfl ?_
  refine wl_q (r_subK rfl rfl (wr32 _ (by omega) (by omega))) rfl rfl ?_
  refine wl_q (r_fieldAddr 6 fld32_5 rfl) rfl rfl ?_
  refine wl_q (r_fieldAddr 1 fld29_1 rfl) rfl rfl ?_
  refine wl_q (r_ld 0 (.int _ _) one21 M3 rfl rfl rfl) rfl rfl ?_
  refine wl_q (r_fieldAddr 2 fld32_2 rfl) rfl rfl ?_
  refine wl_q (r_fieldAddr 1 fld29_1 rfl) rfl rfl ?_
  refine wl_q (r_ld 0 (.int _ _) one21 M3 rfl rfl rfl) rfl rfl ?_
  refine wl_q (r_subK rfl rfl (wr32 _ (by omega) (by omega))) rfl rfl ?_
  refine wl_q (r_build [(0, .int _ _), (1, .int _ _)] _ struct29 rfl rfl) rfl rfl ?_
  refine wl_stW 1 _ agg29 M3 rfl rfl rfl rfl rfl (ones_of rfl) rfl (fun w4 M4 => ?_)
  refine wl_nil ?_
  refine thenN ?_
  refine W_seq ?_
  refine W_region ?_
  refine wl_q (r_fieldAddr 6 fld32_5 rfl) rfl rfl ?_
  refine wl_q (r_fieldAddr 0 fld29_0 rfl) rfl rfl ?_
  refine wl_q (r_ld 0 (.int _ _) one21 M4 rfl rfl rfl) rfl rfl ?_
  refine wl_q (r_fieldAddr 2 fld32_2 rfl) rfl rfl ?_
  refine wl_q (r_fieldAddr 0 fld29_0 rfl) rfl rfl ?_
  refine wl_q (r_ld 0 (.int _ _) one21 M4 rfl rfl rfl) rfl rfl ?_
  refine wl_q (r_addK rfl rfl (wr32 _ (by omega) (by omega))) rfl rfl ?_
  refine wl_q (r_fieldAddr 6 fld32_5 rfl) rfl rfl ?_
  refine wl_q (r_fieldAddr 1 fld29_1 rfl) rfl rfl ?_
  refine wl_q (r_ld 0 (.int _ _) one21 M4 rfl rfl rfl) rfl rfl ?_
  refine wl_q (r_fieldAddr 2 fld32_2 rfl) rfl rfl ?_
  refine wl_q (r_fieldAddr 1 fld29_1 rfl) rfl rfl ?_
  refine wl_q (r_ld 0 (.int _ _) one21 M4 rfl rfl rfl) rfl rfl ?_
  refine wl_q (r_addK rfl rfl (wr32 _ (by omega) (by omega))) rfl rfl ?_
  refine wl_q (r_build [(0, .int _ _), (1, .int _ _)] _ struct29 rfl rfl) rfl rfl ?_
  refine wl_stW 2 _ agg29 M4 rfl rfl rfl rfl rfl (ones_of rfl) rfl (fun w5 M5 => ?_)
  refine wl_nil ?_
  refine thenN ?_
  refine W_seq ?_
  refine W_draw [(0, 1), (1, 1), (2, 2), (3, 2)] mixed rfl (by kernel_rfl) (fun w6 hb6 hh6 => ?_)
  have M6 := M5.drew hb6 hh6
  refine D_r rfl rfl rfl (r_ldW 1 agg29 M6 rfl rfl rfl) ?_
  refine D_r rfl rfl rfl (r_ldW 2 agg29 M6 rfl rfl rfl) ?_
  refine D_e [false, true] rfl (by kernel_rfl) ?_
  refine wl_stW 1 _ agg29 M6 rfl rfl rfl rfl rfl (ones_of rfl) rfl (fun w7 M7 => ?_)
  refine wl_nil (thenN ⟨(alC (Yl_of rfl (r_ldW 2 agg29 M7 rfl rfl rfl)) alN), ?_⟩)
  refine D_e [true] rfl (by kernel_rfl) ?_
  refine wl_stW 2 _ agg29 M7 rfl rfl rfl rfl rfl (ones_of rfl) rfl (fun w8 M8 => ?_)
  refine wl_nil (thenN ⟨alN, ?_⟩)
  refine D_nil ?_
  refine thenN ?_
  refine W_ret ?_
  skip
  refine finCC 1 2 agg29 M8 rfl rfl rfl rfl rfl rfl ?_
  exact ⟨rfl, M8.below⟩

set_option maxHeartbeats 4000000 in
theorem point_Param (w : World) (p q c : Pt) (h : SgI p q) (hc : PtI c) :
    Calls Tryz.prog 150 #[(.agg (vecCells p).toArray), (.agg (vecCells q).toArray), (.agg (vecCells c).toArray)] w (fun ex w' => ∃ v, ex = .returned v ∧ (fun v w' => v = .tuple #[.int .i64 (parN p q c), .int .i64 (parD p q)] ∧ Below w.heap.size w w') v w') := by
  have hD := parD_rng h
  have hx := cross_rng h hc
  refine calls_of_W #[.tmp 6, .tmp 7] 42 Tryz.func150 rfl Tryz.results150 Tryz.ntmps150 rfl ?_
  have M0 := Mem.refl w
  refine W_seq ?_
  refine W_region ?_
  refine wl_box (.agg (List.toArray _)) M0 rfl rfl rfl (fun b1 w1 M1 => ?_)
  refine wl_box (.agg (List.toArray _)) M1 rfl rfl rfl (fun b2 w2 M2 => ?_)
  refine wl_box (.agg (List.toArray _)) M2 rfl rfl rfl (fun b3 w3 M3 => ?_)
  refine wl_q (r_assign (.int _ _) rfl) rfl rfl ?_
  refine wl_q (r_assign (.int _ _) rfl) rfl rfl ?_
  refine wl_nil ?_
  refine thenN ?_
  refine W_seq ?_
  refine W_region ?_
  refine wl_q (r_ldW 0 agg29 M3 rfl rfl rfl) rfl rfl ?_
  refine wl_q (r_ldW 1 agg29 M3 rfl rfl rfl) rfl rfl ?_
  refine wl_cal cal112 rfl rfl rfl ?_
  refine (vec_Diff _ p q h.hp.i32 h.hq.i32).mono ?_
  rintro _ w4 ⟨v4, rfl, ⟨rfl, hb4⟩⟩
  refine ⟨_, rfl, ?_⟩
  have M4 := M3.callB hb4
  refine wl_q (r_move (.tuple (List.toArray _)) rfl) rfl rfl ?_
  refine wl_q (r_ext (.int _ _) rfl rfl) rfl rfl ?_
  refine wl_q (r_ext (.int _ _) rfl rfl) rfl rfl ?_
  refine wl_q (r_assign (.int _ _) rfl) rfl rfl ?_
  refine wl_q (r_assign (.int _ _) rfl) rfl rfl ?_
  refine wl_nil ?_
  refine thenN ?_
  refine W_seq ?_
  refine W_region ?_
  refine wl_q (r_ldW 0 agg29 M4 rfl rfl rfl) rfl rfl ?_
  refine wl_q (r_ldW 2 agg29 M4 rfl rfl rfl) rfl rfl ?_
  refine wl_cal cal112 rfl rfl rfl ?_
  refine (vec_Diff _ p c h.hp.i32 hc.i32).mono ?_
  rintro _ w5 ⟨v5, rfl, ⟨rfl, hb5⟩⟩
  refine ⟨_, rfl, ?_⟩
  have M5 := M4.callB hb5
  refine wl_q (r_move (.tuple (List.toArray _)) rfl) rfl rfl ?_
  refine wl_q (r_ext (.int _ _) rfl rfl) rfl rfl ?_
  refine wl_q (r_ext (.int _ _) rfl rfl) rfl rfl ?_
  refine wl_q (r_assign (.int _ _) rfl) rfl rfl ?_
  refine wl_q (r_assign (.int _ _) rfl) rfl rfl ?_
  refine wl_nil ?_
  refine thenN ?_
  refine W_seq ?_
  refine W_region ?_
  refine wl_q (r_move (.int _ _) rfl) rfl rfl ?_
  refine wl_q (r_move (.int _ _) rfl) rfl rfl ?_
  refine wl_q (r_mul rfl rfl (by omega) (by omega)) rfl rfl ?_
  refine wl_q (r_move (.int _ _) rfl) rfl rfl ?_
  refine wl_q (r_move (.int _ _) rfl) rfl rfl ?_
  refine wl_q (r_mul rfl rfl (by omega) (by omega)) rfl rfl ?_
  refine wl_q (r_add rfl rfl (by omega) (by omega)) rfl rfl ?_
  refine wl_re 30 (.int .i64 (parD p q)) rfl ?_
  refine wl_q (r_assign (.int _ _) rfl) rfl rfl ?_
  refine wl_nil ?_
  refine thenN ?_
  refine W_seq ?_
  refine W_region ?_
  refine wl_q (r_move (.int _ _) rfl) rfl rfl ?_
  refine wl_q (r_move (.int _ _) rfl) rfl rfl ?_
  refine wl_q (r_mul rfl rfl (by omega) (by omega)) rfl rfl ?_
  refine wl_q (r_move (.int _ _) rfl) rfl rfl ?_
  refine wl_q (r_move (.int _ _) rfl) rfl rfl ?_
  refine wl_q (r_mul rfl rfl (by omega) (by omega)) rfl rfl ?_
  refine wl_q (r_add rfl rfl (by omega) (by omega)) rfl rfl ?_
  refine wl_q (r_move (.int _ _) rfl) rfl rfl ?_
  refine wl_q (r_min2 rfl rfl ) rfl rfl ?_
  refine wl_q (r_max2 rfl rfl ) rfl rfl ?_
  refine wl_q (r_move (.int _ _) rfl) rfl rfl ?_
  refine wl_q (r_assign (.int _ _) rfl) rfl rfl ?_
  refine wl_q (r_assign (.int _ _) rfl) rfl rfl ?_
  refine wl_nil ?_
  refine thenN ?_
  refine W_ret ?_
  skip
  refine fin2 (.int _ _) (.int _ _) rfl rfl ?_
  exact ⟨rfl, M5.below⟩

set_option maxHeartbeats 4000000 in
theorem near_part (w : World) (f a n d : Int) (bn bd : Nat) (ha : -16777216 ≤ a ∧ a ≤ 16777216) (hn : 0 ≤ n) (hnd : n ≤ d) (hd0 : 0 < d) (hd : d ≤ 562949953421312) (h1 : -16777216 ≤ a * n / d ∧ a * n / d ≤ 16777216) (h2 : -1082130432 ≤ f + a * n / d ∧ f + a * n / d ≤ 1082130432) (K1 : Rd w 1 (some ⟨bn, 0, none⟩) 1 [[.int .i64 n]]) (K2 : Rd w 1 (some ⟨bd, 0, none⟩) 1 [[.int .i64 d]]) :
    Calls Tryz.prog 151 #[.int .i32 f, .int .i64 a, .pointer (some ⟨bn, 0, none⟩), .pointer (some ⟨bd, 0, none⟩)] w (fun ex w' => ∃ v, ex = .returned v ∧ (fun v w' => v = .int .i32 (f + a * n / d) ∧ Below w.heap.size w w') v w') := by
  rw [← elt_zero bn, ← elt_zero bd]
  refine calls_of_W #[.tmp 6] 20 Tryz.func151 rfl Tryz.results151 Tryz.ntmps151 rfl ?_
  have M0 := Mem.refl w
  refine W_seq ?_
  refine W_region ?_
  refine wl_q (r_assign (.int _ _) rfl) rfl rfl ?_
  refine wl_nil ?_
  refine thenN ?_
  refine W_seq ?_
  refine W_region ?_
  refine wl_q (r_move (.int _ _) rfl) rfl rfl ?_
  refine wl_q (r_ldE (o := 0) (.int _ _) one2 (K1.mem M0) (show ([[.int .i64 n]] : List (List Value))[0]? = some [.int .i64 n] from rfl) rfl rfl) rfl rfl ?_
  refine wl_q (r_ldE (o := 0) (.int _ _) one2 (K2.mem M0) (show ([[.int .i64 d]] : List (List Value))[0]? = some [.int .i64 d] from rfl) rfl rfl) rfl rfl ?_
  refine wl_cal cal152 rfl rfl rfl ?_
  refine (mulDiv _ a n d (by omega) hn hnd hd0 (by omega)).mono ?_
  rintro _ w1 ⟨v1, rfl, ⟨rfl, hb1⟩⟩
  refine ⟨_, rfl, ?_⟩
  have M1 := M0.callB hb1
  refine wl_q (r_move (.tuple (List.toArray _)) rfl) rfl rfl ?_
  refine wl_q (r_ext (.int _ _) rfl rfl) rfl rfl ?_
  refine wl_q (r_ext (.int _ _) rfl rfl) rfl rfl ?_
  refine wl_q (r_assign (.int _ _) rfl) rfl rfl ?_
  refine wl_q (r_assign (.int _ _) rfl) rfl rfl ?_
  refine wl_nil ?_
  refine thenN ?_
  refine W_seq ?_
  refine W_region ?_
  refine wl_q (r_move (.int _ _) rfl) rfl rfl ?_
  refine wl_q (r_move (.int _ _) rfl) rfl rfl ?_
  refine wl_q (r_convK us2 Tryz.underlying21 rfl (wr32 _ (by omega) (by omega))) rfl rfl ?_
  refine wl_q (r_addK rfl rfl (wr32 _ (by omega) (by omega))) rfl rfl ?_
  refine wl_q (r_assign (.int _ _) rfl) rfl rfl ?_
  refine wl_nil ?_
  refine thenN ?_
  refine W_ret ?_
  skip
  refine fin1 (.int _ _) rfl ?_
  exact ⟨rfl, M1.below⟩

set_option maxHeartbeats 4000000 in
theorem point_Nearest (w : World) (p q c : Pt) (h : SgI p q) (hc : PtI c) :
    Calls Tryz.prog 142 #[(.agg (vecCells p).toArray), (.agg (vecCells q).toArray), (.agg (vecCells c).toArray)] w (fun ex w' => ∃ v, ex = .returned v ∧ (fun v w' => v = (.agg (vecCells (nearest p q c)).toArray) ∧ Below w.heap.size w w') v w') := by
  have hD := parD_rng h
  have hn := parN_rng (c := c) h
  have hx := h.x
  have hy := h.y
  refine calls_of_W #[.cell 6 29] 40 Tryz.func142 rfl Tryz.results142 Tryz.ntmps142 rfl ?_
  have M0 := Mem.refl w
  refine W_seq ?_
  refine W_region ?_
  refine wl_box (.agg (List.toArray _)) M0 rfl rfl rfl (fun b1 w1 M1 => ?_)
  refine wl_box (.agg (List.toArray _)) M1 rfl rfl rfl (fun b2 w2 M2 => ?_)
  refine wl_box (.agg (List.toArray _)) M2 rfl rfl rfl (fun b3 w3 M3 => ?_)
  refine wl_alloc zero29 M3 rfl rfl (fun b4 w4 M4 => ?_)
  refine wl_nil ?_
  refine thenN ?_
  refine W_seq ?_
  refine W_region ?_
  refine wl_q (r_ldW 0 agg29 M4 rfl rfl rfl) rfl rfl ?_
  refine wl_q (r_ldW 1 agg29 M4 rfl rfl rfl) rfl rfl ?_
  refine wl_q (r_ldW 2 agg29 M4 rfl rfl rfl) rfl rfl ?_
  refine wl_cal cal150 rfl rfl rfl ?_
  refine (point_Param _ p q c h hc).mono ?_
  rintro _ w5 ⟨v5, rfl, ⟨rfl, hb5⟩⟩
  refine ⟨_, rfl, ?_⟩
  have M5 := M4.callB hb5
  refine wl_q (r_move (.tuple (List.toArray _)) rfl) rfl rfl ?_
  refine wl_q (r_ext (.int _ _) rfl rfl) rfl rfl ?_
  refine wl_q (r_ext (.int _ _) rfl rfl) rfl rfl ?_
  refine wl_alloc zero2 M5 rfl rfl (fun b6 w6 M6 => ?_)
  refine wl_alloc zero2 M6 rfl rfl (fun b7 w7 M7 => ?_)
  refine wl_st 4 (.int _ _) one2 M7 rfl rfl rfl rfl rfl rfl (fun w8 M8 => ?_)
  refine wl_st 5 (.int _ _) one2 M8 rfl rfl rfl rfl rfl rfl (fun w9 M9 => ?_)
  refine wl_nil ?_
  refine thenN ?_
  refine W_seq ?_
  refine W_seq ?_
  refine W_region ?_
  refine wl_q (r_ld 5 (.int _ _) one2 M9 rfl rfl rfl) rfl rfl ?_
  refine wl_q (r_bin (.bool (decide _)) rfl rfl rfl) rfl rfl ?_
  refine wl_nil ?_
  refine thenN ?_
  refine W_condD rfl (fun h20 => ?_) (fun h20 => ?_)
  · skip
    refine W_seq ?_
    refine W_region ?_
    refine wl_q (r_ldW 0 agg29 M9 rfl rfl rfl) rfl rfl ?_
    refine wl_stW 3 _ agg29 M9 rfl rfl rfl rfl rfl (ones_of rfl) rfl (fun w10 M10 => ?_)
    refine wl_nil ?_
    refine thenN ?_
    refine W_ret ?_
    refine thenR ?_
    skip
    refine finC1 3 agg29 M10 rfl rfl rfl ?_
    exact ⟨by unfold nearest; first | (rw [if_pos h20]; rfl) | (rw [if_neg h20]; rfl), M10.below⟩
  · skip
    have hnr := near_rng (c := c) h h20
    refine W_skip ?_
    refine thenN ?_
    refine W_seq ?_
    refine W_region ?_
    refine wl_q (r_makeFuncV [] [.pointer _, .pointer _] rfl rfl) rfl rfl ?_
    refine wl_q (r_assign (.func _ _ _) rfl) rfl rfl ?_
    refine wl_nil ?_
    refine thenN ?_
    refine W_seq ?_
    refine W_region ?_
    refine wl_q (r_ldW 0 agg29 M9 rfl rfl rfl) rfl rfl ?_
    refine wl_q (r_ldW 1 agg29 M9 rfl rfl rfl) rfl rfl ?_
    refine wl_cal cal112 rfl rfl rfl ?_
    refine (vec_Diff _ p q h.hp.i32 h.hq.i32).mono ?_
    rintro _ w11 ⟨v11, rfl, ⟨rfl, hb11⟩⟩
    refine ⟨_, rfl, ?_⟩
    have M11 := M9.callB hb11
    refine wl_q (r_move (.tuple (List.toArray _)) rfl) rfl rfl ?_
    refine wl_q (r_ext (.int _ _) rfl rfl) rfl rfl ?_
    refine wl_q (r_ext (.int _ _) rfl rfl) rfl rfl ?_
    refine wl_q (r_assign (.int _ _) rfl) rfl rfl ?_
    refine wl_q (r_assign (.int _ _) rfl) rfl rfl ?_
    refine wl_nil ?_
    refine thenN ?_
    refine W_seq ?_
    refine W_draw [(0, 0), (1, 0), (2, 1), (3, 0), (5, 0), (6, 0), (7, 1), (8, 0), (4, 2), (9, 2), (10, 0), (11, 2)] mixed rfl (by kernel_rfl) (fun w12 hb12 hh12 => ?_)
    have M12 := M11.drew hb12 hh12
    refine D_p rfl rfl rfl (fun _ => r_move (.func _ _ _) rfl) ?_
    refine D_p rfl rfl rfl (fun _ => r_fieldAddr 0 fld29_0 rfl) ?_
    refine D_r rfl rfl rfl (r_ld 0 (.int _ _) one21 M12 rfl rfl rfl) ?_
    refine D_p rfl rfl rfl (fun _ => r_move (.int _ _) rfl) ?_
    refine D_p rfl rfl rfl (fun _ => r_move (.func _ _ _) rfl) ?_
    refine D_p rfl rfl rfl (fun _ => r_fieldAddr 1 fld29_1 rfl) ?_
    refine D_r rfl rfl rfl (r_ld 0 (.int _ _) one21 M12 rfl rfl rfl) ?_
    refine D_p rfl rfl rfl (fun _ => r_move (.int _ _) rfl) ?_
    refine D_e [false, true] rfl (by kernel_rfl) ?_
    refine wl_cal cal151 rfl rfl rfl ?_
    refine (near_part _ p.1 (q.1 - p.1) (parN p q c) (parD p q) b6 b7 (by omega) hn.1 hn.2 (by omega) (by omega) hnr.1.1 hnr.1.2 (rdOf 4 M12 rfl rfl) (rdOf 5 M12 rfl rfl)).mono ?_
    rintro _ w13 ⟨v13, rfl, ⟨rfl, hb13⟩⟩
    refine ⟨_, rfl, ?_⟩
    have M13 := M12.callB hb13
    refine wl_nil (thenN ⟨(alC (Yl_of rfl (r_ld 0 (.int _ _) one21 M13 rfl rfl rfl)) alN), ?_⟩)
    refine D_e [true] rfl (by kernel_rfl) ?_
    refine wl_cal cal151 rfl rfl rfl ?_
    refine (near_part _ p.2 (q.2 - p.2) (parN p q c) (parD p q) b6 b7 (by omega) hn.1 hn.2 (by omega) (by omega) hnr.2.1 hnr.2.2 (rdOf 4 M13 rfl rfl) (rdOf 5 M13 rfl rfl)).mono ?_
    rintro _ w14 ⟨v14, rfl, ⟨rfl, hb14⟩⟩
    refine ⟨_, rfl, ?_⟩
    have M14 := M13.callB hb14
    refine wl_nil (thenN ⟨alN, ?_⟩)
    refine D_p rfl rfl rfl (fun _ => r_build [(0, .int _ _), (1, .int _ _)] _ struct29 rfl rfl) ?_
    refine D_e [] rfl (by kernel_rfl) ?_
    refine wl_stW 3 _ agg29 M14 rfl rfl rfl rfl rfl (ones_of rfl) rfl (fun w15 M15 => ?_)
    refine wl_nil (thenN ⟨alN, ?_⟩)
    refine D_nil ?_
    refine thenN ?_
    refine W_ret ?_
    skip
    refine finC1 3 agg29 M15 rfl rfl rfl ?_
    exact ⟨by unfold nearest; first | (rw [if_pos h20]; rfl) | (rw [if_neg h20]; rfl), M15.below⟩

end Go.Proofs.YtmcddmhkjcgneaaGreatDoor

/- Walks of Go functions over the frame of this claim: what each computes, for every input of the stated types (Z3). -/
set_option linter.unusedVariables false
set_option linter.unusedSimpArgs false
set_option linter.unnecessarySimpa false
namespace Go.Proofs.YtmcddmhkjcgneaaGreatDoor
open Go.Bil
open Go.RowKit (Below)
open Go.Proofs

end Go.Proofs.YtmcddmhkjcgneaaGreatDoor

/- Walks of Go functions over the frame of this claim: what each computes, for every input of the stated types (Z4). -/
set_option linter.unusedVariables false
set_option linter.unusedSimpArgs false
set_option linter.unnecessarySimpa false
namespace Go.Proofs.YtmcddmhkjcgneaaGreatDoor
open Go.Bil
open Go.RowKit (Below)
open Go.Proofs

end Go.Proofs.YtmcddmhkjcgneaaGreatDoor

/- Walks of Go functions over the frame of this claim: what each computes, for every input of the stated types (W5). -/
set_option linter.unusedVariables false
set_option linter.unusedSimpArgs false
set_option linter.unnecessarySimpa false
namespace Go.Proofs.YtmcddmhkjcgneaaGreatDoor
open Go.Bil
open Go.RowKit (Below)
open Go.Proofs

set_option maxHeartbeats 4000000 in
theorem choose1 (w : World) (s : Ch) (x y : Pt) (ba bb bl : Nat) (hx : PtI x) (hy : PtI y) (hO : Own [(some ba, bc (vecCells s.1) 29), (some bb, bc (vecCells s.2.1) 29), (some bl, bc [.int .u64 (s.2.2 : Int)] 26)] w) :
    Calls Tryz.prog 141 #[(.agg (vecCells x).toArray), (.agg (vecCells y).toArray), .pointer (some ⟨bl, 0, none⟩), .pointer (some ⟨ba, 0, none⟩), .pointer (some ⟨bb, 0, none⟩)] w (fun ex w' => ∃ v, ex = .returned v ∧ (fun v w' => v = .tuple #[] ∧ Mem w (blks [(some ba, bc (vecCells s.1) 29), (some bb, bc (vecCells s.2.1) 29), (some bl, bc [.int .u64 (s.2.2 : Int)] 26)]) [(some ba, bc (vecCells (chStep s x y).1) 29), (some bb, bc (vecCells (chStep s x y).2.1) 29), (some bl, bc [.int .u64 ((chStep s x y).2.2 : Int)] 26)] w') v w') := by
  refine calls_of_W #[] 20 Tryz.func141 rfl Tryz.results141 Tryz.ntmps141 rfl ?_
  have M0 := hO.mem
  refine W_seq ?_
  refine W_region ?_
  refine wl_box (.agg (List.toArray _)) M0 rfl rfl rfl (fun b1 w1 M1 => ?_)
  refine wl_box (.agg (List.toArray _)) M1 rfl rfl rfl (fun b2 w2 M2 => ?_)
  refine wl_nil ?_
  refine thenN ?_
  refine W_seq ?_
  refine W_region ?_
  refine wl_q (r_ldW 3 agg29 M2 rfl rfl rfl) rfl rfl ?_
  refine wl_q (r_ldW 4 agg29 M2 rfl rfl rfl) rfl rfl ?_
  refine wl_cal cal112 rfl rfl rfl ?_
  refine (vec_Diff _ x y hx.i32 hy.i32).mono ?_
  rintro _ w3 ⟨v3, rfl, ⟨rfl, hb3⟩⟩
  refine ⟨_, rfl, ?_⟩
  have M3 := M2.callB hb3
  refine wl_q (r_ext (.int _ _) rfl rfl) rfl rfl ?_
  refine wl_q (r_ext (.int _ _) rfl rfl) rfl rfl ?_
  refine wl_cal cal63 rfl rfl rfl ?_
  refine (vec_LengthSq _ (y.1 - x.1) (y.2 - x.2) (hx.inX hy) (hx.inY hy)).mono ?_
  rintro _ w4 ⟨v4, rfl, ⟨rfl, hb4⟩⟩
  refine ⟨_, rfl, ?_⟩
  have M4 := M3.callB hb4
  refine wl_q (r_assign (.int _ _) rfl) rfl rfl ?_
  refine wl_nil ?_
  refine thenN ?_
  refine W_seq ?_
  refine W_region ?_
  refine wl_q (r_move (.int _ _) rfl) rfl rfl ?_
  refine wl_q (r_ld 2 (.int _ _) one26 M4 rfl rfl rfl) rfl rfl ?_
  refine wl_q (r_bin (.bool (decide _)) rfl rfl rfl) rfl rfl ?_
  refine wl_nil ?_
  refine thenN ?_
  refine W_condD rfl (fun h16 => ?_) (fun h16 => ?_)
  · skip
    refine W_draw [(0, 1), (1, 1), (2, 0), (3, 2), (4, 2), (5, 2)] mixed rfl (by kernel_rfl) (fun w5 hb5 hh5 => ?_)
    have M5 := M4.drew hb5 hh5
    refine D_r rfl rfl rfl (r_ldW 3 agg29 M5 rfl rfl rfl) ?_
    refine D_r rfl rfl rfl (r_ldW 4 agg29 M5 rfl rfl rfl) ?_
    refine D_p rfl rfl rfl (fun _ => r_move (.int _ _) rfl) ?_
    refine D_e [false, true] rfl (by kernel_rfl) ?_
    refine wl_stW 0 _ agg29 M5 rfl rfl rfl rfl rfl (ones_of rfl) rfl (fun w6 M6 => ?_)
    refine wl_nil (thenN ⟨(alC (Yl_of rfl (r_ldW 4 agg29 M6 rfl rfl rfl)) alN), ?_⟩)
    refine D_e [true] rfl (by kernel_rfl) ?_
    refine wl_stW 1 _ agg29 M6 rfl rfl rfl rfl rfl (ones_of rfl) rfl (fun w7 M7 => ?_)
    refine wl_nil (thenN ⟨alN, ?_⟩)
    refine D_e [] rfl (by kernel_rfl) ?_
    refine wl_st 2 (.int _ _) one26 M7 rfl rfl rfl rfl rfl rfl (fun w8 M8 => ?_)
    refine wl_nil (thenN ⟨alN, ?_⟩)
    refine D_nil ?_
    refine fin0n ?_
    exact ⟨rfl, by unfold chStep; first | (rw [if_pos (by omega)]; exact M8.keep [true, true, true, false, false]) | (rw [if_neg (by omega)]; exact M8.keep [true, true, true, false, false])⟩
  · skip
    refine W_skip ?_
    refine fin0n ?_
    exact ⟨rfl, by unfold chStep; first | (rw [if_pos (by omega)]; exact M4.keep [true, true, true, false, false]) | (rw [if_neg (by omega)]; exact M4.keep [true, true, true, false, false])⟩

set_option maxHeartbeats 8000000 in
theorem seg_choose (w : World) (ap aq bp bq : Pt) (h1 : SgI ap aq) (h2 : SgI bp bq) :
    Calls Tryz.prog 125 #[(.agg (vecCells ap).toArray), (.agg (vecCells aq).toArray), (.agg (vecCells bp).toArray), (.agg (vecCells bq).toArray)] w (fun ex w' => ∃ v, ex = .returned v ∧ (fun v w' => v = .tuple #[(.agg (vecCells (chosen ap aq bp bq).1).toArray), (.agg (vecCells (chosen ap aq bp bq).2.1).toArray), .int .u64 ((chosen ap aq bp bq).2.2 : Int)] ∧ Below w.heap.size w w') v w') := by
  refine calls_of_W #[.cell 8 29, .cell 9 29, .cell 10 26] 48 Tryz.func125 rfl Tryz.results125 Tryz.ntmps125 rfl ?_
  have M0 := Mem.refl w
  refine W_seq ?_
  refine W_region ?_
  refine wl_box (.agg (List.toArray _)) M0 rfl rfl rfl (fun b1 w1 M1 => ?_)
  refine wl_box (.agg (List.toArray _)) M1 rfl rfl rfl (fun b2 w2 M2 => ?_)
  refine wl_box (.agg (List.toArray _)) M2 rfl rfl rfl (fun b3 w3 M3 => ?_)
  refine wl_box (.agg (List.toArray _)) M3 rfl rfl rfl (fun b4 w4 M4 => ?_)
  refine wl_alloc zero29 M4 rfl rfl (fun b5 w5 M5 => ?_)
  refine wl_alloc zero29 M5 rfl rfl (fun b6 w6 M6 => ?_)
  refine wl_alloc zero26 M6 rfl rfl (fun b7 w7 M7 => ?_)
  refine wl_nil ?_
  refine thenN ?_
  refine W_seq ?_
  refine W_region ?_
  refine wl_st 6 (.int _ _) one26 M7 rfl rfl rfl rfl rfl rfl (fun w8 M8 => ?_)
  refine wl_nil ?_
  refine thenN ?_
  refine W_seq ?_
  refine W_region ?_
  obtain ⟨s, hS⟩ : ∃ z, z = ch0 := ⟨_, rfl⟩
  have hC : ChI s := by rw [hS]; exact ch0_in
  have M9 : Mem _ _ [_, _, _, _, (some b5, bc (vecCells ch0.1) 29), (some b6, bc (vecCells ch0.2.1) 29), (some b7, bc [.int .u64 (ch0.2.2 : Int)] 26)] _ := M8
  rw [← hS] at M9
  refine wl_q (r_makeFuncV [] [.pointer _, .pointer _, .pointer _] rfl rfl) rfl rfl ?_
  refine wl_q (r_assign (.func _ _ _) rfl) rfl rfl ?_
  refine wl_nil ?_
  refine thenN ?_
  refine W_seq ?_
  refine W_seq ?_
  refine W_region ?_
  refine wl_q (r_ldW 0 agg29 M9 rfl rfl rfl) rfl rfl ?_
  refine wl_q (r_ldW 1 agg29 M9 rfl rfl rfl) rfl rfl ?_
  refine wl_q (r_buildA [.agg (List.toArray _), .agg (List.toArray _)] arr213 zero213 rfl rfl (lens_of rfl)) rfl rfl ?_
  refine wl_q (r_move (.int _ _) rfl) rfl rfl ?_
  refine wl_nil ?_
  refine thenN ?_
  refine W_block ?_
  refine W_rounds 3 (Wr_s ?_)
  refine W_seq ?_
  refine W_region ?_
  refine wl_q (r_bin (.bool (decide _)) rfl rfl rfl) rfl rfl ?_
  refine wl_re 21 (.bool true) (bT (by first | decide | omega)).symm ?_
  refine wl_nil ?_
  refine thenN ?_
  refine W_seq ?_
  refine W_condT rfl ?_
  refine W_skip ?_
  refine thenN ?_
  refine W_seq ?_
  refine W_block ?_
  refine W_seq ?_
  refine W_region ?_
  refine wl_q (r_idxA 0 _ arr213 agg29 rfl rfl (by decide) (by decide) rfl rfl) rfl rfl ?_
  refine wl_alloc zero29 M9 rfl rfl (fun b10 w10 M10 => ?_)
  refine wl_stW 7 _ agg29 M10 rfl rfl rfl rfl rfl (ones_of rfl) rfl (fun w11 M11 => ?_)
  refine wl_nil ?_
  refine thenN ?_
  refine W_draw [(0, 0), (1, 1), (2, 1), (3, 1), (4, 1), (5, 2), (6, 2)] mixed rfl (by kernel_rfl) (fun w12 hb12 hh12 => ?_)
  have M12 := M11.drew hb12 hh12
  refine D_p rfl rfl rfl (fun _ => r_move (.func _ _ _) rfl) ?_
  refine D_r rfl rfl rfl (r_ldW 7 agg29 M12 rfl rfl rfl) ?_
  refine D_r rfl rfl rfl (r_ldW 2 agg29 M12 rfl rfl rfl) ?_
  refine D_r rfl rfl rfl (r_ldW 3 agg29 M12 rfl rfl rfl) ?_
  refine D_r rfl rfl rfl (r_ldW 7 agg29 M12 rfl rfl rfl) ?_
  refine D_e [true, true, true, false] rfl (by kernel_rfl) ?_
  refine wl_cal cal142 rfl rfl rfl ?_
  refine (point_Nearest _ bp bq ap h2 h1.hp).mono ?_
  rintro _ w13 ⟨v13, rfl, ⟨rfl, hb13⟩⟩
  refine ⟨_, rfl, ?_⟩
  have M13 := M12.callB hb13
  refine wl_nil (thenN ⟨(alC (Yl_of rfl (r_ldW 7 agg29 M13 rfl rfl rfl)) alN), ?_⟩)
  refine D_e [true] rfl (by kernel_rfl) ?_
  refine wl_cal cal141 rfl rfl rfl ?_
  refine (choose1 _ s ap (nearest bp bq ap) _ _ _ h1.hp (nearest_in h2) (M13.ownSeg 4 3)).mono ?_
  rintro _ w14 ⟨v14, rfl, ⟨rfl, hM14⟩⟩
  refine ⟨_, rfl, ?_⟩
  have M14 : Mem _ _ [_, _, _, _, _, _, _, _] _ := M13.seg 4 3 hM14
  obtain ⟨s, hs⟩ : ∃ z, z = chStep s ap (nearest bp bq ap) := ⟨_, rfl⟩
  rw [← hs] at M14
  replace hC := hC.step (x := ap) (y := (nearest bp bq ap)) h1.hp (nearest_in h2)
  rw [← hs] at hC
  replace hS := hs.trans (congrArg (fun z => chStep z ap (nearest bp bq ap)) hS)
  refine wl_nil (thenN ⟨alN, ?_⟩)
  refine D_nil ?_
  refine blkN ?_
  refine thenN ?_
  refine W_region ?_
  refine wl_q (r_add rfl rfl (by first | decide | omega) (by first | decide | omega)) rfl rfl ?_
  refine wl_re 30 (.int .i64 1) (iE (by first | decide | omega)) ?_
  refine wl_q (r_move (.int _ _) rfl) rfl rfl ?_
  refine wl_nil ?_
  refine thenN (Wr_s ?_)
  refine W_seq ?_
  refine W_region ?_
  refine wl_q (r_bin (.bool (decide _)) rfl rfl rfl) rfl rfl ?_
  refine wl_re 21 (.bool true) (bT (by first | decide | omega)).symm ?_
  refine wl_nil ?_
  refine thenN ?_
  refine W_seq ?_
  refine W_condT rfl ?_
  refine W_skip ?_
  refine thenN ?_
  refine W_seq ?_
  refine W_block ?_
  refine W_seq ?_
  refine W_region ?_
  refine wl_q (r_idxA 1 _ arr213 agg29 rfl rfl (by decide) (by decide) rfl rfl) rfl rfl ?_
  refine wl_alloc zero29 M14 rfl rfl (fun b15 w15 M15 => ?_)
  refine wl_stW 8 _ agg29 M15 rfl rfl rfl rfl rfl (ones_of rfl) rfl (fun w16 M16 => ?_)
  refine wl_nil ?_
  refine thenN ?_
  refine W_draw [(0, 0), (1, 1), (2, 1), (3, 1), (4, 1), (5, 2), (6, 2)] mixed rfl (by kernel_rfl) (fun w17 hb17 hh17 => ?_)
  have M17 := M16.drew hb17 hh17
  refine D_p rfl rfl rfl (fun _ => r_move (.func _ _ _) rfl) ?_
  refine D_r rfl rfl rfl (r_ldW 8 agg29 M17 rfl rfl rfl) ?_
  refine D_r rfl rfl rfl (r_ldW 2 agg29 M17 rfl rfl rfl) ?_
  refine D_r rfl rfl rfl (r_ldW 3 agg29 M17 rfl rfl rfl) ?_
  refine D_r rfl rfl rfl (r_ldW 8 agg29 M17 rfl rfl rfl) ?_
  refine D_e [true, true, true, false] rfl (by kernel_rfl) ?_
  refine wl_cal cal142 rfl rfl rfl ?_
  refine (point_Nearest _ bp bq aq h2 h1.hq).mono ?_
  rintro _ w18 ⟨v18, rfl, ⟨rfl, hb18⟩⟩
  refine ⟨_, rfl, ?_⟩
  have M18 := M17.callB hb18
  refine wl_nil (thenN ⟨(alC (Yl_of rfl (r_ldW 8 agg29 M18 rfl rfl rfl)) alN), ?_⟩)
  refine D_e [true] rfl (by kernel_rfl) ?_
  refine wl_cal cal141 rfl rfl rfl ?_
  refine (choose1 _ s aq (nearest bp bq aq) _ _ _ h1.hq (nearest_in h2) (M18.ownSeg 4 3)).mono ?_
  rintro _ w19 ⟨v19, rfl, ⟨rfl, hM19⟩⟩
  refine ⟨_, rfl, ?_⟩
  have M19 : Mem _ _ [_, _, _, _, _, _, _, _, _] _ := M18.seg 4 3 hM19
  obtain ⟨s, hs⟩ : ∃ z, z = chStep s aq (nearest bp bq aq) := ⟨_, rfl⟩
  rw [← hs] at M19
  replace hC := hC.step (x := aq) (y := (nearest bp bq aq)) h1.hq (nearest_in h2)
  rw [← hs] at hC
  replace hS := hs.trans (congrArg (fun z => chStep z aq (nearest bp bq aq)) hS)
  refine wl_nil (thenN ⟨alN, ?_⟩)
  refine D_nil ?_
  refine blkN ?_
  refine thenN ?_
  refine W_region ?_
  refine wl_q (r_add rfl rfl (by first | decide | omega) (by first | decide | omega)) rfl rfl ?_
  refine wl_re 30 (.int .i64 2) (iE (by first | decide | omega)) ?_
  refine wl_q (r_move (.int _ _) rfl) rfl rfl ?_
  refine wl_nil ?_
  refine thenN (Wr_s ?_)
  refine W_seq ?_
  refine W_region ?_
  refine wl_q (r_bin (.bool (decide _)) rfl rfl rfl) rfl rfl ?_
  refine wl_re 21 (.bool false) (bF (by first | decide | omega)).symm ?_
  refine wl_nil ?_
  refine thenN ?_
  refine W_seq ?_
  refine W_condF rfl ?_
  refine W_exit ?_
  refine thenX ?_
  refine thenX ?_
  refine blkH ?_
  refine thenN ?_
  refine W_seq ?_
  refine W_seq ?_
  refine W_region ?_
  refine wl_q (r_ldW 2 agg29 M19 rfl rfl rfl) rfl rfl ?_
  refine wl_q (r_ldW 3 agg29 M19 rfl rfl rfl) rfl rfl ?_
  refine wl_q (r_buildA [.agg (List.toArray _), .agg (List.toArray _)] arr213 zero213 rfl rfl (lens_of rfl)) rfl rfl ?_
  refine wl_q (r_move (.int _ _) rfl) rfl rfl ?_
  refine wl_nil ?_
  refine thenN ?_
  refine W_block ?_
  refine W_rounds 3 (Wr_s ?_)
  refine W_seq ?_
  refine W_region ?_
  refine wl_q (r_bin (.bool (decide _)) rfl rfl rfl) rfl rfl ?_
  refine wl_re 35 (.bool true) (bT (by first | decide | omega)).symm ?_
  refine wl_nil ?_
  refine thenN ?_
  refine W_seq ?_
  refine W_condT rfl ?_
  refine W_skip ?_
  refine thenN ?_
  refine W_seq ?_
  refine W_block ?_
  refine W_seq ?_
  refine W_region ?_
  refine wl_q (r_idxA 0 _ arr213 agg29 rfl rfl (by decide) (by decide) rfl rfl) rfl rfl ?_
  refine wl_alloc zero29 M19 rfl rfl (fun b20 w20 M20 => ?_)
  refine wl_stW 9 _ agg29 M20 rfl rfl rfl rfl rfl (ones_of rfl) rfl (fun w21 M21 => ?_)
  refine wl_nil ?_
  refine thenN ?_
  refine W_draw [(0, 0), (1, 1), (2, 1), (3, 1), (5, 1), (4, 2), (6, 2)] mixed rfl (by kernel_rfl) (fun w22 hb22 hh22 => ?_)
  have M22 := M21.drew hb22 hh22
  refine D_p rfl rfl rfl (fun _ => r_move (.func _ _ _) rfl) ?_
  refine D_r rfl rfl rfl (r_ldW 0 agg29 M22 rfl rfl rfl) ?_
  refine D_r rfl rfl rfl (r_ldW 1 agg29 M22 rfl rfl rfl) ?_
  refine D_r rfl rfl rfl (r_ldW 9 agg29 M22 rfl rfl rfl) ?_
  refine D_r rfl rfl rfl (r_ldW 9 agg29 M22 rfl rfl rfl) ?_
  refine D_e [false, true, true, true] rfl (by kernel_rfl) ?_
  refine wl_cal cal142 rfl rfl rfl ?_
  refine (point_Nearest _ ap aq bp h1 h2.hp).mono ?_
  rintro _ w23 ⟨v23, rfl, ⟨rfl, hb23⟩⟩
  refine ⟨_, rfl, ?_⟩
  have M23 := M22.callB hb23
  refine wl_nil (thenN ⟨(alC (Yl_of rfl (r_ldW 9 agg29 M23 rfl rfl rfl)) alN), ?_⟩)
  refine D_e [true] rfl (by kernel_rfl) ?_
  refine wl_cal cal141 rfl rfl rfl ?_
  refine (choose1 _ s (nearest ap aq bp) bp _ _ _ (nearest_in h1) h2.hp (M23.ownSeg 4 3)).mono ?_
  rintro _ w24 ⟨v24, rfl, ⟨rfl, hM24⟩⟩
  refine ⟨_, rfl, ?_⟩
  have M24 : Mem _ _ [_, _, _, _, _, _, _, _, _, _] _ := M23.seg 4 3 hM24
  obtain ⟨s, hs⟩ : ∃ z, z = chStep s (nearest ap aq bp) bp := ⟨_, rfl⟩
  rw [← hs] at M24
  replace hC := hC.step (x := (nearest ap aq bp)) (y := bp) (nearest_in h1) h2.hp
  rw [← hs] at hC
  replace hS := hs.trans (congrArg (fun z => chStep z (nearest ap aq bp) bp) hS)
  refine wl_nil (thenN ⟨alN, ?_⟩)
  refine D_nil ?_
  refine blkN ?_
  refine thenN ?_
  refine W_region ?_
  refine wl_q (r_add rfl rfl (by first | decide | omega) (by first | decide | omega)) rfl rfl ?_
  refine wl_re 44 (.int .i64 1) (iE (by first | decide | omega)) ?_
  refine wl_q (r_move (.int _ _) rfl) rfl rfl ?_
  refine wl_nil ?_
  refine thenN (Wr_s ?_)
  refine W_seq ?_
  refine W_region ?_
  refine wl_q (r_bin (.bool (decide _)) rfl rfl rfl) rfl rfl ?_
  refine wl_re 35 (.bool true) (bT (by first | decide | omega)).symm ?_
  refine wl_nil ?_
  refine thenN ?_
  refine W_seq ?_
  refine W_condT rfl ?_
  refine W_skip ?_
  refine thenN ?_
  refine W_seq ?_
  refine W_block ?_
  refine W_seq ?_
  refine W_region ?_
  refine wl_q (r_idxA 1 _ arr213 agg29 rfl rfl (by decide) (by decide) rfl rfl) rfl rfl ?_
  refine wl_alloc zero29 M24 rfl rfl (fun b25 w25 M25 => ?_)
  refine wl_stW 10 _ agg29 M25 rfl rfl rfl rfl rfl (ones_of rfl) rfl (fun w26 M26 => ?_)
  refine wl_nil ?_
  refine thenN ?_
  refine W_draw [(0, 0), (1, 1), (2, 1), (3, 1), (5, 1), (4, 2), (6, 2)] mixed rfl (by kernel_rfl) (fun w27 hb27 hh27 => ?_)
  have M27 := M26.drew hb27 hh27
  refine D_p rfl rfl rfl (fun _ => r_move (.func _ _ _) rfl) ?_
  refine D_r rfl rfl rfl (r_ldW 0 agg29 M27 rfl rfl rfl) ?_
  refine D_r rfl rfl rfl (r_ldW 1 agg29 M27 rfl rfl rfl) ?_
  refine D_r rfl rfl rfl (r_ldW 10 agg29 M27 rfl rfl rfl) ?_
  refine D_r rfl rfl rfl (r_ldW 10 agg29 M27 rfl rfl rfl) ?_
  refine D_e [false, true, true, true] rfl (by kernel_rfl) ?_
  refine wl_cal cal142 rfl rfl rfl ?_
  refine (point_Nearest _ ap aq bq h1 h2.hq).mono ?_
  rintro _ w28 ⟨v28, rfl, ⟨rfl, hb28⟩⟩
  refine ⟨_, rfl, ?_⟩
  have M28 := M27.callB hb28
  refine wl_nil (thenN ⟨(alC (Yl_of rfl (r_ldW 10 agg29 M28 rfl rfl rfl)) alN), ?_⟩)
  refine D_e [true] rfl (by kernel_rfl) ?_
  refine wl_cal cal141 rfl rfl rfl ?_
  refine (choose1 _ s (nearest ap aq bq) bq _ _ _ (nearest_in h1) h2.hq (M28.ownSeg 4 3)).mono ?_
  rintro _ w29 ⟨v29, rfl, ⟨rfl, hM29⟩⟩
  refine ⟨_, rfl, ?_⟩
  have M29 : Mem _ _ [_, _, _, _, _, _, _, _, _, _, _] _ := M28.seg 4 3 hM29
  obtain ⟨s, hs⟩ : ∃ z, z = chStep s (nearest ap aq bq) bq := ⟨_, rfl⟩
  rw [← hs] at M29
  replace hC := hC.step (x := (nearest ap aq bq)) (y := bq) (nearest_in h1) h2.hq
  rw [← hs] at hC
  replace hS := hs.trans (congrArg (fun z => chStep z (nearest ap aq bq) bq) hS)
  refine wl_nil (thenN ⟨alN, ?_⟩)
  refine D_nil ?_
  refine blkN ?_
  refine thenN ?_
  refine W_region ?_
  refine wl_q (r_add rfl rfl (by first | decide | omega) (by first | decide | omega)) rfl rfl ?_
  refine wl_re 44 (.int .i64 2) (iE (by first | decide | omega)) ?_
  refine wl_q (r_move (.int _ _) rfl) rfl rfl ?_
  refine wl_nil ?_
  refine thenN (Wr_s ?_)
  refine W_seq ?_
  refine W_region ?_
  refine wl_q (r_bin (.bool (decide _)) rfl rfl rfl) rfl rfl ?_
  refine wl_re 35 (.bool false) (bF (by first | decide | omega)).symm ?_
  refine wl_nil ?_
  refine thenN ?_
  refine W_seq ?_
  refine W_condF rfl ?_
  refine W_exit ?_
  refine thenX ?_
  refine thenX ?_
  refine blkH ?_
  refine thenN ?_
  refine W_seq ?_
  refine W_draw [(0, 1), (1, 1), (2, 1), (3, 2), (4, 2), (5, 2)] mixed rfl (by kernel_rfl) (fun w30 hb30 hh30 => ?_)
  have M30 := M29.drew hb30 hh30
  refine D_r rfl rfl rfl (r_ldW 4 agg29 M30 rfl rfl rfl) ?_
  refine D_r rfl rfl rfl (r_ldW 5 agg29 M30 rfl rfl rfl) ?_
  refine D_r rfl rfl rfl (r_ld 6 (.int _ _) one26 M30 rfl rfl rfl) ?_
  refine D_e [false, false, true] rfl (by kernel_rfl) ?_
  refine wl_stW 4 _ agg29 M30 rfl rfl rfl rfl rfl (ones_of rfl) rfl (fun w31 M31 => ?_)
  refine wl_nil (thenN ⟨(alC (Yl_of rfl (r_ld 6 (.int _ _) one26 M31 rfl rfl rfl)) (alC (Yl_of rfl (r_ldW 5 agg29 M31 rfl rfl rfl)) alN)), ?_⟩)
  refine D_e [false, true] rfl (by kernel_rfl) ?_
  refine wl_stW 5 _ agg29 M31 rfl rfl rfl rfl rfl (ones_of rfl) rfl (fun w32 M32 => ?_)
  refine wl_nil (thenN ⟨(alC (Yl_of rfl (r_ld 6 (.int _ _) one26 M32 rfl rfl rfl)) alN), ?_⟩)
  refine D_e [true] rfl (by kernel_rfl) ?_
  refine wl_st 6 (.int _ _) one26 M32 rfl rfl rfl rfl rfl rfl (fun w33 M33 => ?_)
  refine wl_nil (thenN ⟨alN, ?_⟩)
  refine D_nil ?_
  refine thenN ?_
  refine W_ret ?_
  skip
  refine finCC1 4 5 6 agg29 one26 M33 rfl rfl rfl rfl rfl rfl rfl rfl ?_
  exact ⟨by rw [show s = chosen ap aq bp bq from hS], M33.below⟩

set_option maxHeartbeats 4000000 in
theorem seg_Chosen (w : World) (ap aq bp bq : Pt) (h1 : SgI ap aq) (h2 : SgI bp bq) :
    Calls Tryz.prog 111 #[(.agg (vecCells ap).toArray), (.agg (vecCells aq).toArray), (.agg (vecCells bp).toArray), (.agg (vecCells bq).toArray)] w (fun ex w' => ∃ v, ex = .returned v ∧ (fun v w' => v = .tuple #[(.agg (vecCells (chosen ap aq bp bq).1).toArray), (.agg (vecCells (chosen ap aq bp bq).2.1).toArray)] ∧ Below w.heap.size w w') v w') := by
  refine calls_of_W #[.cell 8 29, .cell 9 29] 21 Tryz.func111 rfl Tryz.results111 Tryz.ntmps111 rfl ?_
  have M0 := Mem.refl w
  refine W_seq ?_
  refine W_region ?_
  refine wl_box (.agg (List.toArray _)) M0 rfl rfl rfl (fun b1 w1 M1 => ?_)
  refine wl_box (.agg (List.toArray _)) M1 rfl rfl rfl (fun b2 w2 M2 => ?_)
  refine wl_box (.agg (List.toArray _)) M2 rfl rfl rfl (fun b3 w3 M3 => ?_)
  refine wl_box (.agg (List.toArray _)) M3 rfl rfl rfl (fun b4 w4 M4 => ?_)
  refine wl_alloc zero29 M4 rfl rfl (fun b5 w5 M5 => ?_)
  refine wl_alloc zero29 M5 rfl rfl (fun b6 w6 M6 => ?_)
  refine wl_nil ?_
  refine thenN ?_
  refine W_seq ?_
  refine W_region ?_
  refine wl_q (r_ldW 0 agg29 M6 rfl rfl rfl) rfl rfl ?_
  refine wl_q (r_ldW 1 agg29 M6 rfl rfl rfl) rfl rfl ?_
  refine wl_q (r_ldW 2 agg29 M6 rfl rfl rfl) rfl rfl ?_
  refine wl_q (r_ldW 3 agg29 M6 rfl rfl rfl) rfl rfl ?_
  refine wl_cal cal125 rfl rfl rfl ?_
  refine (seg_choose _ ap aq bp bq h1 h2).mono ?_
  rintro _ w7 ⟨v7, rfl, ⟨rfl, hb7⟩⟩
  refine ⟨_, rfl, ?_⟩
  have M7 := M6.callB hb7
  refine wl_q (r_move (.tuple (List.toArray _)) rfl) rfl rfl ?_
  refine wl_q (r_ext (.agg (List.toArray _)) rfl rfl) rfl rfl ?_
  refine wl_q (r_ext (.agg (List.toArray _)) rfl rfl) rfl rfl ?_
  refine wl_q (r_ext (.int _ _) rfl rfl) rfl rfl ?_
  refine wl_stW 4 _ agg29 M7 rfl rfl rfl rfl rfl (ones_of rfl) rfl (fun w8 M8 => ?_)
  refine wl_stW 5 _ agg29 M8 rfl rfl rfl rfl rfl (ones_of rfl) rfl (fun w9 M9 => ?_)
  refine wl_nil ?_
  refine thenN ?_
  refine W_seq ?_
  refine W_draw [(0, 1), (1, 1), (2, 2), (3, 2)] mixed rfl (by kernel_rfl) (fun w10 hb10 hh10 => ?_)
  have M10 := M9.drew hb10 hh10
  refine D_r rfl rfl rfl (r_ldW 4 agg29 M10 rfl rfl rfl) ?_
  refine D_r rfl rfl rfl (r_ldW 5 agg29 M10 rfl rfl rfl) ?_
  refine D_e [false, true] rfl (by kernel_rfl) ?_
  refine wl_stW 4 _ agg29 M10 rfl rfl rfl rfl rfl (ones_of rfl) rfl (fun w11 M11 => ?_)
  refine wl_nil (thenN ⟨(alC (Yl_of rfl (r_ldW 5 agg29 M11 rfl rfl rfl)) alN), ?_⟩)
  refine D_e [true] rfl (by kernel_rfl) ?_
  refine wl_stW 5 _ agg29 M11 rfl rfl rfl rfl rfl (ones_of rfl) rfl (fun w12 M12 => ?_)
  refine wl_nil (thenN ⟨alN, ?_⟩)
  refine D_nil ?_
  refine thenN ?_
  refine W_ret ?_
  skip
  refine finCC 4 5 agg29 M12 rfl rfl rfl rfl rfl rfl ?_
  exact ⟨rfl, M12.below⟩

end Go.Proofs.YtmcddmhkjcgneaaGreatDoor

/- Walks of Go functions over the frame of this claim: what each computes, for every input of the stated types (W6). -/
set_option linter.unusedVariables false
set_option linter.unusedSimpArgs false
set_option linter.unnecessarySimpa false
namespace Go.Proofs.YtmcddmhkjcgneaaGreatDoor
open Go.Bil
open Go.RowKit (Below)
open Go.Proofs

set_option maxHeartbeats 4000000 in
theorem solidOf (w : World) (b : Body) (hb : Okb b) :
    Calls Tryz.prog 110 #[(.agg (bodyCells b).toArray)] w (fun ex w' => ∃ v, ex = .returned v ∧ (fun v w' => v = (.agg (solidCells b).toArray) ∧ Below w.heap.size w w') v w') := by
  refine calls_of_W #[.cell 2 156] 14 Tryz.func110 rfl Tryz.results110 Tryz.ntmps110 rfl ?_
  have M0 := Mem.refl w
  refine W_seq ?_
  refine W_region ?_
  refine wl_box (.agg (List.toArray _)) M0 rfl rfl rfl (fun b1 w1 M1 => ?_)
  refine wl_alloc zero156 M1 rfl rfl (fun b2 w2 M2 => ?_)
  refine wl_nil ?_
  refine thenN ?_
  refine W_seq ?_
  refine W_region ?_
  refine wl_q (r_ldW 0 agg32 M2 rfl rfl rfl) rfl rfl ?_
  refine wl_cal cal124 rfl rfl rfl ?_
  refine (body_Ends _ b hb).mono ?_
  rintro _ w3 ⟨v3, rfl, ⟨rfl, hb3⟩⟩
  refine ⟨_, rfl, ?_⟩
  have M3 := M2.callB hb3
  refine wl_q (r_move (.tuple (List.toArray _)) rfl) rfl rfl ?_
  refine wl_q (r_ext (.agg (List.toArray _)) rfl rfl) rfl rfl ?_
  refine wl_q (r_ext (.agg (List.toArray _)) rfl rfl) rfl rfl ?_
  refine wl_alloc zero29 M3 rfl rfl (fun b4 w4 M4 => ?_)
  refine wl_alloc zero29 M4 rfl rfl (fun b5 w5 M5 => ?_)
  refine wl_stW 2 _ agg29 M5 rfl rfl rfl rfl rfl (ones_of rfl) rfl (fun w6 M6 => ?_)
  refine wl_stW 3 _ agg29 M6 rfl rfl rfl rfl rfl (ones_of rfl) rfl (fun w7 M7 => ?_)
  refine wl_nil ?_
  refine thenN ?_
  refine W_seq ?_
  refine W_region ?_
  refine wl_q (r_ldW 0 agg32 M7 rfl rfl rfl) rfl rfl ?_
  refine wl_q (r_ldW 2 agg29 M7 rfl rfl rfl) rfl rfl ?_
  refine wl_q (r_ldW 3 agg29 M7 rfl rfl rfl) rfl rfl ?_
  refine wl_q (r_build [(0, .agg (List.toArray _)), (1, .agg (List.toArray _)), (2, .agg (List.toArray _))] _ struct156 rfl rfl) rfl rfl ?_
  refine wl_stW 1 _ agg156 M7 rfl rfl rfl rfl rfl (ones_of rfl) rfl (fun w8 M8 => ?_)
  refine wl_nil ?_
  refine thenN ?_
  refine W_ret ?_
  skip
  refine finC1 1 agg156 M8 rfl rfl rfl ?_
  exact ⟨rfl, M8.below⟩

set_option maxHeartbeats 4000000 in
theorem inOrder (w : World) (a b : Body) (ha : Okb a) (hb : Okb b) :
    Calls Tryz.prog 97 #[(.agg (bodyCells a).toArray), (.agg (bodyCells b).toArray)] w (fun ex w' => ∃ v, ex = .returned v ∧ (fun v w' => v = .tuple #[(.agg (solidCells (loB a b)).toArray), (.agg (solidCells (hiB a b)).toArray)] ∧ Below w.heap.size w w') v w') := by
  refine calls_of_W #[.cell 4 156, .cell 5 156] 17 Tryz.func97 rfl Tryz.results97 Tryz.ntmps97 rfl ?_
  have M0 := Mem.refl w
  refine W_seq ?_
  refine W_region ?_
  refine wl_box (.agg (List.toArray _)) M0 rfl rfl rfl (fun b1 w1 M1 => ?_)
  refine wl_box (.agg (List.toArray _)) M1 rfl rfl rfl (fun b2 w2 M2 => ?_)
  refine wl_alloc zero156 M2 rfl rfl (fun b3 w3 M3 => ?_)
  refine wl_alloc zero156 M3 rfl rfl (fun b4 w4 M4 => ?_)
  refine wl_nil ?_
  refine thenN ?_
  refine W_seq ?_
  refine W_seq ?_
  refine W_region ?_
  refine wl_q (r_fieldAddr 0 fld32_0 rfl) rfl rfl ?_
  refine wl_q (r_ld 0 (.int _ _) one30 M4 rfl rfl rfl) rfl rfl ?_
  refine wl_q (r_fieldAddr 0 fld32_0 rfl) rfl rfl ?_
  refine wl_q (r_ld 1 (.int _ _) one30 M4 rfl rfl rfl) rfl rfl ?_
  refine wl_q (r_bin (.bool (decide _)) rfl rfl rfl) rfl rfl ?_
  refine wl_nil ?_
  refine thenN ?_
  refine W_condD rfl (fun h10 => ?_) (fun h10 => ?_)
  · skip
    refine W_region ?_
    refine wl_q (r_ldW 1 agg32 M4 rfl rfl rfl) rfl rfl ?_
    refine wl_q (r_ldW 0 agg32 M4 rfl rfl rfl) rfl rfl ?_
    refine wl_stW 0 _ agg32 M4 rfl rfl rfl rfl rfl (ones_of rfl) rfl (fun w5 M5 => ?_)
    refine wl_stW 1 _ agg32 M5 rfl rfl rfl rfl rfl (ones_of rfl) rfl (fun w6 M6 => ?_)
    refine wl_nil ?_
    refine thenN ?_
    refine W_seq ?_
    refine W_draw [(0, 1), (2, 1), (1, 2), (3, 2), (4, 2), (5, 2)] mixed rfl (by kernel_rfl) (fun w7 hb7 hh7 => ?_)
    have M7 := M6.drew hb7 hh7
    refine D_r rfl rfl rfl (r_ldW 0 agg32 M7 rfl rfl rfl) ?_
    refine D_r rfl rfl rfl (r_ldW 1 agg32 M7 rfl rfl rfl) ?_
    refine D_e [false, true] rfl (by kernel_rfl) ?_
    refine wl_cal cal110 rfl rfl rfl ?_
    refine (solidOf _ b hb).mono ?_
    rintro _ w8 ⟨v8, rfl, ⟨rfl, hb8⟩⟩
    refine ⟨_, rfl, ?_⟩
    have M8 := M7.callB hb8
    refine wl_nil (thenN ⟨(alC (Yl_of rfl (r_ldW 1 agg32 M8 rfl rfl rfl)) alN), ?_⟩)
    refine D_e [true] rfl (by kernel_rfl) ?_
    refine wl_cal cal110 rfl rfl rfl ?_
    refine (solidOf _ a ha).mono ?_
    rintro _ w9 ⟨v9, rfl, ⟨rfl, hb9⟩⟩
    refine ⟨_, rfl, ?_⟩
    have M9 := M8.callB hb9
    refine wl_nil (thenN ⟨alN, ?_⟩)
    refine D_e [] rfl (by kernel_rfl) ?_
    refine wl_stW 2 _ agg156 M9 rfl rfl rfl rfl rfl (ones_of rfl) rfl (fun w10 M10 => ?_)
    refine wl_nil (thenN ⟨alN, ?_⟩)
    refine D_e [] rfl (by kernel_rfl) ?_
    refine wl_stW 3 _ agg156 M10 rfl rfl rfl rfl rfl (ones_of rfl) rfl (fun w11 M11 => ?_)
    refine wl_nil (thenN ⟨alN, ?_⟩)
    refine D_nil ?_
    refine thenN ?_
    refine W_ret ?_
    skip
    refine finCC 2 3 agg156 M11 rfl rfl rfl rfl rfl rfl ?_
    exact ⟨by unfold loB hiB; first | rw [if_pos (by omega), if_pos (by omega)] | rw [if_neg (by omega), if_neg (by omega)], M11.below⟩
  · skip
    refine W_skip ?_
    refine thenN ?_
    refine W_seq ?_
    refine W_draw [(0, 1), (2, 1), (1, 2), (3, 2), (4, 2), (5, 2)] mixed rfl (by kernel_rfl) (fun w12 hb12 hh12 => ?_)
    have M12 := M4.drew hb12 hh12
    refine D_r rfl rfl rfl (r_ldW 0 agg32 M12 rfl rfl rfl) ?_
    refine D_r rfl rfl rfl (r_ldW 1 agg32 M12 rfl rfl rfl) ?_
    refine D_e [false, true] rfl (by kernel_rfl) ?_
    refine wl_cal cal110 rfl rfl rfl ?_
    refine (solidOf _ a ha).mono ?_
    rintro _ w13 ⟨v13, rfl, ⟨rfl, hb13⟩⟩
    refine ⟨_, rfl, ?_⟩
    have M13 := M12.callB hb13
    refine wl_nil (thenN ⟨(alC (Yl_of rfl (r_ldW 1 agg32 M13 rfl rfl rfl)) alN), ?_⟩)
    refine D_e [true] rfl (by kernel_rfl) ?_
    refine wl_cal cal110 rfl rfl rfl ?_
    refine (solidOf _ b hb).mono ?_
    rintro _ w14 ⟨v14, rfl, ⟨rfl, hb14⟩⟩
    refine ⟨_, rfl, ?_⟩
    have M14 := M13.callB hb14
    refine wl_nil (thenN ⟨alN, ?_⟩)
    refine D_e [] rfl (by kernel_rfl) ?_
    refine wl_stW 2 _ agg156 M14 rfl rfl rfl rfl rfl (ones_of rfl) rfl (fun w15 M15 => ?_)
    refine wl_nil (thenN ⟨alN, ?_⟩)
    refine D_e [] rfl (by kernel_rfl) ?_
    refine wl_stW 3 _ agg156 M15 rfl rfl rfl rfl rfl (ones_of rfl) rfl (fun w16 M16 => ?_)
    refine wl_nil (thenN ⟨alN, ?_⟩)
    refine D_nil ?_
    refine thenN ?_
    refine W_ret ?_
    skip
    refine finCC 2 3 agg156 M16 rfl rfl rfl rfl rfl rfl ?_
    exact ⟨by unfold loB hiB; first | rw [if_pos (by omega), if_pos (by omega)] | rw [if_neg (by omega), if_neg (by omega)], M16.below⟩

set_option maxHeartbeats 4000000 in
theorem measure (w : World) (a b : Body) (ha : Okb a) (hb : Okb b) :
    Calls Tryz.prog 98 #[(.agg (solidCells a).toArray), (.agg (solidCells b).toArray)] w (fun ex w' => ∃ v, ex = .returned v ∧ (fun v w' => v = .tuple #[.int .i64 (chDx (chB a b)), .int .i64 (chDy (chB a b)), .int .i64 (a.radius + b.radius)] ∧ Below w.heap.size w w') v w') := by
  have hra := ha.r
  have hrb := hb.r
  have hch := chB_in ha hb
  refine calls_of_W #[.tmp 4, .tmp 5, .tmp 6] 38 Tryz.func98 rfl Tryz.results98 Tryz.ntmps98 rfl ?_
  have M0 := Mem.refl w
  refine W_seq ?_
  refine W_region ?_
  refine wl_box (.agg (List.toArray _)) M0 rfl rfl rfl (fun b1 w1 M1 => ?_)
  refine wl_box (.agg (List.toArray _)) M1 rfl rfl rfl (fun b2 w2 M2 => ?_)
  refine wl_q (r_assign (.int _ _) rfl) rfl rfl ?_
  refine wl_q (r_assign (.int _ _) rfl) rfl rfl ?_
  refine wl_q (r_assign (.int _ _) rfl) rfl rfl ?_
  refine wl_nil ?_
  refine thenN ?_
  refine W_seq ?_
  refine W_region ?_
  refine wl_q (r_fieldAddr 10 fld156_1 rfl) rfl rfl ?_
  refine wl_q (r_ldA 0 _ agg29 M2 rfl rfl rfl rfl) rfl rfl ?_
  refine wl_q (r_fieldAddr 12 fld156_2 rfl) rfl rfl ?_
  refine wl_q (r_ldA 0 _ agg29 M2 rfl rfl rfl rfl) rfl rfl ?_
  refine wl_q (r_fieldAddr 10 fld156_1 rfl) rfl rfl ?_
  refine wl_q (r_ldA 1 _ agg29 M2 rfl rfl rfl rfl) rfl rfl ?_
  refine wl_q (r_fieldAddr 12 fld156_2 rfl) rfl rfl ?_
  refine wl_q (r_ldA 1 _ agg29 M2 rfl rfl rfl rfl) rfl rfl ?_
  refine wl_cal cal111 rfl rfl rfl ?_
  refine (seg_Chosen _ (endP a) (endQ a) (endP b) (endQ b) (ends_in ha) (ends_in hb)).mono ?_
  rintro _ w3 ⟨v3, rfl, ⟨rfl, hb3⟩⟩
  refine ⟨_, rfl, ?_⟩
  have M3 := M2.callB hb3
  refine wl_q (r_move (.tuple (List.toArray _)) rfl) rfl rfl ?_
  refine wl_q (r_ext (.agg (List.toArray _)) rfl rfl) rfl rfl ?_
  refine wl_q (r_ext (.agg (List.toArray _)) rfl rfl) rfl rfl ?_
  refine wl_alloc zero29 M3 rfl rfl (fun b4 w4 M4 => ?_)
  refine wl_alloc zero29 M4 rfl rfl (fun b5 w5 M5 => ?_)
  refine wl_stW 2 _ agg29 M5 rfl rfl rfl rfl rfl (ones_of rfl) rfl (fun w6 M6 => ?_)
  refine wl_stW 3 _ agg29 M6 rfl rfl rfl rfl rfl (ones_of rfl) rfl (fun w7 M7 => ?_)
  refine wl_nil ?_
  refine thenN ?_
  refine W_seq ?_
  refine W_region ?_
  refine wl_q (r_ldW 2 agg29 M7 rfl rfl rfl) rfl rfl ?_
  refine wl_q (r_ldW 3 agg29 M7 rfl rfl rfl) rfl rfl ?_
  refine wl_cal cal112 rfl rfl rfl ?_
  refine (vec_Diff _ (chB a b).1 (chB a b).2.1 hch.a.i32 hch.b.i32).mono ?_
  rintro _ w8 ⟨v8, rfl, ⟨rfl, hb8⟩⟩
  refine ⟨_, rfl, ?_⟩
  have M8 := M7.callB hb8
  refine wl_q (r_move (.tuple (List.toArray _)) rfl) rfl rfl ?_
  refine wl_q (r_ext (.int _ _) rfl rfl) rfl rfl ?_
  refine wl_q (r_ext (.int _ _) rfl rfl) rfl rfl ?_
  refine wl_q (r_assign (.int _ _) rfl) rfl rfl ?_
  refine wl_q (r_assign (.int _ _) rfl) rfl rfl ?_
  refine wl_nil ?_
  refine thenN ?_
  refine W_seq ?_
  refine W_draw [(0, 0), (1, 0), (2, 0), (3, 0), (4, 1), (5, 0), (6, 0), (7, 0), (8, 1), (9, 0), (10, 0), (11, 0), (12, 0), (13, 0)] mixed rfl (by kernel_rfl) (fun w9 hb9 hh9 => ?_)
  have M9 := M8.drew hb9 hh9
  refine D_p rfl rfl rfl (fun _ => r_move (.int _ _) rfl) ?_
  refine D_p rfl rfl rfl (fun _ => r_move (.int _ _) rfl) ?_
  refine D_p rfl rfl rfl (fun _ => r_fieldAddr 0 fld156_0 rfl) ?_
  refine D_p rfl rfl rfl (fun _ => r_fieldAddr 1 fld32_1 rfl) ?_
  refine D_r rfl rfl rfl (r_ld 0 (.int _ _) one21 M9 rfl rfl rfl) ?_
  refine D_p rfl rfl rfl (fun _ => r_convK us21 Tryz.underlying2 rfl (w64 _ (by omega) (by omega))) ?_
  refine D_p rfl rfl rfl (fun _ => r_fieldAddr 0 fld156_0 rfl) ?_
  refine D_p rfl rfl rfl (fun _ => r_fieldAddr 1 fld32_1 rfl) ?_
  refine D_r rfl rfl rfl (r_ld 1 (.int _ _) one21 M9 rfl rfl rfl) ?_
  refine D_p rfl rfl rfl (fun _ => r_convK us21 Tryz.underlying2 rfl (w64 _ (by omega) (by omega))) ?_
  refine D_p rfl rfl rfl (fun _ => r_add rfl rfl (by omega) (by omega)) ?_
  refine D_p rfl rfl rfl (fun _ => r_assign (.int _ _) rfl) ?_
  refine D_p rfl rfl rfl (fun _ => r_assign (.int _ _) rfl) ?_
  refine D_p rfl rfl rfl (fun _ => r_assign (.int _ _) rfl) ?_
  refine D_nil ?_
  refine thenN ?_
  refine W_ret ?_
  skip
  refine fin3 (.int _ _) (.int _ _) (.int _ _) rfl rfl rfl ?_
  exact ⟨rfl, M9.below⟩

set_option maxHeartbeats 4000000 in
theorem contact_Of (w : World) (a b : Body) (ha : Okb a) (hb : Okb b) :
    Calls Tryz.prog 77 #[(.agg (bodyCells a).toArray), (.agg (bodyCells b).toArray)] w (fun ex w' => ∃ v, ex = .returned v ∧ (fun v w' => v = .tuple #[.agg (conO (conOf a b)).toArray, .bool (conOf a b).isSome] ∧ Below w.heap.size w w') v w') := by
  obtain ⟨hlo, hhi⟩ := loB_ok ha hb
  have hd := chB_d hlo hhi
  have hl := len_lt hd.1 hd.2
  have hss := sum_sq hlo hhi
  have hr1 := hlo.r
  have hr2 := hhi.r
  refine calls_of_W #[.cell 4 63, .tmp 5] 52 Tryz.func77 rfl Tryz.results77 Tryz.ntmps77 rfl ?_
  have M0 := Mem.refl w
  refine W_seq ?_
  refine W_region ?_
  refine wl_box (.agg (List.toArray _)) M0 rfl rfl rfl (fun b1 w1 M1 => ?_)
  refine wl_box (.agg (List.toArray _)) M1 rfl rfl rfl (fun b2 w2 M2 => ?_)
  refine wl_alloc zero63 M2 rfl rfl (fun b3 w3 M3 => ?_)
  refine wl_q (r_assign (.bool false) rfl) rfl rfl ?_
  refine wl_nil ?_
  refine thenN ?_
  refine W_seq ?_
  refine W_region ?_
  refine wl_q (r_ldW 0 agg32 M3 rfl rfl rfl) rfl rfl ?_
  refine wl_q (r_ldW 1 agg32 M3 rfl rfl rfl) rfl rfl ?_
  refine wl_cal cal97 rfl rfl rfl ?_
  refine (inOrder _ a b ha hb).mono ?_
  rintro _ w4 ⟨v4, rfl, ⟨rfl, hb4⟩⟩
  refine ⟨_, rfl, ?_⟩
  have M4 := M3.callB hb4
  refine wl_q (r_move (.tuple (List.toArray _)) rfl) rfl rfl ?_
  refine wl_q (r_ext (.agg (List.toArray _)) rfl rfl) rfl rfl ?_
  refine wl_q (r_ext (.agg (List.toArray _)) rfl rfl) rfl rfl ?_
  refine wl_alloc zero156 M4 rfl rfl (fun b5 w5 M5 => ?_)
  refine wl_alloc zero156 M5 rfl rfl (fun b6 w6 M6 => ?_)
  refine wl_stW 3 _ agg156 M6 rfl rfl rfl rfl rfl (ones_of rfl) rfl (fun w7 M7 => ?_)
  refine wl_stW 4 _ agg156 M7 rfl rfl rfl rfl rfl (ones_of rfl) rfl (fun w8 M8 => ?_)
  refine wl_nil ?_
  refine thenN ?_
  refine W_seq ?_
  refine W_region ?_
  refine wl_q (r_ldW 3 agg156 M8 rfl rfl rfl) rfl rfl ?_
  refine wl_q (r_ldW 4 agg156 M8 rfl rfl rfl) rfl rfl ?_
  refine wl_cal cal98 rfl rfl rfl ?_
  refine (measure _ (loB a b) (hiB a b) hlo hhi).mono ?_
  rintro _ w9 ⟨v9, rfl, ⟨rfl, hb9⟩⟩
  refine ⟨_, rfl, ?_⟩
  have M9 := M8.callB hb9
  refine wl_q (r_move (.tuple (List.toArray _)) rfl) rfl rfl ?_
  refine wl_q (r_ext (.int _ _) rfl rfl) rfl rfl ?_
  refine wl_q (r_ext (.int _ _) rfl rfl) rfl rfl ?_
  refine wl_q (r_ext (.int _ _) rfl rfl) rfl rfl ?_
  refine wl_q (r_assign (.int _ _) rfl) rfl rfl ?_
  refine wl_q (r_assign (.int _ _) rfl) rfl rfl ?_
  refine wl_q (r_assign (.int _ _) rfl) rfl rfl ?_
  refine wl_nil ?_
  refine thenN ?_
  refine W_seq ?_
  refine W_seq ?_
  refine W_region ?_
  refine wl_q (r_move (.int _ _) rfl) rfl rfl ?_
  refine wl_q (r_move (.int _ _) rfl) rfl rfl ?_
  refine wl_cal cal63 rfl rfl rfl ?_
  refine (vec_LengthSq _ (chDx (chB (loB a b) (hiB a b))) (chDy (chB (loB a b) (hiB a b))) hd.1 hd.2).mono ?_
  rintro _ w10 ⟨v10, rfl, ⟨rfl, hb10⟩⟩
  refine ⟨_, rfl, ?_⟩
  have M10 := M9.callB hb10
  refine wl_q (r_move (.int _ _) rfl) rfl rfl ?_
  refine wl_q (r_move (.int _ _) rfl) rfl rfl ?_
  refine wl_q (r_mul rfl rfl (by omega) (by omega)) rfl rfl ?_
  refine wl_q (r_conv us2 Tryz.underlying26 rfl) rfl rfl ?_
  refine wl_re 31 (.int .u64 ((((loB a b).radius + (hiB a b).radius).natAbs * ((loB a b).radius + (hiB a b).radius).natAbs : Nat) : Int)) (iE (sq_cast _ hss)) ?_
  refine wl_q (r_bin (.bool (decide _)) rfl rfl rfl) rfl rfl ?_
  refine wl_nil ?_
  refine thenN ?_
  refine W_condD rfl (fun h32 => ?_) (fun h32 => ?_)
  · skip
    refine W_seq ?_
    refine W_region ?_
    refine wl_q (r_build [] _ struct63 rfl rfl) rfl rfl ?_
    refine wl_stW 2 _ agg63 M10 rfl rfl rfl rfl rfl (ones_of rfl) rfl (fun w11 M11 => ?_)
    refine wl_q (r_assign (.bool false) rfl) rfl rfl ?_
    refine wl_nil ?_
    refine thenN ?_
    refine W_ret ?_
    refine thenR ?_
    skip
    refine finC2 (v2 := .bool false) 2 agg63 M11 rfl rfl rfl rfl ?_
    exact ⟨by rw [conOf_lo]; unfold conLow; first | (rw [if_pos (by omega)]; rfl) | (rw [if_neg (by omega)]; rfl), M11.below⟩
  · skip
    refine W_skip ?_
    refine thenN ?_
    refine W_seq ?_
    refine W_region ?_
    refine wl_q (r_fieldAddr 0 fld156_0 rfl) rfl rfl ?_
    refine wl_q (r_fieldAddr 0 fld32_0 rfl) rfl rfl ?_
    refine wl_q (r_ld 3 (.int _ _) one30 M10 rfl rfl rfl) rfl rfl ?_
    refine wl_q (r_fieldAddr 0 fld156_0 rfl) rfl rfl ?_
    refine wl_q (r_fieldAddr 0 fld32_0 rfl) rfl rfl ?_
    refine wl_q (r_ld 4 (.int _ _) one30 M10 rfl rfl rfl) rfl rfl ?_
    refine wl_q (r_build [(0, .int _ _), (1, .int _ _)] _ struct61 rfl rfl) rfl rfl ?_
    refine wl_alloc zero61 M10 rfl rfl (fun b12 w12 M12 => ?_)
    refine wl_stW 5 _ agg61 M12 rfl rfl rfl rfl rfl (ones_of rfl) rfl (fun w13 M13 => ?_)
    refine wl_nil ?_
    refine thenN ?_
    refine W_seq ?_
    refine W_draw [(0, 1), (1, 0), (2, 0), (4, 0), (5, 0), (6, 0), (3, 2), (7, 2), (8, 0), (9, 0), (10, 0), (11, 2), (12, 0)] mixed rfl (by kernel_rfl) (fun w14 hb14 hh14 => ?_)
    have M14 := M13.drew hb14 hh14
    refine D_r rfl rfl rfl (r_ldW 5 agg61 M14 rfl rfl rfl) ?_
    refine D_p rfl rfl rfl (fun _ => r_move (.int _ _) rfl) ?_
    refine D_p rfl rfl rfl (fun _ => r_move (.int _ _) rfl) ?_
    refine D_p rfl rfl rfl (fun _ => r_move (.int _ _) rfl) ?_
    refine D_p rfl rfl rfl (fun _ => r_move (.int _ _) rfl) ?_
    refine D_p rfl rfl rfl (fun _ => r_move (.int _ _) rfl) ?_
    refine D_e [false] rfl (by kernel_rfl) ?_
    refine wl_cal cal99 rfl rfl rfl ?_
    refine (vec_Unit _ (chDx (chB (loB a b) (hiB a b))) (chDy (chB (loB a b) (hiB a b))) hd.1 hd.2).mono ?_
    rintro _ w15 ⟨v15, rfl, ⟨rfl, hb15⟩⟩
    refine ⟨_, rfl, ?_⟩
    have M15 := M14.callB hb15
    refine wl_nil (thenN ⟨(alC (Yl_of rfl (r_ldW 5 agg61 M15 rfl rfl rfl)) alN), ?_⟩)
    refine D_e [false] rfl (by kernel_rfl) ?_
    refine wl_cal cal100 rfl rfl rfl ?_
    refine (vec_Length _ (chDx (chB (loB a b) (hiB a b))) (chDy (chB (loB a b) (hiB a b))) hd.1 hd.2).mono ?_
    rintro _ w16 ⟨v16, rfl, ⟨rfl, hb16⟩⟩
    refine ⟨_, rfl, ?_⟩
    have M16 := M15.callB hb16
    refine wl_nil (thenN ⟨(alC (Yl_of rfl (r_ldW 5 agg61 M16 rfl rfl rfl)) alN), ?_⟩)
    refine D_p rfl rfl rfl (fun _ => r_sub rfl rfl (by omega) (by omega)) ?_
    refine D_p rfl rfl rfl (fun _ => r_conv us2 Tryz.underlying21 rfl) ?_
    refine D_p rfl rfl rfl (fun _ => r_build [(0, .agg (List.toArray _)), (1, .agg (List.toArray _)), (2, .int _ _)] _ struct63 rfl rfl) ?_
    refine D_e [true] rfl (by kernel_rfl) ?_
    refine wl_stW 2 _ agg63 M16 rfl rfl rfl rfl rfl (ones_of rfl) rfl (fun w17 M17 => ?_)
    refine wl_nil (thenN ⟨alN, ?_⟩)
    refine D_p rfl rfl rfl (fun _ => r_assign (.bool true) rfl) ?_
    refine D_nil ?_
    refine thenN ?_
    refine W_ret ?_
    skip
    refine finC2 (v2 := .bool true) 2 agg63 M17 rfl rfl rfl rfl ?_
    exact ⟨by rw [conOf_lo]; unfold conLow; first | (rw [if_pos (by omega)]; rfl) | (rw [if_neg (by omega)]; rfl), M17.below⟩

end Go.Proofs.YtmcddmhkjcgneaaGreatDoor
