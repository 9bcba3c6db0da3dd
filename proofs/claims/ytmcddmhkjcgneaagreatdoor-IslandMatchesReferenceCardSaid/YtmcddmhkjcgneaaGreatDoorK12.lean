/- Part of the proof of the laws of this seat: W1, W2. No conditions. -/
import Derived.Test.YtmcddmhkjcgneaaGreatDoorK5
import Derived.Test.YtmcddmhkjcgneaaGreatDoorK7
import Derived.Test.YtmcddmhkjcgneaaGreatDoorK6
import Derived.Test.YtmcddmhkjcgneaaGreatDoorK8
import Derived.Test.YtmcddmhkjcgneaaGreatDoorK11
import Derived.Shelf.Bits.Mul64
import Derived.Shelf.Small.Bits
/- Walks of Go functions over the frame of this claim: what each computes, for every input of the stated types (W1). -/
set_option linter.unusedVariables false
set_option linter.unusedSimpArgs false
set_option linter.unnecessarySimpa false
namespace Go.Proofs.YtmcddmhkjcgneaaGreatDoor
open Go.Bil
open Go.RowKit (Below)
open Go.Proofs

theorem mul64 (w : World) (x y : Nat) (hx : x < 18446744073709551616) (hy : y < 18446744073709551616) : Calls Tryz.prog 154 #[.int .u64 (x : Int), .int .u64 (y : Int)] w (fun ex w' => ∃ v, ex = .returned v ∧ v = .tuple #[.int .u64 ((x * y / 18446744073709551616 : Nat) : Int), .int .u64 ((x * y % 18446744073709551616 : Nat) : Int)] ∧ Below w.heap.size w w') :=
  (Any.bits_Mul64 mul64_lay x y hx hy w).mono (by rintro ex w' ⟨rfl, rfl⟩; exact ⟨_, rfl, rfl, Below.refl _ _⟩)
theorem lz64 (w : World) (y s : Nat) (hy : y < 18446744073709551616) (hs : lzN y = s) : Calls Tryz.prog 158 #[.int .u64 (y : Int)] w (fun ex w' => ∃ v, ex = .returned v ∧ v = .int .i64 (s : Int) ∧ Below w.heap.size w w') :=
  (Any.bits_LeadingZeros64 lz64_lay (y : Int) w (by omega) (by omega)).mono (by
    rintro ex w' ⟨rfl, rfl⟩
    refine ⟨_, rfl, ?_, Below.refl _ _⟩
    have hl := Go.Lib.bitLen_le y 64 (Nat.le_refl _) hy
    unfold lzN at hs
    exact iE (by rw [Int.toNat_natCast]; omega))
set_option maxHeartbeats 16000000 in
theorem div64 (w : World) (hi lo y : Nat) (hy : hi < y) (hY : y < 18446744073709551616) (hl : lo < 18446744073709551616) :
    Calls Tryz.prog 156 #[.int .u64 (hi : Int), .int .u64 (lo : Int), .int .u64 (y : Int)] w (fun ex w' => ∃ v, ex = .returned v ∧ (fun v w' => v = .tuple #[.int .u64 (((hi * 18446744073709551616 + lo) / y : Nat) : Int), .int .u64 (((hi * 18446744073709551616 + lo) % y : Nat) : Int)] ∧ Below w.heap.size w w') v w') := by
  obtain ⟨s, A, E, Y, U, W, y1, y0, d1, d0, Q1, U2, Q0, R, V, h63, hYl, hUY, hWl, ⟨hy1, hy1', hy0, hd1, hd0⟩, hQ1, hU2, hQ0, hRl⟩ := div64_law hy hY hl
  have hAE := V.eU
  have hSp : Y = y1 * 4294967296 + y0 := by have h1 := V.ey1; have h2 := V.ey0; omega
  obtain ⟨p1, P1, z1, hp1, hP1, hz1, hPU, hzl, DU⟩ := dg_first (u := U) (y1 := y1) (y0 := y0) (d := d1) (by omega) hy1' hd1 (by omega)
  obtain ⟨p2, P2, z2, hp2, hP2, hz2, hPU2, hzl2, DU2⟩ := dg_first (u := U2) (y1 := y1) (y0 := y0) (d := d0) (by omega) hy1' hd0 (by omega)
  refine calls_of_W #[.tmp 6, .tmp 7] 135 Tryz.func156 rfl Tryz.results156 Tryz.ntmps156 rfl ?_
  have M0 := Mem.refl w
  refine W_seq ?_
  refine W_region ?_
  refine wl_q (r_assign (.int _ _) rfl) rfl rfl ?_
  refine wl_q (r_assign (.int _ _) rfl) rfl rfl ?_
  refine wl_nil ?_
  refine thenN ?_
  refine W_seq ?_
  refine W_seq ?_
  refine W_region ?_
  refine wl_q (r_move (.int _ _) rfl) rfl rfl ?_
  refine wl_q (r_bin (.bool (decide _)) rfl rfl rfl) rfl rfl ?_
  refine wl_re 20 (.bool false) (bF (by omega)).symm ?_
  refine wl_nil ?_
  refine thenN ?_
  refine W_condF rfl ?_
  refine W_skip ?_
  refine thenN ?_
  refine W_seq ?_
  refine W_seq ?_
  refine W_region ?_
  refine wl_q (r_move (.int _ _) rfl) rfl rfl ?_
  refine wl_q (r_move (.int _ _) rfl) rfl rfl ?_
  refine wl_q (r_bin (.bool (decide _)) rfl rfl rfl) rfl rfl ?_
  refine wl_re 24 (.bool false) (bF (by omega)).symm ?_
  refine wl_nil ?_
  refine thenN ?_
  refine W_condF rfl ?_
  refine W_skip ?_
  refine thenN ?_
  refine W_seq ?_
  refine W_seq ?_
  refine W_region ?_
  refine wl_q (r_move (.int _ _) rfl) rfl rfl ?_
  refine wl_q (r_bin (.bool (decide _)) rfl rfl rfl) rfl rfl ?_
  refine wl_nil ?_
  refine thenN ?_
  refine W_condD rfl (fun h27 => ?_) (fun h27 => ?_)
  · skip
    refine W_seq ?_
    refine W_draw [(0, 0), (1, 0), (2, 0), (3, 0), (4, 0), (5, 0), (6, 0), (7, 0)] mixed rfl (by kernel_rfl) (fun w1 hb1 hh1 => ?_)
    have M1 := M0.drew hb1 hh1
    refine D_p rfl rfl rfl (fun _ => r_move (.int _ _) rfl) ?_
    refine D_p rfl rfl rfl (fun _ => r_move (.int _ _) rfl) ?_
    refine D_p rfl rfl rfl (fun _ => r_quo rfl rfl (by omega)) ?_
    refine D_re 30 (.int .u64 ((lo / y : Nat) : Int)) (iE (u_quo lo y hl)) ?_
    refine D_p rfl rfl rfl (fun _ => r_move (.int _ _) rfl) ?_
    refine D_p rfl rfl rfl (fun _ => r_move (.int _ _) rfl) ?_
    refine D_p rfl rfl rfl (fun _ => r_rem rfl rfl (by omega)) ?_
    refine D_re 33 (.int .u64 ((lo % y : Nat) : Int)) (iE (u_rem lo y)) ?_
    refine D_p rfl rfl rfl (fun _ => r_assign (.int _ _) rfl) ?_
    refine D_p rfl rfl rfl (fun _ => r_assign (.int _ _) rfl) ?_
    refine D_nil ?_
    refine thenN ?_
    refine W_ret ?_
    refine thenR ?_
    skip
    refine fin2 (.int _ _) (.int _ _) rfl rfl ?_
    exact ⟨by simp [show hi = 0 by omega], M1.below⟩
  · skip
    refine W_skip ?_
    refine thenN ?_
    refine W_seq ?_
    refine W_region ?_
    refine wl_q (r_move (.int _ _) rfl) rfl rfl ?_
    refine wl_cal cal158 rfl rfl rfl ?_
    refine (lz64 _ y s hY V.hs).mono ?_
    rintro _ w2 ⟨v2, rfl, ⟨rfl, hb2⟩⟩
    refine ⟨_, rfl, ?_⟩
    have M2 := M0.callB hb2
    refine wl_q (r_convK us3 Tryz.underlying176 rfl (wru64 _ (by omega) (by omega))) rfl rfl ?_
    refine wl_q (r_assign (.int _ _) rfl) rfl rfl ?_
    refine wl_nil ?_
    refine thenN ?_
    refine W_seq ?_
    refine W_region ?_
    refine wl_q (r_move (.int _ _) rfl) rfl rfl ?_
    refine wl_q (r_move (.int _ _) rfl) rfl rfl ?_
    refine wl_q (r_shl rfl rfl (by omega)) rfl rfl ?_
    refine wl_re 39 (.int .u64 (Y : Int)) (iE ((u_shlK y s _ rfl (by omega) (by rw [V.eY]; exact hYl)).trans (congrArg _ V.eY))) ?_
    refine wl_q (r_assign (.int _ _) rfl) rfl rfl ?_
    refine wl_nil ?_
    refine thenN ?_
    refine W_seq ?_
    refine W_region ?_
    refine wl_q (r_move (.int _ _) rfl) rfl rfl ?_
    refine wl_q (r_shr rfl rfl (by decide)) rfl rfl ?_
    refine wl_re 41 (.int .u64 (y1 : Int)) (iE ((u_shr32 Y).trans (congrArg _ V.ey1))) ?_
    refine wl_q (r_assign (.int _ _) rfl) rfl rfl ?_
    refine wl_nil ?_
    refine thenN ?_
    refine W_seq ?_
    refine W_region ?_
    refine wl_q (r_move (.int _ _) rfl) rfl rfl ?_
    refine wl_q (r_bin (.int _ _) rfl rfl rfl) rfl rfl ?_
    refine wl_re 43 (.int .u64 (y0 : Int)) (iE ((u_and32 Y hYl).trans (congrArg _ V.ey0))) ?_
    refine wl_q (r_assign (.int _ _) rfl) rfl rfl ?_
    refine wl_nil ?_
    refine thenN ?_
    refine W_seq ?_
    refine W_region ?_
    refine wl_q (r_move (.int _ _) rfl) rfl rfl ?_
    refine wl_q (r_move (.int _ _) rfl) rfl rfl ?_
    refine wl_q (r_shl rfl rfl (by omega)) rfl rfl ?_
    refine wl_re 46 (.int .u64 (A : Int)) (iE ((u_shlK hi s _ rfl (by omega) (by rw [V.eA]; omega)).trans (congrArg _ V.eA))) ?_
    refine wl_q (r_move (.int _ _) rfl) rfl rfl ?_
    refine wl_q (r_move (.int _ _) rfl) rfl rfl ?_
    refine wl_q (r_subK rfl rfl (wru64 _ (by omega) (by omega))) rfl rfl ?_
    refine wl_q (r_shr rfl rfl (by omega)) rfl rfl ?_
    refine wl_re 50 (.int .u64 (E : Int)) (iE ((u_shr lo (64 - s) _ (by omega) (by omega)).trans (congrArg _ V.eE))) ?_
    refine wl_q (r_bin (.int _ _) rfl rfl rfl) rfl rfl ?_
    refine wl_re 51 (.int .u64 (U : Int)) (iE ((u_or hi A E s V.eA V.hE (by omega)).trans (congrArg _ V.eU))) ?_
    refine wl_q (r_assign (.int _ _) rfl) rfl rfl ?_
    refine wl_nil ?_
    refine thenN ?_
    refine W_seq ?_
    refine W_region ?_
    refine wl_q (r_move (.int _ _) rfl) rfl rfl ?_
    refine wl_q (r_move (.int _ _) rfl) rfl rfl ?_
    refine wl_q (r_shl rfl rfl (by omega)) rfl rfl ?_
    refine wl_re 54 (.int .u64 (W : Int)) (iE ((u_shl lo s _ rfl (by omega)).trans (congrArg _ V.eW))) ?_
    refine wl_q (r_assign (.int _ _) rfl) rfl rfl ?_
    refine wl_nil ?_
    refine thenN ?_
    refine W_seq ?_
    refine W_region ?_
    refine wl_q (r_move (.int _ _) rfl) rfl rfl ?_
    refine wl_q (r_shr rfl rfl (by decide)) rfl rfl ?_
    refine wl_re 56 (.int .u64 (d1 : Int)) (iE ((u_shr32 W).trans (congrArg _ V.ed1))) ?_
    refine wl_q (r_assign (.int _ _) rfl) rfl rfl ?_
    refine wl_nil ?_
    refine thenN ?_
    refine W_seq ?_
    refine W_region ?_
    refine wl_q (r_move (.int _ _) rfl) rfl rfl ?_
    refine wl_q (r_bin (.int _ _) rfl rfl rfl) rfl rfl ?_
    refine wl_re 58 (.int .u64 (d0 : Int)) (iE ((u_and32 W hWl).trans (congrArg _ V.ed0))) ?_
    refine wl_q (r_assign (.int _ _) rfl) rfl rfl ?_
    refine wl_nil ?_
    refine thenN ?_
    refine W_seq ?_
    refine W_region ?_
    refine wl_q (r_move (.int _ _) rfl) rfl rfl ?_
    refine wl_q (r_move (.int _ _) rfl) rfl rfl ?_
    refine wl_q (r_quo rfl rfl (by omega)) rfl rfl ?_
    refine wl_re 61 (.int .u64 (p1 : Int)) (iE ((u_quo U y1 (by omega)).trans (congrArg _ hp1))) ?_
    refine wl_q (r_assign (.int _ _) rfl) rfl rfl ?_
    refine wl_nil ?_
    refine thenN ?_
    refine W_seq ?_
    refine W_region ?_
    refine wl_q (r_move (.int _ _) rfl) rfl rfl ?_
    refine wl_q (r_move (.int _ _) rfl) rfl rfl ?_
    refine wl_q (r_move (.int _ _) rfl) rfl rfl ?_
    refine wl_q (r_bin (.int _ _) rfl rfl rfl) rfl rfl ?_
    refine wl_re 65 (.int .u64 (P1 : Int)) (iE ((mulU p1 y1 (by omega)).trans (congrArg _ hP1))) ?_
    refine wl_q (r_subK rfl rfl (wru64 _ (by omega) (by omega))) rfl rfl ?_
    refine wl_re 66 (.int .u64 (z1 : Int)) (iE (by omega)) ?_
    refine wl_q (r_assign (.int _ _) rfl) rfl rfl ?_
    refine wl_nil ?_
    refine thenN ?_
    refine W_meet (σ := Unit) [] (fun _ => [(15, .int .u64 (Q1 : Int)), (6, .int .u64 0), (7, .int .u64 0), (2, .int .u64 (Y : Int)), (8, .int .u64 (s : Int)), (9, .int .u64 (y1 : Int)), (10, .int .u64 (y0 : Int)), (11, .int .u64 (U : Int)), (13, .int .u64 (d1 : Int)), (14, .int .u64 (d0 : Int))]) (fun _ w' => Mem w [] [] w') ?_ ?_
    · skip
      refine W_block ?_
      refine W_loop (σ := Nat × Nat) [] (fun (q1, r1) => [(15, .int .u64 (q1 : Int)), (16, .int .u64 (r1 : Int)), (6, .int .u64 0), (7, .int .u64 0), (2, .int .u64 (Y : Int)), (8, .int .u64 (s : Int)), (9, .int .u64 (y1 : Int)), (10, .int .u64 (y0 : Int)), (11, .int .u64 (U : Int)), (13, .int .u64 (d1 : Int)), (14, .int .u64 (d0 : Int))]) (fun (q1, r1) w' => (r1 < 4294967296 ∧ Dg U y1 y0 d1 q1 r1) ∧ Mem w [] [] w') (fun (q1, r1) => q1) (p1, z1) (agC rfl (agC rfl (agC rfl (agC rfl (agC rfl (agC rfl (agC rfl (agC rfl (agC rfl (agC rfl (agC rfl agN))))))))))) (⟨⟨by omega, DU⟩, M2⟩) ?_
      rintro ⟨q1, r1⟩ ρ4 w4 ⟨⟨hr1, Dr1⟩, hM4⟩
      refine W_seq ?_
      refine W_seq ?_
      refine W_region ?_
      refine wl_q (r_move (.int _ _) rfl) rfl rfl ?_
      refine wl_q (r_bin (.bool (decide _)) rfl rfl rfl) rfl rfl ?_
      refine wl_q (r_move (.bool (decide _)) rfl) rfl rfl ?_
      refine wl_splitD 69 rfl (fun g69 => ?_) (fun g69 => ?_)
      · skip
        refine wl_skip rfl rfl ?_
        refine wl_skip rfl rfl ?_
        refine wl_skip rfl rfl ?_
        refine wl_skip rfl rfl ?_
        refine wl_skip rfl rfl ?_
        refine wl_skip rfl rfl ?_
        refine wl_skip rfl rfl ?_
        refine wl_skip rfl rfl ?_
        refine wl_q (r_pick true (.bool true) rfl rfl) rfl rfl ?_
        refine wl_nil ?_
        refine thenN ?_
        refine W_condT rfl ?_
        refine W_skip ?_
        refine thenN ?_
        refine W_block ?_
        refine W_seq ?_
        refine W_region ?_
        refine wl_q (r_move (.int _ _) rfl) rfl rfl ?_
        have hsr1 := dg_step (u := U) (d := d1) (by omega) (by omega) Dr1 (by first | exact .inl (by omega) | exact .inr (by omega))
        have hlr1 := dg_qlt hy1 (by omega) Dr1
        have hqr1 := hsr1.1
        have D'r1 := hsr1.2
        refine wl_q (r_subK rfl rfl (wru64 _ (by omega) (by omega))) rfl rfl ?_
        refine wl_re 80 (.int .u64 ((q1 - 1 : Nat) : Int)) (iE (by omega)) ?_
        refine wl_q (r_assign (.int _ _) rfl) rfl rfl ?_
        refine wl_nil ?_
        refine thenN ?_
        refine W_seq ?_
        refine W_region ?_
        refine wl_q (r_move (.int _ _) rfl) rfl rfl ?_
        refine wl_q (r_move (.int _ _) rfl) rfl rfl ?_
        refine wl_q (r_addK rfl rfl (wru64 _ (by omega) (by omega))) rfl rfl ?_
        refine wl_re 83 (.int .u64 ((r1 + y1 : Nat) : Int)) (iE (by omega)) ?_
        refine wl_q (r_assign (.int _ _) rfl) rfl rfl ?_
        refine wl_nil ?_
        refine thenN ?_
        refine W_seq ?_
        refine W_region ?_
        refine wl_q (r_move (.int _ _) rfl) rfl rfl ?_
        refine wl_q (r_bin (.bool (decide _)) rfl rfl rfl) rfl rfl ?_
        refine wl_nil ?_
        refine thenN ?_
        refine W_condD rfl (fun h85 => ?_) (fun h85 => ?_)
        · skip
          have hxr1 : q1 - 1 = Q1 := (dg_break (by omega) (by omega) (by omega) D'r1 (by omega)).trans V.eQ1
          refine W_exit ?_
          refine blkX rfl ?_
          refine roundX ?_
          refine blkH ?_
          refine meetN () (agC (iv rfl (by omega)) (agC rfl (agC rfl (agC rfl (agC rfl (agC rfl (agC rfl (agC rfl (agC rfl (agC rfl agN)))))))))) akN ?_
          exact hM4
        · skip
          refine W_skip ?_
          refine blkN ?_
          refine roundN (q1 - 1, r1 + y1) (agC rfl (agC rfl (agC rfl (agC rfl (agC rfl (agC rfl (agC rfl (agC rfl (agC rfl (agC rfl (agC rfl agN))))))))))) akN ?_ ?_
          · exact ⟨⟨by omega, D'r1⟩, hM4⟩
          · (show q1 - 1 < q1; omega)
      · skip
        refine wl_q (r_move (.int _ _) rfl) rfl rfl ?_
        refine wl_q (r_move (.int _ _) rfl) rfl rfl ?_
        refine wl_q (r_bin (.int _ _) rfl rfl rfl) rfl rfl ?_
        refine wl_re 72 (.int .u64 ((q1 * y0 : Nat) : Int)) (iE (mulU q1 y0 (by have := dg_qy (q := q1) (y0 := y0) (by omega) (by omega); omega))) ?_
        refine wl_q (r_move (.int _ _) rfl) rfl rfl ?_
        refine wl_q (r_mulK rfl rfl (wru64 _ (by omega) (by omega))) rfl rfl ?_
        refine wl_q (r_move (.int _ _) rfl) rfl rfl ?_
        refine wl_q (r_addK rfl rfl (wru64 _ (by omega) (by omega))) rfl rfl ?_
        refine wl_q (r_bin (.bool (decide _)) rfl rfl rfl) rfl rfl ?_
        refine wl_q (r_pick false (.bool (decide _)) rfl rfl) rfl rfl ?_
        refine wl_nil ?_
        refine thenN ?_
        refine W_condD rfl (fun h78 => ?_) (fun h78 => ?_)
        · skip
          refine W_skip ?_
          refine thenN ?_
          refine W_block ?_
          refine W_seq ?_
          refine W_region ?_
          refine wl_q (r_move (.int _ _) rfl) rfl rfl ?_
          have hsr1 := dg_step (u := U) (d := d1) (by omega) (by omega) Dr1 (by first | exact .inl (by omega) | exact .inr (by omega))
          have hlr1 := dg_qlt hy1 (by omega) Dr1
          have hqr1 := hsr1.1
          have D'r1 := hsr1.2
          refine wl_q (r_subK rfl rfl (wru64 _ (by omega) (by omega))) rfl rfl ?_
          refine wl_re 80 (.int .u64 ((q1 - 1 : Nat) : Int)) (iE (by omega)) ?_
          refine wl_q (r_assign (.int _ _) rfl) rfl rfl ?_
          refine wl_nil ?_
          refine thenN ?_
          refine W_seq ?_
          refine W_region ?_
          refine wl_q (r_move (.int _ _) rfl) rfl rfl ?_
          refine wl_q (r_move (.int _ _) rfl) rfl rfl ?_
          refine wl_q (r_addK rfl rfl (wru64 _ (by omega) (by omega))) rfl rfl ?_
          refine wl_re 83 (.int .u64 ((r1 + y1 : Nat) : Int)) (iE (by omega)) ?_
          refine wl_q (r_assign (.int _ _) rfl) rfl rfl ?_
          refine wl_nil ?_
          refine thenN ?_
          refine W_seq ?_
          refine W_region ?_
          refine wl_q (r_move (.int _ _) rfl) rfl rfl ?_
          refine wl_q (r_bin (.bool (decide _)) rfl rfl rfl) rfl rfl ?_
          refine wl_nil ?_
          refine thenN ?_
          refine W_condD rfl (fun h85 => ?_) (fun h85 => ?_)
          · skip
            have hxr1 : q1 - 1 = Q1 := (dg_break (by omega) (by omega) (by omega) D'r1 (by omega)).trans V.eQ1
            refine W_exit ?_
            refine blkX rfl ?_
            refine roundX ?_
            refine blkH ?_
            refine meetN () (agC (iv rfl (by omega)) (agC rfl (agC rfl (agC rfl (agC rfl (agC rfl (agC rfl (agC rfl (agC rfl (agC rfl agN)))))))))) akN ?_
            exact hM4
          · skip
            refine W_skip ?_
            refine blkN ?_
            refine roundN (q1 - 1, r1 + y1) (agC rfl (agC rfl (agC rfl (agC rfl (agC rfl (agC rfl (agC rfl (agC rfl (agC rfl (agC rfl (agC rfl agN))))))))))) akN ?_ ?_
            · exact ⟨⟨by omega, D'r1⟩, hM4⟩
            · (show q1 - 1 < q1; omega)
        · skip
          have hxr1 : q1 = Q1 := (dg_exit (by omega) Dr1 (by omega)).trans V.eQ1
          refine W_exit ?_
          refine thenX ?_
          refine roundX ?_
          refine blkH ?_
          refine meetN () (agC (iv rfl (by omega)) (agC rfl (agC rfl (agC rfl (agC rfl (agC rfl (agC rfl (agC rfl (agC rfl (agC rfl agN)))))))))) akN ?_
          exact hM4
    · skip
      rintro _ ρ3 w3 hM3
      refine W_seq ?_
      refine W_region ?_
      refine wl_q (r_move (.int _ _) rfl) rfl rfl ?_
      refine wl_q (r_bin (.int _ _) rfl rfl rfl) rfl rfl ?_
      refine wl_q (r_move (.int _ _) rfl) rfl rfl ?_
      refine wl_q (r_bin (.int _ _) rfl rfl rfl) rfl rfl ?_
      refine wl_q (r_move (.int _ _) rfl) rfl rfl ?_
      refine wl_re 90 (.int .u64 (Q1 : Int)) (iE (by omega)) ?_
      refine wl_q (r_move (.int _ _) rfl) rfl rfl ?_
      refine wl_q (r_bin (.int _ _) rfl rfl rfl) rfl rfl ?_
      refine wl_re 92 (.int .u64 ((Q1 * Y % 18446744073709551616 : Nat) : Int)) (iE (mulUm Q1 Y)) ?_
      refine wl_q (r_bin (.int _ _) rfl rfl rfl) rfl rfl ?_
      refine wl_re 93 (.int .u64 (U2 : Int)) (iE (by have := V.eU2; rw [wrU, wrU, wrU]; omega)) ?_
      refine wl_q (r_assign (.int _ _) rfl) rfl rfl ?_
      refine wl_nil ?_
      refine thenN ?_
      refine W_seq ?_
      refine W_region ?_
      refine wl_q (r_move (.int _ _) rfl) rfl rfl ?_
      refine wl_q (r_move (.int _ _) rfl) rfl rfl ?_
      refine wl_q (r_quo rfl rfl (by omega)) rfl rfl ?_
      refine wl_re 96 (.int .u64 (p2 : Int)) (iE ((u_quo U2 y1 (by omega)).trans (congrArg _ hp2))) ?_
      refine wl_q (r_assign (.int _ _) rfl) rfl rfl ?_
      refine wl_nil ?_
      refine thenN ?_
      refine W_seq ?_
      refine W_region ?_
      refine wl_q (r_move (.int _ _) rfl) rfl rfl ?_
      refine wl_q (r_move (.int _ _) rfl) rfl rfl ?_
      refine wl_q (r_move (.int _ _) rfl) rfl rfl ?_
      refine wl_q (r_bin (.int _ _) rfl rfl rfl) rfl rfl ?_
      refine wl_re 100 (.int .u64 (P2 : Int)) (iE ((mulU p2 y1 (by omega)).trans (congrArg _ hP2))) ?_
      refine wl_q (r_subK rfl rfl (wru64 _ (by omega) (by omega))) rfl rfl ?_
      refine wl_re 101 (.int .u64 (z2 : Int)) (iE (by omega)) ?_
      refine wl_q (r_assign (.int _ _) rfl) rfl rfl ?_
      refine wl_nil ?_
      refine thenN ?_
      refine W_meet (σ := Unit) [] (fun _ => [(18, .int .u64 (Q0 : Int)), (6, .int .u64 0), (7, .int .u64 0), (2, .int .u64 (Y : Int)), (8, .int .u64 (s : Int)), (14, .int .u64 (d0 : Int)), (15, .int .u64 (Q1 : Int)), (17, .int .u64 (U2 : Int))]) (fun _ w' => Mem w [] [] w') ?_ ?_
      · skip
        refine W_block ?_
        refine W_loop (σ := Nat × Nat) [] (fun (q0, r0) => [(18, .int .u64 (q0 : Int)), (16, .int .u64 (r0 : Int)), (6, .int .u64 0), (7, .int .u64 0), (2, .int .u64 (Y : Int)), (8, .int .u64 (s : Int)), (14, .int .u64 (d0 : Int)), (15, .int .u64 (Q1 : Int)), (17, .int .u64 (U2 : Int)), (9, .int .u64 (y1 : Int)), (10, .int .u64 (y0 : Int))]) (fun (q0, r0) w' => (r0 < 4294967296 ∧ Dg U2 y1 y0 d0 q0 r0) ∧ Mem w [] [] w') (fun (q0, r0) => q0) (p2, z2) (agC rfl (agC rfl (agC rfl (agC rfl (agC rfl (agC rfl (agC rfl (agC rfl (agC rfl (agC rfl (agC rfl agN))))))))))) (⟨⟨by omega, DU2⟩, hM3⟩) ?_
        rintro ⟨q0, r0⟩ ρ6 w6 ⟨⟨hr0, Dr0⟩, hM6⟩
        refine W_seq ?_
        refine W_seq ?_
        refine W_region ?_
        refine wl_q (r_move (.int _ _) rfl) rfl rfl ?_
        refine wl_q (r_bin (.bool (decide _)) rfl rfl rfl) rfl rfl ?_
        refine wl_q (r_move (.bool (decide _)) rfl) rfl rfl ?_
        refine wl_splitD 104 rfl (fun g104 => ?_) (fun g104 => ?_)
        · skip
          refine wl_skip rfl rfl ?_
          refine wl_skip rfl rfl ?_
          refine wl_skip rfl rfl ?_
          refine wl_skip rfl rfl ?_
          refine wl_skip rfl rfl ?_
          refine wl_skip rfl rfl ?_
          refine wl_skip rfl rfl ?_
          refine wl_skip rfl rfl ?_
          refine wl_q (r_pick true (.bool true) rfl rfl) rfl rfl ?_
          refine wl_nil ?_
          refine thenN ?_
          refine W_condT rfl ?_
          refine W_skip ?_
          refine thenN ?_
          refine W_block ?_
          refine W_seq ?_
          refine W_region ?_
          refine wl_q (r_move (.int _ _) rfl) rfl rfl ?_
          have hsr0 := dg_step (u := U2) (d := d0) (by omega) (by omega) Dr0 (by first | exact .inl (by omega) | exact .inr (by omega))
          have hlr0 := dg_qlt hy1 (by omega) Dr0
          have hqr0 := hsr0.1
          have D'r0 := hsr0.2
          refine wl_q (r_subK rfl rfl (wru64 _ (by omega) (by omega))) rfl rfl ?_
          refine wl_re 115 (.int .u64 ((q0 - 1 : Nat) : Int)) (iE (by omega)) ?_
          refine wl_q (r_assign (.int _ _) rfl) rfl rfl ?_
          refine wl_nil ?_
          refine thenN ?_
          refine W_seq ?_
          refine W_region ?_
          refine wl_q (r_move (.int _ _) rfl) rfl rfl ?_
          refine wl_q (r_move (.int _ _) rfl) rfl rfl ?_
          refine wl_q (r_addK rfl rfl (wru64 _ (by omega) (by omega))) rfl rfl ?_
          refine wl_re 118 (.int .u64 ((r0 + y1 : Nat) : Int)) (iE (by omega)) ?_
          refine wl_q (r_assign (.int _ _) rfl) rfl rfl ?_
          refine wl_nil ?_
          refine thenN ?_
          refine W_seq ?_
          refine W_region ?_
          refine wl_q (r_move (.int _ _) rfl) rfl rfl ?_
          refine wl_q (r_bin (.bool (decide _)) rfl rfl rfl) rfl rfl ?_
          refine wl_nil ?_
          refine thenN ?_
          refine W_condD rfl (fun h120 => ?_) (fun h120 => ?_)
          · skip
            have hxr0 : q0 - 1 = Q0 := (dg_break (by omega) (by omega) (by omega) D'r0 (by omega)).trans V.eQ0
            refine W_exit ?_
            refine blkX rfl ?_
            refine roundX ?_
            refine blkH ?_
            refine meetN () (agC (iv rfl (by omega)) (agC rfl (agC rfl (agC rfl (agC rfl (agC rfl (agC rfl (agC rfl agN)))))))) akN ?_
            exact hM6
          · skip
            refine W_skip ?_
            refine blkN ?_
            refine roundN (q0 - 1, r0 + y1) (agC rfl (agC rfl (agC rfl (agC rfl (agC rfl (agC rfl (agC rfl (agC rfl (agC rfl (agC rfl (agC rfl agN))))))))))) akN ?_ ?_
            · exact ⟨⟨by omega, D'r0⟩, hM6⟩
            · (show q0 - 1 < q0; omega)
        · skip
          refine wl_q (r_move (.int _ _) rfl) rfl rfl ?_
          refine wl_q (r_move (.int _ _) rfl) rfl rfl ?_
          refine wl_q (r_bin (.int _ _) rfl rfl rfl) rfl rfl ?_
          refine wl_re 107 (.int .u64 ((q0 * y0 : Nat) : Int)) (iE (mulU q0 y0 (by have := dg_qy (q := q0) (y0 := y0) (by omega) (by omega); omega))) ?_
          refine wl_q (r_move (.int _ _) rfl) rfl rfl ?_
          refine wl_q (r_mulK rfl rfl (wru64 _ (by omega) (by omega))) rfl rfl ?_
          refine wl_q (r_move (.int _ _) rfl) rfl rfl ?_
          refine wl_q (r_addK rfl rfl (wru64 _ (by omega) (by omega))) rfl rfl ?_
          refine wl_q (r_bin (.bool (decide _)) rfl rfl rfl) rfl rfl ?_
          refine wl_q (r_pick false (.bool (decide _)) rfl rfl) rfl rfl ?_
          refine wl_nil ?_
          refine thenN ?_
          refine W_condD rfl (fun h113 => ?_) (fun h113 => ?_)
          · skip
            refine W_skip ?_
            refine thenN ?_
            refine W_block ?_
            refine W_seq ?_
            refine W_region ?_
            refine wl_q (r_move (.int _ _) rfl) rfl rfl ?_
            have hsr0 := dg_step (u := U2) (d := d0) (by omega) (by omega) Dr0 (by first | exact .inl (by omega) | exact .inr (by omega))
            have hlr0 := dg_qlt hy1 (by omega) Dr0
            have hqr0 := hsr0.1
            have D'r0 := hsr0.2
            refine wl_q (r_subK rfl rfl (wru64 _ (by omega) (by omega))) rfl rfl ?_
            refine wl_re 115 (.int .u64 ((q0 - 1 : Nat) : Int)) (iE (by omega)) ?_
            refine wl_q (r_assign (.int _ _) rfl) rfl rfl ?_
            refine wl_nil ?_
            refine thenN ?_
            refine W_seq ?_
            refine W_region ?_
            refine wl_q (r_move (.int _ _) rfl) rfl rfl ?_
            refine wl_q (r_move (.int _ _) rfl) rfl rfl ?_
            refine wl_q (r_addK rfl rfl (wru64 _ (by omega) (by omega))) rfl rfl ?_
            refine wl_re 118 (.int .u64 ((r0 + y1 : Nat) : Int)) (iE (by omega)) ?_
            refine wl_q (r_assign (.int _ _) rfl) rfl rfl ?_
            refine wl_nil ?_
            refine thenN ?_
            refine W_seq ?_
            refine W_region ?_
            refine wl_q (r_move (.int _ _) rfl) rfl rfl ?_
            refine wl_q (r_bin (.bool (decide _)) rfl rfl rfl) rfl rfl ?_
            refine wl_nil ?_
            refine thenN ?_
            refine W_condD rfl (fun h120 => ?_) (fun h120 => ?_)
            · skip
              have hxr0 : q0 - 1 = Q0 := (dg_break (by omega) (by omega) (by omega) D'r0 (by omega)).trans V.eQ0
              refine W_exit ?_
              refine blkX rfl ?_
              refine roundX ?_
              refine blkH ?_
              refine meetN () (agC (iv rfl (by omega)) (agC rfl (agC rfl (agC rfl (agC rfl (agC rfl (agC rfl (agC rfl agN)))))))) akN ?_
              exact hM6
            · skip
              refine W_skip ?_
              refine blkN ?_
              refine roundN (q0 - 1, r0 + y1) (agC rfl (agC rfl (agC rfl (agC rfl (agC rfl (agC rfl (agC rfl (agC rfl (agC rfl (agC rfl (agC rfl agN))))))))))) akN ?_ ?_
              · exact ⟨⟨by omega, D'r0⟩, hM6⟩
              · (show q0 - 1 < q0; omega)
          · skip
            have hxr0 : q0 = Q0 := (dg_exit (by omega) Dr0 (by omega)).trans V.eQ0
            refine W_exit ?_
            refine thenX ?_
            refine roundX ?_
            refine blkH ?_
            refine meetN () (agC (iv rfl (by omega)) (agC rfl (agC rfl (agC rfl (agC rfl (agC rfl (agC rfl (agC rfl agN)))))))) akN ?_
            exact hM6
      · skip
        rintro _ ρ5 w5 hM5
        refine W_seq ?_
        refine W_region ?_
        refine wl_q (r_move (.int _ _) rfl) rfl rfl ?_
        refine wl_re 121 (.int .u64 (Q1 : Int)) (iE (by omega)) ?_
        refine wl_q (r_mulK rfl rfl (wru64 _ (by omega) (by omega))) rfl rfl ?_
        refine wl_q (r_move (.int _ _) rfl) rfl rfl ?_
        refine wl_re 123 (.int .u64 (Q0 : Int)) (iE (by omega)) ?_
        refine wl_q (r_addK rfl rfl (wru64 _ (by omega) (by omega))) rfl rfl ?_
        refine wl_q (r_move (.int _ _) rfl) rfl rfl ?_
        refine wl_q (r_bin (.int _ _) rfl rfl rfl) rfl rfl ?_
        refine wl_q (r_move (.int _ _) rfl) rfl rfl ?_
        refine wl_q (r_bin (.int _ _) rfl rfl rfl) rfl rfl ?_
        refine wl_q (r_move (.int _ _) rfl) rfl rfl ?_
        refine wl_re 129 (.int .u64 (Q0 : Int)) (iE (by omega)) ?_
        refine wl_q (r_move (.int _ _) rfl) rfl rfl ?_
        refine wl_q (r_bin (.int _ _) rfl rfl rfl) rfl rfl ?_
        refine wl_re 131 (.int .u64 ((Q0 * Y % 18446744073709551616 : Nat) : Int)) (iE (mulUm Q0 Y)) ?_
        refine wl_q (r_bin (.int _ _) rfl rfl rfl) rfl rfl ?_
        refine wl_re 132 (.int .u64 (R : Int)) (iE (by have := V.eR; rw [wrU, wrU, wrU]; omega)) ?_
        refine wl_q (r_move (.int _ _) rfl) rfl rfl ?_
        refine wl_q (r_shr rfl rfl (by omega)) rfl rfl ?_
        refine wl_re 134 (.int .u64 ((R / 2 ^ s : Nat) : Int)) (iE (u_shr R s _ rfl (by omega))) ?_
        refine wl_q (r_assign (.int _ _) rfl) rfl rfl ?_
        refine wl_q (r_assign (.int _ _) rfl) rfl rfl ?_
        refine wl_nil ?_
        refine thenN ?_
        refine W_ret ?_
        skip
        refine fin2 (.int _ _) (.int _ _) rfl rfl ?_
        exact ⟨by rw [V.fq, V.fr]; exact tupE (iE (by omega)) rfl, hM5.below⟩

set_option maxHeartbeats 4000000 in
theorem magnitude (w : World) (a : Int) (h0 : -9223372036854775808 ≤ a) (h1 : a ≤ 9223372036854775807) :
    Calls Tryz.prog 155 #[.int .i64 a] w (fun ex w' => ∃ v, ex = .returned v ∧ (fun v w' => v = .int .u64 ((a.natAbs : Nat) : Int) ∧ Below w.heap.size w w') v w') := by
  refine calls_of_W #[.tmp 2] 10 Tryz.func155 rfl Tryz.results155 Tryz.ntmps155 rfl ?_
  have M0 := Mem.refl w
  refine W_seq ?_
  refine W_region ?_
  refine wl_q (r_assign (.int _ _) rfl) rfl rfl ?_
  refine wl_nil ?_
  refine thenN ?_
  refine W_seq ?_
  refine W_seq ?_
  refine W_region ?_
  refine wl_q (r_move (.int _ _) rfl) rfl rfl ?_
  refine wl_q (r_bin (.bool (decide _)) rfl rfl rfl) rfl rfl ?_
  refine wl_nil ?_
  refine thenN ?_
  refine W_condD rfl (fun h4 => ?_) (fun h4 => ?_)
  · skip
    refine W_seq ?_
    refine W_region ?_
    refine wl_q (r_move (.int _ _) rfl) rfl rfl ?_
    refine wl_q (r_conv us2 Tryz.underlying26 rfl) rfl rfl ?_
    refine wl_q (r_neg rfl) rfl rfl ?_
    refine wl_re 7 (.int .u64 ((a.natAbs : Nat) : Int)) (iE (by rw [wrU, wrU]; omega)) ?_
    refine wl_q (r_assign (.int _ _) rfl) rfl rfl ?_
    refine wl_nil ?_
    refine thenN ?_
    refine W_ret ?_
    refine thenR ?_
    skip
    refine fin1 (.int _ _) rfl ?_
    exact ⟨rfl, M0.below⟩
  · skip
    refine W_skip ?_
    refine thenN ?_
    refine W_seq ?_
    refine W_region ?_
    refine wl_q (r_move (.int _ _) rfl) rfl rfl ?_
    refine wl_q (r_conv us2 Tryz.underlying26 rfl) rfl rfl ?_
    refine wl_re 9 (.int .u64 ((a.natAbs : Nat) : Int)) (iE (by rw [wrU]; omega)) ?_
    refine wl_q (r_assign (.int _ _) rfl) rfl rfl ?_
    refine wl_nil ?_
    refine thenN ?_
    refine W_ret ?_
    skip
    refine fin1 (.int _ _) rfl ?_
    exact ⟨rfl, M0.below⟩

set_option maxHeartbeats 4000000 in
theorem signer (w : World) (s : Bool) :
    Calls Tryz.prog 157 #[.bool s] w (fun ex w' => ∃ v, ex = .returned v ∧ (fun v w' => ∃ b, v = .func (.func 159) #[] #[.pointer (some ⟨b, 0, none⟩)] ∧ Mem w [] [(some b, bc [.bool s] 4)] w') v w') := by
  refine calls_of_W #[.tmp 2] 4 Tryz.func157 rfl Tryz.results157 Tryz.ntmps157 rfl ?_
  have M0 := Mem.refl w
  refine W_seq ?_
  refine W_region ?_
  refine wl_box (.bool _) M0 rfl rfl rfl (fun b1 w1 M1 => ?_)
  refine wl_q (r_assign (_) rfl) rfl rfl ?_
  refine wl_nil ?_
  refine thenN ?_
  refine W_seq ?_
  refine W_region ?_
  refine wl_q (r_makeFuncV [] [.pointer _] rfl rfl) rfl rfl ?_
  refine wl_q (r_assign (.func _ _ _) rfl) rfl rfl ?_
  refine wl_nil ?_
  refine thenN ?_
  refine W_ret ?_
  skip
  refine fin1 (.func _ _ _) rfl ?_
  exact ⟨b1, rfl, M1⟩

set_option maxHeartbeats 4000000 in
theorem signer1 (w : World) (q : Nat) (s : Bool) (b : Nat) (hq : q ≤ 4611686018427387904) (K : Rd w 1 (some ⟨b, 0, none⟩) 1 [[.bool s]]) :
    Calls Tryz.prog 159 #[.int .u64 (q : Int), .pointer (some ⟨b, 0, none⟩)] w (fun ex w' => ∃ v, ex = .returned v ∧ (fun v w' => v = .tuple #[.int .i64 (if s = true then -(q : Int) else (q : Int)), .bool true] ∧ Below w.heap.size w w') v w') := by
  rw [← elt_zero b]
  refine calls_of_W #[.tmp 3, .tmp 4] 15 Tryz.func159 rfl Tryz.results159 Tryz.ntmps159 rfl ?_
  have M0 := Mem.refl w
  refine W_seq ?_
  refine W_region ?_
  refine wl_q (r_assign (.int _ _) rfl) rfl rfl ?_
  refine wl_q (r_assign (.bool false) rfl) rfl rfl ?_
  refine wl_nil ?_
  refine thenN ?_
  refine W_seq ?_
  refine W_seq ?_
  refine W_region ?_
  refine wl_q (r_ldE (o := 0) (.bool _) one4 (K.mem M0) (show ([[.bool s]] : List (List Value))[0]? = some [.bool s] from rfl) rfl rfl) rfl rfl ?_
  refine wl_nil ?_
  refine thenN ?_
  refine W_cond _ rfl (fun h5 => ?_) (fun h5 => ?_)
  · skip
    refine W_seq ?_
    refine W_region ?_
    refine wl_q (r_move (.int _ _) rfl) rfl rfl ?_
    refine wl_q (r_neg rfl) rfl rfl ?_
    refine wl_q (r_conv us26 Tryz.underlying2 rfl) rfl rfl ?_
    refine wl_re 8 (.int .i64 (-(q : Int))) (iE (wrI_neg q hq)) ?_
    refine wl_q (r_move (.int _ _) rfl) rfl rfl ?_
    refine wl_q (r_bin (.bool (decide _)) rfl rfl rfl) rfl rfl ?_
    refine wl_re 10 (.bool true) (bT (by omega)).symm ?_
    refine wl_q (r_assign (.int _ _) rfl) rfl rfl ?_
    refine wl_q (r_assign (.bool true) rfl) rfl rfl ?_
    refine wl_nil ?_
    refine thenN ?_
    refine W_ret ?_
    refine thenR ?_
    skip
    refine fin2 (.int _ _) (.bool true) rfl rfl ?_
    exact ⟨by simp [h5], M0.below⟩
  · skip
    refine W_skip ?_
    refine thenN ?_
    refine W_seq ?_
    refine W_region ?_
    refine wl_q (r_move (.int _ _) rfl) rfl rfl ?_
    refine wl_q (r_convK us26 Tryz.underlying2 rfl (w64 _ (by omega) (by omega))) rfl rfl ?_
    refine wl_q (r_move (.int _ _) rfl) rfl rfl ?_
    refine wl_q (r_bin (.bool (decide _)) rfl rfl rfl) rfl rfl ?_
    refine wl_re 14 (.bool true) (bT (by omega)).symm ?_
    refine wl_q (r_assign (.int _ _) rfl) rfl rfl ?_
    refine wl_q (r_assign (.bool true) rfl) rfl rfl ?_
    refine wl_nil ?_
    refine thenN ?_
    refine W_ret ?_
    skip
    refine fin2 (.int _ _) (.bool true) rfl rfl ?_
    exact ⟨by simp [h5], M0.below⟩

end Go.Proofs.YtmcddmhkjcgneaaGreatDoor

/- Walks of Go functions over the frame of this claim: what each computes, for every input of the stated types (W2). -/
set_option linter.unusedVariables false
set_option linter.unusedSimpArgs false
set_option linter.unnecessarySimpa false
namespace Go.Proofs.YtmcddmhkjcgneaaGreatDoor
open Go.Bil
open Go.RowKit (Below)
open Go.Proofs

set_option maxHeartbeats 8000000 in
theorem mulDiv (w : World) (a n d : Int) (ha : -4294967296 ≤ a ∧ a ≤ 4294967296) (hn : 0 ≤ n) (hnd : n ≤ d) (hd0 : 0 < d) (hd : d ≤ 9223372036854775807) :
    Calls Tryz.prog 152 #[.int .i64 a, .int .i64 n, .int .i64 d] w (fun ex w' => ∃ v, ex = .returned v ∧ (fun v w' => v = .tuple #[.int .i64 (a * n / d), .int .i64 0] ∧ Below w.heap.size w w') v w') := by
  obtain ⟨m, rfl⟩ := Int.eq_ofNat_of_zero_le hn
  obtain ⟨z, rfl⟩ := Int.eq_ofNat_of_zero_le (Int.le_of_lt hd0)
  have hmd := md_facts (a := a) (m := m) (z := z) ha (by omega) (by omega) (by omega)
  obtain ⟨q, hq⟩ : ∃ q, a.natAbs * m / z = q := ⟨_, rfl⟩
  obtain ⟨r, hr⟩ : ∃ r, a.natAbs * m % z = r := ⟨_, rfl⟩
  have hql : q ≤ 4294967296 := by rw [← hq]; exact hmd.2.2.2
  refine calls_of_W #[.tmp 6, .tmp 7] 65 Tryz.func152 rfl Tryz.results152 Tryz.ntmps152 rfl ?_
  have M0 := Mem.refl w
  refine W_seq ?_
  refine W_region ?_
  refine wl_q (r_assign (.int _ _) rfl) rfl rfl ?_
  refine wl_q (r_assign (.int _ _) rfl) rfl rfl ?_
  refine wl_nil ?_
  refine thenN ?_
  refine W_seq ?_
  refine W_seq ?_
  refine W_region ?_
  refine wl_q (r_move (.int _ _) rfl) rfl rfl ?_
  refine wl_q (r_bin (.bool (decide _)) rfl rfl rfl) rfl rfl ?_
  refine wl_re 17 (.bool false) (bF (by omega)).symm ?_
  refine wl_nil ?_
  refine thenN ?_
  refine W_condF rfl ?_
  refine W_skip ?_
  refine thenN ?_
  refine W_seq ?_
  refine W_region ?_
  refine wl_q (r_move (.int _ _) rfl) rfl rfl ?_
  refine wl_cal cal155 rfl rfl rfl ?_
  refine (magnitude _ a (by omega) (by omega)).mono ?_
  rintro _ w1 ⟨v1, rfl, ⟨rfl, hb1⟩⟩
  refine ⟨_, rfl, ?_⟩
  have M1 := M0.callB hb1
  refine wl_q (r_move (.int _ _) rfl) rfl rfl ?_
  refine wl_cal cal155 rfl rfl rfl ?_
  refine (magnitude _ (m : Int) (by omega) (by omega)).mono ?_
  rintro _ w2 ⟨v2, rfl, ⟨rfl, hb2⟩⟩
  refine ⟨_, rfl, ?_⟩
  have M2 := M1.callB hb2
  refine wl_re 22 (.int .u64 (m : Int)) (iE (by omega)) ?_
  refine wl_cal cal154 rfl rfl rfl ?_
  refine (mul64 _ a.natAbs m (by omega) (by omega)).mono ?_
  rintro _ w3 ⟨v3, rfl, ⟨rfl, hb3⟩⟩
  refine ⟨_, rfl, ?_⟩
  have M3 := M2.callB hb3
  refine wl_q (r_move (.tuple (List.toArray _)) rfl) rfl rfl ?_
  refine wl_q (r_ext (.int _ _) rfl rfl) rfl rfl ?_
  refine wl_q (r_ext (.int _ _) rfl rfl) rfl rfl ?_
  refine wl_q (r_assign (.int _ _) rfl) rfl rfl ?_
  refine wl_q (r_assign (.int _ _) rfl) rfl rfl ?_
  refine wl_nil ?_
  refine thenN ?_
  refine W_seq ?_
  refine W_region ?_
  refine wl_q (r_move (.int _ _) rfl) rfl rfl ?_
  refine wl_cal cal155 rfl rfl rfl ?_
  refine (magnitude _ (z : Int) (by omega) (by omega)).mono ?_
  rintro _ w4 ⟨v4, rfl, ⟨rfl, hb4⟩⟩
  refine ⟨_, rfl, ?_⟩
  have M4 := M3.callB hb4
  refine wl_re 27 (.int .u64 (z : Int)) (iE (by omega)) ?_
  refine wl_q (r_assign (.int _ _) rfl) rfl rfl ?_
  refine wl_nil ?_
  refine thenN ?_
  refine W_seq ?_
  refine W_seq ?_
  refine W_region ?_
  refine wl_q (r_move (.int _ _) rfl) rfl rfl ?_
  refine wl_q (r_move (.int _ _) rfl) rfl rfl ?_
  refine wl_q (r_bin (.bool (decide _)) rfl rfl rfl) rfl rfl ?_
  refine wl_re 30 (.bool false) (bF (by have := hmd.1; omega)).symm ?_
  refine wl_nil ?_
  refine thenN ?_
  refine W_condF rfl ?_
  refine W_skip ?_
  refine thenN ?_
  refine W_seq ?_
  refine W_region ?_
  refine wl_q (r_move (.int _ _) rfl) rfl rfl ?_
  refine wl_q (r_move (.int _ _) rfl) rfl rfl ?_
  refine wl_q (r_move (.int _ _) rfl) rfl rfl ?_
  refine wl_cal cal156 rfl rfl rfl ?_
  refine (div64 _ (a.natAbs * m / 18446744073709551616) (a.natAbs * m % 18446744073709551616) z hmd.1 (by omega) hmd.2.1).mono ?_
  rintro _ w5 ⟨v5, rfl, ⟨rfl, hb5⟩⟩
  refine ⟨_, rfl, ?_⟩
  have M5 := M4.callB hb5
  refine wl_q (r_move (.tuple (List.toArray _)) rfl) rfl rfl ?_
  refine wl_q (r_ext (.int _ _) rfl rfl) rfl rfl ?_
  refine wl_re 36 (.int .u64 (q : Int)) (iE (by rw [hmd.2.2.1, hq])) ?_
  refine wl_q (r_ext (.int _ _) rfl rfl) rfl rfl ?_
  refine wl_re 37 (.int .u64 (r : Int)) (iE (by rw [hmd.2.2.1, hr])) ?_
  refine wl_q (r_assign (.int _ _) rfl) rfl rfl ?_
  refine wl_q (r_assign (.int _ _) rfl) rfl rfl ?_
  refine wl_nil ?_
  refine thenN ?_
  refine W_seq ?_
  refine W_region ?_
  refine wl_q (r_move (.int _ _) rfl) rfl rfl ?_
  refine wl_q (r_bin (.bool (decide _)) rfl rfl rfl) rfl rfl ?_
  refine wl_q (r_move (.int _ _) rfl) rfl rfl ?_
  refine wl_q (r_bin (.bool (decide _)) rfl rfl rfl) rfl rfl ?_
  refine wl_re 41 (.bool false) (bF (by omega)).symm ?_
  refine wl_q (r_binB _ Tryz.underlying4 rfl rfl rfl) rfl rfl ?_
  refine wl_re 42 (.bool (decide (a < 0))) (bv rfl (by simp)) ?_
  refine wl_q (r_move (.int _ _) rfl) rfl rfl ?_
  refine wl_q (r_bin (.bool (decide _)) rfl rfl rfl) rfl rfl ?_
  refine wl_re 44 (.bool false) (bF (by omega)).symm ?_
  refine wl_q (r_binB _ Tryz.underlying4 rfl rfl rfl) rfl rfl ?_
  refine wl_re 45 (.bool (decide (a < 0))) (bv rfl (by simp)) ?_
  refine wl_q (r_assign (.bool (decide _)) rfl) rfl rfl ?_
  refine wl_nil ?_
  refine thenN ?_
  refine W_seq ?_
  refine W_seq ?_
  refine W_region ?_
  refine wl_q (r_move (.bool (decide _)) rfl) rfl rfl ?_
  refine wl_q (r_move (.bool (decide _)) rfl) rfl rfl ?_
  refine wl_splitD 47 rfl (fun g47 => ?_) (fun g47 => ?_)
  · skip
    refine wl_q (r_move (.int _ _) rfl) rfl rfl ?_
    refine wl_q (r_bin (.bool (decide _)) rfl rfl rfl) rfl rfl ?_
    refine wl_q (r_pick true (.bool (decide _)) rfl rfl) rfl rfl ?_
    refine wl_nil ?_
    refine thenN ?_
    refine W_condD rfl (fun h50 => ?_) (fun h50 => ?_)
    · skip
      refine W_seq ?_
      refine W_region ?_
      refine wl_q (r_move (.int _ _) rfl) rfl rfl ?_
      refine wl_q (r_bin (.int _ _) rfl rfl rfl) rfl rfl ?_
      refine wl_re 52 (.int .u64 ((q + 1 : Nat) : Int)) (iE (by rw [wrU]; omega)) ?_
      refine wl_q (r_assign (.int _ _) rfl) rfl rfl ?_
      refine wl_nil ?_
      refine thenN ?_
      refine W_seq ?_
      refine W_region ?_
      refine wl_q (r_move (.int _ _) rfl) rfl rfl ?_
      refine wl_q (r_bin (.bool (decide _)) rfl rfl rfl) rfl rfl ?_
      refine wl_re 54 (.bool false) (bF (by omega)).symm ?_
      refine wl_nil ?_
      refine thenN ?_
      refine W_condF rfl ?_
      refine W_skip ?_
      refine thenN ?_
      refine W_seq ?_
      refine W_region ?_
      refine wl_q (r_move (.bool (decide _)) rfl) rfl rfl ?_
      refine wl_cal cal157 rfl rfl rfl ?_
      refine (signer _ _).mono ?_
      rintro _ w6 ⟨v6, rfl, ⟨bs, rfl, hM6⟩⟩
      refine ⟨_, rfl, ?_⟩
      have M6 : Mem _ _ [_] _ := M5.call0 hM6
      refine wl_q (r_move (.int _ _) rfl) rfl rfl ?_
      refine wl_cal cal159 rfl rfl rfl ?_
      refine (signer1 _ _ _ bs (by omega) (rdOf 0 M6 rfl rfl)).mono ?_
      rintro _ w7 ⟨v7, rfl, ⟨rfl, hb7⟩⟩
      refine ⟨_, rfl, ?_⟩
      have M7 := M6.callB hb7
      refine wl_q (r_move (.tuple (List.toArray _)) rfl) rfl rfl ?_
      refine wl_q (r_ext (.int _ _) rfl rfl) rfl rfl ?_
      refine wl_q (r_ext (.bool true) rfl rfl) rfl rfl ?_
      refine wl_q (r_assign (.int _ _) rfl) rfl rfl ?_
      refine wl_q (r_assign (.bool true) rfl) rfl rfl ?_
      refine wl_nil ?_
      refine thenN ?_
      refine W_seq ?_
      refine W_seq ?_
      refine W_region ?_
      refine wl_q (r_move (.bool true) rfl) rfl rfl ?_
      refine wl_q (r_notB false rfl rfl) rfl rfl ?_
      refine wl_nil ?_
      refine thenN ?_
      refine W_condF rfl ?_
      refine W_skip ?_
      refine thenN ?_
      refine W_seq ?_
      refine W_region ?_
      refine wl_q (r_move (.int _ _) rfl) rfl rfl ?_
      refine wl_q (r_assign (.int _ _) rfl) rfl rfl ?_
      refine wl_q (r_assign (.int _ _) rfl) rfl rfl ?_
      refine wl_nil ?_
      refine thenN ?_
      refine W_ret ?_
      skip
      refine fin2 (.int _ _) (.int _ _) rfl rfl ?_
      exact ⟨tupE (iE (by first | (rw [if_pos (decide_eq_true (by omega)), md_neg (by omega) (by omega), hq, hr]; split <;> omega) | (rw [if_neg (by simp; omega), ← md_pos (by omega), hq]))) rfl, M7.below⟩
    · skip
      refine W_skip ?_
      refine thenN ?_
      refine W_seq ?_
      refine W_region ?_
      refine wl_q (r_move (.bool (decide _)) rfl) rfl rfl ?_
      refine wl_cal cal157 rfl rfl rfl ?_
      refine (signer _ _).mono ?_
      rintro _ w8 ⟨v8, rfl, ⟨bs, rfl, hM8⟩⟩
      refine ⟨_, rfl, ?_⟩
      have M8 : Mem _ _ [_] _ := M5.call0 hM8
      refine wl_q (r_move (.int _ _) rfl) rfl rfl ?_
      refine wl_cal cal159 rfl rfl rfl ?_
      refine (signer1 _ _ _ bs (by omega) (rdOf 0 M8 rfl rfl)).mono ?_
      rintro _ w9 ⟨v9, rfl, ⟨rfl, hb9⟩⟩
      refine ⟨_, rfl, ?_⟩
      have M9 := M8.callB hb9
      refine wl_q (r_move (.tuple (List.toArray _)) rfl) rfl rfl ?_
      refine wl_q (r_ext (.int _ _) rfl rfl) rfl rfl ?_
      refine wl_q (r_ext (.bool true) rfl rfl) rfl rfl ?_
      refine wl_q (r_assign (.int _ _) rfl) rfl rfl ?_
      refine wl_q (r_assign (.bool true) rfl) rfl rfl ?_
      refine wl_nil ?_
      refine thenN ?_
      refine W_seq ?_
      refine W_seq ?_
      refine W_region ?_
      refine wl_q (r_move (.bool true) rfl) rfl rfl ?_
      refine wl_q (r_notB false rfl rfl) rfl rfl ?_
      refine wl_nil ?_
      refine thenN ?_
      refine W_condF rfl ?_
      refine W_skip ?_
      refine thenN ?_
      refine W_seq ?_
      refine W_region ?_
      refine wl_q (r_move (.int _ _) rfl) rfl rfl ?_
      refine wl_q (r_assign (.int _ _) rfl) rfl rfl ?_
      refine wl_q (r_assign (.int _ _) rfl) rfl rfl ?_
      refine wl_nil ?_
      refine thenN ?_
      refine W_ret ?_
      skip
      refine fin2 (.int _ _) (.int _ _) rfl rfl ?_
      exact ⟨tupE (iE (by first | (rw [if_pos (decide_eq_true (by omega)), md_neg (by omega) (by omega), hq, hr]; split <;> omega) | (rw [if_neg (by simp; omega), ← md_pos (by omega), hq]))) rfl, M9.below⟩
  · skip
    refine wl_skip rfl rfl ?_
    refine wl_skip rfl rfl ?_
    refine wl_q (r_pick false (.bool false) rfl rfl) rfl rfl ?_
    refine wl_nil ?_
    refine thenN ?_
    refine W_condF rfl ?_
    refine W_skip ?_
    refine thenN ?_
    refine W_seq ?_
    refine W_region ?_
    refine wl_q (r_move (.bool (decide _)) rfl) rfl rfl ?_
    refine wl_cal cal157 rfl rfl rfl ?_
    refine (signer _ _).mono ?_
    rintro _ w10 ⟨v10, rfl, ⟨bs, rfl, hM10⟩⟩
    refine ⟨_, rfl, ?_⟩
    have M10 : Mem _ _ [_] _ := M5.call0 hM10
    refine wl_q (r_move (.int _ _) rfl) rfl rfl ?_
    refine wl_cal cal159 rfl rfl rfl ?_
    refine (signer1 _ _ _ bs (by omega) (rdOf 0 M10 rfl rfl)).mono ?_
    rintro _ w11 ⟨v11, rfl, ⟨rfl, hb11⟩⟩
    refine ⟨_, rfl, ?_⟩
    have M11 := M10.callB hb11
    refine wl_q (r_move (.tuple (List.toArray _)) rfl) rfl rfl ?_
    refine wl_q (r_ext (.int _ _) rfl rfl) rfl rfl ?_
    refine wl_q (r_ext (.bool true) rfl rfl) rfl rfl ?_
    refine wl_q (r_assign (.int _ _) rfl) rfl rfl ?_
    refine wl_q (r_assign (.bool true) rfl) rfl rfl ?_
    refine wl_nil ?_
    refine thenN ?_
    refine W_seq ?_
    refine W_seq ?_
    refine W_region ?_
    refine wl_q (r_move (.bool true) rfl) rfl rfl ?_
    refine wl_q (r_notB false rfl rfl) rfl rfl ?_
    refine wl_nil ?_
    refine thenN ?_
    refine W_condF rfl ?_
    refine W_skip ?_
    refine thenN ?_
    refine W_seq ?_
    refine W_region ?_
    refine wl_q (r_move (.int _ _) rfl) rfl rfl ?_
    refine wl_q (r_assign (.int _ _) rfl) rfl rfl ?_
    refine wl_q (r_assign (.int _ _) rfl) rfl rfl ?_
    refine wl_nil ?_
    refine thenN ?_
    refine W_ret ?_
    skip
    refine fin2 (.int _ _) (.int _ _) rfl rfl ?_
    exact ⟨tupE (iE (by first | (rw [if_pos (decide_eq_true (by omega)), md_neg (by omega) (by omega), hq, hr]; split <;> omega) | (rw [if_neg (by simp; omega), ← md_pos (by omega), hq]))) rfl, M11.below⟩

end Go.Proofs.YtmcddmhkjcgneaaGreatDoor
