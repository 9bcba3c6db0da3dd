/- Part of the proof of the laws of this seat: G10e, G10f, G10g, G10h, G10i, G10j, G10k, G10l, G10o. No conditions. -/
import Derived.Test.YtjbhobahebebkaaDoorK5
import Derived.Test.YtjbhobahebebkaaDoorK23
import Derived.Test.YtjbhobahebebkaaDoorK24
import Derived.Test.YtjbhobahebebkaaDoorK18
/- Walks of Go functions over the frame of this claim: what each computes, for every input of the stated types (G10e). -/
set_option linter.unusedVariables false
set_option linter.unusedSimpArgs false
set_option linter.unnecessarySimpa false
namespace Go.Proofs.YtjbhobahebebkaaDoor
open Go.Bil
open Go.RowKit (Below)
open Go.Proofs

set_option maxHeartbeats 4000000 in
theorem ref01_FloorG (w : World) (a b : Int) (hb : 0 < b) (h0 : -1000000000000000000 ≤ a) (h1 : a ≤ 1000000000000000000) :
    Calls Tryd.prog 51 #[.int .i64 a, .int .i64 b] w (fun ex w' => ∃ v, ex = .returned v ∧ (fun v w' => v = .int .i64 (a / b) ∧ Below w.heap.size w w') v w') := by
  have hf := floor_trunc (a := a) hb
  have hb1 := tdiv_small a b
  refine calls_of_W #[.tmp 4] 16 Tryd.func51 rfl Tryd.results51 Tryd.ntmps51 rfl ?_
  have M0 := Mem.refl w
  refine W_seq ?_
  refine W_region ?_
  refine wl_q (r_assign (.int _ _) rfl) rfl rfl ?_
  refine wl_nil ?_
  refine thenN ?_
  refine W_seq ?_
  refine W_region ?_
  refine wl_q (r_move (.int _ _) rfl) rfl rfl ?_
  refine wl_q (r_move (.int _ _) rfl) rfl rfl ?_
  refine wl_q (r_quo rfl rfl (by omega)) rfl rfl ?_
  refine wl_re 8 (.int .i64 (a.tdiv b)) (iE (w64 _ (by omega) (by omega))) ?_
  refine wl_q (r_assign (.int _ _) rfl) rfl rfl ?_
  refine wl_nil ?_
  refine thenN ?_
  refine W_seq ?_
  refine W_seq ?_
  refine W_region ?_
  refine wl_q (r_move (.int _ _) rfl) rfl rfl ?_
  refine wl_q (r_move (.int _ _) rfl) rfl rfl ?_
  refine wl_q (r_rem rfl rfl (by omega)) rfl rfl ?_
  refine wl_q (r_bin (.bool (decide _)) rfl rfl rfl) rfl rfl ?_
  refine wl_nil ?_
  refine thenN ?_
  refine W_condD rfl (fun h12 => ?_) (fun h12 => ?_)
  · skip
    refine W_seq ?_
    refine W_region ?_
    refine wl_q (r_move (.int _ _) rfl) rfl rfl ?_
    refine wl_q (r_sub rfl rfl (by omega) (by omega)) rfl rfl ?_
    refine wl_q (r_assign (.int _ _) rfl) rfl rfl ?_
    refine wl_nil ?_
    refine thenN ?_
    refine W_ret ?_
    refine thenR ?_
    skip
    refine fin1 (.int _ _) rfl ?_
    exact ⟨iE (by first | exact hf.1 (by omega) | exact hf.2 (by omega)), M0.below⟩
  · skip
    refine W_skip ?_
    refine thenN ?_
    refine W_seq ?_
    refine W_region ?_
    refine wl_q (r_move (.int _ _) rfl) rfl rfl ?_
    refine wl_q (r_assign (.int _ _) rfl) rfl rfl ?_
    refine wl_nil ?_
    refine thenN ?_
    refine W_ret ?_
    skip
    refine fin1 (.int _ _) rfl ?_
    exact ⟨iE (by first | exact hf.1 (by omega) | exact hf.2 (by omega)), M0.below⟩

set_option maxHeartbeats 4000000 in
theorem ref09_Column (w : World) (x : Int) (hx : -2147483648 ≤ x ∧ x ≤ 2147483647) :
    Calls Tryd.prog 40 #[.int .i32 x] w (fun ex w' => ∃ v, ex = .returned v ∧ (fun v w' => v = .int .i32 (cdiv x) ∧ Below w.heap.size w w') v w') := by
  have hcr := cdiv_range hx.1 hx.2
  refine calls_of_W #[.tmp 2] 7 Tryd.func40 rfl Tryd.results40 Tryd.ntmps40 rfl ?_
  have M0 := Mem.refl w
  refine W_seq ?_
  refine W_region ?_
  refine wl_q (r_assign (.int _ _) rfl) rfl rfl ?_
  refine wl_nil ?_
  refine thenN ?_
  refine W_seq ?_
  refine W_region ?_
  refine wl_q (r_move (.int _ _) rfl) rfl rfl ?_
  refine wl_q (r_convK us21 Tryd.underlying2 rfl (w64 _ (by omega) (by omega))) rfl rfl ?_
  refine wl_cal cal51 rfl rfl rfl ?_
  refine (ref01_FloorG _ x 4194304 (by decide) (by omega) (by omega)).mono ?_
  rintro _ w1 ⟨v1, rfl, ⟨rfl, hb1⟩⟩
  refine ⟨_, rfl, ?_⟩
  have M1 := M0.callB hb1
  refine wl_re 5 (.int .i64 (cdiv x)) (iE (cdiv_eq x).symm) ?_
  refine wl_q (r_convK us2 Tryd.underlying21 rfl (wr32 _ (by omega) (by omega))) rfl rfl ?_
  refine wl_q (r_assign (.int _ _) rfl) rfl rfl ?_
  refine wl_nil ?_
  refine thenN ?_
  refine W_ret ?_
  skip
  refine fin1 (.int _ _) rfl ?_
  exact ⟨rfl, M1.below⟩

set_option maxHeartbeats 4000000 in
theorem ref09_Count (w : World) (a : Bx) (ha : Okx a) :
    Calls Tryd.prog 23 #[(.agg (bxCells a).toArray)] w (fun ex w' => ∃ v, ex = .returned v ∧ (fun v w' => ∃ z : Int, v = .int .i64 z ∧ Below w.heap.size w w') v w') := by
  have r0 := cdiv_range ha.x0.1 ha.x0.2
  have r1 := cdiv_range ha.x1.1 ha.x1.2
  have r2 := cdiv_range ha.y0.1 ha.y0.2
  have r3 := cdiv_range ha.y1.1 ha.y1.2
  have rp := mulB (a := cdiv a.x1 - cdiv a.x0 + 1) (b := cdiv a.y1 - cdiv a.y0 + 1) (A := 2048) (B := 2048) (by omega) (by omega)
  refine calls_of_W #[.tmp 2] 26 Tryd.func23 rfl Tryd.results23 Tryd.ntmps23 rfl ?_
  have M0 := Mem.refl w
  refine W_seq ?_
  refine W_region ?_
  refine wl_box (.agg (List.toArray _)) M0 rfl rfl rfl (fun b1 w1 M1 => ?_)
  refine wl_q (r_assign (.int _ _) rfl) rfl rfl ?_
  refine wl_nil ?_
  refine thenN ?_
  refine W_seq ?_
  refine W_seq ?_
  refine W_region ?_
  refine wl_q (r_ldW 0 agg47 M1 rfl rfl rfl) rfl rfl ?_
  refine wl_cal cal38 rfl rfl rfl ?_
  refine (ref08_Empty _ a).mono ?_
  rintro _ w2 ⟨v2, rfl, ⟨rfl, hb2⟩⟩
  refine ⟨_, rfl, ?_⟩
  have M2 := M1.callB hb2
  refine wl_nil ?_
  refine thenN ?_
  refine W_condD rfl (fun h4 => ?_) (fun h4 => ?_)
  · skip
    refine W_seq ?_
    refine W_region ?_
    refine wl_q (r_assign (.int _ _) rfl) rfl rfl ?_
    refine wl_nil ?_
    refine thenN ?_
    refine W_ret ?_
    refine thenR ?_
    skip
    refine fin1 (.int _ _) rfl ?_
    exact ⟨_, rfl, M2.below⟩
  · skip
    refine W_skip ?_
    refine thenN ?_
    refine W_seq ?_
    refine W_draw [(0, 0), (1, 1), (4, 0), (5, 1), (10, 0), (11, 1), (14, 0), (15, 1), (2, 2), (3, 0), (6, 2), (7, 0), (8, 0), (9, 0), (12, 2), (13, 0), (16, 2), (17, 0), (18, 0), (19, 0), (20, 0), (21, 0)] mixed rfl (by kernel_rfl) (fun w3 hb3 hh3 => ?_)
    have M3 := M2.drew hb3 hh3
    refine D_p rfl rfl rfl (fun _ => r_fieldAddr 2 fld47_2 rfl) ?_
    refine D_r rfl rfl rfl (r_ld 0 (.int _ _) one21 M3 rfl rfl rfl) ?_
    refine D_p rfl rfl rfl (fun _ => r_fieldAddr 0 fld47_0 rfl) ?_
    refine D_r rfl rfl rfl (r_ld 0 (.int _ _) one21 M3 rfl rfl rfl) ?_
    refine D_p rfl rfl rfl (fun _ => r_fieldAddr 3 fld47_3 rfl) ?_
    refine D_r rfl rfl rfl (r_ld 0 (.int _ _) one21 M3 rfl rfl rfl) ?_
    refine D_p rfl rfl rfl (fun _ => r_fieldAddr 1 fld47_1 rfl) ?_
    refine D_r rfl rfl rfl (r_ld 0 (.int _ _) one21 M3 rfl rfl rfl) ?_
    refine D_e [false, false, false, true] rfl (by kernel_rfl) ?_
    refine wl_cal cal40 rfl rfl rfl ?_
    refine (ref09_Column _ a.x1 ha.x1).mono ?_
    rintro _ w4 ⟨v4, rfl, ⟨rfl, hb4⟩⟩
    refine ⟨_, rfl, ?_⟩
    have M4 := M3.callB hb4
    refine wl_nil (thenN ⟨(alC (Yl_of rfl (r_ld 0 (.int _ _) one21 M4 rfl rfl rfl)) (alC (Yl_of rfl (r_ld 0 (.int _ _) one21 M4 rfl rfl rfl)) (alC (Yl_of rfl (r_ld 0 (.int _ _) one21 M4 rfl rfl rfl)) alN))), ?_⟩)
    refine D_p rfl rfl rfl (fun _ => r_convK us21 Tryd.underlying2 rfl (w64 _ (by omega) (by omega))) ?_
    refine D_e [false, false, true] rfl (by kernel_rfl) ?_
    refine wl_cal cal40 rfl rfl rfl ?_
    refine (ref09_Column _ a.x0 ha.x0).mono ?_
    rintro _ w5 ⟨v5, rfl, ⟨rfl, hb5⟩⟩
    refine ⟨_, rfl, ?_⟩
    have M5 := M4.callB hb5
    refine wl_nil (thenN ⟨(alC (Yl_of rfl (r_ld 0 (.int _ _) one21 M5 rfl rfl rfl)) (alC (Yl_of rfl (r_ld 0 (.int _ _) one21 M5 rfl rfl rfl)) alN)), ?_⟩)
    refine D_p rfl rfl rfl (fun _ => r_convK us21 Tryd.underlying2 rfl (w64 _ (by omega) (by omega))) ?_
    refine D_p rfl rfl rfl (fun _ => r_sub rfl rfl (by omega) (by omega)) ?_
    refine D_p rfl rfl rfl (fun _ => r_add rfl rfl (by omega) (by omega)) ?_
    refine D_e [false, true] rfl (by kernel_rfl) ?_
    refine wl_cal cal40 rfl rfl rfl ?_
    refine (ref09_Column _ a.y1 ha.y1).mono ?_
    rintro _ w6 ⟨v6, rfl, ⟨rfl, hb6⟩⟩
    refine ⟨_, rfl, ?_⟩
    have M6 := M5.callB hb6
    refine wl_nil (thenN ⟨(alC (Yl_of rfl (r_ld 0 (.int _ _) one21 M6 rfl rfl rfl)) alN), ?_⟩)
    refine D_p rfl rfl rfl (fun _ => r_convK us21 Tryd.underlying2 rfl (w64 _ (by omega) (by omega))) ?_
    refine D_e [true] rfl (by kernel_rfl) ?_
    refine wl_cal cal40 rfl rfl rfl ?_
    refine (ref09_Column _ a.y0 ha.y0).mono ?_
    rintro _ w7 ⟨v7, rfl, ⟨rfl, hb7⟩⟩
    refine ⟨_, rfl, ?_⟩
    have M7 := M6.callB hb7
    refine wl_nil (thenN ⟨alN, ?_⟩)
    refine D_p rfl rfl rfl (fun _ => r_convK us21 Tryd.underlying2 rfl (w64 _ (by omega) (by omega))) ?_
    refine D_p rfl rfl rfl (fun _ => r_sub rfl rfl (by omega) (by omega)) ?_
    refine D_p rfl rfl rfl (fun _ => r_add rfl rfl (by omega) (by omega)) ?_
    refine D_p rfl rfl rfl (fun _ => r_mul rfl rfl (by omega) (by omega)) ?_
    refine D_p rfl rfl rfl (fun _ => r_assign (.int _ _) rfl) ?_
    refine D_nil ?_
    refine thenN ?_
    refine W_ret ?_
    skip
    refine fin1 (.int _ _) rfl ?_
    exact ⟨_, rfl, M7.below⟩

set_option maxHeartbeats 4000000 in
theorem ref10_Few (w : World) (A : Option Addr) (n c : Nat) (es : List GE) (R : Rd w 5 A n (es.map geCells)) (hes : ∀ x ∈ es, Okx x.2) :
    Calls Tryd.prog 9 #[.slice A n c] w (fun ex w' => ∃ v, ex = .returned v ∧ (fun v w' => ∃ z : Bool, v = .bool z ∧ (z = true → n ≤ 40) ∧ Below w.heap.size w w') v w') := by
  have hlen : es.length = n := by simpa using R.len
  have hbd := R.bound
  refine calls_of_W #[.tmp 2] 24 Tryd.func9 rfl Tryd.results9 Tryd.ntmps9 rfl ?_
  have M0 := Mem.refl w
  refine W_seq ?_
  refine W_region ?_
  refine wl_q (r_assign (.bool false) rfl) rfl rfl ?_
  refine wl_nil ?_
  refine thenN ?_
  refine W_seq ?_
  refine W_seq ?_
  refine W_region ?_
  refine wl_q (r_assign (.int _ _) rfl) rfl rfl ?_
  refine wl_nil ?_
  refine thenN ?_
  refine W_block ?_
  refine W_loop (σ := Nat) [0] (fun k => [(3, .int .i64 (k : Int))]) (fun k w' => (k ≤ n ∧ k ≤ 41) ∧ Mem w [] [] w') (fun k => n - k) 0 (agC rfl agN) (⟨⟨by omega, by omega⟩, M0⟩) ?_
  rintro k ρ1 w1 ⟨⟨hk, hk2⟩, hM1⟩
  refine W_seq ?_
  refine W_seq ?_
  refine W_region ?_
  refine wl_q (r_move (.int _ _) rfl) rfl rfl ?_
  refine wl_q (r_move (.slice _ _ _) rfl) rfl rfl ?_
  refine wl_q (r_lenS Tryd.underlying22 rfl) rfl rfl ?_
  refine wl_q (r_bin (.bool (decide _)) rfl rfl rfl) rfl rfl ?_
  refine wl_q (r_move (.bool (decide _)) rfl) rfl rfl ?_
  refine wl_splitD 8 rfl (fun g8 => ?_) (fun g8 => ?_)
  · skip
    refine wl_q (r_move (.int _ _) rfl) rfl rfl ?_
    refine wl_q (r_bin (.bool (decide _)) rfl rfl rfl) rfl rfl ?_
    refine wl_q (r_pick true (.bool (decide _)) rfl rfl) rfl rfl ?_
    refine wl_nil ?_
    refine thenN ?_
    refine W_condD rfl (fun h11 => ?_) (fun h11 => ?_)
    · skip
      obtain ⟨x, hx⟩ := getSome (k := k) hlen (by omega)
      refine W_skip ?_
      refine thenN ?_
      refine W_seq ?_
      refine W_block ?_
      refine W_seq ?_
      refine W_region ?_
      refine wl_q (r_move (.slice _ _ _) rfl) rfl rfl ?_
      refine wl_q (r_move (.int _ _) rfl) rfl rfl ?_
      refine wl_q (r_idxR (k) sl22 rfl rfl rfl ((R.mem hM1).below_len (mapGet geCells hx)) ((R.mem hM1).someK (mapGet geCells hx))) rfl rfl ?_
      refine wl_q (r_fieldAddrE 1 fld49_1 (R.mem hM1) (Nat.lt_of_le_of_lt (Nat.zero_le _) ((R.mem hM1).below_len (mapGet geCells hx))) rfl) rfl rfl ?_
      refine wl_q (r_ldEP (o := 1) _ agg47 (R.mem hM1) (mapGet geCells hx) rfl rfl rfl) rfl rfl ?_
      refine wl_cal cal23 rfl rfl rfl ?_
      refine (ref09_Count _ x.2 (hes x (List.mem_of_getElem? hx))).mono ?_
      rintro _ w2 ⟨v2, rfl, ⟨z, rfl, hb2⟩⟩
      refine ⟨_, rfl, ?_⟩
      have M2 := hM1.callB hb2
      refine wl_q (r_bin (.bool (decide _)) rfl rfl rfl) rfl rfl ?_
      refine wl_nil ?_
      refine thenN ?_
      refine W_condD rfl (fun h20 => ?_) (fun h20 => ?_)
      · skip
        refine W_seq ?_
        refine W_region ?_
        refine wl_q (r_assign (.bool false) rfl) rfl rfl ?_
        refine wl_nil ?_
        refine thenN ?_
        refine W_ret ?_
        refine blkR ?_
        refine thenR ?_
        refine roundR ?_
        refine blkR ?_
        refine thenR ?_
        skip
        refine fin1 (.bool false) rfl ?_
        exact ⟨false, rfl, (fun h => by cases h), M2.below⟩
      · skip
        refine W_skip ?_
        refine blkN ?_
        refine thenN ?_
        refine W_region ?_
        refine wl_q (r_move (.int _ _) rfl) rfl rfl ?_
        refine wl_q (r_add rfl rfl (by omega) (by omega)) rfl rfl ?_
        refine wl_q (r_assign (.int _ _) rfl) rfl rfl ?_
        refine wl_nil ?_
        refine roundN (k + 1) (agC rfl agN) (akC rfl akN) ?_ ?_
        · exact ⟨⟨by omega, by omega⟩, M2⟩
        · omega
    · skip
      refine W_exit ?_
      refine thenX ?_
      refine roundX ?_
      refine blkH ?_
      refine thenN ?_
      refine W_seq ?_
      refine W_region ?_
      refine wl_q (r_move (.slice _ _ _) rfl) rfl rfl ?_
      refine wl_q (r_lenS Tryd.underlying22 rfl) rfl rfl ?_
      refine wl_q (r_bin (.bool (decide _)) rfl rfl rfl) rfl rfl ?_
      refine wl_q (r_assign (.bool (decide _)) rfl) rfl rfl ?_
      refine wl_nil ?_
      refine thenN ?_
      refine W_ret ?_
      skip
      refine fin1 (.bool (decide _)) rfl ?_
      exact ⟨_, rfl, (fun h => by have := of_decide_eq_true h; omega), hM1.below⟩
  · skip
    refine wl_skip rfl rfl ?_
    refine wl_skip rfl rfl ?_
    refine wl_q (r_pick false (.bool false) rfl rfl) rfl rfl ?_
    refine wl_nil ?_
    refine thenN ?_
    refine W_condF rfl ?_
    refine W_exit ?_
    refine thenX ?_
    refine roundX ?_
    refine blkH ?_
    refine thenN ?_
    refine W_seq ?_
    refine W_region ?_
    refine wl_q (r_move (.slice _ _ _) rfl) rfl rfl ?_
    refine wl_q (r_lenS Tryd.underlying22 rfl) rfl rfl ?_
    refine wl_q (r_bin (.bool (decide _)) rfl rfl rfl) rfl rfl ?_
    refine wl_q (r_assign (.bool (decide _)) rfl) rfl rfl ?_
    refine wl_nil ?_
    refine thenN ?_
    refine W_ret ?_
    skip
    refine fin1 (.bool (decide _)) rfl ?_
    exact ⟨_, rfl, (fun h => by have := of_decide_eq_true h; omega), hM1.below⟩

theorem eqPr (a b : Int × Int) : EqA Tryd.prog 44 (pairCells a) (pairCells b) (decide (a = b)) := by
  have h := eqA44 a.1 a.2 b.1 b.2
  have e : decide (a.1 = b.1 ∧ a.2 = b.2) = decide (a = b) := decide_eq_decide.2 Prod.ext_iff.symm
  rw [e] at h
  exact h

end Go.Proofs.YtjbhobahebebkaaDoor

/- Walks of Go functions over the frame of this claim: what each computes, for every input of the stated types (G10f). -/
set_option linter.unusedVariables false
set_option linter.unusedSimpArgs false
set_option linter.unnecessarySimpa false
namespace Go.Proofs.YtjbhobahebebkaaDoor
open Go.Bil
open Go.RowKit (Below)
open Go.Proofs

set_option maxHeartbeats 4000000 in
theorem slices_CloneK (w : World) (A : Option Addr) (n c : Nat) (xs : List Int) (R : Rd w 1 A n (xs.map keyCell)) (hn : n ≤ 1048576) :
    Calls Tryd.prog 31 #[.slice A n c] w (fun ex w' => ∃ v, ex = .returned v ∧ (fun v w' => ∃ r : Row, v = .slice r.A r.n r.c ∧ RowIs 42 1 r.A r.n r.c (xs.map keyCell) r.e ∧ Mem w [] [r.e] w') v w') := by
  refine calls_of_W #[.tmp 2] 8 Tryd.func31 rfl Tryd.results31 Tryd.ntmps31 rfl ?_
  have M0 := Mem.refl w
  refine W_seq ?_
  refine W_region ?_
  refine wl_q (r_assign (.slice _ _ _) rfl) rfl rfl ?_
  refine wl_nil ?_
  refine thenN ?_
  refine W_seq ?_
  refine W_seq ?_
  refine W_region ?_
  refine wl_q (r_move (.slice _ _ _) rfl) rfl rfl ?_
  refine wl_q (r_eqSliceNil _ Tryd.underlying27 rfl rfl) rfl rfl ?_
  refine wl_nil ?_
  refine thenN ?_
  refine W_cond _ rfl (fun h4 => ?_) (fun h4 => ?_)
  · skip
    refine W_seq ?_
    refine W_region ?_
    refine wl_q (r_assign (.slice _ _ _) rfl) rfl rfl ?_
    refine wl_nil ?_
    refine thenN ?_
    refine W_ret ?_
    refine thenR ?_
    skip
    refine fin1 (.slice _ _ _) rfl ?_
    have hA : A = none := by cases A <;> simp_all
    have hl : xs = [] := by
      rcases Nat.eq_zero_or_pos n with h | h
      · subst h; exact List.eq_nil_of_length_eq_zero (by simpa using R.len)
      · have := R.some h; rw [hA] at this; cases this
    subst hA; subst hl
    exact ⟨nilRow, rfl, RowIs.nil 42 1 default, M0.dummy default⟩
  · skip
    refine W_skip ?_
    refine thenN ?_
    refine W_seq ?_
    refine W_region ?_
    refine wl_bslice [] [] rfl sl27 M0 rfl rfl rfl rfl (lens_of rfl) (by decide) (fun b1 w1 M1 => ?_)
    refine wl_q (r_move (.slice _ _ _) rfl) rfl rfl ?_
    refine wl_appendR 0 (xs.map keyCell) sl27 M1 rfl rfl rfl rfl rfl (RowIs.empty b1) (R.mem M1) (fun y hy => by obtain ⟨k, _, rfl⟩ := List.mem_map.1 hy; simp [keyCell, Go.Bil.one]) (by omega) (fun A2 c2 e2 w2 M2 hR2 hA2 => ?_)
    refine wl_q (r_assign (.slice _ _ _) rfl) rfl rfl ?_
    refine wl_nil ?_
    refine thenN ?_
    refine W_ret ?_
    skip
    refine fin1 (.slice _ _ _) rfl ?_
    exact ⟨⟨A2, 0 + n, c2, e2⟩, rfl, by simpa using hR2, M2⟩

set_option maxHeartbeats 8000000 in
theorem slices_CompactK (w : World) (A : Option Addr) (n c : Nat) (l : List Int) (e : Ent) (hR : RowIs 42 1 A n c (l.map keyCell) e) (hO : Own [e] w) (ho : Ord l) (hn : n ≤ 1048576) :
    Calls Tryd.prog 35 #[.slice A n c] w (fun ex w' => ∃ v, ex = .returned v ∧ (fun v w' => ∃ (r : Row) (m : List Int), v = .slice r.A r.n r.c ∧ Cpt l m ∧ RowIs 42 1 r.A r.n r.c (m.map keyCell) r.e ∧ Mem w (blks [e]) [r.e] w') v w') := by
  have hlen : l.length = n := by simpa using hR.1
  have hcap := hR.slice
  refine calls_of_W #[.tmp 2] 61 Tryd.func35 rfl Tryd.results35 Tryd.ntmps35 rfl ?_
  have M0 := hO.mem
  refine W_seq ?_
  refine W_region ?_
  refine wl_q (r_assign (.slice _ _ _) rfl) rfl rfl ?_
  refine wl_nil ?_
  refine thenN ?_
  refine W_seq ?_
  refine W_seq ?_
  refine W_region ?_
  refine wl_q (r_move (.slice _ _ _) rfl) rfl rfl ?_
  refine wl_q (r_lenS Tryd.underlying27 rfl) rfl rfl ?_
  refine wl_q (r_bin (.bool (decide _)) rfl rfl rfl) rfl rfl ?_
  refine wl_nil ?_
  refine thenN ?_
  refine W_condD rfl (fun h8 => ?_) (fun h8 => ?_)
  · skip
    refine W_seq ?_
    refine W_region ?_
    refine wl_q (r_move (.slice _ _ _) rfl) rfl rfl ?_
    refine wl_q (r_assign (.slice _ _ _) rfl) rfl rfl ?_
    refine wl_nil ?_
    refine thenN ?_
    refine W_ret ?_
    refine thenR ?_
    skip
    refine fin1 (.slice _ _ _) rfl ?_
    exact ⟨⟨A, n, c, e⟩, l, rfl, cpt_small (by omega), hR, M0⟩
    
    
  · skip
    refine W_skip ?_
    refine thenN ?_
    refine W_seq ?_
    refine W_seq ?_
    refine W_region ?_
    refine wl_q (r_assign (.int _ _) rfl) rfl rfl ?_
    refine wl_nil ?_
    refine thenN ?_
    refine W_block ?_
    refine W_loop (σ := Nat) [0] (fun k => [(3, .int .i64 (k : Int))]) (fun k w' => (1 ≤ k ∧ k ≤ n ∧ ∀ (j : Nat) (x y : Int), 0 < j → j < k → l[j - 1]? = some x → l[j]? = some y → x ≠ y) ∧ Mem w (blks [e]) [e] w') (fun k => n - k) 1 (agC rfl agN) (⟨⟨by omega, by omega, fun j x y h1 h2 => by omega⟩, M0⟩) ?_
    rintro k ρ1 w1 ⟨⟨hk1, hk, hne⟩, hM1⟩
    refine W_seq ?_
    refine W_seq ?_
    refine W_region ?_
    refine wl_q (r_move (.int _ _) rfl) rfl rfl ?_
    refine wl_q (r_move (.slice _ _ _) rfl) rfl rfl ?_
    refine wl_q (r_lenS Tryd.underlying27 rfl) rfl rfl ?_
    refine wl_q (r_bin (.bool (decide _)) rfl rfl rfl) rfl rfl ?_
    refine wl_nil ?_
    refine thenN ?_
    refine W_condD rfl (fun h13 => ?_) (fun h13 => ?_)
    · skip
      obtain ⟨zk, hzk⟩ := getSome (xs := l) (k := k) hlen (by omega)
      obtain ⟨zp, hzp⟩ := getSome (xs := l) (k := k - 1) hlen (by omega)
      refine W_skip ?_
      refine thenN ?_
      refine W_seq ?_
      refine W_block ?_
      refine W_seq ?_
      refine W_draw [(0, 0), (1, 0), (2, 1), (3, 1), (4, 0), (5, 0), (6, 0), (7, 1), (8, 1), (9, 0)] mixed rfl (by kernel_rfl) (fun w2 hb2 hh2 => ?_)
      have M2 := hM1.drew hb2 hh2
      refine D_p rfl rfl rfl (fun _ => r_move (.slice _ _ _) rfl) ?_
      refine D_p rfl rfl rfl (fun _ => r_move (.int _ _) rfl) ?_
      refine D_r rfl rfl rfl (r_idxR ((k)) sl27 rfl rfl rfl ((hR.rd M2 (nthMem (i := 0) rfl)).below_len (mapGet keyCell hzk)) ((hR.rd M2 (nthMem (i := 0) rfl)).someK (mapGet keyCell hzk))) ?_
      refine D_r rfl rfl rfl (r_ldE0 (.int _ _) one42 (hR.rd M2 (nthMem (i := 0) rfl)) (mapGet keyCell hzk) rfl) ?_
      refine D_p rfl rfl rfl (fun _ => r_move (.slice _ _ _) rfl) ?_
      refine D_p rfl rfl rfl (fun _ => r_move (.int _ _) rfl) ?_
      refine D_p rfl rfl rfl (fun _ => r_sub rfl rfl (by omega) (by omega)) ?_
      refine D_re 22 (.int .i64 ((k - 1 : Nat) : Int)) (iE (by omega)) ?_
      refine D_r rfl rfl rfl (r_idxR ((k - 1)) sl27 rfl rfl rfl ((hR.rd M2 (nthMem (i := 0) rfl)).below_len (mapGet keyCell hzp)) ((hR.rd M2 (nthMem (i := 0) rfl)).someK (mapGet keyCell hzp))) ?_
      refine D_r rfl rfl rfl (r_ldE0 (.int _ _) one42 (hR.rd M2 (nthMem (i := 0) rfl)) (mapGet keyCell hzp) rfl) ?_
      refine D_p rfl rfl rfl (fun _ => r_bin (.bool (decide _)) rfl rfl rfl) ?_
      refine D_nil ?_
      refine thenN ?_
      refine W_condD rfl (fun h25 => ?_) (fun h25 => ?_)
      · skip
        refine W_seq ?_
        refine W_region ?_
        refine wl_q (r_move (.slice _ _ _) rfl) rfl rfl ?_
        refine wl_q (r_move (.int _ _) rfl) rfl rfl ?_
        refine wl_q (r_slice ((k : Int)) ((n : Int)) sl27 rfl ⟨_, rfl⟩ rfl (by omega) (by omega) (by omega)) rfl rfl ?_
        refine wl_q (r_assign (.slice _ _ _) rfl) rfl rfl ?_
        refine wl_nil ?_
        refine thenN ?_
        refine W_seq ?_
        refine W_seq ?_
        refine W_region ?_
        refine wl_q (r_assign (.int _ _) rfl) rfl rfl ?_
        refine wl_nil ?_
        refine thenN ?_
        refine W_block ?_
        refine W_loop (σ := Nat × Nat × List Int × Ent) [0, 4] (fun (q, m, l2, e2) => [(3, .int .i64 (m : Int)), (5, .int .i64 (q : Int))]) (fun (q, m, l2, e2) w' => ((1 ≤ q ∧ k + q ≤ n ∧ 1 ≤ m ∧ m + 1 ≤ k + q) ∧ Cmp l (l2.take m) (k + q) ∧ l2.length = n ∧ (∀ i, k + q ≤ i + 1 → l2[i]? = l[i]?) ∧ RowIs 42 1 A n c (l2.map keyCell) e2) ∧ Mem w (blks [e]) [e2] w') (fun (q, m, l2, e2) => n - (k + q)) (1, k, l, e) (agC rfl (agC rfl agN)) (⟨⟨⟨by omega, by omega, by omega, by omega⟩, cmp_old (cmp_take ho (by omega) (by omega) hne) hzp hzk h25 (by omega), hlen, fun i _ => rfl, hR⟩, M2⟩) ?_
        rintro ⟨q, m, l2, e2⟩ ρ3 w3 ⟨⟨⟨hq1, hq2, hm1, hm2⟩, hC, hl2, hsm, hR2⟩, hM3⟩
        refine W_seq ?_
        refine W_seq ?_
        refine W_region ?_
        refine wl_q (r_move (.int _ _) rfl) rfl rfl ?_
        refine wl_q (r_move (.slice _ _ _) rfl) rfl rfl ?_
        refine wl_q (r_lenS Tryd.underlying27 rfl) rfl rfl ?_
        refine wl_q (r_bin (.bool (decide _)) rfl rfl rfl) rfl rfl ?_
        refine wl_nil ?_
        refine thenN ?_
        refine W_condD rfl (fun h32 => ?_) (fun h32 => ?_)
        · skip
          obtain ⟨za, hza⟩ := getSome (xs := l) (k := k + q) hlen (by omega)
          obtain ⟨zb, hzb⟩ := getSome (xs := l) (k := k + q - 1) hlen (by omega)
          have hza2 := (hsm (k + q) (by omega)).trans hza
          have hzb2 : l2[k + (q - 1)]? = some zb := by rw [show k + (q - 1) = k + q - 1 by omega]; exact (hsm (k + q - 1) (by omega)).trans hzb
          obtain ⟨zm, hzm⟩ := getSome (xs := l2) (k := m) hl2 (by omega)
          refine W_skip ?_
          refine thenN ?_
          refine W_seq ?_
          refine W_block ?_
          refine W_seq ?_
          refine W_draw [(0, 0), (1, 0), (2, 1), (3, 1), (4, 0), (5, 0), (6, 0), (7, 1), (8, 1), (9, 0)] mixed rfl (by kernel_rfl) (fun w4 hb4 hh4 => ?_)
          have M4 := hM3.drew hb4 hh4
          refine D_p rfl rfl rfl (fun _ => r_move (.slice _ _ _) rfl) ?_
          refine D_p rfl rfl rfl (fun _ => r_move (.int _ _) rfl) ?_
          refine D_r rfl rfl rfl (r_idxR (q) sl27 rfl rfl rfl (((hR2.rd M4 (nthMem (i := 0) rfl)).sub k n (by omega) (by omega) hcap).below_len ((subk_get (f := keyCell) hza2 (by omega)))) (((hR2.rd M4 (nthMem (i := 0) rfl)).sub k n (by omega) (by omega) hcap).someK ((subk_get (f := keyCell) hza2 (by omega))))) ?_
          refine D_r rfl rfl rfl (r_ldE0 (.int _ _) one42 ((hR2.rd M4 (nthMem (i := 0) rfl)).sub k n (by omega) (by omega) hcap) ((subk_get (f := keyCell) hza2 (by omega))) rfl) ?_
          refine D_p rfl rfl rfl (fun _ => r_move (.slice _ _ _) rfl) ?_
          refine D_p rfl rfl rfl (fun _ => r_move (.int _ _) rfl) ?_
          refine D_p rfl rfl rfl (fun _ => r_sub rfl rfl (by omega) (by omega)) ?_
          refine D_re 41 (.int .i64 ((q - 1 : Nat) : Int)) (iE (by omega)) ?_
          refine D_r rfl rfl rfl (r_idxR ((q - 1)) sl27 rfl rfl rfl (((hR2.rd M4 (nthMem (i := 0) rfl)).sub k n (by omega) (by omega) hcap).below_len ((subk_get (f := keyCell) hzb2 (by omega)))) (((hR2.rd M4 (nthMem (i := 0) rfl)).sub k n (by omega) (by omega) hcap).someK ((subk_get (f := keyCell) hzb2 (by omega))))) ?_
          refine D_r rfl rfl rfl (r_ldE0 (.int _ _) one42 ((hR2.rd M4 (nthMem (i := 0) rfl)).sub k n (by omega) (by omega) hcap) ((subk_get (f := keyCell) hzb2 (by omega))) rfl) ?_
          refine D_p rfl rfl rfl (fun _ => r_bin (.bool (decide _)) rfl rfl rfl) ?_
          refine D_nil ?_
          refine thenN ?_
          refine W_condD rfl (fun h44 => ?_) (fun h44 => ?_)
          · skip
            refine W_seq ?_
            refine W_region ?_
            refine wl_q (r_move (.slice _ _ _) rfl) rfl rfl ?_
            refine wl_q (r_move (.int _ _) rfl) rfl rfl ?_
            refine wl_q (r_move (.slice _ _ _) rfl) rfl rfl ?_
            refine wl_q (r_move (.int _ _) rfl) rfl rfl ?_
            refine wl_q (r_idxR (q) sl27 rfl rfl rfl (((hR2.rd M4 (nthMem (i := 0) rfl)).sub k n (by omega) (by omega) hcap).below_len ((subk_get (f := keyCell) hza2 (by omega)))) (((hR2.rd M4 (nthMem (i := 0) rfl)).sub k n (by omega) (by omega) hcap).someK ((subk_get (f := keyCell) hza2 (by omega))))) rfl rfl ?_
            refine wl_q (r_ldE0 (.int _ _) one42 ((hR2.rd M4 (nthMem (i := 0) rfl)).sub k n (by omega) (by omega) hcap) ((subk_get (f := keyCell) hza2 (by omega))) rfl) rfl rfl ?_
            refine wl_q (r_idxR (m) sl27 rfl rfl rfl ((hR2.rd M4 (nthMem (i := 0) rfl)).below_len (mapGet keyCell hzm)) ((hR2.rd M4 (nthMem (i := 0) rfl)).someK (mapGet keyCell hzm))) rfl rfl ?_
            refine wl_stR0 0 (.int _ _) one42 M4 rfl hR2 (mapGet keyCell hzm) rfl rfl rfl rfl (fun e5 w5 hR5 M5 => ?_)
            have hQ5 := hR5.mapSet (f := keyCell) (x := za) rfl
            refine wl_nil ?_
            refine thenN ?_
            refine W_region ?_
            refine wl_q (r_move (.int _ _) rfl) rfl rfl ?_
            refine wl_q (r_add rfl rfl (by omega) (by omega)) rfl rfl ?_
            refine wl_q (r_assign (.int _ _) rfl) rfl rfl ?_
            refine wl_nil ?_
            refine blkN ?_
            refine thenN ?_
            refine W_region ?_
            refine wl_q (r_move (.int _ _) rfl) rfl rfl ?_
            refine wl_q (r_add rfl rfl (by omega) (by omega)) rfl rfl ?_
            refine wl_q (r_assign (.int _ _) rfl) rfl rfl ?_
            refine wl_nil ?_
            refine roundN (q + 1, m + 1, l2.set m za, e5) (agC rfl (agC rfl agN)) (akC rfl (akC rfl akN)) ?_ ?_
            · exact ⟨⟨⟨by omega, by omega, by omega, by omega⟩, by rw [take_snoc (by rw [List.getElem?_set_self (by omega)] : (l2.set m za)[m]? = some za), List.take_set_of_le (by omega)]; exact cmp_new (j := k + q) hC ho (by omega) hzb hza h44, by rw [List.length_set]; exact hl2, fun i hi => by rw [List.getElem?_set_ne (by omega)]; exact hsm i (by omega), hQ5⟩, M5⟩
            · (show n - (k + (q + 1)) < n - (k + q); omega)
          · skip
            refine W_skip ?_
            refine blkN ?_
            refine thenN ?_
            refine W_region ?_
            refine wl_q (r_move (.int _ _) rfl) rfl rfl ?_
            refine wl_q (r_add rfl rfl (by omega) (by omega)) rfl rfl ?_
            refine wl_q (r_assign (.int _ _) rfl) rfl rfl ?_
            refine wl_nil ?_
            refine roundN (q + 1, m, l2, e2) (agC rfl (agC rfl agN)) (akC rfl (akC rfl akN)) ?_ ?_
            · exact ⟨⟨⟨by omega, by omega, by omega, by omega⟩, cmp_old (j := k + q) hC hzb hza (Decidable.not_not.1 h44) (by omega), hl2, fun i hi => hsm i (by omega), hR2⟩, M4⟩
            · (show n - (k + (q + 1)) < n - (k + q); omega)
        · skip
          have hkq : k + q = n := by omega
          have hdone := Cmp.done hC (by omega)
          refine W_exit ?_
          refine thenX ?_
          refine roundX ?_
          refine blkH ?_
          refine thenN ?_
          refine W_seq ?_
          refine W_region ?_
          refine wl_q (r_move (.slice _ _ _) rfl) rfl rfl ?_
          refine wl_q (r_move (.int _ _) rfl) rfl rfl ?_
          refine wl_q (r_slice ((m : Int)) ((n : Int)) sl27 rfl ⟨_, rfl⟩ rfl (by omega) (by omega) (by omega)) rfl rfl ?_
          refine wl_clear 0 (m) sl27 (fun zv hz => by rw [zv42] at hz; injection hz with hz; subst hz; simp [Go.Bil.one, Value.cells]) hM3 rfl rfl hR2 (by omega) rfl (fun e6 w6 hR6 M6 => ?_)
          refine wl_nil ?_
          refine thenN ?_
          refine W_seq ?_
          refine W_region ?_
          refine wl_q (r_move (.slice _ _ _) rfl) rfl rfl ?_
          refine wl_q (r_move (.int _ _) rfl) rfl rfl ?_
          refine wl_q (r_slice (0) ((m : Int)) sl27 rfl rfl ⟨_, rfl⟩ (by decide) (by omega) (by omega)) rfl rfl ?_
          refine wl_q (r_assign (.slice _ _ _) rfl) rfl rfl ?_
          refine wl_nil ?_
          refine thenN ?_
          refine W_ret ?_
          refine blkR ?_
          refine thenR ?_
          refine roundR ?_
          refine blkR ?_
          refine thenR ?_
          skip
          refine fin1 (.slice _ _ _) rfl ?_
          have hpf := hR6
          rw [← List.map_take] at hpf
          exact ⟨⟨_, _, _, e6⟩, _, rfl, hdone, hpf, M6⟩
      · skip
        refine W_skip ?_
        refine blkN ?_
        refine thenN ?_
        refine W_region ?_
        refine wl_q (r_move (.int _ _) rfl) rfl rfl ?_
        refine wl_q (r_add rfl rfl (by omega) (by omega)) rfl rfl ?_
        refine wl_q (r_assign (.int _ _) rfl) rfl rfl ?_
        refine wl_nil ?_
        refine roundN (k + 1) (agC rfl agN) (akC rfl akN) ?_ ?_
        · exact ⟨⟨by omega, by omega, adjNextI hne hzp hzk h25⟩, M2⟩
        · omega
    · skip
      refine W_exit ?_
      refine thenX ?_
      refine roundX ?_
      refine blkH ?_
      refine thenN ?_
      refine W_seq ?_
      refine W_region ?_
      refine wl_q (r_move (.slice _ _ _) rfl) rfl rfl ?_
      refine wl_q (r_assign (.slice _ _ _) rfl) rfl rfl ?_
      refine wl_nil ?_
      refine thenN ?_
      refine W_ret ?_
      skip
      refine fin1 (.slice _ _ _) rfl ?_
      exact ⟨⟨A, n, c, e⟩, l, rfl, by have h := (cmp_take ho (show 0 < n by omega) (by omega) (fun j x y h1 h2 => hne j x y h1 (by omega))).done (by omega); rwa [List.take_of_length_le (by omega)] at h, hR, hM1⟩
      
      

set_option maxHeartbeats 8000000 in
theorem law10_fill (w : World) (F : Rd w 2 (some ⟨0, 0, none⟩) 1 [[.int .u32 73856093, .int .u32 19349663]]) (b : Nat) (rs : List Row) (cnt : Int) (g : Nat → List Int) (hG : GridRows 42 rs g) (hcnt : 0 ≤ cnt ∧ cnt ≤ 1000) (hgl : ∀ j, (g j).length ≤ 1000) (A : Option Addr) (n c : Nat) (es : List GE) (R : Rd w 5 A n (es.map geCells)) (hes : ∀ x ∈ es, Okx x.2) (hn : n ≤ 1000) (hO : Own ((some b, bc (gcells rs cnt) 30) :: rs.map Row.e) w) (hdF : 0 < 1 → ∀ q off, (some ⟨0, 0, none⟩ : Option Addr) = some ⟨q, off, none⟩ → q ∉ blks ((some b, bc (gcells rs cnt) 30) :: rs.map Row.e)) (hdR : 0 < n → ∀ q off, A = some ⟨q, off, none⟩ → q ∉ blks ((some b, bc (gcells rs cnt) 30) :: rs.map Row.e)) :
    Calls Tryd.prog 10 #[.pointer (some ⟨b, 0, none⟩), .slice A n c] w (fun ex w' => ∃ v, ex = .returned v ∧ (fun v w' => v = .tuple #[] ∧ ∃ rs' : List Row, GridRows 42 rs' (fillG es g) ∧ Mem w (blks ((some b, bc (gcells rs cnt) 30) :: rs.map Row.e)) ((some b, bc (gcells rs' (cnt + (n : Int))) 30) :: rs'.map Row.e) w') v w') := by
  have hlen : es.length = n := by simpa using R.len
  have hbd := R.bound
  refine calls_of_W #[] 33 Tryd.func10 rfl Tryd.results10 Tryd.ntmps10 rfl ?_
  have M0 := hO.mem
  refine W_seq ?_
  refine W_region ?_
  refine wl_q (r_assign (.int _ _) rfl) rfl rfl ?_
  refine wl_nil ?_
  refine thenN ?_
  refine W_block ?_
  refine W_loop (σ := Nat × List Row) [0, 1] (fun (k, rs1) => [(4, .int .i64 (k : Int))]) (fun (k, rs1) w' => (k ≤ n ∧ GridRows 42 rs1 (fillG (es.take k) g)) ∧ Mem w (blks ((some b, bc (gcells rs cnt) 30) :: rs.map Row.e)) ([(some b, bc (gcells rs1 (cnt + (k : Int))) 30)] ++ rs1.map Row.e) w') (fun (k, rs1) => n - k) (0, rs) (agC rfl agN) (⟨⟨by omega, by rw [List.take_zero]; exact hG⟩, by rw [show cnt + ((0 : Nat) : Int) = cnt by omega]; exact M0⟩) ?_
  rintro ⟨k, rs1⟩ ρ1 w1 ⟨⟨hk, hrs⟩, hM1⟩
  have htl := List.length_take_le k es
  refine W_seq ?_
  refine W_seq ?_
  refine W_region ?_
  refine wl_q (r_move (.int _ _) rfl) rfl rfl ?_
  refine wl_q (r_move (.slice _ _ _) rfl) rfl rfl ?_
  refine wl_q (r_lenS Tryd.underlying22 rfl) rfl rfl ?_
  refine wl_q (r_bin (.bool (decide _)) rfl rfl rfl) rfl rfl ?_
  refine wl_nil ?_
  refine thenN ?_
  refine W_condD rfl (fun h9 => ?_) (fun h9 => ?_)
  · skip
    obtain ⟨x, hx⟩ := getSome (k := k) hlen (by omega)
    refine W_skip ?_
    refine thenN ?_
    refine W_seq ?_
    refine W_block ?_
    refine W_seq ?_
    refine W_region ?_
    refine wl_q (r_move (.slice _ _ _) rfl) rfl rfl ?_
    refine wl_q (r_move (.int _ _) rfl) rfl rfl ?_
    refine wl_q (r_idxR (k) sl22 rfl rfl rfl ((R.memY hM1 hdR).below_len (mapGet geCells hx)) ((R.memY hM1 hdR).someK (mapGet geCells hx))) rfl rfl ?_
    refine wl_q (r_fieldAddrE 1 fld49_1 (R.memY hM1 hdR) (Nat.lt_of_le_of_lt (Nat.zero_le _) ((R.memY hM1 hdR).below_len (mapGet geCells hx))) rfl) rfl rfl ?_
    refine wl_q (r_ldEP (o := 1) _ agg47 (R.memY hM1 hdR) (mapGet geCells hx) rfl rfl rfl) rfl rfl ?_
    refine wl_alloc zero47 hM1 rfl rfl (fun b2 w2 M2 => ?_)
    have M3 : Mem _ _ ([_, _] ++ _) _ := Mem.front (L := [_]) M2
    refine wl_stW 1 _ agg47 M3 rfl rfl rfl rfl rfl (ones_of rfl) rfl (fun w4 M4 => ?_)
    refine wl_nil ?_
    refine thenN ?_
    refine W_draw [(0, 0), (1, 0), (2, 0), (3, 1), (4, 1), (5, 1), (6, 0), (7, 1), (8, 0), (9, 1), (10, 0), (11, 1), (12, 0), (13, 1), (14, 0), (15, 2)] mixed rfl (by kernel_rfl) (fun w5 hb5 hh5 => ?_)
    have M5 := M4.drew hb5 hh5
    refine D_p rfl rfl rfl (fun _ => r_move (.pointer _) rfl) ?_
    refine D_p rfl rfl rfl (fun _ => r_move (.slice _ _ _) rfl) ?_
    refine D_p rfl rfl rfl (fun _ => r_move (.int _ _) rfl) ?_
    refine D_r rfl rfl rfl (r_idxR (k) sl22 rfl rfl rfl ((R.memY M5 hdR).below_len (mapGet geCells hx)) ((R.memY M5 hdR).someK (mapGet geCells hx))) ?_
    refine D_r rfl rfl rfl (r_fieldAddrE 0 fld49_0 (R.memY M5 hdR) (Nat.lt_of_le_of_lt (Nat.zero_le _) ((R.memY M5 hdR).below_len (mapGet geCells hx))) rfl) ?_
    refine D_r rfl rfl rfl (r_ldE (o := 0) (.int _ _) one42 (R.memY M5 hdR) (mapGet geCells hx) rfl rfl) ?_
    refine D_p rfl rfl rfl (fun _ => r_fieldAddr 0 fld47_0 rfl) ?_
    refine D_r rfl rfl rfl (r_ld 1 (.int _ _) one21 M5 rfl rfl rfl) ?_
    refine D_p rfl rfl rfl (fun _ => r_fieldAddr 1 fld47_1 rfl) ?_
    refine D_r rfl rfl rfl (r_ld 1 (.int _ _) one21 M5 rfl rfl rfl) ?_
    refine D_p rfl rfl rfl (fun _ => r_fieldAddr 2 fld47_2 rfl) ?_
    refine D_r rfl rfl rfl (r_ld 1 (.int _ _) one21 M5 rfl rfl rfl) ?_
    refine D_p rfl rfl rfl (fun _ => r_fieldAddr 3 fld47_3 rfl) ?_
    refine D_r rfl rfl rfl (r_ld 1 (.int _ _) one21 M5 rfl rfl rfl) ?_
    refine D_p rfl rfl rfl (fun _ => r_build [(0, .int _ _), (1, .int _ _), (2, .int _ _), (3, .int _ _)] _ struct56 rfl rfl) ?_
    refine D_e [true, true, true, true, true, true, true] rfl (by kernel_rfl) ?_
    refine wl_cal cal22 rfl rfl rfl ?_
    refine (grid_Insert _ (F.memY M5 hdF) b rs1 (cnt + (k : Int)) (fillG (es.take k) g) hrs ⟨by omega, by omega⟩ (fun j _ => by have h1 := fill_lenG (es.take k) g j; have h2 := hgl j; omega) x.1 x.2 (hes x (List.mem_of_getElem? hx)) (Mem.gridSeg M5) (Mem.gridAway M5 F hdF)).mono ?_
    rintro _ w6 ⟨v6, rfl, ⟨rfl, rs2, hrs2, hM6⟩⟩
    refine ⟨_, rfl, ?_⟩
    have M6 : Mem _ _ ([_, _] ++ _) _ := Mem.gridCall M5 hM6
    refine wl_nil (thenN ⟨alN, ?_⟩)
    refine D_nil ?_
    refine blkN ?_
    refine thenN ?_
    refine W_region ?_
    refine wl_q (r_move (.int _ _) rfl) rfl rfl ?_
    refine wl_q (r_add rfl rfl (by omega) (by omega)) rfl rfl ?_
    refine wl_q (r_assign (.int _ _) rfl) rfl rfl ?_
    refine wl_nil ?_
    refine roundN (k + 1, rs2) (agC rfl agN) (akC rfl (akC rfl akN)) ?_ ?_
    · exact ⟨⟨by omega, by rw [fillG_snoc hx]; exact hrs2⟩, by rw [show cnt + ((k + 1 : Nat) : Int) = cnt + (k : Int) + 1 by omega]; exact Mem.keepL (L := [_, _]) [true, false] M6⟩
    · (show n - (k + 1) < n - k; omega)
  · skip
    have hkn : k = n := by omega
    rw [List.take_of_length_le (by omega)] at hrs
    rw [hkn] at hM1
    refine W_exit ?_
    refine thenX ?_
    refine roundX ?_
    refine blkH ?_
    refine fin0n ?_
    exact ⟨rfl, rs1, hrs, hM1⟩

set_option maxHeartbeats 4000000 in
theorem grid_Len (w : World) (b : Nat) (rs : List Row) (cnt : Int) (g : Nat → List Int) (hG : GridRows 42 rs g) (hO : Own ((some b, bc (gcells rs cnt) 30) :: rs.map Row.e) w) :
    Calls Tryd.prog 11 #[.pointer (some ⟨b, 0, none⟩)] w (fun ex w' => ∃ v, ex = .returned v ∧ (fun v w' => v = .int .i64 cnt ∧ Mem w (blks ((some b, bc (gcells rs cnt) 30) :: rs.map Row.e)) ((some b, bc (gcells rs cnt) 30) :: rs.map Row.e) w') v w') := by
  refine calls_of_W #[.tmp 2] 9 Tryd.func11 rfl Tryd.results11 Tryd.ntmps11 rfl ?_
  have M0 := hO.mem
  refine W_seq ?_
  refine W_region ?_
  refine wl_q (r_assign (.int _ _) rfl) rfl rfl ?_
  refine wl_nil ?_
  refine thenN ?_
  refine W_seq ?_
  refine W_seq ?_
  refine W_region ?_
  refine wl_q (r_move (.pointer _) rfl) rfl rfl ?_
  refine wl_q (r_eqPtrNil false Tryd.underlying32 rfl rfl) rfl rfl ?_
  refine wl_nil ?_
  refine thenN ?_
  refine W_condF rfl ?_
  refine W_skip ?_
  refine thenN ?_
  refine W_seq ?_
  refine W_region ?_
  refine wl_q (r_move (.pointer _) rfl) rfl rfl ?_
  refine wl_q (r_nilCheck rfl) rfl rfl ?_
  refine wl_q (r_fieldAddr 1024 fld30_1 rfl) rfl rfl ?_
  refine wl_q (r_ld 0 (.int .i64 cnt) one3 M0 rfl rfl (gcells_cnt hG.len)) rfl rfl ?_
  refine wl_q (r_assign (.int _ _) rfl) rfl rfl ?_
  refine wl_nil ?_
  refine thenN ?_
  refine W_ret ?_
  skip
  refine fin1 (.int _ _) rfl ?_
  exact ⟨rfl, M0⟩

set_option maxHeartbeats 4000000 in
theorem grid_LenN (w : World) :
    Calls Tryd.prog 11 #[.pointer none] w (fun ex w' => ∃ v, ex = .returned v ∧ (fun v w' => v = .int .i64 0 ∧ Below w.heap.size w w') v w') := by
  refine calls_of_W #[.tmp 2] 9 Tryd.func11 rfl Tryd.results11 Tryd.ntmps11 rfl ?_
  have M0 := Mem.refl w
  refine W_seq ?_
  refine W_region ?_
  refine wl_q (r_assign (.int _ _) rfl) rfl rfl ?_
  refine wl_nil ?_
  refine thenN ?_
  refine W_seq ?_
  refine W_seq ?_
  refine W_region ?_
  refine wl_q (r_move (.pointer _) rfl) rfl rfl ?_
  refine wl_q (r_eqPtrNil true Tryd.underlying32 rfl rfl) rfl rfl ?_
  refine wl_nil ?_
  refine thenN ?_
  refine W_condT rfl ?_
  refine W_seq ?_
  refine W_region ?_
  refine wl_q (r_assign (.int _ _) rfl) rfl rfl ?_
  refine wl_nil ?_
  refine thenN ?_
  refine W_ret ?_
  refine thenR ?_
  skip
  refine fin1 (.int _ _) rfl ?_
  exact ⟨rfl, M0.below⟩

set_option maxHeartbeats 4000000 in
theorem grid_CandidatesN (w : World) :
    Calls Tryd.prog 13 #[.pointer none] w (fun ex w' => ∃ v, ex = .returned v ∧ (fun v w' => v = .slice none 0 0 ∧ Below w.heap.size w w') v w') := by
  refine calls_of_W #[.tmp 2] 49 Tryd.func13 rfl Tryd.results13 Tryd.ntmps13 rfl ?_
  have M0 := Mem.refl w
  refine W_seq ?_
  refine W_region ?_
  refine wl_q (r_assign (.slice _ _ _) rfl) rfl rfl ?_
  refine wl_nil ?_
  refine thenN ?_
  refine W_seq ?_
  refine W_seq ?_
  refine W_region ?_
  refine wl_q (r_move (.pointer _) rfl) rfl rfl ?_
  refine wl_q (r_eqPtrNil true Tryd.underlying32 rfl rfl) rfl rfl ?_
  refine wl_nil ?_
  refine thenN ?_
  refine W_condT rfl ?_
  refine W_seq ?_
  refine W_region ?_
  refine wl_q (r_assign (.slice _ _ _) rfl) rfl rfl ?_
  refine wl_nil ?_
  refine thenN ?_
  refine W_ret ?_
  refine thenR ?_
  skip
  refine fin1 (.slice _ _ _) rfl ?_
  exact ⟨rfl, M0.below⟩

set_option maxHeartbeats 8000000 in
theorem grid_At (w : World) (F : Rd w 2 (some ⟨0, 0, none⟩) 1 [[.int .u32 73856093, .int .u32 19349663]]) (b : Nat) (rs : List Row) (cnt : Int) (g : Nat → List Int) (hG : GridRows 42 rs g) (hO : Own ((some b, bc (gcells rs cnt) 30) :: rs.map Row.e) w) (hdF : 0 < 1 → ∀ q off, (some ⟨0, 0, none⟩ : Option Addr) = some ⟨q, off, none⟩ → q ∉ blks ((some b, bc (gcells rs cnt) 30) :: rs.map Row.e)) (hgl : ∀ j, (g j).length < 50) (x y : Int) :
    Calls Tryd.prog 16 #[.pointer (some ⟨b, 0, none⟩), .agg [.int .i32 x, .int .i32 y].toArray] w (fun ex w' => ∃ v, ex = .returned v ∧ (fun v w' => ∃ (r : Row) (ks : List Int), v = .slice r.A r.n r.c ∧ AscI ks ∧ (∀ z, z ∈ ks ↔ z ∈ g (bucketI (cellP x y))) ∧ RowIs 42 1 r.A r.n r.c (ks.map keyCell) r.e ∧ Mem w (blks ((some b, bc (gcells rs cnt) 30) :: rs.map Row.e)) ([(some b, bc (gcells rs cnt) 30), r.e] ++ rs.map Row.e) w') v w') := by
  obtain ⟨rb, hrb⟩ := hG.get (bucket_lt (cellP x y))
  have hgb := hgl (bucketI (cellP x y))
  refine calls_of_W #[.tmp 4] 21 Tryd.func16 rfl Tryd.results16 Tryd.ntmps16 rfl ?_
  have M0 := hO.mem
  refine W_seq ?_
  refine W_region ?_
  refine wl_box (.agg (List.toArray _)) M0 rfl rfl rfl (fun b1 w1 M1 => ?_)
  have M2 : Mem _ _ ([_, _] ++ _) _ := Mem.front (L := [_]) M1
  refine wl_q (r_assign (.slice _ _ _) rfl) rfl rfl ?_
  refine wl_nil ?_
  refine thenN ?_
  refine W_seq ?_
  refine W_seq ?_
  refine W_region ?_
  refine wl_q (r_move (.pointer _) rfl) rfl rfl ?_
  refine wl_q (r_eqPtrNil false Tryd.underlying32 rfl rfl) rfl rfl ?_
  refine wl_nil ?_
  refine thenN ?_
  refine W_condF rfl ?_
  refine W_skip ?_
  refine thenN ?_
  refine W_seq ?_
  refine W_draw [(0, 0), (1, 1), (4, 0), (5, 0), (2, 2), (3, 2), (6, 0), (7, 1), (8, 2), (9, 0)] mixed rfl (by kernel_rfl) (fun w3 hb3 hh3 => ?_)
  have M3 := M2.drew hb3 hh3
  refine D_p rfl rfl rfl (fun _ => r_move (.pointer _) rfl) ?_
  refine D_r rfl rfl rfl (r_ldW 1 agg24 M3 rfl rfl rfl) ?_
  refine D_p rfl rfl rfl (fun _ => r_nilCheck rfl) ?_
  refine D_p rfl rfl rfl (fun _ => r_fieldAddr 0 fld30_0 rfl) ?_
  refine D_e [true] rfl (by kernel_rfl) ?_
  refine wl_cal cal33 rfl rfl rfl ?_
  refine (cell_Of _ x y).mono ?_
  rintro _ w4 ⟨v4, rfl, ⟨rfl, hb4⟩⟩
  refine ⟨_, rfl, ?_⟩
  have M4 := M3.callB hb4
  refine wl_nil (thenN ⟨alN, ?_⟩)
  refine D_e [] rfl (by kernel_rfl) ?_
  refine wl_cal cal32 rfl rfl rfl ?_
  refine (cell_Bucket _ (F.memY M4 hdF) (cellP x y)).mono ?_
  rintro _ w5 ⟨v5, rfl, ⟨rfl, hb5⟩⟩
  refine ⟨_, rfl, ?_⟩
  have M5 := M4.callB hb5
  refine wl_nil (thenN ⟨alN, ?_⟩)
  refine D_p rfl rfl rfl (fun _ => r_idxP ((bucketI (cellP x y))) arr28 rfl rfl rfl (bucket_lt (cellP x y))) ?_
  refine D_r rfl rfl rfl (r_ld 0 (.slice _ _ _) one27 M5 rfl rfl (gcells_row hrb)) ?_
  refine D_e [true] rfl (by kernel_rfl) ?_
  refine wl_cal cal31 rfl rfl rfl ?_
  refine (slices_CloneK _ _ _ _ (g (bucketI (cellP x y))) ((hG.row _ _ hrb).rd M5 (List.mem_append_right _ (List.mem_map_of_mem (List.mem_of_getElem? hrb)))) (by have h := (hG.row _ _ hrb).1; rw [List.length_map] at h; omega)).mono ?_
  rintro _ w6 ⟨v6, rfl, ⟨r, rfl, hr, hM6⟩⟩
  refine ⟨_, rfl, ?_⟩
  have M6 : Mem _ _ ([_, _, _] ++ _) _ := Mem.front (L := [_, _]) (M5.call0 hM6)
  have hrn : (g (bucketI (cellP x y))).length = r.n := by simpa using hr.1
  refine wl_nil (thenN ⟨alN, ?_⟩)
  refine D_p rfl rfl rfl (fun _ => r_assign (.slice _ _ _) rfl) ?_
  refine D_nil ?_
  refine thenN ?_
  refine W_seq ?_
  refine W_region ?_
  refine wl_q (r_move (.slice _ _ _) rfl) rfl rfl ?_
  refine wl_cal cal34 rfl rfl rfl ?_
  refine (sort_all _ r.A r.n r.c (g (bucketI (cellP x y))).toArray r.e (by simpa using hr) (M6.ownAt (i := 2) rfl) (by omega)).mono ?_
  rintro _ w7 ⟨v7, rfl, ⟨rfl, e7, hR7, hM7⟩⟩
  refine ⟨_, rfl, ?_⟩
  have M7 : Mem _ _ ([_, _, _] ++ _) _ := Mem.last3 M6 hM7
  have hRs7 := hR7
  rw [List.toList_toArray] at hRs7
  refine wl_nil ?_
  refine thenN ?_
  refine W_seq ?_
  refine W_region ?_
  refine wl_q (r_move (.slice _ _ _) rfl) rfl rfl ?_
  refine wl_cal cal35 rfl rfl rfl ?_
  refine (slices_CompactK _ r.A r.n r.c ((g (bucketI (cellP x y))).mergeSort (fun x y => decide (x ≤ y))) _ hRs7 (M7.ownAt (i := 2) rfl) (mergeI_ord _) (by omega)).mono ?_
  rintro _ w8 ⟨v8, rfl, ⟨q, ks, rfl, hcp, hq, hM8⟩⟩
  refine ⟨_, rfl, ?_⟩
  have M8 : Mem _ _ ([_, _, _] ++ _) _ := Mem.last3 M7 hM8
  refine wl_q (r_assign (.slice _ _ _) rfl) rfl rfl ?_
  refine wl_nil ?_
  refine thenN ?_
  refine W_ret ?_
  skip
  refine fin1 (.slice _ _ _) rfl ?_
  exact ⟨q, ks, rfl, hcp.a, fun z => by rw [hcp.e z]; exact (mergeI_perm _).mem_iff, hq, Mem.keepL (L := [_, _, _]) [true, false, true] M8⟩

end Go.Proofs.YtjbhobahebebkaaDoor

/- Walks of Go functions over the frame of this claim: what each computes, for every input of the stated types (G10g). -/
set_option linter.unusedVariables false
set_option linter.unusedSimpArgs false
set_option linter.unnecessarySimpa false
namespace Go.Proofs.YtjbhobahebebkaaDoor
open Go.Bil
open Go.RowKit (Below)
open Go.Proofs

end Go.Proofs.YtjbhobahebebkaaDoor

/- Walks of Go functions over the frame of this claim: what each computes, for every input of the stated types (G10h). -/
set_option linter.unusedVariables false
set_option linter.unusedSimpArgs false
set_option linter.unnecessarySimpa false
namespace Go.Proofs.YtjbhobahebebkaaDoor
open Go.Bil
open Go.RowKit (Below)
open Go.Proofs

end Go.Proofs.YtjbhobahebebkaaDoor

/- Walks of Go functions over the frame of this claim: what each computes, for every input of the stated types (G10i). -/
set_option linter.unusedVariables false
set_option linter.unusedSimpArgs false
set_option linter.unnecessarySimpa false
namespace Go.Proofs.YtjbhobahebebkaaDoor
open Go.Bil
open Go.RowKit (Below)
open Go.Proofs

set_option maxRecDepth 100000 in
theorem zeroGr : zeroL Tryd.prog 30 = some (gcells (List.replicate 1024 nilRow) 0) := by kernel_rfl

set_option maxHeartbeats 4000000 in
theorem same_pairs (w : World) (A : Option Addr) (n c : Nat) (xs : List (Int × Int)) (R : Rd w 2 A n (xs.map pairCells)) (B : Option Addr) (m c' : Nat) (ys : List (Int × Int)) (R' : Rd w 2 B m (ys.map pairCells)) :
    Calls Tryd.prog 12 #[.slice A n c, .slice B m c'] w (fun ex w' => ∃ v, ex = .returned v ∧ (fun v w' => v = .bool (decide (xs = ys)) ∧ Below w.heap.size w w') v w') := by
  have hlen : xs.length = n := by simpa using R.len
  have hbd := R.bound
  have hlen' : ys.length = m := by simpa using R'.len
  have hbd' := R'.bound
  refine calls_of_W #[.tmp 4] 26 Tryd.func12 rfl Tryd.results12 Tryd.ntmps12 rfl ?_
  have M0 := Mem.refl w
  refine W_seq ?_
  refine W_region ?_
  refine wl_q (r_assign (.bool false) rfl) rfl rfl ?_
  refine wl_nil ?_
  refine thenN ?_
  refine W_seq ?_
  refine W_seq ?_
  refine W_region ?_
  refine wl_q (r_move (.slice _ _ _) rfl) rfl rfl ?_
  refine wl_q (r_lenS Tryd.underlying35 rfl) rfl rfl ?_
  refine wl_q (r_move (.slice _ _ _) rfl) rfl rfl ?_
  refine wl_q (r_lenS Tryd.underlying35 rfl) rfl rfl ?_
  refine wl_q (r_bin (.bool (decide _)) rfl rfl rfl) rfl rfl ?_
  refine wl_nil ?_
  refine thenN ?_
  refine W_condD rfl (fun h10 => ?_) (fun h10 => ?_)
  · skip
    refine W_seq ?_
    refine W_region ?_
    refine wl_q (r_assign (.bool false) rfl) rfl rfl ?_
    refine wl_nil ?_
    refine thenN ?_
    refine W_ret ?_
    refine thenR ?_
    skip
    refine fin1 (.bool false) rfl ?_
    exact ⟨bF (fun e => h10 (by rw [← hlen, ← hlen', e])), M0.below⟩
  · skip
    have hnm : n = m := by omega
    refine W_skip ?_
    refine thenN ?_
    refine W_seq ?_
    refine W_seq ?_
    refine W_region ?_
    refine wl_q (r_assign (.int _ _) rfl) rfl rfl ?_
    refine wl_nil ?_
    refine thenN ?_
    refine W_block ?_
    refine W_loop (σ := Nat) [0, 1] (fun k => [(5, .int .i64 (k : Int))]) (fun k w' => (k ≤ n ∧ ∀ (j : Nat) (x : Int × Int), j < k → xs[j]? = some x → ys[j]? = some x) ∧ Mem w [] [] w') (fun k => n - k) 0 (agC rfl agN) (⟨⟨by omega, fun j c hj => by omega⟩, M0⟩) ?_
    rintro k ρ1 w1 ⟨⟨hk, hne⟩, hM1⟩
    refine W_seq ?_
    refine W_seq ?_
    refine W_region ?_
    refine wl_q (r_move (.int _ _) rfl) rfl rfl ?_
    refine wl_q (r_move (.slice _ _ _) rfl) rfl rfl ?_
    refine wl_q (r_lenS Tryd.underlying35 rfl) rfl rfl ?_
    refine wl_q (r_bin (.bool (decide _)) rfl rfl rfl) rfl rfl ?_
    refine wl_nil ?_
    refine thenN ?_
    refine W_condD rfl (fun h14 => ?_) (fun h14 => ?_)
    · skip
      obtain ⟨xb, hxb⟩ := getSome (k := k) hlen (by omega)
      obtain ⟨yb, hyb⟩ := getSome (k := k) hlen' (by omega)
      refine W_skip ?_
      refine thenN ?_
      refine W_seq ?_
      refine W_block ?_
      refine W_seq ?_
      refine W_draw [(0, 0), (1, 0), (2, 1), (3, 1), (4, 0), (5, 0), (6, 1), (7, 1), (8, 0)] mixed rfl (by kernel_rfl) (fun w2 hb2 hh2 => ?_)
      have M2 := hM1.drew hb2 hh2
      refine D_p rfl rfl rfl (fun _ => r_move (.slice _ _ _) rfl) ?_
      refine D_p rfl rfl rfl (fun _ => r_move (.int _ _) rfl) ?_
      refine D_r rfl rfl rfl (r_idxR (k) sl35 rfl rfl rfl ((R.mem M2).below_len (mapGet pairCells hxb)) ((R.mem M2).someK (mapGet pairCells hxb))) ?_
      refine D_r rfl rfl rfl (r_ldEA _ agg44 (R.mem M2) (mapGet pairCells hxb) rfl) ?_
      refine D_p rfl rfl rfl (fun _ => r_move (.slice _ _ _) rfl) ?_
      refine D_p rfl rfl rfl (fun _ => r_move (.int _ _) rfl) ?_
      refine D_r rfl rfl rfl (r_idxR (k) sl35 rfl rfl rfl ((R'.mem M2).below_len (mapGet pairCells hyb)) ((R'.mem M2).someK (mapGet pairCells hyb))) ?_
      refine D_r rfl rfl rfl (r_ldEA _ agg44 (R'.mem M2) (mapGet pairCells hyb) rfl) ?_
      refine D_p rfl rfl rfl (fun _ => r_neA (eqPr xb yb) rfl rfl) ?_
      refine D_nil ?_
      refine thenN ?_
      refine W_condD rfl (fun h25 => ?_) (fun h25 => ?_)
      · skip
        refine W_seq ?_
        refine W_region ?_
        refine wl_q (r_assign (.bool false) rfl) rfl rfl ?_
        refine wl_nil ?_
        refine thenN ?_
        refine W_ret ?_
        refine blkR ?_
        refine thenR ?_
        refine roundR ?_
        refine blkR ?_
        refine thenR ?_
        skip
        refine fin1 (.bool false) rfl ?_
        exact ⟨bF (fun e => h25 (by rw [e] at hxb; rw [hxb] at hyb; injection hyb)), M2.below⟩
      · skip
        refine W_skip ?_
        refine blkN ?_
        refine thenN ?_
        refine W_region ?_
        refine wl_q (r_move (.int _ _) rfl) rfl rfl ?_
        refine wl_q (r_add rfl rfl (by omega) (by omega)) rfl rfl ?_
        refine wl_q (r_assign (.int _ _) rfl) rfl rfl ?_
        refine wl_nil ?_
        refine roundN (k + 1) (agC rfl agN) (akC rfl (akC rfl akN)) ?_ ?_
        · exact ⟨⟨by omega, allNext (p := fun j x => ys[j]? = some x) hne hxb (by rw [hyb, Decidable.not_not.1 h25])⟩, M2⟩
        · omega
    · skip
      refine W_exit ?_
      refine thenX ?_
      refine roundX ?_
      refine blkH ?_
      refine thenN ?_
      refine W_seq ?_
      refine W_region ?_
      refine wl_q (r_assign (.bool true) rfl) rfl rfl ?_
      refine wl_nil ?_
      refine thenN ?_
      refine W_ret ?_
      skip
      refine fin1 (.bool true) rfl ?_
      exact ⟨bT (listSame hlen hlen' hnm (fun j x hj hx => hne j x (by omega) hx)), hM1.below⟩

set_option maxHeartbeats 4000000 in
theorem same_keys (w : World) (A : Option Addr) (n c : Nat) (xs : List Int) (R : Rd w 1 A n (xs.map keyCell)) (B : Option Addr) (m c' : Nat) (ys : List Int) (R' : Rd w 1 B m (ys.map keyCell)) :
    Calls Tryd.prog 15 #[.slice A n c, .slice B m c'] w (fun ex w' => ∃ v, ex = .returned v ∧ (fun v w' => v = .bool (decide (xs = ys)) ∧ Below w.heap.size w w') v w') := by
  have hlen : xs.length = n := by simpa using R.len
  have hbd := R.bound
  have hlen' : ys.length = m := by simpa using R'.len
  have hbd' := R'.bound
  refine calls_of_W #[.tmp 4] 26 Tryd.func15 rfl Tryd.results15 Tryd.ntmps15 rfl ?_
  have M0 := Mem.refl w
  refine W_seq ?_
  refine W_region ?_
  refine wl_q (r_assign (.bool false) rfl) rfl rfl ?_
  refine wl_nil ?_
  refine thenN ?_
  refine W_seq ?_
  refine W_seq ?_
  refine W_region ?_
  refine wl_q (r_move (.slice _ _ _) rfl) rfl rfl ?_
  refine wl_q (r_lenS Tryd.underlying27 rfl) rfl rfl ?_
  refine wl_q (r_move (.slice _ _ _) rfl) rfl rfl ?_
  refine wl_q (r_lenS Tryd.underlying27 rfl) rfl rfl ?_
  refine wl_q (r_bin (.bool (decide _)) rfl rfl rfl) rfl rfl ?_
  refine wl_nil ?_
  refine thenN ?_
  refine W_condD rfl (fun h10 => ?_) (fun h10 => ?_)
  · skip
    refine W_seq ?_
    refine W_region ?_
    refine wl_q (r_assign (.bool false) rfl) rfl rfl ?_
    refine wl_nil ?_
    refine thenN ?_
    refine W_ret ?_
    refine thenR ?_
    skip
    refine fin1 (.bool false) rfl ?_
    exact ⟨bF (fun e => h10 (by rw [← hlen, ← hlen', e])), M0.below⟩
  · skip
    have hnm : n = m := by omega
    refine W_skip ?_
    refine thenN ?_
    refine W_seq ?_
    refine W_seq ?_
    refine W_region ?_
    refine wl_q (r_assign (.int _ _) rfl) rfl rfl ?_
    refine wl_nil ?_
    refine thenN ?_
    refine W_block ?_
    refine W_loop (σ := Nat) [0, 1] (fun k => [(5, .int .i64 (k : Int))]) (fun k w' => (k ≤ n ∧ ∀ (j : Nat) (x : Int), j < k → xs[j]? = some x → ys[j]? = some x) ∧ Mem w [] [] w') (fun k => n - k) 0 (agC rfl agN) (⟨⟨by omega, fun j c hj => by omega⟩, M0⟩) ?_
    rintro k ρ1 w1 ⟨⟨hk, hne⟩, hM1⟩
    refine W_seq ?_
    refine W_seq ?_
    refine W_region ?_
    refine wl_q (r_move (.int _ _) rfl) rfl rfl ?_
    refine wl_q (r_move (.slice _ _ _) rfl) rfl rfl ?_
    refine wl_q (r_lenS Tryd.underlying27 rfl) rfl rfl ?_
    refine wl_q (r_bin (.bool (decide _)) rfl rfl rfl) rfl rfl ?_
    refine wl_nil ?_
    refine thenN ?_
    refine W_condD rfl (fun h14 => ?_) (fun h14 => ?_)
    · skip
      obtain ⟨xb, hxb⟩ := getSome (k := k) hlen (by omega)
      obtain ⟨yb, hyb⟩ := getSome (k := k) hlen' (by omega)
      refine W_skip ?_
      refine thenN ?_
      refine W_seq ?_
      refine W_block ?_
      refine W_seq ?_
      refine W_draw [(0, 0), (1, 0), (2, 1), (3, 1), (4, 0), (5, 0), (6, 1), (7, 1), (8, 0)] mixed rfl (by kernel_rfl) (fun w2 hb2 hh2 => ?_)
      have M2 := hM1.drew hb2 hh2
      refine D_p rfl rfl rfl (fun _ => r_move (.slice _ _ _) rfl) ?_
      refine D_p rfl rfl rfl (fun _ => r_move (.int _ _) rfl) ?_
      refine D_r rfl rfl rfl (r_idxR (k) sl27 rfl rfl rfl ((R.mem M2).below_len (mapGet keyCell hxb)) ((R.mem M2).someK (mapGet keyCell hxb))) ?_
      refine D_r rfl rfl rfl (r_ldE0 (.int _ _) one42 (R.mem M2) (mapGet keyCell hxb) rfl) ?_
      refine D_p rfl rfl rfl (fun _ => r_move (.slice _ _ _) rfl) ?_
      refine D_p rfl rfl rfl (fun _ => r_move (.int _ _) rfl) ?_
      refine D_r rfl rfl rfl (r_idxR (k) sl27 rfl rfl rfl ((R'.mem M2).below_len (mapGet keyCell hyb)) ((R'.mem M2).someK (mapGet keyCell hyb))) ?_
      refine D_r rfl rfl rfl (r_ldE0 (.int _ _) one42 (R'.mem M2) (mapGet keyCell hyb) rfl) ?_
      refine D_p rfl rfl rfl (fun _ => r_bin (.bool (decide _)) rfl rfl rfl) ?_
      refine D_nil ?_
      refine thenN ?_
      refine W_condD rfl (fun h25 => ?_) (fun h25 => ?_)
      · skip
        refine W_seq ?_
        refine W_region ?_
        refine wl_q (r_assign (.bool false) rfl) rfl rfl ?_
        refine wl_nil ?_
        refine thenN ?_
        refine W_ret ?_
        refine blkR ?_
        refine thenR ?_
        refine roundR ?_
        refine blkR ?_
        refine thenR ?_
        skip
        refine fin1 (.bool false) rfl ?_
        exact ⟨bF (fun e => h25 (by rw [e] at hxb; rw [hxb] at hyb; injection hyb)), M2.below⟩
      · skip
        refine W_skip ?_
        refine blkN ?_
        refine thenN ?_
        refine W_region ?_
        refine wl_q (r_move (.int _ _) rfl) rfl rfl ?_
        refine wl_q (r_add rfl rfl (by omega) (by omega)) rfl rfl ?_
        refine wl_q (r_assign (.int _ _) rfl) rfl rfl ?_
        refine wl_nil ?_
        refine roundN (k + 1) (agC rfl agN) (akC rfl (akC rfl akN)) ?_ ?_
        · exact ⟨⟨by omega, allNext (p := fun j x => ys[j]? = some x) hne hxb (by rw [hyb, Decidable.not_not.1 h25])⟩, M2⟩
        · omega
    · skip
      refine W_exit ?_
      refine thenX ?_
      refine roundX ?_
      refine blkH ?_
      refine thenN ?_
      refine W_seq ?_
      refine W_region ?_
      refine wl_q (r_assign (.bool true) rfl) rfl rfl ?_
      refine wl_nil ?_
      refine thenN ?_
      refine W_ret ?_
      skip
      refine fin1 (.bool true) rfl ?_
      exact ⟨bT (listSame hlen hlen' hnm (fun j x hj hx => hne j x (by omega) hx)), hM1.below⟩

end Go.Proofs.YtjbhobahebebkaaDoor

/- Walks of Go functions over the frame of this claim: what each computes, for every input of the stated types (G10j). -/
set_option linter.unusedVariables false
set_option linter.unusedSimpArgs false
set_option linter.unnecessarySimpa false
namespace Go.Proofs.YtjbhobahebebkaaDoor
open Go.Bil
open Go.RowKit (Below)
open Go.Proofs

theorem aw10_b1 : bks (⟨0, 0, 5, 5⟩ : Bx) = [0] := by decide +kernel
theorem aw10_b2 : bks (⟨7, 7, 4194304, 8⟩ : Bx) = [0, 93] := by decide +kernel
theorem aw10_b3 : bks (⟨4194304, 0, 4194305, 3⟩ : Bx) = [93] := by decide +kernel
theorem aw10_c {z : Int × Int} : candP ([(9, ⟨0, 0, 5, 5⟩), (3, ⟨7, 7, 4194304, 8⟩), (5, ⟨4194304, 0, 4194305, 3⟩)] : List GE) z ↔ z ∈ [(3, 5), (3, 9)] := by
  unfold candP
  simp only [List.mem_cons, List.not_mem_nil, or_false]
  constructor
  · rintro ⟨hlt, x, hx, y, hy, e1, e2, n, hn, hm⟩
    obtain ⟨z1, z2⟩ := z
    simp only at hlt e1 e2
    rcases hx with rfl | rfl | rfl <;> rcases hy with rfl | rfl | rfl <;> simp only at e1 e2 hn hm <;> subst e1 e2 <;> simp_all [aw10_b1, aw10_b2, aw10_b3]
  · rintro (rfl | rfl)
    · exact ⟨by decide, _, .inr (.inl rfl), _, .inr (.inr rfl), rfl, rfl, 93, by simp [aw10_b2], by simp [aw10_b3]⟩
    · exact ⟨by decide, _, .inr (.inl rfl), _, .inl rfl, rfl, rfl, 0, by simp [aw10_b2], by simp [aw10_b1]⟩
theorem aw10_n : bucketI (cellP 100 0) = 0 := by decide +kernel
theorem aw10_k {z : Int} : z ∈ fillG ([(9, ⟨0, 0, 5, 5⟩), (3, ⟨7, 7, 4194304, 8⟩), (5, ⟨4194304, 0, 4194305, 3⟩)] : List GE) noG (bucketI (cellP 100 0)) ↔ z ∈ [3, 9] := by
  rw [aw10_n, mem_fill]
  simp only [List.mem_cons, List.not_mem_nil, or_false]
  constructor
  · rintro ⟨x, rfl | rfl | rfl, rfl, hn⟩ <;> simp_all [aw10_b1, aw10_b2, aw10_b3]
  · rintro (rfl | rfl)
    · exact ⟨_, .inr (.inl rfl), rfl, by simp [aw10_b2]⟩
    · exact ⟨_, .inl rfl, rfl, by simp [aw10_b1]⟩

end Go.Proofs.YtjbhobahebebkaaDoor

/- Walks of Go functions over the frame of this claim: what each computes, for every input of the stated types (G10k). -/
set_option linter.unusedVariables false
set_option linter.unusedSimpArgs false
set_option linter.unnecessarySimpa false
namespace Go.Proofs.YtjbhobahebebkaaDoor
open Go.Bil
open Go.RowKit (Below)
open Go.Proofs

set_option maxHeartbeats 16000000 in
theorem aw10 (w : World) (F : Rd w 2 (some ⟨0, 0, none⟩) 1 [[.int .u32 73856093, .int .u32 19349663]]) :
    Calls Tryd.prog 8 #[] w (fun ex w' => ∃ v, ex = .returned v ∧ (fun v w' => v = .bool true ∧ Below w.heap.size w w') v w') := by
  have hln1 : ∀ j, j < 1024 → (noG j).length ≤ 0 := fun j _ => by simp [noG]
  have hadd : ∀ (g : Nat → List Int) (m : Nat) (k : Int) (bs : List Nat), (∀ j, j < 1024 → (g j).length ≤ m) → ∀ j, j < 1024 → (addG g k bs j).length ≤ m + 1 := fun g m k bs h j hj => by have := h j hj; unfold addG; split <;> simp <;> omega
  have hln2 := hadd _ _ 9 (bks (⟨0, 0, 5, 5⟩ : Bx)) hln1
  have hln3 := hadd _ _ 3 (bks (⟨7, 7, 4194304, 8⟩ : Bx)) hln2
  refine calls_of_W #[.tmp 0] 35 Tryd.func8 rfl Tryd.results8 Tryd.ntmps8 rfl ?_
  have M0 := Mem.refl w
  refine W_seq ?_
  refine W_region ?_
  refine wl_q (r_assign (.bool false) rfl) rfl rfl ?_
  refine wl_nil ?_
  refine thenN ?_
  refine W_seq ?_
  refine W_region ?_
  refine wl_alloc zeroGr M0 rfl rfl (fun b1 w1 M1 => ?_)
  have M2 := Mem.gridNew (L := []) M1
  refine wl_nil ?_
  refine thenN ?_
  refine W_seq ?_
  refine W_region ?_
  refine wl_q (r_assign (.pointer _) rfl) rfl rfl ?_
  refine wl_nil ?_
  refine thenN ?_
  refine W_seq ?_
  refine W_region ?_
  refine wl_q (r_build [(2, .int _ _), (3, .int _ _)] _ struct56 rfl rfl) rfl rfl ?_
  refine wl_cal cal22 rfl rfl rfl ?_
  refine (grid_Insert _ (F.mem M2) b1 (List.replicate 1024 nilRow) 0 noG (grid_noG 42) (by omega) (fun j hj => by have := hln1 j hj; omega) 9 (⟨0, 0, 5, 5⟩ : Bx) (by exact ⟨by decide, by decide, by decide, by decide⟩) (Mem.ownTail (L := []) M2) (Mem.awayTail (L := []) M2 F)).mono ?_
  rintro _ w3 ⟨v3, rfl, ⟨rfl, rs1, hG1, hM3⟩⟩
  refine ⟨_, rfl, ?_⟩
  have M3 : Mem _ _ ([] ++ _) _ := Mem.tail (L := []) M2 hM3
  refine wl_nil ?_
  refine thenN ?_
  refine W_seq ?_
  refine W_region ?_
  refine wl_q (r_build [(0, .int _ _), (1, .int _ _), (2, .int _ _), (3, .int _ _)] _ struct56 rfl rfl) rfl rfl ?_
  refine wl_cal cal22 rfl rfl rfl ?_
  refine (grid_Insert _ (F.mem M3) b1 rs1 (0 + 1) (addG noG 9 (bks (⟨0, 0, 5, 5⟩ : Bx))) hG1 (by omega) (fun j hj => by have := hln2 j hj; omega) 3 (⟨7, 7, 4194304, 8⟩ : Bx) (by exact ⟨by decide, by decide, by decide, by decide⟩) (Mem.ownTail (L := []) M3) (Mem.awayTail (L := []) M3 F)).mono ?_
  rintro _ w4 ⟨v4, rfl, ⟨rfl, rs2, hG2, hM4⟩⟩
  refine ⟨_, rfl, ?_⟩
  have M4 : Mem _ _ ([] ++ _) _ := Mem.tail (L := []) M3 hM4
  refine wl_nil ?_
  refine thenN ?_
  refine W_seq ?_
  refine W_region ?_
  refine wl_q (r_build [(0, .int _ _), (2, .int _ _), (3, .int _ _)] _ struct56 rfl rfl) rfl rfl ?_
  refine wl_cal cal22 rfl rfl rfl ?_
  refine (grid_Insert _ (F.mem M4) b1 rs2 ((0 + 1) + 1) (addG (addG noG 9 (bks (⟨0, 0, 5, 5⟩ : Bx))) 3 (bks (⟨7, 7, 4194304, 8⟩ : Bx))) hG2 (by omega) (fun j hj => by have := hln3 j hj; omega) 5 (⟨4194304, 0, 4194305, 3⟩ : Bx) (by exact ⟨by decide, by decide, by decide, by decide⟩) (Mem.ownTail (L := []) M4) (Mem.awayTail (L := []) M4 F)).mono ?_
  rintro _ w5 ⟨v5, rfl, ⟨rfl, rs3, hG3, hM5⟩⟩
  refine ⟨_, rfl, ?_⟩
  have M5 : Mem _ _ ([] ++ _) _ := Mem.tail (L := []) M4 hM5
  refine wl_nil ?_
  refine thenN ?_
  refine W_seq ?_
  refine W_region ?_
  refine wl_cal cal13 rfl rfl rfl ?_
  refine (grid_Candidates _ b1 rs3 (((0 + 1) + 1) + 1) (fillG ([(9, ⟨0, 0, 5, 5⟩), (3, ⟨7, 7, 4194304, 8⟩), (5, ⟨4194304, 0, 4194305, 3⟩)] : List GE) noG) (show GridRows 42 rs3 (fillG ([(9, ⟨0, 0, 5, 5⟩), (3, ⟨7, 7, 4194304, 8⟩), (5, ⟨4194304, 0, 4194305, 3⟩)] : List GE) noG) from hG3).len (Mem.gridRd (show Mem _ _ ([] ++ _) _ from M5) (show GridRows 42 rs3 (fillG ([(9, ⟨0, 0, 5, 5⟩), (3, ⟨7, 7, 4194304, 8⟩), (5, ⟨4194304, 0, 4194305, 3⟩)] : List GE) noG) from hG3).len) (fun j r hr => Mem.rowRd (show Mem _ _ ([] ++ _) _ from M5) (show GridRows 42 rs3 (fillG ([(9, ⟨0, 0, 5, 5⟩), (3, ⟨7, 7, 4194304, 8⟩), (5, ⟨4194304, 0, 4194305, 3⟩)] : List GE) noG) from hG3) j r hr) (([(9, ⟨0, 0, 5, 5⟩), (3, ⟨7, 7, 4194304, 8⟩), (5, ⟨4194304, 0, 4194305, 3⟩)] : List GE).map (·.1)) (keys_fill ([(9, ⟨0, 0, 5, 5⟩), (3, ⟨7, 7, 4194304, 8⟩), (5, ⟨4194304, 0, 4194305, 3⟩)] : List GE)) (by first | (simp; done) | (simp; omega))).mono ?_
  rintro _ w6 ⟨v6, rfl, ⟨r, psr, hascr, hpsr, rfl, hr, hM6⟩⟩
  refine ⟨_, rfl, ?_⟩
  have M6 : Mem _ _ ([_] ++ _) _ := Mem.front (L := []) (M5.call0 hM6)
  have hcdr : ∀ z, z ∈ psr ↔ candP ([(9, ⟨0, 0, 5, 5⟩), (3, ⟨7, 7, 4194304, 8⟩), (5, ⟨4194304, 0, 4194305, 3⟩)] : List GE) z := fun z => (hpsr z).trans cand_fill
  have hfwr := cand_few hascr hcdr
  have hlnr : psr.length = r.n := by simpa using hr.1
  refine wl_q (r_build [(0, .int _ _), (1, .int _ _)] _ struct44 rfl rfl) rfl rfl ?_
  refine wl_q (r_build [(0, .int _ _), (1, .int _ _)] _ struct44 rfl rfl) rfl rfl ?_
  refine wl_bslice [.agg (List.toArray _), .agg (List.toArray _)] [pairCells (3, 5), pairCells (3, 9)] rfl sl35 M6 rfl rfl rfl rfl (lens_of rfl) (by decide) (fun b7 w7 M7 => ?_)
  have M8 : Mem _ _ ([_, _] ++ _) _ := Mem.front (L := [_]) M7
  have hlit12 := rowLit (T := 44) (b := b7) (([(3, 5), (3, 9)] : List (Int × Int)).map pairCells) (pairs_len _) rfl (by decide)
  refine wl_cal cal12 rfl rfl rfl ?_
  refine (same_pairs _ _ _ _ psr (hr.rd M8 (nthMem (i := 0) rfl)) _ _ _ [(3, 5), (3, 9)] (hlit12.rd M8 (nthMem (i := 1) rfl))).mono ?_
  rintro _ w9 ⟨v9, rfl, ⟨rfl, hb9⟩⟩
  refine ⟨_, rfl, ?_⟩
  have M9 := M8.callB hb9
  refine wl_re 13 (.bool true) (bT (asc_unique hascr (by simp [ltP]) (fun z => (hcdr z).trans aw10_c))).symm ?_
  refine wl_q (r_move (.bool true) rfl) rfl rfl ?_
  refine wl_q (r_build [(0, .int _ _)] _ struct24 rfl rfl) rfl rfl ?_
  refine wl_cal cal16 rfl rfl rfl ?_
  refine (grid_At _ (F.mem M9) b1 rs3 (((0 + 1) + 1) + 1) (fillG ([(9, ⟨0, 0, 5, 5⟩), (3, ⟨7, 7, 4194304, 8⟩), (5, ⟨4194304, 0, 4194305, 3⟩)] : List GE) noG) hG3 (Mem.ownTail (L := [_, _]) M9) (Mem.awayTail (L := [_, _]) M9 F) (fun j => by have h1 := fill_len ([(9, ⟨0, 0, 5, 5⟩), (3, ⟨7, 7, 4194304, 8⟩), (5, ⟨4194304, 0, 4194305, 3⟩)] : List GE) j; simp at h1; omega) 100 0).mono ?_
  rintro _ w10 ⟨v10, rfl, ⟨q, ksq, rfl, hakq, hksq, hq, hM10⟩⟩
  refine ⟨_, rfl, ?_⟩
  have M10 : Mem _ _ ([_, _, _] ++ _) _ := Mem.gridGet (L := [_, _]) M9 hM10
  have hlnq : ksq.length = q.n := by simpa using hq.1
  refine wl_bslice [.int _ _, .int _ _] [keyCell 3, keyCell 9] rfl sl27 M10 rfl rfl rfl rfl (lens_of rfl) (by decide) (fun b11 w11 M11 => ?_)
  have M12 : Mem _ _ ([_, _, _, _] ++ _) _ := Mem.front (L := [_, _, _]) M11
  have hlit17 := rowLit (T := 42) (b := b11) (([3, 9] : List Int).map keyCell) (keys_len _) rfl (by decide)
  refine wl_cal cal15 rfl rfl rfl ?_
  refine (same_keys _ _ _ _ ksq (hq.rd M12 (nthMem (i := 2) rfl)) _ _ _ [3, 9] (hlit17.rd M12 (nthMem (i := 3) rfl))).mono ?_
  rintro _ w13 ⟨v13, rfl, ⟨rfl, hb13⟩⟩
  refine ⟨_, rfl, ?_⟩
  have M13 := M12.callB hb13
  refine wl_re 18 (.bool true) (bT (ascI_unique hakq (by simp) (fun z => (hksq z).trans aw10_k))).symm ?_
  refine wl_q (r_pick true (.bool true) rfl rfl) rfl rfl ?_
  refine wl_q (r_move (.bool true) rfl) rfl rfl ?_
  refine wl_cal cal11 rfl rfl rfl ?_
  refine (grid_Len _ b1 rs3 (((0 + 1) + 1) + 1) (addG (addG (addG noG 9 (bks (⟨0, 0, 5, 5⟩ : Bx))) 3 (bks (⟨7, 7, 4194304, 8⟩ : Bx))) 5 (bks (⟨4194304, 0, 4194305, 3⟩ : Bx))) hG3 (Mem.ownTail (L := [_, _, _, _]) M13)).mono ?_
  rintro _ w14 ⟨v14, rfl, ⟨rfl, hM14⟩⟩
  refine ⟨_, rfl, ?_⟩
  have M14 : Mem _ _ ([_, _, _, _] ++ _) _ := Mem.tail (L := [_, _, _, _]) M13 hM14
  refine wl_q (r_bin (.bool (decide _)) rfl rfl rfl) rfl rfl ?_
  refine wl_re 22 (.bool true) (bT (by omega)).symm ?_
  refine wl_q (r_pick true (.bool true) rfl rfl) rfl rfl ?_
  refine wl_q (r_move (.bool true) rfl) rfl rfl ?_
  refine wl_q (r_move (.pointer _) rfl) rfl rfl ?_
  refine wl_cal cal11 rfl rfl rfl ?_
  refine (grid_LenN _).mono ?_
  rintro _ w15 ⟨v15, rfl, ⟨rfl, hb15⟩⟩
  refine ⟨_, rfl, ?_⟩
  have M15 := M14.callB hb15
  refine wl_q (r_bin (.bool (decide _)) rfl rfl rfl) rfl rfl ?_
  refine wl_re 27 (.bool true) (bT rfl).symm ?_
  refine wl_q (r_pick true (.bool true) rfl rfl) rfl rfl ?_
  refine wl_q (r_move (.bool true) rfl) rfl rfl ?_
  refine wl_q (r_move (.pointer _) rfl) rfl rfl ?_
  refine wl_cal cal13 rfl rfl rfl ?_
  refine (grid_CandidatesN _).mono ?_
  rintro _ w16 ⟨v16, rfl, ⟨rfl, hb16⟩⟩
  refine ⟨_, rfl, ?_⟩
  have M16 := M15.callB hb16
  refine wl_q (r_lenS Tryd.underlying35 rfl) rfl rfl ?_
  refine wl_q (r_bin (.bool (decide _)) rfl rfl rfl) rfl rfl ?_
  refine wl_re 33 (.bool true) (bT rfl).symm ?_
  refine wl_q (r_pick true (.bool true) rfl rfl) rfl rfl ?_
  refine wl_q (r_assign (.bool true) rfl) rfl rfl ?_
  refine wl_nil ?_
  refine thenN ?_
  refine W_ret ?_
  skip
  refine fin1 (.bool true) rfl ?_
  exact ⟨rfl, M16.below⟩

end Go.Proofs.YtjbhobahebebkaaDoor

/- Walks of Go functions over the frame of this claim: what each computes, for every input of the stated types (G10l). -/
set_option linter.unusedVariables false
set_option linter.unusedSimpArgs false
set_option linter.unnecessarySimpa false
namespace Go.Proofs.YtjbhobahebebkaaDoor
open Go.Bil
open Go.RowKit (Below)
open Go.Proofs

theorem Rd.subE {w : World} {n c : Nat} {A : Option Addr} {es : List GE} (R : Rd w 5 A n (es.map geCells)) (l h : Nat) (hl : l ≤ h) (hh : h ≤ n) (hc : n ≤ c) : Rd w 5 (subA A c l 5) (h - l) (((es.drop l).take (h - l)).map geCells) := by
  rw [List.map_take, List.map_drop]; exact R.sub l h hl hh hc
end Go.Proofs.YtjbhobahebebkaaDoor

/- Walks of Go functions over the frame of this claim: what each computes, for every input of the stated types (G10o). -/
set_option linter.unusedVariables false
set_option linter.unusedSimpArgs false
set_option linter.unnecessarySimpa false
namespace Go.Proofs.YtjbhobahebebkaaDoor
open Go.Bil
open Go.RowKit (Below)
open Go.Proofs

theorem turn2 {es : List GE} {k n : Nat} (hn : es.length = n) (hk : k < n) (x : GE) : x ∈ es ↔ x ∈ ((es.drop k).take (n - k) ++ (es.drop 0).take (k - 0)) ++ (es.drop k).take (k + 1 - k) := by
  have h : x ∈ es ↔ x ∈ es.take k ∨ x ∈ es.drop k := by rw [← List.mem_append, List.take_append_drop]
  have e1 : (es.drop k).take (n - k) = es.drop k := List.take_of_length_le (by rw [List.length_drop]; omega)
  simp only [List.mem_append, e1, List.drop_zero, Nat.sub_zero]
  constructor
  · intro hx
    exact .inl ((h.1 hx).symm)
  · rintro ((hx | hx) | hx)
    · exact h.2 (.inr hx)
    · exact h.2 (.inl hx)
    · exact h.2 (.inr (List.mem_of_mem_take hx))
theorem subl {es : List GE} {n a b : Nat} (hn : es.length = n) (h : b ≤ n) : ((es.drop a).take (b - a)).length = b - a := by rw [List.length_take, List.length_drop]; omega

end Go.Proofs.YtjbhobahebebkaaDoor
