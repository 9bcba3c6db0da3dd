/- Part of the proof of the laws of this seat: G10e, G10f, G10g, G10h, G10i, G10j, G10k, G10l. No conditions. -/
import Derived.Test.YtjbhobahebebkaaDoorK5
import Derived.Test.YtjbhobahebebkaaDoorK23
import Derived.Test.YtjbhobahebebkaaDoorK24
import Derived.Test.YtjbhobahebebkaaDoorK18
/- Walks of Go functions over the frame of this claim: what each computes, for every input of the stated types (G10e). -/
set_option linter.unusedVariables false
set_option linter.unusedSimpArgs false
set_option linter.unnecessarySimpa false
namespace Go.Proofs.YtjbhobahebebkaaDoor
open Go.Bil
open Go.RowKit (Below)
open Go.Proofs

set_option maxHeartbeats 4000000 in
theorem ref01_FloorG (w : World) (a b : Int) (hb : 0 < b) (h0 : -1000000000000000000 ≤ a) (h1 : a ≤ 1000000000000000000) :
    Calls Tryd.prog 51 #[.int .i64 a, .int .i64 b] w (fun ex w' => ∃ v, ex = .returned v ∧ (fun v w' => v = .int .i64 (a / b) ∧ Below w.heap.size w w') v w') := by
  have hf := floor_trunc (a := a) hb
  have hb1 := tdiv_small a b
  refine calls_of_W #[.tmp 4] 16 Tryd.func51 rfl Tryd.results51 Tryd.ntmps51 rfl ?_
  have M0 := Mem.refl w
  refine W_seq ?_
  refine W_region ?_
  refine wl_q (r_assign (.int _ _) rfl) rfl rfl ?_
  refine wl_nil ?_
  refine thenN ?_
  refine W_seq ?_
  refine W_region ?_
  refine wl_q (r_move (.int _ _) rfl) rfl rfl ?_
  refine wl_q (r_move (.int _ _) rfl) rfl rfl ?_
  refine wl_q (r_quo rfl rfl (by omega)) rfl rfl ?_
  refine wl_re 8 (.int .i64 (a.tdiv b)) (iE (w64 _ (by omega) (by omega))) ?_
  refine wl_q (r_assign (.int _ _) rfl) rfl rfl ?_
  refine wl_nil ?_
  refine thenN ?_
  refine W_seq ?_
  refine W_seq ?_
  refine W_region ?_
  refine wl_q (r_move (.int _ _) rfl) rfl rfl ?_
  refine wl_q (r_move (.int _ _) rfl) rfl rfl ?_
  refine wl_q (r_rem rfl rfl (by omega)) rfl rfl ?_
  refine wl_q (r_bin (.bool (decide _)) rfl rfl rfl) rfl rfl ?_
  refine wl_nil ?_
  refine thenN ?_
  refine W_condD rfl (fun h12 => ?_) (fun h12 => ?_)
  · skip
    refine W_seq ?_
    refine W_region ?_
    refine wl_q (r_move (.int _ _) rfl) rfl rfl ?_
    refine wl_q (r_sub rfl rfl (by omega) (by omega)) rfl rfl ?_
    refine wl_q (r_assign (.int _ _) rfl) rfl rfl ?_
    refine wl_nil ?_
    refine thenN ?_
    refine W_ret ?_
    refine thenR ?_
    skip
    refine fin1 (.int _ _) rfl ?_
    exact ⟨iE (by first | exact hf.1 (by omega) | exact hf.2 (by omega)), M0.below⟩
  · skip
    refine W_skip ?_
    refine thenN ?_
    refine W_seq ?_
    refine W_region ?_
    refine wl_q (r_move (.int _ _) rfl) rfl rfl ?_
    refine wl_q (r_assign (.int _ _) rfl) rfl rfl ?_
    refine wl_nil ?_
    refine thenN ?_
    refine W_ret ?_
    skip
    refine fin1 (.int _ _) rfl ?_
    exact ⟨iE (by first | exact hf.1 (by omega) | exact hf.2 (by omega)), M0.below⟩

set_option maxHeartbeats 4000000 in
theorem ref09_Column (w : World) (x : Int) (hx : -2147483648 ≤ x ∧ x ≤ 2147483647) :
    Calls Tryd.prog 40 #[.int .i32 x] w (fun ex w' => ∃ v, ex = .returned v ∧ (fun v w' => v = .int .i32 (cdiv x) ∧ Below w.heap.size w w') v w') := by
  have hcr := cdiv_range hx.1 hx.2
  refine calls_of_W #[.tmp 2] 7 Tryd.func40 rfl Tryd.results40 Tryd.ntmps40 rfl ?_
  have M0 := Mem.refl w
  refine W_seq ?_
  refine W_region ?_
  refine wl_q (r_assign (.int _ _) rfl) rfl rfl ?_
  refine wl_nil ?_
  refine thenN ?_
  refine W_seq ?_
  refine W_region ?_
  refine wl_q (r_move (.int _ _) rfl) rfl rfl ?_
  refine wl_q (r_convK us21 Tryd.underlying2 rfl (w64 _ (by omega) (by omega))) rfl rfl ?_
  refine wl_cal cal51 rfl rfl rfl ?_
  refine (ref01_FloorG _ x 4194304 (by decide) (by omega) (by omega)).mono ?_
  rintro _ w1 ⟨v1, rfl, ⟨rfl, hb1⟩⟩
  refine ⟨_, rfl, ?_⟩
  have M1 := M0.callB hb1
  refine wl_re 5 (.int .i64 (cdiv x)) (iE (cdiv_eq x).symm) ?_
  refine wl_q (r_convK us2 Tryd.underlying21 rfl (wr32 _ (by omega) (by omega))) rfl rfl ?_
  refine wl_q (r_assign (.int _ _) rfl) rfl rfl ?_
  refine wl_nil ?_
  refine thenN ?_
  refine W_ret ?_
  skip
  refine fin1 (.int _ _) rfl ?_
  exact ⟨rfl, M1.below⟩

set_option maxHeartbeats 4000000 in
theorem ref09_Of (w : World) (x y : Int) (hx : -2147483648 ≤ x ∧ x ≤ 2147483647) (hy : -2147483648 ≤ y ∧ y ≤ 2147483647) :
    Calls Tryd.prog 37 #[.agg [.int .i32 x, .int .i32 y].toArray] w (fun ex w' => ∃ v, ex = .returned v ∧ (fun v w' => v = (.agg (cellCells (cdiv x, cdiv y)).toArray) ∧ Below w.heap.size w w') v w') := by
  refine calls_of_W #[.cell 2 77] 10 Tryd.func37 rfl Tryd.results37 Tryd.ntmps37 rfl ?_
  have M0 := Mem.refl w
  refine W_seq ?_
  refine W_region ?_
  refine wl_box (.agg (List.toArray _)) M0 rfl rfl rfl (fun b1 w1 M1 => ?_)
  refine wl_alloc zero77 M1 rfl rfl (fun b2 w2 M2 => ?_)
  refine wl_nil ?_
  refine thenN ?_
  refine W_seq ?_
  refine W_draw [(0, 0), (1, 1), (3, 0), (4, 1), (2, 2), (5, 2), (6, 0), (7, 2)] mixed rfl (by kernel_rfl) (fun w3 hb3 hh3 => ?_)
  have M3 := M2.drew hb3 hh3
  refine D_p rfl rfl rfl (fun _ => r_fieldAddr 0 fld24_0 rfl) ?_
  refine D_r rfl rfl rfl (r_ld 0 (.int _ _) one21 M3 rfl rfl rfl) ?_
  refine D_p rfl rfl rfl (fun _ => r_fieldAddr 1 fld24_1 rfl) ?_
  refine D_r rfl rfl rfl (r_ld 0 (.int _ _) one21 M3 rfl rfl rfl) ?_
  refine D_e [false, true] rfl (by kernel_rfl) ?_
  refine wl_cal cal40 rfl rfl rfl ?_
  refine (ref09_Column _ x hx).mono ?_
  rintro _ w4 ⟨v4, rfl, ⟨rfl, hb4⟩⟩
  refine ⟨_, rfl, ?_⟩
  have M4 := M3.callB hb4
  refine wl_nil (thenN ⟨(alC (Yl_of rfl (r_ld 0 (.int _ _) one21 M4 rfl rfl rfl)) alN), ?_⟩)
  refine D_e [true] rfl (by kernel_rfl) ?_
  refine wl_cal cal40 rfl rfl rfl ?_
  refine (ref09_Column _ y hy).mono ?_
  rintro _ w5 ⟨v5, rfl, ⟨rfl, hb5⟩⟩
  refine ⟨_, rfl, ?_⟩
  have M5 := M4.callB hb5
  refine wl_nil (thenN ⟨alN, ?_⟩)
  refine D_p rfl rfl rfl (fun _ => r_build [(0, .int _ _), (1, .int _ _)] _ struct77 rfl rfl) ?_
  refine D_e [] rfl (by kernel_rfl) ?_
  refine wl_stW 1 _ agg77 M5 rfl rfl rfl rfl rfl (ones_of rfl) rfl (fun w6 M6 => ?_)
  refine wl_nil (thenN ⟨alN, ?_⟩)
  refine D_nil ?_
  refine thenN ?_
  refine W_ret ?_
  skip
  refine finC1 1 agg77 M6 rfl rfl rfl ?_
  exact ⟨rfl, M6.below⟩

set_option maxHeartbeats 4000000 in
theorem ref09_Count (w : World) (a : Bx) (ha : Okx a) :
    Calls Tryd.prog 23 #[(.agg (bxCells a).toArray)] w (fun ex w' => ∃ v, ex = .returned v ∧ (fun v w' => ∃ z : Int, v = .int .i64 z ∧ Below w.heap.size w w') v w') := by
  have r0 := cdiv_range ha.x0.1 ha.x0.2
  have r1 := cdiv_range ha.x1.1 ha.x1.2
  have r2 := cdiv_range ha.y0.1 ha.y0.2
  have r3 := cdiv_range ha.y1.1 ha.y1.2
  have rp := mulB (a := cdiv a.x1 - cdiv a.x0 + 1) (b := cdiv a.y1 - cdiv a.y0 + 1) (A := 2048) (B := 2048) (by omega) (by omega)
  refine calls_of_W #[.tmp 2] 26 Tryd.func23 rfl Tryd.results23 Tryd.ntmps23 rfl ?_
  have M0 := Mem.refl w
  refine W_seq ?_
  refine W_region ?_
  refine wl_box (.agg (List.toArray _)) M0 rfl rfl rfl (fun b1 w1 M1 => ?_)
  refine wl_q (r_assign (.int _ _) rfl) rfl rfl ?_
  refine wl_nil ?_
  refine thenN ?_
  refine W_seq ?_
  refine W_seq ?_
  refine W_region ?_
  refine wl_q (r_ldW 0 agg47 M1 rfl rfl rfl) rfl rfl ?_
  refine wl_cal cal38 rfl rfl rfl ?_
  refine (ref08_Empty _ a).mono ?_
  rintro _ w2 ⟨v2, rfl, ⟨rfl, hb2⟩⟩
  refine ⟨_, rfl, ?_⟩
  have M2 := M1.callB hb2
  refine wl_nil ?_
  refine thenN ?_
  refine W_condD rfl (fun h4 => ?_) (fun h4 => ?_)
  · skip
    refine W_seq ?_
    refine W_region ?_
    refine wl_q (r_assign (.int _ _) rfl) rfl rfl ?_
    refine wl_nil ?_
    refine thenN ?_
    refine W_ret ?_
    refine thenR ?_
    skip
    refine fin1 (.int _ _) rfl ?_
    exact ⟨_, rfl, M2.below⟩
  · skip
    refine W_skip ?_
    refine thenN ?_
    refine W_seq ?_
    refine W_draw [(0, 0), (1, 1), (4, 0), (5, 1), (10, 0), (11, 1), (14, 0), (15, 1), (2, 2), (3, 0), (6, 2), (7, 0), (8, 0), (9, 0), (12, 2), (13, 0), (16, 2), (17, 0), (18, 0), (19, 0), (20, 0), (21, 0)] mixed rfl (by kernel_rfl) (fun w3 hb3 hh3 => ?_)
    have M3 := M2.drew hb3 hh3
    refine D_p rfl rfl rfl (fun _ => r_fieldAddr 2 fld47_2 rfl) ?_
    refine D_r rfl rfl rfl (r_ld 0 (.int _ _) one21 M3 rfl rfl rfl) ?_
    refine D_p rfl rfl rfl (fun _ => r_fieldAddr 0 fld47_0 rfl) ?_
    refine D_r rfl rfl rfl (r_ld 0 (.int _ _) one21 M3 rfl rfl rfl) ?_
    refine D_p rfl rfl rfl (fun _ => r_fieldAddr 3 fld47_3 rfl) ?_
    refine D_r rfl rfl rfl (r_ld 0 (.int _ _) one21 M3 rfl rfl rfl) ?_
    refine D_p rfl rfl rfl (fun _ => r_fieldAddr 1 fld47_1 rfl) ?_
    refine D_r rfl rfl rfl (r_ld 0 (.int _ _) one21 M3 rfl rfl rfl) ?_
    refine D_e [false, false, false, true] rfl (by kernel_rfl) ?_
    refine wl_cal cal40 rfl rfl rfl ?_
    refine (ref09_Column _ a.x1 ha.x1).mono ?_
    rintro _ w4 ⟨v4, rfl, ⟨rfl, hb4⟩⟩
    refine ⟨_, rfl, ?_⟩
    have M4 := M3.callB hb4
    refine wl_nil (thenN ⟨(alC (Yl_of rfl (r_ld 0 (.int _ _) one21 M4 rfl rfl rfl)) (alC (Yl_of rfl (r_ld 0 (.int _ _) one21 M4 rfl rfl rfl)) (alC (Yl_of rfl (r_ld 0 (.int _ _) one21 M4 rfl rfl rfl)) alN))), ?_⟩)
    refine D_p rfl rfl rfl (fun _ => r_convK us21 Tryd.underlying2 rfl (w64 _ (by omega) (by omega))) ?_
    refine D_e [false, false, true] rfl (by kernel_rfl) ?_
    refine wl_cal cal40 rfl rfl rfl ?_
    refine (ref09_Column _ a.x0 ha.x0).mono ?_
    rintro _ w5 ⟨v5, rfl, ⟨rfl, hb5⟩⟩
    refine ⟨_, rfl, ?_⟩
    have M5 := M4.callB hb5
    refine wl_nil (thenN ⟨(alC (Yl_of rfl (r_ld 0 (.int _ _) one21 M5 rfl rfl rfl)) (alC (Yl_of rfl (r_ld 0 (.int _ _) one21 M5 rfl rfl rfl)) alN)), ?_⟩)
    refine D_p rfl rfl rfl (fun _ => r_convK us21 Tryd.underlying2 rfl (w64 _ (by omega) (by omega))) ?_
    refine D_p rfl rfl rfl (fun _ => r_sub rfl rfl (by omega) (by omega)) ?_
    refine D_p rfl rfl rfl (fun _ => r_add rfl rfl (by omega) (by omega)) ?_
    refine D_e [false, true] rfl (by kernel_rfl) ?_
    refine wl_cal cal40 rfl rfl rfl ?_
    refine (ref09_Column _ a.y1 ha.y1).mono ?_
    rintro _ w6 ⟨v6, rfl, ⟨rfl, hb6⟩⟩
    refine ⟨_, rfl, ?_⟩
    have M6 := M5.callB hb6
    refine wl_nil (thenN ⟨(alC (Yl_of rfl (r_ld 0 (.int _ _) one21 M6 rfl rfl rfl)) alN), ?_⟩)
    refine D_p rfl rfl rfl (fun _ => r_convK us21 Tryd.underlying2 rfl (w64 _ (by omega) (by omega))) ?_
    refine D_e [true] rfl (by kernel_rfl) ?_
    refine wl_cal cal40 rfl rfl rfl ?_
    refine (ref09_Column _ a.y0 ha.y0).mono ?_
    rintro _ w7 ⟨v7, rfl, ⟨rfl, hb7⟩⟩
    refine ⟨_, rfl, ?_⟩
    have M7 := M6.callB hb7
    refine wl_nil (thenN ⟨alN, ?_⟩)
    refine D_p rfl rfl rfl (fun _ => r_convK us21 Tryd.underlying2 rfl (w64 _ (by omega) (by omega))) ?_
    refine D_p rfl rfl rfl (fun _ => r_sub rfl rfl (by omega) (by omega)) ?_
    refine D_p rfl rfl rfl (fun _ => r_add rfl rfl (by omega) (by omega)) ?_
    refine D_p rfl rfl rfl (fun _ => r_mul rfl rfl (by omega) (by omega)) ?_
    refine D_p rfl rfl rfl (fun _ => r_assign (.int _ _) rfl) ?_
    refine D_nil ?_
    refine thenN ?_
    refine W_ret ?_
    skip
    refine fin1 (.int _ _) rfl ?_
    exact ⟨_, rfl, M7.below⟩

set_option maxHeartbeats 4000000 in
theorem ref10_Few (w : World) (A : Option Addr) (n c : Nat) (es : List GE) (R : Rd w 5 A n (es.map geCells)) (hes : ∀ x ∈ es, Okx x.2) :
    Calls Tryd.prog 9 #[.slice A n c] w (fun ex w' => ∃ v, ex = .returned v ∧ (fun v w' => ∃ z : Bool, v = .bool z ∧ (z = true → n ≤ 40) ∧ Below w.heap.size w w') v w') := by
  have hlen : es.length = n := by simpa using R.len
  have hbd := R.bound
  refine calls_of_W #[.tmp 2] 24 Tryd.func9 rfl Tryd.results9 Tryd.ntmps9 rfl ?_
  have M0 := Mem.refl w
  refine W_seq ?_
  refine W_region ?_
  refine wl_q (r_assign (.bool false) rfl) rfl rfl ?_
  refine wl_nil ?_
  refine thenN ?_
  refine W_seq ?_
  refine W_seq ?_
  refine W_region ?_
  refine wl_q (r_assign (.int _ _) rfl) rfl rfl ?_
  refine wl_nil ?_
  refine thenN ?_
  refine W_block ?_
  refine W_loop (σ := Nat) [0] (fun k => [(3, .int .i64 (k : Int))]) (fun k w' => (k ≤ n ∧ k ≤ 41) ∧ Mem w [] [] w') (fun k => n - k) 0 (agC rfl agN) (⟨⟨by omega, by omega⟩, M0⟩) ?_
  rintro k ρ1 w1 ⟨⟨hk, hk2⟩, hM1⟩
  refine W_seq ?_
  refine W_seq ?_
  refine W_region ?_
  refine wl_q (r_move (.int _ _) rfl) rfl rfl ?_
  refine wl_q (r_move (.slice _ _ _) rfl) rfl rfl ?_
  refine wl_q (r_lenS Tryd.underlying22 rfl) rfl rfl ?_
  refine wl_q (r_bin (.bool (decide _)) rfl rfl rfl) rfl rfl ?_
  refine wl_q (r_move (.bool (decide _)) rfl) rfl rfl ?_
  refine wl_splitD 8 rfl (fun g8 => ?_) (fun g8 => ?_)
  · skip
    refine wl_q (r_move (.int _ _) rfl) rfl rfl ?_
    refine wl_q (r_bin (.bool (decide _)) rfl rfl rfl) rfl rfl ?_
    refine wl_q (r_pick true (.bool (decide _)) rfl rfl) rfl rfl ?_
    refine wl_nil ?_
    refine thenN ?_
    refine W_condD rfl (fun h11 => ?_) (fun h11 => ?_)
    · skip
      obtain ⟨x, hx⟩ := getSome (k := k) hlen (by omega)
      refine W_skip ?_
      refine thenN ?_
      refine W_seq ?_
      refine W_block ?_
      refine W_seq ?_
      refine W_region ?_
      refine wl_q (r_move (.slice _ _ _) rfl) rfl rfl ?_
      refine wl_q (r_move (.int _ _) rfl) rfl rfl ?_
      refine wl_q (r_idxR (k) sl22 rfl rfl rfl ((R.mem hM1).below_len (mapGet geCells hx)) ((R.mem hM1).someK (mapGet geCells hx))) rfl rfl ?_
      refine wl_q (r_fieldAddrE 1 fld49_1 (R.mem hM1) (Nat.lt_of_le_of_lt (Nat.zero_le _) ((R.mem hM1).below_len (mapGet geCells hx))) rfl) rfl rfl ?_
      refine wl_q (r_ldEP (o := 1) _ agg47 (R.mem hM1) (mapGet geCells hx) rfl rfl rfl) rfl rfl ?_
      refine wl_cal cal23 rfl rfl rfl ?_
      refine (ref09_Count _ x.2 (hes x (List.mem_of_getElem? hx))).mono ?_
      rintro _ w2 ⟨v2, rfl, ⟨z, rfl, hb2⟩⟩
      refine ⟨_, rfl, ?_⟩
      have M2 := hM1.callB hb2
      refine wl_q (r_bin (.bool (decide _)) rfl rfl rfl) rfl rfl ?_
      refine wl_nil ?_
      refine thenN ?_
      refine W_condD rfl (fun h20 => ?_) (fun h20 => ?_)
      · skip
        refine W_seq ?_
        refine W_region ?_
        refine wl_q (r_assign (.bool false) rfl) rfl rfl ?_
        refine wl_nil ?_
        refine thenN ?_
        refine W_ret ?_
        refine blkR ?_
        refine thenR ?_
        refine roundR ?_
        refine blkR ?_
        refine thenR ?_
        skip
        refine fin1 (.bool false) rfl ?_
        exact ⟨false, rfl, (fun h => by cases h), M2.below⟩
      · skip
        refine W_skip ?_
        refine blkN ?_
        refine thenN ?_
        refine W_region ?_
        refine wl_q (r_move (.int _ _) rfl) rfl rfl ?_
        refine wl_q (r_add rfl rfl (by omega) (by omega)) rfl rfl ?_
        refine wl_q (r_assign (.int _ _) rfl) rfl rfl ?_
        refine wl_nil ?_
        refine roundN (k + 1) (agC rfl agN) (akC rfl akN) ?_ ?_
        · exact ⟨⟨by omega, by omega⟩, M2⟩
        · omega
    · skip
      refine W_exit ?_
      refine thenX ?_
      refine roundX ?_
      refine blkH ?_
      refine thenN ?_
      refine W_seq ?_
      refine W_region ?_
      refine wl_q (r_move (.slice _ _ _) rfl) rfl rfl ?_
      refine wl_q (r_lenS Tryd.underlying22 rfl) rfl rfl ?_
      refine wl_q (r_bin (.bool (decide _)) rfl rfl rfl) rfl rfl ?_
      refine wl_q (r_assign (.bool (decide _)) rfl) rfl rfl ?_
      refine wl_nil ?_
      refine thenN ?_
      refine W_ret ?_
      skip
      refine fin1 (.bool (decide _)) rfl ?_
      exact ⟨_, rfl, (fun h => by have := of_decide_eq_true h; omega), hM1.below⟩
  · skip
    refine wl_skip rfl rfl ?_
    refine wl_skip rfl rfl ?_
    refine wl_q (r_pick false (.bool false) rfl rfl) rfl rfl ?_
    refine wl_nil ?_
    refine thenN ?_
    refine W_condF rfl ?_
    refine W_exit ?_
    refine thenX ?_
    refine roundX ?_
    refine blkH ?_
    refine thenN ?_
    refine W_seq ?_
    refine W_region ?_
    refine wl_q (r_move (.slice _ _ _) rfl) rfl rfl ?_
    refine wl_q (r_lenS Tryd.underlying22 rfl) rfl rfl ?_
    refine wl_q (r_bin (.bool (decide _)) rfl rfl rfl) rfl rfl ?_
    refine wl_q (r_assign (.bool (decide _)) rfl) rfl rfl ?_
    refine wl_nil ?_
    refine thenN ?_
    refine W_ret ?_
    skip
    refine fin1 (.bool (decide _)) rfl ?_
    exact ⟨_, rfl, (fun h => by have := of_decide_eq_true h; omega), hM1.below⟩

set_option maxHeartbeats 4000000 in
theorem ref09_xor (w : World) (a b : Nat) (ha : a < 4294967296) (hb : b < 4294967296) :
    Calls Tryd.prog 49 #[.int .u32 (a : Int), .int .u32 (b : Int)] w (fun ex w' => ∃ v, ex = .returned v ∧ (fun v w' => v = .int .u32 ((a ^^^ b : Nat) : Int) ∧ Below w.heap.size w w') v w') := by
  have hxl := Nat.xor_lt_two_pow (n := 32) (show a < 2 ^ 32 by omega) (show b < 2 ^ 32 by omega)
  refine calls_of_W #[.tmp 4] 27 Tryd.func49 rfl Tryd.results49 Tryd.ntmps49 rfl ?_
  have M0 := Mem.refl w
  refine W_seq ?_
  refine W_region ?_
  refine wl_q (r_assign (.int _ _) rfl) rfl rfl ?_
  refine wl_nil ?_
  refine thenN ?_
  refine W_seq ?_
  refine W_region ?_
  refine wl_q (r_assign (.int _ _) rfl) rfl rfl ?_
  refine wl_nil ?_
  refine thenN ?_
  refine W_seq ?_
  refine W_region ?_
  refine wl_q (r_assign (.int _ _) rfl) rfl rfl ?_
  refine wl_nil ?_
  refine thenN ?_
  refine W_seq ?_
  refine W_seq ?_
  refine W_region ?_
  refine wl_q (r_assign (.int _ _) rfl) rfl rfl ?_
  refine wl_nil ?_
  refine thenN ?_
  refine W_block ?_
  refine W_loop (σ := Nat) [0, 1, 4] (fun i => [(5, .int .u32 (((a ^^^ b) % 2 ^ i : Nat) : Int)), (6, .int .u32 ((2 ^ i % 4294967296 : Nat) : Int)), (7, .int .i64 (i : Int))]) (fun i w' => i ≤ 32 ∧ Mem w [] [] w') (fun i => 32 - i) 0 (agC (iE (by simp [Nat.mod_one])) (agC (iE rfl) (agC rfl agN))) (⟨by omega, M0⟩) ?_
  rintro i ρ1 w1 ⟨hi, hM1⟩
  have hpp := Nat.two_pow_pos i
  refine W_seq ?_
  refine W_seq ?_
  refine W_region ?_
  refine wl_q (r_move (.int _ _) rfl) rfl rfl ?_
  refine wl_q (r_bin (.bool (decide _)) rfl rfl rfl) rfl rfl ?_
  refine wl_nil ?_
  refine thenN ?_
  refine W_condD rfl (fun h9 => ?_) (fun h9 => ?_)
  · skip
    have hpl : 2 ^ i ≤ 2 ^ 31 := Nat.pow_le_pow_right (by omega) (by omega)
    have hpm : 2 ^ i % 4294967296 = 2 ^ i := Nat.mod_eq_of_lt (by omega)
    have hp2 : 2 ^ (i + 1) % 4294967296 = 2 * 2 ^ i % 4294967296 := by rw [Nat.pow_succ, Nat.mul_comm]
    have hml := Nat.mod_lt (a ^^^ b) hpp
    have hda : a / 2 ^ i ≤ a := Nat.div_le_self _ _
    have hdb : b / 2 ^ i ≤ b := Nat.div_le_self _ _
    refine W_skip ?_
    refine thenN ?_
    refine W_seq ?_
    refine W_block ?_
    refine W_seq ?_
    refine W_seq ?_
    refine W_draw [(0, 0), (1, 0), (2, 0), (3, 0), (4, 0), (5, 0), (6, 0), (7, 0), (8, 0)] mixed rfl (by kernel_rfl) (fun w2 hb2 hh2 => ?_)
    have M2 := hM1.drew hb2 hh2
    refine D_p rfl rfl rfl (fun _ => r_move (.int _ _) rfl) ?_
    refine D_p rfl rfl rfl (fun _ => r_move (.int _ _) rfl) ?_
    refine D_p rfl rfl rfl (fun _ => r_quo rfl rfl (by omega)) ?_
    refine D_re 14 (.int .u32 ((a / 2 ^ i : Nat) : Int)) (iE (by rw [hpm, ← Int.ofNat_tdiv]; exact wru32N _ (Nat.lt_of_le_of_lt hda ha))) ?_
    refine D_p rfl rfl rfl (fun _ => r_rem rfl rfl (by decide)) ?_
    refine D_re 15 (.int .u32 ((a / 2 ^ i % 2 : Nat) : Int)) (iE (u_rem (a / 2 ^ i) 2)) ?_
    refine D_p rfl rfl rfl (fun _ => r_move (.int _ _) rfl) ?_
    refine D_p rfl rfl rfl (fun _ => r_move (.int _ _) rfl) ?_
    refine D_p rfl rfl rfl (fun _ => r_quo rfl rfl (by omega)) ?_
    refine D_re 18 (.int .u32 ((b / 2 ^ i : Nat) : Int)) (iE (by rw [hpm, ← Int.ofNat_tdiv]; exact wru32N _ (Nat.lt_of_le_of_lt hdb hb))) ?_
    refine D_p rfl rfl rfl (fun _ => r_rem rfl rfl (by decide)) ?_
    refine D_re 19 (.int .u32 ((b / 2 ^ i % 2 : Nat) : Int)) (iE (u_rem (b / 2 ^ i) 2)) ?_
    refine D_p rfl rfl rfl (fun _ => r_bin (.bool (decide _)) rfl rfl rfl) ?_
    refine D_nil ?_
    refine thenN ?_
    refine W_condD rfl (fun h20 => ?_) (fun h20 => ?_)
    · skip
      have h20 : a / 2 ^ i % 2 ≠ b / 2 ^ i % 2 := by omega
      refine W_region ?_
      refine wl_q (r_move (.int _ _) rfl) rfl rfl ?_
      refine wl_q (r_move (.int _ _) rfl) rfl rfl ?_
      refine wl_q (r_bin (.int _ _) rfl rfl rfl) rfl rfl ?_
      refine wl_re 23 (.int .u32 (((a ^^^ b) % 2 ^ i + 2 ^ i : Nat) : Int)) (iE (by rw [hpm]; exact wru32 _ (by omega) (by omega))) ?_
      refine wl_q (r_assign (.int _ _) rfl) rfl rfl ?_
      refine wl_nil ?_
      refine thenN ?_
      refine W_region ?_
      refine wl_q (r_move (.int _ _) rfl) rfl rfl ?_
      refine wl_q (r_bin (.int _ _) rfl rfl rfl) rfl rfl ?_
      refine wl_re 25 (.int .u32 ((2 * 2 ^ i % 4294967296 : Nat) : Int)) (iE (by rw [hpm, IntKind.wrap_u32]; omega)) ?_
      refine wl_q (r_assign (.int _ _) rfl) rfl rfl ?_
      refine wl_nil ?_
      refine blkN ?_
      refine thenN ?_
      refine W_region ?_
      refine wl_q (r_move (.int _ _) rfl) rfl rfl ?_
      refine wl_q (r_add rfl rfl (by omega) (by omega)) rfl rfl ?_
      refine wl_q (r_assign (.int _ _) rfl) rfl rfl ?_
      refine wl_nil ?_
      refine roundN (i + 1) (agC (iE (by rw [xor_yes h20])) (agC (iE (by rw [hp2])) (agC rfl agN))) (akC rfl (akC rfl (akC rfl akN))) ?_ ?_
      · exact ⟨by omega, M2⟩
      · omega
    · skip
      have h20 : ¬ (a / 2 ^ i % 2 ≠ b / 2 ^ i % 2) := by omega
      refine W_skip ?_
      refine thenN ?_
      refine W_region ?_
      refine wl_q (r_move (.int _ _) rfl) rfl rfl ?_
      refine wl_q (r_bin (.int _ _) rfl rfl rfl) rfl rfl ?_
      refine wl_re 25 (.int .u32 ((2 * 2 ^ i % 4294967296 : Nat) : Int)) (iE (by rw [hpm, IntKind.wrap_u32]; omega)) ?_
      refine wl_q (r_assign (.int _ _) rfl) rfl rfl ?_
      refine wl_nil ?_
      refine blkN ?_
      refine thenN ?_
      refine W_region ?_
      refine wl_q (r_move (.int _ _) rfl) rfl rfl ?_
      refine wl_q (r_add rfl rfl (by omega) (by omega)) rfl rfl ?_
      refine wl_q (r_assign (.int _ _) rfl) rfl rfl ?_
      refine wl_nil ?_
      refine roundN (i + 1) (agC (iE (by rw [xor_no h20])) (agC (iE (by rw [hp2])) (agC rfl agN))) (akC rfl (akC rfl (akC rfl akN))) ?_ ?_
      · exact ⟨by omega, M2⟩
      · omega
  · skip
    have hi32 : i = 32 := by omega
    refine W_exit ?_
    refine thenX ?_
    refine roundX ?_
    refine blkH ?_
    refine thenN ?_
    refine W_seq ?_
    refine W_region ?_
    refine wl_q (r_move (.int _ _) rfl) rfl rfl ?_
    refine wl_q (r_assign (.int _ _) rfl) rfl rfl ?_
    refine wl_nil ?_
    refine thenN ?_
    refine W_ret ?_
    skip
    refine fin1 (.int _ _) rfl ?_
    exact ⟨iE (by rw [hi32, Nat.mod_eq_of_lt hxl]), hM1.below⟩

set_option maxHeartbeats 4000000 in
theorem ref09_Bucket (w : World) (c : Int × Int) :
    Calls Tryd.prog 36 #[(.agg (cellCells c).toArray)] w (fun ex w' => ∃ v, ex = .returned v ∧ (fun v w' => v = .int .i64 (bucketI c : Int) ∧ Below w.heap.size w w') v w') := by
  have q1 := IntKind.wrap_u32 (IntKind.u32.wrap c.1 * 73856093)
  have q2 := IntKind.wrap_u32 (IntKind.u32.wrap c.2 * 19349663)
  obtain ⟨xa, hxa⟩ := Int.eq_ofNat_of_zero_le (show 0 ≤ IntKind.u32.wrap (IntKind.u32.wrap c.1 * 73856093) by omega)
  obtain ⟨xb, hxb⟩ := Int.eq_ofNat_of_zero_le (show 0 ≤ IntKind.u32.wrap (IntKind.u32.wrap c.2 * 19349663) by omega)
  have la : xa < 4294967296 := by omega
  have lb : xb < 4294967296 := by omega
  clear q1 q2
  have hbr := bucket_ref c hxa hxb la lb
  have hbl := bucket_lt c
  refine calls_of_W #[.tmp 2] 14 Tryd.func36 rfl Tryd.results36 Tryd.ntmps36 rfl ?_
  have M0 := Mem.refl w
  refine W_seq ?_
  refine W_region ?_
  refine wl_box (.agg (List.toArray _)) M0 rfl rfl rfl (fun b1 w1 M1 => ?_)
  refine wl_q (r_assign (.int _ _) rfl) rfl rfl ?_
  refine wl_nil ?_
  refine thenN ?_
  refine W_seq ?_
  refine W_region ?_
  refine wl_q (r_fieldAddr 0 fld77_0 rfl) rfl rfl ?_
  refine wl_q (r_ld 0 (.int _ _) one21 M1 rfl rfl rfl) rfl rfl ?_
  refine wl_q (r_conv us21 Tryd.underlying42 rfl) rfl rfl ?_
  refine wl_q (r_bin (.int _ _) rfl rfl rfl) rfl rfl ?_
  refine wl_re 6 (.int .u32 (xa : Int)) (iE hxa) ?_
  refine wl_q (r_fieldAddr 1 fld77_1 rfl) rfl rfl ?_
  refine wl_q (r_ld 0 (.int _ _) one21 M1 rfl rfl rfl) rfl rfl ?_
  refine wl_q (r_conv us21 Tryd.underlying42 rfl) rfl rfl ?_
  refine wl_q (r_bin (.int _ _) rfl rfl rfl) rfl rfl ?_
  refine wl_re 10 (.int .u32 (xb : Int)) (iE hxb) ?_
  refine wl_cal cal49 rfl rfl rfl ?_
  refine (ref09_xor _ xa xb la lb).mono ?_
  rintro _ w2 ⟨v2, rfl, ⟨rfl, hb2⟩⟩
  refine ⟨_, rfl, ?_⟩
  have M2 := M1.callB hb2
  refine wl_q (r_rem rfl rfl (by decide)) rfl rfl ?_
  refine wl_re 12 (.int .u32 (bucketI c : Int)) (iE ((u_rem (xa ^^^ xb) 1024).trans (by rw [hbr]))) ?_
  refine wl_q (r_convK us42 Tryd.underlying3 rfl (w64 _ (by omega) (by omega))) rfl rfl ?_
  refine wl_q (r_assign (.int _ _) rfl) rfl rfl ?_
  refine wl_nil ?_
  refine thenN ?_
  refine W_ret ?_
  skip
  refine fin1 (.int _ _) rfl ?_
  exact ⟨rfl, M2.below⟩

set_option maxHeartbeats 4000000 in
theorem ref09_All (w : World) (a : Bx) (ha : Okx a) :
    Calls Tryd.prog 46 #[(.agg (bxCells a).toArray)] w (fun ex w' => ∃ v, ex = .returned v ∧ (fun v w' => ∃ r : Row, v = .slice r.A r.n r.c ∧ RowIs 77 2 r.A r.n r.c ((cellsB a).map cellCells) r.e ∧ Mem w [] [r.e] w') v w') := by
  have r0 := cdiv_range ha.x0.1 ha.x0.2
  have r1 := cdiv_range ha.x1.1 ha.x1.2
  have r2 := cdiv_range ha.y0.1 ha.y0.2
  have r3 := cdiv_range ha.y1.1 ha.y1.2
  have hnX : nX (cdiv a.x0, cdiv a.y0) (cdiv a.x1, cdiv a.y1) = (cdiv a.x1 - cdiv a.x0 + 1).toNat := rfl
  have hnY : nY (cdiv a.x0, cdiv a.y0) (cdiv a.x1, cdiv a.y1) = (cdiv a.y1 - cdiv a.y0 + 1).toNat := rfl
  refine calls_of_W #[.tmp 2] 35 Tryd.func46 rfl Tryd.results46 Tryd.ntmps46 rfl ?_
  have M0 := Mem.refl w
  refine W_seq ?_
  refine W_region ?_
  refine wl_box (.agg (List.toArray _)) M0 rfl rfl rfl (fun b1 w1 M1 => ?_)
  refine wl_q (r_assign (.slice _ _ _) rfl) rfl rfl ?_
  refine wl_nil ?_
  refine thenN ?_
  refine W_seq ?_
  refine W_region ?_
  refine wl_q (r_assign (.slice _ _ _) rfl) rfl rfl ?_
  have M2 := M1.dummy default
  refine wl_nil ?_
  refine thenN ?_
  refine W_seq ?_
  refine W_seq ?_
  refine W_region ?_
  refine wl_q (r_ldW 0 agg47 M2 rfl rfl rfl) rfl rfl ?_
  refine wl_cal cal38 rfl rfl rfl ?_
  refine (ref08_Empty _ a).mono ?_
  rintro _ w3 ⟨v3, rfl, ⟨rfl, hb3⟩⟩
  refine ⟨_, rfl, ?_⟩
  have M3 := M2.callB hb3
  refine wl_nil ?_
  refine thenN ?_
  refine W_condD rfl (fun h7 => ?_) (fun h7 => ?_)
  · skip
    refine W_seq ?_
    refine W_region ?_
    refine wl_q (r_assign (.slice _ _ _) rfl) rfl rfl ?_
    refine wl_nil ?_
    refine thenN ?_
    refine W_ret ?_
    refine thenR ?_
    skip
    refine fin1 (.slice _ _ _) rfl ?_
    exact ⟨nilRow, rfl, by unfold cellsB cellsL; rw [if_neg (by rw [decide_eq_true_iff]; exact fun h => h h7)]; exact RowIs.nil _ _ _, M3.keep [false, true]⟩
  · skip
    refine W_skip ?_
    refine thenN ?_
    refine W_seq ?_
    refine W_seq ?_
    refine W_region ?_
    refine wl_q (r_fieldAddr 1 fld47_1 rfl) rfl rfl ?_
    refine wl_q (r_ld 0 (.int _ _) one21 M3 rfl rfl rfl) rfl rfl ?_
    refine wl_cal cal40 rfl rfl rfl ?_
    refine (ref09_Column _ a.y0 ha.y0).mono ?_
    rintro _ w4 ⟨v4, rfl, ⟨rfl, hb4⟩⟩
    refine ⟨_, rfl, ?_⟩
    have M4 := M3.callB hb4
    refine wl_q (r_assign (.int _ _) rfl) rfl rfl ?_
    refine wl_nil ?_
    refine thenN ?_
    refine W_block ?_
    refine W_loop (σ := Nat × Row) [1, 2] (fun (j, q) => [(3, .slice q.A q.n q.c), (4, .int .i32 (cdiv a.y0 + (j : Int)))]) (fun (j, q) w' => (j ≤ nY (cdiv a.x0, cdiv a.y0) (cdiv a.x1, cdiv a.y1) ∧ RowIs 77 2 q.A q.n q.c ((rowsC (cdiv a.x0, cdiv a.y0) (cdiv a.x1, cdiv a.y1) j).map cellCells) q.e) ∧ Mem w [] [(some b1, bc (bxCells a) 47), q.e] w') (fun (j, q) => nY (cdiv a.x0, cdiv a.y0) (cdiv a.x1, cdiv a.y1) - j) (0, nilRow) (agC rfl (agC (iE (by omega)) agN)) (⟨⟨by omega, RowIs.nil _ _ _⟩, M4⟩) ?_
    rintro ⟨j, q⟩ ρ5 w5 ⟨⟨hj, hq⟩, hM5⟩
    refine W_seq ?_
    refine W_seq ?_
    refine W_region ?_
    refine wl_q (r_move (.int _ _) rfl) rfl rfl ?_
    refine wl_q (r_fieldAddr 3 fld47_3 rfl) rfl rfl ?_
    refine wl_q (r_ld 0 (.int _ _) one21 hM5 rfl rfl rfl) rfl rfl ?_
    refine wl_cal cal40 rfl rfl rfl ?_
    refine (ref09_Column _ a.y1 ha.y1).mono ?_
    rintro _ w6 ⟨v6, rfl, ⟨rfl, hb6⟩⟩
    refine ⟨_, rfl, ?_⟩
    have M6 := hM5.callB hb6
    refine wl_q (r_bin (.bool (decide _)) rfl rfl rfl) rfl rfl ?_
    refine wl_nil ?_
    refine thenN ?_
    refine W_condD rfl (fun h15 => ?_) (fun h15 => ?_)
    · skip
      refine W_skip ?_
      refine thenN ?_
      refine W_seq ?_
      refine W_block ?_
      refine W_seq ?_
      refine W_region ?_
      refine wl_q (r_fieldAddr 0 fld47_0 rfl) rfl rfl ?_
      refine wl_q (r_ld 0 (.int _ _) one21 M6 rfl rfl rfl) rfl rfl ?_
      refine wl_cal cal40 rfl rfl rfl ?_
      refine (ref09_Column _ a.x0 ha.x0).mono ?_
      rintro _ w7 ⟨v7, rfl, ⟨rfl, hb7⟩⟩
      refine ⟨_, rfl, ?_⟩
      have M7 := M6.callB hb7
      refine wl_q (r_assign (.int _ _) rfl) rfl rfl ?_
      refine wl_nil ?_
      refine thenN ?_
      refine W_block ?_
      refine W_loop (σ := Nat × Row) [1, 2, 4] (fun (i, q2) => [(3, .slice q2.A q2.n q2.c), (5, .int .i32 (cdiv a.x0 + (i : Int)))]) (fun (i, q2) w' => (i ≤ nX (cdiv a.x0, cdiv a.y0) (cdiv a.x1, cdiv a.y1) ∧ RowIs 77 2 q2.A q2.n q2.c ((rowsC (cdiv a.x0, cdiv a.y0) (cdiv a.x1, cdiv a.y1) j ++ rowC (cdiv a.x0, cdiv a.y0) i j).map cellCells) q2.e) ∧ Mem w [] [(some b1, bc (bxCells a) 47), q2.e] w') (fun (i, q2) => nX (cdiv a.x0, cdiv a.y0) (cdiv a.x1, cdiv a.y1) - i) (0, q) (agC rfl (agC (iE (by omega)) agN)) (⟨⟨by omega, by simpa [rowC] using hq⟩, M7⟩) ?_
      rintro ⟨i, q2⟩ ρ8 w8 ⟨⟨hi2, hq2⟩, hM8⟩
      have hql : (rowsC (cdiv a.x0, cdiv a.y0) (cdiv a.x1, cdiv a.y1) j).length + i = q2.n := by simpa [rowC_len] using hq2.1
      refine W_seq ?_
      refine W_seq ?_
      refine W_region ?_
      refine wl_q (r_move (.int _ _) rfl) rfl rfl ?_
      refine wl_q (r_fieldAddr 2 fld47_2 rfl) rfl rfl ?_
      refine wl_q (r_ld 0 (.int _ _) one21 hM8 rfl rfl rfl) rfl rfl ?_
      refine wl_cal cal40 rfl rfl rfl ?_
      refine (ref09_Column _ a.x1 ha.x1).mono ?_
      rintro _ w9 ⟨v9, rfl, ⟨rfl, hb9⟩⟩
      refine ⟨_, rfl, ?_⟩
      have M9 := hM8.callB hb9
      refine wl_q (r_bin (.bool (decide _)) rfl rfl rfl) rfl rfl ?_
      refine wl_nil ?_
      refine thenN ?_
      refine W_condD rfl (fun h25 => ?_) (fun h25 => ?_)
      · skip
        have hlt6 := rowsC_lt (lo := (cdiv a.x0, cdiv a.y0)) (hi := (cdiv a.x1, cdiv a.y1)) (i := i) (j := j) (by omega) (by omega) (by omega)
        refine W_skip ?_
        refine thenN ?_
        refine W_seq ?_
        refine W_block ?_
        refine W_region ?_
        refine wl_q (r_move (.slice _ _ _) rfl) rfl rfl ?_
        refine wl_q (r_move (.int _ _) rfl) rfl rfl ?_
        refine wl_q (r_move (.int _ _) rfl) rfl rfl ?_
        refine wl_q (r_build [(0, .int _ _), (1, .int _ _)] _ struct77 rfl rfl) rfl rfl ?_
        refine wl_bslice [.agg (List.toArray _)] [cellCells (cdiv a.x0 + (i : Int), cdiv a.y0 + (j : Int))] rfl sl89 M9 rfl rfl rfl rfl (lens_of rfl) (by decide) (fun b10 w10 M10 => ?_)
        refine wl_append 1 [cellCells (cdiv a.x0 + (i : Int), cdiv a.y0 + (j : Int))] sl89 M10 rfl rfl rfl rfl rfl hq2 rfl (by simp [cellCells, Go.Bil.one]) (Cells.ofMem 2 M10 rfl) (by omega) (fun A11 c11 e11 w11 M11 hR11 => ?_)
        refine wl_q (r_assign (.slice _ _ _) rfl) rfl rfl ?_
        refine wl_nil ?_
        refine blkN ?_
        refine thenN ?_
        refine W_region ?_
        refine wl_q (r_move (.int _ _) rfl) rfl rfl ?_
        refine wl_q (r_addK rfl rfl (wr32 _ (by omega) (by omega))) rfl rfl ?_
        refine wl_q (r_assign (.int _ _) rfl) rfl rfl ?_
        refine wl_nil ?_
        refine roundN (i + 1, ⟨A11, q2.n + 1, c11, e11⟩) (agC rfl (agC (iE (by omega)) agN)) (akC rfl (akC rfl (akC rfl akN))) ?_ ?_
        · exact ⟨⟨by omega, by rw [rowC_succ, ← List.append_assoc, List.map_append]; exact hR11⟩, M11.keep [true, true, false]⟩
        · (show nX (cdiv a.x0, cdiv a.y0) (cdiv a.x1, cdiv a.y1) - (i + 1) < nX (cdiv a.x0, cdiv a.y0) (cdiv a.x1, cdiv a.y1) - i; omega)
      · skip
        have hix : i = nX (cdiv a.x0, cdiv a.y0) (cdiv a.x1, cdiv a.y1) := by omega
        refine W_exit ?_
        refine thenX ?_
        refine roundX ?_
        refine blkH ?_
        refine blkN ?_
        refine thenN ?_
        refine W_region ?_
        refine wl_q (r_move (.int _ _) rfl) rfl rfl ?_
        refine wl_q (r_addK rfl rfl (wr32 _ (by omega) (by omega))) rfl rfl ?_
        refine wl_q (r_assign (.int _ _) rfl) rfl rfl ?_
        refine wl_nil ?_
        refine roundN (j + 1, q2) (agC rfl (agC (iE (by omega)) agN)) (akC rfl (akC rfl akN)) ?_ ?_
        · exact ⟨⟨by omega, by rw [rowsC_succ, ← hix]; exact hq2⟩, M9⟩
        · (show nY (cdiv a.x0, cdiv a.y0) (cdiv a.x1, cdiv a.y1) - (j + 1) < nY (cdiv a.x0, cdiv a.y0) (cdiv a.x1, cdiv a.y1) - j; omega)
    · skip
      refine W_exit ?_
      refine thenX ?_
      refine roundX ?_
      refine blkH ?_
      refine thenN ?_
      refine W_seq ?_
      refine W_region ?_
      refine wl_q (r_move (.slice _ _ _) rfl) rfl rfl ?_
      refine wl_q (r_assign (.slice _ _ _) rfl) rfl rfl ?_
      refine wl_nil ?_
      refine thenN ?_
      refine W_ret ?_
      skip
      refine fin1 (.slice _ _ _) rfl ?_
      exact ⟨q, rfl, by unfold cellsB cellsL loC hiC; rw [if_pos (decide_eq_true h7), if_neg h7, if_neg h7, show nY (cdiv a.x0, cdiv a.y0) (cdiv a.x1, cdiv a.y1) = j by omega]; exact hq, M6.keep [false, true]⟩

set_option maxHeartbeats 4000000 in
theorem ref10_buckets (w : World) (a : Bx) (ha : Okx a) :
    Calls Tryd.prog 28 #[(.agg (bxCells a).toArray)] w (fun ex w' => ∃ v, ex = .returned v ∧ (fun v w' => ∃ r : Row, v = .slice r.A r.n r.c ∧ RowIs 3 1 r.A r.n r.c ((bks a).map numCell) r.e ∧ Mem w [] [r.e] w') v w') := by
  refine calls_of_W #[.tmp 2] 23 Tryd.func28 rfl Tryd.results28 Tryd.ntmps28 rfl ?_
  have M0 := Mem.refl w
  refine W_seq ?_
  refine W_region ?_
  refine wl_box (.agg (List.toArray _)) M0 rfl rfl rfl (fun b1 w1 M1 => ?_)
  refine wl_q (r_assign (.slice _ _ _) rfl) rfl rfl ?_
  refine wl_nil ?_
  refine thenN ?_
  refine W_seq ?_
  refine W_region ?_
  refine wl_q (r_assign (.slice _ _ _) rfl) rfl rfl ?_
  have M2 := M1.dummy default
  refine wl_nil ?_
  refine thenN ?_
  refine W_seq ?_
  refine W_region ?_
  refine wl_q (r_ldW 0 agg47 M2 rfl rfl rfl) rfl rfl ?_
  refine wl_cal cal46 rfl rfl rfl ?_
  refine (ref09_All _ a ha).mono ?_
  rintro _ w3 ⟨v3, rfl, ⟨r0, rfl, hr0, hM3⟩⟩
  refine ⟨_, rfl, ?_⟩
  have M3 : Mem _ _ [_, _, _] _ := M2.call0 hM3
  have hcl : (cellsB a).length = r0.n := by simpa using hr0.1
  have hcb := cellsB_len ha
  refine wl_q (r_assign (.slice _ _ _) rfl) rfl rfl ?_
  refine wl_nil ?_
  refine thenN ?_
  refine W_seq ?_
  refine W_seq ?_
  refine W_region ?_
  refine wl_q (r_assign (.int _ _) rfl) rfl rfl ?_
  refine wl_nil ?_
  refine thenN ?_
  refine W_block ?_
  refine W_loop (σ := Nat × Row) [2, 4] (fun (k, q) => [(3, .slice q.A q.n q.c), (5, .int .i64 (k : Int))]) (fun (k, q) w' => (k ≤ r0.n ∧ RowIs 3 1 q.A q.n q.c ((((cellsB a).take k).map bucketI).map numCell) q.e) ∧ Mem w [] [(some b1, bc (bxCells a) 47), q.e, r0.e] w') (fun (k, q) => r0.n - k) (0, nilRow) (agC rfl (agC rfl agN)) (⟨⟨by omega, RowIs.nil _ _ _⟩, M3⟩) ?_
  rintro ⟨k, q⟩ ρ4 w4 ⟨⟨hk, hq⟩, hM4⟩
  have htl := List.length_take_le k (cellsB a)
  have hqn : ((cellsB a).take k).length = q.n := by simpa using hq.1
  refine W_seq ?_
  refine W_seq ?_
  refine W_region ?_
  refine wl_q (r_move (.int _ _) rfl) rfl rfl ?_
  refine wl_q (r_move (.slice _ _ _) rfl) rfl rfl ?_
  refine wl_q (r_lenS Tryd.underlying89 rfl) rfl rfl ?_
  refine wl_q (r_bin (.bool (decide _)) rfl rfl rfl) rfl rfl ?_
  refine wl_nil ?_
  refine thenN ?_
  refine W_condD rfl (fun h11 => ?_) (fun h11 => ?_)
  · skip
    obtain ⟨xc, hxc⟩ := getSome (xs := cellsB a) (k := k) hcl (by omega)
    refine W_skip ?_
    refine thenN ?_
    refine W_seq ?_
    refine W_block ?_
    refine W_region ?_
    refine wl_q (r_move (.slice _ _ _) rfl) rfl rfl ?_
    refine wl_q (r_move (.slice _ _ _) rfl) rfl rfl ?_
    refine wl_q (r_move (.int _ _) rfl) rfl rfl ?_
    refine wl_q (r_idxR (k) sl89 rfl rfl rfl ((hr0.rd hM4 (nthMem (i := 2) rfl)).below_len (mapGet cellCells hxc)) ((hr0.rd hM4 (nthMem (i := 2) rfl)).someK (mapGet cellCells hxc))) rfl rfl ?_
    refine wl_q (r_ldEA _ agg77 (hr0.rd hM4 (nthMem (i := 2) rfl)) (mapGet cellCells hxc) rfl) rfl rfl ?_
    refine wl_cal cal36 rfl rfl rfl ?_
    refine (ref09_Bucket _ xc).mono ?_
    rintro _ w5 ⟨v5, rfl, ⟨rfl, hb5⟩⟩
    refine ⟨_, rfl, ?_⟩
    have M5 := hM4.callB hb5
    refine wl_bslice [.int _ _] [numCell (bucketI xc)] rfl sl67 M5 rfl rfl rfl rfl (lens_of rfl) (by decide) (fun b6 w6 M6 => ?_)
    refine wl_append 1 [numCell (bucketI xc)] sl67 M6 rfl rfl rfl rfl rfl hq rfl (numCell_ok _) (Cells.ofMem 3 M6 rfl) (by omega) (fun A7 c7 e7 w7 M7 hR7 => ?_)
    refine wl_q (r_assign (.slice _ _ _) rfl) rfl rfl ?_
    refine wl_nil ?_
    refine blkN ?_
    refine thenN ?_
    refine W_region ?_
    refine wl_q (r_move (.int _ _) rfl) rfl rfl ?_
    refine wl_q (r_add rfl rfl (by omega) (by omega)) rfl rfl ?_
    refine wl_q (r_assign (.int _ _) rfl) rfl rfl ?_
    refine wl_nil ?_
    refine roundN (k + 1, ⟨A7, q.n + 1, c7, e7⟩) (agC rfl (agC rfl agN)) (akC rfl (akC rfl akN)) ?_ ?_
    · exact ⟨⟨by omega, by rw [take_snoc hxc, List.map_append, List.map_append]; exact hR7⟩, M7.keep [true, true, true, false]⟩
    · (show r0.n - (k + 1) < r0.n - k; omega)
  · skip
    rw [List.take_of_length_le (by omega)] at hq
    refine W_exit ?_
    refine thenX ?_
    refine roundX ?_
    refine blkH ?_
    refine thenN ?_
    refine W_seq ?_
    refine W_region ?_
    refine wl_q (r_move (.slice _ _ _) rfl) rfl rfl ?_
    refine wl_q (r_assign (.slice _ _ _) rfl) rfl rfl ?_
    refine wl_nil ?_
    refine thenN ?_
    refine W_ret ?_
    skip
    refine fin1 (.slice _ _ _) rfl ?_
    exact ⟨q, rfl, hq, hM4.keep [false, true, false]⟩

set_option maxHeartbeats 4000000 in
theorem ref10_Has (w : World) (x : Nat) (A : Option Addr) (n c : Nat) (xs : List Nat) (R : Rd w 1 A n (xs.map numCell)) :
    Calls Tryd.prog 29 #[.slice A n c, .int .i64 (x : Int)] w (fun ex w' => ∃ v, ex = .returned v ∧ (fun v w' => v = .bool (decide (x ∈ xs)) ∧ Below w.heap.size w w') v w') := by
  have hlen : xs.length = n := by simpa using R.len
  have hbd := R.bound
  refine calls_of_W #[.tmp 4] 18 Tryd.func29 rfl Tryd.results29 Tryd.ntmps29 rfl ?_
  have M0 := Mem.refl w
  refine W_seq ?_
  refine W_region ?_
  refine wl_q (r_assign (.bool false) rfl) rfl rfl ?_
  refine wl_nil ?_
  refine thenN ?_
  refine W_seq ?_
  refine W_seq ?_
  refine W_region ?_
  refine wl_q (r_assign (.int _ _) rfl) rfl rfl ?_
  refine wl_nil ?_
  refine thenN ?_
  refine W_block ?_
  refine W_loop (σ := Nat) [0, 1] (fun k => [(5, .int .i64 (k : Int))]) (fun k w' => (k ≤ n ∧ ∀ (j : Nat) (y : Nat), j < k → xs[j]? = some y → y ≠ x) ∧ Mem w [] [] w') (fun k => n - k) 0 (agC rfl agN) (⟨⟨by omega, fun j c hj => by omega⟩, M0⟩) ?_
  rintro k ρ1 w1 ⟨⟨hk, hne⟩, hM1⟩
  refine W_seq ?_
  refine W_seq ?_
  refine W_region ?_
  refine wl_q (r_move (.int _ _) rfl) rfl rfl ?_
  refine wl_q (r_move (.slice _ _ _) rfl) rfl rfl ?_
  refine wl_q (r_lenS Tryd.underlying67 rfl) rfl rfl ?_
  refine wl_q (r_bin (.bool (decide _)) rfl rfl rfl) rfl rfl ?_
  refine wl_nil ?_
  refine thenN ?_
  refine W_condD rfl (fun h9 => ?_) (fun h9 => ?_)
  · skip
    obtain ⟨y, hy⟩ := getSome (k := k) hlen (by omega)
    refine W_skip ?_
    refine thenN ?_
    refine W_seq ?_
    refine W_block ?_
    refine W_seq ?_
    refine W_region ?_
    refine wl_q (r_move (.slice _ _ _) rfl) rfl rfl ?_
    refine wl_q (r_move (.int _ _) rfl) rfl rfl ?_
    refine wl_q (r_idxR (k) sl67 rfl rfl rfl ((R.mem hM1).below_len (mapGet numCell hy)) ((R.mem hM1).someK (mapGet numCell hy))) rfl rfl ?_
    refine wl_q (r_ldE0 (.int _ _) one3 (R.mem hM1) (mapGet numCell hy) rfl) rfl rfl ?_
    refine wl_q (r_move (.int _ _) rfl) rfl rfl ?_
    refine wl_q (r_bin (.bool (decide _)) rfl rfl rfl) rfl rfl ?_
    refine wl_nil ?_
    refine thenN ?_
    refine W_condD rfl (fun h17 => ?_) (fun h17 => ?_)
    · skip
      refine W_seq ?_
      refine W_region ?_
      refine wl_q (r_assign (.bool true) rfl) rfl rfl ?_
      refine wl_nil ?_
      refine thenN ?_
      refine W_ret ?_
      refine blkR ?_
      refine thenR ?_
      refine roundR ?_
      refine blkR ?_
      refine thenR ?_
      skip
      refine fin1 (.bool true) rfl ?_
      have hyx : y = x := by omega
      exact ⟨bT (by rw [← hyx]; exact List.mem_of_getElem? hy), hM1.below⟩
    · skip
      refine W_skip ?_
      refine blkN ?_
      refine thenN ?_
      refine W_region ?_
      refine wl_q (r_move (.int _ _) rfl) rfl rfl ?_
      refine wl_q (r_add rfl rfl (by omega) (by omega)) rfl rfl ?_
      refine wl_q (r_assign (.int _ _) rfl) rfl rfl ?_
      refine wl_nil ?_
      refine roundN (k + 1) (agC rfl agN) (akC rfl (akC rfl akN)) ?_ ?_
      · exact ⟨⟨by omega, allNext (p := fun _ y => y ≠ x) hne hy (fun e => h17 (by rw [e]))⟩, hM1⟩
      · omega
  · skip
    refine W_exit ?_
    refine thenX ?_
    refine roundX ?_
    refine blkH ?_
    refine thenN ?_
    refine W_seq ?_
    refine W_region ?_
    refine wl_q (r_assign (.bool false) rfl) rfl rfl ?_
    refine wl_nil ?_
    refine thenN ?_
    refine W_ret ?_
    skip
    refine fin1 (.bool false) rfl ?_
    exact ⟨bF (fun h => by obtain ⟨j, hj⟩ := List.getElem?_of_mem h; exact hne j x (by have := (List.getElem?_eq_some_iff.1 hj).1; omega) hj rfl), hM1.below⟩

theorem eqPr (a b : Int × Int) : EqA Tryd.prog 44 (pairCells a) (pairCells b) (decide (a = b)) := by
  have h := eqA44 a.1 a.2 b.1 b.2
  have e : decide (a.1 = b.1 ∧ a.2 = b.2) = decide (a = b) := decide_eq_decide.2 Prod.ext_iff.symm
  rw [e] at h
  exact h

set_option maxHeartbeats 4000000 in
theorem ref10_LessG (w : World) (a b : Int × Int) :
    Calls Tryd.prog 18 #[(.agg (pairCells a).toArray), (.agg (pairCells b).toArray)] w (fun ex w' => ∃ v, ex = .returned v ∧ (fun v w' => v = .bool (decide (ltP a b)) ∧ Below w.heap.size w w') v w') := by
  refine calls_of_W #[.tmp 4] 24 Tryd.func18 rfl Tryd.results18 Tryd.ntmps18 rfl ?_
  have M0 := Mem.refl w
  refine W_seq ?_
  refine W_region ?_
  refine wl_box (.agg (List.toArray _)) M0 rfl rfl rfl (fun b1 w1 M1 => ?_)
  refine wl_box (.agg (List.toArray _)) M1 rfl rfl rfl (fun b2 w2 M2 => ?_)
  refine wl_q (r_assign (.bool false) rfl) rfl rfl ?_
  refine wl_nil ?_
  refine thenN ?_
  refine W_seq ?_
  refine W_region ?_
  refine wl_q (r_fieldAddr 0 fld44_0 rfl) rfl rfl ?_
  refine wl_q (r_ld 0 (.int _ _) one42 M2 rfl rfl rfl) rfl rfl ?_
  refine wl_q (r_fieldAddr 0 fld44_0 rfl) rfl rfl ?_
  refine wl_q (r_ld 1 (.int _ _) one42 M2 rfl rfl rfl) rfl rfl ?_
  refine wl_q (r_bin (.bool (decide _)) rfl rfl rfl) rfl rfl ?_
  refine wl_q (r_move (.bool (decide _)) rfl) rfl rfl ?_
  refine wl_splitD 10 rfl (fun g10 => ?_) (fun g10 => ?_)
  · skip
    refine wl_skip rfl rfl ?_
    refine wl_skip rfl rfl ?_
    refine wl_skip rfl rfl ?_
    refine wl_skip rfl rfl ?_
    refine wl_skip rfl rfl ?_
    refine wl_skip rfl rfl ?_
    refine wl_skip rfl rfl ?_
    refine wl_skip rfl rfl ?_
    refine wl_skip rfl rfl ?_
    refine wl_skip rfl rfl ?_
    refine wl_skip rfl rfl ?_
    refine wl_skip rfl rfl ?_
    refine wl_q (r_pick true (.bool true) rfl rfl) rfl rfl ?_
    refine wl_q (r_assign (.bool true) rfl) rfl rfl ?_
    refine wl_nil ?_
    refine thenN ?_
    refine W_ret ?_
    skip
    refine fin1 (.bool true) rfl ?_
    exact ⟨by unfold ltP; first | exact bF (by omega) | exact bT (by omega) | exact bD (by omega), M2.below⟩
  · skip
    refine wl_q (r_fieldAddr 0 fld44_0 rfl) rfl rfl ?_
    refine wl_q (r_ld 0 (.int _ _) one42 M2 rfl rfl rfl) rfl rfl ?_
    refine wl_q (r_fieldAddr 0 fld44_0 rfl) rfl rfl ?_
    refine wl_q (r_ld 1 (.int _ _) one42 M2 rfl rfl rfl) rfl rfl ?_
    refine wl_q (r_bin (.bool (decide _)) rfl rfl rfl) rfl rfl ?_
    refine wl_q (r_move (.bool (decide _)) rfl) rfl rfl ?_
    refine wl_splitD 16 rfl (fun g16 => ?_) (fun g16 => ?_)
    · skip
      refine wl_q (r_fieldAddr 1 fld44_1 rfl) rfl rfl ?_
      refine wl_q (r_ld 0 (.int _ _) one42 M2 rfl rfl rfl) rfl rfl ?_
      refine wl_q (r_fieldAddr 1 fld44_1 rfl) rfl rfl ?_
      refine wl_q (r_ld 1 (.int _ _) one42 M2 rfl rfl rfl) rfl rfl ?_
      refine wl_q (r_bin (.bool (decide _)) rfl rfl rfl) rfl rfl ?_
      refine wl_q (r_pick true (.bool (decide _)) rfl rfl) rfl rfl ?_
      refine wl_q (r_pick false (.bool (decide _)) rfl rfl) rfl rfl ?_
      refine wl_q (r_assign (.bool (decide _)) rfl) rfl rfl ?_
      refine wl_nil ?_
      refine thenN ?_
      refine W_ret ?_
      skip
      refine fin1 (.bool (decide _)) rfl ?_
      exact ⟨by unfold ltP; first | exact bF (by omega) | exact bT (by omega) | exact bD (by omega), M2.below⟩
    · skip
      refine wl_skip rfl rfl ?_
      refine wl_skip rfl rfl ?_
      refine wl_skip rfl rfl ?_
      refine wl_skip rfl rfl ?_
      refine wl_skip rfl rfl ?_
      refine wl_q (r_pick false (.bool false) rfl rfl) rfl rfl ?_
      refine wl_q (r_pick false (.bool false) rfl rfl) rfl rfl ?_
      refine wl_q (r_assign (.bool false) rfl) rfl rfl ?_
      refine wl_nil ?_
      refine thenN ?_
      refine W_ret ?_
      skip
      refine fin1 (.bool false) rfl ?_
      exact ⟨by unfold ltP; first | exact bF (by omega) | exact bT (by omega) | exact bD (by omega), M2.below⟩

set_option maxHeartbeats 4000000 in
theorem ref10_PutPair (w : World) (p : Int × Int) (A : Option Addr) (n c : Nat) (ps : List (Int × Int)) (R : Rd w 2 A n (ps.map pairCells)) (hcap : n ≤ c) (hn : n ≤ 1048576) :
    Calls Tryd.prog 30 #[.slice A n c, (.agg (pairCells p).toArray)] w (fun ex w' => ∃ v, ex = .returned v ∧ (fun v w' => ∃ (r : Row) (i : Nat), v = .slice r.A r.n r.c ∧ (i ≤ ps.length ∧ (∀ (j : Nat) (z : Int × Int), j < i → ps[j]? = some z → ltP z p) ∧ ∀ z, ps[i]? = some z → ¬ ltP z p) ∧ RowIs 44 2 r.A r.n r.c ((putP ps p i).map pairCells) r.e ∧ Mem w [] [r.e] w') v w') := by
  have hlen : ps.length = n := by simpa using R.len
  have hbd := R.bound
  refine calls_of_W #[.tmp 4] 51 Tryd.func30 rfl Tryd.results30 Tryd.ntmps30 rfl ?_
  have M0 := Mem.refl w
  refine W_seq ?_
  refine W_region ?_
  refine wl_box (.agg (List.toArray _)) M0 rfl rfl rfl (fun b1 w1 M1 => ?_)
  refine wl_q (r_assign (.slice _ _ _) rfl) rfl rfl ?_
  refine wl_nil ?_
  refine thenN ?_
  refine W_seq ?_
  refine W_region ?_
  refine wl_q (r_assign (.slice _ _ _) rfl) rfl rfl ?_
  have M2 := M1.dummy default
  refine wl_nil ?_
  refine thenN ?_
  refine W_seq ?_
  refine W_region ?_
  refine wl_q (r_assign (.int _ _) rfl) rfl rfl ?_
  refine wl_nil ?_
  refine thenN ?_
  refine W_meet (σ := Nat × Row) [0, 3, 4] (fun (i, q) => [(5, .slice q.A q.n q.c), (6, .int .i64 (i : Int))]) (fun (i, q) w' => (i ≤ n ∧ (∀ (j : Nat) (z : Int × Int), j < i → ps[j]? = some z → ltP z p) ∧ (∀ z, ps[i]? = some z → ¬ ltP z p) ∧ RowIs 44 2 q.A q.n q.c ((ps.take i).map pairCells) q.e) ∧ Mem w [] [(some b1, bc (pairCells p) 44), q.e] w') ?_ ?_
  · skip
    refine W_block ?_
    refine W_loop (σ := Nat × Row) [0, 3, 4] (fun (i, q) => [(5, .slice q.A q.n q.c), (6, .int .i64 (i : Int))]) (fun (i, q) w' => (i ≤ n ∧ (∀ (j : Nat) (z : Int × Int), j < i → ps[j]? = some z → ltP z p) ∧ RowIs 44 2 q.A q.n q.c ((ps.take i).map pairCells) q.e) ∧ Mem w [] [(some b1, bc (pairCells p) 44), q.e] w') (fun (i, q) => n - i) (0, nilRow) (agC rfl (agC rfl agN)) (⟨⟨by omega, fun j z hj => by omega, RowIs.nil _ _ _⟩, M2⟩) ?_
    rintro ⟨i, q⟩ ρ4 w4 ⟨⟨hi, hal, hq⟩, hM4⟩
    have htl := List.length_take_le i ps
    have hqn : (ps.take i).length = q.n := by simpa using hq.1
    refine W_seq ?_
    refine W_seq ?_
    refine W_draw [(0, 0), (1, 0), (2, 0), (3, 0), (4, 0), (5, 0), (6, 0), (7, 1), (8, 1), (9, 1), (10, 2), (11, 0)] mixed rfl (by kernel_rfl) (fun w5 hb5 hh5 => ?_)
    have M5 := hM4.drew hb5 hh5
    refine D_p rfl rfl rfl (fun _ => r_move (.int _ _) rfl) ?_
    refine D_p rfl rfl rfl (fun _ => r_move (.slice _ _ _) rfl) ?_
    refine D_p rfl rfl rfl (fun _ => r_lenS Tryd.underlying35 rfl) ?_
    refine D_p rfl rfl rfl (fun _ => r_bin (.bool (decide _)) rfl rfl rfl) ?_
    refine D_p rfl rfl rfl (fun _ => r_move (.bool (decide _)) rfl) ?_
    refine D_splitD 11 rfl (fun g11 => ?_) (fun g11 => ?_)
    · skip
      obtain ⟨z, hz⟩ := getSome (k := i) hlen (by omega)
      refine D_p rfl rfl rfl (fun _ => r_move (.slice _ _ _) rfl) ?_
      refine D_p rfl rfl rfl (fun _ => r_move (.int _ _) rfl) ?_
      refine D_r rfl rfl rfl (r_idxR (i) sl35 rfl rfl rfl ((R.mem M5).below_len (mapGet pairCells hz)) ((R.mem M5).someK (mapGet pairCells hz))) ?_
      refine D_r rfl rfl rfl (r_ldEA _ agg44 (R.mem M5) (mapGet pairCells hz) rfl) ?_
      refine D_r rfl rfl rfl (r_ldW 0 agg44 M5 rfl rfl rfl) ?_
      refine D_e [true, true, true] rfl (by kernel_rfl) ?_
      refine wl_cal cal18 rfl rfl rfl ?_
      refine (ref10_LessG _ z p).mono ?_
      rintro _ w6 ⟨v6, rfl, ⟨rfl, hb6⟩⟩
      refine ⟨_, rfl, ?_⟩
      have M6 := M5.callB hb6
      refine wl_nil (thenN ⟨alN, ?_⟩)
      refine D_p rfl rfl rfl (fun _ => r_pick true (.bool (decide _)) rfl rfl) ?_
      refine D_nil ?_
      refine thenN ?_
      refine W_condD rfl (fun h18 => ?_) (fun h18 => ?_)
      · skip
        refine W_skip ?_
        refine thenN ?_
        refine W_block ?_
        refine W_seq ?_
        refine W_region ?_
        refine wl_q (r_move (.slice _ _ _) rfl) rfl rfl ?_
        refine wl_q (r_move (.slice _ _ _) rfl) rfl rfl ?_
        refine wl_q (r_move (.int _ _) rfl) rfl rfl ?_
        refine wl_q (r_idxR (i) sl35 rfl rfl rfl ((R.mem M6).below_len (mapGet pairCells hz)) ((R.mem M6).someK (mapGet pairCells hz))) rfl rfl ?_
        refine wl_q (r_ldEA _ agg44 (R.mem M6) (mapGet pairCells hz) rfl) rfl rfl ?_
        refine wl_bslice [.agg (List.toArray _)] [pairCells z] rfl sl35 M6 rfl rfl rfl rfl (lens_of rfl) (by decide) (fun b7 w7 M7 => ?_)
        refine wl_append 1 [pairCells z] sl35 M7 rfl rfl rfl rfl rfl hq rfl (by simp [pairCells, Go.Bil.one]) (Cells.ofMem 2 M7 rfl) (by omega) (fun A8 c8 e8 w8 M8 hR8 => ?_)
        refine wl_q (r_assign (.slice _ _ _) rfl) rfl rfl ?_
        refine wl_nil ?_
        refine thenN ?_
        refine W_region ?_
        refine wl_q (r_move (.int _ _) rfl) rfl rfl ?_
        refine wl_q (r_add rfl rfl (by omega) (by omega)) rfl rfl ?_
        refine wl_q (r_assign (.int _ _) rfl) rfl rfl ?_
        refine wl_nil ?_
        refine blkN ?_
        refine roundN (i + 1, ⟨A8, q.n + 1, c8, e8⟩) (agC rfl (agC rfl agN)) (akC rfl (akC rfl (akC rfl akN))) ?_ ?_
        · exact ⟨⟨by omega, allNext (p := fun _ z => ltP z p) hal hz h18, by rw [take_snoc hz, List.map_append]; exact hR8⟩, M8.keep [true, true, false]⟩
        · (show n - (i + 1) < n - i; omega)
      · skip
        refine W_exit ?_
        refine thenX ?_
        refine roundX ?_
        refine blkH ?_
        refine meetN (i, q) (agC rfl (agC rfl agN)) (akC rfl (akC rfl (akC rfl akN))) ?_
        exact ⟨⟨hi, hal, fun z2 hz2 => by rw [hz] at hz2; injection hz2 with hz2; subst hz2; exact h18, hq⟩, M6⟩
    · skip
      refine D_s rfl rfl rfl ?_
      refine D_s rfl rfl rfl ?_
      refine D_s1 rfl rfl rfl ?_
      refine D_s1 rfl rfl rfl ?_
      refine D_s1 rfl rfl rfl ?_
      refine D_e [true, true, true] rfl (by kernel_rfl) ?_
      refine wl_skip rfl rfl ?_
      refine wl_nil (thenN ⟨alN, ?_⟩)
      refine D_p rfl rfl rfl (fun _ => r_pick false (.bool false) rfl rfl) ?_
      refine D_nil ?_
      refine thenN ?_
      refine W_condF rfl ?_
      refine W_exit ?_
      refine thenX ?_
      refine roundX ?_
      refine blkH ?_
      refine meetN (i, q) (agC rfl (agC rfl agN)) (akC rfl (akC rfl (akC rfl akN))) ?_
      exact ⟨⟨hi, hal, fun z2 hz2 => by have := (List.getElem?_eq_some_iff.1 hz2).1; omega, hq⟩, M5⟩
  · skip
    rintro ⟨i, q⟩ ρ3 w3 ⟨⟨hi, hal, hst, hq⟩, hM3⟩
    have htl := List.length_take_le i ps
    have hqn : (ps.take i).length = q.n := by simpa using hq.1
    refine W_seq ?_
    refine W_region ?_
    refine wl_q (r_move (.slice _ _ _) rfl) rfl rfl ?_
    refine wl_q (r_ldW 0 agg44 hM3 rfl rfl rfl) rfl rfl ?_
    refine wl_bslice [.agg (List.toArray _)] [pairCells p] rfl sl35 hM3 rfl rfl rfl rfl (lens_of rfl) (by decide) (fun b9 w9 M9 => ?_)
    refine wl_append 1 [pairCells p] sl35 M9 rfl rfl rfl rfl rfl hq rfl (by simp [pairCells, Go.Bil.one]) (Cells.ofMem 2 M9 rfl) (by omega) (fun A10 c10 e10 w10 M10 hR10 => ?_)
    refine wl_q (r_assign (.slice _ _ _) rfl) rfl rfl ?_
    refine wl_nil ?_
    refine thenN ?_
    refine W_seq ?_
    refine W_meet (σ := Bool) [0, 4, 5, 6] (fun u => [(43, .bool u)]) (fun u w' => (u = true ↔ ps[i]? = some p) ∧ Mem w [] [(some b1, bc (pairCells p) 44), e10] w') ?_ ?_
    · skip
      refine W_draw [(0, 0), (1, 0), (2, 0), (3, 0), (4, 0), (5, 0), (6, 0), (7, 1), (8, 1), (9, 1), (10, 0), (11, 0)] mixed rfl (by kernel_rfl) (fun w12 hb12 hh12 => ?_)
      have M12 := M10.drew hb12 hh12
      refine D_p rfl rfl rfl (fun _ => r_move (.int _ _) rfl) ?_
      refine D_p rfl rfl rfl (fun _ => r_move (.slice _ _ _) rfl) ?_
      refine D_p rfl rfl rfl (fun _ => r_lenS Tryd.underlying35 rfl) ?_
      refine D_p rfl rfl rfl (fun _ => r_bin (.bool (decide _)) rfl rfl rfl) ?_
      refine D_p rfl rfl rfl (fun _ => r_move (.bool (decide _)) rfl) ?_
      refine D_splitD 36 rfl (fun g36 => ?_) (fun g36 => ?_)
      · skip
        obtain ⟨z, hz⟩ := getSome (k := i) hlen (by omega)
        refine D_p rfl rfl rfl (fun _ => r_move (.slice _ _ _) rfl) ?_
        refine D_p rfl rfl rfl (fun _ => r_move (.int _ _) rfl) ?_
        refine D_r rfl rfl rfl (r_idxR (i) sl35 rfl rfl rfl ((R.mem M12).below_len (mapGet pairCells hz)) ((R.mem M12).someK (mapGet pairCells hz))) ?_
        refine D_r rfl rfl rfl (r_ldEA _ agg44 (R.mem M12) (mapGet pairCells hz) rfl) ?_
        refine D_r rfl rfl rfl (r_ldW 0 agg44 M12 rfl rfl rfl) ?_
        refine D_p rfl rfl rfl (fun _ => r_eqA (eqPr z p) rfl rfl) ?_
        refine D_p rfl rfl rfl (fun _ => r_pick true (.bool (decide _)) rfl rfl) ?_
        refine D_nil ?_
        refine meetN (decide (z = p)) (agC rfl agN) (akC rfl (akC rfl (akC rfl (akC rfl akN)))) ?_
        exact ⟨by rw [decide_eq_true_iff, hz]; exact ⟨fun h => by rw [h], fun h => Option.some.inj h⟩, M12.keep [true, true, false]⟩
      · skip
        refine D_s rfl rfl rfl ?_
        refine D_s rfl rfl rfl ?_
        refine D_s1 rfl rfl rfl ?_
        refine D_s1 rfl rfl rfl ?_
        refine D_s1 rfl rfl rfl ?_
        refine D_s rfl rfl rfl ?_
        refine D_p rfl rfl rfl (fun _ => r_pick false (.bool false) rfl rfl) ?_
        refine D_nil ?_
        refine meetN false (agC rfl agN) (akC rfl (akC rfl (akC rfl (akC rfl akN)))) ?_
        exact ⟨⟨(fun h => by cases h), (fun h => by have := (List.getElem?_eq_some_iff.1 h).1; omega)⟩, M12.keep [true, true, false]⟩
    · skip
      rintro u ρ11 w11 ⟨hu, hM11⟩
      refine W_meetC (σ := Nat) [0, 4, 5] (fun i2 => [(6, .int .i64 (i2 : Int))]) (fun i2 w' => (i2 = (if ps[i]? = some p then i + 1 else i) ∧ i2 ≤ n) ∧ Mem w [] [(some b1, bc (pairCells p) 44), e10] w') ?_ ?_
      · skip
        refine W_cond _ rfl (fun h43 => ?_) (fun h43 => ?_)
        · skip
          refine W_region ?_
          refine wl_q (r_move (.int _ _) rfl) rfl rfl ?_
          refine wl_q (r_add rfl rfl (by omega) (by omega)) rfl rfl ?_
          refine wl_q (r_assign (.int _ _) rfl) rfl rfl ?_
          refine wl_nil ?_
          refine meetN (i + 1) (agC rfl agN) (akC rfl (akC rfl (akC rfl akN))) ?_
          exact ⟨⟨by rw [if_pos (hu.1 h43)], by have := (List.getElem?_eq_some_iff.1 (hu.1 h43)).1; omega⟩, hM11⟩
        · skip
          refine W_skip ?_
          refine meetN i (agC rfl agN) (akC rfl (akC rfl (akC rfl akN))) ?_
          exact ⟨⟨by rw [if_neg (fun h => by rw [hu.2 h] at h43; cases h43)], hi⟩, hM11⟩
      · skip
        rintro i2 ρ13 w13 ⟨⟨hi2, hi2n⟩, hM13⟩
        refine W_seq ?_
        refine W_region ?_
        refine wl_q (r_move (.slice _ _ _) rfl) rfl rfl ?_
        refine wl_q (r_move (.slice _ _ _) rfl) rfl rfl ?_
        refine wl_q (r_move (.int _ _) rfl) rfl rfl ?_
        refine wl_q (r_slice ((i2 : Int)) ((n : Int)) sl35 rfl ⟨_, rfl⟩ rfl (by omega) (by omega) (by omega)) rfl rfl ?_
        refine wl_appendR 1 (((ps.map pairCells).drop i2).take (n - i2)) sl35 hM13 rfl rfl rfl rfl rfl hR10 ((R.mem hM13).sub i2 n (by omega) (by omega) hcap) (fun y hy => pairs_one _ y (List.mem_of_mem_drop (List.mem_of_mem_take hy))) (by omega) (fun A14 c14 e14 w14 M14 hR14 hA14 => ?_)
        refine wl_q (r_assign (.slice _ _ _) rfl) rfl rfl ?_
        refine wl_nil ?_
        refine thenN ?_
        refine W_ret ?_
        skip
        refine fin1 (.slice _ _ _) rfl ?_
        have hpp := hR14
        have htk : List.take (n - i2) (List.drop i2 (ps.map pairCells)) = List.drop i2 (ps.map pairCells) := List.take_of_length_le (by rw [List.length_drop, List.length_map]; omega)
        rw [show ((ps.take i).map pairCells ++ [pairCells p]) ++ ((ps.map pairCells).drop i2).take (n - i2) = (putP ps p i).map pairCells by unfold putP; rw [← hi2, htk]; simp] at hpp
        exact ⟨⟨A14, q.n + 1 + (n - i2), c14, e14⟩, i, rfl, ⟨by omega, hal, hst⟩, hpp, M14.keep [false, true]⟩

end Go.Proofs.YtjbhobahebebkaaDoor

/- Walks of Go functions over the frame of this claim: what each computes, for every input of the stated types (G10f). -/
set_option linter.unusedVariables false
set_option linter.unusedSimpArgs false
set_option linter.unnecessarySimpa false
namespace Go.Proofs.YtjbhobahebebkaaDoor
open Go.Bil
open Go.RowKit (Below)
open Go.Proofs

set_option maxHeartbeats 4000000 in
theorem slices_CloneK (w : World) (A : Option Addr) (n c : Nat) (xs : List Int) (R : Rd w 1 A n (xs.map keyCell)) (hn : n ≤ 1048576) :
    Calls Tryd.prog 31 #[.slice A n c] w (fun ex w' => ∃ v, ex = .returned v ∧ (fun v w' => ∃ r : Row, v = .slice r.A r.n r.c ∧ RowIs 42 1 r.A r.n r.c (xs.map keyCell) r.e ∧ Mem w [] [r.e] w') v w') := by
  refine calls_of_W #[.tmp 2] 8 Tryd.func31 rfl Tryd.results31 Tryd.ntmps31 rfl ?_
  have M0 := Mem.refl w
  refine W_seq ?_
  refine W_region ?_
  refine wl_q (r_assign (.slice _ _ _) rfl) rfl rfl ?_
  refine wl_nil ?_
  refine thenN ?_
  refine W_seq ?_
  refine W_seq ?_
  refine W_region ?_
  refine wl_q (r_move (.slice _ _ _) rfl) rfl rfl ?_
  refine wl_q (r_eqSliceNil _ Tryd.underlying27 rfl rfl) rfl rfl ?_
  refine wl_nil ?_
  refine thenN ?_
  refine W_cond _ rfl (fun h4 => ?_) (fun h4 => ?_)
  · skip
    refine W_seq ?_
    refine W_region ?_
    refine wl_q (r_assign (.slice _ _ _) rfl) rfl rfl ?_
    refine wl_nil ?_
    refine thenN ?_
    refine W_ret ?_
    refine thenR ?_
    skip
    refine fin1 (.slice _ _ _) rfl ?_
    have hA : A = none := by cases A <;> simp_all
    have hl : xs = [] := by
      rcases Nat.eq_zero_or_pos n with h | h
      · subst h; exact List.eq_nil_of_length_eq_zero (by simpa using R.len)
      · have := R.some h; rw [hA] at this; cases this
    subst hA; subst hl
    exact ⟨nilRow, rfl, RowIs.nil 42 1 default, M0.dummy default⟩
  · skip
    refine W_skip ?_
    refine thenN ?_
    refine W_seq ?_
    refine W_region ?_
    refine wl_bslice [] [] rfl sl27 M0 rfl rfl rfl rfl (lens_of rfl) (by decide) (fun b1 w1 M1 => ?_)
    refine wl_q (r_move (.slice _ _ _) rfl) rfl rfl ?_
    refine wl_appendR 0 (xs.map keyCell) sl27 M1 rfl rfl rfl rfl rfl (RowIs.empty b1) (R.mem M1) (fun y hy => by obtain ⟨k, _, rfl⟩ := List.mem_map.1 hy; simp [keyCell, Go.Bil.one]) (by omega) (fun A2 c2 e2 w2 M2 hR2 hA2 => ?_)
    refine wl_q (r_assign (.slice _ _ _) rfl) rfl rfl ?_
    refine wl_nil ?_
    refine thenN ?_
    refine W_ret ?_
    skip
    refine fin1 (.slice _ _ _) rfl ?_
    exact ⟨⟨A2, 0 + n, c2, e2⟩, rfl, by simpa using hR2, M2⟩

set_option maxHeartbeats 8000000 in
theorem slices_CompactK (w : World) (A : Option Addr) (n c : Nat) (l : List Int) (e : Ent) (hR : RowIs 42 1 A n c (l.map keyCell) e) (hO : Own [e] w) (ho : Ord l) (hn : n ≤ 1048576) :
    Calls Tryd.prog 35 #[.slice A n c] w (fun ex w' => ∃ v, ex = .returned v ∧ (fun v w' => ∃ (r : Row) (m : List Int), v = .slice r.A r.n r.c ∧ Cpt l m ∧ RowIs 42 1 r.A r.n r.c (m.map keyCell) r.e ∧ Mem w (blks [e]) [r.e] w') v w') := by
  have hlen : l.length = n := by simpa using hR.1
  have hcap := hR.slice
  refine calls_of_W #[.tmp 2] 61 Tryd.func35 rfl Tryd.results35 Tryd.ntmps35 rfl ?_
  have M0 := hO.mem
  refine W_seq ?_
  refine W_region ?_
  refine wl_q (r_assign (.slice _ _ _) rfl) rfl rfl ?_
  refine wl_nil ?_
  refine thenN ?_
  refine W_seq ?_
  refine W_seq ?_
  refine W_region ?_
  refine wl_q (r_move (.slice _ _ _) rfl) rfl rfl ?_
  refine wl_q (r_lenS Tryd.underlying27 rfl) rfl rfl ?_
  refine wl_q (r_bin (.bool (decide _)) rfl rfl rfl) rfl rfl ?_
  refine wl_nil ?_
  refine thenN ?_
  refine W_condD rfl (fun h8 => ?_) (fun h8 => ?_)
  · skip
    refine W_seq ?_
    refine W_region ?_
    refine wl_q (r_move (.slice _ _ _) rfl) rfl rfl ?_
    refine wl_q (r_assign (.slice _ _ _) rfl) rfl rfl ?_
    refine wl_nil ?_
    refine thenN ?_
    refine W_ret ?_
    refine thenR ?_
    skip
    refine fin1 (.slice _ _ _) rfl ?_
    exact ⟨⟨A, n, c, e⟩, l, rfl, cpt_small (by omega), hR, M0⟩
    
    
  · skip
    refine W_skip ?_
    refine thenN ?_
    refine W_seq ?_
    refine W_seq ?_
    refine W_region ?_
    refine wl_q (r_assign (.int _ _) rfl) rfl rfl ?_
    refine wl_nil ?_
    refine thenN ?_
    refine W_block ?_
    refine W_loop (σ := Nat) [0] (fun k => [(3, .int .i64 (k : Int))]) (fun k w' => (1 ≤ k ∧ k ≤ n ∧ ∀ (j : Nat) (x y : Int), 0 < j → j < k → l[j - 1]? = some x → l[j]? = some y → x ≠ y) ∧ Mem w (blks [e]) [e] w') (fun k => n - k) 1 (agC rfl agN) (⟨⟨by omega, by omega, fun j x y h1 h2 => by omega⟩, M0⟩) ?_
    rintro k ρ1 w1 ⟨⟨hk1, hk, hne⟩, hM1⟩
    refine W_seq ?_
    refine W_seq ?_
    refine W_region ?_
    refine wl_q (r_move (.int _ _) rfl) rfl rfl ?_
    refine wl_q (r_move (.slice _ _ _) rfl) rfl rfl ?_
    refine wl_q (r_lenS Tryd.underlying27 rfl) rfl rfl ?_
    refine wl_q (r_bin (.bool (decide _)) rfl rfl rfl) rfl rfl ?_
    refine wl_nil ?_
    refine thenN ?_
    refine W_condD rfl (fun h13 => ?_) (fun h13 => ?_)
    · skip
      obtain ⟨zk, hzk⟩ := getSome (xs := l) (k := k) hlen (by omega)
      obtain ⟨zp, hzp⟩ := getSome (xs := l) (k := k - 1) hlen (by omega)
      refine W_skip ?_
      refine thenN ?_
      refine W_seq ?_
      refine W_block ?_
      refine W_seq ?_
      refine W_draw [(0, 0), (1, 0), (2, 1), (3, 1), (4, 0), (5, 0), (6, 0), (7, 1), (8, 1), (9, 0)] mixed rfl (by kernel_rfl) (fun w2 hb2 hh2 => ?_)
      have M2 := hM1.drew hb2 hh2
      refine D_p rfl rfl rfl (fun _ => r_move (.slice _ _ _) rfl) ?_
      refine D_p rfl rfl rfl (fun _ => r_move (.int _ _) rfl) ?_
      refine D_r rfl rfl rfl (r_idxR ((k)) sl27 rfl rfl rfl ((hR.rd M2 (nthMem (i := 0) rfl)).below_len (mapGet keyCell hzk)) ((hR.rd M2 (nthMem (i := 0) rfl)).someK (mapGet keyCell hzk))) ?_
      refine D_r rfl rfl rfl (r_ldE0 (.int _ _) one42 (hR.rd M2 (nthMem (i := 0) rfl)) (mapGet keyCell hzk) rfl) ?_
      refine D_p rfl rfl rfl (fun _ => r_move (.slice _ _ _) rfl) ?_
      refine D_p rfl rfl rfl (fun _ => r_move (.int _ _) rfl) ?_
      refine D_p rfl rfl rfl (fun _ => r_sub rfl rfl (by omega) (by omega)) ?_
      refine D_re 22 (.int .i64 ((k - 1 : Nat) : Int)) (iE (by omega)) ?_
      refine D_r rfl rfl rfl (r_idxR ((k - 1)) sl27 rfl rfl rfl ((hR.rd M2 (nthMem (i := 0) rfl)).below_len (mapGet keyCell hzp)) ((hR.rd M2 (nthMem (i := 0) rfl)).someK (mapGet keyCell hzp))) ?_
      refine D_r rfl rfl rfl (r_ldE0 (.int _ _) one42 (hR.rd M2 (nthMem (i := 0) rfl)) (mapGet keyCell hzp) rfl) ?_
      refine D_p rfl rfl rfl (fun _ => r_bin (.bool (decide _)) rfl rfl rfl) ?_
      refine D_nil ?_
      refine thenN ?_
      refine W_condD rfl (fun h25 => ?_) (fun h25 => ?_)
      · skip
        refine W_seq ?_
        refine W_region ?_
        refine wl_q (r_move (.slice _ _ _) rfl) rfl rfl ?_
        refine wl_q (r_move (.int _ _) rfl) rfl rfl ?_
        refine wl_q (r_slice ((k : Int)) ((n : Int)) sl27 rfl ⟨_, rfl⟩ rfl (by omega) (by omega) (by omega)) rfl rfl ?_
        refine wl_q (r_assign (.slice _ _ _) rfl) rfl rfl ?_
        refine wl_nil ?_
        refine thenN ?_
        refine W_seq ?_
        refine W_seq ?_
        refine W_region ?_
        refine wl_q (r_assign (.int _ _) rfl) rfl rfl ?_
        refine wl_nil ?_
        refine thenN ?_
        refine W_block ?_
        refine W_loop (σ := Nat × Nat × List Int × Ent) [0, 4] (fun (q, m, l2, e2) => [(3, .int .i64 (m : Int)), (5, .int .i64 (q : Int))]) (fun (q, m, l2, e2) w' => ((1 ≤ q ∧ k + q ≤ n ∧ 1 ≤ m ∧ m + 1 ≤ k + q) ∧ Cmp l (l2.take m) (k + q) ∧ l2.length = n ∧ (∀ i, k + q ≤ i + 1 → l2[i]? = l[i]?) ∧ RowIs 42 1 A n c (l2.map keyCell) e2) ∧ Mem w (blks [e]) [e2] w') (fun (q, m, l2, e2) => n - (k + q)) (1, k, l, e) (agC rfl (agC rfl agN)) (⟨⟨⟨by omega, by omega, by omega, by omega⟩, cmp_old (cmp_take ho (by omega) (by omega) hne) hzp hzk h25 (by omega), hlen, fun i _ => rfl, hR⟩, M2⟩) ?_
        rintro ⟨q, m, l2, e2⟩ ρ3 w3 ⟨⟨⟨hq1, hq2, hm1, hm2⟩, hC, hl2, hsm, hR2⟩, hM3⟩
        refine W_seq ?_
        refine W_seq ?_
        refine W_region ?_
        refine wl_q (r_move (.int _ _) rfl) rfl rfl ?_
        refine wl_q (r_move (.slice _ _ _) rfl) rfl rfl ?_
        refine wl_q (r_lenS Tryd.underlying27 rfl) rfl rfl ?_
        refine wl_q (r_bin (.bool (decide _)) rfl rfl rfl) rfl rfl ?_
        refine wl_nil ?_
        refine thenN ?_
        refine W_condD rfl (fun h32 => ?_) (fun h32 => ?_)
        · skip
          obtain ⟨za, hza⟩ := getSome (xs := l) (k := k + q) hlen (by omega)
          obtain ⟨zb, hzb⟩ := getSome (xs := l) (k := k + q - 1) hlen (by omega)
          have hza2 := (hsm (k + q) (by omega)).trans hza
          have hzb2 : l2[k + (q - 1)]? = some zb := by rw [show k + (q - 1) = k + q - 1 by omega]; exact (hsm (k + q - 1) (by omega)).trans hzb
          obtain ⟨zm, hzm⟩ := getSome (xs := l2) (k := m) hl2 (by omega)
          refine W_skip ?_
          refine thenN ?_
          refine W_seq ?_
          refine W_block ?_
          refine W_seq ?_
          refine W_draw [(0, 0), (1, 0), (2, 1), (3, 1), (4, 0), (5, 0), (6, 0), (7, 1), (8, 1), (9, 0)] mixed rfl (by kernel_rfl) (fun w4 hb4 hh4 => ?_)
          have M4 := hM3.drew hb4 hh4
          refine D_p rfl rfl rfl (fun _ => r_move (.slice _ _ _) rfl) ?_
          refine D_p rfl rfl rfl (fun _ => r_move (.int _ _) rfl) ?_
          refine D_r rfl rfl rfl (r_idxR (q) sl27 rfl rfl rfl (((hR2.rd M4 (nthMem (i := 0) rfl)).sub k n (by omega) (by omega) hcap).below_len ((subk_get (f := keyCell) hza2 (by omega)))) (((hR2.rd M4 (nthMem (i := 0) rfl)).sub k n (by omega) (by omega) hcap).someK ((subk_get (f := keyCell) hza2 (by omega))))) ?_
          refine D_r rfl rfl rfl (r_ldE0 (.int _ _) one42 ((hR2.rd M4 (nthMem (i := 0) rfl)).sub k n (by omega) (by omega) hcap) ((subk_get (f := keyCell) hza2 (by omega))) rfl) ?_
          refine D_p rfl rfl rfl (fun _ => r_move (.slice _ _ _) rfl) ?_
          refine D_p rfl rfl rfl (fun _ => r_move (.int _ _) rfl) ?_
          refine D_p rfl rfl rfl (fun _ => r_sub rfl rfl (by omega) (by omega)) ?_
          refine D_re 41 (.int .i64 ((q - 1 : Nat) : Int)) (iE (by omega)) ?_
          refine D_r rfl rfl rfl (r_idxR ((q - 1)) sl27 rfl rfl rfl (((hR2.rd M4 (nthMem (i := 0) rfl)).sub k n (by omega) (by omega) hcap).below_len ((subk_get (f := keyCell) hzb2 (by omega)))) (((hR2.rd M4 (nthMem (i := 0) rfl)).sub k n (by omega) (by omega) hcap).someK ((subk_get (f := keyCell) hzb2 (by omega))))) ?_
          refine D_r rfl rfl rfl (r_ldE0 (.int _ _) one42 ((hR2.rd M4 (nthMem (i := 0) rfl)).sub k n (by omega) (by omega) hcap) ((subk_get (f := keyCell) hzb2 (by omega))) rfl) ?_
          refine D_p rfl rfl rfl (fun _ => r_bin (.bool (decide _)) rfl rfl rfl) ?_
          refine D_nil ?_
          refine thenN ?_
          refine W_condD rfl (fun h44 => ?_) (fun h44 => ?_)
          · skip
            refine W_seq ?_
            refine W_region ?_
            refine wl_q (r_move (.slice _ _ _) rfl) rfl rfl ?_
            refine wl_q (r_move (.int _ _) rfl) rfl rfl ?_
            refine wl_q (r_move (.slice _ _ _) rfl) rfl rfl ?_
            refine wl_q (r_move (.int _ _) rfl) rfl rfl ?_
            refine wl_q (r_idxR (q) sl27 rfl rfl rfl (((hR2.rd M4 (nthMem (i := 0) rfl)).sub k n (by omega) (by omega) hcap).below_len ((subk_get (f := keyCell) hza2 (by omega)))) (((hR2.rd M4 (nthMem (i := 0) rfl)).sub k n (by omega) (by omega) hcap).someK ((subk_get (f := keyCell) hza2 (by omega))))) rfl rfl ?_
            refine wl_q (r_ldE0 (.int _ _) one42 ((hR2.rd M4 (nthMem (i := 0) rfl)).sub k n (by omega) (by omega) hcap) ((subk_get (f := keyCell) hza2 (by omega))) rfl) rfl rfl ?_
            refine wl_q (r_idxR (m) sl27 rfl rfl rfl ((hR2.rd M4 (nthMem (i := 0) rfl)).below_len (mapGet keyCell hzm)) ((hR2.rd M4 (nthMem (i := 0) rfl)).someK (mapGet keyCell hzm))) rfl rfl ?_
            refine wl_stR0 0 (.int _ _) one42 M4 rfl hR2 (mapGet keyCell hzm) rfl rfl rfl rfl (fun e5 w5 hR5 M5 => ?_)
            have hQ5 := hR5.mapSet (f := keyCell) (x := za) rfl
            refine wl_nil ?_
            refine thenN ?_
            refine W_region ?_
            refine wl_q (r_move (.int _ _) rfl) rfl rfl ?_
            refine wl_q (r_add rfl rfl (by omega) (by omega)) rfl rfl ?_
            refine wl_q (r_assign (.int _ _) rfl) rfl rfl ?_
            refine wl_nil ?_
            refine blkN ?_
            refine thenN ?_
            refine W_region ?_
            refine wl_q (r_move (.int _ _) rfl) rfl rfl ?_
            refine wl_q (r_add rfl rfl (by omega) (by omega)) rfl rfl ?_
            refine wl_q (r_assign (.int _ _) rfl) rfl rfl ?_
            refine wl_nil ?_
            refine roundN (q + 1, m + 1, l2.set m za, e5) (agC rfl (agC rfl agN)) (akC rfl (akC rfl akN)) ?_ ?_
            · exact ⟨⟨⟨by omega, by omega, by omega, by omega⟩, by rw [take_snoc (by rw [List.getElem?_set_self (by omega)] : (l2.set m za)[m]? = some za), List.take_set_of_le (by omega)]; exact cmp_new (j := k + q) hC ho (by omega) hzb hza h44, by rw [List.length_set]; exact hl2, fun i hi => by rw [List.getElem?_set_ne (by omega)]; exact hsm i (by omega), hQ5⟩, M5⟩
            · (show n - (k + (q + 1)) < n - (k + q); omega)
          · skip
            refine W_skip ?_
            refine blkN ?_
            refine thenN ?_
            refine W_region ?_
            refine wl_q (r_move (.int _ _) rfl) rfl rfl ?_
            refine wl_q (r_add rfl rfl (by omega) (by omega)) rfl rfl ?_
            refine wl_q (r_assign (.int _ _) rfl) rfl rfl ?_
            refine wl_nil ?_
            refine roundN (q + 1, m, l2, e2) (agC rfl (agC rfl agN)) (akC rfl (akC rfl akN)) ?_ ?_
            · exact ⟨⟨⟨by omega, by omega, by omega, by omega⟩, cmp_old (j := k + q) hC hzb hza (Decidable.not_not.1 h44) (by omega), hl2, fun i hi => hsm i (by omega), hR2⟩, M4⟩
            · (show n - (k + (q + 1)) < n - (k + q); omega)
        · skip
          have hkq : k + q = n := by omega
          have hdone := Cmp.done hC (by omega)
          refine W_exit ?_
          refine thenX ?_
          refine roundX ?_
          refine blkH ?_
          refine thenN ?_
          refine W_seq ?_
          refine W_region ?_
          refine wl_q (r_move (.slice _ _ _) rfl) rfl rfl ?_
          refine wl_q (r_move (.int _ _) rfl) rfl rfl ?_
          refine wl_q (r_slice ((m : Int)) ((n : Int)) sl27 rfl ⟨_, rfl⟩ rfl (by omega) (by omega) (by omega)) rfl rfl ?_
          refine wl_clear 0 (m) sl27 (fun zv hz => by rw [zv42] at hz; injection hz with hz; subst hz; simp [Go.Bil.one, Value.cells]) hM3 rfl rfl hR2 (by omega) rfl (fun e6 w6 hR6 M6 => ?_)
          refine wl_nil ?_
          refine thenN ?_
          refine W_seq ?_
          refine W_region ?_
          refine wl_q (r_move (.slice _ _ _) rfl) rfl rfl ?_
          refine wl_q (r_move (.int _ _) rfl) rfl rfl ?_
          refine wl_q (r_slice (0) ((m : Int)) sl27 rfl rfl ⟨_, rfl⟩ (by decide) (by omega) (by omega)) rfl rfl ?_
          refine wl_q (r_assign (.slice _ _ _) rfl) rfl rfl ?_
          refine wl_nil ?_
          refine thenN ?_
          refine W_ret ?_
          refine blkR ?_
          refine thenR ?_
          refine roundR ?_
          refine blkR ?_
          refine thenR ?_
          skip
          refine fin1 (.slice _ _ _) rfl ?_
          have hpf := hR6
          rw [← List.map_take] at hpf
          exact ⟨⟨_, _, _, e6⟩, _, rfl, hdone, hpf, M6⟩
      · skip
        refine W_skip ?_
        refine blkN ?_
        refine thenN ?_
        refine W_region ?_
        refine wl_q (r_move (.int _ _) rfl) rfl rfl ?_
        refine wl_q (r_add rfl rfl (by omega) (by omega)) rfl rfl ?_
        refine wl_q (r_assign (.int _ _) rfl) rfl rfl ?_
        refine wl_nil ?_
        refine roundN (k + 1) (agC rfl agN) (akC rfl akN) ?_ ?_
        · exact ⟨⟨by omega, by omega, adjNextI hne hzp hzk h25⟩, M2⟩
        · omega
    · skip
      refine W_exit ?_
      refine thenX ?_
      refine roundX ?_
      refine blkH ?_
      refine thenN ?_
      refine W_seq ?_
      refine W_region ?_
      refine wl_q (r_move (.slice _ _ _) rfl) rfl rfl ?_
      refine wl_q (r_assign (.slice _ _ _) rfl) rfl rfl ?_
      refine wl_nil ?_
      refine thenN ?_
      refine W_ret ?_
      skip
      refine fin1 (.slice _ _ _) rfl ?_
      exact ⟨⟨A, n, c, e⟩, l, rfl, by have h := (cmp_take ho (show 0 < n by omega) (by omega) (fun j x y h1 h2 => hne j x y h1 (by omega))).done (by omega); rwa [List.take_of_length_le (by omega)] at h, hR, hM1⟩
      
      

set_option maxHeartbeats 8000000 in
theorem law10_fill (w : World) (F : Rd w 2 (some ⟨0, 0, none⟩) 1 [[.int .u32 73856093, .int .u32 19349663]]) (b : Nat) (rs : List Row) (cnt : Int) (g : Nat → List Int) (hG : GridRows 42 rs g) (hcnt : 0 ≤ cnt ∧ cnt ≤ 1000) (hgl : ∀ j, (g j).length ≤ 1000) (A : Option Addr) (n c : Nat) (es : List GE) (R : Rd w 5 A n (es.map geCells)) (hes : ∀ x ∈ es, Okx x.2) (hn : n ≤ 1000) (hO : Own ((some b, bc (gcells rs cnt) 30) :: rs.map Row.e) w) (hdF : 0 < 1 → ∀ q off, (some ⟨0, 0, none⟩ : Option Addr) = some ⟨q, off, none⟩ → q ∉ blks ((some b, bc (gcells rs cnt) 30) :: rs.map Row.e)) (hdR : 0 < n → ∀ q off, A = some ⟨q, off, none⟩ → q ∉ blks ((some b, bc (gcells rs cnt) 30) :: rs.map Row.e)) :
    Calls Tryd.prog 10 #[.pointer (some ⟨b, 0, none⟩), .slice A n c] w (fun ex w' => ∃ v, ex = .returned v ∧ (fun v w' => v = .tuple #[] ∧ ∃ rs' : List Row, GridRows 42 rs' (fillG es g) ∧ Mem w (blks ((some b, bc (gcells rs cnt) 30) :: rs.map Row.e)) ((some b, bc (gcells rs' (cnt + (n : Int))) 30) :: rs'.map Row.e) w') v w') := by
  have hlen : es.length = n := by simpa using R.len
  have hbd := R.bound
  refine calls_of_W #[] 33 Tryd.func10 rfl Tryd.results10 Tryd.ntmps10 rfl ?_
  have M0 := hO.mem
  refine W_seq ?_
  refine W_region ?_
  refine wl_q (r_assign (.int _ _) rfl) rfl rfl ?_
  refine wl_nil ?_
  refine thenN ?_
  refine W_block ?_
  refine W_loop (σ := Nat × List Row) [0, 1] (fun (k, rs1) => [(4, .int .i64 (k : Int))]) (fun (k, rs1) w' => (k ≤ n ∧ GridRows 42 rs1 (fillG (es.take k) g)) ∧ Mem w (blks ((some b, bc (gcells rs cnt) 30) :: rs.map Row.e)) ([(some b, bc (gcells rs1 (cnt + (k : Int))) 30)] ++ rs1.map Row.e) w') (fun (k, rs1) => n - k) (0, rs) (agC rfl agN) (⟨⟨by omega, by rw [List.take_zero]; exact hG⟩, by rw [show cnt + ((0 : Nat) : Int) = cnt by omega]; exact M0⟩) ?_
  rintro ⟨k, rs1⟩ ρ1 w1 ⟨⟨hk, hrs⟩, hM1⟩
  have htl := List.length_take_le k es
  refine W_seq ?_
  refine W_seq ?_
  refine W_region ?_
  refine wl_q (r_move (.int _ _) rfl) rfl rfl ?_
  refine wl_q (r_move (.slice _ _ _) rfl) rfl rfl ?_
  refine wl_q (r_lenS Tryd.underlying22 rfl) rfl rfl ?_
  refine wl_q (r_bin (.bool (decide _)) rfl rfl rfl) rfl rfl ?_
  refine wl_nil ?_
  refine thenN ?_
  refine W_condD rfl (fun h9 => ?_) (fun h9 => ?_)
  · skip
    obtain ⟨x, hx⟩ := getSome (k := k) hlen (by omega)
    refine W_skip ?_
    refine thenN ?_
    refine W_seq ?_
    refine W_block ?_
    refine W_seq ?_
    refine W_region ?_
    refine wl_q (r_move (.slice _ _ _) rfl) rfl rfl ?_
    refine wl_q (r_move (.int _ _) rfl) rfl rfl ?_
    refine wl_q (r_idxR (k) sl22 rfl rfl rfl ((R.memY hM1 hdR).below_len (mapGet geCells hx)) ((R.memY hM1 hdR).someK (mapGet geCells hx))) rfl rfl ?_
    refine wl_q (r_fieldAddrE 1 fld49_1 (R.memY hM1 hdR) (Nat.lt_of_le_of_lt (Nat.zero_le _) ((R.memY hM1 hdR).below_len (mapGet geCells hx))) rfl) rfl rfl ?_
    refine wl_q (r_ldEP (o := 1) _ agg47 (R.memY hM1 hdR) (mapGet geCells hx) rfl rfl rfl) rfl rfl ?_
    refine wl_alloc zero47 hM1 rfl rfl (fun b2 w2 M2 => ?_)
    have M3 : Mem _ _ ([_, _] ++ _) _ := Mem.front (L := [_]) M2
    refine wl_stW 1 _ agg47 M3 rfl rfl rfl rfl rfl (ones_of rfl) rfl (fun w4 M4 => ?_)
    refine wl_nil ?_
    refine thenN ?_
    refine W_draw [(0, 0), (1, 0), (2, 0), (3, 1), (4, 1), (5, 1), (6, 0), (7, 1), (8, 0), (9, 1), (10, 0), (11, 1), (12, 0), (13, 1), (14, 0), (15, 2)] mixed rfl (by kernel_rfl) (fun w5 hb5 hh5 => ?_)
    have M5 := M4.drew hb5 hh5
    refine D_p rfl rfl rfl (fun _ => r_move (.pointer _) rfl) ?_
    refine D_p rfl rfl rfl (fun _ => r_move (.slice _ _ _) rfl) ?_
    refine D_p rfl rfl rfl (fun _ => r_move (.int _ _) rfl) ?_
    refine D_r rfl rfl rfl (r_idxR (k) sl22 rfl rfl rfl ((R.memY M5 hdR).below_len (mapGet geCells hx)) ((R.memY M5 hdR).someK (mapGet geCells hx))) ?_
    refine D_r rfl rfl rfl (r_fieldAddrE 0 fld49_0 (R.memY M5 hdR) (Nat.lt_of_le_of_lt (Nat.zero_le _) ((R.memY M5 hdR).below_len (mapGet geCells hx))) rfl) ?_
    refine D_r rfl rfl rfl (r_ldE (o := 0) (.int _ _) one42 (R.memY M5 hdR) (mapGet geCells hx) rfl rfl) ?_
    refine D_p rfl rfl rfl (fun _ => r_fieldAddr 0 fld47_0 rfl) ?_
    refine D_r rfl rfl rfl (r_ld 1 (.int _ _) one21 M5 rfl rfl rfl) ?_
    refine D_p rfl rfl rfl (fun _ => r_fieldAddr 1 fld47_1 rfl) ?_
    refine D_r rfl rfl rfl (r_ld 1 (.int _ _) one21 M5 rfl rfl rfl) ?_
    refine D_p rfl rfl rfl (fun _ => r_fieldAddr 2 fld47_2 rfl) ?_
    refine D_r rfl rfl rfl (r_ld 1 (.int _ _) one21 M5 rfl rfl rfl) ?_
    refine D_p rfl rfl rfl (fun _ => r_fieldAddr 3 fld47_3 rfl) ?_
    refine D_r rfl rfl rfl (r_ld 1 (.int _ _) one21 M5 rfl rfl rfl) ?_
    refine D_p rfl rfl rfl (fun _ => r_build [(0, .int _ _), (1, .int _ _), (2, .int _ _), (3, .int _ _)] _ struct56 rfl rfl) ?_
    refine D_e [true, true, true, true, true, true, true] rfl (by kernel_rfl) ?_
    refine wl_cal cal22 rfl rfl rfl ?_
    refine (grid_Insert _ (F.memY M5 hdF) b rs1 (cnt + (k : Int)) (fillG (es.take k) g) hrs ⟨by omega, by omega⟩ (fun j _ => by have h1 := fill_lenG (es.take k) g j; have h2 := hgl j; omega) x.1 x.2 (hes x (List.mem_of_getElem? hx)) (Mem.gridSeg M5) (Mem.gridAway M5 F hdF)).mono ?_
    rintro _ w6 ⟨v6, rfl, ⟨rfl, rs2, hrs2, hM6⟩⟩
    refine ⟨_, rfl, ?_⟩
    have M6 : Mem _ _ ([_, _] ++ _) _ := Mem.gridCall M5 hM6
    refine wl_nil (thenN ⟨alN, ?_⟩)
    refine D_nil ?_
    refine blkN ?_
    refine thenN ?_
    refine W_region ?_
    refine wl_q (r_move (.int _ _) rfl) rfl rfl ?_
    refine wl_q (r_add rfl rfl (by omega) (by omega)) rfl rfl ?_
    refine wl_q (r_assign (.int _ _) rfl) rfl rfl ?_
    refine wl_nil ?_
    refine roundN (k + 1, rs2) (agC rfl agN) (akC rfl (akC rfl akN)) ?_ ?_
    · exact ⟨⟨by omega, by rw [fillG_snoc hx]; exact hrs2⟩, by rw [show cnt + ((k + 1 : Nat) : Int) = cnt + (k : Int) + 1 by omega]; exact Mem.keepL (L := [_, _]) [true, false] M6⟩
    · (show n - (k + 1) < n - k; omega)
  · skip
    have hkn : k = n := by omega
    rw [List.take_of_length_le (by omega)] at hrs
    rw [hkn] at hM1
    refine W_exit ?_
    refine thenX ?_
    refine roundX ?_
    refine blkH ?_
    refine fin0n ?_
    exact ⟨rfl, rs1, hrs, hM1⟩

set_option maxHeartbeats 4000000 in
theorem grid_Len (w : World) (b : Nat) (rs : List Row) (cnt : Int) (g : Nat → List Int) (hG : GridRows 42 rs g) (hO : Own ((some b, bc (gcells rs cnt) 30) :: rs.map Row.e) w) :
    Calls Tryd.prog 11 #[.pointer (some ⟨b, 0, none⟩)] w (fun ex w' => ∃ v, ex = .returned v ∧ (fun v w' => v = .int .i64 cnt ∧ Mem w (blks ((some b, bc (gcells rs cnt) 30) :: rs.map Row.e)) ((some b, bc (gcells rs cnt) 30) :: rs.map Row.e) w') v w') := by
  refine calls_of_W #[.tmp 2] 9 Tryd.func11 rfl Tryd.results11 Tryd.ntmps11 rfl ?_
  have M0 := hO.mem
  refine W_seq ?_
  refine W_region ?_
  refine wl_q (r_assign (.int _ _) rfl) rfl rfl ?_
  refine wl_nil ?_
  refine thenN ?_
  refine W_seq ?_
  refine W_seq ?_
  refine W_region ?_
  refine wl_q (r_move (.pointer _) rfl) rfl rfl ?_
  refine wl_q (r_eqPtrNil false Tryd.underlying32 rfl rfl) rfl rfl ?_
  refine wl_nil ?_
  refine thenN ?_
  refine W_condF rfl ?_
  refine W_skip ?_
  refine thenN ?_
  refine W_seq ?_
  refine W_region ?_
  refine wl_q (r_move (.pointer _) rfl) rfl rfl ?_
  refine wl_q (r_nilCheck rfl) rfl rfl ?_
  refine wl_q (r_fieldAddr 1024 fld30_1 rfl) rfl rfl ?_
  refine wl_q (r_ld 0 (.int .i64 cnt) one3 M0 rfl rfl (gcells_cnt hG.len)) rfl rfl ?_
  refine wl_q (r_assign (.int _ _) rfl) rfl rfl ?_
  refine wl_nil ?_
  refine thenN ?_
  refine W_ret ?_
  skip
  refine fin1 (.int _ _) rfl ?_
  exact ⟨rfl, M0⟩

set_option maxHeartbeats 4000000 in
theorem grid_LenN (w : World) :
    Calls Tryd.prog 11 #[.pointer none] w (fun ex w' => ∃ v, ex = .returned v ∧ (fun v w' => v = .int .i64 0 ∧ Below w.heap.size w w') v w') := by
  refine calls_of_W #[.tmp 2] 9 Tryd.func11 rfl Tryd.results11 Tryd.ntmps11 rfl ?_
  have M0 := Mem.refl w
  refine W_seq ?_
  refine W_region ?_
  refine wl_q (r_assign (.int _ _) rfl) rfl rfl ?_
  refine wl_nil ?_
  refine thenN ?_
  refine W_seq ?_
  refine W_seq ?_
  refine W_region ?_
  refine wl_q (r_move (.pointer _) rfl) rfl rfl ?_
  refine wl_q (r_eqPtrNil true Tryd.underlying32 rfl rfl) rfl rfl ?_
  refine wl_nil ?_
  refine thenN ?_
  refine W_condT rfl ?_
  refine W_seq ?_
  refine W_region ?_
  refine wl_q (r_assign (.int _ _) rfl) rfl rfl ?_
  refine wl_nil ?_
  refine thenN ?_
  refine W_ret ?_
  refine thenR ?_
  skip
  refine fin1 (.int _ _) rfl ?_
  exact ⟨rfl, M0.below⟩

set_option maxHeartbeats 4000000 in
theorem grid_CandidatesN (w : World) :
    Calls Tryd.prog 13 #[.pointer none] w (fun ex w' => ∃ v, ex = .returned v ∧ (fun v w' => v = .slice none 0 0 ∧ Below w.heap.size w w') v w') := by
  refine calls_of_W #[.tmp 2] 49 Tryd.func13 rfl Tryd.results13 Tryd.ntmps13 rfl ?_
  have M0 := Mem.refl w
  refine W_seq ?_
  refine W_region ?_
  refine wl_q (r_assign (.slice _ _ _) rfl) rfl rfl ?_
  refine wl_nil ?_
  refine thenN ?_
  refine W_seq ?_
  refine W_seq ?_
  refine W_region ?_
  refine wl_q (r_move (.pointer _) rfl) rfl rfl ?_
  refine wl_q (r_eqPtrNil true Tryd.underlying32 rfl rfl) rfl rfl ?_
  refine wl_nil ?_
  refine thenN ?_
  refine W_condT rfl ?_
  refine W_seq ?_
  refine W_region ?_
  refine wl_q (r_assign (.slice _ _ _) rfl) rfl rfl ?_
  refine wl_nil ?_
  refine thenN ?_
  refine W_ret ?_
  refine thenR ?_
  skip
  refine fin1 (.slice _ _ _) rfl ?_
  exact ⟨rfl, M0.below⟩

set_option maxHeartbeats 8000000 in
theorem grid_At (w : World) (F : Rd w 2 (some ⟨0, 0, none⟩) 1 [[.int .u32 73856093, .int .u32 19349663]]) (b : Nat) (rs : List Row) (cnt : Int) (g : Nat → List Int) (hG : GridRows 42 rs g) (hO : Own ((some b, bc (gcells rs cnt) 30) :: rs.map Row.e) w) (hdF : 0 < 1 → ∀ q off, (some ⟨0, 0, none⟩ : Option Addr) = some ⟨q, off, none⟩ → q ∉ blks ((some b, bc (gcells rs cnt) 30) :: rs.map Row.e)) (hgl : ∀ j, (g j).length < 50) (x y : Int) :
    Calls Tryd.prog 16 #[.pointer (some ⟨b, 0, none⟩), .agg [.int .i32 x, .int .i32 y].toArray] w (fun ex w' => ∃ v, ex = .returned v ∧ (fun v w' => ∃ (r : Row) (ks : List Int), v = .slice r.A r.n r.c ∧ AscI ks ∧ (∀ z, z ∈ ks ↔ z ∈ g (bucketI (cellP x y))) ∧ RowIs 42 1 r.A r.n r.c (ks.map keyCell) r.e ∧ Mem w (blks ((some b, bc (gcells rs cnt) 30) :: rs.map Row.e)) ([(some b, bc (gcells rs cnt) 30), r.e] ++ rs.map Row.e) w') v w') := by
  obtain ⟨rb, hrb⟩ := hG.get (bucket_lt (cellP x y))
  have hgb := hgl (bucketI (cellP x y))
  refine calls_of_W #[.tmp 4] 21 Tryd.func16 rfl Tryd.results16 Tryd.ntmps16 rfl ?_
  have M0 := hO.mem
  refine W_seq ?_
  refine W_region ?_
  refine wl_box (.agg (List.toArray _)) M0 rfl rfl rfl (fun b1 w1 M1 => ?_)
  have M2 : Mem _ _ ([_, _] ++ _) _ := Mem.front (L := [_]) M1
  refine wl_q (r_assign (.slice _ _ _) rfl) rfl rfl ?_
  refine wl_nil ?_
  refine thenN ?_
  refine W_seq ?_
  refine W_seq ?_
  refine W_region ?_
  refine wl_q (r_move (.pointer _) rfl) rfl rfl ?_
  refine wl_q (r_eqPtrNil false Tryd.underlying32 rfl rfl) rfl rfl ?_
  refine wl_nil ?_
  refine thenN ?_
  refine W_condF rfl ?_
  refine W_skip ?_
  refine thenN ?_
  refine W_seq ?_
  refine W_draw [(0, 0), (1, 1), (4, 0), (5, 0), (2, 2), (3, 2), (6, 0), (7, 1), (8, 2), (9, 0)] mixed rfl (by kernel_rfl) (fun w3 hb3 hh3 => ?_)
  have M3 := M2.drew hb3 hh3
  refine D_p rfl rfl rfl (fun _ => r_move (.pointer _) rfl) ?_
  refine D_r rfl rfl rfl (r_ldW 1 agg24 M3 rfl rfl rfl) ?_
  refine D_p rfl rfl rfl (fun _ => r_nilCheck rfl) ?_
  refine D_p rfl rfl rfl (fun _ => r_fieldAddr 0 fld30_0 rfl) ?_
  refine D_e [true] rfl (by kernel_rfl) ?_
  refine wl_cal cal33 rfl rfl rfl ?_
  refine (cell_Of _ x y).mono ?_
  rintro _ w4 ⟨v4, rfl, ⟨rfl, hb4⟩⟩
  refine ⟨_, rfl, ?_⟩
  have M4 := M3.callB hb4
  refine wl_nil (thenN ⟨alN, ?_⟩)
  refine D_e [] rfl (by kernel_rfl) ?_
  refine wl_cal cal32 rfl rfl rfl ?_
  refine (cell_Bucket _ (F.memY M4 hdF) (cellP x y)).mono ?_
  rintro _ w5 ⟨v5, rfl, ⟨rfl, hb5⟩⟩
  refine ⟨_, rfl, ?_⟩
  have M5 := M4.callB hb5
  refine wl_nil (thenN ⟨alN, ?_⟩)
  refine D_p rfl rfl rfl (fun _ => r_idxP ((bucketI (cellP x y))) arr28 rfl rfl rfl (bucket_lt (cellP x y))) ?_
  refine D_r rfl rfl rfl (r_ld 0 (.slice _ _ _) one27 M5 rfl rfl (gcells_row hrb)) ?_
  refine D_e [true] rfl (by kernel_rfl) ?_
  refine wl_cal cal31 rfl rfl rfl ?_
  refine (slices_CloneK _ _ _ _ (g (bucketI (cellP x y))) ((hG.row _ _ hrb).rd M5 (List.mem_append_right _ (List.mem_map_of_mem (List.mem_of_getElem? hrb)))) (by have h := (hG.row _ _ hrb).1; rw [List.length_map] at h; omega)).mono ?_
  rintro _ w6 ⟨v6, rfl, ⟨r, rfl, hr, hM6⟩⟩
  refine ⟨_, rfl, ?_⟩
  have M6 : Mem _ _ ([_, _, _] ++ _) _ := Mem.front (L := [_, _]) (M5.call0 hM6)
  have hrn : (g (bucketI (cellP x y))).length = r.n := by simpa using hr.1
  refine wl_nil (thenN ⟨alN, ?_⟩)
  refine D_p rfl rfl rfl (fun _ => r_assign (.slice _ _ _) rfl) ?_
  refine D_nil ?_
  refine thenN ?_
  refine W_seq ?_
  refine W_region ?_
  refine wl_q (r_move (.slice _ _ _) rfl) rfl rfl ?_
  refine wl_cal cal34 rfl rfl rfl ?_
  refine (sort_all _ r.A r.n r.c (g (bucketI (cellP x y))).toArray r.e (by simpa using hr) (M6.ownAt (i := 2) rfl) (by omega)).mono ?_
  rintro _ w7 ⟨v7, rfl, ⟨rfl, e7, hR7, hM7⟩⟩
  refine ⟨_, rfl, ?_⟩
  have M7 : Mem _ _ ([_, _, _] ++ _) _ := Mem.last3 M6 hM7
  have hRs7 := hR7
  rw [List.toList_toArray] at hRs7
  refine wl_nil ?_
  refine thenN ?_
  refine W_seq ?_
  refine W_region ?_
  refine wl_q (r_move (.slice _ _ _) rfl) rfl rfl ?_
  refine wl_cal cal35 rfl rfl rfl ?_
  refine (slices_CompactK _ r.A r.n r.c ((g (bucketI (cellP x y))).mergeSort (fun x y => decide (x ≤ y))) _ hRs7 (M7.ownAt (i := 2) rfl) (mergeI_ord _) (by omega)).mono ?_
  rintro _ w8 ⟨v8, rfl, ⟨q, ks, rfl, hcp, hq, hM8⟩⟩
  refine ⟨_, rfl, ?_⟩
  have M8 : Mem _ _ ([_, _, _] ++ _) _ := Mem.last3 M7 hM8
  refine wl_q (r_assign (.slice _ _ _) rfl) rfl rfl ?_
  refine wl_nil ?_
  refine thenN ?_
  refine W_ret ?_
  skip
  refine fin1 (.slice _ _ _) rfl ?_
  exact ⟨q, ks, rfl, hcp.a, fun z => by rw [hcp.e z]; exact (mergeI_perm _).mem_iff, hq, Mem.keepL (L := [_, _, _]) [true, false, true] M8⟩

end Go.Proofs.YtjbhobahebebkaaDoor

/- Walks of Go functions over the frame of this claim: what each computes, for every input of the stated types (G10g). -/
set_option linter.unusedVariables false
set_option linter.unusedSimpArgs false
set_option linter.unnecessarySimpa false
namespace Go.Proofs.YtjbhobahebebkaaDoor
open Go.Bil
open Go.RowKit (Below)
open Go.Proofs

set_option maxHeartbeats 16000000 in
theorem ref10_Candidates (w : World) (A : Option Addr) (n c : Nat) (es : List GE) (R : Rd w 5 A n (es.map geCells)) (hes : ∀ x ∈ es, Okx x.2) (hn : n ≤ 40) :
    Calls Tryd.prog 14 #[.slice A n c] w (fun ex w' => ∃ v, ex = .returned v ∧ (fun v w' => ∃ (r : Row) (ps : List (Int × Int)), v = .slice r.A r.n r.c ∧ Asc ps ∧ (∀ z, z ∈ ps ↔ candP es z) ∧ RowIs 44 2 r.A r.n r.c (ps.map pairCells) r.e ∧ Mem w [] [r.e] w') v w') := by
  have hlen : es.length = n := by simpa using R.len
  have hbd := R.bound
  refine calls_of_W #[.tmp 2] 87 Tryd.func14 rfl Tryd.results14 Tryd.ntmps14 rfl ?_
  have M0 := Mem.refl w
  refine W_seq ?_
  refine W_region ?_
  refine wl_q (r_assign (.slice _ _ _) rfl) rfl rfl ?_
  refine wl_nil ?_
  refine thenN ?_
  refine W_seq ?_
  refine W_region ?_
  refine wl_q (r_assign (.slice _ _ _) rfl) rfl rfl ?_
  have M1 := M0.dummy default
  refine wl_nil ?_
  refine thenN ?_
  refine W_seq ?_
  refine W_region ?_
  refine wl_q (r_assign (.slice _ _ _) rfl) rfl rfl ?_
  have M2 := M1.dummy default
  refine wl_nil ?_
  refine thenN ?_
  refine W_seq ?_
  refine W_seq ?_
  refine W_region ?_
  refine wl_q (r_assign (.int _ _) rfl) rfl rfl ?_
  refine wl_nil ?_
  refine thenN ?_
  refine W_block ?_
  refine W_loop (σ := Nat × Row × List Row) [0, 2, 3] (fun (i, q, rs) => [(4, .slice q.A q.n q.c), (5, .int .i64 (i : Int))]) (fun (i, q, rs) w' => (i ≤ n ∧ RowIs 67 1 q.A q.n q.c (rs.map hdr) q.e ∧ NumR 3 rs ((es.take i).map (fun x : GE => bks x.2))) ∧ Mem w [] ([(none, default), q.e] ++ rs.map Row.e) w') (fun (i, q, rs) => n - i) (0, nilRow, []) (agC rfl (agC rfl agN)) (⟨⟨by omega, RowIs.nil _ _ _, NumR.nil _⟩, M2⟩) ?_
  rintro ⟨i, q, rs⟩ ρ3 w3 ⟨⟨hi, hq, hI⟩, hM3⟩
  have hIl := hI.len
  rw [List.length_map, List.length_take] at hIl
  have hqn : rs.length = q.n := by simpa using hq.1
  refine W_seq ?_
  refine W_seq ?_
  refine W_region ?_
  refine wl_q (r_move (.int _ _) rfl) rfl rfl ?_
  refine wl_q (r_move (.slice _ _ _) rfl) rfl rfl ?_
  refine wl_q (r_lenS Tryd.underlying22 rfl) rfl rfl ?_
  refine wl_q (r_bin (.bool (decide _)) rfl rfl rfl) rfl rfl ?_
  refine wl_nil ?_
  refine thenN ?_
  refine W_condD rfl (fun h13 => ?_) (fun h13 => ?_)
  · skip
    obtain ⟨x, hx⟩ := getSome (k := i) hlen (by omega)
    refine W_skip ?_
    refine thenN ?_
    refine W_seq ?_
    refine W_block ?_
    refine W_region ?_
    refine wl_q (r_move (.slice _ _ _) rfl) rfl rfl ?_
    refine wl_q (r_move (.slice _ _ _) rfl) rfl rfl ?_
    refine wl_q (r_move (.int _ _) rfl) rfl rfl ?_
    refine wl_q (r_idxR (i) sl22 rfl rfl rfl ((R.mem hM3).below_len (mapGet geCells hx)) ((R.mem hM3).someK (mapGet geCells hx))) rfl rfl ?_
    refine wl_q (r_fieldAddrE 1 fld49_1 (R.mem hM3) (Nat.lt_of_le_of_lt (Nat.zero_le _) ((R.mem hM3).below_len (mapGet geCells hx))) rfl) rfl rfl ?_
    refine wl_q (r_ldEP (o := 1) _ agg47 (R.mem hM3) (mapGet geCells hx) rfl rfl rfl) rfl rfl ?_
    refine wl_cal cal28 rfl rfl rfl ?_
    refine (ref10_buckets _ x.2 (hes x (List.mem_of_getElem? hx))).mono ?_
    rintro _ w4 ⟨v4, rfl, ⟨kq, rfl, hkq, hM4⟩⟩
    refine ⟨_, rfl, ?_⟩
    have M4 : Mem _ _ ([_, _, _] ++ _) _ := Mem.front (L := [_, _]) (hM3.call0 hM4)
    refine wl_bslice [.slice _ _ _] [hdr kq] rfl sl66 M4 rfl rfl rfl rfl (lens_of rfl) (by decide) (fun b5 w5 M5 => ?_)
    have M6 : Mem _ _ ([_, _, _, _] ++ _) _ := Mem.front (L := [_, _, _]) M5
    refine wl_append 1 [hdr kq] sl66 M6 rfl rfl rfl rfl rfl hq rfl (by simp [hdr, Go.Bil.one]) (Cells.ofMem 3 M6 rfl) (by omega) (fun A7 c7 e7 w7 M7 hR7 => ?_)
    refine wl_q (r_assign (.slice _ _ _) rfl) rfl rfl ?_
    refine wl_nil ?_
    refine blkN ?_
    refine thenN ?_
    refine W_region ?_
    refine wl_q (r_move (.int _ _) rfl) rfl rfl ?_
    refine wl_q (r_add rfl rfl (by omega) (by omega)) rfl rfl ?_
    refine wl_q (r_assign (.int _ _) rfl) rfl rfl ?_
    refine wl_nil ?_
    refine roundN (i + 1, ⟨A7, q.n + 1, c7, e7⟩, rs ++ [kq]) (agC rfl (agC rfl agN)) (akC rfl (akC rfl (akC rfl akN))) ?_ ?_
    · exact ⟨⟨by omega, by rw [List.map_append]; exact hR7, by rw [take_snoc hx, List.map_append]; exact hI.add hkq⟩, Mem.pushNew (L := [_, _]) kq (Mem.keepL (L := [_, _, _, _]) [true, true, true, false] M7)⟩
    · (show n - (i + 1) < n - i; omega)
  · skip
    have hin : i = n := by omega
    rw [List.take_of_length_le (by omega)] at hI
    refine W_exit ?_
    refine thenX ?_
    refine roundX ?_
    refine blkH ?_
    refine thenN ?_
    refine W_seq ?_
    refine W_seq ?_
    refine W_region ?_
    refine wl_q (r_assign (.int _ _) rfl) rfl rfl ?_
    refine wl_nil ?_
    refine thenN ?_
    refine W_block ?_
    refine W_loop (σ := Nat × Row × List (Int × Int)) [0, 2, 4] (fun (i2, o, ps) => [(3, .slice o.A o.n o.c), (6, .int .i64 (i2 : Int))]) (fun (i2, o, ps) w' => (i2 ≤ n ∧ (Asc ps ∧ ∀ z, z ∈ ps ↔ candK es i2 0 z) ∧ RowIs 44 2 o.A o.n o.c (ps.map pairCells) o.e) ∧ Mem w [] ([o.e, q.e] ++ rs.map Row.e) w') (fun (i2, o, ps) => n - i2) (0, nilRow, []) (agC rfl (agC rfl agN)) (⟨⟨by omega, ⟨List.Pairwise.nil, fun z => ⟨(fun h => by cases h), fun h => absurd h candK_zero⟩⟩, RowIs.nil _ _ _⟩, hM3⟩) ?_
    rintro ⟨i2, o, ps⟩ ρ8 w8 ⟨⟨hi2, ⟨hasc, hme⟩, ho⟩, hM8⟩
    have hpl := cand_len hasc (fun z hz => candK_keys ((hme z).1 hz))
    have hnn : es.length * es.length ≤ 40 * 40 := Nat.mul_le_mul (by omega) (by omega)
    have hon : ps.length = o.n := by simpa using ho.1
    refine W_seq ?_
    refine W_seq ?_
    refine W_region ?_
    refine wl_q (r_move (.int _ _) rfl) rfl rfl ?_
    refine wl_q (r_move (.slice _ _ _) rfl) rfl rfl ?_
    refine wl_q (r_lenS Tryd.underlying22 rfl) rfl rfl ?_
    refine wl_q (r_bin (.bool (decide _)) rfl rfl rfl) rfl rfl ?_
    refine wl_nil ?_
    refine thenN ?_
    refine W_condD rfl (fun h28 => ?_) (fun h28 => ?_)
    · skip
      refine W_skip ?_
      refine thenN ?_
      refine W_seq ?_
      refine W_block ?_
      refine W_seq ?_
      refine W_region ?_
      refine wl_q (r_assign (.int _ _) rfl) rfl rfl ?_
      refine wl_nil ?_
      refine thenN ?_
      refine W_block ?_
      refine W_loop (σ := Nat × Row × List (Int × Int)) [0, 2, 4, 6] (fun (k, o, ps) => [(3, .slice o.A o.n o.c), (7, .int .i64 (k : Int))]) (fun (k, o, ps) w' => (k ≤ n ∧ (Asc ps ∧ ∀ z, z ∈ ps ↔ candK es i2 k z) ∧ RowIs 44 2 o.A o.n o.c (ps.map pairCells) o.e) ∧ Mem w [] ([o.e, q.e] ++ rs.map Row.e) w') (fun (k, o, ps) => n - k) (0, o, ps) (agC rfl (agC rfl agN)) (⟨⟨by omega, ⟨hasc, hme⟩, ho⟩, hM8⟩) ?_
      rintro ⟨k, o, ps⟩ ρ9 w9 ⟨⟨hk, ⟨hasc, hme⟩, ho⟩, hM9⟩
      have hpl := cand_len hasc (fun z hz => candK_keys ((hme z).1 hz))
      have hnn : es.length * es.length ≤ 40 * 40 := Nat.mul_le_mul (by omega) (by omega)
      have hon : ps.length = o.n := by simpa using ho.1
      refine W_seq ?_
      refine W_seq ?_
      refine W_region ?_
      refine wl_q (r_move (.int _ _) rfl) rfl rfl ?_
      refine wl_q (r_move (.slice _ _ _) rfl) rfl rfl ?_
      refine wl_q (r_lenS Tryd.underlying22 rfl) rfl rfl ?_
      refine wl_q (r_bin (.bool (decide _)) rfl rfl rfl) rfl rfl ?_
      refine wl_nil ?_
      refine thenN ?_
      refine W_condD rfl (fun h34 => ?_) (fun h34 => ?_)
      · skip
        obtain ⟨x, hx⟩ := getSome (xs := es) (k := i2) hlen (by omega)
        obtain ⟨y, hy⟩ := getSome (xs := es) (k := k) hlen (by omega)
        obtain ⟨ri, hri⟩ := getSome (xs := rs) (k := i2) rfl (by omega)
        obtain ⟨rk, hrk⟩ := getSome (xs := rs) (k := k) rfl (by omega)
        have hli : (es.map (fun x : GE => bks x.2))[i2]? = some (bks x.2) := by rw [List.getElem?_map, hx]; rfl
        have hlk : (es.map (fun x : GE => bks x.2))[k]? = some (bks y.2) := by rw [List.getElem?_map, hy]; rfl
        have hni : (bks x.2).length = ri.n := by simpa using (hI.row _ _ _ hri hli).1
        have hnb := (hI.row _ _ _ hri hli).2.2.1
        refine W_skip ?_
        refine thenN ?_
        refine W_seq ?_
        refine W_block ?_
        refine W_seq ?_
        refine W_seq ?_
        refine W_draw [(0, 0), (1, 0), (2, 1), (3, 1), (4, 1), (5, 0), (6, 0), (7, 1), (8, 1), (9, 1), (10, 0)] mixed rfl (by kernel_rfl) (fun w10 hb10 hh10 => ?_)
        have M10 := hM9.drew hb10 hh10
        refine D_p rfl rfl rfl (fun _ => r_move (.slice _ _ _) rfl) ?_
        refine D_p rfl rfl rfl (fun _ => r_move (.int _ _) rfl) ?_
        refine D_r rfl rfl rfl (r_idxR (i2) sl22 rfl rfl rfl ((R.mem M10).below_len (mapGet geCells hx)) ((R.mem M10).someK (mapGet geCells hx))) ?_
        refine D_r rfl rfl rfl (r_fieldAddrE 0 fld49_0 (R.mem M10) (Nat.lt_of_le_of_lt (Nat.zero_le _) ((R.mem M10).below_len (mapGet geCells hx))) rfl) ?_
        refine D_r rfl rfl rfl (r_ldE (o := 0) (.int _ _) one42 (R.mem M10) (mapGet geCells hx) rfl rfl) ?_
        refine D_p rfl rfl rfl (fun _ => r_move (.slice _ _ _) rfl) ?_
        refine D_p rfl rfl rfl (fun _ => r_move (.int _ _) rfl) ?_
        refine D_r rfl rfl rfl (r_idxR (k) sl22 rfl rfl rfl ((R.mem M10).below_len (mapGet geCells hy)) ((R.mem M10).someK (mapGet geCells hy))) ?_
        refine D_r rfl rfl rfl (r_fieldAddrE 0 fld49_0 (R.mem M10) (Nat.lt_of_le_of_lt (Nat.zero_le _) ((R.mem M10).below_len (mapGet geCells hy))) rfl) ?_
        refine D_r rfl rfl rfl (r_ldE (o := 0) (.int _ _) one42 (R.mem M10) (mapGet geCells hy) rfl rfl) ?_
        refine D_p rfl rfl rfl (fun _ => r_bin (.bool (decide _)) rfl rfl rfl) ?_
        refine D_nil ?_
        refine thenN ?_
        refine W_condD rfl (fun h47 => ?_) (fun h47 => ?_)
        · skip
          refine W_exit ?_
          refine thenX ?_
          refine blkH ?_
          refine thenN ?_
          refine W_region ?_
          refine wl_q (r_move (.int _ _) rfl) rfl rfl ?_
          refine wl_q (r_add rfl rfl (by omega) (by omega)) rfl rfl ?_
          refine wl_q (r_assign (.int _ _) rfl) rfl rfl ?_
          refine wl_nil ?_
          refine roundN (k + 1, o, ps) (agC rfl (agC rfl agN)) (akC rfl (akC rfl (akC rfl (akC rfl akN)))) ?_ ?_
          · exact ⟨⟨by omega, ⟨hasc, fun z => by rw [hme z, candK_step hx hy]; exact ⟨.inr, fun h => h.elim (fun h => absurd h.1 (by omega)) id⟩⟩, ho⟩, M10⟩
          · (show n - (k + 1) < n - k; omega)
        · skip
          refine W_skip ?_
          refine thenN ?_
          refine W_seq ?_
          refine W_region ?_
          refine wl_q (r_assign (.bool false) rfl) rfl rfl ?_
          refine wl_nil ?_
          refine thenN ?_
          refine W_seq ?_
          refine W_seq ?_
          refine W_region ?_
          refine wl_q (r_assign (.int _ _) rfl) rfl rfl ?_
          refine wl_nil ?_
          refine thenN ?_
          refine W_block ?_
          refine W_loop (σ := Nat) [0, 2, 3, 4, 6, 7] (fun j => [(8, .bool (((bks x.2).take j).any (fun m => decide (m ∈ bks y.2)))), (9, .int .i64 (j : Int))]) (fun j w' => j ≤ ri.n ∧ Mem w [] ([o.e, q.e] ++ rs.map Row.e) w') (fun j => ri.n - j) 0 (agC (bv rfl (by simp)) (agC rfl agN)) (⟨by omega, M10⟩) ?_
          rintro j ρ11 w11 ⟨hj, hM11⟩
          refine W_seq ?_
          refine W_seq ?_
          refine W_region ?_
          refine wl_q (r_move (.int _ _) rfl) rfl rfl ?_
          refine wl_q (r_move (.slice _ _ _) rfl) rfl rfl ?_
          refine wl_q (r_move (.int _ _) rfl) rfl rfl ?_
          refine wl_q (r_idxR (i2) sl66 rfl rfl rfl ((hq.rd hM11 (nthMem (i := 1) rfl)).below_len (mapGet hdr hri)) ((hq.rd hM11 (nthMem (i := 1) rfl)).someK (mapGet hdr hri))) rfl rfl ?_
          refine wl_q (r_ldE0 (.slice _ _ _) one67 (hq.rd hM11 (nthMem (i := 1) rfl)) (mapGet hdr hri) rfl) rfl rfl ?_
          refine wl_q (r_lenS Tryd.underlying67 rfl) rfl rfl ?_
          refine wl_q (r_bin (.bool (decide _)) rfl rfl rfl) rfl rfl ?_
          refine wl_nil ?_
          refine thenN ?_
          refine W_condD rfl (fun h54 => ?_) (fun h54 => ?_)
          · skip
            obtain ⟨m, hm⟩ := getSome (xs := bks x.2) (k := j) hni (by omega)
            refine W_skip ?_
            refine thenN ?_
            refine W_seq ?_
            refine W_block ?_
            refine W_draw [(0, 0), (1, 0), (2, 0), (3, 0), (4, 1), (5, 1), (6, 0), (7, 0), (8, 1), (9, 1), (10, 0), (11, 1), (12, 1), (13, 2), (14, 0), (15, 0)] mixed rfl (by kernel_rfl) (fun w12 hb12 hh12 => ?_)
            have M12 := hM11.drew hb12 hh12
            refine D_p rfl rfl rfl (fun _ => r_move (.bool _) rfl) ?_
            refine D_p rfl rfl rfl (fun _ => r_move (.bool _) rfl) ?_
            refine D_split 58 _ rfl (fun g58 => ?_) (fun g58 => ?_)
            · skip
              refine D_s rfl rfl rfl ?_
              refine D_s rfl rfl rfl ?_
              refine D_s1 rfl rfl rfl ?_
              refine D_s1 rfl rfl rfl ?_
              refine D_s rfl rfl rfl ?_
              refine D_s rfl rfl rfl ?_
              refine D_s1 rfl rfl rfl ?_
              refine D_s1 rfl rfl rfl ?_
              refine D_s rfl rfl rfl ?_
              refine D_s1 rfl rfl rfl ?_
              refine D_s1 rfl rfl rfl ?_
              refine D_e [true, true, true, true, true, true] rfl (by kernel_rfl) ?_
              refine wl_skip rfl rfl ?_
              refine wl_nil (thenN ⟨alN, ?_⟩)
              refine D_p rfl rfl rfl (fun _ => r_pick true (.bool true) rfl rfl) ?_
              refine D_p rfl rfl rfl (fun _ => r_assign (.bool true) rfl) ?_
              refine D_nil ?_
              refine blkN ?_
              refine thenN ?_
              refine W_region ?_
              refine wl_q (r_move (.int _ _) rfl) rfl rfl ?_
              refine wl_q (r_add rfl rfl (by omega) (by omega)) rfl rfl ?_
              refine wl_q (r_assign (.int _ _) rfl) rfl rfl ?_
              refine wl_nil ?_
              refine roundN (j + 1) (agC (bv rfl (by rw [take_snoc hm, List.any_append, g58, Bool.true_or])) (agC rfl agN)) (akC rfl (akC rfl (akC rfl (akC rfl (akC rfl (akC rfl akN)))))) ?_ ?_
              · exact ⟨by omega, M12⟩
              · omega
            · skip
              refine D_p rfl rfl rfl (fun _ => r_move (.slice _ _ _) rfl) ?_
              refine D_p rfl rfl rfl (fun _ => r_move (.int _ _) rfl) ?_
              refine D_r rfl rfl rfl (r_idxR (k) sl66 rfl rfl rfl ((hq.rd M12 (nthMem (i := 1) rfl)).below_len (mapGet hdr hrk)) ((hq.rd M12 (nthMem (i := 1) rfl)).someK (mapGet hdr hrk))) ?_
              refine D_r rfl rfl rfl (r_ldE0 (.slice _ _ _) one67 (hq.rd M12 (nthMem (i := 1) rfl)) (mapGet hdr hrk) rfl) ?_
              refine D_p rfl rfl rfl (fun _ => r_move (.slice _ _ _) rfl) ?_
              refine D_p rfl rfl rfl (fun _ => r_move (.int _ _) rfl) ?_
              refine D_r rfl rfl rfl (r_idxR (i2) sl66 rfl rfl rfl ((hq.rd M12 (nthMem (i := 1) rfl)).below_len (mapGet hdr hri)) ((hq.rd M12 (nthMem (i := 1) rfl)).someK (mapGet hdr hri))) ?_
              refine D_r rfl rfl rfl (r_ldE0 (.slice _ _ _) one67 (hq.rd M12 (nthMem (i := 1) rfl)) (mapGet hdr hri) rfl) ?_
              refine D_p rfl rfl rfl (fun _ => r_move (.int _ _) rfl) ?_
              refine D_r rfl rfl rfl (r_idxR (j) sl67 rfl rfl rfl (((hI.row _ _ _ hri hli).rd M12 (List.mem_append_right _ (List.mem_map_of_mem (List.mem_of_getElem? hri)))).below_len (mapGet numCell hm)) (((hI.row _ _ _ hri hli).rd M12 (List.mem_append_right _ (List.mem_map_of_mem (List.mem_of_getElem? hri)))).someK (mapGet numCell hm))) ?_
              refine D_r rfl rfl rfl (r_ldE0 (.int _ _) one3 ((hI.row _ _ _ hri hli).rd M12 (List.mem_append_right _ (List.mem_map_of_mem (List.mem_of_getElem? hri)))) (mapGet numCell hm) rfl) ?_
              refine D_e [true, true, true, true, true, true] rfl (by kernel_rfl) ?_
              refine wl_cal cal29 rfl rfl rfl ?_
              refine (ref10_Has _ m _ _ _ (bks y.2) ((hI.row _ _ _ hrk hlk).rd M12 (List.mem_append_right _ (List.mem_map_of_mem (List.mem_of_getElem? hrk))))).mono ?_
              rintro _ w13 ⟨v13, rfl, ⟨rfl, hb13⟩⟩
              refine ⟨_, rfl, ?_⟩
              have M13 := M12.callB hb13
              refine wl_nil (thenN ⟨alN, ?_⟩)
              refine D_p rfl rfl rfl (fun _ => r_pick false (.bool (decide _)) rfl rfl) ?_
              refine D_p rfl rfl rfl (fun _ => r_assign (.bool (decide _)) rfl) ?_
              refine D_nil ?_
              refine blkN ?_
              refine thenN ?_
              refine W_region ?_
              refine wl_q (r_move (.int _ _) rfl) rfl rfl ?_
              refine wl_q (r_add rfl rfl (by omega) (by omega)) rfl rfl ?_
              refine wl_q (r_assign (.int _ _) rfl) rfl rfl ?_
              refine wl_nil ?_
              refine roundN (j + 1) (agC (bv rfl (by rw [take_snoc hm, List.any_append, g58]; simp)) (agC rfl agN)) (akC rfl (akC rfl (akC rfl (akC rfl (akC rfl (akC rfl akN)))))) ?_ ?_
              · exact ⟨by omega, M13⟩
              · omega
          · skip
            refine W_exit ?_
            refine thenX ?_
            refine roundX ?_
            refine blkH ?_
            refine thenN ?_
            refine W_seq ?_
            refine W_region ?_
            refine wl_q (r_move (.bool _) rfl) rfl rfl ?_
            refine wl_nil ?_
            refine thenN ?_
            refine W_cond _ rfl (fun h72 => ?_) (fun h72 => ?_)
            · skip
              have hcm : commonB x.2 y.2 = true := by unfold commonB; rw [← h72, List.take_of_length_le (by omega)]
              refine W_draw [(0, 0), (1, 0), (2, 0), (3, 1), (4, 1), (5, 1), (6, 0), (7, 0), (8, 1), (9, 1), (10, 1), (11, 0), (12, 2), (13, 0)] mixed rfl (by kernel_rfl) (fun w14 hb14 hh14 => ?_)
              have M14 := hM11.drew hb14 hh14
              refine D_p rfl rfl rfl (fun _ => r_move (.slice _ _ _) rfl) ?_
              refine D_p rfl rfl rfl (fun _ => r_move (.slice _ _ _) rfl) ?_
              refine D_p rfl rfl rfl (fun _ => r_move (.int _ _) rfl) ?_
              refine D_r rfl rfl rfl (r_idxR (i2) sl22 rfl rfl rfl ((R.mem M14).below_len (mapGet geCells hx)) ((R.mem M14).someK (mapGet geCells hx))) ?_
              refine D_r rfl rfl rfl (r_fieldAddrE 0 fld49_0 (R.mem M14) (Nat.lt_of_le_of_lt (Nat.zero_le _) ((R.mem M14).below_len (mapGet geCells hx))) rfl) ?_
              refine D_r rfl rfl rfl (r_ldE (o := 0) (.int _ _) one42 (R.mem M14) (mapGet geCells hx) rfl rfl) ?_
              refine D_p rfl rfl rfl (fun _ => r_move (.slice _ _ _) rfl) ?_
              refine D_p rfl rfl rfl (fun _ => r_move (.int _ _) rfl) ?_
              refine D_r rfl rfl rfl (r_idxR (k) sl22 rfl rfl rfl ((R.mem M14).below_len (mapGet geCells hy)) ((R.mem M14).someK (mapGet geCells hy))) ?_
              refine D_r rfl rfl rfl (r_fieldAddrE 0 fld49_0 (R.mem M14) (Nat.lt_of_le_of_lt (Nat.zero_le _) ((R.mem M14).below_len (mapGet geCells hy))) rfl) ?_
              refine D_r rfl rfl rfl (r_ldE (o := 0) (.int _ _) one42 (R.mem M14) (mapGet geCells hy) rfl rfl) ?_
              refine D_p rfl rfl rfl (fun _ => r_build [(0, .int _ _), (1, .int _ _)] _ struct44 rfl rfl) ?_
              refine D_e [true, true, true, true, true, true] rfl (by kernel_rfl) ?_
              refine wl_cal cal30 rfl rfl rfl ?_
              refine (ref10_PutPair _ (x.1, y.1) _ _ _ ps (ho.rd M14 (nthMem (i := 0) rfl)) ho.slice (by omega)).mono ?_
              rintro _ w15 ⟨v15, rfl, ⟨r3, pi, rfl, ⟨hpi, hp1, hp2⟩, hr3, hM15⟩⟩
              refine ⟨_, rfl, ?_⟩
              have M15 : Mem _ _ ([_, _, _] ++ _) _ := Mem.front (L := [_, _]) (M14.call0 hM15)
              have hput := put_asc hasc hpi hp1 hp2
              refine wl_nil (thenN ⟨alN, ?_⟩)
              refine D_p rfl rfl rfl (fun _ => r_assign (.slice _ _ _) rfl) ?_
              refine D_nil ?_
              refine blkN ?_
              refine thenN ?_
              refine W_region ?_
              refine wl_q (r_move (.int _ _) rfl) rfl rfl ?_
              refine wl_q (r_add rfl rfl (by omega) (by omega)) rfl rfl ?_
              refine wl_q (r_assign (.int _ _) rfl) rfl rfl ?_
              refine wl_nil ?_
              refine roundN (k + 1, r3, putP ps (x.1, y.1) pi) (agC rfl (agC rfl agN)) (akC rfl (akC rfl (akC rfl (akC rfl akN)))) ?_ ?_
              · exact ⟨⟨by omega, ⟨hput.1, fun z => by rw [hput.2 z, hme z, candK_step hx hy]; exact ⟨fun h => h.elim (fun e => .inl ⟨by omega, hcm, e⟩) .inr, fun h => h.elim (fun e => .inl e.2.2) .inr⟩⟩, hr3⟩, Mem.keepL (L := [_, _]) [true, true] (Mem.swap3 M15)⟩
              · (show n - (k + 1) < n - k; omega)
            · skip
              have hcm : commonB x.2 y.2 = false := by unfold commonB; rw [← h72, List.take_of_length_le (by omega)]
              refine W_skip ?_
              refine blkN ?_
              refine thenN ?_
              refine W_region ?_
              refine wl_q (r_move (.int _ _) rfl) rfl rfl ?_
              refine wl_q (r_add rfl rfl (by omega) (by omega)) rfl rfl ?_
              refine wl_q (r_assign (.int _ _) rfl) rfl rfl ?_
              refine wl_nil ?_
              refine roundN (k + 1, o, ps) (agC rfl (agC rfl agN)) (akC rfl (akC rfl (akC rfl (akC rfl akN)))) ?_ ?_
              · exact ⟨⟨by omega, ⟨hasc, fun z => by rw [hme z, candK_step hx hy]; exact ⟨.inr, fun h => h.elim (fun h => by rw [h.2.1] at hcm; cases hcm) id⟩⟩, ho⟩, hM11⟩
              · (show n - (k + 1) < n - k; omega)
      · skip
        have hkn : k = n := by omega
        refine W_exit ?_
        refine thenX ?_
        refine roundX ?_
        refine blkH ?_
        refine blkN ?_
        refine thenN ?_
        refine W_region ?_
        refine wl_q (r_move (.int _ _) rfl) rfl rfl ?_
        refine wl_q (r_add rfl rfl (by omega) (by omega)) rfl rfl ?_
        refine wl_q (r_assign (.int _ _) rfl) rfl rfl ?_
        refine wl_nil ?_
        refine roundN (i2 + 1, o, ps) (agC rfl (agC rfl agN)) (akC rfl (akC rfl (akC rfl akN))) ?_ ?_
        · exact ⟨⟨by omega, ⟨hasc, fun z => by rw [hme z, hkn, ← hlen]; exact candK_row⟩, ho⟩, hM9⟩
        · (show n - (i2 + 1) < n - i2; omega)
    · skip
      have hi2n : i2 = n := by omega
      refine W_exit ?_
      refine thenX ?_
      refine roundX ?_
      refine blkH ?_
      refine thenN ?_
      refine W_seq ?_
      refine W_region ?_
      refine wl_q (r_move (.slice _ _ _) rfl) rfl rfl ?_
      refine wl_q (r_assign (.slice _ _ _) rfl) rfl rfl ?_
      refine wl_nil ?_
      refine thenN ?_
      refine W_ret ?_
      skip
      refine fin1 (.slice _ _ _) rfl ?_
      exact ⟨o, ps, rfl, hasc, fun z => by rw [hme z, hi2n, ← hlen]; exact candK_all, ho, (Mem.keepL (L := [_, _]) [true, false] hM8).sub (List.sublist_append_left _ _)⟩

end Go.Proofs.YtjbhobahebebkaaDoor

/- Walks of Go functions over the frame of this claim: what each computes, for every input of the stated types (G10h). -/
set_option linter.unusedVariables false
set_option linter.unusedSimpArgs false
set_option linter.unnecessarySimpa false
namespace Go.Proofs.YtjbhobahebebkaaDoor
open Go.Bil
open Go.RowKit (Below)
open Go.Proofs

set_option maxHeartbeats 16000000 in
theorem ref10_At (w : World) (A : Option Addr) (n c : Nat) (es : List GE) (R : Rd w 5 A n (es.map geCells)) (hes : ∀ x ∈ es, Okx x.2) (hn : n ≤ 1000) (x y : Int) (hx : -2147483648 ≤ x ∧ x ≤ 2147483647) (hy : -2147483648 ≤ y ∧ y ≤ 2147483647) :
    Calls Tryd.prog 17 #[.slice A n c, .agg [.int .i32 x, .int .i32 y].toArray] w (fun ex w' => ∃ v, ex = .returned v ∧ (fun v w' => ∃ (r : Row) (ks : List Int), v = .slice r.A r.n r.c ∧ AscI ks ∧ (∀ z, z ∈ ks ↔ z ∈ fillG es noG (bucketI (cellP x y))) ∧ RowIs 42 1 r.A r.n r.c ((ks).map keyCell) r.e ∧ Mem w [] [r.e] w') v w') := by
  have hlen : es.length = n := by simpa using R.len
  have hbd := R.bound
  refine calls_of_W #[.tmp 4] 85 Tryd.func17 rfl Tryd.results17 Tryd.ntmps17 rfl ?_
  have M0 := Mem.refl w
  refine W_seq ?_
  refine W_region ?_
  refine wl_box (.agg (List.toArray _)) M0 rfl rfl rfl (fun b1 w1 M1 => ?_)
  refine wl_q (r_assign (.slice _ _ _) rfl) rfl rfl ?_
  refine wl_nil ?_
  refine thenN ?_
  refine W_seq ?_
  refine W_region ?_
  refine wl_q (r_assign (.slice _ _ _) rfl) rfl rfl ?_
  have M2 := M1.dummy default
  refine wl_nil ?_
  refine thenN ?_
  refine W_seq ?_
  refine W_region ?_
  refine wl_q (r_ldW 0 agg24 M2 rfl rfl rfl) rfl rfl ?_
  refine wl_cal cal37 rfl rfl rfl ?_
  refine (ref09_Of _ x y hx hy).mono ?_
  rintro _ w3 ⟨v3, rfl, ⟨rfl, hb3⟩⟩
  refine ⟨_, rfl, ?_⟩
  have M3 := M2.callB hb3
  refine wl_cal cal36 rfl rfl rfl ?_
  refine (ref09_Bucket _ (cellP x y)).mono ?_
  rintro _ w4 ⟨v4, rfl, ⟨rfl, hb4⟩⟩
  refine ⟨_, rfl, ?_⟩
  have M4 := M3.callB hb4
  refine wl_q (r_assign (.int _ _) rfl) rfl rfl ?_
  refine wl_nil ?_
  refine thenN ?_
  refine W_seq ?_
  refine W_seq ?_
  refine W_region ?_
  refine wl_q (r_assign (.int _ _) rfl) rfl rfl ?_
  refine wl_nil ?_
  refine thenN ?_
  refine W_block ?_
  refine W_loop (σ := Nat × Row × List Int) [0, 4, 6] (fun (i, o, ks) => [(5, .slice o.A o.n o.c), (7, .int .i64 (i : Int))]) (fun (i, o, ks) w' => (i ≤ n ∧ (AscI ks ∧ ks.length ≤ i ∧ ∀ z, z ∈ ks ↔ atK es (bucketI (cellP x y)) i z) ∧ RowIs 42 1 o.A o.n o.c ((ks).map keyCell) o.e) ∧ Mem w [] [(some b1, bc [.int .i32 x, .int .i32 y] 24), o.e] w') (fun (i, o, ks) => n - i) (0, nilRow, []) (agC rfl (agC rfl agN)) (⟨⟨by omega, ⟨List.Pairwise.nil, by simp, fun z => ⟨(fun h => by cases h), fun h => absurd h atK_zero⟩⟩, RowIs.nil _ _ _⟩, M4⟩) ?_
  rintro ⟨i, o, ks⟩ ρ5 w5 ⟨⟨hi, ⟨hasc, hkl, hme⟩, ho⟩, hM5⟩
  have hon : ks.length = o.n := by simpa using ho.1
  have hoc := ho.slice
  refine W_seq ?_
  refine W_seq ?_
  refine W_region ?_
  refine wl_q (r_move (.int _ _) rfl) rfl rfl ?_
  refine wl_q (r_move (.slice _ _ _) rfl) rfl rfl ?_
  refine wl_q (r_lenS Tryd.underlying22 rfl) rfl rfl ?_
  refine wl_q (r_bin (.bool (decide _)) rfl rfl rfl) rfl rfl ?_
  refine wl_nil ?_
  refine thenN ?_
  refine W_condD rfl (fun h16 => ?_) (fun h16 => ?_)
  · skip
    obtain ⟨xe, hxe⟩ := getSome (xs := es) (k := i) hlen (by omega)
    refine W_skip ?_
    refine thenN ?_
    refine W_seq ?_
    refine W_block ?_
    refine W_seq ?_
    refine W_seq ?_
    refine W_region ?_
    refine wl_q (r_move (.slice _ _ _) rfl) rfl rfl ?_
    refine wl_q (r_move (.int _ _) rfl) rfl rfl ?_
    refine wl_q (r_idxR (i) sl22 rfl rfl rfl ((R.mem hM5).below_len (mapGet geCells hxe)) ((R.mem hM5).someK (mapGet geCells hxe))) rfl rfl ?_
    refine wl_q (r_fieldAddrE 1 fld49_1 (R.mem hM5) (Nat.lt_of_le_of_lt (Nat.zero_le _) ((R.mem hM5).below_len (mapGet geCells hxe))) rfl) rfl rfl ?_
    refine wl_q (r_ldEP (o := 1) _ agg47 (R.mem hM5) (mapGet geCells hxe) rfl rfl rfl) rfl rfl ?_
    refine wl_cal cal28 rfl rfl rfl ?_
    refine (ref10_buckets _ xe.2 (hes xe (List.mem_of_getElem? hxe))).mono ?_
    rintro _ w6 ⟨v6, rfl, ⟨kq, rfl, hkq, hM6⟩⟩
    refine ⟨_, rfl, ?_⟩
    have M6 : Mem _ _ [_, _, _] _ := hM5.call0 hM6
    refine wl_q (r_move (.int _ _) rfl) rfl rfl ?_
    refine wl_cal cal29 rfl rfl rfl ?_
    refine (ref10_Has _ (bucketI (cellP x y)) _ _ _ (bks xe.2) (hkq.rd M6 (nthMem (i := 2) rfl))).mono ?_
    rintro _ w7 ⟨v7, rfl, ⟨rfl, hb7⟩⟩
    refine ⟨_, rfl, ?_⟩
    have M7 := M6.callB hb7
    refine wl_q (r_not rfl) rfl rfl ?_
    refine wl_nil ?_
    refine thenN ?_
    refine W_condD rfl (fun h27 => ?_) (fun h27 => ?_)
    · skip
      refine W_exit ?_
      refine thenX ?_
      refine blkH ?_
      refine thenN ?_
      refine W_region ?_
      refine wl_q (r_move (.int _ _) rfl) rfl rfl ?_
      refine wl_q (r_add rfl rfl (by omega) (by omega)) rfl rfl ?_
      refine wl_q (r_assign (.int _ _) rfl) rfl rfl ?_
      refine wl_nil ?_
      refine roundN (i + 1, o, ks) (agC rfl (agC rfl agN)) (akC rfl (akC rfl (akC rfl akN))) ?_ ?_
      · exact ⟨⟨by omega, ⟨hasc, by omega, fun z => by rw [hme z, atK_step hxe]; exact ⟨.inr, fun h => h.elim (fun h => absurd h.1 h27) id⟩⟩, ho⟩, M7.keep [true, true, false]⟩
      · (show n - (i + 1) < n - i; omega)
    · skip
      refine W_skip ?_
      refine thenN ?_
      refine W_seq ?_
      refine W_region ?_
      refine wl_q (r_assign (.slice _ _ _) rfl) rfl rfl ?_
      have M8 := M7.dummy default
      refine wl_nil ?_
      refine thenN ?_
      refine W_seq ?_
      refine W_region ?_
      refine wl_q (r_assign (.int _ _) rfl) rfl rfl ?_
      refine wl_nil ?_
      refine thenN ?_
      refine W_meet (σ := Nat × Row) [0, 4, 5, 6, 7] (fun (i9, u) => [(8, .slice u.A u.n u.c), (9, .int .i64 (i9 : Int))]) (fun (i9, u) w' => (i9 ≤ o.n ∧ (∀ (q : Nat) (z : Int), q < i9 → ks[q]? = some z → z < xe.1) ∧ (∀ z, ks[i9]? = some z → ¬ z < xe.1) ∧ RowIs 42 1 u.A u.n u.c ((ks.take i9).map keyCell) u.e) ∧ Mem w [] [(some b1, bc [.int .i32 x, .int .i32 y] 24), o.e, kq.e, u.e] w') ?_ ?_
      · skip
        refine W_block ?_
        refine W_loop (σ := Nat × Row) [0, 4, 5, 6, 7] (fun (j, u) => [(8, .slice u.A u.n u.c), (9, .int .i64 (j : Int))]) (fun (j, u) w' => (j ≤ o.n ∧ (∀ (q : Nat) (z : Int), q < j → ks[q]? = some z → z < xe.1) ∧ RowIs 42 1 u.A u.n u.c ((ks.take j).map keyCell) u.e) ∧ Mem w [] [(some b1, bc [.int .i32 x, .int .i32 y] 24), o.e, kq.e, u.e] w') (fun (j, u) => o.n - j) (0, nilRow) (agC rfl (agC rfl agN)) (⟨⟨by omega, fun q z hq => by omega, RowIs.nil _ _ _⟩, M8⟩) ?_
        rintro ⟨j, u⟩ ρ10 w10 ⟨⟨hj, hal, hu⟩, hM10⟩
        have htl := List.length_take_le j ks
        have hun : (ks.take j).length = u.n := by simpa using hu.1
        refine W_seq ?_
        refine W_seq ?_
        refine W_draw [(0, 0), (1, 0), (2, 0), (3, 0), (4, 0), (5, 0), (6, 0), (7, 1), (8, 1), (9, 0), (10, 0), (11, 1), (12, 1), (13, 1), (14, 0), (15, 0)] mixed rfl (by kernel_rfl) (fun w11 hb11 hh11 => ?_)
        have M11 := hM10.drew hb11 hh11
        refine D_p rfl rfl rfl (fun _ => r_move (.int _ _) rfl) ?_
        refine D_p rfl rfl rfl (fun _ => r_move (.slice _ _ _) rfl) ?_
        refine D_p rfl rfl rfl (fun _ => r_lenS Tryd.underlying27 rfl) ?_
        refine D_p rfl rfl rfl (fun _ => r_bin (.bool (decide _)) rfl rfl rfl) ?_
        refine D_p rfl rfl rfl (fun _ => r_move (.bool (decide _)) rfl) ?_
        refine D_splitD 32 rfl (fun g32 => ?_) (fun g32 => ?_)
        · skip
          obtain ⟨z, hz⟩ := getSome (xs := ks) (k := j) hon (by omega)
          refine D_p rfl rfl rfl (fun _ => r_move (.slice _ _ _) rfl) ?_
          refine D_p rfl rfl rfl (fun _ => r_move (.int _ _) rfl) ?_
          refine D_r rfl rfl rfl (r_idxR (j) sl27 rfl rfl rfl ((ho.rd M11 (nthMem (i := 1) rfl)).below_len (mapGet keyCell hz)) ((ho.rd M11 (nthMem (i := 1) rfl)).someK (mapGet keyCell hz))) ?_
          refine D_r rfl rfl rfl (r_ldE0 (.int _ _) one42 (ho.rd M11 (nthMem (i := 1) rfl)) (mapGet keyCell hz) rfl) ?_
          refine D_p rfl rfl rfl (fun _ => r_move (.slice _ _ _) rfl) ?_
          refine D_p rfl rfl rfl (fun _ => r_move (.int _ _) rfl) ?_
          refine D_r rfl rfl rfl (r_idxR (i) sl22 rfl rfl rfl ((R.mem M11).below_len (mapGet geCells hxe)) ((R.mem M11).someK (mapGet geCells hxe))) ?_
          refine D_r rfl rfl rfl (r_fieldAddrE 0 fld49_0 (R.mem M11) (Nat.lt_of_le_of_lt (Nat.zero_le _) ((R.mem M11).below_len (mapGet geCells hxe))) rfl) ?_
          refine D_r rfl rfl rfl (r_ldE (o := 0) (.int _ _) one42 (R.mem M11) (mapGet geCells hxe) rfl rfl) ?_
          refine D_p rfl rfl rfl (fun _ => r_bin (.bool (decide _)) rfl rfl rfl) ?_
          refine D_p rfl rfl rfl (fun _ => r_pick true (.bool (decide _)) rfl rfl) ?_
          refine D_nil ?_
          refine thenN ?_
          refine W_condD rfl (fun h43 => ?_) (fun h43 => ?_)
          · skip
            refine W_skip ?_
            refine thenN ?_
            refine W_block ?_
            refine W_seq ?_
            refine W_region ?_
            refine wl_q (r_move (.slice _ _ _) rfl) rfl rfl ?_
            refine wl_q (r_move (.slice _ _ _) rfl) rfl rfl ?_
            refine wl_q (r_move (.int _ _) rfl) rfl rfl ?_
            refine wl_q (r_idxR (j) sl27 rfl rfl rfl ((ho.rd M11 (nthMem (i := 1) rfl)).below_len (mapGet keyCell hz)) ((ho.rd M11 (nthMem (i := 1) rfl)).someK (mapGet keyCell hz))) rfl rfl ?_
            refine wl_q (r_ldE0 (.int _ _) one42 (ho.rd M11 (nthMem (i := 1) rfl)) (mapGet keyCell hz) rfl) rfl rfl ?_
            refine wl_bslice [.int _ _] [keyCell z] rfl sl27 M11 rfl rfl rfl rfl (lens_of rfl) (by decide) (fun b12 w12 M12 => ?_)
            refine wl_append 3 [keyCell z] sl27 M12 rfl rfl rfl rfl rfl hu rfl (keyCell_ok _) (Cells.ofMem 4 M12 rfl) (by omega) (fun A13 c13 e13 w13 M13 hR13 => ?_)
            refine wl_q (r_assign (.slice _ _ _) rfl) rfl rfl ?_
            refine wl_nil ?_
            refine thenN ?_
            refine W_region ?_
            refine wl_q (r_move (.int _ _) rfl) rfl rfl ?_
            refine wl_q (r_add rfl rfl (by omega) (by omega)) rfl rfl ?_
            refine wl_q (r_assign (.int _ _) rfl) rfl rfl ?_
            refine wl_nil ?_
            refine blkN ?_
            refine roundN (j + 1, ⟨A13, u.n + 1, c13, e13⟩) (agC rfl (agC rfl agN)) (akC rfl (akC rfl (akC rfl (akC rfl (akC rfl akN))))) ?_ ?_
            · exact ⟨⟨by omega, allNext (p := fun _ z => z < xe.1) hal hz h43, by rw [take_snoc hz, List.map_append]; exact hR13⟩, M13.keep [true, true, true, true, false]⟩
            · (show o.n - (j + 1) < o.n - j; omega)
          · skip
            refine W_exit ?_
            refine thenX ?_
            refine roundX ?_
            refine blkH ?_
            refine meetN (j, u) (agC rfl (agC rfl agN)) (akC rfl (akC rfl (akC rfl (akC rfl (akC rfl akN))))) ?_
            exact ⟨⟨hj, hal, fun z2 hz2 => by rw [hz] at hz2; injection hz2 with hz2; subst hz2; exact h43, hu⟩, M11⟩
        · skip
          refine D_s rfl rfl rfl ?_
          refine D_s rfl rfl rfl ?_
          refine D_s1 rfl rfl rfl ?_
          refine D_s1 rfl rfl rfl ?_
          refine D_s rfl rfl rfl ?_
          refine D_s rfl rfl rfl ?_
          refine D_s1 rfl rfl rfl ?_
          refine D_s1 rfl rfl rfl ?_
          refine D_s1 rfl rfl rfl ?_
          refine D_s rfl rfl rfl ?_
          refine D_p rfl rfl rfl (fun _ => r_pick false (.bool false) rfl rfl) ?_
          refine D_nil ?_
          refine thenN ?_
          refine W_condF rfl ?_
          refine W_exit ?_
          refine thenX ?_
          refine roundX ?_
          refine blkH ?_
          refine meetN (j, u) (agC rfl (agC rfl agN)) (akC rfl (akC rfl (akC rfl (akC rfl (akC rfl akN))))) ?_
          exact ⟨⟨hj, hal, (fun z2 hz2 => by have := (List.getElem?_eq_some_iff.1 hz2).1; omega), hu⟩, M11⟩
      · skip
        rintro ⟨i9, u⟩ ρ9 w9 ⟨⟨hi9, hal, hst, hu⟩, hM9⟩
        have htl := List.length_take_le i9 ks
        have hun : (ks.take i9).length = u.n := by simpa using hu.1
        refine W_seq ?_
        refine W_region ?_
        refine wl_q (r_move (.slice _ _ _) rfl) rfl rfl ?_
        refine wl_q (r_move (.slice _ _ _) rfl) rfl rfl ?_
        refine wl_q (r_move (.int _ _) rfl) rfl rfl ?_
        refine wl_q (r_idxR (i) sl22 rfl rfl rfl ((R.mem hM9).below_len (mapGet geCells hxe)) ((R.mem hM9).someK (mapGet geCells hxe))) rfl rfl ?_
        refine wl_q (r_fieldAddrE 0 fld49_0 (R.mem hM9) (Nat.lt_of_le_of_lt (Nat.zero_le _) ((R.mem hM9).below_len (mapGet geCells hxe))) rfl) rfl rfl ?_
        refine wl_q (r_ldE (o := 0) (.int _ _) one42 (R.mem hM9) (mapGet geCells hxe) rfl rfl) rfl rfl ?_
        refine wl_bslice [.int _ _] [keyCell xe.1] rfl sl27 hM9 rfl rfl rfl rfl (lens_of rfl) (by decide) (fun b14 w14 M14 => ?_)
        refine wl_append 3 [keyCell xe.1] sl27 M14 rfl rfl rfl rfl rfl hu rfl (keyCell_ok _) (Cells.ofMem 4 M14 rfl) (by omega) (fun A15 c15 e15 w15 M15 hR15 => ?_)
        refine wl_q (r_assign (.slice _ _ _) rfl) rfl rfl ?_
        refine wl_nil ?_
        refine thenN ?_
        refine W_seq ?_
        refine W_meet (σ := Bool) [0, 4, 5, 6, 7, 8, 9] (fun t => [(76, .bool t)]) (fun t w' => (t = true ↔ ks[i9]? = some xe.1) ∧ Mem w [] [(some b1, bc [.int .i32 x, .int .i32 y] 24), o.e, kq.e, e15] w') ?_ ?_
        · skip
          refine W_draw [(0, 0), (1, 0), (2, 0), (3, 0), (4, 0), (5, 0), (6, 0), (7, 1), (8, 1), (9, 0), (10, 0), (11, 1), (12, 1), (13, 1), (14, 0), (15, 0)] mixed rfl (by kernel_rfl) (fun w17 hb17 hh17 => ?_)
          have M17 := M15.drew hb17 hh17
          refine D_p rfl rfl rfl (fun _ => r_move (.int _ _) rfl) ?_
          refine D_p rfl rfl rfl (fun _ => r_move (.slice _ _ _) rfl) ?_
          refine D_p rfl rfl rfl (fun _ => r_lenS Tryd.underlying27 rfl) ?_
          refine D_p rfl rfl rfl (fun _ => r_bin (.bool (decide _)) rfl rfl rfl) ?_
          refine D_p rfl rfl rfl (fun _ => r_move (.bool (decide _)) rfl) ?_
          refine D_splitD 65 rfl (fun g65 => ?_) (fun g65 => ?_)
          · skip
            obtain ⟨z, hz⟩ := getSome (xs := ks) (k := i9) hon (by omega)
            refine D_p rfl rfl rfl (fun _ => r_move (.slice _ _ _) rfl) ?_
            refine D_p rfl rfl rfl (fun _ => r_move (.int _ _) rfl) ?_
            refine D_r rfl rfl rfl (r_idxR (i9) sl27 rfl rfl rfl ((ho.rd M17 (nthMem (i := 1) rfl)).below_len (mapGet keyCell hz)) ((ho.rd M17 (nthMem (i := 1) rfl)).someK (mapGet keyCell hz))) ?_
            refine D_r rfl rfl rfl (r_ldE0 (.int _ _) one42 (ho.rd M17 (nthMem (i := 1) rfl)) (mapGet keyCell hz) rfl) ?_
            refine D_p rfl rfl rfl (fun _ => r_move (.slice _ _ _) rfl) ?_
            refine D_p rfl rfl rfl (fun _ => r_move (.int _ _) rfl) ?_
            refine D_r rfl rfl rfl (r_idxR (i) sl22 rfl rfl rfl ((R.mem M17).below_len (mapGet geCells hxe)) ((R.mem M17).someK (mapGet geCells hxe))) ?_
            refine D_r rfl rfl rfl (r_fieldAddrE 0 fld49_0 (R.mem M17) (Nat.lt_of_le_of_lt (Nat.zero_le _) ((R.mem M17).below_len (mapGet geCells hxe))) rfl) ?_
            refine D_r rfl rfl rfl (r_ldE (o := 0) (.int _ _) one42 (R.mem M17) (mapGet geCells hxe) rfl rfl) ?_
            refine D_p rfl rfl rfl (fun _ => r_bin (.bool (decide _)) rfl rfl rfl) ?_
            refine D_p rfl rfl rfl (fun _ => r_pick true (.bool (decide _)) rfl rfl) ?_
            refine D_nil ?_
            refine meetN (decide (z = xe.1)) (agC rfl agN) (akC rfl (akC rfl (akC rfl (akC rfl (akC rfl (akC rfl (akC rfl akN))))))) ?_
            exact ⟨by rw [decide_eq_true_iff, hz]; exact ⟨fun h => by rw [h], fun h => Option.some.inj h⟩, M17.keep [true, true, true, true, false]⟩
          · skip
            refine D_s rfl rfl rfl ?_
            refine D_s rfl rfl rfl ?_
            refine D_s1 rfl rfl rfl ?_
            refine D_s1 rfl rfl rfl ?_
            refine D_s rfl rfl rfl ?_
            refine D_s rfl rfl rfl ?_
            refine D_s1 rfl rfl rfl ?_
            refine D_s1 rfl rfl rfl ?_
            refine D_s1 rfl rfl rfl ?_
            refine D_s rfl rfl rfl ?_
            refine D_p rfl rfl rfl (fun _ => r_pick false (.bool false) rfl rfl) ?_
            refine D_nil ?_
            refine meetN false (agC rfl agN) (akC rfl (akC rfl (akC rfl (akC rfl (akC rfl (akC rfl (akC rfl akN))))))) ?_
            exact ⟨⟨(fun h => by cases h), (fun h => by have := (List.getElem?_eq_some_iff.1 h).1; omega)⟩, M17.keep [true, true, true, true, false]⟩
        · skip
          rintro t ρ16 w16 ⟨ht, hM16⟩
          refine W_meetC (σ := Nat) [0, 4, 5, 6, 7, 8] (fun i2 => [(9, .int .i64 (i2 : Int))]) (fun i2 w' => (i2 = (if ks[i9]? = some xe.1 then i9 + 1 else i9) ∧ i2 ≤ o.n) ∧ Mem w [] [(some b1, bc [.int .i32 x, .int .i32 y] 24), o.e, kq.e, e15] w') ?_ ?_
          · skip
            refine W_cond _ rfl (fun h76 => ?_) (fun h76 => ?_)
            · skip
              refine W_region ?_
              refine wl_q (r_move (.int _ _) rfl) rfl rfl ?_
              refine wl_q (r_add rfl rfl (by omega) (by omega)) rfl rfl ?_
              refine wl_q (r_assign (.int _ _) rfl) rfl rfl ?_
              refine wl_nil ?_
              refine meetN (i9 + 1) (agC rfl agN) (akC rfl (akC rfl (akC rfl (akC rfl (akC rfl (akC rfl akN)))))) ?_
              exact ⟨⟨by rw [if_pos (ht.1 h76)], by have := (List.getElem?_eq_some_iff.1 (ht.1 h76)).1; omega⟩, hM16⟩
            · skip
              refine W_skip ?_
              refine meetN i9 (agC rfl agN) (akC rfl (akC rfl (akC rfl (akC rfl (akC rfl (akC rfl akN)))))) ?_
              exact ⟨⟨by rw [if_neg (fun h => by rw [ht.2 h] at h76; cases h76)], hi9⟩, hM16⟩
          · skip
            rintro i2 ρ18 w18 ⟨⟨hi2, hi2n⟩, hM18⟩
            refine W_region ?_
            refine wl_q (r_move (.slice _ _ _) rfl) rfl rfl ?_
            refine wl_q (r_move (.slice _ _ _) rfl) rfl rfl ?_
            refine wl_q (r_move (.int _ _) rfl) rfl rfl ?_
            refine wl_q (r_slice ((i2 : Int)) ((o.n : Int)) sl27 rfl ⟨_, rfl⟩ rfl (by omega) (by omega) (by omega)) rfl rfl ?_
            refine wl_appendR 3 (((ks.map keyCell).drop i2).take (o.n - i2)) sl27 hM18 rfl rfl rfl rfl rfl hR15 ((ho.rd hM18 (nthMem (i := 1) rfl)).sub i2 o.n (by omega) (by omega) ho.slice) (fun y hy => by obtain ⟨k, _, rfl⟩ := List.mem_map.1 (List.mem_of_mem_drop (List.mem_of_mem_take hy)); simp [keyCell, Go.Bil.one]) (by omega) (fun A19 c19 e19 w19 M19 hR19 hA19 => ?_)
            refine wl_q (r_assign (.slice _ _ _) rfl) rfl rfl ?_
            refine wl_nil ?_
            refine blkN ?_
            refine thenN ?_
            refine W_region ?_
            refine wl_q (r_move (.int _ _) rfl) rfl rfl ?_
            refine wl_q (r_add rfl rfl (by omega) (by omega)) rfl rfl ?_
            refine wl_q (r_assign (.int _ _) rfl) rfl rfl ?_
            refine wl_nil ?_
            have hpp := hR19
            have htk : List.take (o.n - i2) (List.drop i2 (ks.map keyCell)) = List.drop i2 (ks.map keyCell) := List.take_of_length_le (by rw [List.length_drop, List.length_map]; omega)
            rw [show ((ks.take i9).map keyCell ++ [keyCell xe.1]) ++ ((ks.map keyCell).drop i2).take (o.n - i2) = (putI ks xe.1 i9).map keyCell by unfold putI; rw [← hi2, htk]; simp] at hpp
            have hput := putI_asc hasc (by omega) hal hst
            refine roundN (i + 1, ⟨A19, u.n + 1 + (o.n - i2), c19, e19⟩, putI ks xe.1 i9) (agC rfl (agC rfl agN)) (akC rfl (akC rfl (akC rfl akN))) ?_ ?_
            · exact ⟨⟨by omega, ⟨hput.1, by have := putI_len ks xe.1 i9; omega, fun z => by rw [hput.2 z, hme z, atK_step hxe]; exact ⟨fun h => h.elim (fun e => .inl ⟨Decidable.not_not.1 h27, e⟩) .inr, fun h => h.elim (fun e => .inl e.2) .inr⟩⟩, hpp⟩, M19.keep [true, false, false, true]⟩
            · (show n - (i + 1) < n - i; omega)
  · skip
    have hin : i = n := by omega
    refine W_exit ?_
    refine thenX ?_
    refine roundX ?_
    refine blkH ?_
    refine thenN ?_
    refine W_seq ?_
    refine W_region ?_
    refine wl_q (r_move (.slice _ _ _) rfl) rfl rfl ?_
    refine wl_q (r_assign (.slice _ _ _) rfl) rfl rfl ?_
    refine wl_nil ?_
    refine thenN ?_
    refine W_ret ?_
    skip
    refine fin1 (.slice _ _ _) rfl ?_
    exact ⟨o, ks, rfl, hasc, fun z => by rw [hme z, hin, ← hlen]; exact atK_all, ho, hM5.keep [false, true]⟩

end Go.Proofs.YtjbhobahebebkaaDoor

/- Walks of Go functions over the frame of this claim: what each computes, for every input of the stated types (G10i). -/
set_option linter.unusedVariables false
set_option linter.unusedSimpArgs false
set_option linter.unnecessarySimpa false
namespace Go.Proofs.YtjbhobahebebkaaDoor
open Go.Bil
open Go.RowKit (Below)
open Go.Proofs

set_option maxRecDepth 100000 in
theorem zeroGr : zeroL Tryd.prog 30 = some (gcells (List.replicate 1024 nilRow) 0) := by kernel_rfl

set_option maxHeartbeats 4000000 in
theorem same_pairs (w : World) (A : Option Addr) (n c : Nat) (xs : List (Int × Int)) (R : Rd w 2 A n (xs.map pairCells)) (B : Option Addr) (m c' : Nat) (ys : List (Int × Int)) (R' : Rd w 2 B m (ys.map pairCells)) :
    Calls Tryd.prog 12 #[.slice A n c, .slice B m c'] w (fun ex w' => ∃ v, ex = .returned v ∧ (fun v w' => v = .bool (decide (xs = ys)) ∧ Below w.heap.size w w') v w') := by
  have hlen : xs.length = n := by simpa using R.len
  have hbd := R.bound
  have hlen' : ys.length = m := by simpa using R'.len
  have hbd' := R'.bound
  refine calls_of_W #[.tmp 4] 26 Tryd.func12 rfl Tryd.results12 Tryd.ntmps12 rfl ?_
  have M0 := Mem.refl w
  refine W_seq ?_
  refine W_region ?_
  refine wl_q (r_assign (.bool false) rfl) rfl rfl ?_
  refine wl_nil ?_
  refine thenN ?_
  refine W_seq ?_
  refine W_seq ?_
  refine W_region ?_
  refine wl_q (r_move (.slice _ _ _) rfl) rfl rfl ?_
  refine wl_q (r_lenS Tryd.underlying35 rfl) rfl rfl ?_
  refine wl_q (r_move (.slice _ _ _) rfl) rfl rfl ?_
  refine wl_q (r_lenS Tryd.underlying35 rfl) rfl rfl ?_
  refine wl_q (r_bin (.bool (decide _)) rfl rfl rfl) rfl rfl ?_
  refine wl_nil ?_
  refine thenN ?_
  refine W_condD rfl (fun h10 => ?_) (fun h10 => ?_)
  · skip
    refine W_seq ?_
    refine W_region ?_
    refine wl_q (r_assign (.bool false) rfl) rfl rfl ?_
    refine wl_nil ?_
    refine thenN ?_
    refine W_ret ?_
    refine thenR ?_
    skip
    refine fin1 (.bool false) rfl ?_
    exact ⟨bF (fun e => h10 (by rw [← hlen, ← hlen', e])), M0.below⟩
  · skip
    have hnm : n = m := by omega
    refine W_skip ?_
    refine thenN ?_
    refine W_seq ?_
    refine W_seq ?_
    refine W_region ?_
    refine wl_q (r_assign (.int _ _) rfl) rfl rfl ?_
    refine wl_nil ?_
    refine thenN ?_
    refine W_block ?_
    refine W_loop (σ := Nat) [0, 1] (fun k => [(5, .int .i64 (k : Int))]) (fun k w' => (k ≤ n ∧ ∀ (j : Nat) (x : Int × Int), j < k → xs[j]? = some x → ys[j]? = some x) ∧ Mem w [] [] w') (fun k => n - k) 0 (agC rfl agN) (⟨⟨by omega, fun j c hj => by omega⟩, M0⟩) ?_
    rintro k ρ1 w1 ⟨⟨hk, hne⟩, hM1⟩
    refine W_seq ?_
    refine W_seq ?_
    refine W_region ?_
    refine wl_q (r_move (.int _ _) rfl) rfl rfl ?_
    refine wl_q (r_move (.slice _ _ _) rfl) rfl rfl ?_
    refine wl_q (r_lenS Tryd.underlying35 rfl) rfl rfl ?_
    refine wl_q (r_bin (.bool (decide _)) rfl rfl rfl) rfl rfl ?_
    refine wl_nil ?_
    refine thenN ?_
    refine W_condD rfl (fun h14 => ?_) (fun h14 => ?_)
    · skip
      obtain ⟨xb, hxb⟩ := getSome (k := k) hlen (by omega)
      obtain ⟨yb, hyb⟩ := getSome (k := k) hlen' (by omega)
      refine W_skip ?_
      refine thenN ?_
      refine W_seq ?_
      refine W_block ?_
      refine W_seq ?_
      refine W_draw [(0, 0), (1, 0), (2, 1), (3, 1), (4, 0), (5, 0), (6, 1), (7, 1), (8, 0)] mixed rfl (by kernel_rfl) (fun w2 hb2 hh2 => ?_)
      have M2 := hM1.drew hb2 hh2
      refine D_p rfl rfl rfl (fun _ => r_move (.slice _ _ _) rfl) ?_
      refine D_p rfl rfl rfl (fun _ => r_move (.int _ _) rfl) ?_
      refine D_r rfl rfl rfl (r_idxR (k) sl35 rfl rfl rfl ((R.mem M2).below_len (mapGet pairCells hxb)) ((R.mem M2).someK (mapGet pairCells hxb))) ?_
      refine D_r rfl rfl rfl (r_ldEA _ agg44 (R.mem M2) (mapGet pairCells hxb) rfl) ?_
      refine D_p rfl rfl rfl (fun _ => r_move (.slice _ _ _) rfl) ?_
      refine D_p rfl rfl rfl (fun _ => r_move (.int _ _) rfl) ?_
      refine D_r rfl rfl rfl (r_idxR (k) sl35 rfl rfl rfl ((R'.mem M2).below_len (mapGet pairCells hyb)) ((R'.mem M2).someK (mapGet pairCells hyb))) ?_
      refine D_r rfl rfl rfl (r_ldEA _ agg44 (R'.mem M2) (mapGet pairCells hyb) rfl) ?_
      refine D_p rfl rfl rfl (fun _ => r_neA (eqPr xb yb) rfl rfl) ?_
      refine D_nil ?_
      refine thenN ?_
      refine W_condD rfl (fun h25 => ?_) (fun h25 => ?_)
      · skip
        refine W_seq ?_
        refine W_region ?_
        refine wl_q (r_assign (.bool false) rfl) rfl rfl ?_
        refine wl_nil ?_
        refine thenN ?_
        refine W_ret ?_
        refine blkR ?_
        refine thenR ?_
        refine roundR ?_
        refine blkR ?_
        refine thenR ?_
        skip
        refine fin1 (.bool false) rfl ?_
        exact ⟨bF (fun e => h25 (by rw [e] at hxb; rw [hxb] at hyb; injection hyb)), M2.below⟩
      · skip
        refine W_skip ?_
        refine blkN ?_
        refine thenN ?_
        refine W_region ?_
        refine wl_q (r_move (.int _ _) rfl) rfl rfl ?_
        refine wl_q (r_add rfl rfl (by omega) (by omega)) rfl rfl ?_
        refine wl_q (r_assign (.int _ _) rfl) rfl rfl ?_
        refine wl_nil ?_
        refine roundN (k + 1) (agC rfl agN) (akC rfl (akC rfl akN)) ?_ ?_
        · exact ⟨⟨by omega, allNext (p := fun j x => ys[j]? = some x) hne hxb (by rw [hyb, Decidable.not_not.1 h25])⟩, M2⟩
        · omega
    · skip
      refine W_exit ?_
      refine thenX ?_
      refine roundX ?_
      refine blkH ?_
      refine thenN ?_
      refine W_seq ?_
      refine W_region ?_
      refine wl_q (r_assign (.bool true) rfl) rfl rfl ?_
      refine wl_nil ?_
      refine thenN ?_
      refine W_ret ?_
      skip
      refine fin1 (.bool true) rfl ?_
      exact ⟨bT (listSame hlen hlen' hnm (fun j x hj hx => hne j x (by omega) hx)), hM1.below⟩

set_option maxHeartbeats 4000000 in
theorem same_keys (w : World) (A : Option Addr) (n c : Nat) (xs : List Int) (R : Rd w 1 A n (xs.map keyCell)) (B : Option Addr) (m c' : Nat) (ys : List Int) (R' : Rd w 1 B m (ys.map keyCell)) :
    Calls Tryd.prog 15 #[.slice A n c, .slice B m c'] w (fun ex w' => ∃ v, ex = .returned v ∧ (fun v w' => v = .bool (decide (xs = ys)) ∧ Below w.heap.size w w') v w') := by
  have hlen : xs.length = n := by simpa using R.len
  have hbd := R.bound
  have hlen' : ys.length = m := by simpa using R'.len
  have hbd' := R'.bound
  refine calls_of_W #[.tmp 4] 26 Tryd.func15 rfl Tryd.results15 Tryd.ntmps15 rfl ?_
  have M0 := Mem.refl w
  refine W_seq ?_
  refine W_region ?_
  refine wl_q (r_assign (.bool false) rfl) rfl rfl ?_
  refine wl_nil ?_
  refine thenN ?_
  refine W_seq ?_
  refine W_seq ?_
  refine W_region ?_
  refine wl_q (r_move (.slice _ _ _) rfl) rfl rfl ?_
  refine wl_q (r_lenS Tryd.underlying27 rfl) rfl rfl ?_
  refine wl_q (r_move (.slice _ _ _) rfl) rfl rfl ?_
  refine wl_q (r_lenS Tryd.underlying27 rfl) rfl rfl ?_
  refine wl_q (r_bin (.bool (decide _)) rfl rfl rfl) rfl rfl ?_
  refine wl_nil ?_
  refine thenN ?_
  refine W_condD rfl (fun h10 => ?_) (fun h10 => ?_)
  · skip
    refine W_seq ?_
    refine W_region ?_
    refine wl_q (r_assign (.bool false) rfl) rfl rfl ?_
    refine wl_nil ?_
    refine thenN ?_
    refine W_ret ?_
    refine thenR ?_
    skip
    refine fin1 (.bool false) rfl ?_
    exact ⟨bF (fun e => h10 (by rw [← hlen, ← hlen', e])), M0.below⟩
  · skip
    have hnm : n = m := by omega
    refine W_skip ?_
    refine thenN ?_
    refine W_seq ?_
    refine W_seq ?_
    refine W_region ?_
    refine wl_q (r_assign (.int _ _) rfl) rfl rfl ?_
    refine wl_nil ?_
    refine thenN ?_
    refine W_block ?_
    refine W_loop (σ := Nat) [0, 1] (fun k => [(5, .int .i64 (k : Int))]) (fun k w' => (k ≤ n ∧ ∀ (j : Nat) (x : Int), j < k → xs[j]? = some x → ys[j]? = some x) ∧ Mem w [] [] w') (fun k => n - k) 0 (agC rfl agN) (⟨⟨by omega, fun j c hj => by omega⟩, M0⟩) ?_
    rintro k ρ1 w1 ⟨⟨hk, hne⟩, hM1⟩
    refine W_seq ?_
    refine W_seq ?_
    refine W_region ?_
    refine wl_q (r_move (.int _ _) rfl) rfl rfl ?_
    refine wl_q (r_move (.slice _ _ _) rfl) rfl rfl ?_
    refine wl_q (r_lenS Tryd.underlying27 rfl) rfl rfl ?_
    refine wl_q (r_bin (.bool (decide _)) rfl rfl rfl) rfl rfl ?_
    refine wl_nil ?_
    refine thenN ?_
    refine W_condD rfl (fun h14 => ?_) (fun h14 => ?_)
    · skip
      obtain ⟨xb, hxb⟩ := getSome (k := k) hlen (by omega)
      obtain ⟨yb, hyb⟩ := getSome (k := k) hlen' (by omega)
      refine W_skip ?_
      refine thenN ?_
      refine W_seq ?_
      refine W_block ?_
      refine W_seq ?_
      refine W_draw [(0, 0), (1, 0), (2, 1), (3, 1), (4, 0), (5, 0), (6, 1), (7, 1), (8, 0)] mixed rfl (by kernel_rfl) (fun w2 hb2 hh2 => ?_)
      have M2 := hM1.drew hb2 hh2
      refine D_p rfl rfl rfl (fun _ => r_move (.slice _ _ _) rfl) ?_
      refine D_p rfl rfl rfl (fun _ => r_move (.int _ _) rfl) ?_
      refine D_r rfl rfl rfl (r_idxR (k) sl27 rfl rfl rfl ((R.mem M2).below_len (mapGet keyCell hxb)) ((R.mem M2).someK (mapGet keyCell hxb))) ?_
      refine D_r rfl rfl rfl (r_ldE0 (.int _ _) one42 (R.mem M2) (mapGet keyCell hxb) rfl) ?_
      refine D_p rfl rfl rfl (fun _ => r_move (.slice _ _ _) rfl) ?_
      refine D_p rfl rfl rfl (fun _ => r_move (.int _ _) rfl) ?_
      refine D_r rfl rfl rfl (r_idxR (k) sl27 rfl rfl rfl ((R'.mem M2).below_len (mapGet keyCell hyb)) ((R'.mem M2).someK (mapGet keyCell hyb))) ?_
      refine D_r rfl rfl rfl (r_ldE0 (.int _ _) one42 (R'.mem M2) (mapGet keyCell hyb) rfl) ?_
      refine D_p rfl rfl rfl (fun _ => r_bin (.bool (decide _)) rfl rfl rfl) ?_
      refine D_nil ?_
      refine thenN ?_
      refine W_condD rfl (fun h25 => ?_) (fun h25 => ?_)
      · skip
        refine W_seq ?_
        refine W_region ?_
        refine wl_q (r_assign (.bool false) rfl) rfl rfl ?_
        refine wl_nil ?_
        refine thenN ?_
        refine W_ret ?_
        refine blkR ?_
        refine thenR ?_
        refine roundR ?_
        refine blkR ?_
        refine thenR ?_
        skip
        refine fin1 (.bool false) rfl ?_
        exact ⟨bF (fun e => h25 (by rw [e] at hxb; rw [hxb] at hyb; injection hyb)), M2.below⟩
      · skip
        refine W_skip ?_
        refine blkN ?_
        refine thenN ?_
        refine W_region ?_
        refine wl_q (r_move (.int _ _) rfl) rfl rfl ?_
        refine wl_q (r_add rfl rfl (by omega) (by omega)) rfl rfl ?_
        refine wl_q (r_assign (.int _ _) rfl) rfl rfl ?_
        refine wl_nil ?_
        refine roundN (k + 1) (agC rfl agN) (akC rfl (akC rfl akN)) ?_ ?_
        · exact ⟨⟨by omega, allNext (p := fun j x => ys[j]? = some x) hne hxb (by rw [hyb, Decidable.not_not.1 h25])⟩, M2⟩
        · omega
    · skip
      refine W_exit ?_
      refine thenX ?_
      refine roundX ?_
      refine blkH ?_
      refine thenN ?_
      refine W_seq ?_
      refine W_region ?_
      refine wl_q (r_assign (.bool true) rfl) rfl rfl ?_
      refine wl_nil ?_
      refine thenN ?_
      refine W_ret ?_
      skip
      refine fin1 (.bool true) rfl ?_
      exact ⟨bT (listSame hlen hlen' hnm (fun j x hj hx => hne j x (by omega) hx)), hM1.below⟩

end Go.Proofs.YtjbhobahebebkaaDoor

/- Walks of Go functions over the frame of this claim: what each computes, for every input of the stated types (G10j). -/
set_option linter.unusedVariables false
set_option linter.unusedSimpArgs false
set_option linter.unnecessarySimpa false
namespace Go.Proofs.YtjbhobahebebkaaDoor
open Go.Bil
open Go.RowKit (Below)
open Go.Proofs

theorem aw10_b1 : bks (⟨0, 0, 5, 5⟩ : Bx) = [0] := by decide +kernel
theorem aw10_b2 : bks (⟨7, 7, 4194304, 8⟩ : Bx) = [0, 93] := by decide +kernel
theorem aw10_b3 : bks (⟨4194304, 0, 4194305, 3⟩ : Bx) = [93] := by decide +kernel
theorem aw10_c {z : Int × Int} : candP ([(9, ⟨0, 0, 5, 5⟩), (3, ⟨7, 7, 4194304, 8⟩), (5, ⟨4194304, 0, 4194305, 3⟩)] : List GE) z ↔ z ∈ [(3, 5), (3, 9)] := by
  unfold candP
  simp only [List.mem_cons, List.not_mem_nil, or_false]
  constructor
  · rintro ⟨hlt, x, hx, y, hy, e1, e2, n, hn, hm⟩
    obtain ⟨z1, z2⟩ := z
    simp only at hlt e1 e2
    rcases hx with rfl | rfl | rfl <;> rcases hy with rfl | rfl | rfl <;> simp only at e1 e2 hn hm <;> subst e1 e2 <;> simp_all [aw10_b1, aw10_b2, aw10_b3]
  · rintro (rfl | rfl)
    · exact ⟨by decide, _, .inr (.inl rfl), _, .inr (.inr rfl), rfl, rfl, 93, by simp [aw10_b2], by simp [aw10_b3]⟩
    · exact ⟨by decide, _, .inr (.inl rfl), _, .inl rfl, rfl, rfl, 0, by simp [aw10_b2], by simp [aw10_b1]⟩
theorem aw10_n : bucketI (cellP 100 0) = 0 := by decide +kernel
theorem aw10_k {z : Int} : z ∈ fillG ([(9, ⟨0, 0, 5, 5⟩), (3, ⟨7, 7, 4194304, 8⟩), (5, ⟨4194304, 0, 4194305, 3⟩)] : List GE) noG (bucketI (cellP 100 0)) ↔ z ∈ [3, 9] := by
  rw [aw10_n, mem_fill]
  simp only [List.mem_cons, List.not_mem_nil, or_false]
  constructor
  · rintro ⟨x, rfl | rfl | rfl, rfl, hn⟩ <;> simp_all [aw10_b1, aw10_b2, aw10_b3]
  · rintro (rfl | rfl)
    · exact ⟨_, .inr (.inl rfl), rfl, by simp [aw10_b2]⟩
    · exact ⟨_, .inl rfl, rfl, by simp [aw10_b1]⟩

end Go.Proofs.YtjbhobahebebkaaDoor

/- Walks of Go functions over the frame of this claim: what each computes, for every input of the stated types (G10k). -/
set_option linter.unusedVariables false
set_option linter.unusedSimpArgs false
set_option linter.unnecessarySimpa false
namespace Go.Proofs.YtjbhobahebebkaaDoor
open Go.Bil
open Go.RowKit (Below)
open Go.Proofs

set_option maxHeartbeats 16000000 in
theorem aw10 (w : World) (F : Rd w 2 (some ⟨0, 0, none⟩) 1 [[.int .u32 73856093, .int .u32 19349663]]) :
    Calls Tryd.prog 8 #[] w (fun ex w' => ∃ v, ex = .returned v ∧ (fun v w' => v = .bool true ∧ Below w.heap.size w w') v w') := by
  have hln1 : ∀ j, j < 1024 → (noG j).length ≤ 0 := fun j _ => by simp [noG]
  have hadd : ∀ (g : Nat → List Int) (m : Nat) (k : Int) (bs : List Nat), (∀ j, j < 1024 → (g j).length ≤ m) → ∀ j, j < 1024 → (addG g k bs j).length ≤ m + 1 := fun g m k bs h j hj => by have := h j hj; unfold addG; split <;> simp <;> omega
  have hln2 := hadd _ _ 9 (bks (⟨0, 0, 5, 5⟩ : Bx)) hln1
  have hln3 := hadd _ _ 3 (bks (⟨7, 7, 4194304, 8⟩ : Bx)) hln2
  refine calls_of_W #[.tmp 0] 35 Tryd.func8 rfl Tryd.results8 Tryd.ntmps8 rfl ?_
  have M0 := Mem.refl w
  refine W_seq ?_
  refine W_region ?_
  refine wl_q (r_assign (.bool false) rfl) rfl rfl ?_
  refine wl_nil ?_
  refine thenN ?_
  refine W_seq ?_
  refine W_region ?_
  refine wl_alloc zeroGr M0 rfl rfl (fun b1 w1 M1 => ?_)
  have M2 := Mem.gridNew (L := []) M1
  refine wl_nil ?_
  refine thenN ?_
  refine W_seq ?_
  refine W_region ?_
  refine wl_q (r_assign (.pointer _) rfl) rfl rfl ?_
  refine wl_nil ?_
  refine thenN ?_
  refine W_seq ?_
  refine W_region ?_
  refine wl_q (r_build [(2, .int _ _), (3, .int _ _)] _ struct56 rfl rfl) rfl rfl ?_
  refine wl_cal cal22 rfl rfl rfl ?_
  refine (grid_Insert _ (F.mem M2) b1 (List.replicate 1024 nilRow) 0 noG (grid_noG 42) (by omega) (fun j hj => by have := hln1 j hj; omega) 9 (⟨0, 0, 5, 5⟩ : Bx) (by exact ⟨by decide, by decide, by decide, by decide⟩) (Mem.ownTail (L := []) M2) (Mem.awayTail (L := []) M2 F)).mono ?_
  rintro _ w3 ⟨v3, rfl, ⟨rfl, rs1, hG1, hM3⟩⟩
  refine ⟨_, rfl, ?_⟩
  have M3 : Mem _ _ ([] ++ _) _ := Mem.tail (L := []) M2 hM3
  refine wl_nil ?_
  refine thenN ?_
  refine W_seq ?_
  refine W_region ?_
  refine wl_q (r_build [(0, .int _ _), (1, .int _ _), (2, .int _ _), (3, .int _ _)] _ struct56 rfl rfl) rfl rfl ?_
  refine wl_cal cal22 rfl rfl rfl ?_
  refine (grid_Insert _ (F.mem M3) b1 rs1 (0 + 1) (addG noG 9 (bks (⟨0, 0, 5, 5⟩ : Bx))) hG1 (by omega) (fun j hj => by have := hln2 j hj; omega) 3 (⟨7, 7, 4194304, 8⟩ : Bx) (by exact ⟨by decide, by decide, by decide, by decide⟩) (Mem.ownTail (L := []) M3) (Mem.awayTail (L := []) M3 F)).mono ?_
  rintro _ w4 ⟨v4, rfl, ⟨rfl, rs2, hG2, hM4⟩⟩
  refine ⟨_, rfl, ?_⟩
  have M4 : Mem _ _ ([] ++ _) _ := Mem.tail (L := []) M3 hM4
  refine wl_nil ?_
  refine thenN ?_
  refine W_seq ?_
  refine W_region ?_
  refine wl_q (r_build [(0, .int _ _), (2, .int _ _), (3, .int _ _)] _ struct56 rfl rfl) rfl rfl ?_
  refine wl_cal cal22 rfl rfl rfl ?_
  refine (grid_Insert _ (F.mem M4) b1 rs2 ((0 + 1) + 1) (addG (addG noG 9 (bks (⟨0, 0, 5, 5⟩ : Bx))) 3 (bks (⟨7, 7, 4194304, 8⟩ : Bx))) hG2 (by omega) (fun j hj => by have := hln3 j hj; omega) 5 (⟨4194304, 0, 4194305, 3⟩ : Bx) (by exact ⟨by decide, by decide, by decide, by decide⟩) (Mem.ownTail (L := []) M4) (Mem.awayTail (L := []) M4 F)).mono ?_
  rintro _ w5 ⟨v5, rfl, ⟨rfl, rs3, hG3, hM5⟩⟩
  refine ⟨_, rfl, ?_⟩
  have M5 : Mem _ _ ([] ++ _) _ := Mem.tail (L := []) M4 hM5
  refine wl_nil ?_
  refine thenN ?_
  refine W_seq ?_
  refine W_region ?_
  refine wl_cal cal13 rfl rfl rfl ?_
  refine (grid_Candidates _ b1 rs3 (((0 + 1) + 1) + 1) (fillG ([(9, ⟨0, 0, 5, 5⟩), (3, ⟨7, 7, 4194304, 8⟩), (5, ⟨4194304, 0, 4194305, 3⟩)] : List GE) noG) (show GridRows 42 rs3 (fillG ([(9, ⟨0, 0, 5, 5⟩), (3, ⟨7, 7, 4194304, 8⟩), (5, ⟨4194304, 0, 4194305, 3⟩)] : List GE) noG) from hG3).len (Mem.gridRd (show Mem _ _ ([] ++ _) _ from M5) (show GridRows 42 rs3 (fillG ([(9, ⟨0, 0, 5, 5⟩), (3, ⟨7, 7, 4194304, 8⟩), (5, ⟨4194304, 0, 4194305, 3⟩)] : List GE) noG) from hG3).len) (fun j r hr => Mem.rowRd (show Mem _ _ ([] ++ _) _ from M5) (show GridRows 42 rs3 (fillG ([(9, ⟨0, 0, 5, 5⟩), (3, ⟨7, 7, 4194304, 8⟩), (5, ⟨4194304, 0, 4194305, 3⟩)] : List GE) noG) from hG3) j r hr) (([(9, ⟨0, 0, 5, 5⟩), (3, ⟨7, 7, 4194304, 8⟩), (5, ⟨4194304, 0, 4194305, 3⟩)] : List GE).map (·.1)) (keys_fill ([(9, ⟨0, 0, 5, 5⟩), (3, ⟨7, 7, 4194304, 8⟩), (5, ⟨4194304, 0, 4194305, 3⟩)] : List GE)) (by first | (simp; done) | (simp; omega))).mono ?_
  rintro _ w6 ⟨v6, rfl, ⟨r, psr, hascr, hpsr, rfl, hr, hM6⟩⟩
  refine ⟨_, rfl, ?_⟩
  have M6 : Mem _ _ ([_] ++ _) _ := Mem.front (L := []) (M5.call0 hM6)
  have hcdr : ∀ z, z ∈ psr ↔ candP ([(9, ⟨0, 0, 5, 5⟩), (3, ⟨7, 7, 4194304, 8⟩), (5, ⟨4194304, 0, 4194305, 3⟩)] : List GE) z := fun z => (hpsr z).trans cand_fill
  have hfwr := cand_few hascr hcdr
  have hlnr : psr.length = r.n := by simpa using hr.1
  refine wl_q (r_build [(0, .int _ _), (1, .int _ _)] _ struct44 rfl rfl) rfl rfl ?_
  refine wl_q (r_build [(0, .int _ _), (1, .int _ _)] _ struct44 rfl rfl) rfl rfl ?_
  refine wl_bslice [.agg (List.toArray _), .agg (List.toArray _)] [pairCells (3, 5), pairCells (3, 9)] rfl sl35 M6 rfl rfl rfl rfl (lens_of rfl) (by decide) (fun b7 w7 M7 => ?_)
  have M8 : Mem _ _ ([_, _] ++ _) _ := Mem.front (L := [_]) M7
  have hlit12 := rowLit (T := 44) (b := b7) (([(3, 5), (3, 9)] : List (Int × Int)).map pairCells) (pairs_len _) rfl (by decide)
  refine wl_cal cal12 rfl rfl rfl ?_
  refine (same_pairs _ _ _ _ psr (hr.rd M8 (nthMem (i := 0) rfl)) _ _ _ [(3, 5), (3, 9)] (hlit12.rd M8 (nthMem (i := 1) rfl))).mono ?_
  rintro _ w9 ⟨v9, rfl, ⟨rfl, hb9⟩⟩
  refine ⟨_, rfl, ?_⟩
  have M9 := M8.callB hb9
  refine wl_re 13 (.bool true) (bT (asc_unique hascr (by simp [ltP]) (fun z => (hcdr z).trans aw10_c))).symm ?_
  refine wl_q (r_move (.bool true) rfl) rfl rfl ?_
  refine wl_q (r_build [(0, .int _ _)] _ struct24 rfl rfl) rfl rfl ?_
  refine wl_cal cal16 rfl rfl rfl ?_
  refine (grid_At _ (F.mem M9) b1 rs3 (((0 + 1) + 1) + 1) (fillG ([(9, ⟨0, 0, 5, 5⟩), (3, ⟨7, 7, 4194304, 8⟩), (5, ⟨4194304, 0, 4194305, 3⟩)] : List GE) noG) hG3 (Mem.ownTail (L := [_, _]) M9) (Mem.awayTail (L := [_, _]) M9 F) (fun j => by have h1 := fill_len ([(9, ⟨0, 0, 5, 5⟩), (3, ⟨7, 7, 4194304, 8⟩), (5, ⟨4194304, 0, 4194305, 3⟩)] : List GE) j; simp at h1; omega) 100 0).mono ?_
  rintro _ w10 ⟨v10, rfl, ⟨q, ksq, rfl, hakq, hksq, hq, hM10⟩⟩
  refine ⟨_, rfl, ?_⟩
  have M10 : Mem _ _ ([_, _, _] ++ _) _ := Mem.gridGet (L := [_, _]) M9 hM10
  have hlnq : ksq.length = q.n := by simpa using hq.1
  refine wl_bslice [.int _ _, .int _ _] [keyCell 3, keyCell 9] rfl sl27 M10 rfl rfl rfl rfl (lens_of rfl) (by decide) (fun b11 w11 M11 => ?_)
  have M12 : Mem _ _ ([_, _, _, _] ++ _) _ := Mem.front (L := [_, _, _]) M11
  have hlit17 := rowLit (T := 42) (b := b11) (([3, 9] : List Int).map keyCell) (keys_len _) rfl (by decide)
  refine wl_cal cal15 rfl rfl rfl ?_
  refine (same_keys _ _ _ _ ksq (hq.rd M12 (nthMem (i := 2) rfl)) _ _ _ [3, 9] (hlit17.rd M12 (nthMem (i := 3) rfl))).mono ?_
  rintro _ w13 ⟨v13, rfl, ⟨rfl, hb13⟩⟩
  refine ⟨_, rfl, ?_⟩
  have M13 := M12.callB hb13
  refine wl_re 18 (.bool true) (bT (ascI_unique hakq (by simp) (fun z => (hksq z).trans aw10_k))).symm ?_
  refine wl_q (r_pick true (.bool true) rfl rfl) rfl rfl ?_
  refine wl_q (r_move (.bool true) rfl) rfl rfl ?_
  refine wl_cal cal11 rfl rfl rfl ?_
  refine (grid_Len _ b1 rs3 (((0 + 1) + 1) + 1) (addG (addG (addG noG 9 (bks (⟨0, 0, 5, 5⟩ : Bx))) 3 (bks (⟨7, 7, 4194304, 8⟩ : Bx))) 5 (bks (⟨4194304, 0, 4194305, 3⟩ : Bx))) hG3 (Mem.ownTail (L := [_, _, _, _]) M13)).mono ?_
  rintro _ w14 ⟨v14, rfl, ⟨rfl, hM14⟩⟩
  refine ⟨_, rfl, ?_⟩
  have M14 : Mem _ _ ([_, _, _, _] ++ _) _ := Mem.tail (L := [_, _, _, _]) M13 hM14
  refine wl_q (r_bin (.bool (decide _)) rfl rfl rfl) rfl rfl ?_
  refine wl_re 22 (.bool true) (bT (by omega)).symm ?_
  refine wl_q (r_pick true (.bool true) rfl rfl) rfl rfl ?_
  refine wl_q (r_move (.bool true) rfl) rfl rfl ?_
  refine wl_q (r_move (.pointer _) rfl) rfl rfl ?_
  refine wl_cal cal11 rfl rfl rfl ?_
  refine (grid_LenN _).mono ?_
  rintro _ w15 ⟨v15, rfl, ⟨rfl, hb15⟩⟩
  refine ⟨_, rfl, ?_⟩
  have M15 := M14.callB hb15
  refine wl_q (r_bin (.bool (decide _)) rfl rfl rfl) rfl rfl ?_
  refine wl_re 27 (.bool true) (bT rfl).symm ?_
  refine wl_q (r_pick true (.bool true) rfl rfl) rfl rfl ?_
  refine wl_q (r_move (.bool true) rfl) rfl rfl ?_
  refine wl_q (r_move (.pointer _) rfl) rfl rfl ?_
  refine wl_cal cal13 rfl rfl rfl ?_
  refine (grid_CandidatesN _).mono ?_
  rintro _ w16 ⟨v16, rfl, ⟨rfl, hb16⟩⟩
  refine ⟨_, rfl, ?_⟩
  have M16 := M15.callB hb16
  refine wl_q (r_lenS Tryd.underlying35 rfl) rfl rfl ?_
  refine wl_q (r_bin (.bool (decide _)) rfl rfl rfl) rfl rfl ?_
  refine wl_re 33 (.bool true) (bT rfl).symm ?_
  refine wl_q (r_pick true (.bool true) rfl rfl) rfl rfl ?_
  refine wl_q (r_assign (.bool true) rfl) rfl rfl ?_
  refine wl_nil ?_
  refine thenN ?_
  refine W_ret ?_
  skip
  refine fin1 (.bool true) rfl ?_
  exact ⟨rfl, M16.below⟩

end Go.Proofs.YtjbhobahebebkaaDoor

/- Walks of Go functions over the frame of this claim: what each computes, for every input of the stated types (G10l). -/
set_option linter.unusedVariables false
set_option linter.unusedSimpArgs false
set_option linter.unnecessarySimpa false
namespace Go.Proofs.YtjbhobahebebkaaDoor
open Go.Bil
open Go.RowKit (Below)
open Go.Proofs

end Go.Proofs.YtjbhobahebebkaaDoor
