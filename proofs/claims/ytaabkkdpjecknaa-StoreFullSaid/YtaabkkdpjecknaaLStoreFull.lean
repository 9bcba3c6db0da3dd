/- Walks of Go functions over the frame of this claim: what each computes, for every input of the stated types (LStoreFull). -/
import Derived.Test.YtaabkkdpjecknaaTy
import Derived.Test.YtaabkkdpjecknaaAw
import Derived.Test.YtaabkkdpjecknaaMd5
set_option linter.unusedVariables false
set_option linter.unusedSimpArgs false
set_option linter.unnecessarySimpa false
namespace Go.Proofs.Ytaabkkdpjecknaa
open Go.Bil
open Go.RowKit (Below)
open Go.Proofs

set_option maxHeartbeats 16000000 in
theorem law_StoreFull (w : World) (key step : Int) (hkey : 0 ≤ key ∧ key ≤ 4294967295) (hstep : 0 ≤ step ∧ step ≤ 255) :
    Calls Try.prog 4 #[.int .u32 key, .int .u8 step] w (fun ex w' => ∃ v, ex = .returned v ∧ (fun v w' => v = .bool true ∧ Below w.heap.size w w') v w') := by
  have hd1 : 1 ≤ step + 1 := by omega
  have hd2 : step + 1 ≤ 256 := by omega
  obtain ⟨r1, r2, r3, r4⟩ := full_rest (key := key) hd1 hd2
  have hb7 := mulBound (i := 7) (by omega) hd1 hd2
  have hb4 := mulBound (i := 4096) (by omega) hd1 hd2
  have full_more' := full_more (key := key) hd1 hd2
  have full_dup' := full_dup (d := step + 1) hkey
  refine calls_of_W #[.tmp 4] 75 Try.func4 rfl Try.results4 Try.ntmps4 rfl ?_
  have M0 := Mem.refl w
  refine W_seq ?_
  refine W_region ?_
  refine wl_q (r_assign (.bool false) rfl) rfl rfl ?_
  refine wl_nil ?_
  refine thenN ?_
  refine W_seq ?_
  refine W_seq ?_
  refine W_region ?_
  refine wl_cal cal13 rfl rfl rfl ?_
  refine (aw06 _).mono ?_
  rintro _ w1 ⟨v1, rfl, ⟨rfl, hb1⟩⟩
  refine ⟨_, rfl, ?_⟩
  have M1 := M0.callB hb1
  refine wl_q (r_notB false rfl rfl) rfl rfl ?_
  refine wl_nil ?_
  refine thenN ?_
  refine W_condF rfl ?_
  refine W_skip ?_
  refine thenN ?_
  refine W_seq ?_
  refine W_region ?_
  refine wl_alloc zero31 M1 rfl rfl (fun b2 w2 M2 => ?_)
  have M3 := (M2.dummy default).dummy default
  refine wl_nil ?_
  refine thenN ?_
  refine W_seq ?_
  refine W_region ?_
  refine wl_q (r_move (.int _ _) rfl) rfl rfl ?_
  refine wl_q (r_convK us5 Try.underlying24 rfl (wru32 _ (by omega) (by omega))) rfl rfl ?_
  refine wl_q (r_bin (.int _ _) rfl rfl rfl) rfl rfl ?_
  refine wl_re 13 (.int .u32 (step + 1)) (iE (wru32 _ (by omega) (by omega))) ?_
  refine wl_q (r_assign (.int _ _) rfl) rfl rfl ?_
  refine wl_nil ?_
  refine thenN ?_
  refine W_seq ?_
  refine W_seq ?_
  refine W_region ?_
  refine wl_q (r_assign (.int _ _) rfl) rfl rfl ?_
  refine wl_nil ?_
  refine thenN ?_
  refine W_block ?_
  refine W_loop (σ := Nat × StV) [0, 5, 6] (fun (i, r) => [(7, .int .u32 (i : Int))]) (fun (i, r) w' => (i ≤ 4096 ∧ StoreIs 28 r.A r.n r.c r.p r.er r.em (fullM key (step + 1) i)) ∧ Mem w [] [(some b2, bc [.slice r.A r.n r.c, .map r.p] 31), r.er, r.em] w') (fun (i, r) => 4096 - i) (0, ⟨none, 0, 0, none, (none, default), (none, default)⟩) (agC rfl agN) (⟨⟨by omega, (StoreIs.nil 28 default default)⟩, M3⟩) ?_
  rintro ⟨i, r⟩ ρ4 w4 ⟨⟨hi, hr⟩, hM4⟩
  refine W_seq ?_
  refine W_seq ?_
  refine W_region ?_
  refine wl_q (r_move (.int _ _) rfl) rfl rfl ?_
  refine wl_q (r_bin (.bool (decide _)) rfl rfl rfl) rfl rfl ?_
  refine wl_nil ?_
  refine thenN ?_
  refine W_condD rfl (fun h15 => ?_) (fun h15 => ?_)
  · skip
    have hmul := mulBound (i := i) (by omega) hd1 hd2
    have hadd := full_add (key := key) (k := i) hd1 hd2 (by omega)
    refine W_skip ?_
    refine thenN ?_
    refine W_seq ?_
    refine W_block ?_
    refine W_seq ?_
    refine W_region ?_
    refine wl_q (r_move (.int _ _) rfl) rfl rfl ?_
    refine wl_q (r_move (.int _ _) rfl) rfl rfl ?_
    refine wl_q (r_move (.int _ _) rfl) rfl rfl ?_
    refine wl_q (r_bin (.int _ _) rfl rfl rfl) rfl rfl ?_
    refine wl_re 21 (.int .u32 ((i : Int) * (step + 1))) (iE (wru32 _ (by omega) (by omega))) ?_
    refine wl_q (r_bin (.int _ _) rfl rfl rfl) rfl rfl ?_
    refine wl_re 22 (.int .u32 (fkey key (step + 1) i)) rfl ?_
    refine wl_q (r_build [(0, .int _ _), (1, .int _ _)] _ struct28 rfl rfl) rfl rfl ?_
    refine wl_cal cal14 rfl rfl rfl ?_
    refine (store_Add _ _ _ _ _ _ _ _ _ hr (hM4.ownSeg 0 3) (bodyF key (step + 1) i)).mono ?_
    rintro _ w5 ⟨v5, rfl, ⟨hv5, A5, n5, c5, p5, er5, em5, hs5, hM5⟩⟩
    refine ⟨_, rfl, ?_⟩
    have M5 : Mem _ _ [_, _, _] _ := hM4.seg 0 3 hM5
    simp only [hadd] at hv5 hs5
    subst hv5
    refine wl_q (r_bin (.bool (decide _)) rfl rfl rfl) rfl rfl ?_
    refine wl_re 25 (.bool false) (bF (fun h => h rfl)).symm ?_
    refine wl_nil ?_
    refine thenN ?_
    refine W_condF rfl ?_
    refine W_skip ?_
    refine blkN ?_
    refine thenN ?_
    refine W_region ?_
    refine wl_q (r_move (.int _ _) rfl) rfl rfl ?_
    refine wl_q (r_bin (.int _ _) rfl rfl rfl) rfl rfl ?_
    refine wl_re 17 (.int .u32 ((i : Int) + 1)) (iE (wru32 _ (by omega) (by omega))) ?_
    refine wl_q (r_assign (.int _ _) rfl) rfl rfl ?_
    refine wl_nil ?_
    refine roundN (i + 1, ⟨A5, n5, c5, p5, er5, em5⟩) (agC rfl agN) (akC rfl (akC rfl (akC rfl akN))) ?_ ?_
    · exact ⟨⟨by omega, hs5⟩, M5⟩
    · (show 4096 - (i + 1) < 4096 - i; omega)
  · skip
    have hi4 : i = 4096 := by omega
    subst hi4
    refine W_exit ?_
    refine thenX ?_
    refine roundX ?_
    refine blkH ?_
    refine thenN ?_
    refine W_seq ?_
    refine W_region ?_
    refine wl_q (r_move (.int _ _) rfl) rfl rfl ?_
    refine wl_q (r_move (.int _ _) rfl) rfl rfl ?_
    refine wl_q (r_bin (.int _ _) rfl rfl rfl) rfl rfl ?_
    refine wl_re 28 (.int .u32 (4096 * (step + 1))) (iE (wru32 _ (by omega) (by omega))) ?_
    refine wl_q (r_bin (.int _ _) rfl rfl rfl) rfl rfl ?_
    refine wl_re 29 (.int .u32 (fkey key (step + 1) 4096)) rfl ?_
    refine wl_q (r_build [(0, .int _ _), (1, .int _ _)] _ struct28 rfl rfl) rfl rfl ?_
    refine wl_alloc zero28 hM4 rfl rfl (fun b6 w6 M6 => ?_)
    refine wl_stW 3 _ agg28 M6 rfl rfl rfl rfl rfl (ones_of rfl) rfl (fun w7 M7 => ?_)
    refine wl_nil ?_
    refine thenN ?_
    refine W_seq ?_
    refine W_seq ?_
    refine W_region ?_
    refine wl_cal cal18 rfl rfl rfl ?_
    refine (store_Len _ _ _ _ _ _ _ _ _ hr (M7.ownSeg 0 3)).mono ?_
    rintro _ w8 ⟨v8, rfl, ⟨rfl, hM8⟩⟩
    refine ⟨_, rfl, ?_⟩
    have M8 : Mem _ _ [_, _, _, _] _ := M7.seg 0 3 hM8
    refine wl_q (r_bin (.bool (decide _)) rfl rfl rfl) rfl rfl ?_
    refine wl_re 32 (.bool false) (bF (fun h => h (by rw [full_len]; rfl))).symm ?_
    refine wl_q (r_move (.bool false) rfl) rfl rfl ?_
    refine wl_q (r_ldW 3 agg28 M8 rfl rfl rfl) rfl rfl ?_
    refine wl_cal cal14 rfl rfl rfl ?_
    refine (store_Add _ _ _ _ _ _ _ _ _ hr (M8.ownSeg 0 3) (bodyF key (step + 1) 4096)).mono ?_
    rintro _ w9 ⟨v9, rfl, ⟨hv9, A9, n9, c9, p9, er9, em9, hs9, hM9⟩⟩
    refine ⟨_, rfl, ?_⟩
    have M9 : Mem _ _ [_, _, _, _] _ := M8.seg 0 3 hM9
    simp only [full_more'] at hv9 hs9
    subst hv9
    refine wl_q (r_bin (.bool (decide _)) rfl rfl rfl) rfl rfl ?_
    refine wl_re 36 (.bool false) (bF (fun h => h rfl)).symm ?_
    refine wl_q (r_pick false (.bool false) rfl rfl) rfl rfl ?_
    refine wl_q (r_move (.bool false) rfl) rfl rfl ?_
    refine wl_q (r_move (.int _ _) rfl) rfl rfl ?_
    refine wl_q (r_build [(0, .int _ _), (1, .int _ _)] _ struct28 rfl rfl) rfl rfl ?_
    refine wl_cal cal14 rfl rfl rfl ?_
    refine (store_Add _ _ _ _ _ _ _ _ _ hs9 (M9.ownSeg 0 3) ⟨key, 65536, 0, 0, 0, 0, 0, 0, 0, 0⟩).mono ?_
    rintro _ w10 ⟨v10, rfl, ⟨hv10, A10, n10, c10, p10, er10, em10, hs10, hM10⟩⟩
    refine ⟨_, rfl, ?_⟩
    have M10 : Mem _ _ [_, _, _, _] _ := M9.seg 0 3 hM10
    simp only [full_dup'] at hv10 hs10
    subst hv10
    refine wl_q (r_bin (.bool (decide _)) rfl rfl rfl) rfl rfl ?_
    refine wl_re 42 (.bool false) (bF (fun h => h rfl)).symm ?_
    refine wl_q (r_pick false (.bool false) rfl rfl) rfl rfl ?_
    refine wl_q (r_move (.bool false) rfl) rfl rfl ?_
    refine wl_q (r_fieldAddr 0 fld28_0 rfl) rfl rfl ?_
    refine wl_q (r_ld 3 (.int _ _) one24 M10 rfl rfl rfl) rfl rfl ?_
    refine wl_q (r_build [(0, .int _ _)] _ struct28 rfl rfl) rfl rfl ?_
    refine wl_cal cal14 rfl rfl rfl ?_
    refine (store_Add _ _ _ _ _ _ _ _ _ hs10 (M10.ownSeg 0 3) ⟨(fkey key (step + 1) 4096), 0, 0, 0, 0, 0, 0, 0, 0, 0⟩).mono ?_
    rintro _ w11 ⟨v11, rfl, ⟨hv11, A11, n11, c11, p11, er11, em11, hs11, hM11⟩⟩
    refine ⟨_, rfl, ?_⟩
    have M11 : Mem _ _ [_, _, _, _] _ := M10.seg 0 3 hM11
    simp only [full_bad] at hv11 hs11
    subst hv11
    refine wl_q (r_bin (.bool (decide _)) rfl rfl rfl) rfl rfl ?_
    refine wl_re 49 (.bool false) (bF (fun h => h rfl)).symm ?_
    refine wl_q (r_pick false (.bool false) rfl rfl) rfl rfl ?_
    refine wl_nil ?_
    refine thenN ?_
    refine W_condF rfl ?_
    refine W_skip ?_
    refine thenN ?_
    refine W_seq ?_
    refine W_region ?_
    refine wl_q (r_move (.int _ _) rfl) rfl rfl ?_
    refine wl_q (r_move (.int _ _) rfl) rfl rfl ?_
    refine wl_q (r_bin (.int _ _) rfl rfl rfl) rfl rfl ?_
    refine wl_re 53 (.int .u32 (7 * (step + 1))) (iE (wru32 _ (by omega) (by omega))) ?_
    refine wl_q (r_bin (.int _ _) rfl rfl rfl) rfl rfl ?_
    refine wl_re 54 (.int .u32 (fkey key (step + 1) 7)) rfl ?_
    refine wl_cal cal19 rfl rfl rfl ?_
    refine (store_Remove _ _ _ _ _ _ _ _ _ hs11 (M11.ownSeg 0 3) (fkey key (step + 1) 7)).mono ?_
    rintro _ w12 ⟨v12, rfl, ⟨rfl, A12, n12, c12, p12, er12, em12, hs12, hM12⟩⟩
    refine ⟨_, rfl, ?_⟩
    have M12 : Mem _ _ [_, _, _, _] _ := M11.seg 0 3 hM12
    refine wl_q (r_bin (.bool (decide _)) rfl rfl rfl) rfl rfl ?_
    refine wl_re 56 (.bool true) (bT r1).symm ?_
    refine wl_q (r_move (.bool true) rfl) rfl rfl ?_
    refine wl_q (r_ldW 3 agg28 M12 rfl rfl rfl) rfl rfl ?_
    refine wl_cal cal14 rfl rfl rfl ?_
    refine (store_Add _ _ _ _ _ _ _ _ _ hs12 (M12.ownSeg 0 3) (bodyF key (step + 1) 4096)).mono ?_
    rintro _ w13 ⟨v13, rfl, ⟨rfl, A13, n13, c13, p13, er13, em13, hs13, hM13⟩⟩
    refine ⟨_, rfl, ?_⟩
    have M13 : Mem _ _ [_, _, _, _] _ := M12.seg 0 3 hM13
    refine wl_q (r_bin (.bool (decide _)) rfl rfl rfl) rfl rfl ?_
    refine wl_re 60 (.bool true) (bT r2).symm ?_
    refine wl_q (r_pick true (.bool true) rfl rfl) rfl rfl ?_
    refine wl_q (r_move (.bool true) rfl) rfl rfl ?_
    refine wl_cal cal18 rfl rfl rfl ?_
    refine (store_Len _ _ _ _ _ _ _ _ _ hs13 (M13.ownSeg 0 3)).mono ?_
    rintro _ w14 ⟨v14, rfl, ⟨rfl, hM14⟩⟩
    refine ⟨_, rfl, ?_⟩
    have M14 : Mem _ _ [_, _, _, _] _ := M13.seg 0 3 hM14
    refine wl_q (r_bin (.bool (decide _)) rfl rfl rfl) rfl rfl ?_
    refine wl_re 64 (.bool true) (bT (by rw [r3]; rfl)).symm ?_
    refine wl_q (r_pick true (.bool true) rfl rfl) rfl rfl ?_
    refine wl_q (r_move (.bool true) rfl) rfl rfl ?_
    refine wl_q (r_move (.int _ _) rfl) rfl rfl ?_
    refine wl_q (r_move (.int _ _) rfl) rfl rfl ?_
    refine wl_q (r_bin (.int _ _) rfl rfl rfl) rfl rfl ?_
    refine wl_re 69 (.int .u32 (7 * (step + 1))) (iE (wru32 _ (by omega) (by omega))) ?_
    refine wl_q (r_bin (.int _ _) rfl rfl rfl) rfl rfl ?_
    refine wl_re 70 (.int .u32 (fkey key (step + 1) 7)) rfl ?_
    refine wl_q (r_build [(0, .int _ _), (1, .int _ _)] _ struct28 rfl rfl) rfl rfl ?_
    refine wl_cal cal14 rfl rfl rfl ?_
    refine (store_Add _ _ _ _ _ _ _ _ _ hs13 (M14.ownSeg 0 3) (bodyF key (step + 1) 7)).mono ?_
    rintro _ w15 ⟨v15, rfl, ⟨rfl, A15, n15, c15, p15, er15, em15, hs15, hM15⟩⟩
    refine ⟨_, rfl, ?_⟩
    have M15 : Mem _ _ [_, _, _, _] _ := M14.seg 0 3 hM15
    refine wl_q (r_bin (.bool (decide _)) rfl rfl rfl) rfl rfl ?_
    refine wl_re 73 (.bool true) (bT r4).symm ?_
    refine wl_q (r_pick true (.bool true) rfl rfl) rfl rfl ?_
    refine wl_q (r_assign (.bool true) rfl) rfl rfl ?_
    refine wl_nil ?_
    refine thenN ?_
    refine W_ret ?_
    skip
    refine fin1 (.bool true) rfl ?_
    exact ⟨rfl, M15.below⟩

end Go.Proofs.Ytaabkkdpjecknaa
