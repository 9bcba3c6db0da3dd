/- Walks of Go functions over the frame of this claim: what each computes, for every input of the stated types (LViewSorts). -/
import Derived.Test.YtaabkkdpjecknaaTy
import Derived.Test.YtaabkkdpjecknaaAw7
set_option linter.unusedVariables false
set_option linter.unusedSimpArgs false
set_option linter.unnecessarySimpa false
namespace Go.Proofs.Ytaabkkdpjecknaa
open Go.Bil
open Go.RowKit (Below)
open Go.Proofs

set_option maxHeartbeats 16000000 in
theorem law_ViewSorts (w : World) (A : Option Addr) (n c : Nat) (xs : List Body) (R : Rd w 10 A n (xs.map bodyCells)) :
    Calls Try.prog 9 #[.slice A n c] w (fun ex w' => ∃ v, ex = .returned v ∧ (fun v w' => v = .bool true ∧ Below w.heap.size w w') v w') := by
  have hlen : xs.length = n := by simpa using R.len
  have hbd := R.bound
  refine calls_of_W #[.tmp 2] 89 Try.func9 rfl Try.results9 Try.ntmps9 rfl ?_
  have M0 := Mem.refl w
  refine W_seq ?_
  refine W_region ?_
  refine wl_q (r_assign (.bool false) rfl) rfl rfl ?_
  refine wl_nil ?_
  refine thenN ?_
  refine W_seq ?_
  refine W_seq ?_
  refine W_region ?_
  refine wl_cal cal29 rfl rfl rfl ?_
  refine (aw07 _).mono ?_
  rintro _ w1 ⟨v1, rfl, ⟨rfl, hb1⟩⟩
  refine ⟨_, rfl, ?_⟩
  have M1 := M0.callB hb1
  refine wl_q (r_notB false rfl rfl) rfl rfl ?_
  refine wl_q (r_move (.bool false) rfl) rfl rfl ?_
  refine wl_q (r_move (.slice _ _ _) rfl) rfl rfl ?_
  refine wl_q (r_lenS Try.underlying22 rfl) rfl rfl ?_
  refine wl_q (r_bin (.bool (decide _)) rfl rfl rfl) rfl rfl ?_
  refine wl_q (r_pick false (.bool (decide _)) rfl rfl) rfl rfl ?_
  refine wl_nil ?_
  refine thenN ?_
  refine W_condD rfl (fun h16 => ?_) (fun h16 => ?_)
  · skip
    refine W_seq ?_
    refine W_region ?_
    refine wl_cal cal29 rfl rfl rfl ?_
    refine (aw07 _).mono ?_
    rintro _ w2 ⟨v2, rfl, ⟨rfl, hb2⟩⟩
    refine ⟨_, rfl, ?_⟩
    have M2 := M1.callB hb2
    refine wl_q (r_assign (.bool true) rfl) rfl rfl ?_
    refine wl_nil ?_
    refine thenN ?_
    refine W_ret ?_
    refine thenR ?_
    skip
    refine fin1 (.bool true) rfl ?_
    exact ⟨rfl, M2.below⟩
  · skip
    refine W_skip ?_
    refine thenN ?_
    refine W_seq ?_
    refine W_region ?_
    refine wl_q (r_move (.slice _ _ _) rfl) rfl rfl ?_
    refine wl_cal cal30 rfl rfl rfl ?_
    refine (view_Sort _ _ _ _ xs (R.mem M1) (by omega)).mono ?_
    rintro _ w3 ⟨v3, rfl, ⟨A3, n3, c3, e3, rfl, hR3, hM3⟩⟩
    refine ⟨_, rfl, ?_⟩
    have M3 : Mem _ _ [_] _ := M1.call0 hM3
    refine wl_q (r_move (.tuple (List.toArray _)) rfl) rfl rfl ?_
    refine wl_q (r_ext (.slice _ _ _) rfl rfl) rfl rfl ?_
    refine wl_q (r_ext (.int _ _) rfl rfl) rfl rfl ?_
    refine wl_q (r_assign (.slice _ _ _) rfl) rfl rfl ?_
    refine wl_q (r_assign (.int _ _) rfl) rfl rfl ?_
    refine wl_nil ?_
    refine thenN ?_
    refine W_seq ?_
    refine W_seq ?_
    refine W_region ?_
    refine wl_q (r_move (.int _ _) rfl) rfl rfl ?_
    refine wl_q (r_bin (.bool (decide _)) rfl rfl rfl) rfl rfl ?_
    refine wl_nil ?_
    refine thenN ?_
    refine W_condD rfl (fun h24 => ?_) (fun h24 => ?_)
    · skip
      refine W_seq ?_
      refine W_region ?_
      refine wl_q (r_move (.slice _ _ _) rfl) rfl rfl ?_
      refine wl_q (r_lenS Try.underlying22 rfl) rfl rfl ?_
      refine wl_q (r_bin (.bool (decide _)) rfl rfl rfl) rfl rfl ?_
      refine wl_q (r_assign (.bool (decide _)) rfl) rfl rfl ?_
      refine wl_nil ?_
      refine thenN ?_
      refine W_ret ?_
      refine thenR ?_
      skip
      refine fin1 (.bool (decide _)) rfl ?_
      rw [sortV_err h24] at hR3
      have hn0 := hR3.1
      simp at hn0
      exact ⟨(bT (by omega)).symm, M3.below⟩
    · skip
      obtain ⟨hk, he, hsv⟩ := sortV_ok (Decidable.not_not.1 h24)
      rw [hsv] at hR3
      have hnv := hR3.1
      rw [List.length_map, (sortB_perm xs).length_eq, hlen] at hnv
      have hcv := check_up (sortB_up xs) (sortB_perm xs) he
      rw [if_pos hk] at hcv
      have hvv := sortV_sorted hk he
      have hss := sorted_B hk
      refine W_skip ?_
      refine thenN ?_
      refine W_seq ?_
      refine W_seq ?_
      refine W_region ?_
      refine wl_q (r_move (.slice _ _ _) rfl) rfl rfl ?_
      refine wl_q (r_lenS Try.underlying22 rfl) rfl rfl ?_
      refine wl_q (r_move (.slice _ _ _) rfl) rfl rfl ?_
      refine wl_q (r_lenS Try.underlying22 rfl) rfl rfl ?_
      refine wl_q (r_bin (.bool (decide _)) rfl rfl rfl) rfl rfl ?_
      refine wl_re 32 (.bool false) (bF (by omega)).symm ?_
      refine wl_q (r_move (.bool false) rfl) rfl rfl ?_
      refine wl_q (r_move (.slice _ _ _) rfl) rfl rfl ?_
      refine wl_cal cal32 rfl rfl rfl ?_
      refine (view_Check _ _ _ _ (sortB xs) (hR3.rd M3 (nthMem (i := 0) rfl))).mono ?_
      rintro _ w4 ⟨v4, rfl, ⟨rfl, hb4⟩⟩
      refine ⟨_, rfl, ?_⟩
      have M4 := M3.callB hb4
      refine wl_q (r_bin (.bool (decide _)) rfl rfl rfl) rfl rfl ?_
      refine wl_re 36 (.bool false) (bF (fun h => h hcv)).symm ?_
      refine wl_q (r_pick false (.bool false) rfl rfl) rfl rfl ?_
      refine wl_nil ?_
      refine thenN ?_
      refine W_condF rfl ?_
      refine W_skip ?_
      refine thenN ?_
      refine W_seq ?_
      refine W_seq ?_
      refine W_region ?_
      refine wl_q (r_assign (.int _ _) rfl) rfl rfl ?_
      refine wl_nil ?_
      refine thenN ?_
      refine W_block ?_
      refine W_loop (σ := Nat) [0, 3] (fun i => [(5, .int .i64 (i : Int))]) (fun i w' => i ≤ n ∧ Mem w [] [e3] w') (fun i => n - i) 0 (agC rfl agN) (⟨by omega, M4⟩) ?_
      rintro i ρ5 w5 ⟨hi, hM5⟩
      refine W_seq ?_
      refine W_seq ?_
      refine W_region ?_
      refine wl_q (r_move (.int _ _) rfl) rfl rfl ?_
      refine wl_q (r_move (.slice _ _ _) rfl) rfl rfl ?_
      refine wl_q (r_lenS Try.underlying22 rfl) rfl rfl ?_
      refine wl_q (r_bin (.bool (decide _)) rfl rfl rfl) rfl rfl ?_
      refine wl_nil ?_
      refine thenN ?_
      refine W_condD rfl (fun h41 => ?_) (fun h41 => ?_)
      · skip
        obtain ⟨xb, hxb⟩ := getSome (k := i) hlen (by omega)
        obtain ⟨p, hp, hpl, hfd⟩ := sort_at hk (List.mem_of_getElem? hxb)
        have hplt := (List.getElem?_eq_some_iff.1 hp).1
        have hsl := (sortB_perm xs).length_eq
        refine W_skip ?_
        refine thenN ?_
        refine W_seq ?_
        refine W_block ?_
        refine W_seq ?_
        refine W_region ?_
        refine wl_q (r_move (.slice _ _ _) rfl) rfl rfl ?_
        refine wl_q (r_move (.slice _ _ _) rfl) rfl rfl ?_
        refine wl_q (r_move (.int _ _) rfl) rfl rfl ?_
        refine wl_q (r_idxR (i) sl22 rfl rfl rfl ((R.mem hM5).below_len (mapGet bodyCells hxb)) ((R.mem hM5).someK (mapGet bodyCells hxb))) rfl rfl ?_
        refine wl_q (r_fieldAddrE 0 fld28_0 (R.mem hM5) (Nat.lt_of_le_of_lt (Nat.zero_le _) ((R.mem hM5).below_len (mapGet bodyCells hxb))) rfl) rfl rfl ?_
        refine wl_q (r_ldE (o := 0) (.int _ _) one24 (R.mem hM5) (mapGet bodyCells hxb) rfl rfl) rfl rfl ?_
        refine wl_cal cal34 rfl rfl rfl ?_
        refine (view_Find _ xb.key _ _ _ (sortB xs) (hR3.rd hM5 (nthMem (i := 0) rfl)) hss).mono ?_
        rintro _ w6 ⟨v6, rfl, ⟨rfl, hb6⟩⟩
        refine ⟨_, rfl, ?_⟩
        have M6 := hM5.callB hb6
        refine wl_q (r_move (.tuple (List.toArray _)) rfl) rfl rfl ?_
        refine wl_q (r_ext (.int _ _) rfl rfl) rfl rfl ?_
        refine wl_q (r_ext (.bool (decide _)) rfl rfl) rfl rfl ?_
        refine wl_re 53 (.bool true) (bT hfd).symm ?_
        refine wl_q (r_assign (.int _ _) rfl) rfl rfl ?_
        refine wl_q (r_assign (.bool true) rfl) rfl rfl ?_
        refine wl_nil ?_
        refine thenN ?_
        refine W_seq ?_
        refine W_draw [(0, 0), (1, 0), (2, 0), (3, 0), (4, 0), (5, 0), (6, 0), (7, 0), (8, 0), (9, 0), (10, 0), (11, 0), (12, 0), (13, 0), (14, 0), (15, 1), (16, 1), (17, 0), (18, 0), (19, 1), (20, 1), (21, 0), (22, 0)] mixed rfl (by kernel_rfl) (fun w7 hb7 hh7 => ?_)
        have M7 := M6.drew hb7 hh7
        refine D_p rfl rfl rfl (fun _ => r_move (.bool true) rfl) ?_
        refine D_p rfl rfl rfl (fun _ => r_notB false rfl rfl) ?_
        refine D_p rfl rfl rfl (fun _ => r_move (.bool false) rfl) ?_
        refine D_p rfl rfl rfl (fun _ => r_move (.int _ _) rfl) ?_
        refine D_p rfl rfl rfl (fun _ => r_bin (.bool (decide _)) rfl rfl rfl) ?_
        refine D_re 58 (.bool false) (bF (by omega)).symm ?_
        refine D_p rfl rfl rfl (fun _ => r_pick false (.bool false) rfl rfl) ?_
        refine D_p rfl rfl rfl (fun _ => r_move (.bool false) rfl) ?_
        refine D_p rfl rfl rfl (fun _ => r_move (.int _ _) rfl) ?_
        refine D_p rfl rfl rfl (fun _ => r_move (.slice _ _ _) rfl) ?_
        refine D_p rfl rfl rfl (fun _ => r_lenS Try.underlying22 rfl) ?_
        refine D_p rfl rfl rfl (fun _ => r_bin (.bool (decide _)) rfl rfl rfl) ?_
        refine D_re 64 (.bool false) (bF (by omega)).symm ?_
        refine D_p rfl rfl rfl (fun _ => r_pick false (.bool false) rfl rfl) ?_
        refine D_p rfl rfl rfl (fun _ => r_move (.bool false) rfl) ?_
        refine D_p rfl rfl rfl (fun _ => r_move (.slice _ _ _) rfl) ?_
        refine D_p rfl rfl rfl (fun _ => r_move (.int _ _) rfl) ?_
        refine D_r rfl rfl rfl (r_idxR (p) sl22 rfl rfl (by rw [hpl]) ((hR3.rd M7 (nthMem (i := 0) rfl)).below_len (mapGet bodyCells hp)) ((hR3.rd M7 (nthMem (i := 0) rfl)).someK (mapGet bodyCells hp))) ?_
        refine D_r rfl rfl rfl (r_ldEA _ agg28 (hR3.rd M7 (nthMem (i := 0) rfl)) (mapGet bodyCells hp) rfl) ?_
        refine D_p rfl rfl rfl (fun _ => r_move (.slice _ _ _) rfl) ?_
        refine D_p rfl rfl rfl (fun _ => r_move (.int _ _) rfl) ?_
        refine D_r rfl rfl rfl (r_idxR (i) sl22 rfl rfl rfl ((R.mem M7).below_len (mapGet bodyCells hxb)) ((R.mem M7).someK (mapGet bodyCells hxb))) ?_
        refine D_r rfl rfl rfl (r_ldEA _ agg28 (R.mem M7) (mapGet bodyCells hxb) rfl) ?_
        refine D_p rfl rfl rfl (fun _ => r_neA (eqBody xb xb) rfl rfl) ?_
        refine D_re 75 (.bool false) (bF (fun h => h rfl)).symm ?_
        refine D_p rfl rfl rfl (fun _ => r_pick false (.bool false) rfl rfl) ?_
        refine D_nil ?_
        refine thenN ?_
        refine W_condF rfl ?_
        refine W_skip ?_
        refine blkN ?_
        refine thenN ?_
        refine W_region ?_
        refine wl_q (r_move (.int _ _) rfl) rfl rfl ?_
        refine wl_q (r_add rfl rfl (by omega) (by omega)) rfl rfl ?_
        refine wl_q (r_assign (.int _ _) rfl) rfl rfl ?_
        refine wl_nil ?_
        refine roundN (i + 1) (agC rfl agN) (akC rfl (akC rfl akN)) ?_ ?_
        · exact ⟨by omega, M7⟩
        · omega
      · skip
        refine W_exit ?_
        refine thenX ?_
        refine roundX ?_
        refine blkH ?_
        refine thenN ?_
        refine W_seq ?_
        refine W_region ?_
        refine wl_q (r_move (.slice _ _ _) rfl) rfl rfl ?_
        refine wl_cal cal30 rfl rfl rfl ?_
        refine (view_Sort _ _ _ _ (sortB xs) (hR3.rd hM5 (nthMem (i := 0) rfl)) (by omega)).mono ?_
        rintro _ w8 ⟨v8, rfl, ⟨A8, n8, c8, e8, rfl, hR8, hM8⟩⟩
        refine ⟨_, rfl, ?_⟩
        have M8 : Mem _ _ [_, _] _ := hM5.call0 hM8
        rw [hvv] at hR8
        refine wl_q (r_move (.tuple (List.toArray _)) rfl) rfl rfl ?_
        refine wl_q (r_ext (.slice _ _ _) rfl rfl) rfl rfl ?_
        refine wl_q (r_ext (.int _ _) rfl rfl) rfl rfl ?_
        refine wl_q (r_assign (.slice _ _ _) rfl) rfl rfl ?_
        refine wl_q (r_assign (.int _ _) rfl) rfl rfl ?_
        refine wl_nil ?_
        refine thenN ?_
        refine W_seq ?_
        refine W_region ?_
        refine wl_q (r_move (.int _ _) rfl) rfl rfl ?_
        refine wl_q (r_bin (.bool (decide _)) rfl rfl rfl) rfl rfl ?_
        refine wl_re 83 (.bool true) (bT (by rw [hvv])).symm ?_
        refine wl_q (r_move (.bool true) rfl) rfl rfl ?_
        refine wl_q (r_move (.slice _ _ _) rfl) rfl rfl ?_
        refine wl_q (r_move (.slice _ _ _) rfl) rfl rfl ?_
        refine wl_cal cal16 rfl rfl rfl ?_
        refine (ref06_Same _ _ _ _ _ (hR3.rd M8 (nthMem (i := 0) rfl)) _ _ _ _ (hR8.rd M8 (nthMem (i := 1) rfl))).mono ?_
        rintro _ w9 ⟨v9, rfl, ⟨rfl, hb9⟩⟩
        refine ⟨_, rfl, ?_⟩
        have M9 := M8.callB hb9
        refine wl_re 87 (.bool true) (bT rfl).symm ?_
        refine wl_q (r_pick true (.bool true) rfl rfl) rfl rfl ?_
        refine wl_q (r_assign (.bool true) rfl) rfl rfl ?_
        refine wl_nil ?_
        refine thenN ?_
        refine W_ret ?_
        skip
        refine fin1 (.bool true) rfl ?_
        exact ⟨rfl, M9.below⟩

end Go.Proofs.Ytaabkkdpjecknaa
