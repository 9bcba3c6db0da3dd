/- Walks of Go functions over the frame of this claim: what each computes, for every input of the stated types (LViewMatchesReference). -/
import Derived.Test.YtfgbmegchdjfeaaTy
import Derived.Test.YtfgbmegchdjfeaaAw7
set_option linter.unusedVariables false
set_option linter.unusedSimpArgs false
set_option linter.unnecessarySimpa false
namespace Go.Proofs.Ytfgbmegchdjfeaa
open Go.Bil
open Go.RowKit (Below)
open Go.Proofs

set_option maxHeartbeats 16000000 in
theorem law_ViewMatchesReference (w : World) (key : Int) (A : Option Addr) (n c : Nat) (xs : List Body) (R : Rd w 10 A n (xs.map bodyCells)) (B : Option Addr) (m c' : Nat) (ys : List Body) (R' : Rd w 10 B m (ys.map bodyCells)) :
    Calls Try.prog 3 #[.slice A n c, .slice B m c', .int .u32 key] w (fun ex w' => ∃ v, ex = .returned v ∧ (fun v w' => v = .bool true ∧ Below w.heap.size w w') v w') := by
  have hlen : xs.length = n := by simpa using R.len
  have hbd := R.bound
  have hlen' : ys.length = m := by simpa using R'.len
  refine calls_of_W #[.tmp 6] 109 Try.func3 rfl Try.results3 Try.ntmps3 rfl ?_
  have M0 := Mem.refl w
  refine W_seq ?_
  refine W_region ?_
  refine wl_q (r_assign (.bool false) rfl) rfl rfl ?_
  refine wl_nil ?_
  refine thenN ?_
  refine W_seq ?_
  refine W_seq ?_
  refine W_region ?_
  refine wl_cal cal6 rfl rfl rfl ?_
  refine (aw07 _).mono ?_
  rintro _ w1 ⟨v1, rfl, ⟨rfl, hb1⟩⟩
  refine ⟨_, rfl, ?_⟩
  have M1 := M0.callB hb1
  refine wl_q (r_notB false rfl rfl) rfl rfl ?_
  refine wl_q (r_move (.bool false) rfl) rfl rfl ?_
  refine wl_q (r_move (.slice _ _ _) rfl) rfl rfl ?_
  refine wl_q (r_lenS Try.underlying22 rfl) rfl rfl ?_
  refine wl_q (r_bin (.bool (decide _)) rfl rfl rfl) rfl rfl ?_
  refine wl_q (r_pick false (.bool (decide _)) rfl rfl) rfl rfl ?_
  refine wl_q (r_move (.bool (decide _)) rfl) rfl rfl ?_
  refine wl_splitD 24 rfl (fun g24 => ?_) (fun g24 => ?_)
  · skip
    refine wl_skip rfl rfl ?_
    refine wl_skip rfl rfl ?_
    refine wl_skip rfl rfl ?_
    refine wl_q (r_pick true (.bool true) rfl rfl) rfl rfl ?_
    refine wl_nil ?_
    refine thenN ?_
    refine W_condT rfl ?_
    refine W_seq ?_
    refine W_region ?_
    refine wl_cal cal6 rfl rfl rfl ?_
    refine (aw07 _).mono ?_
    rintro _ w2 ⟨v2, rfl, ⟨rfl, hb2⟩⟩
    refine ⟨_, rfl, ?_⟩
    have M2 := M1.callB hb2
    refine wl_q (r_assign (.bool true) rfl) rfl rfl ?_
    refine wl_nil ?_
    refine thenN ?_
    refine W_ret ?_
    refine thenR ?_
    skip
    refine fin1 (.bool true) rfl ?_
    exact ⟨rfl, M2.below⟩
  · skip
    refine wl_q (r_move (.slice _ _ _) rfl) rfl rfl ?_
    refine wl_q (r_lenS Try.underlying22 rfl) rfl rfl ?_
    refine wl_q (r_bin (.bool (decide _)) rfl rfl rfl) rfl rfl ?_
    refine wl_q (r_pick false (.bool (decide _)) rfl rfl) rfl rfl ?_
    refine wl_nil ?_
    refine thenN ?_
    refine W_condD rfl (fun h28 => ?_) (fun h28 => ?_)
    · skip
      refine W_seq ?_
      refine W_region ?_
      refine wl_cal cal6 rfl rfl rfl ?_
      refine (aw07 _).mono ?_
      rintro _ w3 ⟨v3, rfl, ⟨rfl, hb3⟩⟩
      refine ⟨_, rfl, ?_⟩
      have M3 := M1.callB hb3
      refine wl_q (r_assign (.bool true) rfl) rfl rfl ?_
      refine wl_nil ?_
      refine thenN ?_
      refine W_ret ?_
      refine thenR ?_
      skip
      refine fin1 (.bool true) rfl ?_
      exact ⟨rfl, M3.below⟩
    · skip
      refine W_skip ?_
      refine thenN ?_
      refine W_seq ?_
      refine W_region ?_
      refine wl_q (r_move (.slice _ _ _) rfl) rfl rfl ?_
      refine wl_cal cal7 rfl rfl rfl ?_
      refine (view_Sort _ _ _ _ xs (R.mem M1) (by omega)).mono ?_
      rintro _ w4 ⟨v4, rfl, ⟨A4, n4, c4, e4, rfl, hR4, hM4⟩⟩
      refine ⟨_, rfl, ?_⟩
      have M4 : Mem _ _ [_] _ := M1.call0 hM4
      refine wl_q (r_move (.tuple (List.toArray _)) rfl) rfl rfl ?_
      refine wl_q (r_ext (.slice _ _ _) rfl rfl) rfl rfl ?_
      refine wl_q (r_ext (.int _ _) rfl rfl) rfl rfl ?_
      refine wl_q (r_assign (.slice _ _ _) rfl) rfl rfl ?_
      refine wl_q (r_assign (.int _ _) rfl) rfl rfl ?_
      refine wl_nil ?_
      refine thenN ?_
      refine W_seq ?_
      refine W_region ?_
      refine wl_q (r_move (.slice _ _ _) rfl) rfl rfl ?_
      refine wl_cal cal8 rfl rfl rfl ?_
      refine (ref07_Sort _ _ _ _ xs (R.mem M4) (by omega)).mono ?_
      rintro _ w5 ⟨v5, rfl, ⟨A5, n5, c5, e5, rfl, hR5, hM5⟩⟩
      refine ⟨_, rfl, ?_⟩
      have M5 : Mem _ _ [_, _] _ := M4.call0 hM5
      refine wl_q (r_move (.tuple (List.toArray _)) rfl) rfl rfl ?_
      refine wl_q (r_ext (.slice _ _ _) rfl rfl) rfl rfl ?_
      refine wl_q (r_ext (.int _ _) rfl rfl) rfl rfl ?_
      refine wl_q (r_assign (.slice _ _ _) rfl) rfl rfl ?_
      refine wl_q (r_assign (.int _ _) rfl) rfl rfl ?_
      refine wl_nil ?_
      refine thenN ?_
      refine W_seq ?_
      refine W_seq ?_
      refine W_region ?_
      refine wl_q (r_move (.slice _ _ _) rfl) rfl rfl ?_
      refine wl_q (r_move (.slice _ _ _) rfl) rfl rfl ?_
      refine wl_cal cal9 rfl rfl rfl ?_
      refine (ref06_Same _ _ _ _ _ (hR4.rd M5 (nthMem (i := 0) rfl)) _ _ _ _ (hR5.rd M5 (nthMem (i := 1) rfl))).mono ?_
      rintro _ w6 ⟨v6, rfl, ⟨rfl, hb6⟩⟩
      refine ⟨_, rfl, ?_⟩
      have M6 := M5.callB hb6
      refine wl_re 42 (.bool true) (bT rfl).symm ?_
      refine wl_q (r_notB false rfl rfl) rfl rfl ?_
      refine wl_q (r_move (.bool false) rfl) rfl rfl ?_
      refine wl_q (r_move (.int _ _) rfl) rfl rfl ?_
      refine wl_q (r_move (.int _ _) rfl) rfl rfl ?_
      refine wl_q (r_bin (.bool (decide _)) rfl rfl rfl) rfl rfl ?_
      refine wl_re 47 (.bool false) (bF (fun h => h rfl)).symm ?_
      refine wl_q (r_pick false (.bool false) rfl rfl) rfl rfl ?_
      refine wl_q (r_move (.bool false) rfl) rfl rfl ?_
      refine wl_q (r_move (.slice _ _ _) rfl) rfl rfl ?_
      refine wl_cal cal10 rfl rfl rfl ?_
      refine (view_Check _ _ _ _ xs (R.mem M6)).mono ?_
      rintro _ w7 ⟨v7, rfl, ⟨rfl, hb7⟩⟩
      refine ⟨_, rfl, ?_⟩
      have M7 := M6.callB hb7
      refine wl_q (r_move (.slice _ _ _) rfl) rfl rfl ?_
      refine wl_cal cal11 rfl rfl rfl ?_
      refine (ref07_Check _ _ _ _ xs (R.mem M7)).mono ?_
      rintro _ w8 ⟨v8, rfl, ⟨rfl, hb8⟩⟩
      refine ⟨_, rfl, ?_⟩
      have M8 := M7.callB hb8
      refine wl_q (r_bin (.bool (decide _)) rfl rfl rfl) rfl rfl ?_
      refine wl_re 54 (.bool false) (bF (fun h => h rfl)).symm ?_
      refine wl_q (r_pick false (.bool false) rfl rfl) rfl rfl ?_
      refine wl_nil ?_
      refine thenN ?_
      refine W_condF rfl ?_
      refine W_skip ?_
      refine thenN ?_
      refine W_seq ?_
      refine W_region ?_
      refine wl_q (r_move (.slice _ _ _) rfl) rfl rfl ?_
      refine wl_cal cal8 rfl rfl rfl ?_
      refine (ref07_Sort _ _ _ _ ys (R'.mem M8) (by omega)).mono ?_
      rintro _ w9 ⟨v9, rfl, ⟨A9, n9, c9, e9, rfl, hR9, hM9⟩⟩
      refine ⟨_, rfl, ?_⟩
      have M9 : Mem _ _ [_, _, _] _ := M8.call0 hM9
      refine wl_q (r_move (.tuple (List.toArray _)) rfl) rfl rfl ?_
      refine wl_q (r_ext (.slice _ _ _) rfl rfl) rfl rfl ?_
      refine wl_q (r_ext (.int _ _) rfl rfl) rfl rfl ?_
      refine wl_q (r_assign (.slice _ _ _) rfl) rfl rfl ?_
      refine wl_q (r_assign (.int _ _) rfl) rfl rfl ?_
      refine wl_nil ?_
      refine thenN ?_
      refine W_seq ?_
      refine W_seq ?_
      refine W_region ?_
      refine wl_q (r_move (.int _ _) rfl) rfl rfl ?_
      refine wl_q (r_bin (.bool (decide _)) rfl rfl rfl) rfl rfl ?_
      refine wl_q (r_move (.bool (decide _)) rfl) rfl rfl ?_
      refine wl_splitD 63 rfl (fun g63 => ?_) (fun g63 => ?_)
      · skip
        refine wl_skip rfl rfl ?_
        refine wl_skip rfl rfl ?_
        refine wl_q (r_pick true (.bool true) rfl rfl) rfl rfl ?_
        refine wl_nil ?_
        refine thenN ?_
        refine W_condT rfl ?_
        refine W_seq ?_
        refine W_region ?_
        refine wl_q (r_assign (.bool true) rfl) rfl rfl ?_
        refine wl_nil ?_
        refine thenN ?_
        refine W_ret ?_
        refine thenR ?_
        skip
        refine fin1 (.bool true) rfl ?_
        exact ⟨rfl, M9.below⟩
      · skip
        refine wl_q (r_move (.int _ _) rfl) rfl rfl ?_
        refine wl_q (r_bin (.bool (decide _)) rfl rfl rfl) rfl rfl ?_
        refine wl_q (r_pick false (.bool (decide _)) rfl rfl) rfl rfl ?_
        refine wl_nil ?_
        refine thenN ?_
        refine W_condD rfl (fun h66 => ?_) (fun h66 => ?_)
        · skip
          refine W_seq ?_
          refine W_region ?_
          refine wl_q (r_assign (.bool true) rfl) rfl rfl ?_
          refine wl_nil ?_
          refine thenN ?_
          refine W_ret ?_
          refine thenR ?_
          skip
          refine fin1 (.bool true) rfl ?_
          exact ⟨rfl, M9.below⟩
        · skip
          obtain ⟨hkx, hex, hvx⟩ := sortV_ok (Decidable.not_not.1 g63)
          obtain ⟨hky, hey, hvy⟩ := sortV_ok (Decidable.not_not.1 h66)
          rw [hvx] at hR5
          rw [hvy] at hR9
          have hsx := sorted_B hkx
          have hsy := sorted_B hky
          have hl0 := hR5.1
          have hl1 := hR9.1
          rw [List.length_map, (sortB_perm xs).length_eq, hlen] at hl0
          rw [List.length_map, (sortB_perm ys).length_eq, hlen'] at hl1
          have hpx := (sortB_perm xs).length_eq
          refine W_skip ?_
          refine thenN ?_
          refine W_seq ?_
          refine W_region ?_
          refine wl_q (r_move (.slice _ _ _) rfl) rfl rfl ?_
          refine wl_q (r_move (.int _ _) rfl) rfl rfl ?_
          refine wl_cal cal12 rfl rfl rfl ?_
          refine (view_Find _ key _ _ _ (sortB xs) (hR5.rd M9 (nthMem (i := 1) rfl)) hsx).mono ?_
          rintro _ w10 ⟨v10, rfl, ⟨rfl, hb10⟩⟩
          refine ⟨_, rfl, ?_⟩
          have M10 := M9.callB hb10
          refine wl_q (r_move (.tuple (List.toArray _)) rfl) rfl rfl ?_
          refine wl_q (r_ext (.int _ _) rfl rfl) rfl rfl ?_
          refine wl_q (r_ext (.bool (decide _)) rfl rfl) rfl rfl ?_
          refine wl_q (r_assign (.int _ _) rfl) rfl rfl ?_
          refine wl_q (r_assign (.bool (decide _)) rfl) rfl rfl ?_
          refine wl_nil ?_
          refine thenN ?_
          refine W_seq ?_
          refine W_region ?_
          refine wl_q (r_assign (.int _ _) rfl) rfl rfl ?_
          refine wl_nil ?_
          refine thenN ?_
          refine W_seq ?_
          refine W_seq ?_
          refine W_region ?_
          refine wl_q (r_assign (.int _ _) rfl) rfl rfl ?_
          refine wl_nil ?_
          refine thenN ?_
          refine W_block ?_
          refine W_loop (σ := Nat) [2, 6, 9, 11, 13, 14] (fun k => [(15, .int .i64 (lessI key ((sortB xs).take k) : Int)), (16, .int .i64 (k : Int))]) (fun k w' => k ≤ n ∧ Mem w [] [e4, e5, e9] w') (fun k => n - k) 0 (agC rfl (agC rfl agN)) (⟨by omega, M10⟩) ?_
          rintro k ρ11 w11 ⟨hk, hM11⟩
          have hll := lessI_len key ((sortB xs).take k)
          have htl := List.length_take_le k (sortB xs)
          refine W_seq ?_
          refine W_seq ?_
          refine W_region ?_
          refine wl_q (r_move (.int _ _) rfl) rfl rfl ?_
          refine wl_q (r_move (.slice _ _ _) rfl) rfl rfl ?_
          refine wl_q (r_lenS Try.underlying22 rfl) rfl rfl ?_
          refine wl_q (r_bin (.bool (decide _)) rfl rfl rfl) rfl rfl ?_
          refine wl_nil ?_
          refine thenN ?_
          refine W_condD rfl (fun h76 => ?_) (fun h76 => ?_)
          · skip
            obtain ⟨xb, hxb⟩ := getSome (xs := sortB xs) (k := k) rfl (by omega)
            refine W_skip ?_
            refine thenN ?_
            refine W_seq ?_
            refine W_block ?_
            refine W_seq ?_
            refine W_region ?_
            refine wl_q (r_move (.slice _ _ _) rfl) rfl rfl ?_
            refine wl_q (r_move (.int _ _) rfl) rfl rfl ?_
            refine wl_q (r_idxR (k) sl22 rfl rfl rfl ((hR5.rd hM11 (nthMem (i := 1) rfl)).below_len (mapGet bodyCells hxb)) ((hR5.rd hM11 (nthMem (i := 1) rfl)).someK (mapGet bodyCells hxb))) rfl rfl ?_
            refine wl_q (r_fieldAddrE 0 fld38_0 (hR5.rd hM11 (nthMem (i := 1) rfl)) (Nat.lt_of_le_of_lt (Nat.zero_le _) ((hR5.rd hM11 (nthMem (i := 1) rfl)).below_len (mapGet bodyCells hxb))) rfl) rfl rfl ?_
            refine wl_q (r_ldE (o := 0) (.int _ _) one23 (hR5.rd hM11 (nthMem (i := 1) rfl)) (mapGet bodyCells hxb) rfl rfl) rfl rfl ?_
            refine wl_q (r_move (.int _ _) rfl) rfl rfl ?_
            refine wl_q (r_bin (.bool (decide _)) rfl rfl rfl) rfl rfl ?_
            refine wl_nil ?_
            refine thenN ?_
            refine W_condD rfl (fun h85 => ?_) (fun h85 => ?_)
            · skip
              refine W_region ?_
              refine wl_q (r_move (.int _ _) rfl) rfl rfl ?_
              refine wl_q (r_add rfl rfl (by omega) (by omega)) rfl rfl ?_
              refine wl_q (r_assign (.int _ _) rfl) rfl rfl ?_
              refine wl_nil ?_
              refine blkN ?_
              refine thenN ?_
              refine W_region ?_
              refine wl_q (r_move (.int _ _) rfl) rfl rfl ?_
              refine wl_q (r_add rfl rfl (by omega) (by omega)) rfl rfl ?_
              refine wl_q (r_assign (.int _ _) rfl) rfl rfl ?_
              refine wl_nil ?_
              refine roundN (k + 1) (agC (iv rfl (by have := lessI_yes hxb h85; omega)) (agC rfl agN)) (akC rfl (akC rfl (akC rfl (akC rfl (akC rfl (akC rfl akN)))))) ?_ ?_
              · exact ⟨by omega, hM11⟩
              · omega
            · skip
              refine W_skip ?_
              refine blkN ?_
              refine thenN ?_
              refine W_region ?_
              refine wl_q (r_move (.int _ _) rfl) rfl rfl ?_
              refine wl_q (r_add rfl rfl (by omega) (by omega)) rfl rfl ?_
              refine wl_q (r_assign (.int _ _) rfl) rfl rfl ?_
              refine wl_nil ?_
              refine roundN (k + 1) (agC (iv rfl (by have := lessI_no hxb h85; omega)) (agC rfl agN)) (akC rfl (akC rfl (akC rfl (akC rfl (akC rfl (akC rfl akN)))))) ?_ ?_
              · exact ⟨by omega, hM11⟩
              · omega
          · skip
            refine W_exit ?_
            refine thenX ?_
            refine roundX ?_
            refine blkH ?_
            refine thenN ?_
            refine W_seq ?_
            refine W_region ?_
            refine wl_q (r_move (.int _ _) rfl) rfl rfl ?_
            refine wl_q (r_move (.int _ _) rfl) rfl rfl ?_
            refine wl_q (r_bin (.bool (decide _)) rfl rfl rfl) rfl rfl ?_
            refine wl_re 90 (.bool true) (bT (by rw [List.take_of_length_le (by omega)])).symm ?_
            refine wl_q (r_move (.bool true) rfl) rfl rfl ?_
            refine wl_q (r_move (.bool (decide _)) rfl) rfl rfl ?_
            refine wl_q (r_move (.slice _ _ _) rfl) rfl rfl ?_
            refine wl_q (r_move (.int _ _) rfl) rfl rfl ?_
            refine wl_cal cal13 rfl rfl rfl ?_
            refine (ref06_Find _ key _ _ _ (sortB xs) (hR5.rd hM11 (nthMem (i := 1) rfl))).mono ?_
            rintro _ w12 ⟨v12, rfl, ⟨rfl, hb12⟩⟩
            refine ⟨_, rfl, ?_⟩
            have M12 := hM11.callB hb12
            refine wl_q (r_bin (.bool (decide _)) rfl rfl rfl) rfl rfl ?_
            refine wl_q (r_binB _ Try.underlying4 rfl rfl rfl) rfl rfl ?_
            refine wl_re 97 (.bool true) (bv rfl (by simp)) ?_
            refine wl_q (r_pick true (.bool true) rfl rfl) rfl rfl ?_
            refine wl_q (r_move (.bool true) rfl) rfl rfl ?_
            refine wl_q (r_move (.slice _ _ _) rfl) rfl rfl ?_
            refine wl_q (r_move (.slice _ _ _) rfl) rfl rfl ?_
            refine wl_cal cal16 rfl rfl rfl ?_
            refine (view_Diff _ _ _ _ (sortB xs) (hR5.rd M12 (nthMem (i := 1) rfl)) (by omega) _ _ _ (sortB ys) (hR9.rd M12 (nthMem (i := 2) rfl)) (by omega) hsx hsy).mono ?_
            rintro _ w13 ⟨v13, rfl, ⟨q0, q1, q2, rfl, hq0, hq1, hq2, hM13⟩⟩
            refine ⟨_, rfl, ?_⟩
            have M13 : Mem _ _ [_, _, _, _, _, _] _ := M12.call0 hM13
            refine wl_cal cal15 rfl rfl rfl ?_
            refine (law07_change _ q0 q1 q2).mono ?_
            rintro _ w14 ⟨v14, rfl, ⟨rfl, hb14⟩⟩
            refine ⟨_, rfl, ?_⟩
            have M14 := M13.callB hb14
            refine wl_q (r_move (.slice _ _ _) rfl) rfl rfl ?_
            refine wl_q (r_move (.slice _ _ _) rfl) rfl rfl ?_
            refine wl_cal cal17 rfl rfl rfl ?_
            refine (ref07_Diff _ _ _ _ (sortB xs) (hR5.rd M14 (nthMem (i := 1) rfl)) (by omega) _ _ _ (sortB ys) (hR9.rd M14 (nthMem (i := 2) rfl)) (by omega)).mono ?_
            rintro _ w15 ⟨v15, rfl, ⟨p0, p1, p2, rfl, hp0, hp1, hp2, hM15⟩⟩
            refine ⟨_, rfl, ?_⟩
            have M15 : Mem _ _ [_, _, _, _, _, _, _, _, _] _ := M14.call0 hM15
            refine wl_cal cal14 rfl rfl rfl ?_
            refine (ref07_Same _ _ _ _ _ (hq0.rd M15 (nthMem (i := 3) rfl)) _ _ _ _ (hq1.rd M15 (nthMem (i := 4) rfl)) _ _ _ _ (hq2.rd M15 (nthMem (i := 5) rfl)) _ _ _ _ (hp0.rd M15 (nthMem (i := 6) rfl)) _ _ _ _ (hp1.rd M15 (nthMem (i := 7) rfl)) _ _ _ _ (hp2.rd M15 (nthMem (i := 8) rfl))).mono ?_
            rintro _ w16 ⟨v16, rfl, ⟨rfl, hb16⟩⟩
            refine ⟨_, rfl, ?_⟩
            have M16 := M15.callB hb16
            refine wl_re 107 (.bool true) (bT ⟨rfl, rfl, rfl⟩).symm ?_
            refine wl_q (r_pick true (.bool true) rfl rfl) rfl rfl ?_
            refine wl_q (r_assign (.bool true) rfl) rfl rfl ?_
            refine wl_nil ?_
            refine thenN ?_
            refine W_ret ?_
            skip
            refine fin1 (.bool true) rfl ?_
            exact ⟨rfl, M16.below⟩

end Go.Proofs.Ytfgbmegchdjfeaa
