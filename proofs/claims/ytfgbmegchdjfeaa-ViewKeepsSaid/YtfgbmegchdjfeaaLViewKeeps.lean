/- Walks of Go functions over the frame of this claim: what each computes, for every input of the stated types (LViewKeeps). -/
import Derived.Test.YtfgbmegchdjfeaaTy
import Derived.Test.YtfgbmegchdjfeaaAw7
set_option linter.unusedVariables false
set_option linter.unusedSimpArgs false
set_option linter.unnecessarySimpa false
namespace Go.Proofs.Ytfgbmegchdjfeaa
open Go.Bil
open Go.RowKit (Below)
open Go.Proofs

set_option maxHeartbeats 16000000 in
theorem law_ViewKeeps (w : World) (A : Option Addr) (n c : Nat) (xs : List Body) (R : Rd w 10 A n (xs.map bodyCells)) (B : Option Addr) (m c' : Nat) (ys : List Body) (R' : Rd w 10 B m (ys.map bodyCells)) :
    Calls Try.prog 5 #[.slice A n c, .slice B m c'] w (fun ex w' => ∃ v, ex = .returned v ∧ (fun v w' => v = .bool true ∧ Below w.heap.size w w') v w') := by
  have hlen : xs.length = n := by simpa using R.len
  have hbd := R.bound
  have hlen' : ys.length = m := by simpa using R'.len
  have hvn := sortV_len xs
  refine calls_of_W #[.tmp 4] 110 Try.func5 rfl Try.results5 Try.ntmps5 rfl ?_
  have M0 := Mem.refl w
  refine W_seq ?_
  refine W_region ?_
  refine wl_q (r_assign (.bool false) rfl) rfl rfl ?_
  refine wl_nil ?_
  refine thenN ?_
  refine W_seq ?_
  refine W_seq ?_
  refine W_region ?_
  refine wl_cal cal6 rfl rfl rfl ?_
  refine (aw07 _).mono ?_
  rintro _ w1 ⟨v1, rfl, ⟨rfl, hb1⟩⟩
  refine ⟨_, rfl, ?_⟩
  have M1 := M0.callB hb1
  refine wl_q (r_notB false rfl rfl) rfl rfl ?_
  refine wl_q (r_move (.bool false) rfl) rfl rfl ?_
  refine wl_q (r_move (.slice _ _ _) rfl) rfl rfl ?_
  refine wl_q (r_lenS Try.underlying22 rfl) rfl rfl ?_
  refine wl_q (r_bin (.bool (decide _)) rfl rfl rfl) rfl rfl ?_
  refine wl_q (r_pick false (.bool (decide _)) rfl rfl) rfl rfl ?_
  refine wl_q (r_move (.bool (decide _)) rfl) rfl rfl ?_
  refine wl_splitD 26 rfl (fun g26 => ?_) (fun g26 => ?_)
  · skip
    refine wl_skip rfl rfl ?_
    refine wl_skip rfl rfl ?_
    refine wl_skip rfl rfl ?_
    refine wl_q (r_pick true (.bool true) rfl rfl) rfl rfl ?_
    refine wl_nil ?_
    refine thenN ?_
    refine W_condT rfl ?_
    refine W_seq ?_
    refine W_region ?_
    refine wl_cal cal6 rfl rfl rfl ?_
    refine (aw07 _).mono ?_
    rintro _ w2 ⟨v2, rfl, ⟨rfl, hb2⟩⟩
    refine ⟨_, rfl, ?_⟩
    have M2 := M1.callB hb2
    refine wl_q (r_assign (.bool true) rfl) rfl rfl ?_
    refine wl_nil ?_
    refine thenN ?_
    refine W_ret ?_
    refine thenR ?_
    skip
    refine fin1 (.bool true) rfl ?_
    exact ⟨rfl, M2.below⟩
  · skip
    refine wl_q (r_move (.slice _ _ _) rfl) rfl rfl ?_
    refine wl_q (r_lenS Try.underlying22 rfl) rfl rfl ?_
    refine wl_q (r_bin (.bool (decide _)) rfl rfl rfl) rfl rfl ?_
    refine wl_q (r_pick false (.bool (decide _)) rfl rfl) rfl rfl ?_
    refine wl_nil ?_
    refine thenN ?_
    refine W_condD rfl (fun h30 => ?_) (fun h30 => ?_)
    · skip
      refine W_seq ?_
      refine W_region ?_
      refine wl_cal cal6 rfl rfl rfl ?_
      refine (aw07 _).mono ?_
      rintro _ w3 ⟨v3, rfl, ⟨rfl, hb3⟩⟩
      refine ⟨_, rfl, ?_⟩
      have M3 := M1.callB hb3
      refine wl_q (r_assign (.bool true) rfl) rfl rfl ?_
      refine wl_nil ?_
      refine thenN ?_
      refine W_ret ?_
      refine thenR ?_
      skip
      refine fin1 (.bool true) rfl ?_
      exact ⟨rfl, M3.below⟩
    · skip
      refine W_skip ?_
      refine thenN ?_
      refine W_seq ?_
      refine W_region ?_
      refine wl_bslice [] [] rfl sl22 M1 rfl rfl rfl rfl (lens_of rfl) (by decide) (fun b4 w4 M4 => ?_)
      refine wl_q (r_move (.slice _ _ _) rfl) rfl rfl ?_
      refine wl_appendR 0 (xs.map bodyCells) sl22 M4 rfl rfl rfl rfl rfl (RowIs.empty b4) (R.mem M4) (bodies_one xs) (by omega) (fun A5 c5 e5 w5 M5 hR5 hA5 => ?_)
      have hOwn := hR5
      rw [List.nil_append] at hOwn
      refine wl_q (r_assign (.slice _ _ _) rfl) rfl rfl ?_
      refine wl_nil ?_
      refine thenN ?_
      refine W_seq ?_
      refine W_region ?_
      refine wl_q (r_move (.slice _ _ _) rfl) rfl rfl ?_
      refine wl_cal cal7 rfl rfl rfl ?_
      refine (view_Sort _ _ _ _ xs (hOwn.rd M5 (nthMem (i := 0) rfl)) (by omega)).mono ?_
      rintro _ w6 ⟨v6, rfl, ⟨A6, n6, c6, e6, rfl, hR6, hM6⟩⟩
      refine ⟨_, rfl, ?_⟩
      have M6 : Mem _ _ [_, _] _ := M5.call0 hM6
      have hvn1 := hR6.1
      rw [List.length_map] at hvn1
      refine wl_q (r_move (.tuple (List.toArray _)) rfl) rfl rfl ?_
      refine wl_q (r_ext (.slice _ _ _) rfl rfl) rfl rfl ?_
      refine wl_q (r_ext (.int _ _) rfl rfl) rfl rfl ?_
      refine wl_q (r_assign (.slice _ _ _) rfl) rfl rfl ?_
      refine wl_q (r_assign (.int _ _) rfl) rfl rfl ?_
      refine wl_nil ?_
      refine thenN ?_
      refine W_seq ?_
      refine W_seq ?_
      refine W_region ?_
      refine wl_q (r_assign (.int _ _) rfl) rfl rfl ?_
      refine wl_nil ?_
      refine thenN ?_
      refine W_block ?_
      refine W_loop (σ := Nat × List Body × Ent) [0, 1, 4, 5, 6] (fun (i, vs1, en1) => [(8, .int .i64 (i : Int))]) (fun (i, vs1, en1) w' => (i ≤ n6 ∧ RowIs 38 10 A6 n6 c6 (vs1.map bodyCells) en1) ∧ Mem w [] [e5, en1] w') (fun (i, vs1, en1) => n6 - i) (0, (sortV xs).1, e6) (agC rfl agN) (⟨⟨by omega, hR6⟩, M6⟩) ?_
      rintro ⟨i, vs1, en1⟩ ρ7 w7 ⟨⟨hi, hvs1⟩, hM7⟩
      have hvl : vs1.length = n6 := by simpa using hvs1.1
      refine W_seq ?_
      refine W_seq ?_
      refine W_region ?_
      refine wl_q (r_move (.int _ _) rfl) rfl rfl ?_
      refine wl_q (r_move (.slice _ _ _) rfl) rfl rfl ?_
      refine wl_q (r_lenS Try.underlying22 rfl) rfl rfl ?_
      refine wl_q (r_bin (.bool (decide _)) rfl rfl rfl) rfl rfl ?_
      refine wl_nil ?_
      refine thenN ?_
      refine W_condD rfl (fun h43 => ?_) (fun h43 => ?_)
      · skip
        obtain ⟨xb, hxb⟩ := getSome (xs := vs1) (k := i) rfl (by omega)
        refine W_skip ?_
        refine thenN ?_
        refine W_seq ?_
        refine W_block ?_
        refine W_region ?_
        refine wl_q (r_move (.slice _ _ _) rfl) rfl rfl ?_
        refine wl_q (r_move (.int _ _) rfl) rfl rfl ?_
        refine wl_q (r_idxR (i) sl22 rfl rfl rfl ((hvs1.rd hM7 (nthMem (i := 1) rfl)).below_len (mapGet bodyCells hxb)) ((hvs1.rd hM7 (nthMem (i := 1) rfl)).someK (mapGet bodyCells hxb))) rfl rfl ?_
        refine wl_q (r_fieldAddrE 1 fld38_1 (hvs1.rd hM7 (nthMem (i := 1) rfl)) (Nat.lt_of_le_of_lt (Nat.zero_le _) ((hvs1.rd hM7 (nthMem (i := 1) rfl)).below_len (mapGet bodyCells hxb))) rfl) rfl rfl ?_
        refine wl_stR1 (o := 1) 1 (.int _ _) one21 hM7 rfl hvs1 (mapGet bodyCells hxb) rfl rfl rfl rfl rfl (fun e8 w8 hR8 M8 => ?_)
        have hQ8 := hR8.mapSet (f := bodyCells) (x := { xb with radius := -1 }) rfl
        refine wl_nil ?_
        refine blkN ?_
        refine thenN ?_
        refine W_region ?_
        refine wl_q (r_move (.int _ _) rfl) rfl rfl ?_
        refine wl_q (r_add rfl rfl (by omega) (by omega)) rfl rfl ?_
        refine wl_q (r_assign (.int _ _) rfl) rfl rfl ?_
        refine wl_nil ?_
        refine roundN (i + 1, vs1.set i { xb with radius := -1 }, e8) (agC rfl agN) (akC rfl (akC rfl (akC rfl (akC rfl (akC rfl akN))))) ?_ ?_
        · exact ⟨⟨by omega, hQ8⟩, M8⟩
        · (show n6 - (i + 1) < n6 - i; omega)
      · skip
        refine W_exit ?_
        refine thenX ?_
        refine roundX ?_
        refine blkH ?_
        refine thenN ?_
        refine W_seq ?_
        refine W_region ?_
        refine wl_q (r_move (.slice _ _ _) rfl) rfl rfl ?_
        refine wl_cal cal10 rfl rfl rfl ?_
        refine (view_Check _ _ _ _ xs (hOwn.rd hM7 (nthMem (i := 0) rfl))).mono ?_
        rintro _ w9 ⟨v9, rfl, ⟨rfl, hb9⟩⟩
        refine ⟨_, rfl, ?_⟩
        have M9 := hM7.callB hb9
        refine wl_nil ?_
        refine thenN ?_
        refine W_seq ?_
        refine W_region ?_
        refine wl_q (r_move (.slice _ _ _) rfl) rfl rfl ?_
        refine wl_cal cal8 rfl rfl rfl ?_
        refine (ref07_Sort _ _ _ _ xs (R.mem M9) (by omega)).mono ?_
        rintro _ w10 ⟨v10, rfl, ⟨A10, n10, c10, e10, rfl, hR10, hM10⟩⟩
        refine ⟨_, rfl, ?_⟩
        have M10 : Mem _ _ [_, _, _] _ := M9.call0 hM10
        refine wl_q (r_move (.tuple (List.toArray _)) rfl) rfl rfl ?_
        refine wl_q (r_ext (.slice _ _ _) rfl rfl) rfl rfl ?_
        refine wl_q (r_ext (.int _ _) rfl rfl) rfl rfl ?_
        refine wl_q (r_assign (.slice _ _ _) rfl) rfl rfl ?_
        refine wl_q (r_assign (.int _ _) rfl) rfl rfl ?_
        refine wl_nil ?_
        refine thenN ?_
        refine W_seq ?_
        refine W_region ?_
        refine wl_q (r_move (.slice _ _ _) rfl) rfl rfl ?_
        refine wl_cal cal8 rfl rfl rfl ?_
        refine (ref07_Sort _ _ _ _ ys (R'.mem M10) (by omega)).mono ?_
        rintro _ w11 ⟨v11, rfl, ⟨A11, n11, c11, e11, rfl, hR11, hM11⟩⟩
        refine ⟨_, rfl, ?_⟩
        have M11 : Mem _ _ [_, _, _, _] _ := M10.call0 hM11
        refine wl_q (r_move (.tuple (List.toArray _)) rfl) rfl rfl ?_
        refine wl_q (r_ext (.slice _ _ _) rfl rfl) rfl rfl ?_
        refine wl_q (r_ext (.int _ _) rfl rfl) rfl rfl ?_
        refine wl_q (r_assign (.slice _ _ _) rfl) rfl rfl ?_
        refine wl_q (r_assign (.int _ _) rfl) rfl rfl ?_
        refine wl_nil ?_
        refine thenN ?_
        refine W_seq ?_
        refine W_seq ?_
        refine W_region ?_
        refine wl_q (r_move (.int _ _) rfl) rfl rfl ?_
        refine wl_q (r_bin (.bool (decide _)) rfl rfl rfl) rfl rfl ?_
        refine wl_q (r_move (.bool (decide _)) rfl) rfl rfl ?_
        refine wl_splitD 64 rfl (fun g64 => ?_) (fun g64 => ?_)
        · skip
          refine wl_skip rfl rfl ?_
          refine wl_skip rfl rfl ?_
          refine wl_q (r_pick true (.bool true) rfl rfl) rfl rfl ?_
          refine wl_nil ?_
          refine thenN ?_
          refine W_condT rfl ?_
          refine W_seq ?_
          refine W_region ?_
          refine wl_q (r_move (.slice _ _ _) rfl) rfl rfl ?_
          refine wl_q (r_move (.slice _ _ _) rfl) rfl rfl ?_
          refine wl_cal cal9 rfl rfl rfl ?_
          refine (ref06_Same _ _ _ _ xs (hOwn.rd M11 (nthMem (i := 0) rfl)) _ _ _ xs (R.mem M11)).mono ?_
          rintro _ w12 ⟨v12, rfl, ⟨rfl, hb12⟩⟩
          refine ⟨_, rfl, ?_⟩
          have M12 := M11.callB hb12
          refine wl_re 70 (.bool true) (bT rfl).symm ?_
          refine wl_q (r_assign (.bool true) rfl) rfl rfl ?_
          refine wl_nil ?_
          refine thenN ?_
          refine W_ret ?_
          refine thenR ?_
          skip
          refine fin1 (.bool true) rfl ?_
          exact ⟨rfl, M12.below⟩
        · skip
          refine wl_q (r_move (.int _ _) rfl) rfl rfl ?_
          refine wl_q (r_bin (.bool (decide _)) rfl rfl rfl) rfl rfl ?_
          refine wl_q (r_pick false (.bool (decide _)) rfl rfl) rfl rfl ?_
          refine wl_nil ?_
          refine thenN ?_
          refine W_condD rfl (fun h67 => ?_) (fun h67 => ?_)
          · skip
            refine W_seq ?_
            refine W_region ?_
            refine wl_q (r_move (.slice _ _ _) rfl) rfl rfl ?_
            refine wl_q (r_move (.slice _ _ _) rfl) rfl rfl ?_
            refine wl_cal cal9 rfl rfl rfl ?_
            refine (ref06_Same _ _ _ _ xs (hOwn.rd M11 (nthMem (i := 0) rfl)) _ _ _ xs (R.mem M11)).mono ?_
            rintro _ w13 ⟨v13, rfl, ⟨rfl, hb13⟩⟩
            refine ⟨_, rfl, ?_⟩
            have M13 := M11.callB hb13
            refine wl_re 70 (.bool true) (bT rfl).symm ?_
            refine wl_q (r_assign (.bool true) rfl) rfl rfl ?_
            refine wl_nil ?_
            refine thenN ?_
            refine W_ret ?_
            refine thenR ?_
            skip
            refine fin1 (.bool true) rfl ?_
            exact ⟨rfl, M13.below⟩
          · skip
            obtain ⟨hkx, hex, hvx⟩ := sortV_ok (Decidable.not_not.1 g64)
            obtain ⟨hky, hey, hvy⟩ := sortV_ok (Decidable.not_not.1 h67)
            rw [hvx] at hR10
            rw [hvy] at hR11
            have hsx := sorted_B hkx
            have hsy := sorted_B hky
            have hl0 := hR10.1
            have hl1 := hR11.1
            rw [List.length_map, (sortB_perm xs).length_eq, hlen] at hl0
            rw [List.length_map, (sortB_perm ys).length_eq, hlen'] at hl1
            have hpx := (sortB_perm xs).length_eq
            refine W_skip ?_
            refine thenN ?_
            refine W_seq ?_
            refine W_region ?_
            refine wl_q (r_move (.slice _ _ _) rfl) rfl rfl ?_
            refine wl_q (r_move (.slice _ _ _) rfl) rfl rfl ?_
            refine wl_q (r_move (.slice _ _ _) rfl) rfl rfl ?_
            refine wl_q (r_move (.slice _ _ _) rfl) rfl rfl ?_
            refine wl_cal cal16 rfl rfl rfl ?_
            refine (view_Diff _ _ _ _ (sortB xs) (hR10.rd M11 (nthMem (i := 2) rfl)) (by omega) _ _ _ (sortB ys) (hR11.rd M11 (nthMem (i := 3) rfl)) (by omega) hsx hsy).mono ?_
            rintro _ w14 ⟨v14, rfl, ⟨q0, q1, q2, rfl, hq0, hq1, hq2, hM14⟩⟩
            refine ⟨_, rfl, ?_⟩
            have M14 : Mem _ _ [_, _, _, _, _, _, _] _ := M11.call0 hM14
            refine wl_cal cal18 rfl rfl rfl ?_
            refine (view_Apply _ _ _ _ (sortB xs) (hR10.rd M14 (nthMem (i := 2) rfl)) (by omega) _ _ _ (sortB ys) (hR11.rd M14 (nthMem (i := 3) rfl)) (by omega) hsx hsy _ _ _ _ _ _ _ _ _ (chgK (sortB ys) (sortB xs)) (hq2.rd M14 (nthMem (i := 6) rfl))).mono ?_
            rintro _ w15 ⟨v15, rfl, ⟨z, rfl, hz, hM15⟩⟩
            refine ⟨_, rfl, ?_⟩
            have M15 : Mem _ _ [_, _, _, _, _, _, _, _] _ := M14.call0 hM15
            rw [apply_diff hsx hsy] at hz
            have hzn := hz.1
            rw [List.length_map] at hzn
            have hpy := (sortB_perm ys).length_eq
            refine wl_q (r_assign (.slice _ _ _) rfl) rfl rfl ?_
            refine wl_nil ?_
            refine thenN ?_
            refine W_seq ?_
            refine W_seq ?_
            refine W_region ?_
            refine wl_q (r_assign (.int _ _) rfl) rfl rfl ?_
            refine wl_nil ?_
            refine thenN ?_
            refine W_block ?_
            refine W_loop (σ := Nat × List Body × Ent) [0, 1, 4, 5, 9, 11, 13] (fun (i, vs7, en7) => [(14, .int .i64 (i : Int))]) (fun (i, vs7, en7) w' => (i ≤ z.n ∧ RowIs 38 10 z.A z.n z.c (vs7.map bodyCells) en7) ∧ Mem w [] [e5, en1, e10, e11, q0.e, q1.e, q2.e, en7] w') (fun (i, vs7, en7) => z.n - i) (0, sortB ys, z.e) (agC rfl agN) (⟨⟨by omega, hz⟩, M15⟩) ?_
            rintro ⟨i, vs7, en7⟩ ρ16 w16 ⟨⟨hi, hvs7⟩, hM16⟩
            have hvl : vs7.length = z.n := by simpa using hvs7.1
            refine W_seq ?_
            refine W_seq ?_
            refine W_region ?_
            refine wl_q (r_move (.int _ _) rfl) rfl rfl ?_
            refine wl_q (r_move (.slice _ _ _) rfl) rfl rfl ?_
            refine wl_q (r_lenS Try.underlying22 rfl) rfl rfl ?_
            refine wl_q (r_bin (.bool (decide _)) rfl rfl rfl) rfl rfl ?_
            refine wl_nil ?_
            refine thenN ?_
            refine W_condD rfl (fun h80 => ?_) (fun h80 => ?_)
            · skip
              obtain ⟨xb, hxb⟩ := getSome (xs := vs7) (k := i) rfl (by omega)
              refine W_skip ?_
              refine thenN ?_
              refine W_seq ?_
              refine W_block ?_
              refine W_region ?_
              refine wl_q (r_move (.slice _ _ _) rfl) rfl rfl ?_
              refine wl_q (r_move (.int _ _) rfl) rfl rfl ?_
              refine wl_q (r_idxR (i) sl22 rfl rfl rfl ((hvs7.rd hM16 (nthMem (i := 7) rfl)).below_len (mapGet bodyCells hxb)) ((hvs7.rd hM16 (nthMem (i := 7) rfl)).someK (mapGet bodyCells hxb))) rfl rfl ?_
              refine wl_q (r_fieldAddrE 1 fld38_1 (hvs7.rd hM16 (nthMem (i := 7) rfl)) (Nat.lt_of_le_of_lt (Nat.zero_le _) ((hvs7.rd hM16 (nthMem (i := 7) rfl)).below_len (mapGet bodyCells hxb))) rfl) rfl rfl ?_
              refine wl_stR1 (o := 1) 7 (.int _ _) one21 hM16 rfl hvs7 (mapGet bodyCells hxb) rfl rfl rfl rfl rfl (fun e17 w17 hR17 M17 => ?_)
              have hQ17 := hR17.mapSet (f := bodyCells) (x := { xb with radius := -1 }) rfl
              refine wl_nil ?_
              refine blkN ?_
              refine thenN ?_
              refine W_region ?_
              refine wl_q (r_move (.int _ _) rfl) rfl rfl ?_
              refine wl_q (r_add rfl rfl (by omega) (by omega)) rfl rfl ?_
              refine wl_q (r_assign (.int _ _) rfl) rfl rfl ?_
              refine wl_nil ?_
              refine roundN (i + 1, vs7.set i { xb with radius := -1 }, e17) (agC rfl agN) (akC rfl (akC rfl (akC rfl (akC rfl (akC rfl (akC rfl (akC rfl akN))))))) ?_ ?_
              · exact ⟨⟨by omega, hQ17⟩, M17⟩
              · (show z.n - (i + 1) < z.n - i; omega)
            · skip
              refine W_exit ?_
              refine thenX ?_
              refine roundX ?_
              refine blkH ?_
              refine thenN ?_
              refine W_seq ?_
              refine W_region ?_
              refine wl_q (r_move (.slice _ _ _) rfl) rfl rfl ?_
              refine wl_cal cal8 rfl rfl rfl ?_
              refine (ref07_Sort _ _ _ _ xs (R.mem hM16) (by omega)).mono ?_
              rintro _ w18 ⟨v18, rfl, ⟨A18, n18, c18, e18, rfl, hR18, hM18⟩⟩
              refine ⟨_, rfl, ?_⟩
              have M18 : Mem _ _ [_, _, _, _, _, _, _, _, _] _ := hM16.call0 hM18
              rw [hvx] at hR18
              refine wl_q (r_move (.tuple (List.toArray _)) rfl) rfl rfl ?_
              refine wl_q (r_ext (.slice _ _ _) rfl rfl) rfl rfl ?_
              refine wl_q (r_ext (.int _ _) rfl rfl) rfl rfl ?_
              refine wl_q (r_assign (.slice _ _ _) rfl) rfl rfl ?_
              refine wl_q (r_assign (.int _ _) rfl) rfl rfl ?_
              refine wl_nil ?_
              refine thenN ?_
              refine W_seq ?_
              refine W_region ?_
              refine wl_q (r_move (.slice _ _ _) rfl) rfl rfl ?_
              refine wl_cal cal8 rfl rfl rfl ?_
              refine (ref07_Sort _ _ _ _ ys (R'.mem M18) (by omega)).mono ?_
              rintro _ w19 ⟨v19, rfl, ⟨A19, n19, c19, e19, rfl, hR19, hM19⟩⟩
              refine ⟨_, rfl, ?_⟩
              have M19 : Mem _ _ [_, _, _, _, _, _, _, _, _, _] _ := M18.call0 hM19
              rw [hvy] at hR19
              refine wl_q (r_move (.tuple (List.toArray _)) rfl) rfl rfl ?_
              refine wl_q (r_ext (.slice _ _ _) rfl rfl) rfl rfl ?_
              refine wl_q (r_ext (.int _ _) rfl rfl) rfl rfl ?_
              refine wl_q (r_assign (.slice _ _ _) rfl) rfl rfl ?_
              refine wl_q (r_assign (.int _ _) rfl) rfl rfl ?_
              refine wl_nil ?_
              refine thenN ?_
              refine W_seq ?_
              refine W_region ?_
              refine wl_q (r_move (.slice _ _ _) rfl) rfl rfl ?_
              refine wl_q (r_move (.slice _ _ _) rfl) rfl rfl ?_
              refine wl_cal cal9 rfl rfl rfl ?_
              refine (ref06_Same _ _ _ _ xs (hOwn.rd M19 (nthMem (i := 0) rfl)) _ _ _ xs (R.mem M19)).mono ?_
              rintro _ w20 ⟨v20, rfl, ⟨rfl, hb20⟩⟩
              refine ⟨_, rfl, ?_⟩
              have M20 := M19.callB hb20
              refine wl_re 99 (.bool true) (bT rfl).symm ?_
              refine wl_q (r_move (.bool true) rfl) rfl rfl ?_
              refine wl_q (r_move (.slice _ _ _) rfl) rfl rfl ?_
              refine wl_q (r_move (.slice _ _ _) rfl) rfl rfl ?_
              refine wl_cal cal9 rfl rfl rfl ?_
              refine (ref06_Same _ _ _ _ _ (hR10.rd M20 (nthMem (i := 2) rfl)) _ _ _ _ (hR18.rd M20 (nthMem (i := 8) rfl))).mono ?_
              rintro _ w21 ⟨v21, rfl, ⟨rfl, hb21⟩⟩
              refine ⟨_, rfl, ?_⟩
              have M21 := M20.callB hb21
              refine wl_re 103 (.bool true) (bT rfl).symm ?_
              refine wl_q (r_pick true (.bool true) rfl rfl) rfl rfl ?_
              refine wl_q (r_move (.bool true) rfl) rfl rfl ?_
              refine wl_q (r_move (.slice _ _ _) rfl) rfl rfl ?_
              refine wl_q (r_move (.slice _ _ _) rfl) rfl rfl ?_
              refine wl_cal cal9 rfl rfl rfl ?_
              refine (ref06_Same _ _ _ _ _ (hR11.rd M21 (nthMem (i := 3) rfl)) _ _ _ _ (hR19.rd M21 (nthMem (i := 9) rfl))).mono ?_
              rintro _ w22 ⟨v22, rfl, ⟨rfl, hb22⟩⟩
              refine ⟨_, rfl, ?_⟩
              have M22 := M21.callB hb22
              refine wl_re 108 (.bool true) (bT rfl).symm ?_
              refine wl_q (r_pick true (.bool true) rfl rfl) rfl rfl ?_
              refine wl_q (r_assign (.bool true) rfl) rfl rfl ?_
              refine wl_nil ?_
              refine thenN ?_
              refine W_ret ?_
              skip
              refine fin1 (.bool true) rfl ?_
              exact ⟨rfl, M22.below⟩

end Go.Proofs.Ytfgbmegchdjfeaa
