/- Walks of Go functions over the frame of this claim: what each computes, for every input of the stated types (LViewDiff). -/
import Derived.Test.YtaabkkdpjecknaaTy
import Derived.Test.YtaabkkdpjecknaaAw7
set_option linter.unusedVariables false
set_option linter.unusedSimpArgs false
set_option linter.unnecessarySimpa false
namespace Go.Proofs.Ytaabkkdpjecknaa
open Go.Bil
open Go.RowKit (Below)
open Go.Proofs

set_option maxHeartbeats 16000000 in
theorem law_ViewDiff (w : World) (A : Option Addr) (n c : Nat) (xs : List Body) (R : Rd w 10 A n (xs.map bodyCells)) (B : Option Addr) (m c' : Nat) (ys : List Body) (R' : Rd w 10 B m (ys.map bodyCells)) :
    Calls Try.prog 11 #[.slice A n c, .slice B m c'] w (fun ex w' => ∃ v, ex = .returned v ∧ (fun v w' => v = .bool true ∧ Below w.heap.size w w') v w') := by
  have hlen : xs.length = n := by simpa using R.len
  have hbd := R.bound
  have hlen' : ys.length = m := by simpa using R'.len
  refine calls_of_W #[.tmp 4] 97 Try.func11 rfl Try.results11 Try.ntmps11 rfl ?_
  have M0 := Mem.refl w
  refine W_seq ?_
  refine W_region ?_
  refine wl_q (r_assign (.bool false) rfl) rfl rfl ?_
  refine wl_nil ?_
  refine thenN ?_
  refine W_seq ?_
  refine W_seq ?_
  refine W_region ?_
  refine wl_cal cal29 rfl rfl rfl ?_
  refine (aw07 _).mono ?_
  rintro _ w1 ⟨v1, rfl, ⟨rfl, hb1⟩⟩
  refine ⟨_, rfl, ?_⟩
  have M1 := M0.callB hb1
  refine wl_q (r_notB false rfl rfl) rfl rfl ?_
  refine wl_q (r_move (.bool false) rfl) rfl rfl ?_
  refine wl_q (r_move (.slice _ _ _) rfl) rfl rfl ?_
  refine wl_q (r_lenS Try.underlying22 rfl) rfl rfl ?_
  refine wl_q (r_bin (.bool (decide _)) rfl rfl rfl) rfl rfl ?_
  refine wl_q (r_pick false (.bool (decide _)) rfl rfl) rfl rfl ?_
  refine wl_q (r_move (.bool (decide _)) rfl) rfl rfl ?_
  refine wl_splitD 19 rfl (fun g19 => ?_) (fun g19 => ?_)
  · skip
    refine wl_skip rfl rfl ?_
    refine wl_skip rfl rfl ?_
    refine wl_skip rfl rfl ?_
    refine wl_q (r_pick true (.bool true) rfl rfl) rfl rfl ?_
    refine wl_nil ?_
    refine thenN ?_
    refine W_condT rfl ?_
    refine W_seq ?_
    refine W_region ?_
    refine wl_cal cal29 rfl rfl rfl ?_
    refine (aw07 _).mono ?_
    rintro _ w2 ⟨v2, rfl, ⟨rfl, hb2⟩⟩
    refine ⟨_, rfl, ?_⟩
    have M2 := M1.callB hb2
    refine wl_q (r_assign (.bool true) rfl) rfl rfl ?_
    refine wl_nil ?_
    refine thenN ?_
    refine W_ret ?_
    refine thenR ?_
    skip
    refine fin1 (.bool true) rfl ?_
    exact ⟨rfl, M2.below⟩
  · skip
    refine wl_q (r_move (.slice _ _ _) rfl) rfl rfl ?_
    refine wl_q (r_lenS Try.underlying22 rfl) rfl rfl ?_
    refine wl_q (r_bin (.bool (decide _)) rfl rfl rfl) rfl rfl ?_
    refine wl_q (r_pick false (.bool (decide _)) rfl rfl) rfl rfl ?_
    refine wl_nil ?_
    refine thenN ?_
    refine W_condD rfl (fun h23 => ?_) (fun h23 => ?_)
    · skip
      refine W_seq ?_
      refine W_region ?_
      refine wl_cal cal29 rfl rfl rfl ?_
      refine (aw07 _).mono ?_
      rintro _ w3 ⟨v3, rfl, ⟨rfl, hb3⟩⟩
      refine ⟨_, rfl, ?_⟩
      have M3 := M1.callB hb3
      refine wl_q (r_assign (.bool true) rfl) rfl rfl ?_
      refine wl_nil ?_
      refine thenN ?_
      refine W_ret ?_
      refine thenR ?_
      skip
      refine fin1 (.bool true) rfl ?_
      exact ⟨rfl, M3.below⟩
    · skip
      refine W_skip ?_
      refine thenN ?_
      refine W_seq ?_
      refine W_region ?_
      refine wl_q (r_move (.slice _ _ _) rfl) rfl rfl ?_
      refine wl_cal cal31 rfl rfl rfl ?_
      refine (ref07_Sort _ _ _ _ xs (R.mem M1) (by omega)).mono ?_
      rintro _ w4 ⟨v4, rfl, ⟨A4, n4, c4, e4, rfl, hR4, hM4⟩⟩
      refine ⟨_, rfl, ?_⟩
      have M4 : Mem _ _ [_] _ := M1.call0 hM4
      refine wl_q (r_move (.tuple (List.toArray _)) rfl) rfl rfl ?_
      refine wl_q (r_ext (.slice _ _ _) rfl rfl) rfl rfl ?_
      refine wl_q (r_ext (.int _ _) rfl rfl) rfl rfl ?_
      refine wl_q (r_assign (.slice _ _ _) rfl) rfl rfl ?_
      refine wl_q (r_assign (.int _ _) rfl) rfl rfl ?_
      refine wl_nil ?_
      refine thenN ?_
      refine W_seq ?_
      refine W_region ?_
      refine wl_q (r_move (.slice _ _ _) rfl) rfl rfl ?_
      refine wl_cal cal31 rfl rfl rfl ?_
      refine (ref07_Sort _ _ _ _ ys (R'.mem M4) (by omega)).mono ?_
      rintro _ w5 ⟨v5, rfl, ⟨A5, n5, c5, e5, rfl, hR5, hM5⟩⟩
      refine ⟨_, rfl, ?_⟩
      have M5 : Mem _ _ [_, _] _ := M4.call0 hM5
      refine wl_q (r_move (.tuple (List.toArray _)) rfl) rfl rfl ?_
      refine wl_q (r_ext (.slice _ _ _) rfl rfl) rfl rfl ?_
      refine wl_q (r_ext (.int _ _) rfl rfl) rfl rfl ?_
      refine wl_q (r_assign (.slice _ _ _) rfl) rfl rfl ?_
      refine wl_q (r_assign (.int _ _) rfl) rfl rfl ?_
      refine wl_nil ?_
      refine thenN ?_
      refine W_seq ?_
      refine W_seq ?_
      refine W_region ?_
      refine wl_q (r_move (.int _ _) rfl) rfl rfl ?_
      refine wl_q (r_bin (.bool (decide _)) rfl rfl rfl) rfl rfl ?_
      refine wl_q (r_move (.bool (decide _)) rfl) rfl rfl ?_
      refine wl_splitD 37 rfl (fun g37 => ?_) (fun g37 => ?_)
      · skip
        refine wl_skip rfl rfl ?_
        refine wl_skip rfl rfl ?_
        refine wl_q (r_pick true (.bool true) rfl rfl) rfl rfl ?_
        refine wl_nil ?_
        refine thenN ?_
        refine W_condT rfl ?_
        refine W_seq ?_
        refine W_region ?_
        refine wl_q (r_assign (.bool true) rfl) rfl rfl ?_
        refine wl_nil ?_
        refine thenN ?_
        refine W_ret ?_
        refine thenR ?_
        skip
        refine fin1 (.bool true) rfl ?_
        exact ⟨rfl, M5.below⟩
      · skip
        refine wl_q (r_move (.int _ _) rfl) rfl rfl ?_
        refine wl_q (r_bin (.bool (decide _)) rfl rfl rfl) rfl rfl ?_
        refine wl_q (r_pick false (.bool (decide _)) rfl rfl) rfl rfl ?_
        refine wl_nil ?_
        refine thenN ?_
        refine W_condD rfl (fun h40 => ?_) (fun h40 => ?_)
        · skip
          refine W_seq ?_
          refine W_region ?_
          refine wl_q (r_assign (.bool true) rfl) rfl rfl ?_
          refine wl_nil ?_
          refine thenN ?_
          refine W_ret ?_
          refine thenR ?_
          skip
          refine fin1 (.bool true) rfl ?_
          exact ⟨rfl, M5.below⟩
        · skip
          obtain ⟨hkx, hex, hvx⟩ := sortV_ok (Decidable.not_not.1 g37)
          obtain ⟨hky, hey, hvy⟩ := sortV_ok (Decidable.not_not.1 h40)
          rw [hvx] at hR4
          rw [hvy] at hR5
          have hsx := sorted_B hkx
          have hsy := sorted_B hky
          have hl0 := hR4.1
          have hl1 := hR5.1
          rw [List.length_map, (sortB_perm xs).length_eq, hlen] at hl0
          rw [List.length_map, (sortB_perm ys).length_eq, hlen'] at hl1
          refine W_skip ?_
          refine thenN ?_
          refine W_seq ?_
          refine W_region ?_
          refine wl_q (r_move (.slice _ _ _) rfl) rfl rfl ?_
          refine wl_q (r_move (.slice _ _ _) rfl) rfl rfl ?_
          refine wl_cal cal37 rfl rfl rfl ?_
          refine (view_Diff _ _ _ _ (sortB xs) (hR4.rd M5 (nthMem (i := 0) rfl)) (by omega) _ _ _ (sortB ys) (hR5.rd M5 (nthMem (i := 1) rfl)) (by omega) hsx hsy).mono ?_
          rintro _ w6 ⟨v6, rfl, ⟨q0, q1, q2, rfl, hq0, hq1, hq2, hM6⟩⟩
          refine ⟨_, rfl, ?_⟩
          have M6 : Mem _ _ [_, _, _, _, _] _ := M5.call0 hM6
          have hemp := not_in_both hsx hsy
          have hq0l := hq0.1
          have hq1l := hq1.1
          have hq2l := hq2.1
          rw [List.length_map] at hq0l hq1l hq2l
          rw [hq0l, hq1l, hq2l] at hemp
          refine wl_alloc zero68 M6 rfl rfl (fun b7 w7 M7 => ?_)
          refine wl_stW 5 _ agg68 M7 rfl rfl rfl rfl rfl (ones_of rfl) rfl (fun w8 M8 => ?_)
          refine wl_nil ?_
          refine thenN ?_
          refine W_seq ?_
          refine W_region ?_
          refine wl_q (r_move (.slice _ _ _) rfl) rfl rfl ?_
          refine wl_q (r_move (.slice _ _ _) rfl) rfl rfl ?_
          refine wl_cal cal37 rfl rfl rfl ?_
          refine (view_Diff _ _ _ _ (sortB ys) (hR5.rd M8 (nthMem (i := 1) rfl)) (by omega) _ _ _ (sortB xs) (hR4.rd M8 (nthMem (i := 0) rfl)) (by omega) hsy hsx).mono ?_
          rintro _ w9 ⟨v9, rfl, ⟨p0, p1, p2, rfl, hp0, hp1, hp2, hM9⟩⟩
          refine ⟨_, rfl, ?_⟩
          have M9 : Mem _ _ [_, _, _, _, _, _, _, _, _] _ := M8.call0 hM9
          refine wl_alloc zero68 M9 rfl rfl (fun b10 w10 M10 => ?_)
          refine wl_stW 9 _ agg68 M10 rfl rfl rfl rfl rfl (ones_of rfl) rfl (fun w11 M11 => ?_)
          refine wl_nil ?_
          refine thenN ?_
          refine W_seq ?_
          refine W_region ?_
          refine wl_q (r_fieldAddr 0 fld68_0 rfl) rfl rfl ?_
          refine wl_q (r_ld 5 (.slice _ _ _) one64 M11 rfl rfl rfl) rfl rfl ?_
          refine wl_q (r_lenS Try.underlying64 rfl) rfl rfl ?_
          refine wl_q (r_bin (.bool (decide _)) rfl rfl rfl) rfl rfl ?_
          refine wl_q (r_move (.bool (decide _)) rfl) rfl rfl ?_
          refine wl_splitD 51 rfl (fun g51 => ?_) (fun g51 => ?_)
          · skip
            refine wl_q (r_fieldAddr 1 fld68_1 rfl) rfl rfl ?_
            refine wl_q (r_ld 5 (.slice _ _ _) one64 M11 rfl rfl rfl) rfl rfl ?_
            refine wl_q (r_lenS Try.underlying64 rfl) rfl rfl ?_
            refine wl_q (r_bin (.bool (decide _)) rfl rfl rfl) rfl rfl ?_
            refine wl_q (r_pick true (.bool (decide _)) rfl rfl) rfl rfl ?_
            refine wl_q (r_move (.bool (decide _)) rfl) rfl rfl ?_
            refine wl_splitD 57 rfl (fun g57 => ?_) (fun g57 => ?_)
            · skip
              refine wl_q (r_fieldAddr 2 fld68_2 rfl) rfl rfl ?_
              refine wl_q (r_ld 5 (.slice _ _ _) one64 M11 rfl rfl rfl) rfl rfl ?_
              refine wl_q (r_lenS Try.underlying64 rfl) rfl rfl ?_
              refine wl_q (r_bin (.bool (decide _)) rfl rfl rfl) rfl rfl ?_
              refine wl_q (r_pick true (.bool (decide _)) rfl rfl) rfl rfl ?_
              refine wl_q (r_assign (.bool (decide _)) rfl) rfl rfl ?_
              refine wl_re 11 (.bool (decide (sortB xs = sortB ys))) (by first | exact bD ⟨fun h => hemp.1 ⟨by omega, by omega, by omega⟩, fun h => by have := hemp.2 h; omega⟩ | exact bF (fun h => by have := hemp.2 h; omega)) ?_
              refine wl_nil ?_
              refine thenN ?_
              refine W_seq ?_
              refine W_region ?_
              refine wl_q (r_move (.slice _ _ _) rfl) rfl rfl ?_
              refine wl_q (r_move (.slice _ _ _) rfl) rfl rfl ?_
              refine wl_q (r_ldW 5 agg68 M11 rfl rfl rfl) rfl rfl ?_
              refine wl_cal cal39 rfl rfl rfl ?_
              refine (view_Apply _ _ _ _ (sortB xs) (hR4.rd M11 (nthMem (i := 0) rfl)) (by omega) _ _ _ (sortB ys) (hR5.rd M11 (nthMem (i := 1) rfl)) (by omega) hsx hsy _ _ _ _ _ _ _ _ _ (chgK (sortB ys) (sortB xs)) (hq2.rd M11 (nthMem (i := 4) rfl))).mono ?_
              rintro _ w12 ⟨v12, rfl, ⟨z, rfl, hz, hM12⟩⟩
              refine ⟨_, rfl, ?_⟩
              have M12 : Mem _ _ [_, _, _, _, _, _, _, _, _, _, _] _ := M11.call0 hM12
              rw [apply_diff hsx hsy] at hz
              refine wl_q (r_move (.slice _ _ _) rfl) rfl rfl ?_
              refine wl_cal cal16 rfl rfl rfl ?_
              refine (ref06_Same _ _ _ _ _ (hz.rd M12 (nthMem (i := 10) rfl)) _ _ _ _ (hR5.rd M12 (nthMem (i := 1) rfl))).mono ?_
              rintro _ w13 ⟨v13, rfl, ⟨rfl, hb13⟩⟩
              refine ⟨_, rfl, ?_⟩
              have M13 := M12.callB hb13
              refine wl_re 68 (.bool true) (bT rfl).symm ?_
              refine wl_q (r_move (.bool true) rfl) rfl rfl ?_
              refine wl_q (r_move (.bool (decide _)) rfl) rfl rfl ?_
              refine wl_q (r_move (.slice _ _ _) rfl) rfl rfl ?_
              refine wl_q (r_move (.slice _ _ _) rfl) rfl rfl ?_
              refine wl_cal cal16 rfl rfl rfl ?_
              refine (ref06_Same _ _ _ _ _ (hR4.rd M13 (nthMem (i := 0) rfl)) _ _ _ _ (hR5.rd M13 (nthMem (i := 1) rfl))).mono ?_
              rintro _ w14 ⟨v14, rfl, ⟨rfl, hb14⟩⟩
              refine ⟨_, rfl, ?_⟩
              have M14 := M13.callB hb14
              refine wl_q (r_binB _ Try.underlying4 rfl rfl rfl) rfl rfl ?_
              refine wl_re 74 (.bool true) (bv rfl (by simp)) ?_
              refine wl_q (r_pick true (.bool true) rfl rfl) rfl rfl ?_
              refine wl_q (r_move (.bool true) rfl) rfl rfl ?_
              refine wl_q (r_fieldAddr 0 fld68_0 rfl) rfl rfl ?_
              refine wl_q (r_ld 5 (.slice _ _ _) one64 M14 rfl rfl rfl) rfl rfl ?_
              refine wl_q (r_fieldAddr 1 fld68_1 rfl) rfl rfl ?_
              refine wl_q (r_ld 9 (.slice _ _ _) one64 M14 rfl rfl rfl) rfl rfl ?_
              refine wl_cal cal40 rfl rfl rfl ?_
              refine (ref07_Keys _ _ _ _ _ (hq0.rd M14 (nthMem (i := 2) rfl)) _ _ _ _ (hp1.rd M14 (nthMem (i := 7) rfl))).mono ?_
              rintro _ w15 ⟨v15, rfl, ⟨rfl, hb15⟩⟩
              refine ⟨_, rfl, ?_⟩
              have M15 := M14.callB hb15
              refine wl_re 81 (.bool true) (bT rfl).symm ?_
              refine wl_q (r_pick true (.bool true) rfl rfl) rfl rfl ?_
              refine wl_q (r_move (.bool true) rfl) rfl rfl ?_
              refine wl_q (r_fieldAddr 1 fld68_1 rfl) rfl rfl ?_
              refine wl_q (r_ld 5 (.slice _ _ _) one64 M15 rfl rfl rfl) rfl rfl ?_
              refine wl_q (r_fieldAddr 0 fld68_0 rfl) rfl rfl ?_
              refine wl_q (r_ld 9 (.slice _ _ _) one64 M15 rfl rfl rfl) rfl rfl ?_
              refine wl_cal cal40 rfl rfl rfl ?_
              refine (ref07_Keys _ _ _ _ _ (hq1.rd M15 (nthMem (i := 3) rfl)) _ _ _ _ (hp0.rd M15 (nthMem (i := 6) rfl))).mono ?_
              rintro _ w16 ⟨v16, rfl, ⟨rfl, hb16⟩⟩
              refine ⟨_, rfl, ?_⟩
              have M16 := M15.callB hb16
              refine wl_re 88 (.bool true) (bT rfl).symm ?_
              refine wl_q (r_pick true (.bool true) rfl rfl) rfl rfl ?_
              refine wl_q (r_move (.bool true) rfl) rfl rfl ?_
              refine wl_q (r_fieldAddr 2 fld68_2 rfl) rfl rfl ?_
              refine wl_q (r_ld 5 (.slice _ _ _) one64 M16 rfl rfl rfl) rfl rfl ?_
              refine wl_q (r_fieldAddr 2 fld68_2 rfl) rfl rfl ?_
              refine wl_q (r_ld 9 (.slice _ _ _) one64 M16 rfl rfl rfl) rfl rfl ?_
              refine wl_cal cal40 rfl rfl rfl ?_
              refine (ref07_Keys _ _ _ _ _ (hq2.rd M16 (nthMem (i := 4) rfl)) _ _ _ _ (hp2.rd M16 (nthMem (i := 8) rfl))).mono ?_
              rintro _ w17 ⟨v17, rfl, ⟨rfl, hb17⟩⟩
              refine ⟨_, rfl, ?_⟩
              have M17 := M16.callB hb17
              refine wl_re 95 (.bool true) (bT (chg_comm hsx hsy)).symm ?_
              refine wl_q (r_pick true (.bool true) rfl rfl) rfl rfl ?_
              refine wl_q (r_assign (.bool true) rfl) rfl rfl ?_
              refine wl_nil ?_
              refine thenN ?_
              refine W_ret ?_
              skip
              refine fin1 (.bool true) rfl ?_
              exact ⟨rfl, M17.below⟩
            · skip
              refine wl_skip rfl rfl ?_
              refine wl_skip rfl rfl ?_
              refine wl_skip rfl rfl ?_
              refine wl_skip rfl rfl ?_
              refine wl_q (r_pick false (.bool false) rfl rfl) rfl rfl ?_
              refine wl_q (r_assign (.bool false) rfl) rfl rfl ?_
              refine wl_re 11 (.bool (decide (sortB xs = sortB ys))) (by first | exact bD ⟨fun h => hemp.1 ⟨by omega, by omega, by omega⟩, fun h => by have := hemp.2 h; omega⟩ | exact bF (fun h => by have := hemp.2 h; omega)) ?_
              refine wl_nil ?_
              refine thenN ?_
              refine W_seq ?_
              refine W_region ?_
              refine wl_q (r_move (.slice _ _ _) rfl) rfl rfl ?_
              refine wl_q (r_move (.slice _ _ _) rfl) rfl rfl ?_
              refine wl_q (r_ldW 5 agg68 M11 rfl rfl rfl) rfl rfl ?_
              refine wl_cal cal39 rfl rfl rfl ?_
              refine (view_Apply _ _ _ _ (sortB xs) (hR4.rd M11 (nthMem (i := 0) rfl)) (by omega) _ _ _ (sortB ys) (hR5.rd M11 (nthMem (i := 1) rfl)) (by omega) hsx hsy _ _ _ _ _ _ _ _ _ (chgK (sortB ys) (sortB xs)) (hq2.rd M11 (nthMem (i := 4) rfl))).mono ?_
              rintro _ w18 ⟨v18, rfl, ⟨z, rfl, hz, hM18⟩⟩
              refine ⟨_, rfl, ?_⟩
              have M18 : Mem _ _ [_, _, _, _, _, _, _, _, _, _, _] _ := M11.call0 hM18
              rw [apply_diff hsx hsy] at hz
              refine wl_q (r_move (.slice _ _ _) rfl) rfl rfl ?_
              refine wl_cal cal16 rfl rfl rfl ?_
              refine (ref06_Same _ _ _ _ _ (hz.rd M18 (nthMem (i := 10) rfl)) _ _ _ _ (hR5.rd M18 (nthMem (i := 1) rfl))).mono ?_
              rintro _ w19 ⟨v19, rfl, ⟨rfl, hb19⟩⟩
              refine ⟨_, rfl, ?_⟩
              have M19 := M18.callB hb19
              refine wl_re 68 (.bool true) (bT rfl).symm ?_
              refine wl_q (r_move (.bool true) rfl) rfl rfl ?_
              refine wl_q (r_move (.bool (decide _)) rfl) rfl rfl ?_
              refine wl_q (r_move (.slice _ _ _) rfl) rfl rfl ?_
              refine wl_q (r_move (.slice _ _ _) rfl) rfl rfl ?_
              refine wl_cal cal16 rfl rfl rfl ?_
              refine (ref06_Same _ _ _ _ _ (hR4.rd M19 (nthMem (i := 0) rfl)) _ _ _ _ (hR5.rd M19 (nthMem (i := 1) rfl))).mono ?_
              rintro _ w20 ⟨v20, rfl, ⟨rfl, hb20⟩⟩
              refine ⟨_, rfl, ?_⟩
              have M20 := M19.callB hb20
              refine wl_q (r_binB _ Try.underlying4 rfl rfl rfl) rfl rfl ?_
              refine wl_re 74 (.bool true) (bv rfl (by simp)) ?_
              refine wl_q (r_pick true (.bool true) rfl rfl) rfl rfl ?_
              refine wl_q (r_move (.bool true) rfl) rfl rfl ?_
              refine wl_q (r_fieldAddr 0 fld68_0 rfl) rfl rfl ?_
              refine wl_q (r_ld 5 (.slice _ _ _) one64 M20 rfl rfl rfl) rfl rfl ?_
              refine wl_q (r_fieldAddr 1 fld68_1 rfl) rfl rfl ?_
              refine wl_q (r_ld 9 (.slice _ _ _) one64 M20 rfl rfl rfl) rfl rfl ?_
              refine wl_cal cal40 rfl rfl rfl ?_
              refine (ref07_Keys _ _ _ _ _ (hq0.rd M20 (nthMem (i := 2) rfl)) _ _ _ _ (hp1.rd M20 (nthMem (i := 7) rfl))).mono ?_
              rintro _ w21 ⟨v21, rfl, ⟨rfl, hb21⟩⟩
              refine ⟨_, rfl, ?_⟩
              have M21 := M20.callB hb21
              refine wl_re 81 (.bool true) (bT rfl).symm ?_
              refine wl_q (r_pick true (.bool true) rfl rfl) rfl rfl ?_
              refine wl_q (r_move (.bool true) rfl) rfl rfl ?_
              refine wl_q (r_fieldAddr 1 fld68_1 rfl) rfl rfl ?_
              refine wl_q (r_ld 5 (.slice _ _ _) one64 M21 rfl rfl rfl) rfl rfl ?_
              refine wl_q (r_fieldAddr 0 fld68_0 rfl) rfl rfl ?_
              refine wl_q (r_ld 9 (.slice _ _ _) one64 M21 rfl rfl rfl) rfl rfl ?_
              refine wl_cal cal40 rfl rfl rfl ?_
              refine (ref07_Keys _ _ _ _ _ (hq1.rd M21 (nthMem (i := 3) rfl)) _ _ _ _ (hp0.rd M21 (nthMem (i := 6) rfl))).mono ?_
              rintro _ w22 ⟨v22, rfl, ⟨rfl, hb22⟩⟩
              refine ⟨_, rfl, ?_⟩
              have M22 := M21.callB hb22
              refine wl_re 88 (.bool true) (bT rfl).symm ?_
              refine wl_q (r_pick true (.bool true) rfl rfl) rfl rfl ?_
              refine wl_q (r_move (.bool true) rfl) rfl rfl ?_
              refine wl_q (r_fieldAddr 2 fld68_2 rfl) rfl rfl ?_
              refine wl_q (r_ld 5 (.slice _ _ _) one64 M22 rfl rfl rfl) rfl rfl ?_
              refine wl_q (r_fieldAddr 2 fld68_2 rfl) rfl rfl ?_
              refine wl_q (r_ld 9 (.slice _ _ _) one64 M22 rfl rfl rfl) rfl rfl ?_
              refine wl_cal cal40 rfl rfl rfl ?_
              refine (ref07_Keys _ _ _ _ _ (hq2.rd M22 (nthMem (i := 4) rfl)) _ _ _ _ (hp2.rd M22 (nthMem (i := 8) rfl))).mono ?_
              rintro _ w23 ⟨v23, rfl, ⟨rfl, hb23⟩⟩
              refine ⟨_, rfl, ?_⟩
              have M23 := M22.callB hb23
              refine wl_re 95 (.bool true) (bT (chg_comm hsx hsy)).symm ?_
              refine wl_q (r_pick true (.bool true) rfl rfl) rfl rfl ?_
              refine wl_q (r_assign (.bool true) rfl) rfl rfl ?_
              refine wl_nil ?_
              refine thenN ?_
              refine W_ret ?_
              skip
              refine fin1 (.bool true) rfl ?_
              exact ⟨rfl, M23.below⟩
          · skip
            refine wl_skip rfl rfl ?_
            refine wl_skip rfl rfl ?_
            refine wl_skip rfl rfl ?_
            refine wl_skip rfl rfl ?_
            refine wl_q (r_pick false (.bool false) rfl rfl) rfl rfl ?_
            refine wl_q (r_move (.bool false) rfl) rfl rfl ?_
            refine wl_skip rfl rfl ?_
            refine wl_skip rfl rfl ?_
            refine wl_skip rfl rfl ?_
            refine wl_skip rfl rfl ?_
            refine wl_q (r_pick false (.bool false) rfl rfl) rfl rfl ?_
            refine wl_q (r_assign (.bool false) rfl) rfl rfl ?_
            refine wl_re 11 (.bool (decide (sortB xs = sortB ys))) (by first | exact bD ⟨fun h => hemp.1 ⟨by omega, by omega, by omega⟩, fun h => by have := hemp.2 h; omega⟩ | exact bF (fun h => by have := hemp.2 h; omega)) ?_
            refine wl_nil ?_
            refine thenN ?_
            refine W_seq ?_
            refine W_region ?_
            refine wl_q (r_move (.slice _ _ _) rfl) rfl rfl ?_
            refine wl_q (r_move (.slice _ _ _) rfl) rfl rfl ?_
            refine wl_q (r_ldW 5 agg68 M11 rfl rfl rfl) rfl rfl ?_
            refine wl_cal cal39 rfl rfl rfl ?_
            refine (view_Apply _ _ _ _ (sortB xs) (hR4.rd M11 (nthMem (i := 0) rfl)) (by omega) _ _ _ (sortB ys) (hR5.rd M11 (nthMem (i := 1) rfl)) (by omega) hsx hsy _ _ _ _ _ _ _ _ _ (chgK (sortB ys) (sortB xs)) (hq2.rd M11 (nthMem (i := 4) rfl))).mono ?_
            rintro _ w24 ⟨v24, rfl, ⟨z, rfl, hz, hM24⟩⟩
            refine ⟨_, rfl, ?_⟩
            have M24 : Mem _ _ [_, _, _, _, _, _, _, _, _, _, _] _ := M11.call0 hM24
            rw [apply_diff hsx hsy] at hz
            refine wl_q (r_move (.slice _ _ _) rfl) rfl rfl ?_
            refine wl_cal cal16 rfl rfl rfl ?_
            refine (ref06_Same _ _ _ _ _ (hz.rd M24 (nthMem (i := 10) rfl)) _ _ _ _ (hR5.rd M24 (nthMem (i := 1) rfl))).mono ?_
            rintro _ w25 ⟨v25, rfl, ⟨rfl, hb25⟩⟩
            refine ⟨_, rfl, ?_⟩
            have M25 := M24.callB hb25
            refine wl_re 68 (.bool true) (bT rfl).symm ?_
            refine wl_q (r_move (.bool true) rfl) rfl rfl ?_
            refine wl_q (r_move (.bool (decide _)) rfl) rfl rfl ?_
            refine wl_q (r_move (.slice _ _ _) rfl) rfl rfl ?_
            refine wl_q (r_move (.slice _ _ _) rfl) rfl rfl ?_
            refine wl_cal cal16 rfl rfl rfl ?_
            refine (ref06_Same _ _ _ _ _ (hR4.rd M25 (nthMem (i := 0) rfl)) _ _ _ _ (hR5.rd M25 (nthMem (i := 1) rfl))).mono ?_
            rintro _ w26 ⟨v26, rfl, ⟨rfl, hb26⟩⟩
            refine ⟨_, rfl, ?_⟩
            have M26 := M25.callB hb26
            refine wl_q (r_binB _ Try.underlying4 rfl rfl rfl) rfl rfl ?_
            refine wl_re 74 (.bool true) (bv rfl (by simp)) ?_
            refine wl_q (r_pick true (.bool true) rfl rfl) rfl rfl ?_
            refine wl_q (r_move (.bool true) rfl) rfl rfl ?_
            refine wl_q (r_fieldAddr 0 fld68_0 rfl) rfl rfl ?_
            refine wl_q (r_ld 5 (.slice _ _ _) one64 M26 rfl rfl rfl) rfl rfl ?_
            refine wl_q (r_fieldAddr 1 fld68_1 rfl) rfl rfl ?_
            refine wl_q (r_ld 9 (.slice _ _ _) one64 M26 rfl rfl rfl) rfl rfl ?_
            refine wl_cal cal40 rfl rfl rfl ?_
            refine (ref07_Keys _ _ _ _ _ (hq0.rd M26 (nthMem (i := 2) rfl)) _ _ _ _ (hp1.rd M26 (nthMem (i := 7) rfl))).mono ?_
            rintro _ w27 ⟨v27, rfl, ⟨rfl, hb27⟩⟩
            refine ⟨_, rfl, ?_⟩
            have M27 := M26.callB hb27
            refine wl_re 81 (.bool true) (bT rfl).symm ?_
            refine wl_q (r_pick true (.bool true) rfl rfl) rfl rfl ?_
            refine wl_q (r_move (.bool true) rfl) rfl rfl ?_
            refine wl_q (r_fieldAddr 1 fld68_1 rfl) rfl rfl ?_
            refine wl_q (r_ld 5 (.slice _ _ _) one64 M27 rfl rfl rfl) rfl rfl ?_
            refine wl_q (r_fieldAddr 0 fld68_0 rfl) rfl rfl ?_
            refine wl_q (r_ld 9 (.slice _ _ _) one64 M27 rfl rfl rfl) rfl rfl ?_
            refine wl_cal cal40 rfl rfl rfl ?_
            refine (ref07_Keys _ _ _ _ _ (hq1.rd M27 (nthMem (i := 3) rfl)) _ _ _ _ (hp0.rd M27 (nthMem (i := 6) rfl))).mono ?_
            rintro _ w28 ⟨v28, rfl, ⟨rfl, hb28⟩⟩
            refine ⟨_, rfl, ?_⟩
            have M28 := M27.callB hb28
            refine wl_re 88 (.bool true) (bT rfl).symm ?_
            refine wl_q (r_pick true (.bool true) rfl rfl) rfl rfl ?_
            refine wl_q (r_move (.bool true) rfl) rfl rfl ?_
            refine wl_q (r_fieldAddr 2 fld68_2 rfl) rfl rfl ?_
            refine wl_q (r_ld 5 (.slice _ _ _) one64 M28 rfl rfl rfl) rfl rfl ?_
            refine wl_q (r_fieldAddr 2 fld68_2 rfl) rfl rfl ?_
            refine wl_q (r_ld 9 (.slice _ _ _) one64 M28 rfl rfl rfl) rfl rfl ?_
            refine wl_cal cal40 rfl rfl rfl ?_
            refine (ref07_Keys _ _ _ _ _ (hq2.rd M28 (nthMem (i := 4) rfl)) _ _ _ _ (hp2.rd M28 (nthMem (i := 8) rfl))).mono ?_
            rintro _ w29 ⟨v29, rfl, ⟨rfl, hb29⟩⟩
            refine ⟨_, rfl, ?_⟩
            have M29 := M28.callB hb29
            refine wl_re 95 (.bool true) (bT (chg_comm hsx hsy)).symm ?_
            refine wl_q (r_pick true (.bool true) rfl rfl) rfl rfl ?_
            refine wl_q (r_assign (.bool true) rfl) rfl rfl ?_
            refine wl_nil ?_
            refine thenN ?_
            refine W_ret ?_
            skip
            refine fin1 (.bool true) rfl ?_
            exact ⟨rfl, M29.below⟩

end Go.Proofs.Ytaabkkdpjecknaa
