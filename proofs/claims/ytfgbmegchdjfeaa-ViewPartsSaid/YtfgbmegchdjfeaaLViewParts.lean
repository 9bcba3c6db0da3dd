/- Walks of Go functions over the frame of this claim: what each computes, for every input of the stated types (LViewParts). -/
import Derived.Test.YtfgbmegchdjfeaaTy
import Derived.Test.YtfgbmegchdjfeaaAw7
set_option linter.unusedVariables false
set_option linter.unusedSimpArgs false
set_option linter.unnecessarySimpa false
namespace Go.Proofs.Ytfgbmegchdjfeaa
open Go.Bil
open Go.RowKit (Below)
open Go.Proofs

set_option maxHeartbeats 16000000 in
theorem law_ViewParts (w : World) (f g : Nat) (hf : f ≤ 255) (hg : g ≤ 255) (A : Option Addr) (n c : Nat) (xs : List Body) (R : Rd w 10 A n (xs.map bodyCells)) :
    Calls Try.prog 4 #[.slice A n c, .int .u8 (f : Int), .int .u8 (g : Int)] w (fun ex w' => ∃ v, ex = .returned v ∧ (fun v w' => v = .bool true ∧ Below w.heap.size w w') v w') := by
  have hlen : xs.length = n := by simpa using R.len
  have hbd := R.bound
  refine calls_of_W #[.tmp 6] 90 Try.func4 rfl Try.results4 Try.ntmps4 rfl ?_
  have M0 := Mem.refl w
  refine W_seq ?_
  refine W_region ?_
  refine wl_q (r_assign (.bool false) rfl) rfl rfl ?_
  refine wl_nil ?_
  refine thenN ?_
  refine W_seq ?_
  refine W_seq ?_
  refine W_region ?_
  refine wl_cal cal6 rfl rfl rfl ?_
  refine (aw07 _).mono ?_
  rintro _ w1 ⟨v1, rfl, ⟨rfl, hb1⟩⟩
  refine ⟨_, rfl, ?_⟩
  have M1 := M0.callB hb1
  refine wl_q (r_notB false rfl rfl) rfl rfl ?_
  refine wl_q (r_move (.bool false) rfl) rfl rfl ?_
  refine wl_q (r_move (.slice _ _ _) rfl) rfl rfl ?_
  refine wl_q (r_lenS Try.underlying22 rfl) rfl rfl ?_
  refine wl_q (r_bin (.bool (decide _)) rfl rfl rfl) rfl rfl ?_
  refine wl_q (r_pick false (.bool (decide _)) rfl rfl) rfl rfl ?_
  refine wl_nil ?_
  refine thenN ?_
  refine W_condD rfl (fun h21 => ?_) (fun h21 => ?_)
  · skip
    refine W_seq ?_
    refine W_region ?_
    refine wl_cal cal6 rfl rfl rfl ?_
    refine (aw07 _).mono ?_
    rintro _ w2 ⟨v2, rfl, ⟨rfl, hb2⟩⟩
    refine ⟨_, rfl, ?_⟩
    have M2 := M1.callB hb2
    refine wl_q (r_assign (.bool true) rfl) rfl rfl ?_
    refine wl_nil ?_
    refine thenN ?_
    refine W_ret ?_
    refine thenR ?_
    skip
    refine fin1 (.bool true) rfl ?_
    exact ⟨rfl, M2.below⟩
  · skip
    refine W_skip ?_
    refine thenN ?_
    refine W_seq ?_
    refine W_region ?_
    refine wl_q (r_move (.slice _ _ _) rfl) rfl rfl ?_
    refine wl_cal cal8 rfl rfl rfl ?_
    refine (ref07_Sort _ _ _ _ xs (R.mem M1) (by omega)).mono ?_
    rintro _ w3 ⟨v3, rfl, ⟨A3, n3, c3, e3, rfl, hR3, hM3⟩⟩
    refine ⟨_, rfl, ?_⟩
    have M3 : Mem _ _ [_] _ := M1.call0 hM3
    refine wl_q (r_move (.tuple (List.toArray _)) rfl) rfl rfl ?_
    refine wl_q (r_ext (.slice _ _ _) rfl rfl) rfl rfl ?_
    refine wl_q (r_ext (.int _ _) rfl rfl) rfl rfl ?_
    refine wl_q (r_assign (.slice _ _ _) rfl) rfl rfl ?_
    refine wl_q (r_assign (.int _ _) rfl) rfl rfl ?_
    refine wl_nil ?_
    refine thenN ?_
    refine W_seq ?_
    refine W_seq ?_
    refine W_region ?_
    refine wl_q (r_move (.int _ _) rfl) rfl rfl ?_
    refine wl_q (r_bin (.bool (decide _)) rfl rfl rfl) rfl rfl ?_
    refine wl_nil ?_
    refine thenN ?_
    refine W_condD rfl (fun h29 => ?_) (fun h29 => ?_)
    · skip
      refine W_seq ?_
      refine W_region ?_
      refine wl_q (r_assign (.bool true) rfl) rfl rfl ?_
      refine wl_nil ?_
      refine thenN ?_
      refine W_ret ?_
      refine thenR ?_
      skip
      refine fin1 (.bool true) rfl ?_
      exact ⟨rfl, M3.below⟩
    · skip
      obtain ⟨hk, he, hsv⟩ := sortV_ok (Decidable.not_not.1 h29)
      rw [hsv] at hR3
      have hss := sorted_B hk
      have hnv := hR3.1
      rw [List.length_map] at hnv
      have hsl := (sortB_perm xs).length_eq
      obtain ⟨a, ha⟩ : ∃ a : Nat, a = f % (n3 + 1) := ⟨_, rfl⟩
      have ha1 : a ≤ n3 := by have := Nat.mod_lt f (show 0 < n3 + 1 by omega); omega
      obtain ⟨r, hr⟩ : ∃ r : Nat, r = g % (n3 - a + 1) := ⟨_, rfl⟩
      have hr1 : r ≤ n3 - a := by have := Nat.mod_lt g (show 0 < n3 - a + 1 by omega); omega
      obtain ⟨b, hb⟩ : ∃ b : Nat, b = a + r := ⟨_, rfl⟩
      refine W_skip ?_
      refine thenN ?_
      refine W_seq ?_
      refine W_region ?_
      refine wl_q (r_move (.int _ _) rfl) rfl rfl ?_
      refine wl_q (r_convK us5 Try.underlying3 rfl (w64 _ (by omega) (by omega))) rfl rfl ?_
      refine wl_q (r_move (.slice _ _ _) rfl) rfl rfl ?_
      refine wl_q (r_lenS Try.underlying22 rfl) rfl rfl ?_
      refine wl_q (r_add rfl rfl (by omega) (by omega)) rfl rfl ?_
      refine wl_q (r_rem rfl rfl (by omega)) rfl rfl ?_
      refine wl_re 35 (.int .i64 (a : Int)) (iE (tmod_at rfl ha)) ?_
      refine wl_q (r_assign (.int _ _) rfl) rfl rfl ?_
      refine wl_nil ?_
      refine thenN ?_
      refine W_seq ?_
      refine W_region ?_
      refine wl_q (r_move (.int _ _) rfl) rfl rfl ?_
      refine wl_q (r_move (.int _ _) rfl) rfl rfl ?_
      refine wl_q (r_convK us5 Try.underlying3 rfl (w64 _ (by omega) (by omega))) rfl rfl ?_
      refine wl_q (r_move (.slice _ _ _) rfl) rfl rfl ?_
      refine wl_q (r_lenS Try.underlying22 rfl) rfl rfl ?_
      refine wl_q (r_move (.int _ _) rfl) rfl rfl ?_
      refine wl_q (r_sub rfl rfl (by omega) (by omega)) rfl rfl ?_
      refine wl_q (r_add rfl rfl (by omega) (by omega)) rfl rfl ?_
      refine wl_q (r_rem rfl rfl (by omega)) rfl rfl ?_
      refine wl_re 44 (.int .i64 (r : Int)) (iE (tmod_at (by omega) hr)) ?_
      refine wl_q (r_add rfl rfl (by omega) (by omega)) rfl rfl ?_
      refine wl_re 45 (.int .i64 (b : Int)) (iE (by omega)) ?_
      refine wl_q (r_assign (.int _ _) rfl) rfl rfl ?_
      refine wl_nil ?_
      refine thenN ?_
      refine W_seq ?_
      refine W_region ?_
      refine wl_q (r_move (.slice _ _ _) rfl) rfl rfl ?_
      refine wl_q (r_move (.int _ _) rfl) rfl rfl ?_
      refine wl_q (r_move (.int _ _) rfl) rfl rfl ?_
      refine wl_q (r_slice ((a : Int)) ((b : Int)) sl22 rfl ⟨_, rfl⟩ ⟨_, rfl⟩ (by omega) (by omega) (by have := hR3.slice; omega)) rfl rfl ?_
      refine wl_q (r_assign (.slice _ _ _) rfl) rfl rfl ?_
      refine wl_nil ?_
      refine thenN ?_
      refine W_seq ?_
      refine W_seq ?_
      refine W_region ?_
      refine wl_q (r_assign (.int _ _) rfl) rfl rfl ?_
      refine wl_nil ?_
      refine thenN ?_
      refine W_block ?_
      refine W_loop (σ := Nat) [7, 9, 10, 11] (fun i => [(12, .int .i64 (i : Int))]) (fun i w' => i ≤ n3 ∧ Mem w [] [e3] w') (fun i => n3 - i) 0 (agC rfl agN) (⟨by omega, M3⟩) ?_
      rintro i ρ4 w4 ⟨hi, hM4⟩
      refine W_seq ?_
      refine W_seq ?_
      refine W_region ?_
      refine wl_q (r_move (.int _ _) rfl) rfl rfl ?_
      refine wl_q (r_move (.slice _ _ _) rfl) rfl rfl ?_
      refine wl_q (r_lenS Try.underlying22 rfl) rfl rfl ?_
      refine wl_q (r_bin (.bool (decide _)) rfl rfl rfl) rfl rfl ?_
      refine wl_nil ?_
      refine thenN ?_
      refine W_condD rfl (fun h53 => ?_) (fun h53 => ?_)
      · skip
        obtain ⟨xb, hxb⟩ := getSome (xs := sortB xs) (k := i) hnv (by omega)
        have hpl := part_less hss (show a ≤ b by omega) (by omega) hxb
        have hpf := part_found hss (show a ≤ b by omega) (by omega) hxb
        refine W_skip ?_
        refine thenN ?_
        refine W_seq ?_
        refine W_block ?_
        refine W_seq ?_
        refine W_region ?_
        refine wl_q (r_move (.slice _ _ _) rfl) rfl rfl ?_
        refine wl_q (r_move (.slice _ _ _) rfl) rfl rfl ?_
        refine wl_q (r_move (.int _ _) rfl) rfl rfl ?_
        refine wl_q (r_idxR (i) sl22 rfl rfl rfl ((hR3.rd hM4 (nthMem (i := 0) rfl)).below_len (mapGet bodyCells hxb)) ((hR3.rd hM4 (nthMem (i := 0) rfl)).someK (mapGet bodyCells hxb))) rfl rfl ?_
        refine wl_q (r_fieldAddrE 0 fld38_0 (hR3.rd hM4 (nthMem (i := 0) rfl)) (Nat.lt_of_le_of_lt (Nat.zero_le _) ((hR3.rd hM4 (nthMem (i := 0) rfl)).below_len (mapGet bodyCells hxb))) rfl) rfl rfl ?_
        refine wl_q (r_ldE (o := 0) (.int _ _) one23 (hR3.rd hM4 (nthMem (i := 0) rfl)) (mapGet bodyCells hxb) rfl rfl) rfl rfl ?_
        refine wl_cal cal12 rfl rfl rfl ?_
        have hRp := Rd.sub (hR3.rd hM4 (nthMem (i := 0) rfl)) a b (by omega) (by omega) (by have := hR3.slice; omega)
        rw [part_map bodyCells] at hRp
        refine (view_Find _ xb.key _ _ _ (partL (sortB xs) a b) hRp (part_sorted hss a b)).mono ?_
        rintro _ w5 ⟨v5, rfl, ⟨rfl, hb5⟩⟩
        refine ⟨_, rfl, ?_⟩
        have M5 := hM4.callB hb5
        refine wl_q (r_move (.tuple (List.toArray _)) rfl) rfl rfl ?_
        refine wl_q (r_ext (.int _ _) rfl rfl) rfl rfl ?_
        refine wl_q (r_ext (.bool (decide _)) rfl rfl) rfl rfl ?_
        refine wl_q (r_assign (.int _ _) rfl) rfl rfl ?_
        refine wl_q (r_assign (.bool (decide _)) rfl) rfl rfl ?_
        refine wl_nil ?_
        refine thenN ?_
        refine W_seq ?_
        refine W_region ?_
        refine wl_q (r_move (.int _ _) rfl) rfl rfl ?_
        refine wl_q (r_move (.int _ _) rfl) rfl rfl ?_
        refine wl_q (r_move (.int _ _) rfl) rfl rfl ?_
        refine wl_q (r_sub rfl rfl (by omega) (by omega)) rfl rfl ?_
        refine wl_q (r_max2 rfl rfl ) rfl rfl ?_
        refine wl_q (r_move (.slice _ _ _) rfl) rfl rfl ?_
        refine wl_q (r_lenS Try.underlying22 rfl) rfl rfl ?_
        refine wl_q (r_min2 rfl rfl ) rfl rfl ?_
        refine wl_q (r_bin (.bool (decide _)) rfl rfl rfl) rfl rfl ?_
        refine wl_re 74 (.bool false) (bF (by omega)).symm ?_
        refine wl_q (r_move (.bool false) rfl) rfl rfl ?_
        refine wl_q (r_move (.bool (decide _)) rfl) rfl rfl ?_
        refine wl_q (r_move (.int _ _) rfl) rfl rfl ?_
        refine wl_q (r_move (.int _ _) rfl) rfl rfl ?_
        refine wl_q (r_bin (.bool (decide _)) rfl rfl rfl) rfl rfl ?_
        refine wl_q (r_move (.bool (decide _)) rfl) rfl rfl ?_
        refine wl_splitD 80 rfl (fun g80 => ?_) (fun g80 => ?_)
        · skip
          refine wl_q (r_move (.int _ _) rfl) rfl rfl ?_
          refine wl_q (r_move (.int _ _) rfl) rfl rfl ?_
          refine wl_q (r_bin (.bool (decide _)) rfl rfl rfl) rfl rfl ?_
          refine wl_q (r_pick true (.bool (decide _)) rfl rfl) rfl rfl ?_
          refine wl_q (r_binB _ Try.underlying4 rfl rfl rfl) rfl rfl ?_
          refine wl_re 85 (.bool false) (bv rfl (by by_cases hq : 0 ≤ findI xb.key (partL (sortB xs) a b) <;> simp [hq] <;> omega)) ?_
          refine wl_q (r_pick false (.bool false) rfl rfl) rfl rfl ?_
          refine wl_nil ?_
          refine thenN ?_
          refine W_condF rfl ?_
          refine W_skip ?_
          refine blkN ?_
          refine thenN ?_
          refine W_region ?_
          refine wl_q (r_move (.int _ _) rfl) rfl rfl ?_
          refine wl_q (r_add rfl rfl (by omega) (by omega)) rfl rfl ?_
          refine wl_q (r_assign (.int _ _) rfl) rfl rfl ?_
          refine wl_nil ?_
          refine roundN (i + 1) (agC rfl agN) (akC rfl (akC rfl (akC rfl (akC rfl akN)))) ?_ ?_
          · exact ⟨by omega, M5⟩
          · omega
        · skip
          refine wl_skip rfl rfl ?_
          refine wl_skip rfl rfl ?_
          refine wl_skip rfl rfl ?_
          refine wl_q (r_pick false (.bool false) rfl rfl) rfl rfl ?_
          refine wl_q (r_binB _ Try.underlying4 rfl rfl rfl) rfl rfl ?_
          refine wl_re 85 (.bool false) (bv rfl (by by_cases hq : 0 ≤ findI xb.key (partL (sortB xs) a b) <;> simp [hq] <;> omega)) ?_
          refine wl_q (r_pick false (.bool false) rfl rfl) rfl rfl ?_
          refine wl_nil ?_
          refine thenN ?_
          refine W_condF rfl ?_
          refine W_skip ?_
          refine blkN ?_
          refine thenN ?_
          refine W_region ?_
          refine wl_q (r_move (.int _ _) rfl) rfl rfl ?_
          refine wl_q (r_add rfl rfl (by omega) (by omega)) rfl rfl ?_
          refine wl_q (r_assign (.int _ _) rfl) rfl rfl ?_
          refine wl_nil ?_
          refine roundN (i + 1) (agC rfl agN) (akC rfl (akC rfl (akC rfl (akC rfl akN)))) ?_ ?_
          · exact ⟨by omega, M5⟩
          · omega
      · skip
        refine W_exit ?_
        refine thenX ?_
        refine roundX ?_
        refine blkH ?_
        refine thenN ?_
        refine W_seq ?_
        refine W_region ?_
        refine wl_q (r_move (.slice _ _ _) rfl) rfl rfl ?_
        refine wl_cal cal10 rfl rfl rfl ?_
        have hRp := Rd.sub (hR3.rd hM4 (nthMem (i := 0) rfl)) a b (by omega) (by omega) (by have := hR3.slice; omega)
        rw [part_map bodyCells] at hRp
        refine (view_Check _ _ _ _ (partL (sortB xs) a b) hRp).mono ?_
        rintro _ w6 ⟨v6, rfl, ⟨rfl, hb6⟩⟩
        refine ⟨_, rfl, ?_⟩
        have M6 := hM4.callB hb6
        refine wl_q (r_bin (.bool (decide _)) rfl rfl rfl) rfl rfl ?_
        refine wl_re 89 (.bool true) (bT (part_check (each_sort he) hss a b)).symm ?_
        refine wl_q (r_assign (.bool true) rfl) rfl rfl ?_
        refine wl_nil ?_
        refine thenN ?_
        refine W_ret ?_
        skip
        refine fin1 (.bool true) rfl ?_
        exact ⟨rfl, M6.below⟩

end Go.Proofs.Ytfgbmegchdjfeaa
