/- Walks of Go functions over the frame of this claim: what each computes, for every input of the stated types (D7). -/
import Derived.Test.YtfgbmegchdjfeaaTy
import Derived.Test.YtfgbmegchdjfeaaV7
set_option linter.unusedVariables false
set_option linter.unusedSimpArgs false
set_option linter.unnecessarySimpa false
namespace Go.Proofs.Ytfgbmegchdjfeaa
open Go.Bil
open Go.RowKit (Below)
open Go.Proofs

set_option maxHeartbeats 4000000 in
theorem ref07_Diff (w : World) (A : Option Addr) (n c : Nat) (xs : List Body) (R : Rd w 10 A n (xs.map bodyCells)) (hn : n ≤ 1048576) (B : Option Addr) (m c' : Nat) (ys : List Body) (R' : Rd w 10 B m (ys.map bodyCells)) (hm : m ≤ 1048576) :
    Calls Try.prog 17 #[.slice A n c, .slice B m c'] w (fun ex w' => ∃ v, ex = .returned v ∧ (fun v w' => ∃ (q0 q1 q2 : Row), v = .agg [.slice q0.A q0.n q0.c, .slice q1.A q1.n q1.c, .slice q2.A q2.n q2.c].toArray ∧ RowIs 23 1 q0.A q0.n q0.c ((remK xs ys).map keyCell) q0.e ∧ RowIs 23 1 q1.A q1.n q1.c ((remK ys xs).map keyCell) q1.e ∧ RowIs 23 1 q2.A q2.n q2.c ((chgK ys xs).map keyCell) q2.e ∧ Mem w [] [q0.e, q1.e, q2.e] w') v w') := by
  have hlen : xs.length = n := by simpa using R.len
  have hbd := R.bound
  have hlen' : ys.length = m := by simpa using R'.len
  refine calls_of_W #[.cell 4 43] 78 Try.func17 rfl Try.results17 Try.ntmps17 rfl ?_
  have M0 := Mem.refl w
  refine W_seq ?_
  refine W_region ?_
  refine wl_alloc zero43 M0 rfl rfl (fun b1 w1 M1 => ?_)
  refine wl_nil ?_
  refine thenN ?_
  refine W_seq ?_
  refine W_region ?_
  refine wl_alloc zero43 M1 rfl rfl (fun b2 w2 M2 => ?_)
  have M3 := ((M2.dummy default).dummy default).dummy default
  refine wl_nil ?_
  refine thenN ?_
  refine W_seq ?_
  refine W_seq ?_
  refine W_region ?_
  refine wl_q (r_assign (.int _ _) rfl) rfl rfl ?_
  refine wl_nil ?_
  refine thenN ?_
  refine W_block ?_
  refine W_loop (σ := Nat × Row × Row) [0, 1, 4, 5] (fun (k, r1, r2) => [(6, .int .i64 (k : Int))]) (fun (k, r1, r2) w' => (k ≤ n ∧ RowIs 23 1 r1.A r1.n r1.c ((remK ys (xs.take k)).map keyCell) r1.e ∧ RowIs 23 1 r2.A r2.n r2.c ((chgK ys (xs.take k)).map keyCell) r2.e) ∧ Mem w [] [(some b1, bc [.slice none 0 0, .slice none 0 0, .slice none 0 0] 43), (some b2, bc [.slice none 0 0, .slice r1.A r1.n r1.c, .slice r2.A r2.n r2.c] 43), (none, default), r1.e, r2.e] w') (fun (k, r1, r2) => n - k) (0, ⟨none, 0, 0, (none, default)⟩, ⟨none, 0, 0, (none, default)⟩) (agC rfl agN) (⟨⟨by omega, (RowIs.nil 23 1 default), (RowIs.nil 23 1 default)⟩, M3⟩) ?_
  rintro ⟨k, r1, r2⟩ ρ4 w4 ⟨⟨hk, hr1, hr2⟩, hM4⟩
  have hq1 := remK_len ys (xs.take k)
  have hq2 := chgK_len ys (xs.take k)
  have htl := List.length_take_le k xs
  have hlr1 : (remK ys (xs.take k)).length = r1.n := by simpa using hr1.1
  have hlr2 : (chgK ys (xs.take k)).length = r2.n := by simpa using hr2.1
  refine W_seq ?_
  refine W_seq ?_
  refine W_region ?_
  refine wl_q (r_move (.int _ _) rfl) rfl rfl ?_
  refine wl_q (r_move (.slice _ _ _) rfl) rfl rfl ?_
  refine wl_q (r_lenS Try.underlying22 rfl) rfl rfl ?_
  refine wl_q (r_bin (.bool (decide _)) rfl rfl rfl) rfl rfl ?_
  refine wl_nil ?_
  refine thenN ?_
  refine W_condD rfl (fun h12 => ?_) (fun h12 => ?_)
  · skip
    obtain ⟨xa, hxa⟩ := getSome (k := k) hlen (by omega)
    refine W_skip ?_
    refine thenN ?_
    refine W_seq ?_
    refine W_block ?_
    refine W_seq ?_
    refine W_region ?_
    refine wl_q (r_move (.slice _ _ _) rfl) rfl rfl ?_
    refine wl_q (r_move (.slice _ _ _) rfl) rfl rfl ?_
    refine wl_q (r_move (.int _ _) rfl) rfl rfl ?_
    refine wl_q (r_idxR (k) sl22 rfl rfl rfl ((R.mem hM4).below_len (mapGet bodyCells hxa)) ((R.mem hM4).someK (mapGet bodyCells hxa))) rfl rfl ?_
    refine wl_q (r_fieldAddrE 0 fld38_0 (R.mem hM4) (Nat.lt_of_le_of_lt (Nat.zero_le _) ((R.mem hM4).below_len (mapGet bodyCells hxa))) rfl) rfl rfl ?_
    refine wl_q (r_ldE (o := 0) (.int _ _) one23 (R.mem hM4) (mapGet bodyCells hxa) rfl rfl) rfl rfl ?_
    refine wl_cal cal13 rfl rfl rfl ?_
    refine (ref06_Find _ xa.key _ _ _ ys (R'.mem hM4)).mono ?_
    rintro _ w5 ⟨v5, rfl, ⟨rfl, hb5⟩⟩
    refine ⟨_, rfl, ?_⟩
    have M5 := hM4.callB hb5
    refine wl_q (r_assign (.int _ _) rfl) rfl rfl ?_
    refine wl_nil ?_
    refine thenN ?_
    refine W_seq ?_
    refine W_region ?_
    refine wl_q (r_move (.int _ _) rfl) rfl rfl ?_
    refine wl_q (r_bin (.bool (decide _)) rfl rfl rfl) rfl rfl ?_
    refine wl_nil ?_
    refine thenN ?_
    refine W_condD rfl (fun h23 => ?_) (fun h23 => ?_)
    · skip
      refine W_draw [(0, 0), (1, 1), (2, 0), (3, 0), (4, 1), (5, 1), (6, 1), (7, 2), (8, 2), (9, 0), (10, 2)] mixed rfl (by kernel_rfl) (fun w6 hb6 hh6 => ?_)
      have M6 := M5.drew hb6 hh6
      refine D_p rfl rfl rfl (fun _ => r_fieldAddr 1 fld43_1 rfl) ?_
      refine D_r rfl rfl rfl (r_ld 1 (.slice _ _ _) one41 M6 rfl rfl rfl) ?_
      refine D_p rfl rfl rfl (fun _ => r_move (.slice _ _ _) rfl) ?_
      refine D_p rfl rfl rfl (fun _ => r_move (.int _ _) rfl) ?_
      refine D_r rfl rfl rfl (r_idxR (k) sl22 rfl rfl rfl ((R.mem M6).below_len (mapGet bodyCells hxa)) ((R.mem M6).someK (mapGet bodyCells hxa))) ?_
      refine D_r rfl rfl rfl (r_fieldAddrE 0 fld38_0 (R.mem M6) (Nat.lt_of_le_of_lt (Nat.zero_le _) ((R.mem M6).below_len (mapGet bodyCells hxa))) rfl) ?_
      refine D_r rfl rfl rfl (r_ldE (o := 0) (.int _ _) one23 (R.mem M6) (mapGet bodyCells hxa) rfl rfl) ?_
      refine D_e [true, true, true, false] rfl (by kernel_rfl) ?_
      refine wl_bslice [.int _ _] [keyCell xa.key] rfl sl41 M6 rfl rfl rfl rfl (lens_of rfl) (by decide) (fun b7 w7 M7 => ?_)
      refine wl_nil (thenN ⟨(alC (Yl_of rfl (r_ld 1 (.slice _ _ _) one41 M7 rfl rfl rfl)) alN), ?_⟩)
      refine D_e [true] rfl (by kernel_rfl) ?_
      refine wl_append 3 [keyCell xa.key] sl41 M7 rfl rfl rfl rfl rfl hr1 rfl (keyCell_ok _) (Cells.ofMem 5 M7 rfl) (by omega) (fun A8 c8 e8 w8 M8 hR8 => ?_)
      refine wl_nil (thenN ⟨alN, ?_⟩)
      refine D_p rfl rfl rfl (fun _ => r_fieldAddr 1 fld43_1 rfl) ?_
      refine D_e [] rfl (by kernel_rfl) ?_
      refine wl_st 1 (.slice _ _ _) one41 M8 rfl rfl rfl rfl rfl rfl (fun w9 M9 => ?_)
      refine wl_nil (thenN ⟨alN, ?_⟩)
      refine D_nil ?_
      refine blkN ?_
      refine thenN ?_
      refine W_region ?_
      refine wl_q (r_move (.int _ _) rfl) rfl rfl ?_
      refine wl_q (r_add rfl rfl (by omega) (by omega)) rfl rfl ?_
      refine wl_q (r_assign (.int _ _) rfl) rfl rfl ?_
      refine wl_nil ?_
      refine roundN (k + 1, ⟨A8, r1.n + 1, c8, e8⟩, r2) (agC rfl agN) (akC rfl (akC rfl (akC rfl (akC rfl akN)))) ?_ ?_
      · exact ⟨⟨by omega, by rw [remK_yes hxa h23]; simpa using hR8, by rw [chgK_no hxa (chgB_none h23)]; exact hr2⟩, M9.keep [true, true, true, true, true, false]⟩
      · (show n - (k + 1) < n - k; omega)
    · skip
      obtain ⟨q, yb, hq, hqk, hqi⟩ : ∃ (q : Nat) (yb : Body), ys[q]? = some yb ∧ yb.key = xa.key ∧ findI xa.key ys = (q : Int) := by rcases findI_cases xa.key ys with ⟨h, _⟩ | h; omega; exact h
      have hcg := chgB_eq hq hqi
      refine W_seq ?_
      refine W_draw [(0, 0), (1, 0), (2, 1), (3, 1), (4, 0), (5, 0), (6, 1), (7, 1), (8, 0)] mixed rfl (by kernel_rfl) (fun w10 hb10 hh10 => ?_)
      have M10 := M5.drew hb10 hh10
      refine D_p rfl rfl rfl (fun _ => r_move (.slice _ _ _) rfl) ?_
      refine D_p rfl rfl rfl (fun _ => r_move (.int _ _) rfl) ?_
      refine D_r rfl rfl rfl (r_idxR (q) sl22 rfl rfl hqi ((R'.mem M10).below_len (mapGet bodyCells hq)) ((R'.mem M10).someK (mapGet bodyCells hq))) ?_
      refine D_r rfl rfl rfl (r_ldEA _ agg38 (R'.mem M10) (mapGet bodyCells hq) rfl) ?_
      refine D_p rfl rfl rfl (fun _ => r_move (.slice _ _ _) rfl) ?_
      refine D_p rfl rfl rfl (fun _ => r_move (.int _ _) rfl) ?_
      refine D_r rfl rfl rfl (r_idxR (k) sl22 rfl rfl rfl ((R.mem M10).below_len (mapGet bodyCells hxa)) ((R.mem M10).someK (mapGet bodyCells hxa))) ?_
      refine D_r rfl rfl rfl (r_ldEA _ agg38 (R.mem M10) (mapGet bodyCells hxa) rfl) ?_
      refine D_p rfl rfl rfl (fun _ => r_neA (eqBody yb xa) rfl rfl) ?_
      refine D_nil ?_
      refine thenN ?_
      refine W_condD rfl (fun h42 => ?_) (fun h42 => ?_)
      · skip
        refine W_draw [(0, 0), (1, 1), (2, 0), (3, 0), (4, 1), (5, 1), (6, 1), (7, 2), (8, 2), (9, 0), (10, 2)] mixed rfl (by kernel_rfl) (fun w11 hb11 hh11 => ?_)
        have M11 := M10.drew hb11 hh11
        refine D_p rfl rfl rfl (fun _ => r_fieldAddr 2 fld43_2 rfl) ?_
        refine D_r rfl rfl rfl (r_ld 1 (.slice _ _ _) one41 M11 rfl rfl rfl) ?_
        refine D_p rfl rfl rfl (fun _ => r_move (.slice _ _ _) rfl) ?_
        refine D_p rfl rfl rfl (fun _ => r_move (.int _ _) rfl) ?_
        refine D_r rfl rfl rfl (r_idxR (k) sl22 rfl rfl rfl ((R.mem M11).below_len (mapGet bodyCells hxa)) ((R.mem M11).someK (mapGet bodyCells hxa))) ?_
        refine D_r rfl rfl rfl (r_fieldAddrE 0 fld38_0 (R.mem M11) (Nat.lt_of_le_of_lt (Nat.zero_le _) ((R.mem M11).below_len (mapGet bodyCells hxa))) rfl) ?_
        refine D_r rfl rfl rfl (r_ldE (o := 0) (.int _ _) one23 (R.mem M11) (mapGet bodyCells hxa) rfl rfl) ?_
        refine D_e [true, true, true, false] rfl (by kernel_rfl) ?_
        refine wl_bslice [.int _ _] [keyCell xa.key] rfl sl41 M11 rfl rfl rfl rfl (lens_of rfl) (by decide) (fun b12 w12 M12 => ?_)
        refine wl_nil (thenN ⟨(alC (Yl_of rfl (r_ld 1 (.slice _ _ _) one41 M12 rfl rfl rfl)) alN), ?_⟩)
        refine D_e [true] rfl (by kernel_rfl) ?_
        refine wl_append 4 [keyCell xa.key] sl41 M12 rfl rfl rfl rfl rfl hr2 rfl (keyCell_ok _) (Cells.ofMem 5 M12 rfl) (by omega) (fun A13 c13 e13 w13 M13 hR13 => ?_)
        refine wl_nil (thenN ⟨alN, ?_⟩)
        refine D_p rfl rfl rfl (fun _ => r_fieldAddr 2 fld43_2 rfl) ?_
        refine D_e [] rfl (by kernel_rfl) ?_
        refine wl_st 1 (.slice _ _ _) one41 M13 rfl rfl rfl rfl rfl rfl (fun w14 M14 => ?_)
        refine wl_nil (thenN ⟨alN, ?_⟩)
        refine D_nil ?_
        refine blkN ?_
        refine thenN ?_
        refine W_region ?_
        refine wl_q (r_move (.int _ _) rfl) rfl rfl ?_
        refine wl_q (r_add rfl rfl (by omega) (by omega)) rfl rfl ?_
        refine wl_q (r_assign (.int _ _) rfl) rfl rfl ?_
        refine wl_nil ?_
        refine roundN (k + 1, r1, ⟨A13, r2.n + 1, c13, e13⟩) (agC rfl agN) (akC rfl (akC rfl (akC rfl (akC rfl akN)))) ?_ ?_
        · exact ⟨⟨by omega, by rw [remK_no hxa h23]; exact hr1, by rw [chgK_yes hxa (by rw [hcg]; exact decide_eq_true h42)]; simpa using hR13⟩, M14.keep [true, true, true, true, true, false]⟩
        · (show n - (k + 1) < n - k; omega)
      · skip
        refine W_skip ?_
        refine blkN ?_
        refine thenN ?_
        refine W_region ?_
        refine wl_q (r_move (.int _ _) rfl) rfl rfl ?_
        refine wl_q (r_add rfl rfl (by omega) (by omega)) rfl rfl ?_
        refine wl_q (r_assign (.int _ _) rfl) rfl rfl ?_
        refine wl_nil ?_
        refine roundN (k + 1, r1, r2) (agC rfl agN) (akC rfl (akC rfl (akC rfl (akC rfl akN)))) ?_ ?_
        · exact ⟨⟨by omega, by rw [remK_no hxa h23]; exact hr1, by rw [chgK_no hxa (by rw [hcg]; exact decide_eq_false h42)]; exact hr2⟩, M10⟩
        · (show n - (k + 1) < n - k; omega)
  · skip
    have hkn : k = n := by omega
    rw [hkn, List.take_of_length_le (by omega)] at hr1 hr2
    refine W_exit ?_
    refine thenX ?_
    refine roundX ?_
    refine blkH ?_
    refine thenN ?_
    refine W_seq ?_
    refine W_seq ?_
    refine W_region ?_
    refine wl_q (r_assign (.int _ _) rfl) rfl rfl ?_
    refine wl_nil ?_
    refine thenN ?_
    refine W_block ?_
    refine W_loop (σ := Nat × Row) [0, 1, 4, 5] (fun (j, r0) => [(8, .int .i64 (j : Int))]) (fun (j, r0) w' => (j ≤ m ∧ RowIs 23 1 r0.A r0.n r0.c ((remK xs (ys.take j)).map keyCell) r0.e) ∧ Mem w [] [(some b1, bc [.slice none 0 0, .slice none 0 0, .slice none 0 0] 43), (some b2, bc [.slice r0.A r0.n r0.c, .slice r1.A r1.n r1.c, .slice r2.A r2.n r2.c] 43), r0.e, r1.e, r2.e] w') (fun (j, r0) => m - j) (0, ⟨none, 0, 0, (none, default)⟩) (agC rfl agN) (⟨⟨by omega, (RowIs.nil 23 1 default)⟩, hM4⟩) ?_
    rintro ⟨j, r0⟩ ρ15 w15 ⟨⟨hj, hr0⟩, hM15⟩
    have hq0 := remK_len xs (ys.take j)
    have htl' := List.length_take_le j ys
    have hlr0 : (remK xs (ys.take j)).length = r0.n := by simpa using hr0.1
    refine W_seq ?_
    refine W_seq ?_
    refine W_region ?_
    refine wl_q (r_move (.int _ _) rfl) rfl rfl ?_
    refine wl_q (r_move (.slice _ _ _) rfl) rfl rfl ?_
    refine wl_q (r_lenS Try.underlying22 rfl) rfl rfl ?_
    refine wl_q (r_bin (.bool (decide _)) rfl rfl rfl) rfl rfl ?_
    refine wl_nil ?_
    refine thenN ?_
    refine W_condD rfl (fun h56 => ?_) (fun h56 => ?_)
    · skip
      obtain ⟨ya, hya⟩ := getSome (xs := ys) (k := j) hlen' (by omega)
      refine W_skip ?_
      refine thenN ?_
      refine W_seq ?_
      refine W_block ?_
      refine W_seq ?_
      refine W_region ?_
      refine wl_q (r_move (.slice _ _ _) rfl) rfl rfl ?_
      refine wl_q (r_move (.slice _ _ _) rfl) rfl rfl ?_
      refine wl_q (r_move (.int _ _) rfl) rfl rfl ?_
      refine wl_q (r_idxR (j) sl22 rfl rfl rfl ((R'.mem hM15).below_len (mapGet bodyCells hya)) ((R'.mem hM15).someK (mapGet bodyCells hya))) rfl rfl ?_
      refine wl_q (r_fieldAddrE 0 fld38_0 (R'.mem hM15) (Nat.lt_of_le_of_lt (Nat.zero_le _) ((R'.mem hM15).below_len (mapGet bodyCells hya))) rfl) rfl rfl ?_
      refine wl_q (r_ldE (o := 0) (.int _ _) one23 (R'.mem hM15) (mapGet bodyCells hya) rfl rfl) rfl rfl ?_
      refine wl_cal cal13 rfl rfl rfl ?_
      refine (ref06_Find _ ya.key _ _ _ xs (R.mem hM15)).mono ?_
      rintro _ w16 ⟨v16, rfl, ⟨rfl, hb16⟩⟩
      refine ⟨_, rfl, ?_⟩
      have M16 := hM15.callB hb16
      refine wl_q (r_bin (.bool (decide _)) rfl rfl rfl) rfl rfl ?_
      refine wl_nil ?_
      refine thenN ?_
      refine W_condD rfl (fun h66 => ?_) (fun h66 => ?_)
      · skip
        refine W_draw [(0, 0), (1, 1), (2, 0), (3, 0), (4, 1), (5, 1), (6, 1), (7, 2), (8, 2), (9, 0), (10, 2)] mixed rfl (by kernel_rfl) (fun w17 hb17 hh17 => ?_)
        have M17 := M16.drew hb17 hh17
        refine D_p rfl rfl rfl (fun _ => r_fieldAddr 0 fld43_0 rfl) ?_
        refine D_r rfl rfl rfl (r_ld 1 (.slice _ _ _) one41 M17 rfl rfl rfl) ?_
        refine D_p rfl rfl rfl (fun _ => r_move (.slice _ _ _) rfl) ?_
        refine D_p rfl rfl rfl (fun _ => r_move (.int _ _) rfl) ?_
        refine D_r rfl rfl rfl (r_idxR (j) sl22 rfl rfl rfl ((R'.mem M17).below_len (mapGet bodyCells hya)) ((R'.mem M17).someK (mapGet bodyCells hya))) ?_
        refine D_r rfl rfl rfl (r_fieldAddrE 0 fld38_0 (R'.mem M17) (Nat.lt_of_le_of_lt (Nat.zero_le _) ((R'.mem M17).below_len (mapGet bodyCells hya))) rfl) ?_
        refine D_r rfl rfl rfl (r_ldE (o := 0) (.int _ _) one23 (R'.mem M17) (mapGet bodyCells hya) rfl rfl) ?_
        refine D_e [true, true, true, false] rfl (by kernel_rfl) ?_
        refine wl_bslice [.int _ _] [keyCell ya.key] rfl sl41 M17 rfl rfl rfl rfl (lens_of rfl) (by decide) (fun b18 w18 M18 => ?_)
        refine wl_nil (thenN ⟨(alC (Yl_of rfl (r_ld 1 (.slice _ _ _) one41 M18 rfl rfl rfl)) alN), ?_⟩)
        refine D_e [true] rfl (by kernel_rfl) ?_
        refine wl_append 2 [keyCell ya.key] sl41 M18 rfl rfl rfl rfl rfl hr0 rfl (keyCell_ok _) (Cells.ofMem 5 M18 rfl) (by omega) (fun A19 c19 e19 w19 M19 hR19 => ?_)
        refine wl_nil (thenN ⟨alN, ?_⟩)
        refine D_p rfl rfl rfl (fun _ => r_fieldAddr 0 fld43_0 rfl) ?_
        refine D_e [] rfl (by kernel_rfl) ?_
        refine wl_st 1 (.slice _ _ _) one41 M19 rfl rfl rfl rfl rfl rfl (fun w20 M20 => ?_)
        refine wl_nil (thenN ⟨alN, ?_⟩)
        refine D_nil ?_
        refine blkN ?_
        refine thenN ?_
        refine W_region ?_
        refine wl_q (r_move (.int _ _) rfl) rfl rfl ?_
        refine wl_q (r_add rfl rfl (by omega) (by omega)) rfl rfl ?_
        refine wl_q (r_assign (.int _ _) rfl) rfl rfl ?_
        refine wl_nil ?_
        refine roundN (j + 1, ⟨A19, r0.n + 1, c19, e19⟩) (agC rfl agN) (akC rfl (akC rfl (akC rfl (akC rfl akN)))) ?_ ?_
        · exact ⟨⟨by omega, by rw [remK_yes hya h66]; simpa using hR19⟩, M20.keep [true, true, true, true, true, false]⟩
        · (show m - (j + 1) < m - j; omega)
      · skip
        refine W_skip ?_
        refine blkN ?_
        refine thenN ?_
        refine W_region ?_
        refine wl_q (r_move (.int _ _) rfl) rfl rfl ?_
        refine wl_q (r_add rfl rfl (by omega) (by omega)) rfl rfl ?_
        refine wl_q (r_assign (.int _ _) rfl) rfl rfl ?_
        refine wl_nil ?_
        refine roundN (j + 1, r0) (agC rfl agN) (akC rfl (akC rfl (akC rfl (akC rfl akN)))) ?_ ?_
        · exact ⟨⟨by omega, by rw [remK_no hya h66]; exact hr0⟩, M16⟩
        · (show m - (j + 1) < m - j; omega)
    · skip
      have hjm : j = m := by omega
      rw [hjm, List.take_of_length_le (by omega)] at hr0
      refine W_exit ?_
      refine thenX ?_
      refine roundX ?_
      refine blkH ?_
      refine thenN ?_
      refine W_seq ?_
      refine W_region ?_
      refine wl_q (r_ldW 1 agg43 hM15 rfl rfl rfl) rfl rfl ?_
      refine wl_stW 0 _ agg43 hM15 rfl rfl rfl rfl rfl (ones_of rfl) rfl (fun w21 M21 => ?_)
      refine wl_nil ?_
      refine thenN ?_
      refine W_ret ?_
      skip
      refine finC1 0 agg43 M21 rfl rfl rfl ?_
      exact ⟨r0, r1, r2, rfl, hr0, hr1, hr2, M21.keep [false, false, true, true, true]⟩

set_option maxHeartbeats 4000000 in
theorem law07_change (w : World) (q0 q1 q2 : Row) :
    Calls Try.prog 15 #[.agg [.slice q0.A q0.n q0.c, .slice q1.A q1.n q1.c, .slice q2.A q2.n q2.c].toArray] w (fun ex w' => ∃ v, ex = .returned v ∧ (fun v w' => v = .agg [.slice q0.A q0.n q0.c, .slice q1.A q1.n q1.c, .slice q2.A q2.n q2.c].toArray ∧ Below w.heap.size w w') v w') := by
  refine calls_of_W #[.cell 2 43] 10 Try.func15 rfl Try.results15 Try.ntmps15 rfl ?_
  have M0 := Mem.refl w
  refine W_seq ?_
  refine W_region ?_
  refine wl_box (.agg (List.toArray _)) M0 rfl rfl rfl (fun b1 w1 M1 => ?_)
  refine wl_alloc zero43 M1 rfl rfl (fun b2 w2 M2 => ?_)
  refine wl_nil ?_
  refine thenN ?_
  refine W_seq ?_
  refine W_region ?_
  refine wl_q (r_fieldAddr 0 fld45_0 rfl) rfl rfl ?_
  refine wl_q (r_ld 0 (.slice _ _ _) one41 M2 rfl rfl rfl) rfl rfl ?_
  refine wl_q (r_fieldAddr 1 fld45_1 rfl) rfl rfl ?_
  refine wl_q (r_ld 0 (.slice _ _ _) one41 M2 rfl rfl rfl) rfl rfl ?_
  refine wl_q (r_fieldAddr 2 fld45_2 rfl) rfl rfl ?_
  refine wl_q (r_ld 0 (.slice _ _ _) one41 M2 rfl rfl rfl) rfl rfl ?_
  refine wl_q (r_build [(0, .slice _ _ _), (1, .slice _ _ _), (2, .slice _ _ _)] _ struct43 rfl rfl) rfl rfl ?_
  refine wl_stW 1 _ agg43 M2 rfl rfl rfl rfl rfl (ones_of rfl) rfl (fun w3 M3 => ?_)
  refine wl_nil ?_
  refine thenN ?_
  refine W_ret ?_
  skip
  refine finC1 1 agg43 M3 rfl rfl rfl ?_
  exact ⟨rfl, M3.below⟩

set_option maxHeartbeats 4000000 in
theorem view_Diff1_y (w : World) (b : Nat) (r0 r1 r2 : Row) (k0 k1 k2 : List Int) (hr0 : RowIs 23 1 r0.A r0.n r0.c ((k0).map keyCell) r0.e) (hr1 : RowIs 23 1 r1.A r1.n r1.c ((k1).map keyCell) r1.e) (hr2 : RowIs 23 1 r2.A r2.n r2.c ((k2).map keyCell) r2.e) (h0 : r0.n ≤ 1048576) (h1 : r1.n ≤ 1048576) (h2 : r2.n ≤ 1048576) (hO : Own [(some b, bc [.slice r0.A r0.n r0.c, .slice r1.A r1.n r1.c, .slice r2.A r2.n r2.c] 45), r0.e, r1.e, r2.e] w) (B : Option Addr) (m : Nat) (ys : List Body) (R' : Rd w 10 B m (ys.map bodyCells)) (hd' : 0 < m → ∀ q off, B = some ⟨q, off, none⟩ → q ∉ blks [(some b, bc [.slice r0.A r0.n r0.c, .slice r1.A r1.n r1.c, .slice r2.A r2.n r2.c] 45), r0.e, r1.e, r2.e]) (j : Nat) (ya : Body) (hya : ys[j]? = some ya) :
    Calls Try.prog 30 #[.pointer none, elt B (j * 10), .pointer (some ⟨b, 0, none⟩)] w (fun ex w' => ∃ v, ex = .returned v ∧ (fun v w' => v = .tuple #[] ∧ ∃ (q0 q1 q2 : Row), RowIs 23 1 q0.A q0.n q0.c ((k0 ++ [ya.key]).map keyCell) q0.e ∧ RowIs 23 1 q1.A q1.n q1.c ((k1).map keyCell) q1.e ∧ RowIs 23 1 q2.A q2.n q2.c ((k2).map keyCell) q2.e ∧ Mem w (blks [(some b, bc [.slice r0.A r0.n r0.c, .slice r1.A r1.n r1.c, .slice r2.A r2.n r2.c] 45), r0.e, r1.e, r2.e]) [(some b, bc [.slice q0.A q0.n q0.c, .slice q1.A q1.n q1.c, .slice q2.A q2.n q2.c] 45), q0.e, q1.e, q2.e] w') v w') := by
  refine calls_of_W #[] 46 Try.func30 rfl Try.results30 Try.ntmps30 rfl ?_
  have M0 := hO.mem
  refine W_block ?_
  refine W_seq ?_
  refine W_region ?_
  refine wl_q (r_move (.pointer _) rfl) rfl rfl ?_
  refine wl_q (r_eqPtrNil true Try.underlying59 rfl rfl) rfl rfl ?_
  refine wl_q (r_assign (.bool true) rfl) rfl rfl ?_
  refine wl_nil ?_
  refine thenN ?_
  refine W_condT rfl ?_
  refine W_draw [(0, 0), (1, 1), (2, 0), (3, 1), (4, 1), (5, 1), (6, 2), (7, 2), (8, 0), (9, 2)] mixed rfl (by kernel_rfl) (fun w1 hb1 hh1 => ?_)
  have M1 := M0.drew hb1 hh1
  refine D_p rfl rfl rfl (fun _ => r_fieldAddr 0 fld45_0 rfl) ?_
  refine D_r rfl rfl rfl (r_ld 0 (.slice _ _ _) one41 M1 rfl rfl rfl) ?_
  refine D_p rfl rfl rfl (fun _ => r_move (elt _ _) rfl) ?_
  refine D_r rfl rfl rfl (r_nilCheckE (R'.memY M1 hd') (Nat.lt_of_le_of_lt (Nat.zero_le _) ((R'.memY M1 hd').below_len (mapGet bodyCells hya))) rfl) ?_
  refine D_r rfl rfl rfl (r_fieldAddrE 0 fld38_0 (R'.memY M1 hd') (Nat.lt_of_le_of_lt (Nat.zero_le _) ((R'.memY M1 hd').below_len (mapGet bodyCells hya))) rfl) ?_
  refine D_r rfl rfl rfl (r_ldE (o := 0) (.int _ _) one23 (R'.memY M1 hd') (mapGet bodyCells hya) rfl rfl) ?_
  refine D_e [true, true, true, false] rfl (by kernel_rfl) ?_
  refine wl_bslice [.int _ _] [keyCell ya.key] rfl sl41 M1 rfl rfl rfl rfl (lens_of rfl) (by decide) (fun b2 w2 M2 => ?_)
  refine wl_nil (thenN ⟨(alC (Yl_of rfl (r_ld 0 (.slice _ _ _) one41 M2 rfl rfl rfl)) alN), ?_⟩)
  refine D_e [true] rfl (by kernel_rfl) ?_
  refine wl_append 1 [keyCell ya.key] sl41 M2 rfl rfl rfl rfl rfl hr0 rfl (keyCell_ok _) (Cells.ofMem 4 M2 rfl) (by omega) (fun A3 c3 e3 w3 M3 hR3 => ?_)
  refine wl_nil (thenN ⟨alN, ?_⟩)
  refine D_p rfl rfl rfl (fun _ => r_fieldAddr 0 fld45_0 rfl) ?_
  refine D_e [] rfl (by kernel_rfl) ?_
  refine wl_st 0 (.slice _ _ _) one41 M3 rfl rfl rfl rfl rfl rfl (fun w4 M4 => ?_)
  refine wl_nil (thenN ⟨alN, ?_⟩)
  refine D_nil ?_
  refine blkN ?_
  refine fin0n ?_
  exact ⟨rfl, ⟨A3, r0.n + 1, c3, e3⟩, r1, r2, (by simpa using hR3), (by simpa using hr1), (by simpa using hr2), M4.keep [true, true, true, true, false]⟩

set_option maxHeartbeats 4000000 in
theorem view_Diff1_x (w : World) (b : Nat) (r0 r1 r2 : Row) (k0 k1 k2 : List Int) (hr0 : RowIs 23 1 r0.A r0.n r0.c ((k0).map keyCell) r0.e) (hr1 : RowIs 23 1 r1.A r1.n r1.c ((k1).map keyCell) r1.e) (hr2 : RowIs 23 1 r2.A r2.n r2.c ((k2).map keyCell) r2.e) (h0 : r0.n ≤ 1048576) (h1 : r1.n ≤ 1048576) (h2 : r2.n ≤ 1048576) (hO : Own [(some b, bc [.slice r0.A r0.n r0.c, .slice r1.A r1.n r1.c, .slice r2.A r2.n r2.c] 45), r0.e, r1.e, r2.e] w) (A : Option Addr) (n : Nat) (xs : List Body) (R : Rd w 10 A n (xs.map bodyCells)) (hd : 0 < n → ∀ q off, A = some ⟨q, off, none⟩ → q ∉ blks [(some b, bc [.slice r0.A r0.n r0.c, .slice r1.A r1.n r1.c, .slice r2.A r2.n r2.c] 45), r0.e, r1.e, r2.e]) (i : Nat) (xa : Body) (hxa : xs[i]? = some xa) :
    Calls Try.prog 30 #[elt A (i * 10), .pointer none, .pointer (some ⟨b, 0, none⟩)] w (fun ex w' => ∃ v, ex = .returned v ∧ (fun v w' => v = .tuple #[] ∧ ∃ (q0 q1 q2 : Row), RowIs 23 1 q0.A q0.n q0.c ((k0).map keyCell) q0.e ∧ RowIs 23 1 q1.A q1.n q1.c ((k1 ++ [xa.key]).map keyCell) q1.e ∧ RowIs 23 1 q2.A q2.n q2.c ((k2).map keyCell) q2.e ∧ Mem w (blks [(some b, bc [.slice r0.A r0.n r0.c, .slice r1.A r1.n r1.c, .slice r2.A r2.n r2.c] 45), r0.e, r1.e, r2.e]) [(some b, bc [.slice q0.A q0.n q0.c, .slice q1.A q1.n q1.c, .slice q2.A q2.n q2.c] 45), q0.e, q1.e, q2.e] w') v w') := by
  refine calls_of_W #[] 46 Try.func30 rfl Try.results30 Try.ntmps30 rfl ?_
  have M0 := hO.mem
  refine W_block ?_
  refine W_seq ?_
  refine W_region ?_
  refine wl_q (r_move (elt _ _) rfl) rfl rfl ?_
  refine wl_q (r_eqPtrNilE Try.underlying59 (R.memY M0 hd) (mapGet bodyCells hxa) rfl) rfl rfl ?_
  refine wl_q (r_assign (.bool false) rfl) rfl rfl ?_
  refine wl_nil ?_
  refine thenN ?_
  refine W_condF rfl ?_
  refine W_seq ?_
  refine W_region ?_
  refine wl_q (r_move (.pointer _) rfl) rfl rfl ?_
  refine wl_q (r_eqPtrNil true Try.underlying59 rfl rfl) rfl rfl ?_
  refine wl_q (r_assign (.bool true) rfl) rfl rfl ?_
  refine wl_nil ?_
  refine thenN ?_
  refine W_condT rfl ?_
  refine W_draw [(0, 0), (1, 1), (2, 0), (3, 1), (4, 1), (5, 1), (6, 2), (7, 2), (8, 0), (9, 2)] mixed rfl (by kernel_rfl) (fun w1 hb1 hh1 => ?_)
  have M1 := M0.drew hb1 hh1
  refine D_p rfl rfl rfl (fun _ => r_fieldAddr 1 fld45_1 rfl) ?_
  refine D_r rfl rfl rfl (r_ld 0 (.slice _ _ _) one41 M1 rfl rfl rfl) ?_
  refine D_p rfl rfl rfl (fun _ => r_move (elt _ _) rfl) ?_
  refine D_r rfl rfl rfl (r_nilCheckE (R.memY M1 hd) (Nat.lt_of_le_of_lt (Nat.zero_le _) ((R.memY M1 hd).below_len (mapGet bodyCells hxa))) rfl) ?_
  refine D_r rfl rfl rfl (r_fieldAddrE 0 fld38_0 (R.memY M1 hd) (Nat.lt_of_le_of_lt (Nat.zero_le _) ((R.memY M1 hd).below_len (mapGet bodyCells hxa))) rfl) ?_
  refine D_r rfl rfl rfl (r_ldE (o := 0) (.int _ _) one23 (R.memY M1 hd) (mapGet bodyCells hxa) rfl rfl) ?_
  refine D_e [true, true, true, false] rfl (by kernel_rfl) ?_
  refine wl_bslice [.int _ _] [keyCell xa.key] rfl sl41 M1 rfl rfl rfl rfl (lens_of rfl) (by decide) (fun b2 w2 M2 => ?_)
  refine wl_nil (thenN ⟨(alC (Yl_of rfl (r_ld 0 (.slice _ _ _) one41 M2 rfl rfl rfl)) alN), ?_⟩)
  refine D_e [true] rfl (by kernel_rfl) ?_
  refine wl_append 2 [keyCell xa.key] sl41 M2 rfl rfl rfl rfl rfl hr1 rfl (keyCell_ok _) (Cells.ofMem 4 M2 rfl) (by omega) (fun A3 c3 e3 w3 M3 hR3 => ?_)
  refine wl_nil (thenN ⟨alN, ?_⟩)
  refine D_p rfl rfl rfl (fun _ => r_fieldAddr 1 fld45_1 rfl) ?_
  refine D_e [] rfl (by kernel_rfl) ?_
  refine wl_st 0 (.slice _ _ _) one41 M3 rfl rfl rfl rfl rfl rfl (fun w4 M4 => ?_)
  refine wl_nil (thenN ⟨alN, ?_⟩)
  refine D_nil ?_
  refine blkN ?_
  refine fin0n ?_
  exact ⟨rfl, r0, ⟨A3, r1.n + 1, c3, e3⟩, r2, (by simpa using hr0), (by simpa using hR3), (by simpa using hr2), M4.keep [true, true, true, true, false]⟩

set_option maxHeartbeats 4000000 in
theorem view_Diff1_xy (w : World) (b : Nat) (r0 r1 r2 : Row) (k0 k1 k2 : List Int) (hr0 : RowIs 23 1 r0.A r0.n r0.c ((k0).map keyCell) r0.e) (hr1 : RowIs 23 1 r1.A r1.n r1.c ((k1).map keyCell) r1.e) (hr2 : RowIs 23 1 r2.A r2.n r2.c ((k2).map keyCell) r2.e) (h0 : r0.n ≤ 1048576) (h1 : r1.n ≤ 1048576) (h2 : r2.n ≤ 1048576) (hO : Own [(some b, bc [.slice r0.A r0.n r0.c, .slice r1.A r1.n r1.c, .slice r2.A r2.n r2.c] 45), r0.e, r1.e, r2.e] w) (A : Option Addr) (n : Nat) (xs : List Body) (R : Rd w 10 A n (xs.map bodyCells)) (hd : 0 < n → ∀ q off, A = some ⟨q, off, none⟩ → q ∉ blks [(some b, bc [.slice r0.A r0.n r0.c, .slice r1.A r1.n r1.c, .slice r2.A r2.n r2.c] 45), r0.e, r1.e, r2.e]) (i : Nat) (xa : Body) (hxa : xs[i]? = some xa) (B : Option Addr) (m : Nat) (ys : List Body) (R' : Rd w 10 B m (ys.map bodyCells)) (hd' : 0 < m → ∀ q off, B = some ⟨q, off, none⟩ → q ∉ blks [(some b, bc [.slice r0.A r0.n r0.c, .slice r1.A r1.n r1.c, .slice r2.A r2.n r2.c] 45), r0.e, r1.e, r2.e]) (j : Nat) (ya : Body) (hya : ys[j]? = some ya) :
    Calls Try.prog 30 #[elt A (i * 10), elt B (j * 10), .pointer (some ⟨b, 0, none⟩)] w (fun ex w' => ∃ v, ex = .returned v ∧ (fun v w' => v = .tuple #[] ∧ ∃ (q0 q1 q2 : Row), RowIs 23 1 q0.A q0.n q0.c ((k0).map keyCell) q0.e ∧ RowIs 23 1 q1.A q1.n q1.c ((k1).map keyCell) q1.e ∧ RowIs 23 1 q2.A q2.n q2.c ((k2 ++ if xa = ya then [] else [xa.key]).map keyCell) q2.e ∧ Mem w (blks [(some b, bc [.slice r0.A r0.n r0.c, .slice r1.A r1.n r1.c, .slice r2.A r2.n r2.c] 45), r0.e, r1.e, r2.e]) [(some b, bc [.slice q0.A q0.n q0.c, .slice q1.A q1.n q1.c, .slice q2.A q2.n q2.c] 45), q0.e, q1.e, q2.e] w') v w') := by
  refine calls_of_W #[] 46 Try.func30 rfl Try.results30 Try.ntmps30 rfl ?_
  have M0 := hO.mem
  refine W_block ?_
  refine W_seq ?_
  refine W_region ?_
  refine wl_q (r_move (elt _ _) rfl) rfl rfl ?_
  refine wl_q (r_eqPtrNilE Try.underlying59 (R.memY M0 hd) (mapGet bodyCells hxa) rfl) rfl rfl ?_
  refine wl_q (r_assign (.bool false) rfl) rfl rfl ?_
  refine wl_nil ?_
  refine thenN ?_
  refine W_condF rfl ?_
  refine W_seq ?_
  refine W_region ?_
  refine wl_q (r_move (elt _ _) rfl) rfl rfl ?_
  refine wl_q (r_eqPtrNilE Try.underlying59 (R'.memY M0 hd') (mapGet bodyCells hya) rfl) rfl rfl ?_
  refine wl_q (r_assign (.bool false) rfl) rfl rfl ?_
  refine wl_nil ?_
  refine thenN ?_
  refine W_condF rfl ?_
  refine W_seq ?_
  refine W_draw [(0, 0), (1, 1), (2, 1), (3, 0), (4, 1), (5, 1), (6, 0), (7, 0)] mixed rfl (by kernel_rfl) (fun w1 hb1 hh1 => ?_)
  have M1 := M0.drew hb1 hh1
  refine D_p rfl rfl rfl (fun _ => r_move (elt _ _) rfl) ?_
  refine D_r rfl rfl rfl (r_nilCheckE (R.memY M1 hd) (Nat.lt_of_le_of_lt (Nat.zero_le _) ((R.memY M1 hd).below_len (mapGet bodyCells hxa))) rfl) ?_
  refine D_r rfl rfl rfl (r_ldEA _ agg38 (R.memY M1 hd) (mapGet bodyCells hxa) rfl) ?_
  refine D_p rfl rfl rfl (fun _ => r_move (elt _ _) rfl) ?_
  refine D_r rfl rfl rfl (r_nilCheckE (R'.memY M1 hd') (Nat.lt_of_le_of_lt (Nat.zero_le _) ((R'.memY M1 hd').below_len (mapGet bodyCells hya))) rfl) ?_
  refine D_r rfl rfl rfl (r_ldEA _ agg38 (R'.memY M1 hd') (mapGet bodyCells hya) rfl) ?_
  refine D_p rfl rfl rfl (fun _ => r_neA (eqBody xa ya) rfl rfl) ?_
  refine D_p rfl rfl rfl (fun _ => r_assign (.bool (decide _)) rfl) ?_
  refine D_nil ?_
  refine thenN ?_
  refine W_condD rfl (fun h29 => ?_) (fun h29 => ?_)
  · skip
    have e : (if xa = ya then [] else [xa.key]) = [xa.key] := if_neg h29
    rw [e]
    refine W_draw [(0, 0), (1, 1), (2, 0), (3, 1), (4, 1), (5, 1), (6, 2), (7, 2), (8, 0), (9, 2)] mixed rfl (by kernel_rfl) (fun w2 hb2 hh2 => ?_)
    have M2 := M1.drew hb2 hh2
    refine D_p rfl rfl rfl (fun _ => r_fieldAddr 2 fld45_2 rfl) ?_
    refine D_r rfl rfl rfl (r_ld 0 (.slice _ _ _) one41 M2 rfl rfl rfl) ?_
    refine D_p rfl rfl rfl (fun _ => r_move (elt _ _) rfl) ?_
    refine D_r rfl rfl rfl (r_nilCheckE (R.memY M2 hd) (Nat.lt_of_le_of_lt (Nat.zero_le _) ((R.memY M2 hd).below_len (mapGet bodyCells hxa))) rfl) ?_
    refine D_r rfl rfl rfl (r_fieldAddrE 0 fld38_0 (R.memY M2 hd) (Nat.lt_of_le_of_lt (Nat.zero_le _) ((R.memY M2 hd).below_len (mapGet bodyCells hxa))) rfl) ?_
    refine D_r rfl rfl rfl (r_ldE (o := 0) (.int _ _) one23 (R.memY M2 hd) (mapGet bodyCells hxa) rfl rfl) ?_
    refine D_e [true, true, true, false] rfl (by kernel_rfl) ?_
    refine wl_bslice [.int _ _] [keyCell xa.key] rfl sl41 M2 rfl rfl rfl rfl (lens_of rfl) (by decide) (fun b3 w3 M3 => ?_)
    refine wl_nil (thenN ⟨(alC (Yl_of rfl (r_ld 0 (.slice _ _ _) one41 M3 rfl rfl rfl)) alN), ?_⟩)
    refine D_e [true] rfl (by kernel_rfl) ?_
    refine wl_append 3 [keyCell xa.key] sl41 M3 rfl rfl rfl rfl rfl hr2 rfl (keyCell_ok _) (Cells.ofMem 4 M3 rfl) (by omega) (fun A4 c4 e4 w4 M4 hR4 => ?_)
    refine wl_nil (thenN ⟨alN, ?_⟩)
    refine D_p rfl rfl rfl (fun _ => r_fieldAddr 2 fld45_2 rfl) ?_
    refine D_e [] rfl (by kernel_rfl) ?_
    refine wl_st 0 (.slice _ _ _) one41 M4 rfl rfl rfl rfl rfl rfl (fun w5 M5 => ?_)
    refine wl_nil (thenN ⟨alN, ?_⟩)
    refine D_nil ?_
    refine blkN ?_
    refine fin0n ?_
    exact ⟨rfl, r0, r1, ⟨A4, r2.n + 1, c4, e4⟩, (by simpa using hr0), (by simpa using hr1), (by simpa using hR4), M5.keep [true, true, true, true, false]⟩
  · skip
    have e : (if xa = ya then [] else [xa.key]) = [] := if_pos (Decidable.not_not.1 h29)
    rw [e]
    refine W_skip ?_
    refine blkN ?_
    refine fin0n ?_
    exact ⟨rfl, r0, r1, r2, (by simpa using hr0), (by simpa using hr1), (by simpa using hr2), M1.keep [true, true, true, true]⟩

set_option maxHeartbeats 16000000 in
theorem view_mergeD (w : World) (A : Option Addr) (n c : Nat) (xs : List Body) (R : Rd w 10 A n (xs.map bodyCells)) (hn : n ≤ 1048576) (B : Option Addr) (m c' : Nat) (ys : List Body) (R' : Rd w 10 B m (ys.map bodyCells)) (hm : m ≤ 1048576) (hs : Sorted xs) (hs' : Sorted ys) (b : Nat) (hO : Own [(some b, bc [.slice none 0 0, .slice none 0 0, .slice none 0 0] 45), (none, default), (none, default), (none, default)] w) (hdA : 0 < n → ∀ q off, A = some ⟨q, off, none⟩ → q ∉ blks [(some b, bc [.slice none 0 0, .slice none 0 0, .slice none 0 0] 45), (none, default), (none, default), (none, default)]) (hdB : 0 < m → ∀ q off, B = some ⟨q, off, none⟩ → q ∉ blks [(some b, bc [.slice none 0 0, .slice none 0 0, .slice none 0 0] 45), (none, default), (none, default), (none, default)]) :
    Calls Try.prog 29 #[.slice A n c, .slice B m c', .func (.func 30) #[] #[.pointer (some ⟨b, 0, none⟩)]] w (fun ex w' => ∃ v, ex = .returned v ∧ (fun v w' => v = .tuple #[] ∧ ∃ (q0 q1 q2 : Row), RowIs 23 1 q0.A q0.n q0.c ((remK xs ys).map keyCell) q0.e ∧ RowIs 23 1 q1.A q1.n q1.c ((remK ys xs).map keyCell) q1.e ∧ RowIs 23 1 q2.A q2.n q2.c ((chgK ys xs).map keyCell) q2.e ∧ Mem w (blks [(some b, bc [.slice none 0 0, .slice none 0 0, .slice none 0 0] 45), (none, default), (none, default), (none, default)]) [(some b, bc [.slice q0.A q0.n q0.c, .slice q1.A q1.n q1.c, .slice q2.A q2.n q2.c] 45), q0.e, q1.e, q2.e] w') v w') := by
  have hlen : xs.length = n := by simpa using R.len
  have hbd := R.bound
  have hlen' : ys.length = m := by simpa using R'.len
  refine calls_of_W #[] 86 Try.func29 rfl Try.results29 Try.ntmps29 rfl ?_
  have M0 := hO.mem
  refine W_seq ?_
  refine W_region ?_
  refine wl_q (r_assign (.int _ _) rfl) rfl rfl ?_
  refine wl_q (r_assign (.int _ _) rfl) rfl rfl ?_
  refine wl_nil ?_
  refine thenN ?_
  refine W_block ?_
  refine W_loop (σ := Nat × Nat × Row × Row × Row) [0, 1, 2] (fun (i, k, q0, q1, q2) => [(6, .int .i64 (i : Int)), (7, .int .i64 (k : Int))]) (fun (i, k, q0, q1, q2) w' => (i ≤ n ∧ k ≤ m ∧ Mg xs ys i k ∧ RowIs 23 1 q0.A q0.n q0.c ((remK xs (ys.take k)).map keyCell) q0.e ∧ RowIs 23 1 q1.A q1.n q1.c ((remK ys (xs.take i)).map keyCell) q1.e ∧ RowIs 23 1 q2.A q2.n q2.c ((chgK ys (xs.take i)).map keyCell) q2.e) ∧ Mem w (blks [(some b, bc [.slice none 0 0, .slice none 0 0, .slice none 0 0] 45), (none, default), (none, default), (none, default)]) [(some b, bc [.slice q0.A q0.n q0.c, .slice q1.A q1.n q1.c, .slice q2.A q2.n q2.c] 45), q0.e, q1.e, q2.e] w') (fun (i, k, q0, q1, q2) => (n - i) + (m - k)) (0, 0, ⟨none, 0, 0, (none, default)⟩, ⟨none, 0, 0, (none, default)⟩, ⟨none, 0, 0, (none, default)⟩) (agC rfl (agC rfl agN)) (⟨⟨by omega, by omega, Mg.init hs hs', (RowIs.nil 23 1 default), (RowIs.nil 23 1 default), (RowIs.nil 23 1 default)⟩, M0⟩) ?_
  rintro ⟨i, k, q0, q1, q2⟩ ρ1 w1 ⟨⟨hi, hk, hMg, hq0, hq1, hq2⟩, hM1⟩
  have ht0 := remK_len xs (ys.take k)
  have ht1 := remK_len ys (xs.take i)
  have ht2 := chgK_len ys (xs.take i)
  have ht3 := List.length_take_le k ys
  have ht4 := List.length_take_le i xs
  have hlq0 : (remK xs (ys.take k)).length = q0.n := by simpa using hq0.1
  have hlq1 : (remK ys (xs.take i)).length = q1.n := by simpa using hq1.1
  have hlq2 : (chgK ys (xs.take i)).length = q2.n := by simpa using hq2.1
  refine W_seq ?_
  refine W_seq ?_
  refine W_region ?_
  refine wl_q (r_move (.int _ _) rfl) rfl rfl ?_
  refine wl_q (r_move (.slice _ _ _) rfl) rfl rfl ?_
  refine wl_q (r_lenS Try.underlying22 rfl) rfl rfl ?_
  refine wl_q (r_bin (.bool (decide _)) rfl rfl rfl) rfl rfl ?_
  refine wl_q (r_move (.bool (decide _)) rfl) rfl rfl ?_
  refine wl_splitD 12 rfl (fun g12 => ?_) (fun g12 => ?_)
  · skip
    obtain ⟨xa, hxa⟩ := getSome (k := i) hlen (by omega)
    refine wl_skip rfl rfl ?_
    refine wl_skip rfl rfl ?_
    refine wl_skip rfl rfl ?_
    refine wl_skip rfl rfl ?_
    refine wl_q (r_pick true (.bool true) rfl rfl) rfl rfl ?_
    refine wl_nil ?_
    refine thenN ?_
    refine W_condT rfl ?_
    refine W_skip ?_
    refine thenN ?_
    refine W_block ?_
    refine W_block ?_
    refine W_seq ?_
    refine W_draw [(0, 0), (1, 0), (2, 0), (3, 0), (4, 0), (5, 0), (6, 0), (7, 0), (8, 0), (9, 0), (10, 0), (11, 0), (12, 1), (13, 1), (14, 1), (15, 0), (16, 0), (17, 1), (18, 1), (19, 1), (20, 0), (21, 0), (22, 0), (23, 0)] mixed rfl (by kernel_rfl) (fun w2 hb2 hh2 => ?_)
    have M2 := hM1.drew hb2 hh2
    refine D_p rfl rfl rfl (fun _ => r_move (.int _ _) rfl) ?_
    refine D_p rfl rfl rfl (fun _ => r_move (.slice _ _ _) rfl) ?_
    refine D_p rfl rfl rfl (fun _ => r_lenS Try.underlying22 rfl) ?_
    refine D_p rfl rfl rfl (fun _ => r_bin (.bool (decide _)) rfl rfl rfl) ?_
    refine D_p rfl rfl rfl (fun _ => r_move (.bool (decide _)) rfl) ?_
    refine D_splitD 35 rfl (fun g35 => ?_) (fun g35 => ?_)
    · skip
      refine D_s rfl rfl rfl ?_
      refine D_s rfl rfl rfl ?_
      refine D_s rfl rfl rfl ?_
      refine D_s rfl rfl rfl ?_
      refine D_s rfl rfl rfl ?_
      refine D_s rfl rfl rfl ?_
      refine D_s rfl rfl rfl ?_
      refine D_s1 rfl rfl rfl ?_
      refine D_s1 rfl rfl rfl ?_
      refine D_s1 rfl rfl rfl ?_
      refine D_s rfl rfl rfl ?_
      refine D_s rfl rfl rfl ?_
      refine D_s1 rfl rfl rfl ?_
      refine D_s1 rfl rfl rfl ?_
      refine D_s1 rfl rfl rfl ?_
      refine D_s rfl rfl rfl ?_
      refine D_s rfl rfl rfl ?_
      refine D_p rfl rfl rfl (fun _ => r_pick true (.bool true) rfl rfl) ?_
      refine D_p rfl rfl rfl (fun _ => r_assign (.bool true) rfl) ?_
      refine D_nil ?_
      refine thenN ?_
      refine W_condT rfl ?_
      refine W_seq ?_
      refine W_region ?_
      refine wl_q (r_move (.func _ _ _) rfl) rfl rfl ?_
      refine wl_q (r_move (.slice _ _ _) rfl) rfl rfl ?_
      refine wl_q (r_move (.int _ _) rfl) rfl rfl ?_
      refine wl_q (r_idxR (i) sl22 rfl rfl rfl ((R.memY M2 hdA).below_len (mapGet bodyCells hxa)) ((R.memY M2 hdA).someK (mapGet bodyCells hxa))) rfl rfl ?_
      refine wl_cal cal30 rfl rfl rfl ?_
      refine (view_Diff1_x _ b q0 q1 q2 _ _ _ hq0 hq1 hq2 (by omega) (by omega) (by omega) (M2.ownSeg 0 4) A n xs (R.memY M2 hdA) (M2.away 0 4 R hdA) i xa hxa).mono ?_
      rintro _ w3 ⟨v3, rfl, ⟨rfl, p0, p1, p2, hp0, hp1, hp2, hM3⟩⟩
      refine ⟨_, rfl, ?_⟩
      have M3 : Mem _ _ [_, _, _, _] _ := M2.seg 0 4 hM3
      refine wl_nil ?_
      refine thenN ?_
      refine W_region ?_
      refine wl_q (r_move (.int _ _) rfl) rfl rfl ?_
      refine wl_q (r_add rfl rfl (by omega) (by omega)) rfl rfl ?_
      refine wl_q (r_assign (.int _ _) rfl) rfl rfl ?_
      refine wl_nil ?_
      refine blkN ?_
      refine blkN ?_
      have hmg := hMg.x hxa (fun b hb => by have := (List.getElem?_eq_some_iff.1 hb).1; omega)
      refine roundN (i + 1, k, p0, p1, p2) (agC rfl (agC rfl agN)) (akC rfl (akC rfl (akC rfl akN))) ?_ ?_
      · exact ⟨⟨by omega, hk, hmg.1, hp0, by rw [remK_yes hxa hmg.2]; exact hp1, by rw [chgK_no hxa (chgB_none hmg.2)]; exact hp2⟩, M3⟩
      · (show (n - (i + 1)) + (m - k) < (n - i) + (m - k); omega)
    · skip
      obtain ⟨ya, hya⟩ := getSome (xs := ys) (k := k) hlen' (by omega)
      refine D_p rfl rfl rfl (fun _ => r_move (.int _ _) rfl) ?_
      refine D_p rfl rfl rfl (fun _ => r_move (.slice _ _ _) rfl) ?_
      refine D_p rfl rfl rfl (fun _ => r_lenS Try.underlying22 rfl) ?_
      refine D_p rfl rfl rfl (fun _ => r_bin (.bool (decide _)) rfl rfl rfl) ?_
      refine D_re 39 (.bool true) (bT (by omega)).symm ?_
      refine D_p rfl rfl rfl (fun _ => r_move (.bool true) rfl) ?_
      refine D_p rfl rfl rfl (fun _ => r_move (.slice _ _ _) rfl) ?_
      refine D_p rfl rfl rfl (fun _ => r_move (.int _ _) rfl) ?_
      refine D_r rfl rfl rfl (r_idxR (i) sl22 rfl rfl rfl ((R.memY M2 hdA).below_len (mapGet bodyCells hxa)) ((R.memY M2 hdA).someK (mapGet bodyCells hxa))) ?_
      refine D_r rfl rfl rfl (r_fieldAddrE 0 fld38_0 (R.memY M2 hdA) (Nat.lt_of_le_of_lt (Nat.zero_le _) ((R.memY M2 hdA).below_len (mapGet bodyCells hxa))) rfl) ?_
      refine D_r rfl rfl rfl (r_ldE (o := 0) (.int _ _) one23 (R.memY M2 hdA) (mapGet bodyCells hxa) rfl rfl) ?_
      refine D_p rfl rfl rfl (fun _ => r_move (.slice _ _ _) rfl) ?_
      refine D_p rfl rfl rfl (fun _ => r_move (.int _ _) rfl) ?_
      refine D_r rfl rfl rfl (r_idxR (k) sl22 rfl rfl rfl ((R'.memY M2 hdB).below_len (mapGet bodyCells hya)) ((R'.memY M2 hdB).someK (mapGet bodyCells hya))) ?_
      refine D_r rfl rfl rfl (r_fieldAddrE 0 fld38_0 (R'.memY M2 hdB) (Nat.lt_of_le_of_lt (Nat.zero_le _) ((R'.memY M2 hdB).below_len (mapGet bodyCells hya))) rfl) ?_
      refine D_r rfl rfl rfl (r_ldE (o := 0) (.int _ _) one23 (R'.memY M2 hdB) (mapGet bodyCells hya) rfl rfl) ?_
      refine D_p rfl rfl rfl (fun _ => r_bin (.bool (decide _)) rfl rfl rfl) ?_
      refine D_p rfl rfl rfl (fun _ => r_pick true (.bool (decide _)) rfl rfl) ?_
      refine D_p rfl rfl rfl (fun _ => r_pick false (.bool (decide _)) rfl rfl) ?_
      refine D_p rfl rfl rfl (fun _ => r_assign (.bool (decide _)) rfl) ?_
      refine D_nil ?_
      refine thenN ?_
      refine W_condD rfl (fun h30 => ?_) (fun h30 => ?_)
      · skip
        refine W_seq ?_
        refine W_region ?_
        refine wl_q (r_move (.func _ _ _) rfl) rfl rfl ?_
        refine wl_q (r_move (.slice _ _ _) rfl) rfl rfl ?_
        refine wl_q (r_move (.int _ _) rfl) rfl rfl ?_
        refine wl_q (r_idxR (i) sl22 rfl rfl rfl ((R.memY M2 hdA).below_len (mapGet bodyCells hxa)) ((R.memY M2 hdA).someK (mapGet bodyCells hxa))) rfl rfl ?_
        refine wl_cal cal30 rfl rfl rfl ?_
        refine (view_Diff1_x _ b q0 q1 q2 _ _ _ hq0 hq1 hq2 (by omega) (by omega) (by omega) (M2.ownSeg 0 4) A n xs (R.memY M2 hdA) (M2.away 0 4 R hdA) i xa hxa).mono ?_
        rintro _ w4 ⟨v4, rfl, ⟨rfl, p0, p1, p2, hp0, hp1, hp2, hM4⟩⟩
        refine ⟨_, rfl, ?_⟩
        have M4 : Mem _ _ [_, _, _, _] _ := M2.seg 0 4 hM4
        refine wl_nil ?_
        refine thenN ?_
        refine W_region ?_
        refine wl_q (r_move (.int _ _) rfl) rfl rfl ?_
        refine wl_q (r_add rfl rfl (by omega) (by omega)) rfl rfl ?_
        refine wl_q (r_assign (.int _ _) rfl) rfl rfl ?_
        refine wl_nil ?_
        refine blkN ?_
        refine blkN ?_
        have hmg := hMg.x hxa (fun b hb => by rw [hya] at hb; injection hb with hb; subst hb; exact h30)
        refine roundN (i + 1, k, p0, p1, p2) (agC rfl (agC rfl agN)) (akC rfl (akC rfl (akC rfl akN))) ?_ ?_
        · exact ⟨⟨by omega, hk, hmg.1, hp0, by rw [remK_yes hxa hmg.2]; exact hp1, by rw [chgK_no hxa (chgB_none hmg.2)]; exact hp2⟩, M4⟩
        · (show (n - (i + 1)) + (m - k) < (n - i) + (m - k); omega)
      · skip
        refine W_seq ?_
        refine W_draw [(0, 0), (1, 0), (2, 0), (3, 0), (4, 0), (5, 0), (6, 0), (7, 1), (8, 1), (9, 1), (10, 0), (11, 0), (12, 1), (13, 1), (14, 1), (15, 0), (16, 0), (17, 0)] mixed rfl (by kernel_rfl) (fun w5 hb5 hh5 => ?_)
        have M5 := M2.drew hb5 hh5
        refine D_p rfl rfl rfl (fun _ => r_move (.int _ _) rfl) ?_
        refine D_p rfl rfl rfl (fun _ => r_move (.slice _ _ _) rfl) ?_
        refine D_p rfl rfl rfl (fun _ => r_lenS Try.underlying22 rfl) ?_
        refine D_p rfl rfl rfl (fun _ => r_bin (.bool (decide _)) rfl rfl rfl) ?_
        refine D_re 65 (.bool false) (bF (by omega)).symm ?_
        refine D_p rfl rfl rfl (fun _ => r_move (.bool false) rfl) ?_
        refine D_p rfl rfl rfl (fun _ => r_move (.slice _ _ _) rfl) ?_
        refine D_p rfl rfl rfl (fun _ => r_move (.int _ _) rfl) ?_
        refine D_r rfl rfl rfl (r_idxR (k) sl22 rfl rfl rfl ((R'.memY M5 hdB).below_len (mapGet bodyCells hya)) ((R'.memY M5 hdB).someK (mapGet bodyCells hya))) ?_
        refine D_r rfl rfl rfl (r_fieldAddrE 0 fld38_0 (R'.memY M5 hdB) (Nat.lt_of_le_of_lt (Nat.zero_le _) ((R'.memY M5 hdB).below_len (mapGet bodyCells hya))) rfl) ?_
        refine D_r rfl rfl rfl (r_ldE (o := 0) (.int _ _) one23 (R'.memY M5 hdB) (mapGet bodyCells hya) rfl rfl) ?_
        refine D_p rfl rfl rfl (fun _ => r_move (.slice _ _ _) rfl) ?_
        refine D_p rfl rfl rfl (fun _ => r_move (.int _ _) rfl) ?_
        refine D_r rfl rfl rfl (r_idxR (i) sl22 rfl rfl rfl ((R.memY M5 hdA).below_len (mapGet bodyCells hxa)) ((R.memY M5 hdA).someK (mapGet bodyCells hxa))) ?_
        refine D_r rfl rfl rfl (r_fieldAddrE 0 fld38_0 (R.memY M5 hdA) (Nat.lt_of_le_of_lt (Nat.zero_le _) ((R.memY M5 hdA).below_len (mapGet bodyCells hxa))) rfl) ?_
        refine D_r rfl rfl rfl (r_ldE (o := 0) (.int _ _) one23 (R.memY M5 hdA) (mapGet bodyCells hxa) rfl rfl) ?_
        refine D_p rfl rfl rfl (fun _ => r_bin (.bool (decide _)) rfl rfl rfl) ?_
        refine D_p rfl rfl rfl (fun _ => r_pick false (.bool (decide _)) rfl rfl) ?_
        refine D_p rfl rfl rfl (fun _ => r_assign (.bool (decide _)) rfl) ?_
        refine D_nil ?_
        refine thenN ?_
        refine W_condD rfl (fun h61 => ?_) (fun h61 => ?_)
        · skip
          refine W_seq ?_
          refine W_region ?_
          refine wl_q (r_move (.func _ _ _) rfl) rfl rfl ?_
          refine wl_q (r_move (.slice _ _ _) rfl) rfl rfl ?_
          refine wl_q (r_move (.int _ _) rfl) rfl rfl ?_
          refine wl_q (r_idxR (k) sl22 rfl rfl rfl ((R'.memY M5 hdB).below_len (mapGet bodyCells hya)) ((R'.memY M5 hdB).someK (mapGet bodyCells hya))) rfl rfl ?_
          refine wl_cal cal30 rfl rfl rfl ?_
          refine (view_Diff1_y _ b q0 q1 q2 _ _ _ hq0 hq1 hq2 (by omega) (by omega) (by omega) (M5.ownSeg 0 4) B m ys (R'.memY M5 hdB) (M5.away 0 4 R' hdB) k ya hya).mono ?_
          rintro _ w6 ⟨v6, rfl, ⟨rfl, p0, p1, p2, hp0, hp1, hp2, hM6⟩⟩
          refine ⟨_, rfl, ?_⟩
          have M6 : Mem _ _ [_, _, _, _] _ := M5.seg 0 4 hM6
          refine wl_nil ?_
          refine thenN ?_
          refine W_region ?_
          refine wl_q (r_move (.int _ _) rfl) rfl rfl ?_
          refine wl_q (r_add rfl rfl (by omega) (by omega)) rfl rfl ?_
          refine wl_q (r_assign (.int _ _) rfl) rfl rfl ?_
          refine wl_nil ?_
          refine blkN ?_
          refine blkN ?_
          have hmg := hMg.y hya (fun a ha => by rw [hxa] at ha; injection ha with ha; subst ha; exact h61)
          refine roundN (i, k + 1, p0, p1, p2) (agC rfl (agC rfl agN)) (akC rfl (akC rfl (akC rfl akN))) ?_ ?_
          · exact ⟨⟨hi, by omega, hmg.1, by rw [remK_yes hya hmg.2]; exact hp0, hp1, hp2⟩, M6⟩
          · (show (n - i) + (m - (k + 1)) < (n - i) + (m - k); omega)
        · skip
          refine W_seq ?_
          refine W_draw [(0, 0), (1, 0), (2, 0), (3, 1), (4, 0), (5, 0), (6, 1), (7, 2)] mixed rfl (by kernel_rfl) (fun w7 hb7 hh7 => ?_)
          have M7 := M5.drew hb7 hh7
          refine D_p rfl rfl rfl (fun _ => r_move (.func _ _ _) rfl) ?_
          refine D_p rfl rfl rfl (fun _ => r_move (.slice _ _ _) rfl) ?_
          refine D_p rfl rfl rfl (fun _ => r_move (.int _ _) rfl) ?_
          refine D_r rfl rfl rfl (r_idxR (i) sl22 rfl rfl rfl ((R.memY M7 hdA).below_len (mapGet bodyCells hxa)) ((R.memY M7 hdA).someK (mapGet bodyCells hxa))) ?_
          refine D_p rfl rfl rfl (fun _ => r_move (.slice _ _ _) rfl) ?_
          refine D_p rfl rfl rfl (fun _ => r_move (.int _ _) rfl) ?_
          refine D_r rfl rfl rfl (r_idxR (k) sl22 rfl rfl rfl ((R'.memY M7 hdB).below_len (mapGet bodyCells hya)) ((R'.memY M7 hdB).someK (mapGet bodyCells hya))) ?_
          refine D_e [true, true] rfl (by kernel_rfl) ?_
          refine wl_cal cal30 rfl rfl rfl ?_
          refine (view_Diff1_xy _ b q0 q1 q2 _ _ _ hq0 hq1 hq2 (by omega) (by omega) (by omega) (M7.ownSeg 0 4) A n xs (R.memY M7 hdA) (M7.away 0 4 R hdA) i xa hxa B m ys (R'.memY M7 hdB) (M7.away 0 4 R' hdB) k ya hya).mono ?_
          rintro _ w8 ⟨v8, rfl, ⟨rfl, p0, p1, p2, hp0, hp1, hp2, hM8⟩⟩
          refine ⟨_, rfl, ?_⟩
          have M8 : Mem _ _ [_, _, _, _] _ := M7.seg 0 4 hM8
          refine wl_nil (thenN ⟨alN, ?_⟩)
          refine D_nil ?_
          refine thenN ?_
          refine W_seq ?_
          refine W_region ?_
          refine wl_q (r_move (.int _ _) rfl) rfl rfl ?_
          refine wl_q (r_add rfl rfl (by omega) (by omega)) rfl rfl ?_
          refine wl_q (r_assign (.int _ _) rfl) rfl rfl ?_
          refine wl_nil ?_
          refine thenN ?_
          refine W_region ?_
          refine wl_q (r_move (.int _ _) rfl) rfl rfl ?_
          refine wl_q (r_add rfl rfl (by omega) (by omega)) rfl rfl ?_
          refine wl_q (r_assign (.int _ _) rfl) rfl rfl ?_
          refine wl_nil ?_
          refine blkN ?_
          refine blkN ?_
          obtain ⟨hmg, hf1, hf2⟩ := hMg.both hxa hya (by omega)
          refine roundN (i + 1, k + 1, p0, p1, p2) (agC rfl (agC rfl agN)) (akC rfl (akC rfl (akC rfl akN))) ?_ ?_
          · exact ⟨⟨by omega, by omega, hmg, by rw [remK_no hya (by omega)]; exact hp0, by rw [remK_no hxa (by omega)]; exact hp1, by rw [chgK_both hxa hya hf1]; exact hp2⟩, M8⟩
          · (show (n - (i + 1)) + (m - (k + 1)) < (n - i) + (m - k); omega)
  · skip
    refine wl_q (r_move (.int _ _) rfl) rfl rfl ?_
    refine wl_q (r_move (.slice _ _ _) rfl) rfl rfl ?_
    refine wl_q (r_lenS Try.underlying22 rfl) rfl rfl ?_
    refine wl_q (r_bin (.bool (decide _)) rfl rfl rfl) rfl rfl ?_
    refine wl_q (r_pick false (.bool (decide _)) rfl rfl) rfl rfl ?_
    refine wl_nil ?_
    refine thenN ?_
    refine W_condD rfl (fun h17 => ?_) (fun h17 => ?_)
    · skip
      obtain ⟨ya, hya⟩ := getSome (xs := ys) (k := k) hlen' (by omega)
      refine W_skip ?_
      refine thenN ?_
      refine W_block ?_
      refine W_block ?_
      refine W_seq ?_
      refine W_draw [(0, 0), (1, 0), (2, 0), (3, 0), (4, 0), (5, 0), (6, 0), (7, 0), (8, 0), (9, 0), (10, 0), (11, 0), (12, 1), (13, 1), (14, 1), (15, 0), (16, 0), (17, 1), (18, 1), (19, 1), (20, 0), (21, 0), (22, 0), (23, 0)] mixed rfl (by kernel_rfl) (fun w9 hb9 hh9 => ?_)
      have M9 := hM1.drew hb9 hh9
      refine D_p rfl rfl rfl (fun _ => r_move (.int _ _) rfl) ?_
      refine D_p rfl rfl rfl (fun _ => r_move (.slice _ _ _) rfl) ?_
      refine D_p rfl rfl rfl (fun _ => r_lenS Try.underlying22 rfl) ?_
      refine D_p rfl rfl rfl (fun _ => r_bin (.bool (decide _)) rfl rfl rfl) ?_
      refine D_re 34 (.bool false) (bF (by omega)).symm ?_
      refine D_p rfl rfl rfl (fun _ => r_move (.bool false) rfl) ?_
      refine D_p rfl rfl rfl (fun _ => r_move (.int _ _) rfl) ?_
      refine D_p rfl rfl rfl (fun _ => r_move (.slice _ _ _) rfl) ?_
      refine D_p rfl rfl rfl (fun _ => r_lenS Try.underlying22 rfl) ?_
      refine D_p rfl rfl rfl (fun _ => r_bin (.bool (decide _)) rfl rfl rfl) ?_
      refine D_re 39 (.bool false) (bF (by omega)).symm ?_
      refine D_p rfl rfl rfl (fun _ => r_move (.bool false) rfl) ?_
      refine D_s rfl rfl rfl ?_
      refine D_s rfl rfl rfl ?_
      refine D_s1 rfl rfl rfl ?_
      refine D_s1 rfl rfl rfl ?_
      refine D_s1 rfl rfl rfl ?_
      refine D_s rfl rfl rfl ?_
      refine D_s rfl rfl rfl ?_
      refine D_s1 rfl rfl rfl ?_
      refine D_s1 rfl rfl rfl ?_
      refine D_s1 rfl rfl rfl ?_
      refine D_s rfl rfl rfl ?_
      refine D_p rfl rfl rfl (fun _ => r_pick false (.bool false) rfl rfl) ?_
      refine D_p rfl rfl rfl (fun _ => r_pick false (.bool false) rfl rfl) ?_
      refine D_p rfl rfl rfl (fun _ => r_assign (.bool false) rfl) ?_
      refine D_nil ?_
      refine thenN ?_
      refine W_condF rfl ?_
      refine W_seq ?_
      refine W_draw [(0, 0), (1, 0), (2, 0), (3, 0), (4, 0), (5, 0), (6, 0), (7, 1), (8, 1), (9, 1), (10, 0), (11, 0), (12, 1), (13, 1), (14, 1), (15, 0), (16, 0), (17, 0)] mixed rfl (by kernel_rfl) (fun w10 hb10 hh10 => ?_)
      have M10 := M9.drew hb10 hh10
      refine D_p rfl rfl rfl (fun _ => r_move (.int _ _) rfl) ?_
      refine D_p rfl rfl rfl (fun _ => r_move (.slice _ _ _) rfl) ?_
      refine D_p rfl rfl rfl (fun _ => r_lenS Try.underlying22 rfl) ?_
      refine D_p rfl rfl rfl (fun _ => r_bin (.bool (decide _)) rfl rfl rfl) ?_
      refine D_re 65 (.bool true) (bT (by omega)).symm ?_
      refine D_p rfl rfl rfl (fun _ => r_move (.bool true) rfl) ?_
      refine D_s rfl rfl rfl ?_
      refine D_s rfl rfl rfl ?_
      refine D_s1 rfl rfl rfl ?_
      refine D_s1 rfl rfl rfl ?_
      refine D_s1 rfl rfl rfl ?_
      refine D_s rfl rfl rfl ?_
      refine D_s rfl rfl rfl ?_
      refine D_s1 rfl rfl rfl ?_
      refine D_s1 rfl rfl rfl ?_
      refine D_s1 rfl rfl rfl ?_
      refine D_s rfl rfl rfl ?_
      refine D_p rfl rfl rfl (fun _ => r_pick true (.bool true) rfl rfl) ?_
      refine D_p rfl rfl rfl (fun _ => r_assign (.bool true) rfl) ?_
      refine D_nil ?_
      refine thenN ?_
      refine W_condT rfl ?_
      refine W_seq ?_
      refine W_region ?_
      refine wl_q (r_move (.func _ _ _) rfl) rfl rfl ?_
      refine wl_q (r_move (.slice _ _ _) rfl) rfl rfl ?_
      refine wl_q (r_move (.int _ _) rfl) rfl rfl ?_
      refine wl_q (r_idxR (k) sl22 rfl rfl rfl ((R'.memY M10 hdB).below_len (mapGet bodyCells hya)) ((R'.memY M10 hdB).someK (mapGet bodyCells hya))) rfl rfl ?_
      refine wl_cal cal30 rfl rfl rfl ?_
      refine (view_Diff1_y _ b q0 q1 q2 _ _ _ hq0 hq1 hq2 (by omega) (by omega) (by omega) (M10.ownSeg 0 4) B m ys (R'.memY M10 hdB) (M10.away 0 4 R' hdB) k ya hya).mono ?_
      rintro _ w11 ⟨v11, rfl, ⟨rfl, p0, p1, p2, hp0, hp1, hp2, hM11⟩⟩
      refine ⟨_, rfl, ?_⟩
      have M11 : Mem _ _ [_, _, _, _] _ := M10.seg 0 4 hM11
      refine wl_nil ?_
      refine thenN ?_
      refine W_region ?_
      refine wl_q (r_move (.int _ _) rfl) rfl rfl ?_
      refine wl_q (r_add rfl rfl (by omega) (by omega)) rfl rfl ?_
      refine wl_q (r_assign (.int _ _) rfl) rfl rfl ?_
      refine wl_nil ?_
      refine blkN ?_
      refine blkN ?_
      have hmg := hMg.y hya (fun b hb => by have := (List.getElem?_eq_some_iff.1 hb).1; omega)
      refine roundN (i, k + 1, p0, p1, p2) (agC rfl (agC rfl agN)) (akC rfl (akC rfl (akC rfl akN))) ?_ ?_
      · exact ⟨⟨hi, by omega, hmg.1, by rw [remK_yes hya hmg.2]; exact hp0, hp1, hp2⟩, M11⟩
      · (show (n - i) + (m - (k + 1)) < (n - i) + (m - k); omega)
    · skip
      refine W_exit ?_
      refine thenX ?_
      refine roundX ?_
      refine blkH ?_
      refine fin0n ?_
      have hin : i = n := by omega
      have hkm : k = m := by omega
      rw [hkm, List.take_of_length_le (by omega)] at hq0
      rw [hin, List.take_of_length_le (by omega)] at hq1 hq2
      exact ⟨rfl, q0, q1, q2, hq0, hq1, hq2, hM1⟩

set_option maxHeartbeats 4000000 in
theorem view_Diff (w : World) (A : Option Addr) (n c : Nat) (xs : List Body) (R : Rd w 10 A n (xs.map bodyCells)) (hn : n ≤ 1048576) (B : Option Addr) (m c' : Nat) (ys : List Body) (R' : Rd w 10 B m (ys.map bodyCells)) (hm : m ≤ 1048576) (hs : Sorted xs) (hs' : Sorted ys) :
    Calls Try.prog 16 #[.slice A n c, .slice B m c'] w (fun ex w' => ∃ v, ex = .returned v ∧ (fun v w' => ∃ (q0 q1 q2 : Row), v = .agg [.slice q0.A q0.n q0.c, .slice q1.A q1.n q1.c, .slice q2.A q2.n q2.c].toArray ∧ RowIs 23 1 q0.A q0.n q0.c ((remK xs ys).map keyCell) q0.e ∧ RowIs 23 1 q1.A q1.n q1.c ((remK ys xs).map keyCell) q1.e ∧ RowIs 23 1 q2.A q2.n q2.c ((chgK ys xs).map keyCell) q2.e ∧ Mem w [] [q0.e, q1.e, q2.e] w') v w') := by
  refine calls_of_W #[.cell 4 45] 11 Try.func16 rfl Try.results16 Try.ntmps16 rfl ?_
  have M0 := Mem.refl w
  refine W_seq ?_
  refine W_region ?_
  refine wl_alloc zero45 M0 rfl rfl (fun b1 w1 M1 => ?_)
  refine wl_nil ?_
  refine thenN ?_
  refine W_seq ?_
  refine W_region ?_
  refine wl_alloc zero45 M1 rfl rfl (fun b2 w2 M2 => ?_)
  have M3 := ((M2.dummy default).dummy default).dummy default
  refine wl_nil ?_
  refine thenN ?_
  refine W_seq ?_
  refine W_region ?_
  refine wl_q (r_move (.slice _ _ _) rfl) rfl rfl ?_
  refine wl_q (r_move (.slice _ _ _) rfl) rfl rfl ?_
  refine wl_q (r_makeFuncV [] [.pointer _] rfl rfl) rfl rfl ?_
  refine wl_cal cal29 rfl rfl rfl ?_
  refine (view_mergeD _ A n c xs (R.mem M3) hn B m c' ys (R'.mem M3) hm hs hs' b2 (M3.ownSeg 1 4) (M3.away 1 4 R (fun _ q off _ h => by simp at h)) (M3.away 1 4 R' (fun _ q off _ h => by simp at h))).mono ?_
  rintro _ w4 ⟨v4, rfl, ⟨rfl, q0, q1, q2, hq0, hq1, hq2, hM4⟩⟩
  refine ⟨_, rfl, ?_⟩
  have M4 : Mem _ _ [_, _, _, _, _] _ := M3.seg 1 4 hM4
  refine wl_nil ?_
  refine thenN ?_
  refine W_seq ?_
  refine W_region ?_
  refine wl_q (r_ldW 1 agg45 M4 rfl rfl rfl) rfl rfl ?_
  refine wl_stW 0 _ agg45 M4 rfl rfl rfl rfl rfl (ones_of rfl) rfl (fun w5 M5 => ?_)
  refine wl_nil ?_
  refine thenN ?_
  refine W_ret ?_
  skip
  refine finC1 0 agg45 M5 rfl rfl rfl ?_
  exact ⟨q0, q1, q2, rfl, hq0, hq1, hq2, M5.keep [false, false, true, true, true]⟩

end Go.Proofs.Ytfgbmegchdjfeaa
