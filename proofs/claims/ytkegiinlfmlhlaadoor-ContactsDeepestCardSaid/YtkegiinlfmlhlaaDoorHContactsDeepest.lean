/- The law ContactsDeepest returns true for every input, and what it reads stays as it was. No conditions. -/
import Derived.Test.YtkegiinlfmlhlaaDoorK5
import Derived.Test.YtkegiinlfmlhlaaDoorK26
import Derived.Test.YtkegiinlfmlhlaaDoorK21
import Derived.Test.YtkegiinlfmlhlaaDoorRows
import Derived.Test.YtkegiinlfmlhlaaDoorK27
import Derived.Test.YtkegiinlfmlhlaaDoorTie
import Derived.Test.YtkegiinlfmlhlaaDoorCards
import Derived.WalkKit
import Derived.ProofKit
import Derived.OpenShut
import Derived.ShutString
import Derived.ChangeOld
import Derived.Below
import Derived.SizedLaws
/- Walks of Go functions over the frame of this claim: what each computes, for every input of the stated types (LContactsDeepest). -/
set_option linter.unusedVariables false
set_option linter.unusedSimpArgs false
set_option linter.unnecessarySimpa false
namespace Go.Proofs.YtkegiinlfmlhlaaDoor
open Go.Bil
open Go.RowKit (Below)
open Go.Proofs

set_option maxHeartbeats 16000000 in
theorem law_ContactsDeepest (w : World) (F : Rd w 2 (some ⟨0, 0, none⟩) 1 [[.int .u32 73856093, .int .u32 19349663]]) (N : Rd w 4 (some ⟨1, 0, none⟩) 1 [bxCells noneB]) (A : Option Addr) (n c : Nat) (xs : List Body) (R : Rd w 10 A n (xs.map bodyCells)) :
    Calls Tryd.prog 5 #[.slice A n c] w (fun ex w' => ∃ v, ex = .returned v ∧ (fun v w' => v = .bool true ∧ Below w.heap.size w w') v w') := by
  have hlen : xs.length = n := by simpa using R.len
  have hbd := R.bound
  refine calls_of_W #[.tmp 2] 88 Tryd.func5 rfl Tryd.results5 Tryd.ntmps5 rfl ?_
  have M0 := Mem.refl w
  refine W_seq ?_
  refine W_region ?_
  refine wl_q (r_assign (.bool false) rfl) rfl rfl ?_
  refine wl_nil ?_
  refine thenN ?_
  refine W_seq ?_
  refine W_region ?_
  refine wl_q (r_move (.slice _ _ _) rfl) rfl rfl ?_
  refine wl_cal cal11 rfl rfl rfl ?_
  refine (ref11_View _ _ _ _ xs (R.mem M0)).mono ?_
  rintro _ w1 ⟨v1, rfl, ⟨r, rfl, hr, hM1⟩⟩
  refine ⟨_, rfl, ?_⟩
  have M1 : Mem _ _ [_] _ := M0.call0 hM1
  refine wl_q (r_move (.tuple (List.toArray _)) rfl) rfl rfl ?_
  refine wl_q (r_ext (.slice _ _ _) rfl rfl) rfl rfl ?_
  refine wl_q (r_ext (.bool (decide _)) rfl rfl) rfl rfl ?_
  refine wl_q (r_assign (.slice _ _ _) rfl) rfl rfl ?_
  refine wl_q (r_assign (.bool (decide _)) rfl) rfl rfl ?_
  refine wl_nil ?_
  refine thenN ?_
  refine W_seq ?_
  refine W_seq ?_
  refine W_region ?_
  refine wl_cal cal12 rfl rfl rfl ?_
  refine (aw15 _ (F.mem M1) (N.mem M1)).mono ?_
  rintro _ w2 ⟨v2, rfl, ⟨rfl, hb2⟩⟩
  refine ⟨_, rfl, ?_⟩
  have M2 := M1.callB hb2
  refine wl_q (r_notB false rfl rfl) rfl rfl ?_
  refine wl_q (r_move (.bool false) rfl) rfl rfl ?_
  refine wl_q (r_move (.bool (decide _)) rfl) rfl rfl ?_
  refine wl_q (r_not rfl) rfl rfl ?_
  refine wl_q (r_pick false (.bool (decide _)) rfl rfl) rfl rfl ?_
  refine wl_nil ?_
  refine thenN ?_
  refine W_condD rfl (fun h21 => ?_) (fun h21 => ?_)
  · skip
    refine W_seq ?_
    refine W_region ?_
    refine wl_cal cal12 rfl rfl rfl ?_
    refine (aw15 _ (F.mem M2) (N.mem M2)).mono ?_
    rintro _ w3 ⟨v3, rfl, ⟨rfl, hb3⟩⟩
    refine ⟨_, rfl, ?_⟩
    have M3 := M2.callB hb3
    refine wl_q (r_assign (.bool true) rfl) rfl rfl ?_
    refine wl_nil ?_
    refine thenN ?_
    refine W_ret ?_
    refine thenR ?_
    skip
    refine fin1 (.bool true) rfl ?_
    exact ⟨rfl, M3.below⟩
  · skip
    obtain ⟨hV, hve, hvk⟩ := view_of (Decidable.not_not.1 h21)
    have hvl := hV.len
    have hrn : (viewL xs).length = r.n := by simpa using hr.1
    have hvs := hV.s
    have hvo := hV.okb
    refine W_skip ?_
    refine thenN ?_
    refine W_seq ?_
    refine W_region ?_
    refine wl_q (r_move (.slice _ _ _) rfl) rfl rfl ?_
    refine wl_cal cal13 rfl rfl rfl ?_
    refine (contacts_All _ (F.mem M2) (N.mem M2) _ _ _ (viewL xs) (hr.rd M2 (nthMem (i := 0) rfl)) hvo hvs (by first | decide | omega)).mono ?_
    rintro _ w4 ⟨v4, rfl, ⟨r0, m0, rfl, hfm0, hgm0, hr0, hM4⟩⟩
    refine ⟨_, rfl, ?_⟩
    have M4 : Mem _ _ [_, _] _ := M2.call0 hM4
    have hfl0 := allC_len (viewL xs)
    have hfs := findP_small hvl
    have hcl : (allC (viewL xs)).length = r0.n := by simpa using hr0.1
    have hcap0 := hr0.slice
    refine wl_q (r_move (.tuple (List.toArray _)) rfl) rfl rfl ?_
    refine wl_q (r_ext (.slice _ _ _) rfl rfl) rfl rfl ?_
    refine wl_q (r_ext (.int _ _) rfl rfl) rfl rfl ?_
    refine wl_q (r_assign (.slice _ _ _) rfl) rfl rfl ?_
    refine wl_q (r_assign (.int _ _) rfl) rfl rfl ?_
    refine wl_nil ?_
    refine thenN ?_
    refine W_seq ?_
    refine W_region ?_
    refine wl_q (r_move (.slice _ _ _) rfl) rfl rfl ?_
    refine wl_cal cal17 rfl rfl rfl ?_
    refine (contacts_Deepest _ _ _ _ (allC (viewL xs)) (hr0.rd M4 (nthMem (i := 1) rfl)) (by omega) hcap0).mono ?_
    rintro _ w5 ⟨v5, rfl, ⟨rfl, hb5⟩⟩
    refine ⟨_, rfl, ?_⟩
    have M5 := M4.callB hb5
    obtain ⟨dd, hdd⟩ : ∃ d, (deepC (allC (viewL xs))).getD zCon = d := ⟨_, rfl⟩
    refine wl_q (r_move (.tuple (List.toArray _)) rfl) rfl rfl ?_
    refine wl_q (r_ext (.agg (List.toArray _)) rfl rfl) rfl rfl ?_
    refine wl_re 31 (.agg (conCells dd).toArray) (congrArg (fun x => Value.agg (conCells x).toArray) hdd) ?_
    refine wl_q (r_ext (.bool (decide _)) rfl rfl) rfl rfl ?_
    refine wl_alloc zero38 M5 rfl rfl (fun b6 w6 M6 => ?_)
    refine wl_stW 2 _ agg38 M6 rfl rfl rfl rfl rfl (ones_of rfl) rfl (fun w7 M7 => ?_)
    refine wl_q (r_assign (.bool (decide _)) rfl) rfl rfl ?_
    refine wl_nil ?_
    refine thenN ?_
    refine W_seq ?_
    refine W_region ?_
    refine wl_q (r_assign (.bool false) rfl) rfl rfl ?_
    refine wl_nil ?_
    refine thenN ?_
    refine W_seq ?_
    refine W_seq ?_
    refine W_region ?_
    refine wl_q (r_assign (.int _ _) rfl) rfl rfl ?_
    refine wl_nil ?_
    refine thenN ?_
    refine W_block ?_
    refine W_loop (σ := Nat) [5, 7, 8] (fun i => [(9, .bool (decide (dd ∈ (allC (viewL xs)).take i))), (10, .int .i64 (i : Int))]) (fun i w' => i ≤ r0.n ∧ Mem w [] [r.e, r0.e, (some b6, bc (conCells dd) 38)] w') (fun i => r0.n - i) 0 (agC (bF (by simp)) (agC rfl agN)) (⟨by omega, M7⟩) ?_
    rintro i ρ8 w8 ⟨hi, hM8⟩
    refine W_seq ?_
    refine W_seq ?_
    refine W_region ?_
    refine wl_q (r_move (.int _ _) rfl) rfl rfl ?_
    refine wl_q (r_move (.slice _ _ _) rfl) rfl rfl ?_
    refine wl_q (r_lenS Tryd.underlying26 rfl) rfl rfl ?_
    refine wl_q (r_bin (.bool (decide _)) rfl rfl rfl) rfl rfl ?_
    refine wl_nil ?_
    refine thenN ?_
    refine W_condD rfl (fun h36 => ?_) (fun h36 => ?_)
    · skip
      obtain ⟨xc, hxc⟩ := getSome (xs := (allC (viewL xs))) (k := i) hcl (by omega)
      have hdl := deepC_law hdd (fun h => by rw [h] at hxc; cases hxc)
      have hdm := hdl.2.1 xc (List.mem_of_getElem? hxc)
      refine W_skip ?_
      refine thenN ?_
      refine W_seq ?_
      refine W_block ?_
      refine W_seq ?_
      refine W_seq ?_
      refine W_draw [(0, 0), (1, 0), (2, 1), (3, 1), (4, 1), (5, 0), (6, 1), (7, 0), (8, 0), (9, 0), (10, 0), (11, 0), (12, 0), (13, 0), (14, 1), (15, 1), (16, 1), (17, 0), (18, 1), (19, 0), (20, 0), (21, 0), (22, 0), (23, 0), (24, 1), (25, 1), (26, 1), (27, 0), (28, 0), (29, 0)] mixed rfl (by kernel_rfl) (fun w9 hb9 hh9 => ?_)
      have M9 := hM8.drew hb9 hh9
      refine D_p rfl rfl rfl (fun _ => r_move (.slice _ _ _) rfl) ?_
      refine D_p rfl rfl rfl (fun _ => r_move (.int _ _) rfl) ?_
      refine D_r rfl rfl rfl (r_idxR (i) sl26 rfl rfl rfl ((hr0.rd M9 (nthMem (i := 1) rfl)).below_len (mapGet conCells hxc)) ((hr0.rd M9 (nthMem (i := 1) rfl)).someK (mapGet conCells hxc))) ?_
      refine D_r rfl rfl rfl (r_fieldAddrE 4 fld38_2 (hr0.rd M9 (nthMem (i := 1) rfl)) (Nat.lt_of_le_of_lt (Nat.zero_le _) ((hr0.rd M9 (nthMem (i := 1) rfl)).below_len (mapGet conCells hxc))) rfl) ?_
      refine D_r rfl rfl rfl (r_ldE (o := 4) (.int _ _) one21 (hr0.rd M9 (nthMem (i := 1) rfl)) (mapGet conCells hxc) rfl rfl) ?_
      refine D_p rfl rfl rfl (fun _ => r_fieldAddr 4 fld38_2 rfl) ?_
      refine D_r rfl rfl rfl (r_ld 2 (.int _ _) one21 M9 rfl rfl rfl) ?_
      refine D_p rfl rfl rfl (fun _ => r_bin (.bool (decide _)) rfl rfl rfl) ?_
      refine D_re 46 (.bool false) (bF (by omega)).symm ?_
      refine D_p rfl rfl rfl (fun _ => r_move (.bool false) rfl) ?_
      refine D_p rfl rfl rfl (fun _ => r_move (.bool (decide _)) rfl) ?_
      refine D_p rfl rfl rfl (fun _ => r_not rfl) ?_
      refine D_p rfl rfl rfl (fun _ => r_move (.bool (decide _)) rfl) ?_
      refine D_splitD 50 rfl (fun g50 => ?_) (fun g50 => ?_)
      · skip
        refine D_p rfl rfl rfl (fun _ => r_move (.slice _ _ _) rfl) ?_
        refine D_p rfl rfl rfl (fun _ => r_move (.int _ _) rfl) ?_
        refine D_r rfl rfl rfl (r_idxR (i) sl26 rfl rfl rfl ((hr0.rd M9 (nthMem (i := 1) rfl)).below_len (mapGet conCells hxc)) ((hr0.rd M9 (nthMem (i := 1) rfl)).someK (mapGet conCells hxc))) ?_
        refine D_r rfl rfl rfl (r_fieldAddrE 4 fld38_2 (hr0.rd M9 (nthMem (i := 1) rfl)) (Nat.lt_of_le_of_lt (Nat.zero_le _) ((hr0.rd M9 (nthMem (i := 1) rfl)).below_len (mapGet conCells hxc))) rfl) ?_
        refine D_r rfl rfl rfl (r_ldE (o := 4) (.int _ _) one21 (hr0.rd M9 (nthMem (i := 1) rfl)) (mapGet conCells hxc) rfl rfl) ?_
        refine D_p rfl rfl rfl (fun _ => r_fieldAddr 4 fld38_2 rfl) ?_
        refine D_r rfl rfl rfl (r_ld 2 (.int _ _) one21 M9 rfl rfl rfl) ?_
        refine D_p rfl rfl rfl (fun _ => r_bin (.bool (decide _)) rfl rfl rfl) ?_
        refine D_p rfl rfl rfl (fun _ => r_pick true (.bool (decide _)) rfl rfl) ?_
        refine D_p rfl rfl rfl (fun _ => r_move (.bool (decide _)) rfl) ?_
        refine D_splitD 60 rfl (fun g60 => ?_) (fun g60 => ?_)
        · skip
          refine D_p rfl rfl rfl (fun _ => r_move (.slice _ _ _) rfl) ?_
          refine D_p rfl rfl rfl (fun _ => r_move (.int _ _) rfl) ?_
          refine D_r rfl rfl rfl (r_idxR (i) sl26 rfl rfl rfl ((hr0.rd M9 (nthMem (i := 1) rfl)).below_len (mapGet conCells hxc)) ((hr0.rd M9 (nthMem (i := 1) rfl)).someK (mapGet conCells hxc))) ?_
          refine D_r rfl rfl rfl (r_ldEA _ agg38 (hr0.rd M9 (nthMem (i := 1) rfl)) (mapGet conCells hxc) rfl) ?_
          refine D_r rfl rfl rfl (r_ldW 2 agg38 M9 rfl rfl rfl) ?_
          refine D_p rfl rfl rfl (fun _ => r_neA (eqCon xc dd) rfl rfl) ?_
          refine D_re 66 (.bool false) (bF (fun h => h (hdl.2.2 i xc hxc g50 g60))).symm ?_
          refine D_p rfl rfl rfl (fun _ => r_pick true (.bool false) rfl rfl) ?_
          refine D_p rfl rfl rfl (fun _ => r_pick false (.bool false) rfl rfl) ?_
          refine D_nil ?_
          refine thenN ?_
          refine W_condF rfl ?_
          refine W_skip ?_
          refine thenN ?_
          refine W_draw [(0, 0), (1, 0), (2, 0), (3, 0), (4, 1), (5, 1), (6, 1), (7, 0), (8, 0), (9, 0)] mixed rfl (by kernel_rfl) (fun w10 hb10 hh10 => ?_)
          have M10 := M9.drew hb10 hh10
          refine D_p rfl rfl rfl (fun _ => r_move (.bool (decide _)) rfl) ?_
          refine D_re 69 (.bool false) (bF g50).symm ?_
          refine D_p rfl rfl rfl (fun _ => r_move (.bool false) rfl) ?_
          refine D_p rfl rfl rfl (fun _ => r_move (.slice _ _ _) rfl) ?_
          refine D_p rfl rfl rfl (fun _ => r_move (.int _ _) rfl) ?_
          refine D_r rfl rfl rfl (r_idxR (i) sl26 rfl rfl rfl ((hr0.rd M10 (nthMem (i := 1) rfl)).below_len (mapGet conCells hxc)) ((hr0.rd M10 (nthMem (i := 1) rfl)).someK (mapGet conCells hxc))) ?_
          refine D_r rfl rfl rfl (r_ldEA _ agg38 (hr0.rd M10 (nthMem (i := 1) rfl)) (mapGet conCells hxc) rfl) ?_
          refine D_r rfl rfl rfl (r_ldW 2 agg38 M10 rfl rfl rfl) ?_
          refine D_p rfl rfl rfl (fun _ => r_eqA (eqCon xc dd) rfl rfl) ?_
          refine D_p rfl rfl rfl (fun _ => r_pick false (.bool (decide _)) rfl rfl) ?_
          refine D_p rfl rfl rfl (fun _ => r_assign (.bool (decide _)) rfl) ?_
          refine D_nil ?_
          refine blkN ?_
          refine thenN ?_
          refine W_region ?_
          refine wl_q (r_move (.int _ _) rfl) rfl rfl ?_
          refine wl_q (r_add rfl rfl (by omega) (by omega)) rfl rfl ?_
          refine wl_q (r_assign (.int _ _) rfl) rfl rfl ?_
          refine wl_nil ?_
          refine roundN (i + 1) (agC (bD (by rw [mem_take_snocC hxc]; exact ⟨.inr, fun h => h.resolve_left g50⟩)) (agC rfl agN)) (akC rfl (akC rfl (akC rfl akN))) ?_ ?_
          · exact ⟨by omega, M10⟩
          · omega
        · skip
          refine D_s rfl rfl rfl ?_
          refine D_s rfl rfl rfl ?_
          refine D_s1 rfl rfl rfl ?_
          refine D_s1 rfl rfl rfl ?_
          refine D_s1 rfl rfl rfl ?_
          refine D_s rfl rfl rfl ?_
          refine D_p rfl rfl rfl (fun _ => r_pick false (.bool false) rfl rfl) ?_
          refine D_p rfl rfl rfl (fun _ => r_pick false (.bool false) rfl rfl) ?_
          refine D_nil ?_
          refine thenN ?_
          refine W_condF rfl ?_
          refine W_skip ?_
          refine thenN ?_
          refine W_draw [(0, 0), (1, 0), (2, 0), (3, 0), (4, 1), (5, 1), (6, 1), (7, 0), (8, 0), (9, 0)] mixed rfl (by kernel_rfl) (fun w11 hb11 hh11 => ?_)
          have M11 := M9.drew hb11 hh11
          refine D_p rfl rfl rfl (fun _ => r_move (.bool (decide _)) rfl) ?_
          refine D_re 69 (.bool false) (bF g50).symm ?_
          refine D_p rfl rfl rfl (fun _ => r_move (.bool false) rfl) ?_
          refine D_p rfl rfl rfl (fun _ => r_move (.slice _ _ _) rfl) ?_
          refine D_p rfl rfl rfl (fun _ => r_move (.int _ _) rfl) ?_
          refine D_r rfl rfl rfl (r_idxR (i) sl26 rfl rfl rfl ((hr0.rd M11 (nthMem (i := 1) rfl)).below_len (mapGet conCells hxc)) ((hr0.rd M11 (nthMem (i := 1) rfl)).someK (mapGet conCells hxc))) ?_
          refine D_r rfl rfl rfl (r_ldEA _ agg38 (hr0.rd M11 (nthMem (i := 1) rfl)) (mapGet conCells hxc) rfl) ?_
          refine D_r rfl rfl rfl (r_ldW 2 agg38 M11 rfl rfl rfl) ?_
          refine D_p rfl rfl rfl (fun _ => r_eqA (eqCon xc dd) rfl rfl) ?_
          refine D_p rfl rfl rfl (fun _ => r_pick false (.bool (decide _)) rfl rfl) ?_
          refine D_p rfl rfl rfl (fun _ => r_assign (.bool (decide _)) rfl) ?_
          refine D_nil ?_
          refine blkN ?_
          refine thenN ?_
          refine W_region ?_
          refine wl_q (r_move (.int _ _) rfl) rfl rfl ?_
          refine wl_q (r_add rfl rfl (by omega) (by omega)) rfl rfl ?_
          refine wl_q (r_assign (.int _ _) rfl) rfl rfl ?_
          refine wl_nil ?_
          refine roundN (i + 1) (agC (bD (by rw [mem_take_snocC hxc]; exact ⟨.inr, fun h => h.resolve_left g50⟩)) (agC rfl agN)) (akC rfl (akC rfl (akC rfl akN))) ?_ ?_
          · exact ⟨by omega, M11⟩
          · omega
      · skip
        refine D_s rfl rfl rfl ?_
        refine D_s rfl rfl rfl ?_
        refine D_s1 rfl rfl rfl ?_
        refine D_s1 rfl rfl rfl ?_
        refine D_s1 rfl rfl rfl ?_
        refine D_s rfl rfl rfl ?_
        refine D_s1 rfl rfl rfl ?_
        refine D_s rfl rfl rfl ?_
        refine D_p rfl rfl rfl (fun _ => r_pick false (.bool false) rfl rfl) ?_
        refine D_p rfl rfl rfl (fun _ => r_move (.bool false) rfl) ?_
        refine D_s rfl rfl rfl ?_
        refine D_s rfl rfl rfl ?_
        refine D_s1 rfl rfl rfl ?_
        refine D_s1 rfl rfl rfl ?_
        refine D_s1 rfl rfl rfl ?_
        refine D_s rfl rfl rfl ?_
        refine D_p rfl rfl rfl (fun _ => r_pick false (.bool false) rfl rfl) ?_
        refine D_p rfl rfl rfl (fun _ => r_pick false (.bool false) rfl rfl) ?_
        refine D_nil ?_
        refine thenN ?_
        refine W_condF rfl ?_
        refine W_skip ?_
        refine thenN ?_
        refine W_draw [(0, 0), (1, 0), (2, 0), (3, 0), (4, 1), (5, 1), (6, 1), (7, 0), (8, 0), (9, 0)] mixed rfl (by kernel_rfl) (fun w12 hb12 hh12 => ?_)
        have M12 := M9.drew hb12 hh12
        refine D_p rfl rfl rfl (fun _ => r_move (.bool (decide _)) rfl) ?_
        refine D_re 69 (.bool true) (bT (Decidable.not_not.1 g50)).symm ?_
        refine D_p rfl rfl rfl (fun _ => r_move (.bool true) rfl) ?_
        refine D_s rfl rfl rfl ?_
        refine D_s rfl rfl rfl ?_
        refine D_s1 rfl rfl rfl ?_
        refine D_s1 rfl rfl rfl ?_
        refine D_s1 rfl rfl rfl ?_
        refine D_s rfl rfl rfl ?_
        refine D_p rfl rfl rfl (fun _ => r_pick true (.bool true) rfl rfl) ?_
        refine D_p rfl rfl rfl (fun _ => r_assign (.bool true) rfl) ?_
        refine D_nil ?_
        refine blkN ?_
        refine thenN ?_
        refine W_region ?_
        refine wl_q (r_move (.int _ _) rfl) rfl rfl ?_
        refine wl_q (r_add rfl rfl (by omega) (by omega)) rfl rfl ?_
        refine wl_q (r_assign (.int _ _) rfl) rfl rfl ?_
        refine wl_nil ?_
        refine roundN (i + 1) (agC (bT (by rw [mem_take_snocC hxc]; exact .inl (Decidable.not_not.1 g50))) (agC rfl agN)) (akC rfl (akC rfl (akC rfl akN))) ?_ ?_
        · exact ⟨by omega, M12⟩
        · omega
    · skip
      have hin : i = r0.n := by omega
      have htk : (allC (viewL xs)).take i = (allC (viewL xs)) := List.take_of_length_le (by omega)
      have hme := deepC_all (i := i) hdd (by omega)
      refine W_exit ?_
      refine thenX ?_
      refine roundX ?_
      refine blkH ?_
      refine thenN ?_
      refine W_seq ?_
      refine W_region ?_
      refine wl_q (r_move (.bool (decide _)) rfl) rfl rfl ?_
      refine wl_q (r_move (.bool (decide _)) rfl) rfl rfl ?_
      refine wl_q (r_binB _ Tryd.underlying4 rfl rfl rfl) rfl rfl ?_
      refine wl_re 80 (.bool true) (bv rfl (by simp only [beq_iff_eq, decide_eq_decide]; exact hme)) ?_
      refine wl_q (r_move (.bool true) rfl) rfl rfl ?_
      refine wl_q (r_move (.bool (decide _)) rfl) rfl rfl ?_
      refine wl_q (r_move (.slice _ _ _) rfl) rfl rfl ?_
      refine wl_q (r_lenS Tryd.underlying26 rfl) rfl rfl ?_
      refine wl_q (r_bin (.bool (decide _)) rfl rfl rfl) rfl rfl ?_
      have hne := ne_len hcl
      refine wl_q (r_binB _ Tryd.underlying4 rfl rfl rfl) rfl rfl ?_
      refine wl_re 86 (.bool true) (bv rfl (by simp only [beq_iff_eq, decide_eq_decide]; exact hne)) ?_
      refine wl_q (r_pick true (.bool true) rfl rfl) rfl rfl ?_
      refine wl_q (r_assign (.bool true) rfl) rfl rfl ?_
      refine wl_nil ?_
      refine thenN ?_
      refine W_ret ?_
      skip
      refine fin1 (.bool true) rfl ?_
      exact ⟨rfl, hM8.below⟩

end Go.Proofs.YtkegiinlfmlhlaaDoor

set_option linter.unusedVariables false
set_option linter.unusedSimpArgs false
set_option linter.unnecessarySimpa false
namespace Go.Proofs.YtkegiinlfmlhlaaDoor
open Go.Bil
open Go.RowKit (Below)
open Go.Proofs

namespace contactsDeepest
open Go.ChangeShapes Go.WideShapes Go.ChangeAt Go.RowKit
open Go.ChangeMaps (open_string shut_string)
theorem own : ownKnob Tryd.prog.godebug = none := by kernel_rfl
theorem laidOut : laidOutB Tryd.prog = true := by kernel_rfl
set_option maxRecDepth 100000 in
theorem lifted (os : Os) (started : os.Started) (H : Type) (enc : TypeId × Value → H) :
    ReturnsInHanded {} Tryd.checked os 5 .any (fun w args => (Rows.contactsDeepestSpec.pre enc Tryd.prog Tryd.f5 [] false w args ∧ laidMet Tryd.prog laidL w) ∧ sizedMet enc Tryd.prog Tryd.f5 (OpenSpec.ofChange Rows.contactsDeepestSpec) false w args) (Rows.contactsDeepestSpec.post enc Tryd.prog Tryd.f5 false true false false) := by
  refine returnsInHanded_of_change_and (C := Tryd.checked) (X := fun w _ => laidMet Tryd.prog laidL w) (fun _ _ _ hh h => h.of_heap hh) own started (by kernel_rfl) Tryd.func5
    (ChangeSpec.witness_at (enc := enc) (C := Tryd.checked) (os := os) (X := fun w _ => laidMet Tryd.prog laidL w) false (laidWorld os) #[.slice none 0 0] 8 rfl (by kernel_rfl) (by kernel_rfl) (by kernel_rfl) (by kernel_rfl) (by kernel_rfl) (laidMet_of_run' 8 (by kernel_rfl) (by kernel_rfl))) ?_
  intro W base args ds gs before hval0 hW hcnd hsz0 hL _
  have hsz : (DataW.weightsEach Tryd.prog (Tryd.f5.params.toList ++ Rows.contactsDeepestSpec.plain.varTypes Tryd.prog) (ds ++ gs)).all (· ≤ reachBytes) = true := hsz0
  have hval : ∀ (j : Nat) t v, Tryd.f5.params[j]? = some t → args[j]? = some v → Value.okWide Tryd.prog W .any base t v := hval0
  have hW' := hW
  obtain ⟨p, q, hA0, hV, rfl, hfz, hnd⟩ := hW
  have hA : DataW.TrodAll enc Tryd.prog W 0 (fun _ => true) true Tryd.f5.params.toList args.toList ds p := hA0
  rw [Tryd.params5] at hA hval hsz
  obtain ⟨v0, vs0, d0, ds0, p0, q0, hargs, rfl, rfl, h0, r0⟩ := trodAll_cons hA
  obtain ⟨rfl, rfl, rfl⟩ := trodAll_nil r0
  obtain rfl : args = #[v0] := by cases args; simp_all
  obtain ⟨rfl, rfl⟩ := trodVars_none hV
  have k0 := h0
  have lt0 : ∀ x ∈ p0, x.block < W.heap.size := by obtain ⟨m, hm⟩ := k0; exact DataW.trod_lt m _ _ _ hm
  obtain ⟨a0, len0, cap0, rfl⟩ := okWide_slice Tryd.underlying22 (hval 0 22 v0 rfl rfl)
  have y0 := sized_rows hsz (j := 0) (t := 22) rfl rfl sl22 h0
  obtain ⟨ls0, R0, hi0⟩ := open_rows sl22 leaves34 rfl y0 h0
  obtain ⟨xs0, rfl, hx0⟩ := list_of bodyOf ls0 hi0
  clear hA0 hval0 hsz0 hsz
  refine (law_ContactsDeepest W (rdF hL) (rdN hL) _ _ _ xs0 R0).mono fun e W' ⟨v, he, hv, bel⟩ => ?_
  subst he
  subst hv
  exact ⟨_, rfl, _, _, _, [], _, [], hW', trodAll_mk1 (shut_bool Tryd.underlying4 _), (trodAll_cons_mk (Below.trod laidOut (by kernel_rfl) (of_decide_eq_true (by kernel_rfl)) k0 bel lt0) trodAll_mk0), rfl, bel.frame _, fun h => by cases h⟩
theorem over : Rows.contactsDeepestRow.holds Tryd.pinned (OpenSpec.ofChange Rows.contactsDeepestSpec) :=
  OpenClaim.holds_of_wide 5 Tryd.f5 rfl rfl rfl rfl rfl rfl rfl ⟨rfl, rfl, rfl, rfl, rfl⟩ rfl rfl rfl rfl rfl (by kernel_rfl) Tryd.func5 (by kernel_rfl)
    (of_decide_eq_true (by kernel_rfl)) (by unfold Func.isWrapper; first | (rw [if_pos (by decide +kernel)]; kernel_rfl) | (rw [if_neg (by decide +kernel)]; exact ⟨rfl, rfl⟩))
    (fun os started H enc _ => lifted os started H enc)
end contactsDeepest
theorem contactsDeepest_holds : Rows.ContactsDeepestSaid := contactsDeepest.over
#print axioms contactsDeepest_holds
theorem contactsDeepest_card : Rows.ContactsDeepestCardSaid :=
  Claim7.holds_tied_plain_at .later [] [.data, .data] true (true, "d1d3c31060a6ca8baa398e157254570693e950adb22e4c3c0db7b24060cd2884") false
    contactsDeepest_holds (fun _ h => by cases h) (by kernel_rfl) (fun _ h => by cases h) contactsDeepest_row_tie rfl ⟨rfl, rfl⟩ (by kernel_rfl) rfl
    (fun f fn hf hfn => by
      obtain rfl : f = 5 := Option.some.inj ((show Tryd.prog.funcNamed "billiard/billiardlaw15.ContactsDeepest" = some 5 by kernel_rfl).symm.trans hf) |>.symm
      obtain rfl : fn = Tryd.f5 := (Option.some.inj (Tryd.func5.symm.trans hfn)).symm
      exact ⟨by kernel_rfl, fun j t ht => by
        rw [Tryd.params5] at ht
        have hm : t ∈ [22] := by simpa using Array.mem_of_getElem? ht
        have hall : ([22].all fun u => !Tryd.prog.wantsStandIn u) = true := by kernel_rfl
        exact (show Tryd.prog.wantsStandIn t = false by simpa using List.all_eq_true.1 hall t hm)⟩)
    (by kernel_rfl)
#print axioms contactsDeepest_card

end Go.Proofs.YtkegiinlfmlhlaaDoor
