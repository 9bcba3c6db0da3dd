/- The law ContactsAll returns true for every input, and what it reads stays as it was. No conditions. -/
import Derived.Test.YtkegiinlfmlhlaaGreatDoorK5
import Derived.Test.YtkegiinlfmlhlaaGreatDoorK25
import Derived.Test.YtkegiinlfmlhlaaGreatDoorK3
import Derived.Test.YtkegiinlfmlhlaaGreatDoorRows
import Derived.Test.YtkegiinlfmlhlaaGreatDoorK26
import Derived.Test.YtkegiinlfmlhlaaGreatDoorTie
import Derived.Test.YtkegiinlfmlhlaaGreatDoorCards
import Derived.WalkKit
import Derived.ProofKit
import Derived.OpenShut
import Derived.ShutString
import Derived.ChangeOld
import Derived.Below
import Derived.SizedLaws
/- Walks of Go functions over the frame of this claim: what each computes, for every input of the stated types (LContactsAll). -/
set_option linter.unusedVariables false
set_option linter.unusedSimpArgs false
set_option linter.unnecessarySimpa false
namespace Go.Proofs.YtkegiinlfmlhlaaGreatDoor
open Go.Bil
open Go.RowKit (Below)
open Go.Proofs

set_option maxHeartbeats 16000000 in
theorem law_ContactsAll (w : World) (F : Rd w 2 (some ⟨0, 0, none⟩) 1 [[.int .u32 73856093, .int .u32 19349663]]) (N : Rd w 4 (some ⟨1, 0, none⟩) 1 [bxCells noneB]) (A : Option Addr) (n c : Nat) (xs : List Body) (R : Rd w 10 A n (xs.map bodyCells)) :
    Calls Tryz.prog 4 #[.slice A n c] w (fun ex w' => ∃ v, ex = .returned v ∧ (fun v w' => v = .bool true ∧ Below w.heap.size w w') v w') := by
  have hlen : xs.length = n := by simpa using R.len
  have hbd := R.bound
  refine calls_of_W #[.tmp 2] 114 Tryz.func4 rfl Tryz.results4 Tryz.ntmps4 rfl ?_
  have M0 := Mem.refl w
  refine W_seq ?_
  refine W_region ?_
  refine wl_q (r_assign (.bool false) rfl) rfl rfl ?_
  refine wl_nil ?_
  refine thenN ?_
  refine W_seq ?_
  refine W_region ?_
  refine wl_q (r_move (.slice _ _ _) rfl) rfl rfl ?_
  refine wl_cal cal5 rfl rfl rfl ?_
  refine (ref11_View _ _ _ _ xs (R.mem M0)).mono ?_
  rintro _ w1 ⟨v1, rfl, ⟨r, rfl, hr, hM1⟩⟩
  refine ⟨_, rfl, ?_⟩
  have M1 : Mem _ _ [_] _ := M0.call0 hM1
  refine wl_q (r_move (.tuple (List.toArray _)) rfl) rfl rfl ?_
  refine wl_q (r_ext (.slice _ _ _) rfl rfl) rfl rfl ?_
  refine wl_q (r_ext (.bool (decide _)) rfl rfl) rfl rfl ?_
  refine wl_q (r_assign (.slice _ _ _) rfl) rfl rfl ?_
  refine wl_q (r_assign (.bool (decide _)) rfl) rfl rfl ?_
  refine wl_nil ?_
  refine thenN ?_
  refine W_seq ?_
  refine W_seq ?_
  refine W_region ?_
  refine wl_cal cal6 rfl rfl rfl ?_
  refine (aw15 _ (F.mem M1) (N.mem M1)).mono ?_
  rintro _ w2 ⟨v2, rfl, ⟨rfl, hb2⟩⟩
  refine ⟨_, rfl, ?_⟩
  have M2 := M1.callB hb2
  refine wl_q (r_notB false rfl rfl) rfl rfl ?_
  refine wl_q (r_move (.bool false) rfl) rfl rfl ?_
  refine wl_q (r_move (.bool (decide _)) rfl) rfl rfl ?_
  refine wl_q (r_not rfl) rfl rfl ?_
  refine wl_q (r_pick false (.bool (decide _)) rfl rfl) rfl rfl ?_
  refine wl_nil ?_
  refine thenN ?_
  refine W_condD rfl (fun h22 => ?_) (fun h22 => ?_)
  · skip
    refine W_seq ?_
    refine W_region ?_
    refine wl_cal cal6 rfl rfl rfl ?_
    refine (aw15 _ (F.mem M2) (N.mem M2)).mono ?_
    rintro _ w3 ⟨v3, rfl, ⟨rfl, hb3⟩⟩
    refine ⟨_, rfl, ?_⟩
    have M3 := M2.callB hb3
    refine wl_q (r_assign (.bool true) rfl) rfl rfl ?_
    refine wl_nil ?_
    refine thenN ?_
    refine W_ret ?_
    refine thenR ?_
    skip
    refine fin1 (.bool true) rfl ?_
    exact ⟨rfl, M3.below⟩
  · skip
    obtain ⟨hV, hve, hvk⟩ := view_of (Decidable.not_not.1 h22)
    have hvl := hV.len
    have hrn : (viewL xs).length = r.n := by simpa using hr.1
    have hvs := hV.s
    have hvo := hV.okb
    refine W_skip ?_
    refine thenN ?_
    refine W_seq ?_
    refine W_region ?_
    refine wl_q (r_move (.slice _ _ _) rfl) rfl rfl ?_
    refine wl_cal cal7 rfl rfl rfl ?_
    refine (contacts_All _ (F.mem M2) (N.mem M2) _ _ _ (viewL xs) (hr.rd M2 (nthMem (i := 0) rfl)) hvo hvs (by first | decide | omega)).mono ?_
    rintro _ w4 ⟨v4, rfl, ⟨r0, m0, rfl, hfm0, hgm0, hr0, hM4⟩⟩
    refine ⟨_, rfl, ?_⟩
    have M4 : Mem _ _ [_, _] _ := M2.call0 hM4
    have hfl0 := allC_len (viewL xs)
    have hfs := findP_small hvl
    have hcl : (allC (viewL xs)).length = r0.n := by simpa using hr0.1
    have hcap0 := hr0.slice
    rw [hrn] at hgm0
    have hnn : r.n * (r.n - 1) ≤ 40 * 39 := Nat.mul_le_mul (by omega) (by omega)
    have hasc := @allC_asc (viewL xs) hvs
    refine wl_q (r_move (.tuple (List.toArray _)) rfl) rfl rfl ?_
    refine wl_q (r_ext (.slice _ _ _) rfl rfl) rfl rfl ?_
    refine wl_q (r_ext (.int _ _) rfl rfl) rfl rfl ?_
    refine wl_q (r_assign (.slice _ _ _) rfl) rfl rfl ?_
    refine wl_q (r_assign (.int _ _) rfl) rfl rfl ?_
    refine wl_nil ?_
    refine thenN ?_
    refine W_seq ?_
    refine W_seq ?_
    refine W_region ?_
    refine wl_q (r_assign (.int _ _) rfl) rfl rfl ?_
    refine wl_nil ?_
    refine thenN ?_
    refine W_block ?_
    refine W_loop (σ := Nat) [3, 5, 6] (fun i => [(7, .int .i64 (i : Int))]) (fun i w' => i ≤ r0.n ∧ Mem w [] [r.e, r0.e] w') (fun i => r0.n - i) 0 (agC rfl agN) (⟨by omega, M4⟩) ?_
    rintro i ρ5 w5 ⟨hi, hM5⟩
    refine W_seq ?_
    refine W_seq ?_
    refine W_region ?_
    refine wl_q (r_move (.int _ _) rfl) rfl rfl ?_
    refine wl_q (r_move (.slice _ _ _) rfl) rfl rfl ?_
    refine wl_q (r_lenS Tryz.underlying23 rfl) rfl rfl ?_
    refine wl_q (r_bin (.bool (decide _)) rfl rfl rfl) rfl rfl ?_
    refine wl_nil ?_
    refine thenN ?_
    refine W_condD rfl (fun h32 => ?_) (fun h32 => ?_)
    · skip
      obtain ⟨z, hz⟩ := getSome (xs := (allC (viewL xs))) (k := i) hcl (by omega)
      obtain ⟨p, q, a, b, hap, hbq, hpq, hfp, hfq, hcon, hkl, hkh⟩ := allC_at hvs hvo (List.mem_of_getElem? hz)
      refine W_skip ?_
      refine thenN ?_
      refine W_seq ?_
      refine W_block ?_
      refine W_seq ?_
      refine W_region ?_
      refine wl_q (r_move (.slice _ _ _) rfl) rfl rfl ?_
      refine wl_q (r_move (.slice _ _ _) rfl) rfl rfl ?_
      refine wl_q (r_move (.int _ _) rfl) rfl rfl ?_
      refine wl_q (r_idxR (i) sl23 rfl rfl rfl ((hr0.rd hM5 (nthMem (i := 1) rfl)).below_len (mapGet conCells hz)) ((hr0.rd hM5 (nthMem (i := 1) rfl)).someK (mapGet conCells hz))) rfl rfl ?_
      refine wl_q (r_fieldAddrE 0 fld35_0 (hr0.rd hM5 (nthMem (i := 1) rfl)) (Nat.lt_of_le_of_lt (Nat.zero_le _) ((hr0.rd hM5 (nthMem (i := 1) rfl)).below_len (mapGet conCells hz))) rfl) rfl rfl ?_
      refine wl_q (r_fieldAddrE 0 fld31_0 (hr0.rd hM5 (nthMem (i := 1) rfl)) (Nat.lt_of_le_of_lt (Nat.zero_le _) ((hr0.rd hM5 (nthMem (i := 1) rfl)).below_len (mapGet conCells hz))) rfl) rfl rfl ?_
      refine wl_q (r_ldE (o := 0) (.int _ _) one24 (hr0.rd hM5 (nthMem (i := 1) rfl)) (mapGet conCells hz) rfl rfl) rfl rfl ?_
      refine wl_cal cal13 rfl rfl rfl ?_
      refine (ref06_Find _ z.low _ _ _ (viewL xs) (hr.rd hM5 (nthMem (i := 0) rfl))).mono ?_
      rintro _ w6 ⟨v6, rfl, ⟨rfl, hb6⟩⟩
      refine ⟨_, rfl, ?_⟩
      have M6 := hM5.callB hb6
      refine wl_re 42 (.int .i64 (p : Int)) (iE hfp) ?_
      refine wl_q (r_assign (.int _ _) rfl) rfl rfl ?_
      refine wl_nil ?_
      refine thenN ?_
      refine W_seq ?_
      refine W_region ?_
      refine wl_q (r_move (.slice _ _ _) rfl) rfl rfl ?_
      refine wl_q (r_move (.slice _ _ _) rfl) rfl rfl ?_
      refine wl_q (r_move (.int _ _) rfl) rfl rfl ?_
      refine wl_q (r_idxR (i) sl23 rfl rfl rfl ((hr0.rd M6 (nthMem (i := 1) rfl)).below_len (mapGet conCells hz)) ((hr0.rd M6 (nthMem (i := 1) rfl)).someK (mapGet conCells hz))) rfl rfl ?_
      refine wl_q (r_fieldAddrE 0 fld35_0 (hr0.rd M6 (nthMem (i := 1) rfl)) (Nat.lt_of_le_of_lt (Nat.zero_le _) ((hr0.rd M6 (nthMem (i := 1) rfl)).below_len (mapGet conCells hz))) rfl) rfl rfl ?_
      refine wl_q (r_fieldAddrE 1 fld31_1 (hr0.rd M6 (nthMem (i := 1) rfl)) (Nat.lt_of_le_of_lt (Nat.zero_le _) ((hr0.rd M6 (nthMem (i := 1) rfl)).below_len (mapGet conCells hz))) rfl) rfl rfl ?_
      refine wl_q (r_ldE (o := 1) (.int _ _) one24 (hr0.rd M6 (nthMem (i := 1) rfl)) (mapGet conCells hz) rfl rfl) rfl rfl ?_
      refine wl_cal cal13 rfl rfl rfl ?_
      refine (ref06_Find _ z.high _ _ _ (viewL xs) (hr.rd M6 (nthMem (i := 0) rfl))).mono ?_
      rintro _ w7 ⟨v7, rfl, ⟨rfl, hb7⟩⟩
      refine ⟨_, rfl, ?_⟩
      have M7 := M6.callB hb7
      refine wl_re 50 (.int .i64 (q : Int)) (iE hfq) ?_
      refine wl_q (r_assign (.int _ _) rfl) rfl rfl ?_
      refine wl_nil ?_
      refine thenN ?_
      refine W_seq ?_
      refine W_seq ?_
      refine W_draw [(0, 0), (1, 0), (2, 0), (3, 0), (4, 0), (5, 0), (6, 0), (7, 0), (8, 0), (9, 0), (10, 0), (11, 0), (12, 0), (13, 0), (14, 1), (15, 1), (16, 1), (17, 0), (18, 0), (19, 1), (20, 1), (21, 1), (22, 2), (23, 0), (24, 0), (25, 0)] mixed rfl (by kernel_rfl) (fun w8 hb8 hh8 => ?_)
      have M8 := M7.drew hb8 hh8
      refine D_p rfl rfl rfl (fun _ => r_move (.int _ _) rfl) ?_
      refine D_p rfl rfl rfl (fun _ => r_bin (.bool (decide _)) rfl rfl rfl) ?_
      refine D_re 52 (.bool false) (bF (by omega)).symm ?_
      refine D_p rfl rfl rfl (fun _ => r_move (.bool false) rfl) ?_
      refine D_p rfl rfl rfl (fun _ => r_move (.int _ _) rfl) ?_
      refine D_p rfl rfl rfl (fun _ => r_move (.int _ _) rfl) ?_
      refine D_p rfl rfl rfl (fun _ => r_bin (.bool (decide _)) rfl rfl rfl) ?_
      refine D_re 56 (.bool false) (bF (by omega)).symm ?_
      refine D_p rfl rfl rfl (fun _ => r_pick false (.bool false) rfl rfl) ?_
      refine D_p rfl rfl rfl (fun _ => r_move (.bool false) rfl) ?_
      refine D_p rfl rfl rfl (fun _ => r_move (.int _ _) rfl) ?_
      refine D_p rfl rfl rfl (fun _ => r_bin (.bool (decide _)) rfl rfl rfl) ?_
      refine D_p rfl rfl rfl (fun _ => r_move (.bool (decide _)) rfl) ?_
      refine D_splitD 61 rfl (fun g61 => ?_) (fun g61 => ?_)
      · skip
        obtain ⟨zp, hzp⟩ := getSome (xs := (allC (viewL xs))) (k := i - 1) hcl (by omega)
        have hzz := hasc (show i - 1 < i by omega) hzp hz
        refine D_p rfl rfl rfl (fun _ => r_move (.slice _ _ _) rfl) ?_
        refine D_p rfl rfl rfl (fun _ => r_move (.int _ _) rfl) ?_
        refine D_p rfl rfl rfl (fun _ => r_sub rfl rfl (by omega) (by omega)) ?_
        refine D_r rfl rfl rfl (r_idxR (i - 1) sl23 rfl rfl (by omega) ((hr0.rd M8 (nthMem (i := 1) rfl)).below_len (mapGet conCells hzp)) ((hr0.rd M8 (nthMem (i := 1) rfl)).someK (mapGet conCells hzp))) ?_
        refine D_r rfl rfl rfl (r_fieldAddrE 0 fld35_0 (hr0.rd M8 (nthMem (i := 1) rfl)) (Nat.lt_of_le_of_lt (Nat.zero_le _) ((hr0.rd M8 (nthMem (i := 1) rfl)).below_len (mapGet conCells hzp))) rfl) ?_
        refine D_r rfl rfl rfl (r_ldEP (o := 0) _ agg31 (hr0.rd M8 (nthMem (i := 1) rfl)) (mapGet conCells hzp) rfl rfl rfl) ?_
        refine D_p rfl rfl rfl (fun _ => r_move (.slice _ _ _) rfl) ?_
        refine D_p rfl rfl rfl (fun _ => r_move (.int _ _) rfl) ?_
        refine D_r rfl rfl rfl (r_idxR (i) sl23 rfl rfl rfl ((hr0.rd M8 (nthMem (i := 1) rfl)).below_len (mapGet conCells hz)) ((hr0.rd M8 (nthMem (i := 1) rfl)).someK (mapGet conCells hz))) ?_
        refine D_r rfl rfl rfl (r_fieldAddrE 0 fld35_0 (hr0.rd M8 (nthMem (i := 1) rfl)) (Nat.lt_of_le_of_lt (Nat.zero_le _) ((hr0.rd M8 (nthMem (i := 1) rfl)).below_len (mapGet conCells hz))) rfl) ?_
        refine D_r rfl rfl rfl (r_ldEP (o := 0) _ agg31 (hr0.rd M8 (nthMem (i := 1) rfl)) (mapGet conCells hz) rfl rfl rfl) ?_
        refine D_e [true, true, true, true, true, true] rfl (by kernel_rfl) ?_
        refine wl_cal cal14 rfl rfl rfl ?_
        refine (ref10_Less _ (zp.low, zp.high) (z.low, z.high)).mono ?_
        rintro _ w9 ⟨v9, rfl, ⟨rfl, hb9⟩⟩
        refine ⟨_, rfl, ?_⟩
        have M9 := M8.callB hb9
        refine wl_nil (thenN ⟨alN, ?_⟩)
        refine D_re 73 (.bool true) (bT hzz).symm ?_
        refine D_p rfl rfl rfl (fun _ => r_notB false rfl rfl) ?_
        refine D_p rfl rfl rfl (fun _ => r_pick true (.bool false) rfl rfl) ?_
        refine D_p rfl rfl rfl (fun _ => r_pick false (.bool false) rfl rfl) ?_
        refine D_nil ?_
        refine thenN ?_
        refine W_condF rfl ?_
        refine W_skip ?_
        refine thenN ?_
        refine W_seq ?_
        refine W_fork [(0, 0), (1, 0), (2, 1), (3, 1), (4, 0), (5, 0), (6, 1), (7, 1)] 8 12 [(9, 0), (10, 0), (11, 0), (12, 2), (13, 2), (14, 0)] [(8, 2), (9, 0), (10, 0), (11, 0), (13, 2), (14, 0)] mixed rfl (by kernel_rfl) (fun w10 hb10 hh10 => ?_)
        have M10 := M9.drew hb10 hh10
        refine DK_p rfl rfl rfl (fun _ => r_move (.slice _ _ _) rfl) ?_
        refine DK_p rfl rfl rfl (fun _ => r_move (.int _ _) rfl) ?_
        refine DK_r rfl rfl rfl (r_idxR (p) sl22 rfl rfl rfl ((hr.rd M10 (nthMem (i := 0) rfl)).below_len (mapGet bodyCells hap)) ((hr.rd M10 (nthMem (i := 0) rfl)).someK (mapGet bodyCells hap))) ?_
        refine DK_r rfl rfl rfl (r_ldEA _ agg46 (hr.rd M10 (nthMem (i := 0) rfl)) (mapGet bodyCells hap) rfl) ?_
        refine DK_p rfl rfl rfl (fun _ => r_move (.slice _ _ _) rfl) ?_
        refine DK_p rfl rfl rfl (fun _ => r_move (.int _ _) rfl) ?_
        refine DK_r rfl rfl rfl (r_idxR (q) sl22 rfl rfl rfl ((hr.rd M10 (nthMem (i := 0) rfl)).below_len (mapGet bodyCells hbq)) ((hr.rd M10 (nthMem (i := 0) rfl)).someK (mapGet bodyCells hbq))) ?_
        refine DK_r rfl rfl rfl (r_ldEA _ agg46 (hr.rd M10 (nthMem (i := 0) rfl)) (mapGet bodyCells hbq) rfl) ?_
        refine DK_fork ?_ ?_
        · skip
          refine D_e [true, true, true, true] rfl (by kernel_rfl) ?_
          refine wl_cal cal15 rfl rfl rfl ?_
          refine (ref14_Of _ a b (hvo a (List.mem_of_getElem? hap)) (hvo b (List.mem_of_getElem? hbq))).mono ?_
          rintro _ w11 ⟨v11, rfl, ⟨rfl, hb11⟩⟩
          refine ⟨_, rfl, ?_⟩
          have M11 := M10.callB hb11
          refine wl_nil (thenN ⟨alN, ?_⟩)
          refine D_p rfl rfl rfl (fun _ => r_move (.tuple (List.toArray _)) rfl) ?_
          refine D_p rfl rfl rfl (fun _ => r_ext (.agg (List.toArray _)) rfl rfl) ?_
          refine D_re 87 (.agg (conCells z).toArray) (congrArg (fun o => Value.agg (conO o).toArray) hcon) ?_
          refine D_p rfl rfl rfl (fun _ => r_ext (.bool _) rfl rfl) ?_
          refine D_re 88 (.bool true) (bv rfl (by rw [hcon]; rfl)) ?_
          refine D_e [] rfl (by kernel_rfl) ?_
          refine wl_alloc zero35 M11 rfl rfl (fun b12 w12 M12 => ?_)
          refine wl_nil (thenN ⟨alN, ?_⟩)
          refine D_e [] rfl (by kernel_rfl) ?_
          refine wl_stW 2 _ agg35 M12 rfl rfl rfl rfl rfl (ones_of rfl) rfl (fun w13 M13 => ?_)
          refine wl_nil (thenN ⟨alN, ?_⟩)
          refine D_p rfl rfl rfl (fun _ => r_assign (.bool true) rfl) ?_
          refine D_nil ?_
          refine thenN ?_
          refine W_seq ?_
          refine W_draw [(0, 0), (1, 0), (2, 0), (3, 1), (4, 0), (5, 0), (6, 1), (7, 1), (8, 0), (9, 0)] mixed rfl (by kernel_rfl) (fun w14 hb14 hh14 => ?_)
          have M14 := M13.drew hb14 hh14
          refine D_p rfl rfl rfl (fun _ => r_move (.bool true) rfl) ?_
          refine D_p rfl rfl rfl (fun _ => r_notB false rfl rfl) ?_
          refine D_p rfl rfl rfl (fun _ => r_move (.bool false) rfl) ?_
          refine D_r rfl rfl rfl (r_ldW 2 agg35 M14 rfl rfl rfl) ?_
          refine D_p rfl rfl rfl (fun _ => r_move (.slice _ _ _) rfl) ?_
          refine D_p rfl rfl rfl (fun _ => r_move (.int _ _) rfl) ?_
          refine D_r rfl rfl rfl (r_idxR (i) sl23 rfl rfl rfl ((hr0.rd M14 (nthMem (i := 1) rfl)).below_len (mapGet conCells hz)) ((hr0.rd M14 (nthMem (i := 1) rfl)).someK (mapGet conCells hz))) ?_
          refine D_r rfl rfl rfl (r_ldEA _ agg35 (hr0.rd M14 (nthMem (i := 1) rfl)) (mapGet conCells hz) rfl) ?_
          refine D_p rfl rfl rfl (fun _ => r_neA (eqCon z z) rfl rfl) ?_
          refine D_re 97 (.bool false) (bF (fun h => h rfl)).symm ?_
          refine D_p rfl rfl rfl (fun _ => r_pick false (.bool false) rfl rfl) ?_
          refine D_nil ?_
          refine thenN ?_
          refine W_condF rfl ?_
          refine W_skip ?_
          refine blkN ?_
          refine thenN ?_
          refine W_region ?_
          refine wl_q (r_move (.int _ _) rfl) rfl rfl ?_
          refine wl_q (r_add rfl rfl (by omega) (by omega)) rfl rfl ?_
          refine wl_q (r_assign (.int _ _) rfl) rfl rfl ?_
          refine wl_nil ?_
          refine roundN (i + 1) (agC rfl agN) (akC rfl (akC rfl (akC rfl akN))) ?_ ?_
          · exact ⟨by omega, M14.keep [true, true, false]⟩
          · omega
        · skip
          refine D_e [false, false, false, false] rfl (by kernel_rfl) ?_
          refine wl_alloc zero35 M10 rfl rfl (fun b15 w15 M15 => ?_)
          refine wl_nil (thenN ⟨(alC (Yl_of rfl (r_ldEA _ agg46 (hr.rd M15 (nthMem (i := 0) rfl)) (mapGet bodyCells hbq) rfl)) (alC (Yl_of rfl (r_idxR (q) sl22 rfl rfl rfl ((hr.rd M15 (nthMem (i := 0) rfl)).below_len (mapGet bodyCells hbq)) ((hr.rd M15 (nthMem (i := 0) rfl)).someK (mapGet bodyCells hbq)))) (alC (Yl_of rfl (r_ldEA _ agg46 (hr.rd M15 (nthMem (i := 0) rfl)) (mapGet bodyCells hap) rfl)) (alC (Yl_of rfl (r_idxR (p) sl22 rfl rfl rfl ((hr.rd M15 (nthMem (i := 0) rfl)).below_len (mapGet bodyCells hap)) ((hr.rd M15 (nthMem (i := 0) rfl)).someK (mapGet bodyCells hap)))) alN)))), ?_⟩)
          refine D_e [true, true, true, true] rfl (by kernel_rfl) ?_
          refine wl_cal cal15 rfl rfl rfl ?_
          refine (ref14_Of _ a b (hvo a (List.mem_of_getElem? hap)) (hvo b (List.mem_of_getElem? hbq))).mono ?_
          rintro _ w16 ⟨v16, rfl, ⟨rfl, hb16⟩⟩
          refine ⟨_, rfl, ?_⟩
          have M16 := M15.callB hb16
          refine wl_nil (thenN ⟨alN, ?_⟩)
          refine D_p rfl rfl rfl (fun _ => r_move (.tuple (List.toArray _)) rfl) ?_
          refine D_p rfl rfl rfl (fun _ => r_ext (.agg (List.toArray _)) rfl rfl) ?_
          refine D_re 87 (.agg (conCells z).toArray) (congrArg (fun o => Value.agg (conO o).toArray) hcon) ?_
          refine D_p rfl rfl rfl (fun _ => r_ext (.bool _) rfl rfl) ?_
          refine D_re 88 (.bool true) (bv rfl (by rw [hcon]; rfl)) ?_
          refine D_e [] rfl (by kernel_rfl) ?_
          refine wl_stW 2 _ agg35 M16 rfl rfl rfl rfl rfl (ones_of rfl) rfl (fun w17 M17 => ?_)
          refine wl_nil (thenN ⟨alN, ?_⟩)
          refine D_p rfl rfl rfl (fun _ => r_assign (.bool true) rfl) ?_
          refine D_nil ?_
          refine thenN ?_
          refine W_seq ?_
          refine W_draw [(0, 0), (1, 0), (2, 0), (3, 1), (4, 0), (5, 0), (6, 1), (7, 1), (8, 0), (9, 0)] mixed rfl (by kernel_rfl) (fun w18 hb18 hh18 => ?_)
          have M18 := M17.drew hb18 hh18
          refine D_p rfl rfl rfl (fun _ => r_move (.bool true) rfl) ?_
          refine D_p rfl rfl rfl (fun _ => r_notB false rfl rfl) ?_
          refine D_p rfl rfl rfl (fun _ => r_move (.bool false) rfl) ?_
          refine D_r rfl rfl rfl (r_ldW 2 agg35 M18 rfl rfl rfl) ?_
          refine D_p rfl rfl rfl (fun _ => r_move (.slice _ _ _) rfl) ?_
          refine D_p rfl rfl rfl (fun _ => r_move (.int _ _) rfl) ?_
          refine D_r rfl rfl rfl (r_idxR (i) sl23 rfl rfl rfl ((hr0.rd M18 (nthMem (i := 1) rfl)).below_len (mapGet conCells hz)) ((hr0.rd M18 (nthMem (i := 1) rfl)).someK (mapGet conCells hz))) ?_
          refine D_r rfl rfl rfl (r_ldEA _ agg35 (hr0.rd M18 (nthMem (i := 1) rfl)) (mapGet conCells hz) rfl) ?_
          refine D_p rfl rfl rfl (fun _ => r_neA (eqCon z z) rfl rfl) ?_
          refine D_re 97 (.bool false) (bF (fun h => h rfl)).symm ?_
          refine D_p rfl rfl rfl (fun _ => r_pick false (.bool false) rfl rfl) ?_
          refine D_nil ?_
          refine thenN ?_
          refine W_condF rfl ?_
          refine W_skip ?_
          refine blkN ?_
          refine thenN ?_
          refine W_region ?_
          refine wl_q (r_move (.int _ _) rfl) rfl rfl ?_
          refine wl_q (r_add rfl rfl (by omega) (by omega)) rfl rfl ?_
          refine wl_q (r_assign (.int _ _) rfl) rfl rfl ?_
          refine wl_nil ?_
          refine roundN (i + 1) (agC rfl agN) (akC rfl (akC rfl (akC rfl akN))) ?_ ?_
          · exact ⟨by omega, M18.keep [true, true, false]⟩
          · omega
      · skip
        refine D_s rfl rfl rfl ?_
        refine D_s rfl rfl rfl ?_
        refine D_s rfl rfl rfl ?_
        refine D_s1 rfl rfl rfl ?_
        refine D_s1 rfl rfl rfl ?_
        refine D_s1 rfl rfl rfl ?_
        refine D_s rfl rfl rfl ?_
        refine D_s rfl rfl rfl ?_
        refine D_s1 rfl rfl rfl ?_
        refine D_s1 rfl rfl rfl ?_
        refine D_s1 rfl rfl rfl ?_
        refine D_e [true, true, true, true, true, true] rfl (by kernel_rfl) ?_
        refine wl_skip rfl rfl ?_
        refine wl_nil (thenN ⟨alN, ?_⟩)
        refine D_s rfl rfl rfl ?_
        refine D_p rfl rfl rfl (fun _ => r_pick false (.bool false) rfl rfl) ?_
        refine D_p rfl rfl rfl (fun _ => r_pick false (.bool false) rfl rfl) ?_
        refine D_nil ?_
        refine thenN ?_
        refine W_condF rfl ?_
        refine W_skip ?_
        refine thenN ?_
        refine W_seq ?_
        refine W_fork [(0, 0), (1, 0), (2, 1), (3, 1), (4, 0), (5, 0), (6, 1), (7, 1)] 8 12 [(9, 0), (10, 0), (11, 0), (12, 2), (13, 2), (14, 0)] [(8, 2), (9, 0), (10, 0), (11, 0), (13, 2), (14, 0)] mixed rfl (by kernel_rfl) (fun w19 hb19 hh19 => ?_)
        have M19 := M8.drew hb19 hh19
        refine DK_p rfl rfl rfl (fun _ => r_move (.slice _ _ _) rfl) ?_
        refine DK_p rfl rfl rfl (fun _ => r_move (.int _ _) rfl) ?_
        refine DK_r rfl rfl rfl (r_idxR (p) sl22 rfl rfl rfl ((hr.rd M19 (nthMem (i := 0) rfl)).below_len (mapGet bodyCells hap)) ((hr.rd M19 (nthMem (i := 0) rfl)).someK (mapGet bodyCells hap))) ?_
        refine DK_r rfl rfl rfl (r_ldEA _ agg46 (hr.rd M19 (nthMem (i := 0) rfl)) (mapGet bodyCells hap) rfl) ?_
        refine DK_p rfl rfl rfl (fun _ => r_move (.slice _ _ _) rfl) ?_
        refine DK_p rfl rfl rfl (fun _ => r_move (.int _ _) rfl) ?_
        refine DK_r rfl rfl rfl (r_idxR (q) sl22 rfl rfl rfl ((hr.rd M19 (nthMem (i := 0) rfl)).below_len (mapGet bodyCells hbq)) ((hr.rd M19 (nthMem (i := 0) rfl)).someK (mapGet bodyCells hbq))) ?_
        refine DK_r rfl rfl rfl (r_ldEA _ agg46 (hr.rd M19 (nthMem (i := 0) rfl)) (mapGet bodyCells hbq) rfl) ?_
        refine DK_fork ?_ ?_
        · skip
          refine D_e [true, true, true, true] rfl (by kernel_rfl) ?_
          refine wl_cal cal15 rfl rfl rfl ?_
          refine (ref14_Of _ a b (hvo a (List.mem_of_getElem? hap)) (hvo b (List.mem_of_getElem? hbq))).mono ?_
          rintro _ w20 ⟨v20, rfl, ⟨rfl, hb20⟩⟩
          refine ⟨_, rfl, ?_⟩
          have M20 := M19.callB hb20
          refine wl_nil (thenN ⟨alN, ?_⟩)
          refine D_p rfl rfl rfl (fun _ => r_move (.tuple (List.toArray _)) rfl) ?_
          refine D_p rfl rfl rfl (fun _ => r_ext (.agg (List.toArray _)) rfl rfl) ?_
          refine D_re 87 (.agg (conCells z).toArray) (congrArg (fun o => Value.agg (conO o).toArray) hcon) ?_
          refine D_p rfl rfl rfl (fun _ => r_ext (.bool _) rfl rfl) ?_
          refine D_re 88 (.bool true) (bv rfl (by rw [hcon]; rfl)) ?_
          refine D_e [] rfl (by kernel_rfl) ?_
          refine wl_alloc zero35 M20 rfl rfl (fun b21 w21 M21 => ?_)
          refine wl_nil (thenN ⟨alN, ?_⟩)
          refine D_e [] rfl (by kernel_rfl) ?_
          refine wl_stW 2 _ agg35 M21 rfl rfl rfl rfl rfl (ones_of rfl) rfl (fun w22 M22 => ?_)
          refine wl_nil (thenN ⟨alN, ?_⟩)
          refine D_p rfl rfl rfl (fun _ => r_assign (.bool true) rfl) ?_
          refine D_nil ?_
          refine thenN ?_
          refine W_seq ?_
          refine W_draw [(0, 0), (1, 0), (2, 0), (3, 1), (4, 0), (5, 0), (6, 1), (7, 1), (8, 0), (9, 0)] mixed rfl (by kernel_rfl) (fun w23 hb23 hh23 => ?_)
          have M23 := M22.drew hb23 hh23
          refine D_p rfl rfl rfl (fun _ => r_move (.bool true) rfl) ?_
          refine D_p rfl rfl rfl (fun _ => r_notB false rfl rfl) ?_
          refine D_p rfl rfl rfl (fun _ => r_move (.bool false) rfl) ?_
          refine D_r rfl rfl rfl (r_ldW 2 agg35 M23 rfl rfl rfl) ?_
          refine D_p rfl rfl rfl (fun _ => r_move (.slice _ _ _) rfl) ?_
          refine D_p rfl rfl rfl (fun _ => r_move (.int _ _) rfl) ?_
          refine D_r rfl rfl rfl (r_idxR (i) sl23 rfl rfl rfl ((hr0.rd M23 (nthMem (i := 1) rfl)).below_len (mapGet conCells hz)) ((hr0.rd M23 (nthMem (i := 1) rfl)).someK (mapGet conCells hz))) ?_
          refine D_r rfl rfl rfl (r_ldEA _ agg35 (hr0.rd M23 (nthMem (i := 1) rfl)) (mapGet conCells hz) rfl) ?_
          refine D_p rfl rfl rfl (fun _ => r_neA (eqCon z z) rfl rfl) ?_
          refine D_re 97 (.bool false) (bF (fun h => h rfl)).symm ?_
          refine D_p rfl rfl rfl (fun _ => r_pick false (.bool false) rfl rfl) ?_
          refine D_nil ?_
          refine thenN ?_
          refine W_condF rfl ?_
          refine W_skip ?_
          refine blkN ?_
          refine thenN ?_
          refine W_region ?_
          refine wl_q (r_move (.int _ _) rfl) rfl rfl ?_
          refine wl_q (r_add rfl rfl (by omega) (by omega)) rfl rfl ?_
          refine wl_q (r_assign (.int _ _) rfl) rfl rfl ?_
          refine wl_nil ?_
          refine roundN (i + 1) (agC rfl agN) (akC rfl (akC rfl (akC rfl akN))) ?_ ?_
          · exact ⟨by omega, M23.keep [true, true, false]⟩
          · omega
        · skip
          refine D_e [false, false, false, false] rfl (by kernel_rfl) ?_
          refine wl_alloc zero35 M19 rfl rfl (fun b24 w24 M24 => ?_)
          refine wl_nil (thenN ⟨(alC (Yl_of rfl (r_ldEA _ agg46 (hr.rd M24 (nthMem (i := 0) rfl)) (mapGet bodyCells hbq) rfl)) (alC (Yl_of rfl (r_idxR (q) sl22 rfl rfl rfl ((hr.rd M24 (nthMem (i := 0) rfl)).below_len (mapGet bodyCells hbq)) ((hr.rd M24 (nthMem (i := 0) rfl)).someK (mapGet bodyCells hbq)))) (alC (Yl_of rfl (r_ldEA _ agg46 (hr.rd M24 (nthMem (i := 0) rfl)) (mapGet bodyCells hap) rfl)) (alC (Yl_of rfl (r_idxR (p) sl22 rfl rfl rfl ((hr.rd M24 (nthMem (i := 0) rfl)).below_len (mapGet bodyCells hap)) ((hr.rd M24 (nthMem (i := 0) rfl)).someK (mapGet bodyCells hap)))) alN)))), ?_⟩)
          refine D_e [true, true, true, true] rfl (by kernel_rfl) ?_
          refine wl_cal cal15 rfl rfl rfl ?_
          refine (ref14_Of _ a b (hvo a (List.mem_of_getElem? hap)) (hvo b (List.mem_of_getElem? hbq))).mono ?_
          rintro _ w25 ⟨v25, rfl, ⟨rfl, hb25⟩⟩
          refine ⟨_, rfl, ?_⟩
          have M25 := M24.callB hb25
          refine wl_nil (thenN ⟨alN, ?_⟩)
          refine D_p rfl rfl rfl (fun _ => r_move (.tuple (List.toArray _)) rfl) ?_
          refine D_p rfl rfl rfl (fun _ => r_ext (.agg (List.toArray _)) rfl rfl) ?_
          refine D_re 87 (.agg (conCells z).toArray) (congrArg (fun o => Value.agg (conO o).toArray) hcon) ?_
          refine D_p rfl rfl rfl (fun _ => r_ext (.bool _) rfl rfl) ?_
          refine D_re 88 (.bool true) (bv rfl (by rw [hcon]; rfl)) ?_
          refine D_e [] rfl (by kernel_rfl) ?_
          refine wl_stW 2 _ agg35 M25 rfl rfl rfl rfl rfl (ones_of rfl) rfl (fun w26 M26 => ?_)
          refine wl_nil (thenN ⟨alN, ?_⟩)
          refine D_p rfl rfl rfl (fun _ => r_assign (.bool true) rfl) ?_
          refine D_nil ?_
          refine thenN ?_
          refine W_seq ?_
          refine W_draw [(0, 0), (1, 0), (2, 0), (3, 1), (4, 0), (5, 0), (6, 1), (7, 1), (8, 0), (9, 0)] mixed rfl (by kernel_rfl) (fun w27 hb27 hh27 => ?_)
          have M27 := M26.drew hb27 hh27
          refine D_p rfl rfl rfl (fun _ => r_move (.bool true) rfl) ?_
          refine D_p rfl rfl rfl (fun _ => r_notB false rfl rfl) ?_
          refine D_p rfl rfl rfl (fun _ => r_move (.bool false) rfl) ?_
          refine D_r rfl rfl rfl (r_ldW 2 agg35 M27 rfl rfl rfl) ?_
          refine D_p rfl rfl rfl (fun _ => r_move (.slice _ _ _) rfl) ?_
          refine D_p rfl rfl rfl (fun _ => r_move (.int _ _) rfl) ?_
          refine D_r rfl rfl rfl (r_idxR (i) sl23 rfl rfl rfl ((hr0.rd M27 (nthMem (i := 1) rfl)).below_len (mapGet conCells hz)) ((hr0.rd M27 (nthMem (i := 1) rfl)).someK (mapGet conCells hz))) ?_
          refine D_r rfl rfl rfl (r_ldEA _ agg35 (hr0.rd M27 (nthMem (i := 1) rfl)) (mapGet conCells hz) rfl) ?_
          refine D_p rfl rfl rfl (fun _ => r_neA (eqCon z z) rfl rfl) ?_
          refine D_re 97 (.bool false) (bF (fun h => h rfl)).symm ?_
          refine D_p rfl rfl rfl (fun _ => r_pick false (.bool false) rfl rfl) ?_
          refine D_nil ?_
          refine thenN ?_
          refine W_condF rfl ?_
          refine W_skip ?_
          refine blkN ?_
          refine thenN ?_
          refine W_region ?_
          refine wl_q (r_move (.int _ _) rfl) rfl rfl ?_
          refine wl_q (r_add rfl rfl (by omega) (by omega)) rfl rfl ?_
          refine wl_q (r_assign (.int _ _) rfl) rfl rfl ?_
          refine wl_nil ?_
          refine roundN (i + 1) (agC rfl agN) (akC rfl (akC rfl (akC rfl akN))) ?_ ?_
          · exact ⟨by omega, M27.keep [true, true, false]⟩
          · omega
    · skip
      refine W_exit ?_
      refine thenX ?_
      refine roundX ?_
      refine blkH ?_
      refine thenN ?_
      refine W_seq ?_
      refine W_region ?_
      refine wl_q (r_move (.int _ _) rfl) rfl rfl ?_
      refine wl_q (r_move (.slice _ _ _) rfl) rfl rfl ?_
      refine wl_q (r_lenS Tryz.underlying23 rfl) rfl rfl ?_
      refine wl_q (r_bin (.bool (decide _)) rfl rfl rfl) rfl rfl ?_
      refine wl_re 102 (.bool true) (bT (by omega)).symm ?_
      refine wl_q (r_move (.bool true) rfl) rfl rfl ?_
      refine wl_q (r_move (.int _ _) rfl) rfl rfl ?_
      refine wl_q (r_move (.slice _ _ _) rfl) rfl rfl ?_
      refine wl_q (r_lenS Tryz.underlying22 rfl) rfl rfl ?_
      refine wl_q (r_move (.slice _ _ _) rfl) rfl rfl ?_
      refine wl_q (r_lenS Tryz.underlying22 rfl) rfl rfl ?_
      refine wl_q (r_sub rfl rfl (by omega) (by omega)) rfl rfl ?_
      refine wl_q (r_mul rfl rfl (by rw [mulpred]; omega) (by rw [mulpred]; omega)) rfl rfl ?_
      refine wl_re 110 (.int .i64 ((r.n * (r.n - 1) : Nat) : Int)) (iE (mulpred _)) ?_
      refine wl_q (r_quo rfl rfl (by decide)) rfl rfl ?_
      refine wl_re 111 (.int .i64 ((r.n * (r.n - 1) / 2 : Nat) : Int)) (iE (quo2 _ (by omega))) ?_
      refine wl_q (r_bin (.bool (decide _)) rfl rfl rfl) rfl rfl ?_
      refine wl_re 112 (.bool true) (bT (by omega)).symm ?_
      refine wl_q (r_pick true (.bool true) rfl rfl) rfl rfl ?_
      refine wl_q (r_assign (.bool true) rfl) rfl rfl ?_
      refine wl_nil ?_
      refine thenN ?_
      refine W_ret ?_
      skip
      refine fin1 (.bool true) rfl ?_
      exact ⟨rfl, hM5.below⟩

end Go.Proofs.YtkegiinlfmlhlaaGreatDoor

set_option linter.unusedVariables false
set_option linter.unusedSimpArgs false
set_option linter.unnecessarySimpa false
namespace Go.Proofs.YtkegiinlfmlhlaaGreatDoor
open Go.Bil
open Go.RowKit (Below)
open Go.Proofs

namespace contactsAll
open Go.ChangeShapes Go.WideShapes Go.ChangeAt Go.RowKit
open Go.ChangeMaps (open_string shut_string)
theorem own : ownKnob Tryz.prog.godebug = none := by kernel_rfl
theorem laidOut : laidOutB Tryz.prog = true := by kernel_rfl
set_option maxRecDepth 100000 in
theorem lifted (os : Os) (started : os.Started) (H : Type) (enc : TypeId × Value → H) :
    ReturnsInHanded {} Tryz.checked os 4 .any (fun w args => (Rows.contactsAllSpec.pre enc Tryz.prog Tryz.f4 [] false w args ∧ laidMet Tryz.prog laidL w) ∧ sizedMet enc Tryz.prog Tryz.f4 (OpenSpec.ofChange Rows.contactsAllSpec) false w args) (Rows.contactsAllSpec.post enc Tryz.prog Tryz.f4 false true false false) := by
  refine returnsInHanded_of_change_and (C := Tryz.checked) (X := fun w _ => laidMet Tryz.prog laidL w) (fun _ _ _ hh h => h.of_heap hh) own started (by kernel_rfl) Tryz.func4
    (ChangeSpec.witness_at (enc := enc) (C := Tryz.checked) (os := os) (X := fun w _ => laidMet Tryz.prog laidL w) false (laidWorld os) #[.slice none 0 0] 8 rfl (by kernel_rfl) (by kernel_rfl) (by kernel_rfl) (by kernel_rfl) (by kernel_rfl) (laidMet_of_run' 8 (by kernel_rfl) (by kernel_rfl))) ?_
  intro W base args ds gs before hval0 hW hcnd hsz0 hL _
  have hsz : (DataW.weightsEach Tryz.prog (Tryz.f4.params.toList ++ Rows.contactsAllSpec.plain.varTypes Tryz.prog) (ds ++ gs)).all (· ≤ reachBytes) = true := hsz0
  have hval : ∀ (j : Nat) t v, Tryz.f4.params[j]? = some t → args[j]? = some v → Value.okWide Tryz.prog W .any base t v := hval0
  have hW' := hW
  obtain ⟨p, q, hA0, hV, rfl, hfz, hnd⟩ := hW
  have hA : DataW.TrodAll enc Tryz.prog W 0 (fun _ => true) true Tryz.f4.params.toList args.toList ds p := hA0
  rw [Tryz.params4] at hA hval hsz
  obtain ⟨v0, vs0, d0, ds0, p0, q0, hargs, rfl, rfl, h0, r0⟩ := trodAll_cons hA
  obtain ⟨rfl, rfl, rfl⟩ := trodAll_nil r0
  obtain rfl : args = #[v0] := by cases args; simp_all
  obtain ⟨rfl, rfl⟩ := trodVars_none hV
  have k0 := h0
  have lt0 : ∀ x ∈ p0, x.block < W.heap.size := by obtain ⟨m, hm⟩ := k0; exact DataW.trod_lt m _ _ _ hm
  obtain ⟨a0, len0, cap0, rfl⟩ := okWide_slice Tryz.underlying22 (hval 0 22 v0 rfl rfl)
  have y0 := sized_rows hsz (j := 0) (t := 22) rfl rfl sl22 h0
  obtain ⟨ls0, R0, hi0⟩ := open_rows sl22 leaves46 rfl y0 h0
  obtain ⟨xs0, rfl, hx0⟩ := list_of bodyOf ls0 hi0
  clear hA0 hval0 hsz0 hsz
  refine (law_ContactsAll W (rdF hL) (rdN hL) _ _ _ xs0 R0).mono fun e W' ⟨v, he, hv, bel⟩ => ?_
  subst he
  subst hv
  exact ⟨_, rfl, _, _, _, [], _, [], hW', trodAll_mk1 (shut_bool Tryz.underlying4 _), (trodAll_cons_mk (Below.trod laidOut (by kernel_rfl) (of_decide_eq_true (by kernel_rfl)) k0 bel lt0) trodAll_mk0), rfl, bel.frame _, fun h => by cases h⟩
theorem over : Rows.contactsAllRow.holds Tryz.pinned (OpenSpec.ofChange Rows.contactsAllSpec) :=
  OpenClaim.holds_of_wide 4 Tryz.f4 rfl rfl rfl rfl rfl rfl rfl ⟨rfl, rfl, rfl, rfl, rfl⟩ rfl rfl rfl rfl rfl (by kernel_rfl) Tryz.func4 (by kernel_rfl)
    (of_decide_eq_true (by kernel_rfl)) (by unfold Func.isWrapper; first | (rw [if_pos (by decide +kernel)]; kernel_rfl) | (rw [if_neg (by decide +kernel)]; exact ⟨rfl, rfl⟩))
    (fun os started H enc _ => lifted os started H enc)
end contactsAll
theorem contactsAll_holds : Rows.ContactsAllSaid := contactsAll.over
#print axioms contactsAll_holds
theorem contactsAll_card : Rows.ContactsAllCardSaid :=
  Claim7.holds_tied_plain_at .later [] [.data, .data] true (true, "3aca2b76c285c966e07b3478885ac977f088e9fe089b19d7286332a62054959d") false
    contactsAll_holds (fun _ h => by cases h) (by kernel_rfl) (fun _ h => by cases h) contactsAll_row_tie rfl ⟨rfl, rfl⟩ (by kernel_rfl) rfl
    (fun f fn hf hfn => by
      obtain rfl : f = 4 := Option.some.inj ((show Tryz.prog.funcNamed "billiard/billiardlaw15.ContactsAll" = some 4 by kernel_rfl).symm.trans hf) |>.symm
      obtain rfl : fn = Tryz.f4 := (Option.some.inj (Tryz.func4.symm.trans hfn)).symm
      exact ⟨by kernel_rfl, fun j t ht => by
        rw [Tryz.params4] at ht
        have hm : t ∈ [22] := by simpa using Array.mem_of_getElem? ht
        have hall : ([22].all fun u => !Tryz.prog.wantsStandIn u) = true := by kernel_rfl
        exact (show Tryz.prog.wantsStandIn t = false by simpa using List.all_eq_true.1 hall t hm)⟩)
    (by kernel_rfl)
#print axioms contactsAll_card

end Go.Proofs.YtkegiinlfmlhlaaGreatDoor
