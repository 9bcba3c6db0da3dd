/- The law ContactsLonely returns true for every input, and what it reads stays as it was. No conditions. -/
import Derived.Test.YtkegiinlfmlhlaaDoorK5
import Derived.Test.YtkegiinlfmlhlaaDoorK26
import Derived.Test.YtkegiinlfmlhlaaDoorK21
import Derived.Test.YtkegiinlfmlhlaaDoorRows
import Derived.Test.YtkegiinlfmlhlaaDoorK27
import Derived.Test.YtkegiinlfmlhlaaDoorTie
import Derived.Test.YtkegiinlfmlhlaaDoorCards
import Derived.WalkKit
import Derived.ProofKit
import Derived.OpenShut
import Derived.ShutString
import Derived.ChangeOld
import Derived.Below
import Derived.SizedLaws
/- Walks of Go functions over the frame of this claim: what each computes, for every input of the stated types (LContactsLonely). -/
set_option linter.unusedVariables false
set_option linter.unusedSimpArgs false
set_option linter.unnecessarySimpa false
namespace Go.Proofs.YtkegiinlfmlhlaaDoor
open Go.Bil
open Go.RowKit (Below)
open Go.Proofs

set_option maxHeartbeats 16000000 in
theorem law_ContactsLonely (w : World) (F : Rd w 2 (some ⟨0, 0, none⟩) 1 [[.int .u32 73856093, .int .u32 19349663]]) (N : Rd w 4 (some ⟨1, 0, none⟩) 1 [bxCells noneB]) (f : Nat) (hf : f ≤ 255) (A : Option Addr) (n c : Nat) (xs : List Body) (R : Rd w 10 A n (xs.map bodyCells)) :
    Calls Tryd.prog 3 #[.slice A n c, .int .u8 (f : Int)] w (fun ex w' => ∃ v, ex = .returned v ∧ (fun v w' => v = .bool true ∧ Below w.heap.size w w') v w') := by
  have hlen : xs.length = n := by simpa using R.len
  have hbd := R.bound
  refine calls_of_W #[.tmp 4] 130 Tryd.func3 rfl Tryd.results3 Tryd.ntmps3 rfl ?_
  have M0 := Mem.refl w
  refine W_seq ?_
  refine W_region ?_
  refine wl_q (r_assign (.bool false) rfl) rfl rfl ?_
  refine wl_nil ?_
  refine thenN ?_
  refine W_seq ?_
  refine W_region ?_
  refine wl_q (r_move (.slice _ _ _) rfl) rfl rfl ?_
  refine wl_cal cal11 rfl rfl rfl ?_
  refine (ref11_View _ _ _ _ xs (R.mem M0)).mono ?_
  rintro _ w1 ⟨v1, rfl, ⟨r, rfl, hr, hM1⟩⟩
  refine ⟨_, rfl, ?_⟩
  have M1 : Mem _ _ [_] _ := M0.call0 hM1
  refine wl_q (r_move (.tuple (List.toArray _)) rfl) rfl rfl ?_
  refine wl_q (r_ext (.slice _ _ _) rfl rfl) rfl rfl ?_
  refine wl_q (r_ext (.bool (decide _)) rfl rfl) rfl rfl ?_
  refine wl_q (r_assign (.slice _ _ _) rfl) rfl rfl ?_
  refine wl_q (r_assign (.bool (decide _)) rfl) rfl rfl ?_
  refine wl_nil ?_
  refine thenN ?_
  refine W_seq ?_
  refine W_seq ?_
  refine W_region ?_
  refine wl_cal cal12 rfl rfl rfl ?_
  refine (aw15 _ (F.mem M1) (N.mem M1)).mono ?_
  rintro _ w2 ⟨v2, rfl, ⟨rfl, hb2⟩⟩
  refine ⟨_, rfl, ?_⟩
  have M2 := M1.callB hb2
  refine wl_q (r_notB false rfl rfl) rfl rfl ?_
  refine wl_q (r_move (.bool false) rfl) rfl rfl ?_
  refine wl_q (r_move (.bool (decide _)) rfl) rfl rfl ?_
  refine wl_q (r_not rfl) rfl rfl ?_
  refine wl_q (r_pick false (.bool (decide _)) rfl rfl) rfl rfl ?_
  refine wl_q (r_move (.bool (decide _)) rfl) rfl rfl ?_
  refine wl_splitD 26 rfl (fun g26 => ?_) (fun g26 => ?_)
  · skip
    refine wl_skip rfl rfl ?_
    refine wl_skip rfl rfl ?_
    refine wl_skip rfl rfl ?_
    refine wl_q (r_pick true (.bool true) rfl rfl) rfl rfl ?_
    refine wl_nil ?_
    refine thenN ?_
    refine W_condT rfl ?_
    refine W_seq ?_
    refine W_region ?_
    refine wl_cal cal12 rfl rfl rfl ?_
    refine (aw15 _ (F.mem M2) (N.mem M2)).mono ?_
    rintro _ w3 ⟨v3, rfl, ⟨rfl, hb3⟩⟩
    refine ⟨_, rfl, ?_⟩
    have M3 := M2.callB hb3
    refine wl_q (r_assign (.bool true) rfl) rfl rfl ?_
    refine wl_nil ?_
    refine thenN ?_
    refine W_ret ?_
    refine thenR ?_
    skip
    refine fin1 (.bool true) rfl ?_
    exact ⟨rfl, M3.below⟩
  · skip
    refine wl_q (r_move (.slice _ _ _) rfl) rfl rfl ?_
    refine wl_q (r_lenS Tryd.underlying22 rfl) rfl rfl ?_
    refine wl_q (r_bin (.bool (decide _)) rfl rfl rfl) rfl rfl ?_
    refine wl_q (r_pick false (.bool (decide _)) rfl rfl) rfl rfl ?_
    refine wl_nil ?_
    refine thenN ?_
    refine W_condD rfl (fun h30 => ?_) (fun h30 => ?_)
    · skip
      refine W_seq ?_
      refine W_region ?_
      refine wl_cal cal12 rfl rfl rfl ?_
      refine (aw15 _ (F.mem M2) (N.mem M2)).mono ?_
      rintro _ w4 ⟨v4, rfl, ⟨rfl, hb4⟩⟩
      refine ⟨_, rfl, ?_⟩
      have M4 := M2.callB hb4
      refine wl_q (r_assign (.bool true) rfl) rfl rfl ?_
      refine wl_nil ?_
      refine thenN ?_
      refine W_ret ?_
      refine thenR ?_
      skip
      refine fin1 (.bool true) rfl ?_
      exact ⟨rfl, M4.below⟩
    · skip
      obtain ⟨hV, hve, hvk⟩ := view_of (Decidable.not_not.1 g26)
      have hvl := hV.len
      have hrn : (viewL xs).length = r.n := by simpa using hr.1
      have hvs := hV.s
      have hvo := hV.okb
      obtain ⟨kk, hkk⟩ : ∃ kk : Nat, kk = f % r.n := ⟨_, rfl⟩
      have hkl : kk < r.n := by rw [hkk]; exact Nat.mod_lt _ (by omega)
      obtain ⟨y, hy⟩ := getSome (xs := (viewL xs)) (k := kk) hrn hkl
      have hcap := hr.slice
      refine W_skip ?_
      refine thenN ?_
      refine W_seq ?_
      refine W_region ?_
      refine wl_q (r_move (.int _ _) rfl) rfl rfl ?_
      refine wl_q (r_convK us5 Tryd.underlying3 rfl (w64 _ (by omega) (by omega))) rfl rfl ?_
      refine wl_q (r_move (.slice _ _ _) rfl) rfl rfl ?_
      refine wl_q (r_lenS Tryd.underlying22 rfl) rfl rfl ?_
      refine wl_q (r_rem rfl rfl (by omega)) rfl rfl ?_
      refine wl_re 36 (.int .i64 (kk : Int)) (iE (tmod_nat rfl hkk)) ?_
      refine wl_q (r_assign (.int _ _) rfl) rfl rfl ?_
      refine wl_nil ?_
      refine thenN ?_
      refine W_seq ?_
      refine W_region ?_
      refine wl_q (r_move (.slice _ _ _) rfl) rfl rfl ?_
      refine wl_cal cal13 rfl rfl rfl ?_
      refine (contacts_All _ (F.mem M2) (N.mem M2) _ _ _ (viewL xs) (hr.rd M2 (nthMem (i := 0) rfl)) hvo hvs (by first | decide | omega)).mono ?_
      rintro _ w5 ⟨v5, rfl, ⟨r0, m0, rfl, hfm0, hgm0, hr0, hM5⟩⟩
      refine ⟨_, rfl, ?_⟩
      have M5 : Mem _ _ [_, _] _ := M2.call0 hM5
      have hfl0 := allC_len (viewL xs)
      have hfs := findP_small hvl
      have hcl : (allC (viewL xs)).length = r0.n := by simpa using hr0.1
      have hcap0 := hr0.slice
      refine wl_q (r_move (.tuple (List.toArray _)) rfl) rfl rfl ?_
      refine wl_q (r_ext (.slice _ _ _) rfl rfl) rfl rfl ?_
      refine wl_q (r_ext (.int _ _) rfl rfl) rfl rfl ?_
      refine wl_q (r_assign (.slice _ _ _) rfl) rfl rfl ?_
      refine wl_q (r_assign (.int _ _) rfl) rfl rfl ?_
      refine wl_nil ?_
      refine thenN ?_
      refine W_seq ?_
      refine W_draw [(1, 0), (2, 0), (3, 0), (5, 0), (6, 0), (7, 0), (8, 0), (0, 2), (4, 2), (9, 2), (10, 2), (11, 0), (12, 0), (13, 0), (14, 0), (15, 0)] mixed rfl (by kernel_rfl) (fun w6 hb6 hh6 => ?_)
      have M6 := M5.drew hb6 hh6
      refine D_p rfl rfl rfl (fun _ => r_move (.slice _ _ _) rfl) ?_
      refine D_p rfl rfl rfl (fun _ => r_move (.int _ _) rfl) ?_
      refine D_p rfl rfl rfl (fun _ => r_slice (0) ((kk : Int)) sl22 rfl rfl ⟨_, rfl⟩ (by decide) (by omega) (by omega)) ?_
      refine D_p rfl rfl rfl (fun _ => r_move (.slice _ _ _) rfl) ?_
      refine D_p rfl rfl rfl (fun _ => r_move (.int _ _) rfl) ?_
      refine D_p rfl rfl rfl (fun _ => r_add rfl rfl (by omega) (by omega)) ?_
      refine D_re 50 (.int .i64 ((kk + 1 : Nat) : Int)) (iE (by omega)) ?_
      refine D_p rfl rfl rfl (fun _ => r_slice (((kk + 1 : Nat) : Int)) ((r.n : Int)) sl22 rfl ⟨_, rfl⟩ rfl (by omega) (by omega) (by omega)) ?_
      refine D_e [] rfl (by kernel_rfl) ?_
      refine wl_bslice [] [] rfl sl22 M6 rfl rfl rfl rfl (lens_of rfl) (by decide) (fun b7 w7 M7 => ?_)
      refine wl_nil (thenN ⟨alN, ?_⟩)
      refine D_e [] rfl (by kernel_rfl) ?_
      refine wl_appendR 2 ((((viewL xs).map bodyCells).drop 0).take (kk - 0)) sl22 M7 rfl rfl rfl rfl rfl (RowIs.empty b7) (Rd.sub (hr.rd M7 (nthMem (i := 0) rfl)) 0 kk (by omega) (by omega) hcap) (fun y hy => bodies_one _ y (List.mem_of_mem_drop (List.mem_of_mem_take hy))) (by omega) (fun A8 c8 e8 w8 M8 hR8 hA8 => ?_)
      refine wl_nil (thenN ⟨alN, ?_⟩)
      refine D_e [] rfl (by kernel_rfl) ?_
      refine wl_appendR 2 ((((viewL xs).map bodyCells).drop (kk + 1)).take (r.n - (kk + 1))) sl22 M8 rfl rfl rfl rfl rfl hR8 (Rd.sub (hr.rd M8 (nthMem (i := 0) rfl)) (kk + 1) r.n (by omega) (by omega) hcap) (fun y hy => bodies_one _ y (List.mem_of_mem_drop (List.mem_of_mem_take hy))) (by omega) (fun A9 c9 e9 w9 M9 hR9 hA9 => ?_)
      have hW := hR9
      rw [cut_rows bodyCells hrn hkl] at hW
      have hWl : ((viewL xs).eraseIdx kk).length ≤ 40 := Nat.le_trans (List.length_eraseIdx_le _ _) hvl
      refine wl_nil (thenN ⟨alN, ?_⟩)
      refine D_e [] rfl (by kernel_rfl) ?_
      refine wl_cal cal13 rfl rfl rfl ?_
      refine (contacts_All _ (F.mem M9) (N.mem M9) _ _ _ ((viewL xs).eraseIdx kk) (hW.rd M9 (nthMem (i := 2) rfl)) (fun b hb => hvo b ((List.eraseIdx_sublist _ _).subset hb)) (erase_sorted hvs kk) (by first | decide | omega)).mono ?_
      rintro _ w10 ⟨v10, rfl, ⟨r4, m4, rfl, hfm4, hgm4, hr4, hM10⟩⟩
      refine ⟨_, rfl, ?_⟩
      have M10 : Mem _ _ [_, _, _, _] _ := M9.call0 hM10
      refine wl_nil (thenN ⟨alN, ?_⟩)
      refine D_p rfl rfl rfl (fun _ => r_move (.tuple (List.toArray _)) rfl) ?_
      refine D_p rfl rfl rfl (fun _ => r_ext (.slice _ _ _) rfl rfl) ?_
      refine D_p rfl rfl rfl (fun _ => r_ext (.int _ _) rfl rfl) ?_
      refine D_p rfl rfl rfl (fun _ => r_assign (.slice _ _ _) rfl) ?_
      refine D_p rfl rfl rfl (fun _ => r_assign (.int _ _) rfl) ?_
      refine D_nil ?_
      refine thenN ?_
      refine W_seq ?_
      refine W_region ?_
      refine wl_q (r_move (.slice _ _ _) rfl) rfl rfl ?_
      refine wl_q (r_move (.slice _ _ _) rfl) rfl rfl ?_
      refine wl_q (r_move (.int _ _) rfl) rfl rfl ?_
      refine wl_q (r_idxR (kk) sl22 rfl rfl rfl ((hr.rd M10 (nthMem (i := 0) rfl)).below_len (mapGet bodyCells hy)) ((hr.rd M10 (nthMem (i := 0) rfl)).someK (mapGet bodyCells hy))) rfl rfl ?_
      refine wl_q (r_fieldAddrE 0 fld34_0 (hr.rd M10 (nthMem (i := 0) rfl)) (Nat.lt_of_le_of_lt (Nat.zero_le _) ((hr.rd M10 (nthMem (i := 0) rfl)).below_len (mapGet bodyCells hy))) rfl) rfl rfl ?_
      refine wl_q (r_ldE (o := 0) (.int _ _) one30 (hr.rd M10 (nthMem (i := 0) rfl)) (mapGet bodyCells hy) rfl rfl) rfl rfl ?_
      refine wl_cal cal14 rfl rfl rfl ?_
      refine (contacts_With _ y.key _ _ _ (allC (viewL xs)) (hr0.rd M10 (nthMem (i := 1) rfl)) (by first | decide | omega)).mono ?_
      rintro _ w11 ⟨v11, rfl, ⟨r6, rfl, hr6, hM11⟩⟩
      refine ⟨_, rfl, ?_⟩
      have M11 : Mem _ _ [_, _, _, _, _] _ := M10.call0 hM11
      have hwn : (withC y.key (allC (viewL xs))).length = r6.n := by simpa using hr6.1
      refine wl_q (r_assign (.slice _ _ _) rfl) rfl rfl ?_
      refine wl_nil ?_
      refine thenN ?_
      refine W_seq ?_
      refine W_region ?_
      refine wl_q (r_assign (.slice _ _ _) rfl) rfl rfl ?_
      have M12 := M11.dummy default
      refine wl_nil ?_
      refine thenN ?_
      refine W_seq ?_
      refine W_seq ?_
      refine W_region ?_
      refine wl_q (r_assign (.int _ _) rfl) rfl rfl ?_
      refine wl_nil ?_
      refine thenN ?_
      refine W_block ?_
      refine W_loop (σ := Nat × Row) [4, 5, 7, 8, 10, 12] (fun (j, q) => [(13, .slice q.A q.n q.c), (14, .int .i64 (j : Int))]) (fun (j, q) w' => (j ≤ r0.n ∧ RowIs 38 5 q.A q.n q.c ((restC y.key ((allC (viewL xs)).take j)).map conCells) q.e) ∧ Mem w [] [r.e, r0.e, e9, r4.e, r6.e, q.e] w') (fun (j, q) => r0.n - j) (0, nilRow) (agC rfl (agC rfl agN)) (⟨⟨by omega, RowIs.nil _ _ _⟩, M12⟩) ?_
      rintro ⟨j, q⟩ ρ13 w13 ⟨⟨hj, hq⟩, hM13⟩
      have hrp := restC_len y.key ((allC (viewL xs)).take j)
      have htl := List.length_take_le j (allC (viewL xs))
      have hql : (restC y.key ((allC (viewL xs)).take j)).length = q.n := by simpa using hq.1
      refine W_seq ?_
      refine W_seq ?_
      refine W_region ?_
      refine wl_q (r_move (.int _ _) rfl) rfl rfl ?_
      refine wl_q (r_move (.slice _ _ _) rfl) rfl rfl ?_
      refine wl_q (r_lenS Tryd.underlying26 rfl) rfl rfl ?_
      refine wl_q (r_bin (.bool (decide _)) rfl rfl rfl) rfl rfl ?_
      refine wl_nil ?_
      refine thenN ?_
      refine W_condD rfl (fun h66 => ?_) (fun h66 => ?_)
      · skip
        obtain ⟨z, hz⟩ := getSome (xs := (allC (viewL xs))) (k := j) hcl (by omega)
        refine W_skip ?_
        refine thenN ?_
        refine W_seq ?_
        refine W_block ?_
        refine W_seq ?_
        refine W_draw [(0, 0), (1, 0), (2, 1), (3, 1), (4, 1), (5, 1), (6, 0), (7, 0), (8, 1), (9, 1), (10, 1), (11, 0), (12, 0), (13, 0), (14, 0), (15, 1), (16, 1), (17, 1), (18, 1), (19, 0), (20, 0), (21, 1), (22, 1), (23, 1), (24, 0), (25, 0)] mixed rfl (by kernel_rfl) (fun w14 hb14 hh14 => ?_)
        have M14 := hM13.drew hb14 hh14
        refine D_p rfl rfl rfl (fun _ => r_move (.slice _ _ _) rfl) ?_
        refine D_p rfl rfl rfl (fun _ => r_move (.int _ _) rfl) ?_
        refine D_r rfl rfl rfl (r_idxR (j) sl26 rfl rfl rfl ((hr0.rd M14 (nthMem (i := 1) rfl)).below_len (mapGet conCells hz)) ((hr0.rd M14 (nthMem (i := 1) rfl)).someK (mapGet conCells hz))) ?_
        refine D_r rfl rfl rfl (r_fieldAddrE 0 fld38_0 (hr0.rd M14 (nthMem (i := 1) rfl)) (Nat.lt_of_le_of_lt (Nat.zero_le _) ((hr0.rd M14 (nthMem (i := 1) rfl)).below_len (mapGet conCells hz))) rfl) ?_
        refine D_r rfl rfl rfl (r_fieldAddrE 0 fld36_0 (hr0.rd M14 (nthMem (i := 1) rfl)) (Nat.lt_of_le_of_lt (Nat.zero_le _) ((hr0.rd M14 (nthMem (i := 1) rfl)).below_len (mapGet conCells hz))) rfl) ?_
        refine D_r rfl rfl rfl (r_ldE (o := 0) (.int _ _) one30 (hr0.rd M14 (nthMem (i := 1) rfl)) (mapGet conCells hz) rfl rfl) ?_
        refine D_p rfl rfl rfl (fun _ => r_move (.slice _ _ _) rfl) ?_
        refine D_p rfl rfl rfl (fun _ => r_move (.int _ _) rfl) ?_
        refine D_r rfl rfl rfl (r_idxR (kk) sl22 rfl rfl rfl ((hr.rd M14 (nthMem (i := 0) rfl)).below_len (mapGet bodyCells hy)) ((hr.rd M14 (nthMem (i := 0) rfl)).someK (mapGet bodyCells hy))) ?_
        refine D_r rfl rfl rfl (r_fieldAddrE 0 fld34_0 (hr.rd M14 (nthMem (i := 0) rfl)) (Nat.lt_of_le_of_lt (Nat.zero_le _) ((hr.rd M14 (nthMem (i := 0) rfl)).below_len (mapGet bodyCells hy))) rfl) ?_
        refine D_r rfl rfl rfl (r_ldE (o := 0) (.int _ _) one30 (hr.rd M14 (nthMem (i := 0) rfl)) (mapGet bodyCells hy) rfl rfl) ?_
        refine D_p rfl rfl rfl (fun _ => r_bin (.bool (decide _)) rfl rfl rfl) ?_
        refine D_p rfl rfl rfl (fun _ => r_move (.bool (decide _)) rfl) ?_
        refine D_splitD 81 rfl (fun g81 => ?_) (fun g81 => ?_)
        · skip
          refine D_p rfl rfl rfl (fun _ => r_move (.slice _ _ _) rfl) ?_
          refine D_p rfl rfl rfl (fun _ => r_move (.int _ _) rfl) ?_
          refine D_r rfl rfl rfl (r_idxR (j) sl26 rfl rfl rfl ((hr0.rd M14 (nthMem (i := 1) rfl)).below_len (mapGet conCells hz)) ((hr0.rd M14 (nthMem (i := 1) rfl)).someK (mapGet conCells hz))) ?_
          refine D_r rfl rfl rfl (r_fieldAddrE 0 fld38_0 (hr0.rd M14 (nthMem (i := 1) rfl)) (Nat.lt_of_le_of_lt (Nat.zero_le _) ((hr0.rd M14 (nthMem (i := 1) rfl)).below_len (mapGet conCells hz))) rfl) ?_
          refine D_r rfl rfl rfl (r_fieldAddrE 1 fld36_1 (hr0.rd M14 (nthMem (i := 1) rfl)) (Nat.lt_of_le_of_lt (Nat.zero_le _) ((hr0.rd M14 (nthMem (i := 1) rfl)).below_len (mapGet conCells hz))) rfl) ?_
          refine D_r rfl rfl rfl (r_ldE (o := 1) (.int _ _) one30 (hr0.rd M14 (nthMem (i := 1) rfl)) (mapGet conCells hz) rfl rfl) ?_
          refine D_p rfl rfl rfl (fun _ => r_move (.slice _ _ _) rfl) ?_
          refine D_p rfl rfl rfl (fun _ => r_move (.int _ _) rfl) ?_
          refine D_r rfl rfl rfl (r_idxR (kk) sl22 rfl rfl rfl ((hr.rd M14 (nthMem (i := 0) rfl)).below_len (mapGet bodyCells hy)) ((hr.rd M14 (nthMem (i := 0) rfl)).someK (mapGet bodyCells hy))) ?_
          refine D_r rfl rfl rfl (r_fieldAddrE 0 fld34_0 (hr.rd M14 (nthMem (i := 0) rfl)) (Nat.lt_of_le_of_lt (Nat.zero_le _) ((hr.rd M14 (nthMem (i := 0) rfl)).below_len (mapGet bodyCells hy))) rfl) ?_
          refine D_r rfl rfl rfl (r_ldE (o := 0) (.int _ _) one30 (hr.rd M14 (nthMem (i := 0) rfl)) (mapGet bodyCells hy) rfl rfl) ?_
          refine D_p rfl rfl rfl (fun _ => r_bin (.bool (decide _)) rfl rfl rfl) ?_
          refine D_p rfl rfl rfl (fun _ => r_pick true (.bool (decide _)) rfl rfl) ?_
          refine D_nil ?_
          refine thenN ?_
          refine W_condD rfl (fun h94 => ?_) (fun h94 => ?_)
          · skip
            refine W_region ?_
            refine wl_q (r_move (.slice _ _ _) rfl) rfl rfl ?_
            refine wl_q (r_move (.slice _ _ _) rfl) rfl rfl ?_
            refine wl_q (r_move (.int _ _) rfl) rfl rfl ?_
            refine wl_q (r_idxR (j) sl26 rfl rfl rfl ((hr0.rd M14 (nthMem (i := 1) rfl)).below_len (mapGet conCells hz)) ((hr0.rd M14 (nthMem (i := 1) rfl)).someK (mapGet conCells hz))) rfl rfl ?_
            refine wl_q (r_ldEA _ agg38 (hr0.rd M14 (nthMem (i := 1) rfl)) (mapGet conCells hz) rfl) rfl rfl ?_
            refine wl_bslice [.agg (List.toArray _)] [conCells z] rfl sl26 M14 rfl rfl rfl rfl (lens_of rfl) (by decide) (fun b15 w15 M15 => ?_)
            refine wl_append 5 [conCells z] sl26 M15 rfl rfl rfl rfl rfl hq rfl (by simp [conCells, Go.Bil.one]) (Cells.ofMem 6 M15 rfl) (by omega) (fun A16 c16 e16 w16 M16 hR16 => ?_)
            refine wl_q (r_assign (.slice _ _ _) rfl) rfl rfl ?_
            refine wl_nil ?_
            refine blkN ?_
            refine thenN ?_
            refine W_region ?_
            refine wl_q (r_move (.int _ _) rfl) rfl rfl ?_
            refine wl_q (r_add rfl rfl (by omega) (by omega)) rfl rfl ?_
            refine wl_q (r_assign (.int _ _) rfl) rfl rfl ?_
            refine wl_nil ?_
            refine roundN (j + 1, ⟨A16, q.n + 1, c16, e16⟩) (agC rfl (agC rfl agN)) (akC rfl (akC rfl (akC rfl (akC rfl (akC rfl (akC rfl akN)))))) ?_ ?_
            · exact ⟨⟨by omega, by rw [restC_yes hz g81 h94, List.map_append]; exact hR16⟩, M16.keep [true, true, true, true, true, true, false]⟩
            · (show r0.n - (j + 1) < r0.n - j; omega)
          · skip
            refine W_skip ?_
            refine blkN ?_
            refine thenN ?_
            refine W_region ?_
            refine wl_q (r_move (.int _ _) rfl) rfl rfl ?_
            refine wl_q (r_add rfl rfl (by omega) (by omega)) rfl rfl ?_
            refine wl_q (r_assign (.int _ _) rfl) rfl rfl ?_
            refine wl_nil ?_
            refine roundN (j + 1, q) (agC rfl (agC rfl agN)) (akC rfl (akC rfl (akC rfl (akC rfl (akC rfl (akC rfl akN)))))) ?_ ?_
            · exact ⟨⟨by omega, by rw [restC_no hz (fun h => h94 h.2)]; exact hq⟩, M14⟩
            · (show r0.n - (j + 1) < r0.n - j; omega)
        · skip
          refine D_s rfl rfl rfl ?_
          refine D_s rfl rfl rfl ?_
          refine D_s1 rfl rfl rfl ?_
          refine D_s1 rfl rfl rfl ?_
          refine D_s1 rfl rfl rfl ?_
          refine D_s1 rfl rfl rfl ?_
          refine D_s rfl rfl rfl ?_
          refine D_s rfl rfl rfl ?_
          refine D_s1 rfl rfl rfl ?_
          refine D_s1 rfl rfl rfl ?_
          refine D_s1 rfl rfl rfl ?_
          refine D_s rfl rfl rfl ?_
          refine D_p rfl rfl rfl (fun _ => r_pick false (.bool false) rfl rfl) ?_
          refine D_nil ?_
          refine thenN ?_
          refine W_condF rfl ?_
          refine W_skip ?_
          refine blkN ?_
          refine thenN ?_
          refine W_region ?_
          refine wl_q (r_move (.int _ _) rfl) rfl rfl ?_
          refine wl_q (r_add rfl rfl (by omega) (by omega)) rfl rfl ?_
          refine wl_q (r_assign (.int _ _) rfl) rfl rfl ?_
          refine wl_nil ?_
          refine roundN (j + 1, q) (agC rfl (agC rfl agN)) (akC rfl (akC rfl (akC rfl (akC rfl (akC rfl (akC rfl akN)))))) ?_ ?_
          · exact ⟨⟨by omega, by rw [restC_no hz (fun h => g81 h.1)]; exact hq⟩, M14⟩
          · (show r0.n - (j + 1) < r0.n - j; omega)
      · skip
        have hjn : j = r0.n := by omega
        rw [List.take_of_length_le (by omega)] at hq hql
        have hwr := with_rest y.key (allC (viewL xs))
        refine W_exit ?_
        refine thenX ?_
        refine roundX ?_
        refine blkH ?_
        refine thenN ?_
        refine W_seq ?_
        refine W_region ?_
        refine wl_q (r_move (.slice _ _ _) rfl) rfl rfl ?_
        refine wl_q (r_move (.slice _ _ _) rfl) rfl rfl ?_
        refine wl_cal cal15 rfl rfl rfl ?_
        refine (ref15_Same _ _ _ _ _ (hr4.rd hM13 (nthMem (i := 3) rfl)) _ _ _ _ (hq.rd hM13 (nthMem (i := 5) rfl))).mono ?_
        rintro _ w17 ⟨v17, rfl, ⟨rfl, hb17⟩⟩
        refine ⟨_, rfl, ?_⟩
        have M17 := hM13.callB hb17
        refine wl_re 104 (.bool true) (bT (allC_cut hvs hy)).symm ?_
        refine wl_q (r_move (.bool true) rfl) rfl rfl ?_
        refine wl_q (r_move (.slice _ _ _) rfl) rfl rfl ?_
        refine wl_q (r_lenS Tryd.underlying26 rfl) rfl rfl ?_
        refine wl_q (r_move (.slice _ _ _) rfl) rfl rfl ?_
        refine wl_q (r_lenS Tryd.underlying26 rfl) rfl rfl ?_
        refine wl_q (r_add rfl rfl (by omega) (by omega)) rfl rfl ?_
        refine wl_q (r_move (.slice _ _ _) rfl) rfl rfl ?_
        refine wl_q (r_lenS Tryd.underlying26 rfl) rfl rfl ?_
        refine wl_q (r_bin (.bool (decide _)) rfl rfl rfl) rfl rfl ?_
        refine wl_re 113 (.bool true) (bT (by omega)).symm ?_
        refine wl_q (r_pick true (.bool true) rfl rfl) rfl rfl ?_
        refine wl_q (r_move (.bool true) rfl) rfl rfl ?_
        refine wl_q (r_move (.slice _ _ _) rfl) rfl rfl ?_
        refine wl_q (r_move (.slice _ _ _) rfl) rfl rfl ?_
        refine wl_q (r_move (.int _ _) rfl) rfl rfl ?_
        refine wl_q (r_idxR (kk) sl22 rfl rfl rfl ((hr.rd M17 (nthMem (i := 0) rfl)).below_len (mapGet bodyCells hy)) ((hr.rd M17 (nthMem (i := 0) rfl)).someK (mapGet bodyCells hy))) rfl rfl ?_
        refine wl_q (r_fieldAddrE 0 fld34_0 (hr.rd M17 (nthMem (i := 0) rfl)) (Nat.lt_of_le_of_lt (Nat.zero_le _) ((hr.rd M17 (nthMem (i := 0) rfl)).below_len (mapGet bodyCells hy))) rfl) rfl rfl ?_
        refine wl_q (r_ldE (o := 0) (.int _ _) one30 (hr.rd M17 (nthMem (i := 0) rfl)) (mapGet bodyCells hy) rfl rfl) rfl rfl ?_
        refine wl_cal cal16 rfl rfl rfl ?_
        refine (ref11_Lonely _ y.key _ _ _ (viewL xs) (hr.rd M17 (nthMem (i := 0) rfl)) hvo).mono ?_
        rintro _ w18 ⟨v18, rfl, ⟨rfl, hb18⟩⟩
        refine ⟨_, rfl, ?_⟩
        have M18 := M17.callB hb18
        refine wl_q (r_notB _ rfl rfl) rfl rfl ?_
        refine wl_q (r_move (.bool _) rfl) rfl rfl ?_
        refine wl_split 124 _ rfl (fun g124 => ?_) (fun g124 => ?_)
        · skip
          refine wl_skip rfl rfl ?_
          refine wl_skip rfl rfl ?_
          refine wl_skip rfl rfl ?_
          refine wl_q (r_pick true (.bool true) rfl rfl) rfl rfl ?_
          refine wl_q (r_pick true (.bool true) rfl rfl) rfl rfl ?_
          refine wl_q (r_assign (.bool true) rfl) rfl rfl ?_
          refine wl_nil ?_
          refine thenN ?_
          refine W_ret ?_
          skip
          refine fin1 (.bool true) rfl ?_
          exact ⟨rfl, M18.below⟩
        · skip
          refine wl_q (r_move (.slice _ _ _) rfl) rfl rfl ?_
          refine wl_q (r_lenS Tryd.underlying26 rfl) rfl rfl ?_
          refine wl_q (r_bin (.bool (decide _)) rfl rfl rfl) rfl rfl ?_
          refine wl_re 127 (.bool true) (bT (by have h0 := with_lonely hV hy (by simpa using g124); rw [h0] at hwn; simp at hwn; omega)).symm ?_
          refine wl_q (r_pick false (.bool true) rfl rfl) rfl rfl ?_
          refine wl_q (r_pick true (.bool true) rfl rfl) rfl rfl ?_
          refine wl_q (r_assign (.bool true) rfl) rfl rfl ?_
          refine wl_nil ?_
          refine thenN ?_
          refine W_ret ?_
          skip
          refine fin1 (.bool true) rfl ?_
          exact ⟨rfl, M18.below⟩

end Go.Proofs.YtkegiinlfmlhlaaDoor

set_option linter.unusedVariables false
set_option linter.unusedSimpArgs false
set_option linter.unnecessarySimpa false
namespace Go.Proofs.YtkegiinlfmlhlaaDoor
open Go.Bil
open Go.RowKit (Below)
open Go.Proofs

namespace contactsLonely
open Go.ChangeShapes Go.WideShapes Go.ChangeAt Go.RowKit
open Go.ChangeMaps (open_string shut_string)
theorem own : ownKnob Tryd.prog.godebug = none := by kernel_rfl
theorem laidOut : laidOutB Tryd.prog = true := by kernel_rfl
set_option maxRecDepth 100000 in
theorem lifted (os : Os) (started : os.Started) (H : Type) (enc : TypeId × Value → H) :
    ReturnsInHanded {} Tryd.checked os 3 .any (fun w args => (Rows.contactsLonelySpec.pre enc Tryd.prog Tryd.f3 [] false w args ∧ laidMet Tryd.prog laidL w) ∧ sizedMet enc Tryd.prog Tryd.f3 (OpenSpec.ofChange Rows.contactsLonelySpec) false w args) (Rows.contactsLonelySpec.post enc Tryd.prog Tryd.f3 false true false false) := by
  refine returnsInHanded_of_change_and (C := Tryd.checked) (X := fun w _ => laidMet Tryd.prog laidL w) (fun _ _ _ hh h => h.of_heap hh) own started (by kernel_rfl) Tryd.func3
    (ChangeSpec.witness_at (enc := enc) (C := Tryd.checked) (os := os) (X := fun w _ => laidMet Tryd.prog laidL w) false (laidWorld os) #[.slice none 0 0, .int .u8 0] 8 rfl (by kernel_rfl) (by kernel_rfl) (by kernel_rfl) (by kernel_rfl) (by kernel_rfl) (laidMet_of_run' 8 (by kernel_rfl) (by kernel_rfl))) ?_
  intro W base args ds gs before hval0 hW hcnd hsz0 hL _
  have hsz : (DataW.weightsEach Tryd.prog (Tryd.f3.params.toList ++ Rows.contactsLonelySpec.plain.varTypes Tryd.prog) (ds ++ gs)).all (· ≤ reachBytes) = true := hsz0
  have hval : ∀ (j : Nat) t v, Tryd.f3.params[j]? = some t → args[j]? = some v → Value.okWide Tryd.prog W .any base t v := hval0
  have hW' := hW
  obtain ⟨p, q, hA0, hV, rfl, hfz, hnd⟩ := hW
  have hA : DataW.TrodAll enc Tryd.prog W 0 (fun _ => true) true Tryd.f3.params.toList args.toList ds p := hA0
  rw [Tryd.params3] at hA hval hsz
  obtain ⟨v0, vs0, d0, ds0, p0, q0, hargs, rfl, rfl, h0, r0⟩ := trodAll_cons hA
  obtain ⟨v1, vs1, d1, ds1, p1, q1, rfl, rfl, rfl, h1, r1⟩ := trodAll_cons r0
  obtain ⟨rfl, rfl, rfl⟩ := trodAll_nil r1
  obtain rfl : args = #[v0, v1] := by cases args; simp_all
  obtain ⟨rfl, rfl⟩ := trodVars_none hV
  have k0 := h0
  have lt0 : ∀ x ∈ p0, x.block < W.heap.size := by obtain ⟨m, hm⟩ := k0; exact DataW.trod_lt m _ _ _ hm
  obtain ⟨a0, len0, cap0, rfl⟩ := okWide_slice Tryd.underlying22 (hval 0 22 v0 rfl rfl)
  have y0 := sized_rows hsz (j := 0) (t := 22) rfl rfl sl22 h0
  obtain ⟨ls0, R0, hi0⟩ := open_rows sl22 leaves34 rfl y0 h0
  obtain ⟨xs0, rfl, hx0⟩ := list_of bodyOf ls0 hi0
  obtain ⟨a1, rfl, rfl, rfl, w1⟩ := open_int Tryd.underlying5 (hval 1 5 v1 rfl rfl) h1
  have b1 : 0 ≤ a1 ∧ a1 ≤ 255 := wf_int w1
  clear hA0 hval0 hsz0 hsz
  obtain ⟨t1, rfl⟩ := Int.eq_ofNat_of_zero_le b1.1
  refine (law_ContactsLonely W (rdF hL) (rdN hL) t1 (by omega) _ _ _ xs0 R0).mono fun e W' ⟨v, he, hv, bel⟩ => ?_
  subst he
  subst hv
  exact ⟨_, rfl, _, _, _, [], _, [], hW', trodAll_mk1 (shut_bool Tryd.underlying4 _), (trodAll_cons_mk (Below.trod laidOut (by kernel_rfl) (of_decide_eq_true (by kernel_rfl)) k0 bel lt0) (trodAll_cons_mk (shut_int Tryd.underlying5 w1) trodAll_mk0)), rfl, bel.frame _, fun h => by cases h⟩
theorem over : Rows.contactsLonelyRow.holds Tryd.pinned (OpenSpec.ofChange Rows.contactsLonelySpec) :=
  OpenClaim.holds_of_wide 3 Tryd.f3 rfl rfl rfl rfl rfl rfl rfl ⟨rfl, rfl, rfl, rfl, rfl⟩ rfl rfl rfl rfl rfl (by kernel_rfl) Tryd.func3 (by kernel_rfl)
    (of_decide_eq_true (by kernel_rfl)) (by unfold Func.isWrapper; first | (rw [if_pos (by decide +kernel)]; kernel_rfl) | (rw [if_neg (by decide +kernel)]; exact ⟨rfl, rfl⟩))
    (fun os started H enc _ => lifted os started H enc)
end contactsLonely
theorem contactsLonely_holds : Rows.ContactsLonelySaid := contactsLonely.over
#print axioms contactsLonely_holds
theorem contactsLonely_card : Rows.ContactsLonelyCardSaid :=
  Claim7.holds_tied_plain_at .later [] [.data, .data] true (true, "d1d3c31060a6ca8baa398e157254570693e950adb22e4c3c0db7b24060cd2884") false
    contactsLonely_holds (fun _ h => by cases h) (by kernel_rfl) (fun _ h => by cases h) contactsLonely_row_tie rfl ⟨rfl, rfl⟩ (by kernel_rfl) rfl
    (fun f fn hf hfn => by
      obtain rfl : f = 3 := Option.some.inj ((show Tryd.prog.funcNamed "billiard/billiardlaw15.ContactsLonely" = some 3 by kernel_rfl).symm.trans hf) |>.symm
      obtain rfl : fn = Tryd.f3 := (Option.some.inj (Tryd.func3.symm.trans hfn)).symm
      exact ⟨by kernel_rfl, fun j t ht => by
        rw [Tryd.params3] at ht
        have hm : t ∈ [22, 5] := by simpa using Array.mem_of_getElem? ht
        have hall : ([22, 5].all fun u => !Tryd.prog.wantsStandIn u) = true := by kernel_rfl
        exact (show Tryd.prog.wantsStandIn t = false by simpa using List.all_eq_true.1 hall t hm)⟩)
    (by kernel_rfl)
#print axioms contactsLonely_card

end Go.Proofs.YtkegiinlfmlhlaaDoor
