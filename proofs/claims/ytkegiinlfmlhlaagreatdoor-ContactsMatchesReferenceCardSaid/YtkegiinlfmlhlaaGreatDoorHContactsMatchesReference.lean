/- The law ContactsMatchesReference returns true for every input, and what it reads stays as it was. No conditions. -/
import Derived.Test.YtkegiinlfmlhlaaGreatDoorK5
import Derived.Test.YtkegiinlfmlhlaaGreatDoorK25
import Derived.Test.YtkegiinlfmlhlaaGreatDoorK3
import Derived.Test.YtkegiinlfmlhlaaGreatDoorRows
import Derived.Test.YtkegiinlfmlhlaaGreatDoorK26
import Derived.Test.YtkegiinlfmlhlaaGreatDoorTie
import Derived.Test.YtkegiinlfmlhlaaGreatDoorCards
import Derived.WalkKit
import Derived.ProofKit
import Derived.OpenShut
import Derived.ShutString
import Derived.ChangeOld
import Derived.Below
import Derived.SizedLaws
/- Walks of Go functions over the frame of this claim: what each computes, for every input of the stated types (LContactsMatchesReference). -/
set_option linter.unusedVariables false
set_option linter.unusedSimpArgs false
set_option linter.unnecessarySimpa false
namespace Go.Proofs.YtkegiinlfmlhlaaGreatDoor
open Go.Bil
open Go.RowKit (Below)
open Go.Proofs

set_option maxHeartbeats 16000000 in
theorem law_ContactsMatchesReference (w : World) (F : Rd w 2 (some ⟨0, 0, none⟩) 1 [[.int .u32 73856093, .int .u32 19349663]]) (N : Rd w 4 (some ⟨1, 0, none⟩) 1 [bxCells noneB]) (A : Option Addr) (n c : Nat) (xs : List Body) (R : Rd w 10 A n (xs.map bodyCells)) (B : Option Addr) (m c' : Nat) (ys : List Con) (R' : Rd w 5 B m (ys.map conCells)) (hcap : m ≤ c') (key : Int) :
    Calls Tryz.prog 3 #[.slice A n c, .slice B m c', .int .u32 key] w (fun ex w' => ∃ v, ex = .returned v ∧ (fun v w' => v = .bool true ∧ Below w.heap.size w w') v w') := by
  have hlen : xs.length = n := by simpa using R.len
  have hbd := R.bound
  have hlen' : ys.length = m := by simpa using R'.len
  refine calls_of_W #[.tmp 6] 99 Tryz.func3 rfl Tryz.results3 Tryz.ntmps3 rfl ?_
  have M0 := Mem.refl w
  refine W_seq ?_
  refine W_region ?_
  refine wl_q (r_assign (.bool false) rfl) rfl rfl ?_
  refine wl_nil ?_
  refine thenN ?_
  refine W_seq ?_
  refine W_region ?_
  refine wl_q (r_move (.slice _ _ _) rfl) rfl rfl ?_
  refine wl_cal cal5 rfl rfl rfl ?_
  refine (ref11_View _ _ _ _ xs (R.mem M0)).mono ?_
  rintro _ w1 ⟨v1, rfl, ⟨r, rfl, hr, hM1⟩⟩
  refine ⟨_, rfl, ?_⟩
  have M1 : Mem _ _ [_] _ := M0.call0 hM1
  refine wl_q (r_move (.tuple (List.toArray _)) rfl) rfl rfl ?_
  refine wl_q (r_ext (.slice _ _ _) rfl rfl) rfl rfl ?_
  refine wl_q (r_ext (.bool (decide _)) rfl rfl) rfl rfl ?_
  refine wl_q (r_assign (.slice _ _ _) rfl) rfl rfl ?_
  refine wl_q (r_assign (.bool (decide _)) rfl) rfl rfl ?_
  refine wl_nil ?_
  refine thenN ?_
  refine W_seq ?_
  refine W_seq ?_
  refine W_region ?_
  refine wl_cal cal6 rfl rfl rfl ?_
  refine (aw15 _ (F.mem M1) (N.mem M1)).mono ?_
  rintro _ w2 ⟨v2, rfl, ⟨rfl, hb2⟩⟩
  refine ⟨_, rfl, ?_⟩
  have M2 := M1.callB hb2
  refine wl_q (r_notB false rfl rfl) rfl rfl ?_
  refine wl_q (r_move (.bool false) rfl) rfl rfl ?_
  refine wl_q (r_move (.bool (decide _)) rfl) rfl rfl ?_
  refine wl_q (r_not rfl) rfl rfl ?_
  refine wl_q (r_pick false (.bool (decide _)) rfl rfl) rfl rfl ?_
  refine wl_q (r_move (.bool (decide _)) rfl) rfl rfl ?_
  refine wl_splitD 26 rfl (fun g26 => ?_) (fun g26 => ?_)
  · skip
    refine wl_skip rfl rfl ?_
    refine wl_skip rfl rfl ?_
    refine wl_skip rfl rfl ?_
    refine wl_q (r_pick true (.bool true) rfl rfl) rfl rfl ?_
    refine wl_nil ?_
    refine thenN ?_
    refine W_condT rfl ?_
    refine W_seq ?_
    refine W_region ?_
    refine wl_cal cal6 rfl rfl rfl ?_
    refine (aw15 _ (F.mem M2) (N.mem M2)).mono ?_
    rintro _ w3 ⟨v3, rfl, ⟨rfl, hb3⟩⟩
    refine ⟨_, rfl, ?_⟩
    have M3 := M2.callB hb3
    refine wl_q (r_assign (.bool true) rfl) rfl rfl ?_
    refine wl_nil ?_
    refine thenN ?_
    refine W_ret ?_
    refine thenR ?_
    skip
    refine fin1 (.bool true) rfl ?_
    exact ⟨rfl, M3.below⟩
  · skip
    refine wl_q (r_move (.slice _ _ _) rfl) rfl rfl ?_
    refine wl_q (r_lenS Tryz.underlying23 rfl) rfl rfl ?_
    refine wl_q (r_bin (.bool (decide _)) rfl rfl rfl) rfl rfl ?_
    refine wl_q (r_pick false (.bool (decide _)) rfl rfl) rfl rfl ?_
    refine wl_nil ?_
    refine thenN ?_
    refine W_condD rfl (fun h30 => ?_) (fun h30 => ?_)
    · skip
      refine W_seq ?_
      refine W_region ?_
      refine wl_cal cal6 rfl rfl rfl ?_
      refine (aw15 _ (F.mem M2) (N.mem M2)).mono ?_
      rintro _ w4 ⟨v4, rfl, ⟨rfl, hb4⟩⟩
      refine ⟨_, rfl, ?_⟩
      have M4 := M2.callB hb4
      refine wl_q (r_assign (.bool true) rfl) rfl rfl ?_
      refine wl_nil ?_
      refine thenN ?_
      refine W_ret ?_
      refine thenR ?_
      skip
      refine fin1 (.bool true) rfl ?_
      exact ⟨rfl, M4.below⟩
    · skip
      obtain ⟨hV, hve, hvk⟩ := view_of (Decidable.not_not.1 g26)
      have hvl := hV.len
      have hrn : (viewL xs).length = r.n := by simpa using hr.1
      have hvs := hV.s
      have hvo := hV.okb
      refine W_skip ?_
      refine thenN ?_
      refine W_seq ?_
      refine W_region ?_
      refine wl_q (r_move (.slice _ _ _) rfl) rfl rfl ?_
      refine wl_cal cal7 rfl rfl rfl ?_
      refine (contacts_All _ (F.mem M2) (N.mem M2) _ _ _ (viewL xs) (hr.rd M2 (nthMem (i := 0) rfl)) hvo hvs (by first | decide | omega)).mono ?_
      rintro _ w5 ⟨v5, rfl, ⟨r0, m0, rfl, hfm0, hgm0, hr0, hM5⟩⟩
      refine ⟨_, rfl, ?_⟩
      have M5 : Mem _ _ [_, _] _ := M2.call0 hM5
      have hfl0 := allC_len (viewL xs)
      have hfs := findP_small hvl
      have hcl : (allC (viewL xs)).length = r0.n := by simpa using hr0.1
      have hcap0 := hr0.slice
      refine wl_q (r_move (.tuple (List.toArray _)) rfl) rfl rfl ?_
      refine wl_q (r_ext (.slice _ _ _) rfl rfl) rfl rfl ?_
      refine wl_q (r_ext (.int _ _) rfl rfl) rfl rfl ?_
      refine wl_q (r_assign (.slice _ _ _) rfl) rfl rfl ?_
      refine wl_q (r_assign (.int _ _) rfl) rfl rfl ?_
      refine wl_nil ?_
      refine thenN ?_
      refine W_seq ?_
      refine W_region ?_
      refine wl_q (r_move (.slice _ _ _) rfl) rfl rfl ?_
      refine wl_cal cal8 rfl rfl rfl ?_
      refine (contacts_Deepest _ _ _ _ ys (R'.mem M5) (by omega) hcap).mono ?_
      rintro _ w6 ⟨v6, rfl, ⟨rfl, hb6⟩⟩
      refine ⟨_, rfl, ?_⟩
      have M6 := M5.callB hb6
      obtain ⟨dd, hdd⟩ : ∃ d, (deepC ys).getD zCon = d := ⟨_, rfl⟩
      refine wl_q (r_move (.tuple (List.toArray _)) rfl) rfl rfl ?_
      refine wl_q (r_ext (.agg (List.toArray _)) rfl rfl) rfl rfl ?_
      refine wl_re 40 (.agg (conCells dd).toArray) (congrArg (fun x => Value.agg (conCells x).toArray) hdd) ?_
      refine wl_q (r_ext (.bool (decide _)) rfl rfl) rfl rfl ?_
      refine wl_alloc zero35 M6 rfl rfl (fun b7 w7 M7 => ?_)
      refine wl_stW 2 _ agg35 M7 rfl rfl rfl rfl rfl (ones_of rfl) rfl (fun w8 M8 => ?_)
      refine wl_q (r_assign (.bool (decide _)) rfl) rfl rfl ?_
      refine wl_nil ?_
      refine thenN ?_
      refine W_seq ?_
      refine W_seq ?_
      refine W_region ?_
      refine wl_q (r_move (.bool (decide _)) rfl) rfl rfl ?_
      refine wl_q (r_move (.slice _ _ _) rfl) rfl rfl ?_
      refine wl_q (r_lenS Tryz.underlying23 rfl) rfl rfl ?_
      refine wl_q (r_bin (.bool (decide _)) rfl rfl rfl) rfl rfl ?_
      have hne := ne_len hlen'
      refine wl_q (r_binB _ Tryz.underlying4 rfl rfl rfl) rfl rfl ?_
      refine wl_re 46 (.bool false) (bv rfl (by first | simp [hne] | (have := decide_eq_decide.2 hne; simp_all))) ?_
      refine wl_q (r_move (.bool false) rfl) rfl rfl ?_
      refine wl_q (r_move (.bool (decide _)) rfl) rfl rfl ?_
      refine wl_q (r_not rfl) rfl rfl ?_
      refine wl_q (r_move (.bool (decide _)) rfl) rfl rfl ?_
      refine wl_splitD 50 rfl (fun g50 => ?_) (fun g50 => ?_)
      · skip
        refine wl_q (r_ldW 2 agg35 M8 rfl rfl rfl) rfl rfl ?_
        refine wl_q (r_build [] _ struct35 rfl rfl) rfl rfl ?_
        refine wl_q (r_neA (eqCon dd zCon) rfl rfl) rfl rfl ?_
        refine wl_re 53 (.bool false) (bF (fun h => h (by rw [← hdd, Decidable.not_not.1 g50]; rfl))).symm ?_
        refine wl_q (r_pick true (.bool false) rfl rfl) rfl rfl ?_
        refine wl_q (r_pick false (.bool false) rfl rfl) rfl rfl ?_
        refine wl_nil ?_
        refine thenN ?_
        refine W_condF rfl ?_
        refine W_skip ?_
        refine thenN ?_
        refine W_seq ?_
        refine W_region ?_
        refine wl_q (r_assign (.int _ _) rfl) rfl rfl ?_
        refine wl_nil ?_
        refine thenN ?_
        refine W_seq ?_
        refine W_seq ?_
        refine W_region ?_
        refine wl_q (r_assign (.int _ _) rfl) rfl rfl ?_
        refine wl_nil ?_
        refine thenN ?_
        refine W_block ?_
        refine W_loop (σ := Nat × Nat) [1, 2, 6, 7, 9, 11, 12] (fun (i, j) => [(13, .int .i64 (j : Int)), (14, .int .i64 (i : Int))]) (fun (i, j) w' => (i ≤ m ∧ BestC ys i j) ∧ Mem w [] [r.e, r0.e, (some b7, bc (conCells dd) 35)] w') (fun (i, j) => m - i) (0, 0) (agC rfl (agC rfl agN)) (⟨⟨by omega, bestC_init ys⟩, M8⟩) ?_
        rintro ⟨i, j⟩ ρ9 w9 ⟨⟨hi, hbe⟩, hM9⟩
        refine W_seq ?_
        refine W_seq ?_
        refine W_region ?_
        refine wl_q (r_move (.int _ _) rfl) rfl rfl ?_
        refine wl_q (r_move (.slice _ _ _) rfl) rfl rfl ?_
        refine wl_q (r_lenS Tryz.underlying23 rfl) rfl rfl ?_
        refine wl_q (r_bin (.bool (decide _)) rfl rfl rfl) rfl rfl ?_
        refine wl_nil ?_
        refine thenN ?_
        refine W_condD rfl (fun h59 => ?_) (fun h59 => ?_)
        · skip
          obtain ⟨xc, hxc⟩ := getSome (xs := ys) (k := i) hlen' (by omega)
          obtain ⟨xj, hxj⟩ := getSome (xs := ys) (k := j) hlen' (hbe.ltm hlen' (by omega))
          refine W_skip ?_
          refine thenN ?_
          refine W_seq ?_
          refine W_block ?_
          refine W_seq ?_
          refine W_draw [(0, 0), (1, 0), (2, 1), (3, 1), (4, 1), (5, 0), (6, 0), (7, 1), (8, 1), (9, 1), (10, 0)] mixed rfl (by kernel_rfl) (fun w10 hb10 hh10 => ?_)
          have M10 := hM9.drew hb10 hh10
          refine D_p rfl rfl rfl (fun _ => r_move (.slice _ _ _) rfl) ?_
          refine D_p rfl rfl rfl (fun _ => r_move (.int _ _) rfl) ?_
          refine D_r rfl rfl rfl (r_idxR (i) sl23 rfl rfl rfl ((R'.mem M10).below_len (mapGet conCells hxc)) ((R'.mem M10).someK (mapGet conCells hxc))) ?_
          refine D_r rfl rfl rfl (r_fieldAddrE 4 fld35_2 (R'.mem M10) (Nat.lt_of_le_of_lt (Nat.zero_le _) ((R'.mem M10).below_len (mapGet conCells hxc))) rfl) ?_
          refine D_r rfl rfl rfl (r_ldE (o := 4) (.int _ _) one21 (R'.mem M10) (mapGet conCells hxc) rfl rfl) ?_
          refine D_p rfl rfl rfl (fun _ => r_move (.slice _ _ _) rfl) ?_
          refine D_p rfl rfl rfl (fun _ => r_move (.int _ _) rfl) ?_
          refine D_r rfl rfl rfl (r_idxR (j) sl23 rfl rfl rfl ((R'.mem M10).below_len (mapGet conCells hxj)) ((R'.mem M10).someK (mapGet conCells hxj))) ?_
          refine D_r rfl rfl rfl (r_fieldAddrE 4 fld35_2 (R'.mem M10) (Nat.lt_of_le_of_lt (Nat.zero_le _) ((R'.mem M10).below_len (mapGet conCells hxj))) rfl) ?_
          refine D_r rfl rfl rfl (r_ldE (o := 4) (.int _ _) one21 (R'.mem M10) (mapGet conCells hxj) rfl rfl) ?_
          refine D_p rfl rfl rfl (fun _ => r_bin (.bool (decide _)) rfl rfl rfl) ?_
          refine D_nil ?_
          refine thenN ?_
          refine W_condD rfl (fun h72 => ?_) (fun h72 => ?_)
          · skip
            refine W_region ?_
            refine wl_q (r_move (.int _ _) rfl) rfl rfl ?_
            refine wl_q (r_assign (.int _ _) rfl) rfl rfl ?_
            refine wl_nil ?_
            refine blkN ?_
            refine thenN ?_
            refine W_region ?_
            refine wl_q (r_move (.int _ _) rfl) rfl rfl ?_
            refine wl_q (r_add rfl rfl (by omega) (by omega)) rfl rfl ?_
            refine wl_q (r_assign (.int _ _) rfl) rfl rfl ?_
            refine wl_nil ?_
            refine roundN (i + 1, i) (agC rfl (agC rfl agN)) (akC rfl (akC rfl (akC rfl (akC rfl (akC rfl (akC rfl (akC rfl akN))))))) ?_ ?_
            · exact ⟨⟨by omega, hbe.new hxc hxj h72⟩, M10⟩
            · (show m - (i + 1) < m - i; omega)
          · skip
            refine W_skip ?_
            refine blkN ?_
            refine thenN ?_
            refine W_region ?_
            refine wl_q (r_move (.int _ _) rfl) rfl rfl ?_
            refine wl_q (r_add rfl rfl (by omega) (by omega)) rfl rfl ?_
            refine wl_q (r_assign (.int _ _) rfl) rfl rfl ?_
            refine wl_nil ?_
            refine roundN (i + 1, j) (agC rfl (agC rfl agN)) (akC rfl (akC rfl (akC rfl (akC rfl (akC rfl (akC rfl (akC rfl akN))))))) ?_ ?_
            · exact ⟨⟨by omega, hbe.old hxc hxj h72⟩, M10⟩
            · (show m - (i + 1) < m - i; omega)
        · skip
          have hin : i = m := by omega
          rw [hin] at hbe
          refine W_exit ?_
          refine thenX ?_
          refine roundX ?_
          refine blkH ?_
          refine thenN ?_
          refine W_seq ?_
          refine W_draw [(0, 0), (1, 0), (2, 2), (3, 2), (4, 0), (5, 0), (6, 0), (8, 0), (9, 0), (7, 2), (10, 2), (11, 2), (12, 0), (13, 0), (14, 0), (15, 0), (16, 0), (17, 1), (18, 0), (19, 0), (20, 1), (21, 1), (22, 0), (23, 0), (24, 0), (25, 0)] mixed rfl (by kernel_rfl) (fun w11 hb11 hh11 => ?_)
          have M11 := hM9.drew hb11 hh11
          refine D_p rfl rfl rfl (fun _ => r_move (.slice _ _ _) rfl) ?_
          refine D_p rfl rfl rfl (fun _ => r_move (.slice _ _ _) rfl) ?_
          refine D_e [] rfl (by kernel_rfl) ?_
          refine wl_cal cal10 rfl rfl rfl ?_
          refine (ref15_All _ _ _ _ (viewL xs) (hr.rd M11 (nthMem (i := 0) rfl)) hvo hvs (by first | decide | omega)).mono ?_
          rintro _ w12 ⟨v12, rfl, ⟨r4, rfl, hr4, hM12⟩⟩
          refine ⟨_, rfl, ?_⟩
          have M12 : Mem _ _ [_, _, _, _] _ := M11.call0 hM12
          refine wl_nil (thenN ⟨alN, ?_⟩)
          refine D_e [] rfl (by kernel_rfl) ?_
          refine wl_cal cal9 rfl rfl rfl ?_
          refine (ref15_Same _ _ _ _ _ (hr0.rd M12 (nthMem (i := 1) rfl)) _ _ _ _ (hr4.rd M12 (nthMem (i := 3) rfl))).mono ?_
          rintro _ w13 ⟨v13, rfl, ⟨rfl, hb13⟩⟩
          refine ⟨_, rfl, ?_⟩
          have M13 := M12.callB hb13
          refine wl_nil (thenN ⟨alN, ?_⟩)
          refine D_re 77 (.bool true) (bT rfl).symm ?_
          refine D_p rfl rfl rfl (fun _ => r_move (.bool true) rfl) ?_
          refine D_p rfl rfl rfl (fun _ => r_move (.slice _ _ _) rfl) ?_
          refine D_p rfl rfl rfl (fun _ => r_move (.int _ _) rfl) ?_
          refine D_p rfl rfl rfl (fun _ => r_move (.slice _ _ _) rfl) ?_
          refine D_p rfl rfl rfl (fun _ => r_move (.int _ _) rfl) ?_
          refine D_e [] rfl (by kernel_rfl) ?_
          refine wl_cal cal11 rfl rfl rfl ?_
          refine (contacts_With _ key _ _ _ ys (R'.mem M13) (by first | decide | omega)).mono ?_
          rintro _ w14 ⟨v14, rfl, ⟨r5, rfl, hr5, hM14⟩⟩
          refine ⟨_, rfl, ?_⟩
          have M14 : Mem _ _ [_, _, _, _, _] _ := M13.call0 hM14
          refine wl_nil (thenN ⟨alN, ?_⟩)
          refine D_e [] rfl (by kernel_rfl) ?_
          refine wl_cal cal12 rfl rfl rfl ?_
          refine (ref15_With _ key _ _ _ ys (R'.mem M14) (by first | decide | omega)).mono ?_
          rintro _ w15 ⟨v15, rfl, ⟨r6, rfl, hr6, hM15⟩⟩
          refine ⟨_, rfl, ?_⟩
          have M15 : Mem _ _ [_, _, _, _, _, _] _ := M14.call0 hM15
          refine wl_nil (thenN ⟨alN, ?_⟩)
          refine D_e [] rfl (by kernel_rfl) ?_
          refine wl_cal cal9 rfl rfl rfl ?_
          refine (ref15_Same _ _ _ _ _ (hr5.rd M15 (nthMem (i := 4) rfl)) _ _ _ _ (hr6.rd M15 (nthMem (i := 5) rfl))).mono ?_
          rintro _ w16 ⟨v16, rfl, ⟨rfl, hb16⟩⟩
          refine ⟨_, rfl, ?_⟩
          have M16 := M15.callB hb16
          refine wl_nil (thenN ⟨alN, ?_⟩)
          refine D_re 85 (.bool true) (bT rfl).symm ?_
          refine D_p rfl rfl rfl (fun _ => r_pick true (.bool true) rfl rfl) ?_
          refine D_p rfl rfl rfl (fun _ => r_move (.bool true) rfl) ?_
          refine D_p rfl rfl rfl (fun _ => r_move (.bool (decide _)) rfl) ?_
          refine D_p rfl rfl rfl (fun _ => r_not rfl) ?_
          refine D_p rfl rfl rfl (fun _ => r_move (.bool (decide _)) rfl) ?_
          refine D_splitD 90 rfl (fun g90 => ?_) (fun g90 => ?_)
          · skip
            refine D_s1 rfl rfl rfl ?_
            refine D_s rfl rfl rfl ?_
            refine D_s rfl rfl rfl ?_
            refine D_s1 rfl rfl rfl ?_
            refine D_s1 rfl rfl rfl ?_
            refine D_s rfl rfl rfl ?_
            refine D_p rfl rfl rfl (fun _ => r_pick true (.bool true) rfl rfl) ?_
            refine D_p rfl rfl rfl (fun _ => r_pick true (.bool true) rfl rfl) ?_
            refine D_p rfl rfl rfl (fun _ => r_assign (.bool true) rfl) ?_
            refine D_nil ?_
            refine thenN ?_
            refine W_ret ?_
            skip
            refine fin1 (.bool true) rfl ?_
            exact ⟨rfl, M16.below⟩
          · skip
            refine D_r rfl rfl rfl (r_ldW 2 agg35 M16 rfl rfl rfl) ?_
            obtain ⟨xj, hxj, hxd⟩ := hbe.done (Decidable.not_not.1 g90) hlen' hdd
            refine D_p rfl rfl rfl (fun _ => r_move (.slice _ _ _) rfl) ?_
            refine D_p rfl rfl rfl (fun _ => r_move (.int _ _) rfl) ?_
            refine D_r rfl rfl rfl (r_idxR (j) sl23 rfl rfl rfl ((R'.mem M16).below_len (mapGet conCells hxj)) ((R'.mem M16).someK (mapGet conCells hxj))) ?_
            refine D_r rfl rfl rfl (r_ldEA _ agg35 (R'.mem M16) (mapGet conCells hxj) rfl) ?_
            refine D_p rfl rfl rfl (fun _ => r_eqA (eqCon dd xj) rfl rfl) ?_
            refine D_re 96 (.bool true) (bT hxd).symm ?_
            refine D_p rfl rfl rfl (fun _ => r_pick false (.bool true) rfl rfl) ?_
            refine D_p rfl rfl rfl (fun _ => r_pick true (.bool true) rfl rfl) ?_
            refine D_p rfl rfl rfl (fun _ => r_assign (.bool true) rfl) ?_
            refine D_nil ?_
            refine thenN ?_
            refine W_ret ?_
            skip
            refine fin1 (.bool true) rfl ?_
            exact ⟨rfl, M16.below⟩
      · skip
        refine wl_skip rfl rfl ?_
        refine wl_skip rfl rfl ?_
        refine wl_skip rfl rfl ?_
        refine wl_q (r_pick false (.bool false) rfl rfl) rfl rfl ?_
        refine wl_q (r_pick false (.bool false) rfl rfl) rfl rfl ?_
        refine wl_nil ?_
        refine thenN ?_
        refine W_condF rfl ?_
        refine W_skip ?_
        refine thenN ?_
        refine W_seq ?_
        refine W_region ?_
        refine wl_q (r_assign (.int _ _) rfl) rfl rfl ?_
        refine wl_nil ?_
        refine thenN ?_
        refine W_seq ?_
        refine W_seq ?_
        refine W_region ?_
        refine wl_q (r_assign (.int _ _) rfl) rfl rfl ?_
        refine wl_nil ?_
        refine thenN ?_
        refine W_block ?_
        refine W_loop (σ := Nat × Nat) [1, 2, 6, 7, 9, 11, 12] (fun (i, j) => [(13, .int .i64 (j : Int)), (14, .int .i64 (i : Int))]) (fun (i, j) w' => (i ≤ m ∧ BestC ys i j) ∧ Mem w [] [r.e, r0.e, (some b7, bc (conCells dd) 35)] w') (fun (i, j) => m - i) (0, 0) (agC rfl (agC rfl agN)) (⟨⟨by omega, bestC_init ys⟩, M8⟩) ?_
        rintro ⟨i, j⟩ ρ17 w17 ⟨⟨hi, hbe⟩, hM17⟩
        refine W_seq ?_
        refine W_seq ?_
        refine W_region ?_
        refine wl_q (r_move (.int _ _) rfl) rfl rfl ?_
        refine wl_q (r_move (.slice _ _ _) rfl) rfl rfl ?_
        refine wl_q (r_lenS Tryz.underlying23 rfl) rfl rfl ?_
        refine wl_q (r_bin (.bool (decide _)) rfl rfl rfl) rfl rfl ?_
        refine wl_nil ?_
        refine thenN ?_
        refine W_condD rfl (fun h59 => ?_) (fun h59 => ?_)
        · skip
          obtain ⟨xc, hxc⟩ := getSome (xs := ys) (k := i) hlen' (by omega)
          obtain ⟨xj, hxj⟩ := getSome (xs := ys) (k := j) hlen' (hbe.ltm hlen' (by omega))
          refine W_skip ?_
          refine thenN ?_
          refine W_seq ?_
          refine W_block ?_
          refine W_seq ?_
          refine W_draw [(0, 0), (1, 0), (2, 1), (3, 1), (4, 1), (5, 0), (6, 0), (7, 1), (8, 1), (9, 1), (10, 0)] mixed rfl (by kernel_rfl) (fun w18 hb18 hh18 => ?_)
          have M18 := hM17.drew hb18 hh18
          refine D_p rfl rfl rfl (fun _ => r_move (.slice _ _ _) rfl) ?_
          refine D_p rfl rfl rfl (fun _ => r_move (.int _ _) rfl) ?_
          refine D_r rfl rfl rfl (r_idxR (i) sl23 rfl rfl rfl ((R'.mem M18).below_len (mapGet conCells hxc)) ((R'.mem M18).someK (mapGet conCells hxc))) ?_
          refine D_r rfl rfl rfl (r_fieldAddrE 4 fld35_2 (R'.mem M18) (Nat.lt_of_le_of_lt (Nat.zero_le _) ((R'.mem M18).below_len (mapGet conCells hxc))) rfl) ?_
          refine D_r rfl rfl rfl (r_ldE (o := 4) (.int _ _) one21 (R'.mem M18) (mapGet conCells hxc) rfl rfl) ?_
          refine D_p rfl rfl rfl (fun _ => r_move (.slice _ _ _) rfl) ?_
          refine D_p rfl rfl rfl (fun _ => r_move (.int _ _) rfl) ?_
          refine D_r rfl rfl rfl (r_idxR (j) sl23 rfl rfl rfl ((R'.mem M18).below_len (mapGet conCells hxj)) ((R'.mem M18).someK (mapGet conCells hxj))) ?_
          refine D_r rfl rfl rfl (r_fieldAddrE 4 fld35_2 (R'.mem M18) (Nat.lt_of_le_of_lt (Nat.zero_le _) ((R'.mem M18).below_len (mapGet conCells hxj))) rfl) ?_
          refine D_r rfl rfl rfl (r_ldE (o := 4) (.int _ _) one21 (R'.mem M18) (mapGet conCells hxj) rfl rfl) ?_
          refine D_p rfl rfl rfl (fun _ => r_bin (.bool (decide _)) rfl rfl rfl) ?_
          refine D_nil ?_
          refine thenN ?_
          refine W_condD rfl (fun h72 => ?_) (fun h72 => ?_)
          · skip
            refine W_region ?_
            refine wl_q (r_move (.int _ _) rfl) rfl rfl ?_
            refine wl_q (r_assign (.int _ _) rfl) rfl rfl ?_
            refine wl_nil ?_
            refine blkN ?_
            refine thenN ?_
            refine W_region ?_
            refine wl_q (r_move (.int _ _) rfl) rfl rfl ?_
            refine wl_q (r_add rfl rfl (by omega) (by omega)) rfl rfl ?_
            refine wl_q (r_assign (.int _ _) rfl) rfl rfl ?_
            refine wl_nil ?_
            refine roundN (i + 1, i) (agC rfl (agC rfl agN)) (akC rfl (akC rfl (akC rfl (akC rfl (akC rfl (akC rfl (akC rfl akN))))))) ?_ ?_
            · exact ⟨⟨by omega, hbe.new hxc hxj h72⟩, M18⟩
            · (show m - (i + 1) < m - i; omega)
          · skip
            refine W_skip ?_
            refine blkN ?_
            refine thenN ?_
            refine W_region ?_
            refine wl_q (r_move (.int _ _) rfl) rfl rfl ?_
            refine wl_q (r_add rfl rfl (by omega) (by omega)) rfl rfl ?_
            refine wl_q (r_assign (.int _ _) rfl) rfl rfl ?_
            refine wl_nil ?_
            refine roundN (i + 1, j) (agC rfl (agC rfl agN)) (akC rfl (akC rfl (akC rfl (akC rfl (akC rfl (akC rfl (akC rfl akN))))))) ?_ ?_
            · exact ⟨⟨by omega, hbe.old hxc hxj h72⟩, M18⟩
            · (show m - (i + 1) < m - i; omega)
        · skip
          have hin : i = m := by omega
          rw [hin] at hbe
          refine W_exit ?_
          refine thenX ?_
          refine roundX ?_
          refine blkH ?_
          refine thenN ?_
          refine W_seq ?_
          refine W_draw [(0, 0), (1, 0), (2, 2), (3, 2), (4, 0), (5, 0), (6, 0), (8, 0), (9, 0), (7, 2), (10, 2), (11, 2), (12, 0), (13, 0), (14, 0), (15, 0), (16, 0), (17, 1), (18, 0), (19, 0), (20, 1), (21, 1), (22, 0), (23, 0), (24, 0), (25, 0)] mixed rfl (by kernel_rfl) (fun w19 hb19 hh19 => ?_)
          have M19 := hM17.drew hb19 hh19
          refine D_p rfl rfl rfl (fun _ => r_move (.slice _ _ _) rfl) ?_
          refine D_p rfl rfl rfl (fun _ => r_move (.slice _ _ _) rfl) ?_
          refine D_e [] rfl (by kernel_rfl) ?_
          refine wl_cal cal10 rfl rfl rfl ?_
          refine (ref15_All _ _ _ _ (viewL xs) (hr.rd M19 (nthMem (i := 0) rfl)) hvo hvs (by first | decide | omega)).mono ?_
          rintro _ w20 ⟨v20, rfl, ⟨r4, rfl, hr4, hM20⟩⟩
          refine ⟨_, rfl, ?_⟩
          have M20 : Mem _ _ [_, _, _, _] _ := M19.call0 hM20
          refine wl_nil (thenN ⟨alN, ?_⟩)
          refine D_e [] rfl (by kernel_rfl) ?_
          refine wl_cal cal9 rfl rfl rfl ?_
          refine (ref15_Same _ _ _ _ _ (hr0.rd M20 (nthMem (i := 1) rfl)) _ _ _ _ (hr4.rd M20 (nthMem (i := 3) rfl))).mono ?_
          rintro _ w21 ⟨v21, rfl, ⟨rfl, hb21⟩⟩
          refine ⟨_, rfl, ?_⟩
          have M21 := M20.callB hb21
          refine wl_nil (thenN ⟨alN, ?_⟩)
          refine D_re 77 (.bool true) (bT rfl).symm ?_
          refine D_p rfl rfl rfl (fun _ => r_move (.bool true) rfl) ?_
          refine D_p rfl rfl rfl (fun _ => r_move (.slice _ _ _) rfl) ?_
          refine D_p rfl rfl rfl (fun _ => r_move (.int _ _) rfl) ?_
          refine D_p rfl rfl rfl (fun _ => r_move (.slice _ _ _) rfl) ?_
          refine D_p rfl rfl rfl (fun _ => r_move (.int _ _) rfl) ?_
          refine D_e [] rfl (by kernel_rfl) ?_
          refine wl_cal cal11 rfl rfl rfl ?_
          refine (contacts_With _ key _ _ _ ys (R'.mem M21) (by first | decide | omega)).mono ?_
          rintro _ w22 ⟨v22, rfl, ⟨r5, rfl, hr5, hM22⟩⟩
          refine ⟨_, rfl, ?_⟩
          have M22 : Mem _ _ [_, _, _, _, _] _ := M21.call0 hM22
          refine wl_nil (thenN ⟨alN, ?_⟩)
          refine D_e [] rfl (by kernel_rfl) ?_
          refine wl_cal cal12 rfl rfl rfl ?_
          refine (ref15_With _ key _ _ _ ys (R'.mem M22) (by first | decide | omega)).mono ?_
          rintro _ w23 ⟨v23, rfl, ⟨r6, rfl, hr6, hM23⟩⟩
          refine ⟨_, rfl, ?_⟩
          have M23 : Mem _ _ [_, _, _, _, _, _] _ := M22.call0 hM23
          refine wl_nil (thenN ⟨alN, ?_⟩)
          refine D_e [] rfl (by kernel_rfl) ?_
          refine wl_cal cal9 rfl rfl rfl ?_
          refine (ref15_Same _ _ _ _ _ (hr5.rd M23 (nthMem (i := 4) rfl)) _ _ _ _ (hr6.rd M23 (nthMem (i := 5) rfl))).mono ?_
          rintro _ w24 ⟨v24, rfl, ⟨rfl, hb24⟩⟩
          refine ⟨_, rfl, ?_⟩
          have M24 := M23.callB hb24
          refine wl_nil (thenN ⟨alN, ?_⟩)
          refine D_re 85 (.bool true) (bT rfl).symm ?_
          refine D_p rfl rfl rfl (fun _ => r_pick true (.bool true) rfl rfl) ?_
          refine D_p rfl rfl rfl (fun _ => r_move (.bool true) rfl) ?_
          refine D_p rfl rfl rfl (fun _ => r_move (.bool (decide _)) rfl) ?_
          refine D_p rfl rfl rfl (fun _ => r_not rfl) ?_
          refine D_p rfl rfl rfl (fun _ => r_move (.bool (decide _)) rfl) ?_
          refine D_splitD 90 rfl (fun g90 => ?_) (fun g90 => ?_)
          · skip
            refine D_s1 rfl rfl rfl ?_
            refine D_s rfl rfl rfl ?_
            refine D_s rfl rfl rfl ?_
            refine D_s1 rfl rfl rfl ?_
            refine D_s1 rfl rfl rfl ?_
            refine D_s rfl rfl rfl ?_
            refine D_p rfl rfl rfl (fun _ => r_pick true (.bool true) rfl rfl) ?_
            refine D_p rfl rfl rfl (fun _ => r_pick true (.bool true) rfl rfl) ?_
            refine D_p rfl rfl rfl (fun _ => r_assign (.bool true) rfl) ?_
            refine D_nil ?_
            refine thenN ?_
            refine W_ret ?_
            skip
            refine fin1 (.bool true) rfl ?_
            exact ⟨rfl, M24.below⟩
          · skip
            refine D_r rfl rfl rfl (r_ldW 2 agg35 M24 rfl rfl rfl) ?_
            obtain ⟨xj, hxj, hxd⟩ := hbe.done (Decidable.not_not.1 g90) hlen' hdd
            refine D_p rfl rfl rfl (fun _ => r_move (.slice _ _ _) rfl) ?_
            refine D_p rfl rfl rfl (fun _ => r_move (.int _ _) rfl) ?_
            refine D_r rfl rfl rfl (r_idxR (j) sl23 rfl rfl rfl ((R'.mem M24).below_len (mapGet conCells hxj)) ((R'.mem M24).someK (mapGet conCells hxj))) ?_
            refine D_r rfl rfl rfl (r_ldEA _ agg35 (R'.mem M24) (mapGet conCells hxj) rfl) ?_
            refine D_p rfl rfl rfl (fun _ => r_eqA (eqCon dd xj) rfl rfl) ?_
            refine D_re 96 (.bool true) (bT hxd).symm ?_
            refine D_p rfl rfl rfl (fun _ => r_pick false (.bool true) rfl rfl) ?_
            refine D_p rfl rfl rfl (fun _ => r_pick true (.bool true) rfl rfl) ?_
            refine D_p rfl rfl rfl (fun _ => r_assign (.bool true) rfl) ?_
            refine D_nil ?_
            refine thenN ?_
            refine W_ret ?_
            skip
            refine fin1 (.bool true) rfl ?_
            exact ⟨rfl, M24.below⟩

end Go.Proofs.YtkegiinlfmlhlaaGreatDoor

set_option linter.unusedVariables false
set_option linter.unusedSimpArgs false
set_option linter.unnecessarySimpa false
namespace Go.Proofs.YtkegiinlfmlhlaaGreatDoor
open Go.Bil
open Go.RowKit (Below)
open Go.Proofs

namespace contactsMatchesReference
open Go.ChangeShapes Go.WideShapes Go.ChangeAt Go.RowKit
open Go.ChangeMaps (open_string shut_string)
theorem own : ownKnob Tryz.prog.godebug = none := by kernel_rfl
theorem laidOut : laidOutB Tryz.prog = true := by kernel_rfl
set_option maxRecDepth 100000 in
theorem lifted (os : Os) (started : os.Started) (H : Type) (enc : TypeId × Value → H) :
    ReturnsInHanded {} Tryz.checked os 3 .any (fun w args => (Rows.contactsMatchesReferenceSpec.pre enc Tryz.prog Tryz.f3 [] false w args ∧ laidMet Tryz.prog laidL w) ∧ sizedMet enc Tryz.prog Tryz.f3 (OpenSpec.ofChange Rows.contactsMatchesReferenceSpec) false w args) (Rows.contactsMatchesReferenceSpec.post enc Tryz.prog Tryz.f3 false true false false) := by
  refine returnsInHanded_of_change_and (C := Tryz.checked) (X := fun w _ => laidMet Tryz.prog laidL w) (fun _ _ _ hh h => h.of_heap hh) own started (by kernel_rfl) Tryz.func3
    (ChangeSpec.witness_at (enc := enc) (C := Tryz.checked) (os := os) (X := fun w _ => laidMet Tryz.prog laidL w) false (laidWorld os) #[.slice none 0 0, .slice none 0 0, .int .u32 0] 8 rfl (by kernel_rfl) (by kernel_rfl) (by kernel_rfl) (by kernel_rfl) (by kernel_rfl) (laidMet_of_run' 8 (by kernel_rfl) (by kernel_rfl))) ?_
  intro W base args ds gs before hval0 hW hcnd hsz0 hL _
  have hsz : (DataW.weightsEach Tryz.prog (Tryz.f3.params.toList ++ Rows.contactsMatchesReferenceSpec.plain.varTypes Tryz.prog) (ds ++ gs)).all (· ≤ reachBytes) = true := hsz0
  have hval : ∀ (j : Nat) t v, Tryz.f3.params[j]? = some t → args[j]? = some v → Value.okWide Tryz.prog W .any base t v := hval0
  have hW' := hW
  obtain ⟨p, q, hA0, hV, rfl, hfz, hnd⟩ := hW
  have hA : DataW.TrodAll enc Tryz.prog W 0 (fun _ => true) true Tryz.f3.params.toList args.toList ds p := hA0
  rw [Tryz.params3] at hA hval hsz
  obtain ⟨v0, vs0, d0, ds0, p0, q0, hargs, rfl, rfl, h0, r0⟩ := trodAll_cons hA
  obtain ⟨v1, vs1, d1, ds1, p1, q1, rfl, rfl, rfl, h1, r1⟩ := trodAll_cons r0
  obtain ⟨v2, vs2, d2, ds2, p2, q2, rfl, rfl, rfl, h2, r2⟩ := trodAll_cons r1
  obtain ⟨rfl, rfl, rfl⟩ := trodAll_nil r2
  obtain rfl : args = #[v0, v1, v2] := by cases args; simp_all
  obtain ⟨rfl, rfl⟩ := trodVars_none hV
  have k0 := h0
  have lt0 : ∀ x ∈ p0, x.block < W.heap.size := by obtain ⟨m, hm⟩ := k0; exact DataW.trod_lt m _ _ _ hm
  obtain ⟨a0, len0, cap0, rfl⟩ := okWide_slice Tryz.underlying22 (hval 0 22 v0 rfl rfl)
  have y0 := sized_rows hsz (j := 0) (t := 22) rfl rfl sl22 h0
  obtain ⟨ls0, R0, hi0⟩ := open_rows sl22 leaves46 rfl y0 h0
  obtain ⟨xs0, rfl, hx0⟩ := list_of bodyOf ls0 hi0
  have k1 := h1
  have lt1 : ∀ x ∈ p1, x.block < W.heap.size := by obtain ⟨m, hm⟩ := k1; exact DataW.trod_lt m _ _ _ hm
  obtain ⟨a1, len1, cap1, rfl⟩ := okWide_slice Tryz.underlying23 (hval 1 23 v1 rfl rfl)
  have y1 := sized_rows hsz (j := 1) (t := 23) rfl rfl sl23 h1
  obtain ⟨ls1, R1, hi1⟩ := open_rows sl23 leaves35 rfl y1 h1
  have cp1 := rows_cap sl23 h1
  obtain ⟨xs1, rfl, hx1⟩ := list_of conOf5 ls1 hi1
  obtain ⟨a2, rfl, rfl, rfl, w2⟩ := open_int Tryz.underlying24 (hval 2 24 v2 rfl rfl) h2
  have b2 : 0 ≤ a2 ∧ a2 ≤ 4294967295 := wf_int w2
  clear hA0 hval0 hsz0 hsz
  refine (law_ContactsMatchesReference W (rdF hL) (rdN hL) _ _ _ xs0 R0 _ _ _ xs1 R1 cp1 a2).mono fun e W' ⟨v, he, hv, bel⟩ => ?_
  subst he
  subst hv
  exact ⟨_, rfl, _, _, _, [], _, [], hW', trodAll_mk1 (shut_bool Tryz.underlying4 _), (trodAll_cons_mk (Below.trod laidOut (by kernel_rfl) (of_decide_eq_true (by kernel_rfl)) k0 bel lt0) (trodAll_cons_mk (Below.trod laidOut (by kernel_rfl) (of_decide_eq_true (by kernel_rfl)) k1 bel lt1) (trodAll_cons_mk (shut_int Tryz.underlying24 w2) trodAll_mk0))), rfl, bel.frame _, fun h => by cases h⟩
theorem over : Rows.contactsMatchesReferenceRow.holds Tryz.pinned (OpenSpec.ofChange Rows.contactsMatchesReferenceSpec) :=
  OpenClaim.holds_of_wide 3 Tryz.f3 rfl rfl rfl rfl rfl rfl rfl ⟨rfl, rfl, rfl, rfl, rfl⟩ rfl rfl rfl rfl rfl (by kernel_rfl) Tryz.func3 (by kernel_rfl)
    (of_decide_eq_true (by kernel_rfl)) (by unfold Func.isWrapper; first | (rw [if_pos (by decide +kernel)]; kernel_rfl) | (rw [if_neg (by decide +kernel)]; exact ⟨rfl, rfl⟩))
    (fun os started H enc _ => lifted os started H enc)
end contactsMatchesReference
theorem contactsMatchesReference_holds : Rows.ContactsMatchesReferenceSaid := contactsMatchesReference.over
#print axioms contactsMatchesReference_holds
theorem contactsMatchesReference_card : Rows.ContactsMatchesReferenceCardSaid :=
  Claim7.holds_tied_plain_at .later [] [.data, .data] true (true, "3aca2b76c285c966e07b3478885ac977f088e9fe089b19d7286332a62054959d") false
    contactsMatchesReference_holds (fun _ h => by cases h) (by kernel_rfl) (fun _ h => by cases h) contactsMatchesReference_row_tie rfl ⟨rfl, rfl⟩ (by kernel_rfl) rfl
    (fun f fn hf hfn => by
      obtain rfl : f = 3 := Option.some.inj ((show Tryz.prog.funcNamed "billiard/billiardlaw15.ContactsMatchesReference" = some 3 by kernel_rfl).symm.trans hf) |>.symm
      obtain rfl : fn = Tryz.f3 := (Option.some.inj (Tryz.func3.symm.trans hfn)).symm
      exact ⟨by kernel_rfl, fun j t ht => by
        rw [Tryz.params3] at ht
        have hm : t ∈ [22, 23, 24] := by simpa using Array.mem_of_getElem? ht
        have hall : ([22, 23, 24].all fun u => !Tryz.prog.wantsStandIn u) = true := by kernel_rfl
        exact (show Tryz.prog.wantsStandIn t = false by simpa using List.all_eq_true.1 hall t hm)⟩)
    (by kernel_rfl)
#print axioms contactsMatchesReference_card

end Go.Proofs.YtkegiinlfmlhlaaGreatDoor
