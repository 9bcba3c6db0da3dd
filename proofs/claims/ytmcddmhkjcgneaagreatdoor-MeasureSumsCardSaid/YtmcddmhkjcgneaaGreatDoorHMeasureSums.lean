/- The law MeasureSums returns true for every input, and what it reads stays as it was. No conditions. -/
import Derived.Test.YtmcddmhkjcgneaaGreatDoorK5
import Derived.Test.YtmcddmhkjcgneaaGreatDoorK27
import Derived.Test.YtmcddmhkjcgneaaGreatDoorRows
import Derived.Test.YtmcddmhkjcgneaaGreatDoorK28
import Derived.Test.YtmcddmhkjcgneaaGreatDoorTie
import Derived.Test.YtmcddmhkjcgneaaGreatDoorCards
import Derived.WalkKit
import Derived.ProofKit
import Derived.OpenShut
import Derived.ShutString
import Derived.ChangeOld
import Derived.Below
import Derived.SizedLaws
/- Walks of Go functions over the frame of this claim: what each computes, for every input of the stated types (LMeasureSums). -/
set_option linter.unusedVariables false
set_option linter.unusedSimpArgs false
set_option linter.unnecessarySimpa false
namespace Go.Proofs.YtmcddmhkjcgneaaGreatDoor
open Go.Bil
open Go.RowKit (Below)
open Go.Proofs

set_option maxHeartbeats 16000000 in
theorem law_MeasureSums (w : World) (F : Rd w 2 (some ⟨1, 0, none⟩) 1 [[.int .u32 73856093, .int .u32 19349663]]) (N : Rd w 4 (some ⟨0, 0, none⟩) 1 [bxCells noneB]) (f : Nat) (hf : f ≤ 255) (A : Option Addr) (n c : Nat) (xs : List Body) (R : Rd w 10 A n (xs.map bodyCells)) :
    Calls Tryz.prog 4 #[.slice A n c, .int .u8 (f : Int)] w (fun ex w' => ∃ v, ex = .returned v ∧ (fun v w' => v = .bool true ∧ Below w.heap.size w w') v w') := by
  have hlen : xs.length = n := by simpa using R.len
  have hbd := R.bound
  refine calls_of_W #[.tmp 4] 65 Tryz.func4 rfl Tryz.results4 Tryz.ntmps4 rfl ?_
  have M0 := Mem.refl w
  refine W_seq ?_
  refine W_region ?_
  refine wl_q (r_assign (.bool false) rfl) rfl rfl ?_
  refine wl_nil ?_
  refine thenN ?_
  refine W_seq ?_
  refine W_region ?_
  refine wl_q (r_move (.slice _ _ _) rfl) rfl rfl ?_
  refine wl_cal cal14 rfl rfl rfl ?_
  refine (ref11_View _ _ _ _ xs (R.mem M0)).mono ?_
  rintro _ w1 ⟨v1, rfl, ⟨r, rfl, hr, hM1⟩⟩
  refine ⟨_, rfl, ?_⟩
  have M1 : Mem _ _ [_] _ := M0.call0 hM1
  refine wl_q (r_move (.tuple (List.toArray _)) rfl) rfl rfl ?_
  refine wl_q (r_ext (.slice _ _ _) rfl rfl) rfl rfl ?_
  refine wl_q (r_ext (.bool (decide _)) rfl rfl) rfl rfl ?_
  refine wl_q (r_assign (.slice _ _ _) rfl) rfl rfl ?_
  refine wl_q (r_assign (.bool (decide _)) rfl) rfl rfl ?_
  refine wl_nil ?_
  refine thenN ?_
  refine W_seq ?_
  refine W_seq ?_
  refine W_region ?_
  refine wl_cal cal15 rfl rfl rfl ?_
  refine (aw26 _ (F.mem M1) (N.mem M1)).mono ?_
  rintro _ w2 ⟨v2, rfl, ⟨rfl, hb2⟩⟩
  refine ⟨_, rfl, ?_⟩
  have M2 := M1.callB hb2
  refine wl_q (r_notB false rfl rfl) rfl rfl ?_
  refine wl_q (r_move (.bool false) rfl) rfl rfl ?_
  refine wl_q (r_move (.bool (decide _)) rfl) rfl rfl ?_
  refine wl_q (r_not rfl) rfl rfl ?_
  refine wl_q (r_pick false (.bool (decide _)) rfl rfl) rfl rfl ?_
  refine wl_nil ?_
  refine thenN ?_
  refine W_condD rfl (fun h21 => ?_) (fun h21 => ?_)
  · skip
    refine W_seq ?_
    refine W_region ?_
    refine wl_cal cal15 rfl rfl rfl ?_
    refine (aw26 _ (F.mem M2) (N.mem M2)).mono ?_
    rintro _ w3 ⟨v3, rfl, ⟨rfl, hb3⟩⟩
    refine ⟨_, rfl, ?_⟩
    have M3 := M2.callB hb3
    refine wl_q (r_assign (.bool true) rfl) rfl rfl ?_
    refine wl_nil ?_
    refine thenN ?_
    refine W_ret ?_
    refine thenR ?_
    skip
    refine fin1 (.bool true) rfl ?_
    exact ⟨rfl, M3.below⟩
  · skip
    obtain ⟨hV, hve, hvk⟩ := view_of (Decidable.not_not.1 h21)
    have hvl := hV.len
    have hrn : (viewL xs).length = r.n := by simpa using hr.1
    have hvs := hV.s
    have hvo := hV.okb
    obtain ⟨kk, hkk⟩ : ∃ kk : Nat, kk = f % (r.n + 1) := ⟨_, rfl⟩
    have hkl : kk < r.n + 1 := by rw [hkk]; exact Nat.mod_lt _ (by omega)
    have hcap := hr.slice
    have ht1 : Sorted ((viewL xs).take kk) := hvs.sublist (List.take_sublist _ _)
    have ht2 : Sorted ((viewL xs).drop kk) := hvs.sublist (List.drop_sublist _ _)
    have ho1 : ∀ b ∈ ((viewL xs).take kk), Okb b := fun b h => hvo b ((List.take_sublist _ _).subset h)
    have ho2 : ∀ b ∈ ((viewL xs).drop kk), Okb b := fun b h => hvo b ((List.drop_sublist _ _).subset h)
    have hl1 : ((viewL xs).take kk).length ≤ 40 := Nat.le_trans (List.length_take_le _ _) (by omega)
    have hl2 : ((viewL xs).drop kk).length ≤ 40 := by rw [List.length_drop]; omega
    refine W_skip ?_
    refine thenN ?_
    refine W_seq ?_
    refine W_region ?_
    refine wl_q (r_move (.int _ _) rfl) rfl rfl ?_
    refine wl_q (r_convK us5 Tryz.underlying3 rfl (w64 _ (by omega) (by omega))) rfl rfl ?_
    refine wl_q (r_move (.slice _ _ _) rfl) rfl rfl ?_
    refine wl_q (r_lenS Tryz.underlying22 rfl) rfl rfl ?_
    refine wl_q (r_add rfl rfl (by omega) (by omega)) rfl rfl ?_
    refine wl_re 27 (.int .i64 ((r.n + 1 : Nat) : Int)) (iE (by omega)) ?_
    refine wl_q (r_rem rfl rfl (by omega)) rfl rfl ?_
    refine wl_re 28 (.int .i64 (kk : Int)) (iE (tmod_nat rfl hkk)) ?_
    refine wl_q (r_assign (.int _ _) rfl) rfl rfl ?_
    refine wl_nil ?_
    refine thenN ?_
    refine W_seq ?_
    refine W_region ?_
    refine wl_q (r_move (.slice _ _ _) rfl) rfl rfl ?_
    refine wl_cal cal17 rfl rfl rfl ?_
    refine (me_Of _ (F.mem M2) (N.mem M2) _ _ _ (viewL xs) (hr.rd M2 (nthMem (i := 0) rfl)) hvo hvs (by first | decide | omega)).mono ?_
    rintro _ w4 ⟨v4, rfl, ⟨rfl, hb4⟩⟩
    refine ⟨_, rfl, ?_⟩
    have M4 := M2.callB hb4
    refine wl_re 30 ((.agg (meCells (meOf (viewL xs))).toArray)) rfl ?_
    refine wl_alloc zero36 M4 rfl rfl (fun b5 w5 M5 => ?_)
    refine wl_stW 1 _ agg36 M5 rfl rfl rfl rfl rfl (ones_of rfl) rfl (fun w6 M6 => ?_)
    refine wl_nil ?_
    refine thenN ?_
    refine W_seq ?_
    refine W_tree (.op 0 0 (.op 1 0 (.op 2 0 (.op 4 0 (.op 5 0 (.op 6 0 (.fork 3 9 (.fork 7 9 (.fork 8 9 (.op 9 2 (.op 10 2 .done)) (.op 8 2 (.op 10 2 .done))) (.op 7 2 (.op 8 2 (.op 10 2 .done)))) (.op 3 2 (.op 7 2 (.op 8 2 (.op 10 2 .done))))))))))) mixed rfl (by kernel_rfl) (fun w7 hb7 hh7 => ?_)
    have M7 := M6.drew hb7 hh7
    refine T_p rfl rfl rfl (fun _ => r_move (.slice _ _ _) rfl) ?_
    refine T_p rfl rfl rfl (fun _ => r_move (.int _ _) rfl) ?_
    refine T_p rfl rfl rfl (fun _ => r_slice (0) ((kk : Int)) sl22 rfl rfl ⟨_, rfl⟩ (by decide) (by omega) (by omega)) ?_
    refine T_p rfl rfl rfl (fun _ => r_move (.slice _ _ _) rfl) ?_
    refine T_p rfl rfl rfl (fun _ => r_move (.int _ _) rfl) ?_
    refine T_p rfl rfl rfl (fun _ => r_slice ((kk : Int)) ((r.n : Int)) sl22 rfl ⟨_, rfl⟩ rfl (by omega) (by omega) (by omega)) ?_
    refine T_fork (Ac_mk [] rfl (by kernel_rfl) ?_) (Ac_mk [] rfl (by kernel_rfl) ?_)
    · skip
      refine wl_cal cal17 rfl rfl rfl ?_
      refine (me_Of _ (F.mem M7) (N.mem M7) _ _ _ ((viewL xs).take kk) (Rd.cast (Rd.sub (hr.rd M7 (nthMem (i := 0) rfl)) 0 kk (by omega) (by omega) hcap) (take_map0 bodyCells (viewL xs) kk)) ho1 ht1 (by first | decide | omega)).mono ?_
      rintro _ w8 ⟨v8, rfl, ⟨rfl, hb8⟩⟩
      refine ⟨_, rfl, ?_⟩
      have M8 := M7.callB hb8
      refine wl_nil (thenN ⟨alN, ?_⟩)
      refine T_fork (Ac_mk [] rfl (by kernel_rfl) ?_) (Ac_mk [] rfl (by kernel_rfl) ?_)
      · skip
        refine wl_cal cal17 rfl rfl rfl ?_
        refine (me_Of _ (F.mem M8) (N.mem M8) _ _ _ ((viewL xs).drop kk) (Rd.cast (Rd.sub (hr.rd M8 (nthMem (i := 0) rfl)) kk r.n (by omega) (by omega) hcap) (drop_map1 bodyCells kk hrn)) ho2 ht2 (by first | decide | omega)).mono ?_
        rintro _ w9 ⟨v9, rfl, ⟨rfl, hb9⟩⟩
        refine ⟨_, rfl, ?_⟩
        have M9 := M8.callB hb9
        refine wl_nil (thenN ⟨alN, ?_⟩)
        refine T_fork (Ac_mk [] rfl (by kernel_rfl) ?_) (Ac_mk [] rfl (by kernel_rfl) ?_)
        · skip
          refine wl_cal cal21 rfl rfl rfl ?_
          refine (me_Merge _ (N.mem M9) (meOf ((viewL xs).take kk)) (meOf ((viewL xs).drop kk)) 40 40 ((okM_of ht1 ho1).mono hl1) ((okM_of ht2 ho2).mono hl2) (by decide) (by decide)).mono ?_
          rintro _ w10 ⟨v10, rfl, ⟨rfl, hb10⟩⟩
          refine ⟨_, rfl, ?_⟩
          have M10 := M9.callB hb10
          refine wl_nil (thenN ⟨alN, ?_⟩)
          refine T_re 39 ((.agg (meCells (mergeM (meOf ((viewL xs).take kk)) (meOf ((viewL xs).drop kk)))).toArray)) rfl ?_
          refine T_e (Ac_mk [] rfl (by kernel_rfl) ?_)
          refine wl_alloc zero36 M10 rfl rfl (fun b11 w11 M11 => ?_)
          refine wl_nil (thenN ⟨alN, ?_⟩)
          refine T_e (Ac_mk [] rfl (by kernel_rfl) ?_)
          refine wl_stW 2 _ agg36 M11 rfl rfl rfl rfl rfl (ones_of rfl) rfl (fun w12 M12 => ?_)
          refine wl_nil (thenN ⟨alN, ?_⟩)
          refine T_nil ?_
          refine thenN ?_
          refine W_seq ?_
          refine W_draw [(0, 0), (3, 0), (4, 0), (5, 0), (8, 0), (9, 0), (10, 0), (1, 2), (2, 0), (6, 2), (7, 0), (11, 2), (12, 0), (13, 0), (14, 0), (15, 0)] mixed rfl (by kernel_rfl) (fun w13 hb13 hh13 => ?_)
          have M13 := M12.drew hb13 hh13
          refine D_p rfl rfl rfl (fun _ => r_move (.slice _ _ _) rfl) ?_
          refine D_p rfl rfl rfl (fun _ => r_move (.slice _ _ _) rfl) ?_
          refine D_p rfl rfl rfl (fun _ => r_move (.int _ _) rfl) ?_
          refine D_p rfl rfl rfl (fun _ => r_slice (0) ((kk : Int)) sl22 rfl rfl ⟨_, rfl⟩ (by decide) (by omega) (by omega)) ?_
          refine D_p rfl rfl rfl (fun _ => r_move (.slice _ _ _) rfl) ?_
          refine D_p rfl rfl rfl (fun _ => r_move (.int _ _) rfl) ?_
          refine D_p rfl rfl rfl (fun _ => r_slice ((kk : Int)) ((r.n : Int)) sl22 rfl ⟨_, rfl⟩ rfl (by omega) (by omega) (by omega)) ?_
          refine D_e [] rfl (by kernel_rfl) ?_
          refine wl_cal cal22 rfl rfl rfl ?_
          refine (ref15_All _ _ _ _ (viewL xs) (hr.rd M13 (nthMem (i := 0) rfl)) hvo hvs (by first | decide | omega)).mono ?_
          rintro _ w14 ⟨v14, rfl, ⟨r4, rfl, hr4, hM14⟩⟩
          refine ⟨_, rfl, ?_⟩
          have M14 : Mem _ _ [_, _, _, _] _ := M13.call0 hM14
          have hq4 : (allC (viewL xs)).length = r4.n := by simpa using hr4.1
          refine wl_nil (thenN ⟨alN, ?_⟩)
          refine D_p rfl rfl rfl (fun _ => r_lenS Tryz.underlying45 rfl) ?_
          refine D_e [] rfl (by kernel_rfl) ?_
          refine wl_cal cal22 rfl rfl rfl ?_
          refine (ref15_All _ _ _ _ ((viewL xs).take kk) (Rd.cast (Rd.sub (hr.rd M14 (nthMem (i := 0) rfl)) 0 kk (by omega) (by omega) hcap) (take_map0 bodyCells (viewL xs) kk)) ho1 ht1 (by first | decide | omega)).mono ?_
          rintro _ w15 ⟨v15, rfl, ⟨r5, rfl, hr5, hM15⟩⟩
          refine ⟨_, rfl, ?_⟩
          have M15 : Mem _ _ [_, _, _, _, _] _ := M14.call0 hM15
          have hq5 : (allC ((viewL xs).take kk)).length = r5.n := by simpa using hr5.1
          refine wl_nil (thenN ⟨alN, ?_⟩)
          refine D_p rfl rfl rfl (fun _ => r_lenS Tryz.underlying45 rfl) ?_
          refine D_e [] rfl (by kernel_rfl) ?_
          refine wl_cal cal22 rfl rfl rfl ?_
          refine (ref15_All _ _ _ _ ((viewL xs).drop kk) (Rd.cast (Rd.sub (hr.rd M15 (nthMem (i := 0) rfl)) kk r.n (by omega) (by omega) hcap) (drop_map1 bodyCells kk hrn)) ho2 ht2 (by first | decide | omega)).mono ?_
          rintro _ w16 ⟨v16, rfl, ⟨r6, rfl, hr6, hM16⟩⟩
          refine ⟨_, rfl, ?_⟩
          have M16 : Mem _ _ [_, _, _, _, _, _] _ := M15.call0 hM16
          have hq6 : (allC ((viewL xs).drop kk)).length = r6.n := by simpa using hr6.1
          have hs4 := allC_sq (xs := (viewL xs))
          have hs5 := allC_sq (xs := ((viewL xs).take kk))
          have hs6 := allC_sq (xs := ((viewL xs).drop kk))
          have hw4 := Nat.mul_le_mul hvl hvl
          have hw5 := Nat.mul_le_mul hl1 hl1
          have hw6 := Nat.mul_le_mul hl2 hl2
          refine wl_nil (thenN ⟨alN, ?_⟩)
          refine D_p rfl rfl rfl (fun _ => r_lenS Tryz.underlying45 rfl) ?_
          refine D_p rfl rfl rfl (fun _ => r_add rfl rfl (by omega) (by omega)) ?_
          refine D_p rfl rfl rfl (fun _ => r_bin (.bool (decide _)) rfl rfl rfl) ?_
          refine D_p rfl rfl rfl (fun _ => r_assign (.bool (decide _)) rfl) ?_
          refine D_nil ?_
          refine thenN ?_
          refine W_seq ?_
          refine W_seq ?_
          refine W_region ?_
          refine wl_q (r_move (.bool (decide _)) rfl) rfl rfl ?_
          refine wl_nil ?_
          refine thenN ?_
          refine W_condD rfl (fun h55 => ?_) (fun h55 => ?_)
          · skip
            refine W_seq ?_
            refine W_region ?_
            refine wl_q (r_ldW 1 agg36 M16 rfl rfl rfl) rfl rfl ?_
            refine wl_q (r_ldW 2 agg36 M16 rfl rfl rfl) rfl rfl ?_
            refine wl_q (r_eqA (eqMe (meOf (viewL xs)) (mergeM (meOf ((viewL xs).take kk)) (meOf ((viewL xs).drop kk)))) rfl rfl) rfl rfl ?_
            refine wl_re 58 (.bool true) (bT (sums_apart hvs hvo (by omega))).symm ?_
            refine wl_q (r_assign (.bool true) rfl) rfl rfl ?_
            refine wl_nil ?_
            refine thenN ?_
            refine W_ret ?_
            refine thenR ?_
            skip
            refine fin1 (.bool true) rfl ?_
            exact ⟨rfl, M16.below⟩
          · skip
            refine W_skip ?_
            refine thenN ?_
            refine W_seq ?_
            refine W_region ?_
            refine wl_q (r_fieldAddr 9 fld36_6 rfl) rfl rfl ?_
            refine wl_q (r_ld 1 (.int _ _) one2 M16 rfl rfl rfl) rfl rfl ?_
            refine wl_q (r_fieldAddr 9 fld36_6 rfl) rfl rfl ?_
            refine wl_st 2 (.int _ _) one2 M16 rfl rfl rfl rfl rfl rfl (fun w17 M17 => ?_)
            refine wl_nil ?_
            refine thenN ?_
            refine W_seq ?_
            refine W_region ?_
            refine wl_q (r_ldW 1 agg36 M17 rfl rfl rfl) rfl rfl ?_
            refine wl_q (r_ldW 2 agg36 M17 rfl rfl rfl) rfl rfl ?_
            refine wl_q (r_eqA (eqMe (meOf (viewL xs)) { mergeM (meOf ((viewL xs).take kk)) (meOf ((viewL xs).drop kk)) with ov := (meOf (viewL xs)).ov }) rfl rfl) rfl rfl ?_
            refine wl_re 64 (.bool true) (bT (sums_any hvo kk)).symm ?_
            refine wl_q (r_assign (.bool true) rfl) rfl rfl ?_
            refine wl_nil ?_
            refine thenN ?_
            refine W_ret ?_
            skip
            refine fin1 (.bool true) rfl ?_
            exact ⟨rfl, M17.below⟩
        · skip
          refine wl_alloc zero36 M9 rfl rfl (fun b18 w18 M18 => ?_)
          refine wl_nil (thenN ⟨alN, ?_⟩)
          refine T_e (Ac_mk [] rfl (by kernel_rfl) ?_)
          refine wl_cal cal21 rfl rfl rfl ?_
          refine (me_Merge _ (N.mem M18) (meOf ((viewL xs).take kk)) (meOf ((viewL xs).drop kk)) 40 40 ((okM_of ht1 ho1).mono hl1) ((okM_of ht2 ho2).mono hl2) (by decide) (by decide)).mono ?_
          rintro _ w19 ⟨v19, rfl, ⟨rfl, hb19⟩⟩
          refine ⟨_, rfl, ?_⟩
          have M19 := M18.callB hb19
          refine wl_nil (thenN ⟨alN, ?_⟩)
          refine T_re 39 ((.agg (meCells (mergeM (meOf ((viewL xs).take kk)) (meOf ((viewL xs).drop kk)))).toArray)) rfl ?_
          refine T_e (Ac_mk [] rfl (by kernel_rfl) ?_)
          refine wl_stW 2 _ agg36 M19 rfl rfl rfl rfl rfl (ones_of rfl) rfl (fun w20 M20 => ?_)
          refine wl_nil (thenN ⟨alN, ?_⟩)
          refine T_nil ?_
          refine thenN ?_
          refine W_seq ?_
          refine W_draw [(0, 0), (3, 0), (4, 0), (5, 0), (8, 0), (9, 0), (10, 0), (1, 2), (2, 0), (6, 2), (7, 0), (11, 2), (12, 0), (13, 0), (14, 0), (15, 0)] mixed rfl (by kernel_rfl) (fun w21 hb21 hh21 => ?_)
          have M21 := M20.drew hb21 hh21
          refine D_p rfl rfl rfl (fun _ => r_move (.slice _ _ _) rfl) ?_
          refine D_p rfl rfl rfl (fun _ => r_move (.slice _ _ _) rfl) ?_
          refine D_p rfl rfl rfl (fun _ => r_move (.int _ _) rfl) ?_
          refine D_p rfl rfl rfl (fun _ => r_slice (0) ((kk : Int)) sl22 rfl rfl ⟨_, rfl⟩ (by decide) (by omega) (by omega)) ?_
          refine D_p rfl rfl rfl (fun _ => r_move (.slice _ _ _) rfl) ?_
          refine D_p rfl rfl rfl (fun _ => r_move (.int _ _) rfl) ?_
          refine D_p rfl rfl rfl (fun _ => r_slice ((kk : Int)) ((r.n : Int)) sl22 rfl ⟨_, rfl⟩ rfl (by omega) (by omega) (by omega)) ?_
          refine D_e [] rfl (by kernel_rfl) ?_
          refine wl_cal cal22 rfl rfl rfl ?_
          refine (ref15_All _ _ _ _ (viewL xs) (hr.rd M21 (nthMem (i := 0) rfl)) hvo hvs (by first | decide | omega)).mono ?_
          rintro _ w22 ⟨v22, rfl, ⟨r4, rfl, hr4, hM22⟩⟩
          refine ⟨_, rfl, ?_⟩
          have M22 : Mem _ _ [_, _, _, _] _ := M21.call0 hM22
          have hq4 : (allC (viewL xs)).length = r4.n := by simpa using hr4.1
          refine wl_nil (thenN ⟨alN, ?_⟩)
          refine D_p rfl rfl rfl (fun _ => r_lenS Tryz.underlying45 rfl) ?_
          refine D_e [] rfl (by kernel_rfl) ?_
          refine wl_cal cal22 rfl rfl rfl ?_
          refine (ref15_All _ _ _ _ ((viewL xs).take kk) (Rd.cast (Rd.sub (hr.rd M22 (nthMem (i := 0) rfl)) 0 kk (by omega) (by omega) hcap) (take_map0 bodyCells (viewL xs) kk)) ho1 ht1 (by first | decide | omega)).mono ?_
          rintro _ w23 ⟨v23, rfl, ⟨r5, rfl, hr5, hM23⟩⟩
          refine ⟨_, rfl, ?_⟩
          have M23 : Mem _ _ [_, _, _, _, _] _ := M22.call0 hM23
          have hq5 : (allC ((viewL xs).take kk)).length = r5.n := by simpa using hr5.1
          refine wl_nil (thenN ⟨alN, ?_⟩)
          refine D_p rfl rfl rfl (fun _ => r_lenS Tryz.underlying45 rfl) ?_
          refine D_e [] rfl (by kernel_rfl) ?_
          refine wl_cal cal22 rfl rfl rfl ?_
          refine (ref15_All _ _ _ _ ((viewL xs).drop kk) (Rd.cast (Rd.sub (hr.rd M23 (nthMem (i := 0) rfl)) kk r.n (by omega) (by omega) hcap) (drop_map1 bodyCells kk hrn)) ho2 ht2 (by first | decide | omega)).mono ?_
          rintro _ w24 ⟨v24, rfl, ⟨r6, rfl, hr6, hM24⟩⟩
          refine ⟨_, rfl, ?_⟩
          have M24 : Mem _ _ [_, _, _, _, _, _] _ := M23.call0 hM24
          have hq6 : (allC ((viewL xs).drop kk)).length = r6.n := by simpa using hr6.1
          have hs4 := allC_sq (xs := (viewL xs))
          have hs5 := allC_sq (xs := ((viewL xs).take kk))
          have hs6 := allC_sq (xs := ((viewL xs).drop kk))
          have hw4 := Nat.mul_le_mul hvl hvl
          have hw5 := Nat.mul_le_mul hl1 hl1
          have hw6 := Nat.mul_le_mul hl2 hl2
          refine wl_nil (thenN ⟨alN, ?_⟩)
          refine D_p rfl rfl rfl (fun _ => r_lenS Tryz.underlying45 rfl) ?_
          refine D_p rfl rfl rfl (fun _ => r_add rfl rfl (by omega) (by omega)) ?_
          refine D_p rfl rfl rfl (fun _ => r_bin (.bool (decide _)) rfl rfl rfl) ?_
          refine D_p rfl rfl rfl (fun _ => r_assign (.bool (decide _)) rfl) ?_
          refine D_nil ?_
          refine thenN ?_
          refine W_seq ?_
          refine W_seq ?_
          refine W_region ?_
          refine wl_q (r_move (.bool (decide _)) rfl) rfl rfl ?_
          refine wl_nil ?_
          refine thenN ?_
          refine W_condD rfl (fun h55 => ?_) (fun h55 => ?_)
          · skip
            refine W_seq ?_
            refine W_region ?_
            refine wl_q (r_ldW 1 agg36 M24 rfl rfl rfl) rfl rfl ?_
            refine wl_q (r_ldW 2 agg36 M24 rfl rfl rfl) rfl rfl ?_
            refine wl_q (r_eqA (eqMe (meOf (viewL xs)) (mergeM (meOf ((viewL xs).take kk)) (meOf ((viewL xs).drop kk)))) rfl rfl) rfl rfl ?_
            refine wl_re 58 (.bool true) (bT (sums_apart hvs hvo (by omega))).symm ?_
            refine wl_q (r_assign (.bool true) rfl) rfl rfl ?_
            refine wl_nil ?_
            refine thenN ?_
            refine W_ret ?_
            refine thenR ?_
            skip
            refine fin1 (.bool true) rfl ?_
            exact ⟨rfl, M24.below⟩
          · skip
            refine W_skip ?_
            refine thenN ?_
            refine W_seq ?_
            refine W_region ?_
            refine wl_q (r_fieldAddr 9 fld36_6 rfl) rfl rfl ?_
            refine wl_q (r_ld 1 (.int _ _) one2 M24 rfl rfl rfl) rfl rfl ?_
            refine wl_q (r_fieldAddr 9 fld36_6 rfl) rfl rfl ?_
            refine wl_st 2 (.int _ _) one2 M24 rfl rfl rfl rfl rfl rfl (fun w25 M25 => ?_)
            refine wl_nil ?_
            refine thenN ?_
            refine W_seq ?_
            refine W_region ?_
            refine wl_q (r_ldW 1 agg36 M25 rfl rfl rfl) rfl rfl ?_
            refine wl_q (r_ldW 2 agg36 M25 rfl rfl rfl) rfl rfl ?_
            refine wl_q (r_eqA (eqMe (meOf (viewL xs)) { mergeM (meOf ((viewL xs).take kk)) (meOf ((viewL xs).drop kk)) with ov := (meOf (viewL xs)).ov }) rfl rfl) rfl rfl ?_
            refine wl_re 64 (.bool true) (bT (sums_any hvo kk)).symm ?_
            refine wl_q (r_assign (.bool true) rfl) rfl rfl ?_
            refine wl_nil ?_
            refine thenN ?_
            refine W_ret ?_
            skip
            refine fin1 (.bool true) rfl ?_
            exact ⟨rfl, M25.below⟩
      · skip
        refine wl_alloc zero36 M8 rfl rfl (fun b26 w26 M26 => ?_)
        refine wl_nil (thenN ⟨alN, ?_⟩)
        refine T_e (Ac_mk [] rfl (by kernel_rfl) ?_)
        refine wl_cal cal17 rfl rfl rfl ?_
        refine (me_Of _ (F.mem M26) (N.mem M26) _ _ _ ((viewL xs).drop kk) (Rd.cast (Rd.sub (hr.rd M26 (nthMem (i := 0) rfl)) kk r.n (by omega) (by omega) hcap) (drop_map1 bodyCells kk hrn)) ho2 ht2 (by first | decide | omega)).mono ?_
        rintro _ w27 ⟨v27, rfl, ⟨rfl, hb27⟩⟩
        refine ⟨_, rfl, ?_⟩
        have M27 := M26.callB hb27
        refine wl_nil (thenN ⟨alN, ?_⟩)
        refine T_e (Ac_mk [] rfl (by kernel_rfl) ?_)
        refine wl_cal cal21 rfl rfl rfl ?_
        refine (me_Merge _ (N.mem M27) (meOf ((viewL xs).take kk)) (meOf ((viewL xs).drop kk)) 40 40 ((okM_of ht1 ho1).mono hl1) ((okM_of ht2 ho2).mono hl2) (by decide) (by decide)).mono ?_
        rintro _ w28 ⟨v28, rfl, ⟨rfl, hb28⟩⟩
        refine ⟨_, rfl, ?_⟩
        have M28 := M27.callB hb28
        refine wl_nil (thenN ⟨alN, ?_⟩)
        refine T_re 39 ((.agg (meCells (mergeM (meOf ((viewL xs).take kk)) (meOf ((viewL xs).drop kk)))).toArray)) rfl ?_
        refine T_e (Ac_mk [] rfl (by kernel_rfl) ?_)
        refine wl_stW 2 _ agg36 M28 rfl rfl rfl rfl rfl (ones_of rfl) rfl (fun w29 M29 => ?_)
        refine wl_nil (thenN ⟨alN, ?_⟩)
        refine T_nil ?_
        refine thenN ?_
        refine W_seq ?_
        refine W_draw [(0, 0), (3, 0), (4, 0), (5, 0), (8, 0), (9, 0), (10, 0), (1, 2), (2, 0), (6, 2), (7, 0), (11, 2), (12, 0), (13, 0), (14, 0), (15, 0)] mixed rfl (by kernel_rfl) (fun w30 hb30 hh30 => ?_)
        have M30 := M29.drew hb30 hh30
        refine D_p rfl rfl rfl (fun _ => r_move (.slice _ _ _) rfl) ?_
        refine D_p rfl rfl rfl (fun _ => r_move (.slice _ _ _) rfl) ?_
        refine D_p rfl rfl rfl (fun _ => r_move (.int _ _) rfl) ?_
        refine D_p rfl rfl rfl (fun _ => r_slice (0) ((kk : Int)) sl22 rfl rfl ⟨_, rfl⟩ (by decide) (by omega) (by omega)) ?_
        refine D_p rfl rfl rfl (fun _ => r_move (.slice _ _ _) rfl) ?_
        refine D_p rfl rfl rfl (fun _ => r_move (.int _ _) rfl) ?_
        refine D_p rfl rfl rfl (fun _ => r_slice ((kk : Int)) ((r.n : Int)) sl22 rfl ⟨_, rfl⟩ rfl (by omega) (by omega) (by omega)) ?_
        refine D_e [] rfl (by kernel_rfl) ?_
        refine wl_cal cal22 rfl rfl rfl ?_
        refine (ref15_All _ _ _ _ (viewL xs) (hr.rd M30 (nthMem (i := 0) rfl)) hvo hvs (by first | decide | omega)).mono ?_
        rintro _ w31 ⟨v31, rfl, ⟨r4, rfl, hr4, hM31⟩⟩
        refine ⟨_, rfl, ?_⟩
        have M31 : Mem _ _ [_, _, _, _] _ := M30.call0 hM31
        have hq4 : (allC (viewL xs)).length = r4.n := by simpa using hr4.1
        refine wl_nil (thenN ⟨alN, ?_⟩)
        refine D_p rfl rfl rfl (fun _ => r_lenS Tryz.underlying45 rfl) ?_
        refine D_e [] rfl (by kernel_rfl) ?_
        refine wl_cal cal22 rfl rfl rfl ?_
        refine (ref15_All _ _ _ _ ((viewL xs).take kk) (Rd.cast (Rd.sub (hr.rd M31 (nthMem (i := 0) rfl)) 0 kk (by omega) (by omega) hcap) (take_map0 bodyCells (viewL xs) kk)) ho1 ht1 (by first | decide | omega)).mono ?_
        rintro _ w32 ⟨v32, rfl, ⟨r5, rfl, hr5, hM32⟩⟩
        refine ⟨_, rfl, ?_⟩
        have M32 : Mem _ _ [_, _, _, _, _] _ := M31.call0 hM32
        have hq5 : (allC ((viewL xs).take kk)).length = r5.n := by simpa using hr5.1
        refine wl_nil (thenN ⟨alN, ?_⟩)
        refine D_p rfl rfl rfl (fun _ => r_lenS Tryz.underlying45 rfl) ?_
        refine D_e [] rfl (by kernel_rfl) ?_
        refine wl_cal cal22 rfl rfl rfl ?_
        refine (ref15_All _ _ _ _ ((viewL xs).drop kk) (Rd.cast (Rd.sub (hr.rd M32 (nthMem (i := 0) rfl)) kk r.n (by omega) (by omega) hcap) (drop_map1 bodyCells kk hrn)) ho2 ht2 (by first | decide | omega)).mono ?_
        rintro _ w33 ⟨v33, rfl, ⟨r6, rfl, hr6, hM33⟩⟩
        refine ⟨_, rfl, ?_⟩
        have M33 : Mem _ _ [_, _, _, _, _, _] _ := M32.call0 hM33
        have hq6 : (allC ((viewL xs).drop kk)).length = r6.n := by simpa using hr6.1
        have hs4 := allC_sq (xs := (viewL xs))
        have hs5 := allC_sq (xs := ((viewL xs).take kk))
        have hs6 := allC_sq (xs := ((viewL xs).drop kk))
        have hw4 := Nat.mul_le_mul hvl hvl
        have hw5 := Nat.mul_le_mul hl1 hl1
        have hw6 := Nat.mul_le_mul hl2 hl2
        refine wl_nil (thenN ⟨alN, ?_⟩)
        refine D_p rfl rfl rfl (fun _ => r_lenS Tryz.underlying45 rfl) ?_
        refine D_p rfl rfl rfl (fun _ => r_add rfl rfl (by omega) (by omega)) ?_
        refine D_p rfl rfl rfl (fun _ => r_bin (.bool (decide _)) rfl rfl rfl) ?_
        refine D_p rfl rfl rfl (fun _ => r_assign (.bool (decide _)) rfl) ?_
        refine D_nil ?_
        refine thenN ?_
        refine W_seq ?_
        refine W_seq ?_
        refine W_region ?_
        refine wl_q (r_move (.bool (decide _)) rfl) rfl rfl ?_
        refine wl_nil ?_
        refine thenN ?_
        refine W_condD rfl (fun h55 => ?_) (fun h55 => ?_)
        · skip
          refine W_seq ?_
          refine W_region ?_
          refine wl_q (r_ldW 1 agg36 M33 rfl rfl rfl) rfl rfl ?_
          refine wl_q (r_ldW 2 agg36 M33 rfl rfl rfl) rfl rfl ?_
          refine wl_q (r_eqA (eqMe (meOf (viewL xs)) (mergeM (meOf ((viewL xs).take kk)) (meOf ((viewL xs).drop kk)))) rfl rfl) rfl rfl ?_
          refine wl_re 58 (.bool true) (bT (sums_apart hvs hvo (by omega))).symm ?_
          refine wl_q (r_assign (.bool true) rfl) rfl rfl ?_
          refine wl_nil ?_
          refine thenN ?_
          refine W_ret ?_
          refine thenR ?_
          skip
          refine fin1 (.bool true) rfl ?_
          exact ⟨rfl, M33.below⟩
        · skip
          refine W_skip ?_
          refine thenN ?_
          refine W_seq ?_
          refine W_region ?_
          refine wl_q (r_fieldAddr 9 fld36_6 rfl) rfl rfl ?_
          refine wl_q (r_ld 1 (.int _ _) one2 M33 rfl rfl rfl) rfl rfl ?_
          refine wl_q (r_fieldAddr 9 fld36_6 rfl) rfl rfl ?_
          refine wl_st 2 (.int _ _) one2 M33 rfl rfl rfl rfl rfl rfl (fun w34 M34 => ?_)
          refine wl_nil ?_
          refine thenN ?_
          refine W_seq ?_
          refine W_region ?_
          refine wl_q (r_ldW 1 agg36 M34 rfl rfl rfl) rfl rfl ?_
          refine wl_q (r_ldW 2 agg36 M34 rfl rfl rfl) rfl rfl ?_
          refine wl_q (r_eqA (eqMe (meOf (viewL xs)) { mergeM (meOf ((viewL xs).take kk)) (meOf ((viewL xs).drop kk)) with ov := (meOf (viewL xs)).ov }) rfl rfl) rfl rfl ?_
          refine wl_re 64 (.bool true) (bT (sums_any hvo kk)).symm ?_
          refine wl_q (r_assign (.bool true) rfl) rfl rfl ?_
          refine wl_nil ?_
          refine thenN ?_
          refine W_ret ?_
          skip
          refine fin1 (.bool true) rfl ?_
          exact ⟨rfl, M34.below⟩
    · skip
      refine wl_alloc zero36 M7 rfl rfl (fun b35 w35 M35 => ?_)
      refine wl_nil (thenN ⟨alN, ?_⟩)
      refine T_e (Ac_mk [] rfl (by kernel_rfl) ?_)
      refine wl_cal cal17 rfl rfl rfl ?_
      refine (me_Of _ (F.mem M35) (N.mem M35) _ _ _ ((viewL xs).take kk) (Rd.cast (Rd.sub (hr.rd M35 (nthMem (i := 0) rfl)) 0 kk (by omega) (by omega) hcap) (take_map0 bodyCells (viewL xs) kk)) ho1 ht1 (by first | decide | omega)).mono ?_
      rintro _ w36 ⟨v36, rfl, ⟨rfl, hb36⟩⟩
      refine ⟨_, rfl, ?_⟩
      have M36 := M35.callB hb36
      refine wl_nil (thenN ⟨alN, ?_⟩)
      refine T_e (Ac_mk [] rfl (by kernel_rfl) ?_)
      refine wl_cal cal17 rfl rfl rfl ?_
      refine (me_Of _ (F.mem M36) (N.mem M36) _ _ _ ((viewL xs).drop kk) (Rd.cast (Rd.sub (hr.rd M36 (nthMem (i := 0) rfl)) kk r.n (by omega) (by omega) hcap) (drop_map1 bodyCells kk hrn)) ho2 ht2 (by first | decide | omega)).mono ?_
      rintro _ w37 ⟨v37, rfl, ⟨rfl, hb37⟩⟩
      refine ⟨_, rfl, ?_⟩
      have M37 := M36.callB hb37
      refine wl_nil (thenN ⟨alN, ?_⟩)
      refine T_e (Ac_mk [] rfl (by kernel_rfl) ?_)
      refine wl_cal cal21 rfl rfl rfl ?_
      refine (me_Merge _ (N.mem M37) (meOf ((viewL xs).take kk)) (meOf ((viewL xs).drop kk)) 40 40 ((okM_of ht1 ho1).mono hl1) ((okM_of ht2 ho2).mono hl2) (by decide) (by decide)).mono ?_
      rintro _ w38 ⟨v38, rfl, ⟨rfl, hb38⟩⟩
      refine ⟨_, rfl, ?_⟩
      have M38 := M37.callB hb38
      refine wl_nil (thenN ⟨alN, ?_⟩)
      refine T_re 39 ((.agg (meCells (mergeM (meOf ((viewL xs).take kk)) (meOf ((viewL xs).drop kk)))).toArray)) rfl ?_
      refine T_e (Ac_mk [] rfl (by kernel_rfl) ?_)
      refine wl_stW 2 _ agg36 M38 rfl rfl rfl rfl rfl (ones_of rfl) rfl (fun w39 M39 => ?_)
      refine wl_nil (thenN ⟨alN, ?_⟩)
      refine T_nil ?_
      refine thenN ?_
      refine W_seq ?_
      refine W_draw [(0, 0), (3, 0), (4, 0), (5, 0), (8, 0), (9, 0), (10, 0), (1, 2), (2, 0), (6, 2), (7, 0), (11, 2), (12, 0), (13, 0), (14, 0), (15, 0)] mixed rfl (by kernel_rfl) (fun w40 hb40 hh40 => ?_)
      have M40 := M39.drew hb40 hh40
      refine D_p rfl rfl rfl (fun _ => r_move (.slice _ _ _) rfl) ?_
      refine D_p rfl rfl rfl (fun _ => r_move (.slice _ _ _) rfl) ?_
      refine D_p rfl rfl rfl (fun _ => r_move (.int _ _) rfl) ?_
      refine D_p rfl rfl rfl (fun _ => r_slice (0) ((kk : Int)) sl22 rfl rfl ⟨_, rfl⟩ (by decide) (by omega) (by omega)) ?_
      refine D_p rfl rfl rfl (fun _ => r_move (.slice _ _ _) rfl) ?_
      refine D_p rfl rfl rfl (fun _ => r_move (.int _ _) rfl) ?_
      refine D_p rfl rfl rfl (fun _ => r_slice ((kk : Int)) ((r.n : Int)) sl22 rfl ⟨_, rfl⟩ rfl (by omega) (by omega) (by omega)) ?_
      refine D_e [] rfl (by kernel_rfl) ?_
      refine wl_cal cal22 rfl rfl rfl ?_
      refine (ref15_All _ _ _ _ (viewL xs) (hr.rd M40 (nthMem (i := 0) rfl)) hvo hvs (by first | decide | omega)).mono ?_
      rintro _ w41 ⟨v41, rfl, ⟨r4, rfl, hr4, hM41⟩⟩
      refine ⟨_, rfl, ?_⟩
      have M41 : Mem _ _ [_, _, _, _] _ := M40.call0 hM41
      have hq4 : (allC (viewL xs)).length = r4.n := by simpa using hr4.1
      refine wl_nil (thenN ⟨alN, ?_⟩)
      refine D_p rfl rfl rfl (fun _ => r_lenS Tryz.underlying45 rfl) ?_
      refine D_e [] rfl (by kernel_rfl) ?_
      refine wl_cal cal22 rfl rfl rfl ?_
      refine (ref15_All _ _ _ _ ((viewL xs).take kk) (Rd.cast (Rd.sub (hr.rd M41 (nthMem (i := 0) rfl)) 0 kk (by omega) (by omega) hcap) (take_map0 bodyCells (viewL xs) kk)) ho1 ht1 (by first | decide | omega)).mono ?_
      rintro _ w42 ⟨v42, rfl, ⟨r5, rfl, hr5, hM42⟩⟩
      refine ⟨_, rfl, ?_⟩
      have M42 : Mem _ _ [_, _, _, _, _] _ := M41.call0 hM42
      have hq5 : (allC ((viewL xs).take kk)).length = r5.n := by simpa using hr5.1
      refine wl_nil (thenN ⟨alN, ?_⟩)
      refine D_p rfl rfl rfl (fun _ => r_lenS Tryz.underlying45 rfl) ?_
      refine D_e [] rfl (by kernel_rfl) ?_
      refine wl_cal cal22 rfl rfl rfl ?_
      refine (ref15_All _ _ _ _ ((viewL xs).drop kk) (Rd.cast (Rd.sub (hr.rd M42 (nthMem (i := 0) rfl)) kk r.n (by omega) (by omega) hcap) (drop_map1 bodyCells kk hrn)) ho2 ht2 (by first | decide | omega)).mono ?_
      rintro _ w43 ⟨v43, rfl, ⟨r6, rfl, hr6, hM43⟩⟩
      refine ⟨_, rfl, ?_⟩
      have M43 : Mem _ _ [_, _, _, _, _, _] _ := M42.call0 hM43
      have hq6 : (allC ((viewL xs).drop kk)).length = r6.n := by simpa using hr6.1
      have hs4 := allC_sq (xs := (viewL xs))
      have hs5 := allC_sq (xs := ((viewL xs).take kk))
      have hs6 := allC_sq (xs := ((viewL xs).drop kk))
      have hw4 := Nat.mul_le_mul hvl hvl
      have hw5 := Nat.mul_le_mul hl1 hl1
      have hw6 := Nat.mul_le_mul hl2 hl2
      refine wl_nil (thenN ⟨alN, ?_⟩)
      refine D_p rfl rfl rfl (fun _ => r_lenS Tryz.underlying45 rfl) ?_
      refine D_p rfl rfl rfl (fun _ => r_add rfl rfl (by omega) (by omega)) ?_
      refine D_p rfl rfl rfl (fun _ => r_bin (.bool (decide _)) rfl rfl rfl) ?_
      refine D_p rfl rfl rfl (fun _ => r_assign (.bool (decide _)) rfl) ?_
      refine D_nil ?_
      refine thenN ?_
      refine W_seq ?_
      refine W_seq ?_
      refine W_region ?_
      refine wl_q (r_move (.bool (decide _)) rfl) rfl rfl ?_
      refine wl_nil ?_
      refine thenN ?_
      refine W_condD rfl (fun h55 => ?_) (fun h55 => ?_)
      · skip
        refine W_seq ?_
        refine W_region ?_
        refine wl_q (r_ldW 1 agg36 M43 rfl rfl rfl) rfl rfl ?_
        refine wl_q (r_ldW 2 agg36 M43 rfl rfl rfl) rfl rfl ?_
        refine wl_q (r_eqA (eqMe (meOf (viewL xs)) (mergeM (meOf ((viewL xs).take kk)) (meOf ((viewL xs).drop kk)))) rfl rfl) rfl rfl ?_
        refine wl_re 58 (.bool true) (bT (sums_apart hvs hvo (by omega))).symm ?_
        refine wl_q (r_assign (.bool true) rfl) rfl rfl ?_
        refine wl_nil ?_
        refine thenN ?_
        refine W_ret ?_
        refine thenR ?_
        skip
        refine fin1 (.bool true) rfl ?_
        exact ⟨rfl, M43.below⟩
      · skip
        refine W_skip ?_
        refine thenN ?_
        refine W_seq ?_
        refine W_region ?_
        refine wl_q (r_fieldAddr 9 fld36_6 rfl) rfl rfl ?_
        refine wl_q (r_ld 1 (.int _ _) one2 M43 rfl rfl rfl) rfl rfl ?_
        refine wl_q (r_fieldAddr 9 fld36_6 rfl) rfl rfl ?_
        refine wl_st 2 (.int _ _) one2 M43 rfl rfl rfl rfl rfl rfl (fun w44 M44 => ?_)
        refine wl_nil ?_
        refine thenN ?_
        refine W_seq ?_
        refine W_region ?_
        refine wl_q (r_ldW 1 agg36 M44 rfl rfl rfl) rfl rfl ?_
        refine wl_q (r_ldW 2 agg36 M44 rfl rfl rfl) rfl rfl ?_
        refine wl_q (r_eqA (eqMe (meOf (viewL xs)) { mergeM (meOf ((viewL xs).take kk)) (meOf ((viewL xs).drop kk)) with ov := (meOf (viewL xs)).ov }) rfl rfl) rfl rfl ?_
        refine wl_re 64 (.bool true) (bT (sums_any hvo kk)).symm ?_
        refine wl_q (r_assign (.bool true) rfl) rfl rfl ?_
        refine wl_nil ?_
        refine thenN ?_
        refine W_ret ?_
        skip
        refine fin1 (.bool true) rfl ?_
        exact ⟨rfl, M44.below⟩

end Go.Proofs.YtmcddmhkjcgneaaGreatDoor

set_option linter.unusedVariables false
set_option linter.unusedSimpArgs false
set_option linter.unnecessarySimpa false
namespace Go.Proofs.YtmcddmhkjcgneaaGreatDoor
open Go.Bil
open Go.RowKit (Below)
open Go.Proofs

namespace measureSums
open Go.ChangeShapes Go.WideShapes Go.ChangeAt Go.RowKit
open Go.ChangeMaps (open_string shut_string)
theorem own : ownKnob Tryz.prog.godebug = none := by kernel_rfl
theorem laidOut : laidOutB Tryz.prog = true := by kernel_rfl
set_option maxRecDepth 100000 in
theorem lifted (os : Os) (started : os.Started) (H : Type) (enc : TypeId × Value → H) :
    ReturnsInHanded {} Tryz.checked os 4 .any (fun w args => (Rows.measureSumsSpec.pre enc Tryz.prog Tryz.f4 [] false w args ∧ laidMet Tryz.prog laidL w) ∧ sizedMet enc Tryz.prog Tryz.f4 (OpenSpec.ofChange Rows.measureSumsSpec) false w args) (Rows.measureSumsSpec.post enc Tryz.prog Tryz.f4 false true false false) := by
  refine returnsInHanded_of_change_and (C := Tryz.checked) (X := fun w _ => laidMet Tryz.prog laidL w) (fun _ _ _ hh h => h.of_heap hh) own started (by kernel_rfl) Tryz.func4
    (ChangeSpec.witness_at (enc := enc) (C := Tryz.checked) (os := os) (X := fun w _ => laidMet Tryz.prog laidL w) false (laidWorld os) #[.slice none 0 0, .int .u8 0] 8 rfl (by kernel_rfl) (by kernel_rfl) (by kernel_rfl) (by kernel_rfl) (by kernel_rfl) (laidMet_of_run' 8 (by kernel_rfl) (by kernel_rfl))) ?_
  intro W base args ds gs before hval0 hW hcnd hsz0 hL _
  have hsz : (DataW.weightsEach Tryz.prog (Tryz.f4.params.toList ++ Rows.measureSumsSpec.plain.varTypes Tryz.prog) (ds ++ gs)).all (· ≤ reachBytes) = true := hsz0
  have hval : ∀ (j : Nat) t v, Tryz.f4.params[j]? = some t → args[j]? = some v → Value.okWide Tryz.prog W .any base t v := hval0
  have hW' := hW
  obtain ⟨p, q, hA0, hV, rfl, hfz, hnd⟩ := hW
  have hA : DataW.TrodAll enc Tryz.prog W 0 (fun _ => true) true Tryz.f4.params.toList args.toList ds p := hA0
  rw [Tryz.params4] at hA hval hsz
  obtain ⟨v0, vs0, d0, ds0, p0, q0, hargs, rfl, rfl, h0, r0⟩ := trodAll_cons hA
  obtain ⟨v1, vs1, d1, ds1, p1, q1, rfl, rfl, rfl, h1, r1⟩ := trodAll_cons r0
  obtain ⟨rfl, rfl, rfl⟩ := trodAll_nil r1
  obtain rfl : args = #[v0, v1] := by cases args; simp_all
  obtain ⟨rfl, rfl⟩ := trodVars_none hV
  have k0 := h0
  have lt0 : ∀ x ∈ p0, x.block < W.heap.size := by obtain ⟨m, hm⟩ := k0; exact DataW.trod_lt m _ _ _ hm
  obtain ⟨a0, len0, cap0, rfl⟩ := okWide_slice Tryz.underlying22 (hval 0 22 v0 rfl rfl)
  have y0 := sized_rows hsz (j := 0) (t := 22) rfl rfl sl22 h0
  obtain ⟨ls0, R0, hi0⟩ := open_rows sl22 leaves32 rfl y0 h0
  obtain ⟨xs0, rfl, hx0⟩ := list_of bodyOf ls0 hi0
  obtain ⟨a1, rfl, rfl, rfl, w1⟩ := open_int Tryz.underlying5 (hval 1 5 v1 rfl rfl) h1
  have b1 : 0 ≤ a1 ∧ a1 ≤ 255 := wf_int w1
  clear hA0 hval0 hsz0 hsz
  obtain ⟨t1, rfl⟩ := Int.eq_ofNat_of_zero_le b1.1
  refine (law_MeasureSums W (rdF hL) (rdN hL) t1 (by omega) _ _ _ xs0 R0).mono fun e W' ⟨v, he, hv, bel⟩ => ?_
  subst he
  subst hv
  exact ⟨_, rfl, _, _, _, [], _, [], hW', trodAll_mk1 (shut_bool Tryz.underlying4 _), (trodAll_cons_mk (Below.trod laidOut (by kernel_rfl) (of_decide_eq_true (by kernel_rfl)) k0 bel lt0) (trodAll_cons_mk (shut_int Tryz.underlying5 w1) trodAll_mk0)), rfl, bel.frame _, fun h => by cases h⟩
theorem over : Rows.measureSumsRow.holds Tryz.pinned (OpenSpec.ofChange Rows.measureSumsSpec) :=
  OpenClaim.holds_of_wide 4 Tryz.f4 rfl rfl rfl rfl rfl rfl rfl ⟨rfl, rfl, rfl, rfl, rfl⟩ rfl rfl rfl rfl rfl (by kernel_rfl) Tryz.func4 (by kernel_rfl)
    (of_decide_eq_true (by kernel_rfl)) (by unfold Func.isWrapper; first | (rw [if_pos (by decide +kernel)]; kernel_rfl) | (rw [if_neg (by decide +kernel)]; exact ⟨rfl, rfl⟩))
    (fun os started H enc _ => lifted os started H enc)
end measureSums
theorem measureSums_holds : Rows.MeasureSumsSaid := measureSums.over
#print axioms measureSums_holds
theorem measureSums_card : Rows.MeasureSumsCardSaid :=
  Claim7.holds_tied_plain_at .later [] [.data, .data] true (true, "9f8295c113a943455c4832a95346352d7118fae4d0dcf065aaf106ad8bcb4f65") false
    measureSums_holds (fun _ h => by cases h) (by kernel_rfl) (fun _ h => by cases h) measureSums_row_tie rfl ⟨rfl, rfl⟩ (by kernel_rfl) rfl
    (fun f fn hf hfn => by
      obtain rfl : f = 4 := Option.some.inj ((show Tryz.prog.funcNamed "billiard/billiardlaw26.MeasureSums" = some 4 by kernel_rfl).symm.trans hf) |>.symm
      obtain rfl : fn = Tryz.f4 := (Option.some.inj (Tryz.func4.symm.trans hfn)).symm
      exact ⟨by kernel_rfl, fun j t ht => by
        rw [Tryz.params4] at ht
        have hm : t ∈ [22, 5] := by simpa using Array.mem_of_getElem? ht
        have hall : ([22, 5].all fun u => !Tryz.prog.wantsStandIn u) = true := by kernel_rfl
        exact (show Tryz.prog.wantsStandIn t = false by simpa using List.all_eq_true.1 hall t hm)⟩)
    (by kernel_rfl)
#print axioms measureSums_card

end Go.Proofs.YtmcddmhkjcgneaaGreatDoor
