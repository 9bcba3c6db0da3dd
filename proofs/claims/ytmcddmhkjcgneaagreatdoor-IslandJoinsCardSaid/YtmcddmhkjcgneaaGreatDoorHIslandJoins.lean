import Derived.Test.YtmcddmhkjcgneaaGreatDoorK5
import Derived.Test.YtmcddmhkjcgneaaGreatDoorK29
import Derived.Test.YtmcddmhkjcgneaaGreatDoorK23
import Derived.Test.YtmcddmhkjcgneaaGreatDoorK16
import Derived.Test.YtmcddmhkjcgneaaGreatDoorRows
import Derived.Test.YtmcddmhkjcgneaaGreatDoorK30
import Derived.Test.YtmcddmhkjcgneaaGreatDoorTie
import Derived.Test.YtmcddmhkjcgneaaGreatDoorCards
import Derived.WalkKit
import Derived.ProofKit
import Derived.OpenShut
import Derived.ShutString
import Derived.ChangeOld
import Derived.Below
import Derived.SizedLaws
/- Walks of Go functions over the frame of this claim: what each computes, for every input of the stated types (LIslandJoins). -/
set_option linter.unusedVariables false
set_option linter.unusedSimpArgs false
set_option linter.unnecessarySimpa false
namespace Go.Proofs.YtmcddmhkjcgneaaGreatDoor
open Go.Bil
open Go.RowKit (Below)
open Go.Proofs

set_option maxHeartbeats 16000000 in
theorem law_IslandJoins (w : World) (F : Rd w 2 (some ⟨1, 0, none⟩) 1 [[.int .u32 73856093, .int .u32 19349663]]) (N : Rd w 4 (some ⟨0, 0, none⟩) 1 [bxCells noneB]) (A : Option Addr) (n c : Nat) (xs : List Body) (R : Rd w 10 A n (xs.map bodyCells)) (B : Option Addr) (mc c' : Nat) (cs : List Con) (R' : Rd w 5 B mc (cs.map conCells)) (hkx : ∀ b ∈ xs, 0 ≤ b.key) (x : Con) :
    Calls Tryz.prog 11 #[.slice A n c, .slice B mc c', .agg (conCells x).toArray] w (fun ex w' => ∃ v, ex = .returned v ∧ (fun v w' => v = .bool true ∧ Below w.heap.size w w') v w') := by
  have hlen : xs.length = n := by simpa using R.len
  have hbd := R.bound
  refine calls_of_W #[.tmp 6] 92 Tryz.func11 rfl Tryz.results11 Tryz.ntmps11 rfl ?_
  have M0 := Mem.refl w
  refine W_seq ?_
  refine W_region ?_
  refine wl_box (.agg (List.toArray _)) M0 rfl rfl rfl (fun b1 w1 M1 => ?_)
  refine wl_q (r_assign (.bool false) rfl) rfl rfl ?_
  refine wl_nil ?_
  refine thenN ?_
  refine W_seq ?_
  refine W_region ?_
  refine wl_q (r_move (.slice _ _ _) rfl) rfl rfl ?_
  refine wl_cal cal14 rfl rfl rfl ?_
  refine (ref11_View _ _ _ _ xs (R.mem M1)).mono ?_
  rintro _ w2 ⟨v2, rfl, ⟨r, rfl, hr, hM2⟩⟩
  refine ⟨_, rfl, ?_⟩
  have M2 : Mem _ _ [_, _] _ := M1.call0 hM2
  refine wl_q (r_move (.tuple (List.toArray _)) rfl) rfl rfl ?_
  refine wl_q (r_ext (.slice _ _ _) rfl rfl) rfl rfl ?_
  refine wl_q (r_ext (.bool (decide _)) rfl rfl) rfl rfl ?_
  refine wl_q (r_assign (.slice _ _ _) rfl) rfl rfl ?_
  refine wl_q (r_assign (.bool (decide _)) rfl) rfl rfl ?_
  refine wl_nil ?_
  refine thenN ?_
  refine W_seq ?_
  refine W_seq ?_
  refine W_region ?_
  refine wl_cal cal23 rfl rfl rfl ?_
  refine (aw25 _ (F.mem M2) (N.mem M2)).mono ?_
  rintro _ w3 ⟨v3, rfl, ⟨rfl, hb3⟩⟩
  refine ⟨_, rfl, ?_⟩
  have M3 := M2.callB hb3
  refine wl_q (r_notB false rfl rfl) rfl rfl ?_
  refine wl_q (r_move (.bool false) rfl) rfl rfl ?_
  refine wl_q (r_move (.bool (decide _)) rfl) rfl rfl ?_
  refine wl_q (r_not rfl) rfl rfl ?_
  refine wl_q (r_pick false (.bool (decide _)) rfl rfl) rfl rfl ?_
  refine wl_q (r_move (.bool (decide _)) rfl) rfl rfl ?_
  refine wl_splitD 24 rfl (fun g24 => ?_) (fun g24 => ?_)
  · skip
    refine wl_skip rfl rfl ?_
    refine wl_skip rfl rfl ?_
    refine wl_skip rfl rfl ?_
    refine wl_skip rfl rfl ?_
    refine wl_q (r_pick true (.bool true) rfl rfl) rfl rfl ?_
    refine wl_q (r_move (.bool true) rfl) rfl rfl ?_
    refine wl_skip rfl rfl ?_
    refine wl_skip rfl rfl ?_
    refine wl_skip rfl rfl ?_
    refine wl_skip rfl rfl ?_
    refine wl_skip rfl rfl ?_
    refine wl_q (r_pick true (.bool true) rfl rfl) rfl rfl ?_
    refine wl_nil ?_
    refine thenN ?_
    refine W_condT rfl ?_
    refine W_seq ?_
    refine W_region ?_
    refine wl_cal cal23 rfl rfl rfl ?_
    refine (aw25 _ (F.mem M3) (N.mem M3)).mono ?_
    rintro _ w4 ⟨v4, rfl, ⟨rfl, hb4⟩⟩
    refine ⟨_, rfl, ?_⟩
    have M4 := M3.callB hb4
    refine wl_q (r_assign (.bool true) rfl) rfl rfl ?_
    refine wl_nil ?_
    refine thenN ?_
    refine W_ret ?_
    refine thenR ?_
    skip
    refine fin1 (.bool true) rfl ?_
    exact ⟨rfl, M4.below⟩
  · skip
    refine wl_q (r_move (.slice _ _ _) rfl) rfl rfl ?_
    refine wl_q (r_move (.slice _ _ _) rfl) rfl rfl ?_
    refine wl_cal cal24 rfl rfl rfl ?_
    refine (ref25_Right _ _ _ _ (viewL xs) (hr.rd M3 (nthMem (i := 1) rfl)) _ _ _ cs (R'.mem M3)).mono ?_
    rintro _ w5 ⟨v5, rfl, ⟨rfl, hb5⟩⟩
    refine ⟨_, rfl, ?_⟩
    have M5 := M3.callB hb5
    refine wl_q (r_not rfl) rfl rfl ?_
    refine wl_q (r_pick false (.bool (decide _)) rfl rfl) rfl rfl ?_
    refine wl_q (r_move (.bool (decide _)) rfl) rfl rfl ?_
    refine wl_splitD 30 rfl (fun g30 => ?_) (fun g30 => ?_)
    · skip
      refine wl_skip rfl rfl ?_
      refine wl_skip rfl rfl ?_
      refine wl_skip rfl rfl ?_
      refine wl_skip rfl rfl ?_
      refine wl_skip rfl rfl ?_
      refine wl_q (r_pick true (.bool true) rfl rfl) rfl rfl ?_
      refine wl_nil ?_
      refine thenN ?_
      refine W_condT rfl ?_
      refine W_seq ?_
      refine W_region ?_
      refine wl_cal cal23 rfl rfl rfl ?_
      refine (aw25 _ (F.mem M5) (N.mem M5)).mono ?_
      rintro _ w6 ⟨v6, rfl, ⟨rfl, hb6⟩⟩
      refine ⟨_, rfl, ?_⟩
      have M6 := M5.callB hb6
      refine wl_q (r_assign (.bool true) rfl) rfl rfl ?_
      refine wl_nil ?_
      refine thenN ?_
      refine W_ret ?_
      refine thenR ?_
      skip
      refine fin1 (.bool true) rfl ?_
      exact ⟨rfl, M6.below⟩
    · skip
      refine wl_q (r_move (.slice _ _ _) rfl) rfl rfl ?_
      refine wl_q (r_ldW 0 agg63 M5 rfl rfl rfl) rfl rfl ?_
      refine wl_bslice [.agg (List.toArray _)] [conCells x] rfl sl45 M5 rfl rfl rfl rfl (lens_of rfl) (by decide) (fun b7 w7 M7 => ?_)
      have hlit33 := rowLit (T := 63) (b := b7) (([x] : List Con).map conCells) (cons_len _) rfl (Nat.le_of_ble_eq_true rfl)
      refine wl_cal cal24 rfl rfl rfl ?_
      refine (ref25_Right _ _ _ _ (viewL xs) (hr.rd M7 (nthMem (i := 1) rfl)) _ _ _ [x] (hlit33.rd M7 (nthMem (i := 2) rfl))).mono ?_
      rintro _ w8 ⟨v8, rfl, ⟨rfl, hb8⟩⟩
      refine ⟨_, rfl, ?_⟩
      have M8 := M7.callB hb8
      refine wl_q (r_not rfl) rfl rfl ?_
      refine wl_q (r_pick false (.bool (decide _)) rfl rfl) rfl rfl ?_
      refine wl_nil ?_
      refine thenN ?_
      refine W_condD rfl (fun h36 => ?_) (fun h36 => ?_)
      · skip
        refine W_seq ?_
        refine W_region ?_
        refine wl_cal cal23 rfl rfl rfl ?_
        refine (aw25 _ (F.mem M8) (N.mem M8)).mono ?_
        rintro _ w9 ⟨v9, rfl, ⟨rfl, hb9⟩⟩
        refine ⟨_, rfl, ?_⟩
        have M9 := M8.callB hb9
        refine wl_q (r_assign (.bool true) rfl) rfl rfl ?_
        refine wl_nil ?_
        refine thenN ?_
        refine W_ret ?_
        refine thenR ?_
        skip
        refine fin1 (.bool true) rfl ?_
        exact ⟨rfl, M9.below⟩
      · skip
        obtain ⟨hV, hve, hvk⟩ := view_of (Decidable.not_not.1 g24)
        have hvl := hV.len
        have hrn : (viewL xs).length = r.n := by simpa using hr.1
        have hvs := hV.s
        have hvo := hV.okb
        have hrt := Decidable.not_not.1 g30
        have hcs := hrt.1
        have hvn : ∀ b ∈ (viewL xs), 0 ≤ b.key := fun b hb => hkx b (by rw [hve] at hb; exact (sortB_perm xs).mem_iff.1 hb)
        have hclen : cs.length = mc := by simpa using R'.len
        have hbd' := R'.bound
        have hfs := fun l => @forest_fst (viewL xs) hvn l
        have hrx := (Decidable.not_not.1 h36).2 x (by simp)
        refine W_skip ?_
        refine thenN ?_
        refine W_seq ?_
        refine W_region ?_
        refine wl_q (r_move (.slice _ _ _) rfl) rfl rfl ?_
        refine wl_q (r_move (.slice _ _ _) rfl) rfl rfl ?_
        refine wl_cal cal26 rfl rfl rfl ?_
        refine (isl_Of _ _ _ _ (viewL xs) (hr.rd M8 (nthMem (i := 1) rfl)) _ _ _ cs (R'.mem M8) hvo hvs (by omega) hvn).mono ?_
        rintro _ w10 ⟨v10, rfl, ⟨q0, rs0, rfl, hq0, hI0, hM10⟩⟩
        refine ⟨_, rfl, ?_⟩
        have M10 : Mem _ _ ([_, _, _, _] ++ _) _ := Mem.front (L := [_, _, _]) (M8.call0T (A := [_]) hM10)
        have hIl0 := hI0.len
        have hqn0 : rs0.length = q0.n := by simpa using hq0.1
        refine wl_q (r_assign (.slice _ _ _) rfl) rfl rfl ?_
        refine wl_nil ?_
        refine thenN ?_
        refine W_seq ?_
        refine W_tree (.op 0 0 (.op 2 0 (.op 4 1 (.fork 1 5 (.fork 3 5 (.op 5 2 (.op 6 2 (.op 7 2 (.op 8 0 .done)))) (.op 3 2 (.op 6 2 (.op 7 2 (.op 8 0 .done))))) (.op 1 2 (.op 3 2 (.op 6 2 (.op 7 2 (.op 8 0 .done))))))))) mixed rfl (by kernel_rfl) (fun w11 hb11 hh11 => ?_)
        have M11 := M10.drew hb11 hh11
        refine T_p rfl rfl rfl (fun _ => r_move (.slice _ _ _) rfl) ?_
        refine T_p rfl rfl rfl (fun _ => r_move (.slice _ _ _) rfl) ?_
        refine T_r rfl rfl rfl (r_ldW 0 agg63 M11 rfl rfl rfl) ?_
        refine T_fork (Ac_mk [false] rfl (by kernel_rfl) ?_) (Ac_mk [true] rfl (by kernel_rfl) ?_)
        · skip
          refine wl_bslice [] [] rfl sl45 M11 rfl rfl rfl rfl (lens_of rfl) (by decide) (fun b12 w12 M12 => ?_)
          have M13 : Mem _ _ ([_, _, _, _, _] ++ _) _ := Mem.front (L := [_, _, _, _]) M12
          refine wl_nil (thenN ⟨(alC (Yl_of rfl (r_ldW 0 agg63 M13 rfl rfl rfl)) alN), ?_⟩)
          refine T_fork (Ac_mk [false] rfl (by kernel_rfl) ?_) (Ac_mk [true] rfl (by kernel_rfl) ?_)
          · skip
            refine wl_appendR 4 (cs.map conCells) sl45 M13 rfl rfl rfl rfl rfl (RowIs.empty b12) (R'.mem M13) (cons_one cs) (by omega) (fun A14 c14 e14 w14 M14 hR14 hA14 => ?_)
            refine wl_nil (thenN ⟨(alC (Yl_of rfl (r_ldW 0 agg63 M14 rfl rfl rfl)) alN), ?_⟩)
            refine T_e (Ac_mk [true] rfl (by kernel_rfl) ?_)
            refine wl_bslice [.agg (List.toArray _)] [conCells x] rfl sl45 M14 rfl rfl rfl rfl (lens_of rfl) (by decide) (fun b15 w15 M15 => ?_)
            have M16 : Mem _ _ ([_, _, _, _, _, _] ++ _) _ := Mem.front (L := [_, _, _, _, _]) M15
            refine wl_nil (thenN ⟨alN, ?_⟩)
            refine T_e (Ac_mk [] rfl (by kernel_rfl) ?_)
            refine wl_append 4 [conCells x] sl45 M16 rfl rfl rfl rfl rfl hR14 rfl (by simp [conCells, Go.Bil.one]) (Cells.ofMem 5 M16 rfl) (by omega) (fun A17 c17 e17 w17 M17 hR17 => ?_)
            refine wl_nil (thenN ⟨alN, ?_⟩)
            have hJx := hR17
            rw [List.nil_append, show cs.map conCells ++ [conCells x] = (cs ++ [x]).map conCells by simp] at hJx
            refine T_e (Ac_mk [] rfl (by kernel_rfl) ?_)
            refine wl_cal cal26 rfl rfl rfl ?_
            refine (isl_Of _ _ _ _ (viewL xs) (hr.rd M17 (nthMem (i := 1) rfl)) _ _ _ (cs ++ [x]) (hJx.rd M17 (nthMem (i := 4) rfl)) hvo hvs (by omega) hvn).mono ?_
            rintro _ w18 ⟨v18, rfl, ⟨q1, rs1, rfl, hq1, hI1, hM18⟩⟩
            refine ⟨_, rfl, ?_⟩
            have M18 : Mem _ _ ([_, _, _, _, _, _, _] ++ _) _ := Mem.front (L := [_, _, _, _, _, _]) (Mem.call0U (L := [_, _, _, _, _, _]) (A := [_]) M17 hM18)
            have hIl1 := hI1.len
            have hqn1 : rs1.length = q1.n := by simpa using hq1.1
            refine wl_nil (thenN ⟨alN, ?_⟩)
            refine T_p rfl rfl rfl (fun _ => r_assign (.slice _ _ _) rfl) ?_
            refine T_nil ?_
            refine thenN ?_
            refine W_seq ?_
            refine W_region ?_
            refine wl_q (r_move (.slice _ _ _) rfl) rfl rfl ?_
            refine wl_q (r_fieldAddr 0 fld63_0 rfl) rfl rfl ?_
            refine wl_q (r_fieldAddr 0 fld61_0 rfl) rfl rfl ?_
            refine wl_q (r_ld 0 (.int _ _) one30 M18 rfl rfl rfl) rfl rfl ?_
            refine wl_cal cal29 rfl rfl rfl ?_
            refine (isl_Find _ x.low _ _ _ rs0 (islL (forestOf (viewL xs) cs) (viewL xs)) (hI0.rd hq0 M18 (nthMem (i := 3) rfl) (fun r hr => List.mem_append_right _ (List.mem_append_left _ (List.mem_map_of_mem hr))))).mono ?_
            rintro _ w19 ⟨v19, rfl, ⟨rfl, hb19⟩⟩
            refine ⟨_, rfl, ?_⟩
            have M19 := M18.callB hb19
            refine wl_q (r_assign (.int _ _) rfl) rfl rfl ?_
            refine wl_nil ?_
            refine thenN ?_
            refine W_seq ?_
            refine W_region ?_
            refine wl_q (r_move (.slice _ _ _) rfl) rfl rfl ?_
            refine wl_q (r_fieldAddr 0 fld63_0 rfl) rfl rfl ?_
            refine wl_q (r_fieldAddr 1 fld61_1 rfl) rfl rfl ?_
            refine wl_q (r_ld 0 (.int _ _) one30 M19 rfl rfl rfl) rfl rfl ?_
            refine wl_cal cal29 rfl rfl rfl ?_
            refine (isl_Find _ x.high _ _ _ rs0 (islL (forestOf (viewL xs) cs) (viewL xs)) (hI0.rd hq0 M19 (nthMem (i := 3) rfl) (fun r hr => List.mem_append_right _ (List.mem_append_left _ (List.mem_map_of_mem hr))))).mono ?_
            rintro _ w20 ⟨v20, rfl, ⟨rfl, hb20⟩⟩
            refine ⟨_, rfl, ?_⟩
            have M20 := M19.callB hb20
            refine wl_q (r_assign (.int _ _) rfl) rfl rfl ?_
            refine wl_nil ?_
            refine thenN ?_
            refine W_seq ?_
            refine W_seq ?_
            refine W_region ?_
            refine wl_q (r_move (.int _ _) rfl) rfl rfl ?_
            refine wl_q (r_bin (.bool (decide _)) rfl rfl rfl) rfl rfl ?_
            refine wl_q (r_move (.bool (decide _)) rfl) rfl rfl ?_
            refine wl_splitD 61 rfl (fun g61 => ?_) (fun g61 => ?_)
            · skip
              refine wl_skip rfl rfl ?_
              refine wl_skip rfl rfl ?_
              refine wl_q (r_pick true (.bool true) rfl rfl) rfl rfl ?_
              refine wl_q (r_move (.bool true) rfl) rfl rfl ?_
              refine wl_skip rfl rfl ?_
              refine wl_skip rfl rfl ?_
              refine wl_skip rfl rfl ?_
              refine wl_q (r_pick true (.bool true) rfl rfl) rfl rfl ?_
              refine wl_nil ?_
              refine thenN ?_
              refine W_condT rfl ?_
              refine W_seq ?_
              refine W_region ?_
              refine wl_q (r_move (.slice _ _ _) rfl) rfl rfl ?_
              refine wl_q (r_move (.slice _ _ _) rfl) rfl rfl ?_
              refine wl_cal cal25 rfl rfl rfl ?_
              refine (ref25_Same _ _ _ _ rs0 (islL (forestOf (viewL xs) cs) (viewL xs)) (hI0.rd hq0 M20 (nthMem (i := 3) rfl) (fun r hr => List.mem_append_right _ (List.mem_append_left _ (List.mem_map_of_mem hr)))) _ _ _ rs1 (islL (forestOf (viewL xs) (cs ++ [x])) (viewL xs)) (hI1.rd hq1 M20 (nthMem (i := 6) rfl) (fun r hr => List.mem_append_right _ (List.mem_append_right _ (List.mem_map_of_mem hr))))).mono ?_
              rintro _ w21 ⟨v21, rfl, ⟨rfl, hb21⟩⟩
              refine ⟨_, rfl, ?_⟩
              have M21 := M20.callB hb21
              refine wl_re 72 (.bool true) (bT (by rw [forest_app]; exact join_stay (hfs cs) hvs hrx.l hrx.h (by omega))).symm ?_
              refine wl_q (r_assign (.bool true) rfl) rfl rfl ?_
              refine wl_nil ?_
              refine thenN ?_
              refine W_ret ?_
              refine thenR ?_
              skip
              refine fin1 (.bool true) rfl ?_
              exact ⟨rfl, M21.below⟩
            · skip
              refine wl_q (r_move (.int _ _) rfl) rfl rfl ?_
              refine wl_q (r_bin (.bool (decide _)) rfl rfl rfl) rfl rfl ?_
              refine wl_q (r_pick false (.bool (decide _)) rfl rfl) rfl rfl ?_
              refine wl_q (r_move (.bool (decide _)) rfl) rfl rfl ?_
              refine wl_splitD 65 rfl (fun g65 => ?_) (fun g65 => ?_)
              · skip
                refine wl_skip rfl rfl ?_
                refine wl_skip rfl rfl ?_
                refine wl_skip rfl rfl ?_
                refine wl_q (r_pick true (.bool true) rfl rfl) rfl rfl ?_
                refine wl_nil ?_
                refine thenN ?_
                refine W_condT rfl ?_
                refine W_seq ?_
                refine W_region ?_
                refine wl_q (r_move (.slice _ _ _) rfl) rfl rfl ?_
                refine wl_q (r_move (.slice _ _ _) rfl) rfl rfl ?_
                refine wl_cal cal25 rfl rfl rfl ?_
                refine (ref25_Same _ _ _ _ rs0 (islL (forestOf (viewL xs) cs) (viewL xs)) (hI0.rd hq0 M20 (nthMem (i := 3) rfl) (fun r hr => List.mem_append_right _ (List.mem_append_left _ (List.mem_map_of_mem hr)))) _ _ _ rs1 (islL (forestOf (viewL xs) (cs ++ [x])) (viewL xs)) (hI1.rd hq1 M20 (nthMem (i := 6) rfl) (fun r hr => List.mem_append_right _ (List.mem_append_right _ (List.mem_map_of_mem hr))))).mono ?_
                rintro _ w22 ⟨v22, rfl, ⟨rfl, hb22⟩⟩
                refine ⟨_, rfl, ?_⟩
                have M22 := M20.callB hb22
                refine wl_re 72 (.bool true) (bT (by rw [forest_app]; exact join_stay (hfs cs) hvs hrx.l hrx.h (by omega))).symm ?_
                refine wl_q (r_assign (.bool true) rfl) rfl rfl ?_
                refine wl_nil ?_
                refine thenN ?_
                refine W_ret ?_
                refine thenR ?_
                skip
                refine fin1 (.bool true) rfl ?_
                exact ⟨rfl, M22.below⟩
              · skip
                refine wl_q (r_move (.int _ _) rfl) rfl rfl ?_
                refine wl_q (r_move (.int _ _) rfl) rfl rfl ?_
                refine wl_q (r_bin (.bool (decide _)) rfl rfl rfl) rfl rfl ?_
                refine wl_q (r_pick false (.bool (decide _)) rfl rfl) rfl rfl ?_
                refine wl_nil ?_
                refine thenN ?_
                refine W_condD rfl (fun h69 => ?_) (fun h69 => ?_)
                · skip
                  refine W_seq ?_
                  refine W_region ?_
                  refine wl_q (r_move (.slice _ _ _) rfl) rfl rfl ?_
                  refine wl_q (r_move (.slice _ _ _) rfl) rfl rfl ?_
                  refine wl_cal cal25 rfl rfl rfl ?_
                  refine (ref25_Same _ _ _ _ rs0 (islL (forestOf (viewL xs) cs) (viewL xs)) (hI0.rd hq0 M20 (nthMem (i := 3) rfl) (fun r hr => List.mem_append_right _ (List.mem_append_left _ (List.mem_map_of_mem hr)))) _ _ _ rs1 (islL (forestOf (viewL xs) (cs ++ [x])) (viewL xs)) (hI1.rd hq1 M20 (nthMem (i := 6) rfl) (fun r hr => List.mem_append_right _ (List.mem_append_right _ (List.mem_map_of_mem hr))))).mono ?_
                  rintro _ w23 ⟨v23, rfl, ⟨rfl, hb23⟩⟩
                  refine ⟨_, rfl, ?_⟩
                  have M23 := M20.callB hb23
                  refine wl_re 72 (.bool true) (bT (by rw [forest_app]; exact join_stay (hfs cs) hvs hrx.l hrx.h (by omega))).symm ?_
                  refine wl_q (r_assign (.bool true) rfl) rfl rfl ?_
                  refine wl_nil ?_
                  refine thenN ?_
                  refine W_ret ?_
                  refine thenR ?_
                  skip
                  refine fin1 (.bool true) rfl ?_
                  exact ⟨rfl, M23.below⟩
                · skip
                  obtain ⟨hj1, hj2⟩ := join_two (hfs cs) hvs hrx.l hrx.h (by omega) (by omega) h69
                  rw [← forest_app] at hj1 hj2
                  have hb0 := hq0.2.2.1
                  have hb1 := hq1.2.2.1
                  refine W_skip ?_
                  refine thenN ?_
                  refine W_seq ?_
                  refine W_draw [(0, 0), (1, 0), (2, 0), (3, 0), (4, 0), (5, 0), (6, 0), (7, 0), (8, 0), (9, 0), (10, 1), (12, 0), (13, 0), (14, 0), (15, 1), (11, 2), (16, 2), (17, 0), (18, 0), (19, 0)] mixed rfl (by kernel_rfl) (fun w24 hb24 hh24 => ?_)
                  have M24 := M20.drew hb24 hh24
                  refine D_p rfl rfl rfl (fun _ => r_move (.slice _ _ _) rfl) ?_
                  refine D_p rfl rfl rfl (fun _ => r_lenS Tryz.underlying50 rfl) ?_
                  refine D_p rfl rfl rfl (fun _ => r_move (.slice _ _ _) rfl) ?_
                  refine D_p rfl rfl rfl (fun _ => r_lenS Tryz.underlying50 rfl) ?_
                  refine D_p rfl rfl rfl (fun _ => r_sub rfl rfl (by omega) (by omega)) ?_
                  refine D_p rfl rfl rfl (fun _ => r_bin (.bool (decide _)) rfl rfl rfl) ?_
                  refine D_re 78 (.bool true) (bT (by omega)).symm ?_
                  refine D_p rfl rfl rfl (fun _ => r_move (.bool true) rfl) ?_
                  refine D_p rfl rfl rfl (fun _ => r_move (.slice _ _ _) rfl) ?_
                  refine D_p rfl rfl rfl (fun _ => r_fieldAddr 0 fld63_0 rfl) ?_
                  refine D_p rfl rfl rfl (fun _ => r_fieldAddr 0 fld61_0 rfl) ?_
                  refine D_r rfl rfl rfl (r_ld 0 (.int _ _) one30 M24 rfl rfl rfl) ?_
                  refine D_p rfl rfl rfl (fun _ => r_move (.slice _ _ _) rfl) ?_
                  refine D_p rfl rfl rfl (fun _ => r_fieldAddr 0 fld63_0 rfl) ?_
                  refine D_p rfl rfl rfl (fun _ => r_fieldAddr 1 fld61_1 rfl) ?_
                  refine D_r rfl rfl rfl (r_ld 0 (.int _ _) one30 M24 rfl rfl rfl) ?_
                  refine D_e [false, true] rfl (by kernel_rfl) ?_
                  refine wl_cal cal29 rfl rfl rfl ?_
                  refine (isl_Find _ x.low _ _ _ rs1 (islL (forestOf (viewL xs) (cs ++ [x])) (viewL xs)) (hI1.rd hq1 M24 (nthMem (i := 6) rfl) (fun r hr => List.mem_append_right _ (List.mem_append_right _ (List.mem_map_of_mem hr))))).mono ?_
                  rintro _ w25 ⟨v25, rfl, ⟨rfl, hb25⟩⟩
                  refine ⟨_, rfl, ?_⟩
                  have M25 := M24.callB hb25
                  refine wl_nil (thenN ⟨(alC (Yl_of rfl (r_ld 0 (.int _ _) one30 M25 rfl rfl rfl)) alN), ?_⟩)
                  refine D_e [true] rfl (by kernel_rfl) ?_
                  refine wl_cal cal29 rfl rfl rfl ?_
                  refine (isl_Find _ x.high _ _ _ rs1 (islL (forestOf (viewL xs) (cs ++ [x])) (viewL xs)) (hI1.rd hq1 M25 (nthMem (i := 6) rfl) (fun r hr => List.mem_append_right _ (List.mem_append_right _ (List.mem_map_of_mem hr))))).mono ?_
                  rintro _ w26 ⟨v26, rfl, ⟨rfl, hb26⟩⟩
                  refine ⟨_, rfl, ?_⟩
                  have M26 := M25.callB hb26
                  refine wl_nil (thenN ⟨alN, ?_⟩)
                  refine D_p rfl rfl rfl (fun _ => r_bin (.bool (decide _)) rfl rfl rfl) ?_
                  refine D_re 90 (.bool true) (bT hj2).symm ?_
                  refine D_p rfl rfl rfl (fun _ => r_pick true (.bool true) rfl rfl) ?_
                  refine D_p rfl rfl rfl (fun _ => r_assign (.bool true) rfl) ?_
                  refine D_nil ?_
                  refine thenN ?_
                  refine W_ret ?_
                  skip
                  refine fin1 (.bool true) rfl ?_
                  exact ⟨rfl, M26.below⟩
          · skip
            refine wl_bslice [.agg (List.toArray _)] [conCells x] rfl sl45 M13 rfl rfl rfl rfl (lens_of rfl) (by decide) (fun b27 w27 M27 => ?_)
            have M28 : Mem _ _ ([_, _, _, _, _, _] ++ _) _ := Mem.front (L := [_, _, _, _, _]) M27
            refine wl_nil (thenN ⟨alN, ?_⟩)
            refine T_e (Ac_mk [] rfl (by kernel_rfl) ?_)
            refine wl_appendR 4 (cs.map conCells) sl45 M28 rfl rfl rfl rfl rfl (RowIs.empty b12) (R'.mem M28) (cons_one cs) (by omega) (fun A29 c29 e29 w29 M29 hR29 hA29 => ?_)
            refine wl_nil (thenN ⟨alN, ?_⟩)
            refine T_e (Ac_mk [] rfl (by kernel_rfl) ?_)
            refine wl_append 4 [conCells x] sl45 M29 rfl rfl rfl rfl rfl hR29 rfl (by simp [conCells, Go.Bil.one]) (Cells.ofMem 5 M29 rfl) (by omega) (fun A30 c30 e30 w30 M30 hR30 => ?_)
            refine wl_nil (thenN ⟨alN, ?_⟩)
            have hJx := hR30
            rw [List.nil_append, show cs.map conCells ++ [conCells x] = (cs ++ [x]).map conCells by simp] at hJx
            refine T_e (Ac_mk [] rfl (by kernel_rfl) ?_)
            refine wl_cal cal26 rfl rfl rfl ?_
            refine (isl_Of _ _ _ _ (viewL xs) (hr.rd M30 (nthMem (i := 1) rfl)) _ _ _ (cs ++ [x]) (hJx.rd M30 (nthMem (i := 4) rfl)) hvo hvs (by omega) hvn).mono ?_
            rintro _ w31 ⟨v31, rfl, ⟨q1, rs1, rfl, hq1, hI1, hM31⟩⟩
            refine ⟨_, rfl, ?_⟩
            have M31 : Mem _ _ ([_, _, _, _, _, _, _] ++ _) _ := Mem.front (L := [_, _, _, _, _, _]) (Mem.call0U (L := [_, _, _, _, _, _]) (A := [_]) M30 hM31)
            have hIl1 := hI1.len
            have hqn1 : rs1.length = q1.n := by simpa using hq1.1
            refine wl_nil (thenN ⟨alN, ?_⟩)
            refine T_p rfl rfl rfl (fun _ => r_assign (.slice _ _ _) rfl) ?_
            refine T_nil ?_
            refine thenN ?_
            refine W_seq ?_
            refine W_region ?_
            refine wl_q (r_move (.slice _ _ _) rfl) rfl rfl ?_
            refine wl_q (r_fieldAddr 0 fld63_0 rfl) rfl rfl ?_
            refine wl_q (r_fieldAddr 0 fld61_0 rfl) rfl rfl ?_
            refine wl_q (r_ld 0 (.int _ _) one30 M31 rfl rfl rfl) rfl rfl ?_
            refine wl_cal cal29 rfl rfl rfl ?_
            refine (isl_Find _ x.low _ _ _ rs0 (islL (forestOf (viewL xs) cs) (viewL xs)) (hI0.rd hq0 M31 (nthMem (i := 3) rfl) (fun r hr => List.mem_append_right _ (List.mem_append_left _ (List.mem_map_of_mem hr))))).mono ?_
            rintro _ w32 ⟨v32, rfl, ⟨rfl, hb32⟩⟩
            refine ⟨_, rfl, ?_⟩
            have M32 := M31.callB hb32
            refine wl_q (r_assign (.int _ _) rfl) rfl rfl ?_
            refine wl_nil ?_
            refine thenN ?_
            refine W_seq ?_
            refine W_region ?_
            refine wl_q (r_move (.slice _ _ _) rfl) rfl rfl ?_
            refine wl_q (r_fieldAddr 0 fld63_0 rfl) rfl rfl ?_
            refine wl_q (r_fieldAddr 1 fld61_1 rfl) rfl rfl ?_
            refine wl_q (r_ld 0 (.int _ _) one30 M32 rfl rfl rfl) rfl rfl ?_
            refine wl_cal cal29 rfl rfl rfl ?_
            refine (isl_Find _ x.high _ _ _ rs0 (islL (forestOf (viewL xs) cs) (viewL xs)) (hI0.rd hq0 M32 (nthMem (i := 3) rfl) (fun r hr => List.mem_append_right _ (List.mem_append_left _ (List.mem_map_of_mem hr))))).mono ?_
            rintro _ w33 ⟨v33, rfl, ⟨rfl, hb33⟩⟩
            refine ⟨_, rfl, ?_⟩
            have M33 := M32.callB hb33
            refine wl_q (r_assign (.int _ _) rfl) rfl rfl ?_
            refine wl_nil ?_
            refine thenN ?_
            refine W_seq ?_
            refine W_seq ?_
            refine W_region ?_
            refine wl_q (r_move (.int _ _) rfl) rfl rfl ?_
            refine wl_q (r_bin (.bool (decide _)) rfl rfl rfl) rfl rfl ?_
            refine wl_q (r_move (.bool (decide _)) rfl) rfl rfl ?_
            refine wl_splitD 61 rfl (fun g61 => ?_) (fun g61 => ?_)
            · skip
              refine wl_skip rfl rfl ?_
              refine wl_skip rfl rfl ?_
              refine wl_q (r_pick true (.bool true) rfl rfl) rfl rfl ?_
              refine wl_q (r_move (.bool true) rfl) rfl rfl ?_
              refine wl_skip rfl rfl ?_
              refine wl_skip rfl rfl ?_
              refine wl_skip rfl rfl ?_
              refine wl_q (r_pick true (.bool true) rfl rfl) rfl rfl ?_
              refine wl_nil ?_
              refine thenN ?_
              refine W_condT rfl ?_
              refine W_seq ?_
              refine W_region ?_
              refine wl_q (r_move (.slice _ _ _) rfl) rfl rfl ?_
              refine wl_q (r_move (.slice _ _ _) rfl) rfl rfl ?_
              refine wl_cal cal25 rfl rfl rfl ?_
              refine (ref25_Same _ _ _ _ rs0 (islL (forestOf (viewL xs) cs) (viewL xs)) (hI0.rd hq0 M33 (nthMem (i := 3) rfl) (fun r hr => List.mem_append_right _ (List.mem_append_left _ (List.mem_map_of_mem hr)))) _ _ _ rs1 (islL (forestOf (viewL xs) (cs ++ [x])) (viewL xs)) (hI1.rd hq1 M33 (nthMem (i := 6) rfl) (fun r hr => List.mem_append_right _ (List.mem_append_right _ (List.mem_map_of_mem hr))))).mono ?_
              rintro _ w34 ⟨v34, rfl, ⟨rfl, hb34⟩⟩
              refine ⟨_, rfl, ?_⟩
              have M34 := M33.callB hb34
              refine wl_re 72 (.bool true) (bT (by rw [forest_app]; exact join_stay (hfs cs) hvs hrx.l hrx.h (by omega))).symm ?_
              refine wl_q (r_assign (.bool true) rfl) rfl rfl ?_
              refine wl_nil ?_
              refine thenN ?_
              refine W_ret ?_
              refine thenR ?_
              skip
              refine fin1 (.bool true) rfl ?_
              exact ⟨rfl, M34.below⟩
            · skip
              refine wl_q (r_move (.int _ _) rfl) rfl rfl ?_
              refine wl_q (r_bin (.bool (decide _)) rfl rfl rfl) rfl rfl ?_
              refine wl_q (r_pick false (.bool (decide _)) rfl rfl) rfl rfl ?_
              refine wl_q (r_move (.bool (decide _)) rfl) rfl rfl ?_
              refine wl_splitD 65 rfl (fun g65 => ?_) (fun g65 => ?_)
              · skip
                refine wl_skip rfl rfl ?_
                refine wl_skip rfl rfl ?_
                refine wl_skip rfl rfl ?_
                refine wl_q (r_pick true (.bool true) rfl rfl) rfl rfl ?_
                refine wl_nil ?_
                refine thenN ?_
                refine W_condT rfl ?_
                refine W_seq ?_
                refine W_region ?_
                refine wl_q (r_move (.slice _ _ _) rfl) rfl rfl ?_
                refine wl_q (r_move (.slice _ _ _) rfl) rfl rfl ?_
                refine wl_cal cal25 rfl rfl rfl ?_
                refine (ref25_Same _ _ _ _ rs0 (islL (forestOf (viewL xs) cs) (viewL xs)) (hI0.rd hq0 M33 (nthMem (i := 3) rfl) (fun r hr => List.mem_append_right _ (List.mem_append_left _ (List.mem_map_of_mem hr)))) _ _ _ rs1 (islL (forestOf (viewL xs) (cs ++ [x])) (viewL xs)) (hI1.rd hq1 M33 (nthMem (i := 6) rfl) (fun r hr => List.mem_append_right _ (List.mem_append_right _ (List.mem_map_of_mem hr))))).mono ?_
                rintro _ w35 ⟨v35, rfl, ⟨rfl, hb35⟩⟩
                refine ⟨_, rfl, ?_⟩
                have M35 := M33.callB hb35
                refine wl_re 72 (.bool true) (bT (by rw [forest_app]; exact join_stay (hfs cs) hvs hrx.l hrx.h (by omega))).symm ?_
                refine wl_q (r_assign (.bool true) rfl) rfl rfl ?_
                refine wl_nil ?_
                refine thenN ?_
                refine W_ret ?_
                refine thenR ?_
                skip
                refine fin1 (.bool true) rfl ?_
                exact ⟨rfl, M35.below⟩
              · skip
                refine wl_q (r_move (.int _ _) rfl) rfl rfl ?_
                refine wl_q (r_move (.int _ _) rfl) rfl rfl ?_
                refine wl_q (r_bin (.bool (decide _)) rfl rfl rfl) rfl rfl ?_
                refine wl_q (r_pick false (.bool (decide _)) rfl rfl) rfl rfl ?_
                refine wl_nil ?_
                refine thenN ?_
                refine W_condD rfl (fun h69 => ?_) (fun h69 => ?_)
                · skip
                  refine W_seq ?_
                  refine W_region ?_
                  refine wl_q (r_move (.slice _ _ _) rfl) rfl rfl ?_
                  refine wl_q (r_move (.slice _ _ _) rfl) rfl rfl ?_
                  refine wl_cal cal25 rfl rfl rfl ?_
                  refine (ref25_Same _ _ _ _ rs0 (islL (forestOf (viewL xs) cs) (viewL xs)) (hI0.rd hq0 M33 (nthMem (i := 3) rfl) (fun r hr => List.mem_append_right _ (List.mem_append_left _ (List.mem_map_of_mem hr)))) _ _ _ rs1 (islL (forestOf (viewL xs) (cs ++ [x])) (viewL xs)) (hI1.rd hq1 M33 (nthMem (i := 6) rfl) (fun r hr => List.mem_append_right _ (List.mem_append_right _ (List.mem_map_of_mem hr))))).mono ?_
                  rintro _ w36 ⟨v36, rfl, ⟨rfl, hb36⟩⟩
                  refine ⟨_, rfl, ?_⟩
                  have M36 := M33.callB hb36
                  refine wl_re 72 (.bool true) (bT (by rw [forest_app]; exact join_stay (hfs cs) hvs hrx.l hrx.h (by omega))).symm ?_
                  refine wl_q (r_assign (.bool true) rfl) rfl rfl ?_
                  refine wl_nil ?_
                  refine thenN ?_
                  refine W_ret ?_
                  refine thenR ?_
                  skip
                  refine fin1 (.bool true) rfl ?_
                  exact ⟨rfl, M36.below⟩
                · skip
                  obtain ⟨hj1, hj2⟩ := join_two (hfs cs) hvs hrx.l hrx.h (by omega) (by omega) h69
                  rw [← forest_app] at hj1 hj2
                  have hb0 := hq0.2.2.1
                  have hb1 := hq1.2.2.1
                  refine W_skip ?_
                  refine thenN ?_
                  refine W_seq ?_
                  refine W_draw [(0, 0), (1, 0), (2, 0), (3, 0), (4, 0), (5, 0), (6, 0), (7, 0), (8, 0), (9, 0), (10, 1), (12, 0), (13, 0), (14, 0), (15, 1), (11, 2), (16, 2), (17, 0), (18, 0), (19, 0)] mixed rfl (by kernel_rfl) (fun w37 hb37 hh37 => ?_)
                  have M37 := M33.drew hb37 hh37
                  refine D_p rfl rfl rfl (fun _ => r_move (.slice _ _ _) rfl) ?_
                  refine D_p rfl rfl rfl (fun _ => r_lenS Tryz.underlying50 rfl) ?_
                  refine D_p rfl rfl rfl (fun _ => r_move (.slice _ _ _) rfl) ?_
                  refine D_p rfl rfl rfl (fun _ => r_lenS Tryz.underlying50 rfl) ?_
                  refine D_p rfl rfl rfl (fun _ => r_sub rfl rfl (by omega) (by omega)) ?_
                  refine D_p rfl rfl rfl (fun _ => r_bin (.bool (decide _)) rfl rfl rfl) ?_
                  refine D_re 78 (.bool true) (bT (by omega)).symm ?_
                  refine D_p rfl rfl rfl (fun _ => r_move (.bool true) rfl) ?_
                  refine D_p rfl rfl rfl (fun _ => r_move (.slice _ _ _) rfl) ?_
                  refine D_p rfl rfl rfl (fun _ => r_fieldAddr 0 fld63_0 rfl) ?_
                  refine D_p rfl rfl rfl (fun _ => r_fieldAddr 0 fld61_0 rfl) ?_
                  refine D_r rfl rfl rfl (r_ld 0 (.int _ _) one30 M37 rfl rfl rfl) ?_
                  refine D_p rfl rfl rfl (fun _ => r_move (.slice _ _ _) rfl) ?_
                  refine D_p rfl rfl rfl (fun _ => r_fieldAddr 0 fld63_0 rfl) ?_
                  refine D_p rfl rfl rfl (fun _ => r_fieldAddr 1 fld61_1 rfl) ?_
                  refine D_r rfl rfl rfl (r_ld 0 (.int _ _) one30 M37 rfl rfl rfl) ?_
                  refine D_e [false, true] rfl (by kernel_rfl) ?_
                  refine wl_cal cal29 rfl rfl rfl ?_
                  refine (isl_Find _ x.low _ _ _ rs1 (islL (forestOf (viewL xs) (cs ++ [x])) (viewL xs)) (hI1.rd hq1 M37 (nthMem (i := 6) rfl) (fun r hr => List.mem_append_right _ (List.mem_append_right _ (List.mem_map_of_mem hr))))).mono ?_
                  rintro _ w38 ⟨v38, rfl, ⟨rfl, hb38⟩⟩
                  refine ⟨_, rfl, ?_⟩
                  have M38 := M37.callB hb38
                  refine wl_nil (thenN ⟨(alC (Yl_of rfl (r_ld 0 (.int _ _) one30 M38 rfl rfl rfl)) alN), ?_⟩)
                  refine D_e [true] rfl (by kernel_rfl) ?_
                  refine wl_cal cal29 rfl rfl rfl ?_
                  refine (isl_Find _ x.high _ _ _ rs1 (islL (forestOf (viewL xs) (cs ++ [x])) (viewL xs)) (hI1.rd hq1 M38 (nthMem (i := 6) rfl) (fun r hr => List.mem_append_right _ (List.mem_append_right _ (List.mem_map_of_mem hr))))).mono ?_
                  rintro _ w39 ⟨v39, rfl, ⟨rfl, hb39⟩⟩
                  refine ⟨_, rfl, ?_⟩
                  have M39 := M38.callB hb39
                  refine wl_nil (thenN ⟨alN, ?_⟩)
                  refine D_p rfl rfl rfl (fun _ => r_bin (.bool (decide _)) rfl rfl rfl) ?_
                  refine D_re 90 (.bool true) (bT hj2).symm ?_
                  refine D_p rfl rfl rfl (fun _ => r_pick true (.bool true) rfl rfl) ?_
                  refine D_p rfl rfl rfl (fun _ => r_assign (.bool true) rfl) ?_
                  refine D_nil ?_
                  refine thenN ?_
                  refine W_ret ?_
                  skip
                  refine fin1 (.bool true) rfl ?_
                  exact ⟨rfl, M39.below⟩
        · skip
          refine wl_bslice [.agg (List.toArray _)] [conCells x] rfl sl45 M11 rfl rfl rfl rfl (lens_of rfl) (by decide) (fun b40 w40 M40 => ?_)
          have M41 : Mem _ _ ([_, _, _, _, _] ++ _) _ := Mem.front (L := [_, _, _, _]) M40
          refine wl_nil (thenN ⟨alN, ?_⟩)
          refine T_e (Ac_mk [] rfl (by kernel_rfl) ?_)
          refine wl_bslice [] [] rfl sl45 M41 rfl rfl rfl rfl (lens_of rfl) (by decide) (fun b42 w42 M42 => ?_)
          have M43 : Mem _ _ ([_, _, _, _, _, _] ++ _) _ := Mem.front (L := [_, _, _, _, _]) M42
          refine wl_nil (thenN ⟨alN, ?_⟩)
          refine T_e (Ac_mk [] rfl (by kernel_rfl) ?_)
          refine wl_appendR 5 (cs.map conCells) sl45 M43 rfl rfl rfl rfl rfl (RowIs.empty b42) (R'.mem M43) (cons_one cs) (by omega) (fun A44 c44 e44 w44 M44 hR44 hA44 => ?_)
          refine wl_nil (thenN ⟨alN, ?_⟩)
          refine T_e (Ac_mk [] rfl (by kernel_rfl) ?_)
          refine wl_append 5 [conCells x] sl45 M44 rfl rfl rfl rfl rfl hR44 rfl (by simp [conCells, Go.Bil.one]) (Cells.ofMem 4 M44 rfl) (by omega) (fun A45 c45 e45 w45 M45 hR45 => ?_)
          refine wl_nil (thenN ⟨alN, ?_⟩)
          have hJx := hR45
          rw [List.nil_append, show cs.map conCells ++ [conCells x] = (cs ++ [x]).map conCells by simp] at hJx
          refine T_e (Ac_mk [] rfl (by kernel_rfl) ?_)
          refine wl_cal cal26 rfl rfl rfl ?_
          refine (isl_Of _ _ _ _ (viewL xs) (hr.rd M45 (nthMem (i := 1) rfl)) _ _ _ (cs ++ [x]) (hJx.rd M45 (nthMem (i := 5) rfl)) hvo hvs (by omega) hvn).mono ?_
          rintro _ w46 ⟨v46, rfl, ⟨q1, rs1, rfl, hq1, hI1, hM46⟩⟩
          refine ⟨_, rfl, ?_⟩
          have M46 : Mem _ _ ([_, _, _, _, _, _, _] ++ _) _ := Mem.front (L := [_, _, _, _, _, _]) (Mem.call0U (L := [_, _, _, _, _, _]) (A := [_]) M45 hM46)
          have hIl1 := hI1.len
          have hqn1 : rs1.length = q1.n := by simpa using hq1.1
          refine wl_nil (thenN ⟨alN, ?_⟩)
          refine T_p rfl rfl rfl (fun _ => r_assign (.slice _ _ _) rfl) ?_
          refine T_nil ?_
          refine thenN ?_
          refine W_seq ?_
          refine W_region ?_
          refine wl_q (r_move (.slice _ _ _) rfl) rfl rfl ?_
          refine wl_q (r_fieldAddr 0 fld63_0 rfl) rfl rfl ?_
          refine wl_q (r_fieldAddr 0 fld61_0 rfl) rfl rfl ?_
          refine wl_q (r_ld 0 (.int _ _) one30 M46 rfl rfl rfl) rfl rfl ?_
          refine wl_cal cal29 rfl rfl rfl ?_
          refine (isl_Find _ x.low _ _ _ rs0 (islL (forestOf (viewL xs) cs) (viewL xs)) (hI0.rd hq0 M46 (nthMem (i := 3) rfl) (fun r hr => List.mem_append_right _ (List.mem_append_left _ (List.mem_map_of_mem hr))))).mono ?_
          rintro _ w47 ⟨v47, rfl, ⟨rfl, hb47⟩⟩
          refine ⟨_, rfl, ?_⟩
          have M47 := M46.callB hb47
          refine wl_q (r_assign (.int _ _) rfl) rfl rfl ?_
          refine wl_nil ?_
          refine thenN ?_
          refine W_seq ?_
          refine W_region ?_
          refine wl_q (r_move (.slice _ _ _) rfl) rfl rfl ?_
          refine wl_q (r_fieldAddr 0 fld63_0 rfl) rfl rfl ?_
          refine wl_q (r_fieldAddr 1 fld61_1 rfl) rfl rfl ?_
          refine wl_q (r_ld 0 (.int _ _) one30 M47 rfl rfl rfl) rfl rfl ?_
          refine wl_cal cal29 rfl rfl rfl ?_
          refine (isl_Find _ x.high _ _ _ rs0 (islL (forestOf (viewL xs) cs) (viewL xs)) (hI0.rd hq0 M47 (nthMem (i := 3) rfl) (fun r hr => List.mem_append_right _ (List.mem_append_left _ (List.mem_map_of_mem hr))))).mono ?_
          rintro _ w48 ⟨v48, rfl, ⟨rfl, hb48⟩⟩
          refine ⟨_, rfl, ?_⟩
          have M48 := M47.callB hb48
          refine wl_q (r_assign (.int _ _) rfl) rfl rfl ?_
          refine wl_nil ?_
          refine thenN ?_
          refine W_seq ?_
          refine W_seq ?_
          refine W_region ?_
          refine wl_q (r_move (.int _ _) rfl) rfl rfl ?_
          refine wl_q (r_bin (.bool (decide _)) rfl rfl rfl) rfl rfl ?_
          refine wl_q (r_move (.bool (decide _)) rfl) rfl rfl ?_
          refine wl_splitD 61 rfl (fun g61 => ?_) (fun g61 => ?_)
          · skip
            refine wl_skip rfl rfl ?_
            refine wl_skip rfl rfl ?_
            refine wl_q (r_pick true (.bool true) rfl rfl) rfl rfl ?_
            refine wl_q (r_move (.bool true) rfl) rfl rfl ?_
            refine wl_skip rfl rfl ?_
            refine wl_skip rfl rfl ?_
            refine wl_skip rfl rfl ?_
            refine wl_q (r_pick true (.bool true) rfl rfl) rfl rfl ?_
            refine wl_nil ?_
            refine thenN ?_
            refine W_condT rfl ?_
            refine W_seq ?_
            refine W_region ?_
            refine wl_q (r_move (.slice _ _ _) rfl) rfl rfl ?_
            refine wl_q (r_move (.slice _ _ _) rfl) rfl rfl ?_
            refine wl_cal cal25 rfl rfl rfl ?_
            refine (ref25_Same _ _ _ _ rs0 (islL (forestOf (viewL xs) cs) (viewL xs)) (hI0.rd hq0 M48 (nthMem (i := 3) rfl) (fun r hr => List.mem_append_right _ (List.mem_append_left _ (List.mem_map_of_mem hr)))) _ _ _ rs1 (islL (forestOf (viewL xs) (cs ++ [x])) (viewL xs)) (hI1.rd hq1 M48 (nthMem (i := 6) rfl) (fun r hr => List.mem_append_right _ (List.mem_append_right _ (List.mem_map_of_mem hr))))).mono ?_
            rintro _ w49 ⟨v49, rfl, ⟨rfl, hb49⟩⟩
            refine ⟨_, rfl, ?_⟩
            have M49 := M48.callB hb49
            refine wl_re 72 (.bool true) (bT (by rw [forest_app]; exact join_stay (hfs cs) hvs hrx.l hrx.h (by omega))).symm ?_
            refine wl_q (r_assign (.bool true) rfl) rfl rfl ?_
            refine wl_nil ?_
            refine thenN ?_
            refine W_ret ?_
            refine thenR ?_
            skip
            refine fin1 (.bool true) rfl ?_
            exact ⟨rfl, M49.below⟩
          · skip
            refine wl_q (r_move (.int _ _) rfl) rfl rfl ?_
            refine wl_q (r_bin (.bool (decide _)) rfl rfl rfl) rfl rfl ?_
            refine wl_q (r_pick false (.bool (decide _)) rfl rfl) rfl rfl ?_
            refine wl_q (r_move (.bool (decide _)) rfl) rfl rfl ?_
            refine wl_splitD 65 rfl (fun g65 => ?_) (fun g65 => ?_)
            · skip
              refine wl_skip rfl rfl ?_
              refine wl_skip rfl rfl ?_
              refine wl_skip rfl rfl ?_
              refine wl_q (r_pick true (.bool true) rfl rfl) rfl rfl ?_
              refine wl_nil ?_
              refine thenN ?_
              refine W_condT rfl ?_
              refine W_seq ?_
              refine W_region ?_
              refine wl_q (r_move (.slice _ _ _) rfl) rfl rfl ?_
              refine wl_q (r_move (.slice _ _ _) rfl) rfl rfl ?_
              refine wl_cal cal25 rfl rfl rfl ?_
              refine (ref25_Same _ _ _ _ rs0 (islL (forestOf (viewL xs) cs) (viewL xs)) (hI0.rd hq0 M48 (nthMem (i := 3) rfl) (fun r hr => List.mem_append_right _ (List.mem_append_left _ (List.mem_map_of_mem hr)))) _ _ _ rs1 (islL (forestOf (viewL xs) (cs ++ [x])) (viewL xs)) (hI1.rd hq1 M48 (nthMem (i := 6) rfl) (fun r hr => List.mem_append_right _ (List.mem_append_right _ (List.mem_map_of_mem hr))))).mono ?_
              rintro _ w50 ⟨v50, rfl, ⟨rfl, hb50⟩⟩
              refine ⟨_, rfl, ?_⟩
              have M50 := M48.callB hb50
              refine wl_re 72 (.bool true) (bT (by rw [forest_app]; exact join_stay (hfs cs) hvs hrx.l hrx.h (by omega))).symm ?_
              refine wl_q (r_assign (.bool true) rfl) rfl rfl ?_
              refine wl_nil ?_
              refine thenN ?_
              refine W_ret ?_
              refine thenR ?_
              skip
              refine fin1 (.bool true) rfl ?_
              exact ⟨rfl, M50.below⟩
            · skip
              refine wl_q (r_move (.int _ _) rfl) rfl rfl ?_
              refine wl_q (r_move (.int _ _) rfl) rfl rfl ?_
              refine wl_q (r_bin (.bool (decide _)) rfl rfl rfl) rfl rfl ?_
              refine wl_q (r_pick false (.bool (decide _)) rfl rfl) rfl rfl ?_
              refine wl_nil ?_
              refine thenN ?_
              refine W_condD rfl (fun h69 => ?_) (fun h69 => ?_)
              · skip
                refine W_seq ?_
                refine W_region ?_
                refine wl_q (r_move (.slice _ _ _) rfl) rfl rfl ?_
                refine wl_q (r_move (.slice _ _ _) rfl) rfl rfl ?_
                refine wl_cal cal25 rfl rfl rfl ?_
                refine (ref25_Same _ _ _ _ rs0 (islL (forestOf (viewL xs) cs) (viewL xs)) (hI0.rd hq0 M48 (nthMem (i := 3) rfl) (fun r hr => List.mem_append_right _ (List.mem_append_left _ (List.mem_map_of_mem hr)))) _ _ _ rs1 (islL (forestOf (viewL xs) (cs ++ [x])) (viewL xs)) (hI1.rd hq1 M48 (nthMem (i := 6) rfl) (fun r hr => List.mem_append_right _ (List.mem_append_right _ (List.mem_map_of_mem hr))))).mono ?_
                rintro _ w51 ⟨v51, rfl, ⟨rfl, hb51⟩⟩
                refine ⟨_, rfl, ?_⟩
                have M51 := M48.callB hb51
                refine wl_re 72 (.bool true) (bT (by rw [forest_app]; exact join_stay (hfs cs) hvs hrx.l hrx.h (by omega))).symm ?_
                refine wl_q (r_assign (.bool true) rfl) rfl rfl ?_
                refine wl_nil ?_
                refine thenN ?_
                refine W_ret ?_
                refine thenR ?_
                skip
                refine fin1 (.bool true) rfl ?_
                exact ⟨rfl, M51.below⟩
              · skip
                obtain ⟨hj1, hj2⟩ := join_two (hfs cs) hvs hrx.l hrx.h (by omega) (by omega) h69
                rw [← forest_app] at hj1 hj2
                have hb0 := hq0.2.2.1
                have hb1 := hq1.2.2.1
                refine W_skip ?_
                refine thenN ?_
                refine W_seq ?_
                refine W_draw [(0, 0), (1, 0), (2, 0), (3, 0), (4, 0), (5, 0), (6, 0), (7, 0), (8, 0), (9, 0), (10, 1), (12, 0), (13, 0), (14, 0), (15, 1), (11, 2), (16, 2), (17, 0), (18, 0), (19, 0)] mixed rfl (by kernel_rfl) (fun w52 hb52 hh52 => ?_)
                have M52 := M48.drew hb52 hh52
                refine D_p rfl rfl rfl (fun _ => r_move (.slice _ _ _) rfl) ?_
                refine D_p rfl rfl rfl (fun _ => r_lenS Tryz.underlying50 rfl) ?_
                refine D_p rfl rfl rfl (fun _ => r_move (.slice _ _ _) rfl) ?_
                refine D_p rfl rfl rfl (fun _ => r_lenS Tryz.underlying50 rfl) ?_
                refine D_p rfl rfl rfl (fun _ => r_sub rfl rfl (by omega) (by omega)) ?_
                refine D_p rfl rfl rfl (fun _ => r_bin (.bool (decide _)) rfl rfl rfl) ?_
                refine D_re 78 (.bool true) (bT (by omega)).symm ?_
                refine D_p rfl rfl rfl (fun _ => r_move (.bool true) rfl) ?_
                refine D_p rfl rfl rfl (fun _ => r_move (.slice _ _ _) rfl) ?_
                refine D_p rfl rfl rfl (fun _ => r_fieldAddr 0 fld63_0 rfl) ?_
                refine D_p rfl rfl rfl (fun _ => r_fieldAddr 0 fld61_0 rfl) ?_
                refine D_r rfl rfl rfl (r_ld 0 (.int _ _) one30 M52 rfl rfl rfl) ?_
                refine D_p rfl rfl rfl (fun _ => r_move (.slice _ _ _) rfl) ?_
                refine D_p rfl rfl rfl (fun _ => r_fieldAddr 0 fld63_0 rfl) ?_
                refine D_p rfl rfl rfl (fun _ => r_fieldAddr 1 fld61_1 rfl) ?_
                refine D_r rfl rfl rfl (r_ld 0 (.int _ _) one30 M52 rfl rfl rfl) ?_
                refine D_e [false, true] rfl (by kernel_rfl) ?_
                refine wl_cal cal29 rfl rfl rfl ?_
                refine (isl_Find _ x.low _ _ _ rs1 (islL (forestOf (viewL xs) (cs ++ [x])) (viewL xs)) (hI1.rd hq1 M52 (nthMem (i := 6) rfl) (fun r hr => List.mem_append_right _ (List.mem_append_right _ (List.mem_map_of_mem hr))))).mono ?_
                rintro _ w53 ⟨v53, rfl, ⟨rfl, hb53⟩⟩
                refine ⟨_, rfl, ?_⟩
                have M53 := M52.callB hb53
                refine wl_nil (thenN ⟨(alC (Yl_of rfl (r_ld 0 (.int _ _) one30 M53 rfl rfl rfl)) alN), ?_⟩)
                refine D_e [true] rfl (by kernel_rfl) ?_
                refine wl_cal cal29 rfl rfl rfl ?_
                refine (isl_Find _ x.high _ _ _ rs1 (islL (forestOf (viewL xs) (cs ++ [x])) (viewL xs)) (hI1.rd hq1 M53 (nthMem (i := 6) rfl) (fun r hr => List.mem_append_right _ (List.mem_append_right _ (List.mem_map_of_mem hr))))).mono ?_
                rintro _ w54 ⟨v54, rfl, ⟨rfl, hb54⟩⟩
                refine ⟨_, rfl, ?_⟩
                have M54 := M53.callB hb54
                refine wl_nil (thenN ⟨alN, ?_⟩)
                refine D_p rfl rfl rfl (fun _ => r_bin (.bool (decide _)) rfl rfl rfl) ?_
                refine D_re 90 (.bool true) (bT hj2).symm ?_
                refine D_p rfl rfl rfl (fun _ => r_pick true (.bool true) rfl rfl) ?_
                refine D_p rfl rfl rfl (fun _ => r_assign (.bool true) rfl) ?_
                refine D_nil ?_
                refine thenN ?_
                refine W_ret ?_
                skip
                refine fin1 (.bool true) rfl ?_
                exact ⟨rfl, M54.below⟩

end Go.Proofs.YtmcddmhkjcgneaaGreatDoor

set_option linter.unusedVariables false
set_option linter.unusedSimpArgs false
set_option linter.unnecessarySimpa false
namespace Go.Proofs.YtmcddmhkjcgneaaGreatDoor
open Go.Bil
open Go.RowKit (Below)
open Go.Proofs

namespace islandJoins
open Go.ChangeShapes Go.WideShapes Go.ChangeAt Go.RowKit
open Go.ChangeMaps (open_string shut_string)
theorem own : ownKnob Tryz.prog.godebug = none := by kernel_rfl
theorem laidOut : laidOutB Tryz.prog = true := by kernel_rfl
set_option maxRecDepth 100000 in
theorem lifted (os : Os) (started : os.Started) (H : Type) (enc : TypeId × Value → H) :
    ReturnsInHanded {} Tryz.checked os 11 .any (fun w args => (Rows.islandJoinsSpec.pre enc Tryz.prog Tryz.f11 [] false w args ∧ laidMet Tryz.prog laidL w) ∧ sizedMet enc Tryz.prog Tryz.f11 (OpenSpec.ofChange Rows.islandJoinsSpec) false w args) (Rows.islandJoinsSpec.post enc Tryz.prog Tryz.f11 false true false false) := by
  refine returnsInHanded_of_change_and (C := Tryz.checked) (X := fun w _ => laidMet Tryz.prog laidL w) (fun _ _ _ hh h => h.of_heap hh) own started (by kernel_rfl) Tryz.func11
    (ChangeSpec.witness_at (enc := enc) (C := Tryz.checked) (os := os) (X := fun w _ => laidMet Tryz.prog laidL w) false (laidWorld os) #[.slice none 0 0, .slice none 0 0, (.agg #[.int .u32 0, .int .u32 0, .int .i32 0, .int .i32 0, .int .i32 0])] 8 rfl (by kernel_rfl) (by kernel_rfl) (by kernel_rfl) (by kernel_rfl) (by kernel_rfl) (laidMet_of_run' 8 (by kernel_rfl) (by kernel_rfl))) ?_
  intro W base args ds gs before hval0 hW hcnd hsz0 hL _
  have hsz : (DataW.weightsEach Tryz.prog (Tryz.f11.params.toList ++ Rows.islandJoinsSpec.plain.varTypes Tryz.prog) (ds ++ gs)).all (· ≤ reachBytes) = true := hsz0
  have hval : ∀ (j : Nat) t v, Tryz.f11.params[j]? = some t → args[j]? = some v → Value.okWide Tryz.prog W .any base t v := hval0
  have hW' := hW
  obtain ⟨p, q, hA0, hV, rfl, hfz, hnd⟩ := hW
  have hA : DataW.TrodAll enc Tryz.prog W 0 (fun _ => true) true Tryz.f11.params.toList args.toList ds p := hA0
  rw [Tryz.params11] at hA hval hsz
  obtain ⟨v0, vs0, d0, ds0, p0, q0, hargs, rfl, rfl, h0, r0⟩ := trodAll_cons hA
  obtain ⟨v1, vs1, d1, ds1, p1, q1, rfl, rfl, rfl, h1, r1⟩ := trodAll_cons r0
  obtain ⟨v2, vs2, d2, ds2, p2, q2, rfl, rfl, rfl, h2, r2⟩ := trodAll_cons r1
  obtain ⟨rfl, rfl, rfl⟩ := trodAll_nil r2
  obtain rfl : args = #[v0, v1, v2] := by cases args; simp_all
  obtain ⟨rfl, rfl⟩ := trodVars_none hV
  have k0 := h0
  have lt0 : ∀ x ∈ p0, x.block < W.heap.size := by obtain ⟨m, hm⟩ := k0; exact DataW.trod_lt m _ _ _ hm
  obtain ⟨a0, len0, cap0, rfl⟩ := okWide_slice Tryz.underlying22 (hval 0 22 v0 rfl rfl)
  have y0 := sized_rows hsz (j := 0) (t := 22) rfl rfl sl22 h0
  obtain ⟨ls0, R0, hi0⟩ := open_rows sl22 leaves32 rfl y0 h0
  obtain ⟨xs0, rfl, hx0⟩ := list_of bodyOf ls0 hi0
  have k1 := h1
  have lt1 : ∀ x ∈ p1, x.block < W.heap.size := by obtain ⟨m, hm⟩ := k1; exact DataW.trod_lt m _ _ _ hm
  obtain ⟨a1, len1, cap1, rfl⟩ := okWide_slice Tryz.underlying45 (hval 1 45 v1 rfl rfl)
  have y1 := sized_rows hsz (j := 1) (t := 45) rfl rfl sl45 h1
  obtain ⟨ls1, R1, hi1⟩ := open_rows sl45 leaves63 rfl y1 h1
  obtain ⟨xs1, rfl, hx1⟩ := list_of conOf5 ls1 hi1
  have k2 := h2
  have lt2 : ∀ x ∈ p2, x.block < W.heap.size := by obtain ⟨m, hm⟩ := k2; exact DataW.trod_lt m _ _ _ hm
  obtain ⟨cs2, rfl, hi2⟩ := okWide_agg agg63 leaves63 rfl rfl h2
  obtain ⟨x2, rfl, hx2⟩ := conOf5 _ hi2
  clear hA0 hval0 hsz0 hsz
  refine (law_IslandJoins W (rdF hL) (rdN hL) _ _ _ xs0 R0 _ _ _ xs1 R1 (fun b hb => (hx0 b hb).key.1) x2).mono fun e W' ⟨v, he, hv, bel⟩ => ?_
  subst he
  subst hv
  exact ⟨_, rfl, _, _, _, [], _, [], hW', trodAll_mk1 (shut_bool Tryz.underlying4 _), (trodAll_cons_mk (Below.trod laidOut (by kernel_rfl) (of_decide_eq_true (by kernel_rfl)) k0 bel lt0) (trodAll_cons_mk (Below.trod laidOut (by kernel_rfl) (of_decide_eq_true (by kernel_rfl)) k1 bel lt1) (trodAll_cons_mk (Below.trod laidOut (by kernel_rfl) (of_decide_eq_true (by kernel_rfl)) k2 bel lt2) trodAll_mk0))), rfl, bel.frame _, fun h => by cases h⟩
theorem over : Rows.islandJoinsRow.holds Tryz.pinned (OpenSpec.ofChange Rows.islandJoinsSpec) :=
  OpenClaim.holds_of_wide 11 Tryz.f11 rfl rfl rfl rfl rfl rfl rfl ⟨rfl, rfl, rfl, rfl, rfl⟩ rfl rfl rfl rfl rfl (by kernel_rfl) Tryz.func11 (by kernel_rfl)
    (of_decide_eq_true (by kernel_rfl)) (by unfold Func.isWrapper; first | (rw [if_pos (by decide +kernel)]; kernel_rfl) | (rw [if_neg (by decide +kernel)]; exact ⟨rfl, rfl⟩))
    (fun os started H enc _ => lifted os started H enc)
end islandJoins
theorem islandJoins_holds : Rows.IslandJoinsSaid := islandJoins.over
#print axioms islandJoins_holds
theorem islandJoins_card : Rows.IslandJoinsCardSaid :=
  Claim7.holds_tied_plain_at .later [] [.data, .data] true (true, "9f8295c113a943455c4832a95346352d7118fae4d0dcf065aaf106ad8bcb4f65") false
    islandJoins_holds (fun _ h => by cases h) (by kernel_rfl) (fun _ h => by cases h) islandJoins_row_tie rfl ⟨rfl, rfl⟩ (by kernel_rfl) rfl
    (fun f fn hf hfn => by
      obtain rfl : f = 11 := Option.some.inj ((show Tryz.prog.funcNamed "billiard/billiardlaw25.IslandJoins" = some 11 by kernel_rfl).symm.trans hf) |>.symm
      obtain rfl : fn = Tryz.f11 := (Option.some.inj (Tryz.func11.symm.trans hfn)).symm
      exact ⟨by kernel_rfl, fun j t ht => by
        rw [Tryz.params11] at ht
        have hm : t ∈ [22, 45, 63] := by simpa using Array.mem_of_getElem? ht
        have hall : ([22, 45, 63].all fun u => !Tryz.prog.wantsStandIn u) = true := by kernel_rfl
        exact (show Tryz.prog.wantsStandIn t = false by simpa using List.all_eq_true.1 hall t hm)⟩)
    (by kernel_rfl)
#print axioms islandJoins_card

end Go.Proofs.YtmcddmhkjcgneaaGreatDoor
