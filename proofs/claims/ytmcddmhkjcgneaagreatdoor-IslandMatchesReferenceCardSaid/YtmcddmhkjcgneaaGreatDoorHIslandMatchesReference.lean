import Derived.Test.YtmcddmhkjcgneaaGreatDoorK5
import Derived.Test.YtmcddmhkjcgneaaGreatDoorK30
import Derived.Test.YtmcddmhkjcgneaaGreatDoorK24
import Derived.Test.YtmcddmhkjcgneaaGreatDoorK16
import Derived.Test.YtmcddmhkjcgneaaGreatDoorRows
import Derived.Test.YtmcddmhkjcgneaaGreatDoorK31
import Derived.Test.YtmcddmhkjcgneaaGreatDoorTie
import Derived.Test.YtmcddmhkjcgneaaGreatDoorCards
import Derived.WalkKit
import Derived.ProofKit
import Derived.OpenShut
import Derived.ShutString
import Derived.ChangeOld
import Derived.Below
import Derived.SizedLaws
/- Walks of Go functions over the frame of this claim: what each computes, for every input of the stated types (LIslandMatchesReference). -/
set_option linter.unusedVariables false
set_option linter.unusedSimpArgs false
set_option linter.unnecessarySimpa false
namespace Go.Proofs.YtmcddmhkjcgneaaGreatDoor
open Go.Bil
open Go.RowKit (Below)
open Go.Proofs

set_option maxHeartbeats 16000000 in
theorem law_IslandMatchesReference (w : World) (F : Rd w 2 (some ⟨1, 0, none⟩) 1 [[.int .u32 73856093, .int .u32 19349663]]) (N : Rd w 4 (some ⟨0, 0, none⟩) 1 [bxCells noneB]) (A : Option Addr) (n c : Nat) (xs : List Body) (R : Rd w 10 A n (xs.map bodyCells)) (B : Option Addr) (mc c' : Nat) (cs : List Con) (R' : Rd w 5 B mc (cs.map conCells)) (hkx : ∀ b ∈ xs, 0 ≤ b.key) (C : Option Addr) (nl cl : Nat) (rl : List Row) (LS : List (List Int)) (I : IslRd w C nl rl LS) (key : Int) :
    Calls Tryz.prog 8 #[.slice A n c, .slice B mc c', .slice C nl cl, .int .u32 key] w (fun ex w' => ∃ v, ex = .returned v ∧ (fun v w' => v = .bool true ∧ Below w.heap.size w w') v w') := by
  have hlen : xs.length = n := by simpa using R.len
  have hbd := R.bound
  have hlI := I.n_eq.1
  have hrI := I.n_eq.2
  have hbI := I.hd.bound
  refine calls_of_W #[.tmp 8] 89 Tryz.func8 rfl Tryz.results8 Tryz.ntmps8 rfl ?_
  have M0 := Mem.refl w
  refine W_seq ?_
  refine W_region ?_
  refine wl_q (r_assign (.bool false) rfl) rfl rfl ?_
  refine wl_nil ?_
  refine thenN ?_
  refine W_seq ?_
  refine W_region ?_
  refine wl_q (r_move (.slice _ _ _) rfl) rfl rfl ?_
  refine wl_cal cal14 rfl rfl rfl ?_
  refine (ref11_View _ _ _ _ xs (R.mem M0)).mono ?_
  rintro _ w1 ⟨v1, rfl, ⟨r, rfl, hr, hM1⟩⟩
  refine ⟨_, rfl, ?_⟩
  have M1 : Mem _ _ [_] _ := M0.call0 hM1
  refine wl_q (r_move (.tuple (List.toArray _)) rfl) rfl rfl ?_
  refine wl_q (r_ext (.slice _ _ _) rfl rfl) rfl rfl ?_
  refine wl_q (r_ext (.bool (decide _)) rfl rfl) rfl rfl ?_
  refine wl_q (r_assign (.slice _ _ _) rfl) rfl rfl ?_
  refine wl_q (r_assign (.bool (decide _)) rfl) rfl rfl ?_
  refine wl_nil ?_
  refine thenN ?_
  refine W_seq ?_
  refine W_seq ?_
  refine W_region ?_
  refine wl_cal cal23 rfl rfl rfl ?_
  refine (aw25 _ (F.mem M1) (N.mem M1)).mono ?_
  rintro _ w2 ⟨v2, rfl, ⟨rfl, hb2⟩⟩
  refine ⟨_, rfl, ?_⟩
  have M2 := M1.callB hb2
  refine wl_q (r_notB false rfl rfl) rfl rfl ?_
  refine wl_q (r_move (.bool false) rfl) rfl rfl ?_
  refine wl_q (r_move (.bool (decide _)) rfl) rfl rfl ?_
  refine wl_q (r_not rfl) rfl rfl ?_
  refine wl_q (r_pick false (.bool (decide _)) rfl rfl) rfl rfl ?_
  refine wl_q (r_move (.bool (decide _)) rfl) rfl rfl ?_
  refine wl_splitD 25 rfl (fun g25 => ?_) (fun g25 => ?_)
  · skip
    refine wl_skip rfl rfl ?_
    refine wl_skip rfl rfl ?_
    refine wl_skip rfl rfl ?_
    refine wl_skip rfl rfl ?_
    refine wl_q (r_pick true (.bool true) rfl rfl) rfl rfl ?_
    refine wl_q (r_move (.bool true) rfl) rfl rfl ?_
    refine wl_skip rfl rfl ?_
    refine wl_skip rfl rfl ?_
    refine wl_skip rfl rfl ?_
    refine wl_q (r_pick true (.bool true) rfl rfl) rfl rfl ?_
    refine wl_nil ?_
    refine thenN ?_
    refine W_condT rfl ?_
    refine W_seq ?_
    refine W_region ?_
    refine wl_cal cal23 rfl rfl rfl ?_
    refine (aw25 _ (F.mem M2) (N.mem M2)).mono ?_
    rintro _ w3 ⟨v3, rfl, ⟨rfl, hb3⟩⟩
    refine ⟨_, rfl, ?_⟩
    have M3 := M2.callB hb3
    refine wl_q (r_assign (.bool true) rfl) rfl rfl ?_
    refine wl_nil ?_
    refine thenN ?_
    refine W_ret ?_
    refine thenR ?_
    skip
    refine fin1 (.bool true) rfl ?_
    exact ⟨rfl, M3.below⟩
  · skip
    refine wl_q (r_move (.slice _ _ _) rfl) rfl rfl ?_
    refine wl_q (r_move (.slice _ _ _) rfl) rfl rfl ?_
    refine wl_cal cal24 rfl rfl rfl ?_
    refine (ref25_Right _ _ _ _ (viewL xs) (hr.rd M2 (nthMem (i := 0) rfl)) _ _ _ cs (R'.mem M2)).mono ?_
    rintro _ w4 ⟨v4, rfl, ⟨rfl, hb4⟩⟩
    refine ⟨_, rfl, ?_⟩
    have M4 := M2.callB hb4
    refine wl_q (r_not rfl) rfl rfl ?_
    refine wl_q (r_pick false (.bool (decide _)) rfl rfl) rfl rfl ?_
    refine wl_q (r_move (.bool (decide _)) rfl) rfl rfl ?_
    refine wl_splitD 31 rfl (fun g31 => ?_) (fun g31 => ?_)
    · skip
      refine wl_skip rfl rfl ?_
      refine wl_skip rfl rfl ?_
      refine wl_skip rfl rfl ?_
      refine wl_q (r_pick true (.bool true) rfl rfl) rfl rfl ?_
      refine wl_nil ?_
      refine thenN ?_
      refine W_condT rfl ?_
      refine W_seq ?_
      refine W_region ?_
      refine wl_cal cal23 rfl rfl rfl ?_
      refine (aw25 _ (F.mem M4) (N.mem M4)).mono ?_
      rintro _ w5 ⟨v5, rfl, ⟨rfl, hb5⟩⟩
      refine ⟨_, rfl, ?_⟩
      have M5 := M4.callB hb5
      refine wl_q (r_assign (.bool true) rfl) rfl rfl ?_
      refine wl_nil ?_
      refine thenN ?_
      refine W_ret ?_
      refine thenR ?_
      skip
      refine fin1 (.bool true) rfl ?_
      exact ⟨rfl, M5.below⟩
    · skip
      refine wl_q (r_move (.slice _ _ _) rfl) rfl rfl ?_
      refine wl_q (r_lenS Tryz.underlying50 rfl) rfl rfl ?_
      refine wl_q (r_bin (.bool (decide _)) rfl rfl rfl) rfl rfl ?_
      refine wl_q (r_pick false (.bool (decide _)) rfl rfl) rfl rfl ?_
      refine wl_nil ?_
      refine thenN ?_
      refine W_condD rfl (fun h35 => ?_) (fun h35 => ?_)
      · skip
        refine W_seq ?_
        refine W_region ?_
        refine wl_cal cal23 rfl rfl rfl ?_
        refine (aw25 _ (F.mem M4) (N.mem M4)).mono ?_
        rintro _ w6 ⟨v6, rfl, ⟨rfl, hb6⟩⟩
        refine ⟨_, rfl, ?_⟩
        have M6 := M4.callB hb6
        refine wl_q (r_assign (.bool true) rfl) rfl rfl ?_
        refine wl_nil ?_
        refine thenN ?_
        refine W_ret ?_
        refine thenR ?_
        skip
        refine fin1 (.bool true) rfl ?_
        exact ⟨rfl, M6.below⟩
      · skip
        obtain ⟨hV, hve, hvk⟩ := view_of (Decidable.not_not.1 g25)
        have hvl := hV.len
        have hrn : (viewL xs).length = r.n := by simpa using hr.1
        have hvs := hV.s
        have hvo := hV.okb
        have hrt := Decidable.not_not.1 g31
        have hcs := hrt.1
        have hvn : ∀ b ∈ (viewL xs), 0 ≤ b.key := fun b hb => hkx b (by rw [hve] at hb; exact (sortB_perm xs).mem_iff.1 hb)
        have hclen : cs.length = mc := by simpa using R'.len
        have hbd' := R'.bound
        have hfs := fun l => @forest_fst (viewL xs) hvn l
        refine W_skip ?_
        refine thenN ?_
        refine W_seq ?_
        refine W_region ?_
        refine wl_q (r_assign (.int _ _) rfl) rfl rfl ?_
        refine wl_nil ?_
        refine thenN ?_
        refine W_seq ?_
        refine W_seq ?_
        refine W_region ?_
        refine wl_q (r_assign (.int _ _) rfl) rfl rfl ?_
        refine wl_nil ?_
        refine thenN ?_
        refine W_block ?_
        refine W_loop (σ := Nat) [1, 2, 3, 8, 9] (fun i => [(11, .int .i64 (findL key (LS.take i))), (12, .int .i64 (i : Int))]) (fun i w' => i ≤ nl ∧ Mem w [] [r.e] w') (fun i => nl - i) 0 (agC (iE rfl) (agC rfl agN)) (⟨by omega, M4⟩) ?_
        rintro i ρ7 w7 ⟨hi, hM7⟩
        have hfl := findL_lt key (LS.take i)
        have htl := List.length_take_le i LS
        refine W_seq ?_
        refine W_seq ?_
        refine W_region ?_
        refine wl_q (r_move (.int _ _) rfl) rfl rfl ?_
        refine wl_q (r_move (.slice _ _ _) rfl) rfl rfl ?_
        refine wl_q (r_lenS Tryz.underlying50 rfl) rfl rfl ?_
        refine wl_q (r_bin (.bool (decide _)) rfl rfl rfl) rfl rfl ?_
        refine wl_q (r_move (.bool (decide _)) rfl) rfl rfl ?_
        refine wl_splitD 41 rfl (fun g41 => ?_) (fun g41 => ?_)
        · skip
          refine wl_q (r_move (.int _ _) rfl) rfl rfl ?_
          refine wl_q (r_bin (.bool (decide _)) rfl rfl rfl) rfl rfl ?_
          refine wl_q (r_pick true (.bool (decide _)) rfl rfl) rfl rfl ?_
          refine wl_nil ?_
          refine thenN ?_
          refine W_condD rfl (fun h44 => ?_) (fun h44 => ?_)
          · skip
            obtain ⟨r1, hr1⟩ := getSome (xs := rl) (k := i) hrI (by omega)
            obtain ⟨l1, hl1⟩ := getSome (xs := LS) (k := i) hlI (by omega)
            have hR1 := I.row _ _ _ hr1 hl1
            have hn1 : l1.length = r1.n := by simpa using hR1.len
            have hb1 := hR1.bound
            refine W_skip ?_
            refine thenN ?_
            refine W_seq ?_
            refine W_block ?_
            refine W_seq ?_
            refine W_region ?_
            refine wl_q (r_assign (.int _ _) rfl) rfl rfl ?_
            refine wl_nil ?_
            refine thenN ?_
            refine W_block ?_
            refine W_loop (σ := Nat) [1, 2, 3, 8, 9, 12] (fun k => [(11, .int .i64 (if key ∈ l1.take k then (i : Int) else -1)), (13, .int .i64 (k : Int))]) (fun k w' => k ≤ r1.n ∧ Mem w [] [r.e] w') (fun k => r1.n - k) 0 (agC (iE (by simp; omega)) (agC rfl agN)) (⟨by omega, hM7⟩) ?_
            rintro k ρ8 w8 ⟨hk, hM8⟩
            refine W_seq ?_
            refine W_seq ?_
            refine W_region ?_
            refine wl_q (r_move (.int _ _) rfl) rfl rfl ?_
            refine wl_q (r_move (.slice _ _ _) rfl) rfl rfl ?_
            refine wl_q (r_move (.int _ _) rfl) rfl rfl ?_
            refine wl_q (r_idxR (i) sl50 rfl rfl rfl ((I.mem hM8).hd.below_len (mapGet hdr hr1)) ((I.mem hM8).hd.someK (mapGet hdr hr1))) rfl rfl ?_
            refine wl_q (r_ldE0 (.slice _ _ _) one52 (I.mem hM8).hd (mapGet hdr hr1) rfl) rfl rfl ?_
            refine wl_q (r_lenS Tryz.underlying52 rfl) rfl rfl ?_
            refine wl_q (r_bin (.bool (decide _)) rfl rfl rfl) rfl rfl ?_
            refine wl_nil ?_
            refine thenN ?_
            refine W_condD rfl (fun h53 => ?_) (fun h53 => ?_)
            · skip
              obtain ⟨zk, hzk⟩ := getSome (xs := l1) (k := k) hn1 (by omega)
              refine W_skip ?_
              refine thenN ?_
              refine W_seq ?_
              refine W_block ?_
              refine W_seq ?_
              refine W_region ?_
              refine wl_q (r_move (.slice _ _ _) rfl) rfl rfl ?_
              refine wl_q (r_move (.int _ _) rfl) rfl rfl ?_
              refine wl_q (r_idxR (i) sl50 rfl rfl rfl ((I.mem hM8).hd.below_len (mapGet hdr hr1)) ((I.mem hM8).hd.someK (mapGet hdr hr1))) rfl rfl ?_
              refine wl_q (r_ldE0 (.slice _ _ _) one52 (I.mem hM8).hd (mapGet hdr hr1) rfl) rfl rfl ?_
              refine wl_q (r_move (.int _ _) rfl) rfl rfl ?_
              refine wl_q (r_idxR (k) sl52 rfl rfl rfl (((I.mem hM8).row _ _ _ hr1 hl1).below_len (mapGet keyCell hzk)) (((I.mem hM8).row _ _ _ hr1 hl1).someK (mapGet keyCell hzk))) rfl rfl ?_
              refine wl_q (r_ldE0 (.int _ _) one30 ((I.mem hM8).row _ _ _ hr1 hl1) (mapGet keyCell hzk) rfl) rfl rfl ?_
              refine wl_q (r_move (.int _ _) rfl) rfl rfl ?_
              refine wl_q (r_bin (.bool (decide _)) rfl rfl rfl) rfl rfl ?_
              refine wl_nil ?_
              refine thenN ?_
              refine W_condD rfl (fun h64 => ?_) (fun h64 => ?_)
              · skip
                refine W_region ?_
                refine wl_q (r_move (.int _ _) rfl) rfl rfl ?_
                refine wl_q (r_assign (.int _ _) rfl) rfl rfl ?_
                refine wl_nil ?_
                refine blkN ?_
                refine thenN ?_
                refine W_region ?_
                refine wl_q (r_move (.int _ _) rfl) rfl rfl ?_
                refine wl_q (r_add rfl rfl (by omega) (by omega)) rfl rfl ?_
                refine wl_q (r_assign (.int _ _) rfl) rfl rfl ?_
                refine wl_nil ?_
                refine roundN (k + 1) (agC (iE (by rw [if_pos (by rw [take_snoc hzk, h64]; simp)])) (agC rfl agN)) (akC rfl (akC rfl (akC rfl (akC rfl (akC rfl (akC rfl akN)))))) ?_ ?_
                · exact ⟨by omega, hM8⟩
                · omega
              · skip
                refine W_skip ?_
                refine blkN ?_
                refine thenN ?_
                refine W_region ?_
                refine wl_q (r_move (.int _ _) rfl) rfl rfl ?_
                refine wl_q (r_add rfl rfl (by omega) (by omega)) rfl rfl ?_
                refine wl_q (r_assign (.int _ _) rfl) rfl rfl ?_
                refine wl_nil ?_
                refine roundN (k + 1) (agC (iE (by rw [take_snoc hzk]; simp [Ne.symm h64])) (agC rfl agN)) (akC rfl (akC rfl (akC rfl (akC rfl (akC rfl (akC rfl akN)))))) ?_ ?_
                · exact ⟨by omega, hM8⟩
                · omega
            · skip
              refine W_exit ?_
              refine thenX ?_
              refine roundX ?_
              refine blkH ?_
              refine blkN ?_
              refine thenN ?_
              refine W_region ?_
              refine wl_q (r_move (.int _ _) rfl) rfl rfl ?_
              refine wl_q (r_add rfl rfl (by omega) (by omega)) rfl rfl ?_
              refine wl_q (r_assign (.int _ _) rfl) rfl rfl ?_
              refine wl_nil ?_
              refine roundN (i + 1) (agC (iE (by rw [findL_snoc hl1 h44, List.take_of_length_le (by omega)])) (agC rfl agN)) (akC rfl (akC rfl (akC rfl (akC rfl (akC rfl akN))))) ?_ ?_
              · exact ⟨by omega, hM8⟩
              · omega
          · skip
            have hwant : findL key LS = (findL key (LS.take i)) := findL_stop h44
            refine W_exit ?_
            refine thenX ?_
            refine roundX ?_
            refine blkH ?_
            refine thenN ?_
            refine W_seq ?_
            refine W_region ?_
            refine wl_q (r_move (.slice _ _ _) rfl) rfl rfl ?_
            refine wl_q (r_move (.slice _ _ _) rfl) rfl rfl ?_
            refine wl_cal cal26 rfl rfl rfl ?_
            refine (isl_Of _ _ _ _ (viewL xs) (hr.rd hM7 (nthMem (i := 0) rfl)) _ _ _ cs (R'.mem hM7) hvo hvs (by omega) hvn).mono ?_
            rintro _ w9 ⟨v9, rfl, ⟨q0, rs0, rfl, hq0, hI0, hM9⟩⟩
            refine ⟨_, rfl, ?_⟩
            have M9 : Mem _ _ ([_, _] ++ _) _ := Mem.front (L := [_]) (hM7.call0T (A := [_]) hM9)
            have hIl0 := hI0.len
            have hqn0 : rs0.length = q0.n := by simpa using hq0.1
            refine wl_q (r_move (.slice _ _ _) rfl) rfl rfl ?_
            refine wl_q (r_move (.slice _ _ _) rfl) rfl rfl ?_
            refine wl_cal cal27 rfl rfl rfl ?_
            refine (ref25_Of _ _ _ _ (viewL xs) (hr.rd M9 (nthMem (i := 0) rfl)) _ _ _ cs (R'.mem M9) hvo hvs (by omega) hvn hrt.2).mono ?_
            rintro _ w10 ⟨v10, rfl, ⟨q1, rs1, rfl, hq1, hI1, hM10⟩⟩
            refine ⟨_, rfl, ?_⟩
            have M10 : Mem _ _ ([_, _, _] ++ _) _ := Mem.front (L := [_, _]) (Mem.call0U (L := [_, _]) (A := [_]) M9 hM10)
            have hIl1 := hI1.len
            have hqn1 : rs1.length = q1.n := by simpa using hq1.1
            refine wl_cal cal25 rfl rfl rfl ?_
            refine (ref25_Same _ _ _ _ rs0 (islL (forestOf (viewL xs) cs) (viewL xs)) (hI0.rd hq0 M10 (nthMem (i := 1) rfl) (fun r hr => List.mem_append_right _ (List.mem_append_left _ (List.mem_map_of_mem hr)))) _ _ _ rs1 (islL (forestOf (viewL xs) cs) (viewL xs)) (hI1.rd hq1 M10 (nthMem (i := 2) rfl) (fun r hr => List.mem_append_right _ (List.mem_append_right _ (List.mem_map_of_mem hr))))).mono ?_
            rintro _ w11 ⟨v11, rfl, ⟨rfl, hb11⟩⟩
            refine ⟨_, rfl, ?_⟩
            have M11 := M10.callB hb11
            refine wl_re 72 (.bool true) (bT rfl).symm ?_
            refine wl_q (r_move (.bool true) rfl) rfl rfl ?_
            refine wl_q (r_move (.slice _ _ _) rfl) rfl rfl ?_
            refine wl_cal cal28 rfl rfl rfl ?_
            refine (isl_Touching _ (F.mem M11) (N.mem M11) _ _ _ (viewL xs) (hr.rd M11 (nthMem (i := 0) rfl)) hvo hvs (by omega) hvn).mono ?_
            rintro _ w12 ⟨v12, rfl, ⟨q2, rs2, rfl, hq2, hI2, hM12⟩⟩
            refine ⟨_, rfl, ?_⟩
            have M12 : Mem _ _ ([_, _, _, _] ++ _) _ := Mem.front (L := [_, _, _]) (Mem.call0U (L := [_, _, _]) (A := [_]) M11 hM12)
            have hIl2 := hI2.len
            have hqn2 : rs2.length = q2.n := by simpa using hq2.1
            refine wl_q (r_move (.slice _ _ _) rfl) rfl rfl ?_
            refine wl_q (r_move (.slice _ _ _) rfl) rfl rfl ?_
            refine wl_cal cal22 rfl rfl rfl ?_
            refine (ref15_All _ _ _ _ (viewL xs) (hr.rd M12 (nthMem (i := 0) rfl)) hvo hvs (by first | decide | omega)).mono ?_
            rintro _ w13 ⟨v13, rfl, ⟨r4, rfl, hr4, hM13⟩⟩
            refine ⟨_, rfl, ?_⟩
            have M13 : Mem _ _ ([_, _, _, _, _] ++ _) _ := Mem.front (L := [_, _, _, _]) (M12.call0 hM13)
            refine wl_cal cal27 rfl rfl rfl ?_
            refine (ref25_Of _ _ _ _ (viewL xs) (hr.rd M13 (nthMem (i := 0) rfl)) _ _ _ (allC (viewL xs)) (hr4.rd M13 (nthMem (i := 4) rfl)) hvo hvs (by omega) hvn (allC_right hvs hvo)).mono ?_
            rintro _ w14 ⟨v14, rfl, ⟨q3, rs3, rfl, hq3, hI3, hM14⟩⟩
            refine ⟨_, rfl, ?_⟩
            have M14 : Mem _ _ ([_, _, _, _, _, _] ++ _) _ := Mem.front (L := [_, _, _, _, _]) (Mem.call0U (L := [_, _, _, _, _]) (A := [_]) M13 hM14)
            have hIl3 := hI3.len
            have hqn3 : rs3.length = q3.n := by simpa using hq3.1
            refine wl_cal cal25 rfl rfl rfl ?_
            refine (ref25_Same _ _ _ _ rs2 (islL (forestOf (viewL xs) (allC (viewL xs))) (viewL xs)) (hI2.rd hq2 M14 (nthMem (i := 3) rfl) (fun r hr => List.mem_append_right _ (List.mem_append_left _ (List.mem_append_right _ (List.mem_map_of_mem hr))))) _ _ _ rs3 (islL (forestOf (viewL xs) (allC (viewL xs))) (viewL xs)) (hI3.rd hq3 M14 (nthMem (i := 5) rfl) (fun r hr => List.mem_append_right _ (List.mem_append_right _ (List.mem_map_of_mem hr))))).mono ?_
            rintro _ w15 ⟨v15, rfl, ⟨rfl, hb15⟩⟩
            refine ⟨_, rfl, ?_⟩
            have M15 := M14.callB hb15
            refine wl_re 80 (.bool true) (bT rfl).symm ?_
            refine wl_q (r_pick true (.bool true) rfl rfl) rfl rfl ?_
            refine wl_q (r_move (.bool true) rfl) rfl rfl ?_
            refine wl_q (r_move (.slice _ _ _) rfl) rfl rfl ?_
            refine wl_q (r_move (.int _ _) rfl) rfl rfl ?_
            refine wl_cal cal29 rfl rfl rfl ?_
            refine (isl_Find _ key _ _ _ rl LS (I.mem M15)).mono ?_
            rintro _ w16 ⟨v16, rfl, ⟨rfl, hb16⟩⟩
            refine ⟨_, rfl, ?_⟩
            have M16 := M15.callB hb16
            refine wl_q (r_move (.int _ _) rfl) rfl rfl ?_
            refine wl_q (r_bin (.bool (decide _)) rfl rfl rfl) rfl rfl ?_
            refine wl_re 87 (.bool true) (bT hwant).symm ?_
            refine wl_q (r_pick true (.bool true) rfl rfl) rfl rfl ?_
            refine wl_q (r_assign (.bool true) rfl) rfl rfl ?_
            refine wl_nil ?_
            refine thenN ?_
            refine W_ret ?_
            skip
            refine fin1 (.bool true) rfl ?_
            exact ⟨rfl, M16.below⟩
        · skip
          have hwant : findL key LS = (findL key (LS.take i)) := by rw [List.take_of_length_le (by omega)]
          refine wl_skip rfl rfl ?_
          refine wl_skip rfl rfl ?_
          refine wl_q (r_pick false (.bool false) rfl rfl) rfl rfl ?_
          refine wl_nil ?_
          refine thenN ?_
          refine W_condF rfl ?_
          refine W_exit ?_
          refine thenX ?_
          refine roundX ?_
          refine blkH ?_
          refine thenN ?_
          refine W_seq ?_
          refine W_region ?_
          refine wl_q (r_move (.slice _ _ _) rfl) rfl rfl ?_
          refine wl_q (r_move (.slice _ _ _) rfl) rfl rfl ?_
          refine wl_cal cal26 rfl rfl rfl ?_
          refine (isl_Of _ _ _ _ (viewL xs) (hr.rd hM7 (nthMem (i := 0) rfl)) _ _ _ cs (R'.mem hM7) hvo hvs (by omega) hvn).mono ?_
          rintro _ w17 ⟨v17, rfl, ⟨q0, rs0, rfl, hq0, hI0, hM17⟩⟩
          refine ⟨_, rfl, ?_⟩
          have M17 : Mem _ _ ([_, _] ++ _) _ := Mem.front (L := [_]) (hM7.call0T (A := [_]) hM17)
          have hIl0 := hI0.len
          have hqn0 : rs0.length = q0.n := by simpa using hq0.1
          refine wl_q (r_move (.slice _ _ _) rfl) rfl rfl ?_
          refine wl_q (r_move (.slice _ _ _) rfl) rfl rfl ?_
          refine wl_cal cal27 rfl rfl rfl ?_
          refine (ref25_Of _ _ _ _ (viewL xs) (hr.rd M17 (nthMem (i := 0) rfl)) _ _ _ cs (R'.mem M17) hvo hvs (by omega) hvn hrt.2).mono ?_
          rintro _ w18 ⟨v18, rfl, ⟨q1, rs1, rfl, hq1, hI1, hM18⟩⟩
          refine ⟨_, rfl, ?_⟩
          have M18 : Mem _ _ ([_, _, _] ++ _) _ := Mem.front (L := [_, _]) (Mem.call0U (L := [_, _]) (A := [_]) M17 hM18)
          have hIl1 := hI1.len
          have hqn1 : rs1.length = q1.n := by simpa using hq1.1
          refine wl_cal cal25 rfl rfl rfl ?_
          refine (ref25_Same _ _ _ _ rs0 (islL (forestOf (viewL xs) cs) (viewL xs)) (hI0.rd hq0 M18 (nthMem (i := 1) rfl) (fun r hr => List.mem_append_right _ (List.mem_append_left _ (List.mem_map_of_mem hr)))) _ _ _ rs1 (islL (forestOf (viewL xs) cs) (viewL xs)) (hI1.rd hq1 M18 (nthMem (i := 2) rfl) (fun r hr => List.mem_append_right _ (List.mem_append_right _ (List.mem_map_of_mem hr))))).mono ?_
          rintro _ w19 ⟨v19, rfl, ⟨rfl, hb19⟩⟩
          refine ⟨_, rfl, ?_⟩
          have M19 := M18.callB hb19
          refine wl_re 72 (.bool true) (bT rfl).symm ?_
          refine wl_q (r_move (.bool true) rfl) rfl rfl ?_
          refine wl_q (r_move (.slice _ _ _) rfl) rfl rfl ?_
          refine wl_cal cal28 rfl rfl rfl ?_
          refine (isl_Touching _ (F.mem M19) (N.mem M19) _ _ _ (viewL xs) (hr.rd M19 (nthMem (i := 0) rfl)) hvo hvs (by omega) hvn).mono ?_
          rintro _ w20 ⟨v20, rfl, ⟨q2, rs2, rfl, hq2, hI2, hM20⟩⟩
          refine ⟨_, rfl, ?_⟩
          have M20 : Mem _ _ ([_, _, _, _] ++ _) _ := Mem.front (L := [_, _, _]) (Mem.call0U (L := [_, _, _]) (A := [_]) M19 hM20)
          have hIl2 := hI2.len
          have hqn2 : rs2.length = q2.n := by simpa using hq2.1
          refine wl_q (r_move (.slice _ _ _) rfl) rfl rfl ?_
          refine wl_q (r_move (.slice _ _ _) rfl) rfl rfl ?_
          refine wl_cal cal22 rfl rfl rfl ?_
          refine (ref15_All _ _ _ _ (viewL xs) (hr.rd M20 (nthMem (i := 0) rfl)) hvo hvs (by first | decide | omega)).mono ?_
          rintro _ w21 ⟨v21, rfl, ⟨r4, rfl, hr4, hM21⟩⟩
          refine ⟨_, rfl, ?_⟩
          have M21 : Mem _ _ ([_, _, _, _, _] ++ _) _ := Mem.front (L := [_, _, _, _]) (M20.call0 hM21)
          refine wl_cal cal27 rfl rfl rfl ?_
          refine (ref25_Of _ _ _ _ (viewL xs) (hr.rd M21 (nthMem (i := 0) rfl)) _ _ _ (allC (viewL xs)) (hr4.rd M21 (nthMem (i := 4) rfl)) hvo hvs (by omega) hvn (allC_right hvs hvo)).mono ?_
          rintro _ w22 ⟨v22, rfl, ⟨q3, rs3, rfl, hq3, hI3, hM22⟩⟩
          refine ⟨_, rfl, ?_⟩
          have M22 : Mem _ _ ([_, _, _, _, _, _] ++ _) _ := Mem.front (L := [_, _, _, _, _]) (Mem.call0U (L := [_, _, _, _, _]) (A := [_]) M21 hM22)
          have hIl3 := hI3.len
          have hqn3 : rs3.length = q3.n := by simpa using hq3.1
          refine wl_cal cal25 rfl rfl rfl ?_
          refine (ref25_Same _ _ _ _ rs2 (islL (forestOf (viewL xs) (allC (viewL xs))) (viewL xs)) (hI2.rd hq2 M22 (nthMem (i := 3) rfl) (fun r hr => List.mem_append_right _ (List.mem_append_left _ (List.mem_append_right _ (List.mem_map_of_mem hr))))) _ _ _ rs3 (islL (forestOf (viewL xs) (allC (viewL xs))) (viewL xs)) (hI3.rd hq3 M22 (nthMem (i := 5) rfl) (fun r hr => List.mem_append_right _ (List.mem_append_right _ (List.mem_map_of_mem hr))))).mono ?_
          rintro _ w23 ⟨v23, rfl, ⟨rfl, hb23⟩⟩
          refine ⟨_, rfl, ?_⟩
          have M23 := M22.callB hb23
          refine wl_re 80 (.bool true) (bT rfl).symm ?_
          refine wl_q (r_pick true (.bool true) rfl rfl) rfl rfl ?_
          refine wl_q (r_move (.bool true) rfl) rfl rfl ?_
          refine wl_q (r_move (.slice _ _ _) rfl) rfl rfl ?_
          refine wl_q (r_move (.int _ _) rfl) rfl rfl ?_
          refine wl_cal cal29 rfl rfl rfl ?_
          refine (isl_Find _ key _ _ _ rl LS (I.mem M23)).mono ?_
          rintro _ w24 ⟨v24, rfl, ⟨rfl, hb24⟩⟩
          refine ⟨_, rfl, ?_⟩
          have M24 := M23.callB hb24
          refine wl_q (r_move (.int _ _) rfl) rfl rfl ?_
          refine wl_q (r_bin (.bool (decide _)) rfl rfl rfl) rfl rfl ?_
          refine wl_re 87 (.bool true) (bT hwant).symm ?_
          refine wl_q (r_pick true (.bool true) rfl rfl) rfl rfl ?_
          refine wl_q (r_assign (.bool true) rfl) rfl rfl ?_
          refine wl_nil ?_
          refine thenN ?_
          refine W_ret ?_
          skip
          refine fin1 (.bool true) rfl ?_
          exact ⟨rfl, M24.below⟩

end Go.Proofs.YtmcddmhkjcgneaaGreatDoor

set_option linter.unusedVariables false
set_option linter.unusedSimpArgs false
set_option linter.unnecessarySimpa false
namespace Go.Proofs.YtmcddmhkjcgneaaGreatDoor
open Go.Bil
open Go.RowKit (Below)
open Go.Proofs

namespace islandMatchesReference
open Go.ChangeShapes Go.WideShapes Go.ChangeAt Go.RowKit
open Go.ChangeMaps (open_string shut_string)
theorem own : ownKnob Tryz.prog.godebug = none := by kernel_rfl
theorem laidOut : laidOutB Tryz.prog = true := by kernel_rfl
set_option maxRecDepth 100000 in
theorem lifted (os : Os) (started : os.Started) (H : Type) (enc : TypeId × Value → H) :
    ReturnsInHanded {} Tryz.checked os 8 .any (fun w args => (Rows.islandMatchesReferenceSpec.pre enc Tryz.prog Tryz.f8 [] false w args ∧ laidMet Tryz.prog laidL w) ∧ sizedMet enc Tryz.prog Tryz.f8 (OpenSpec.ofChange Rows.islandMatchesReferenceSpec) false w args) (Rows.islandMatchesReferenceSpec.post enc Tryz.prog Tryz.f8 false true false false) := by
  refine returnsInHanded_of_change_and (C := Tryz.checked) (X := fun w _ => laidMet Tryz.prog laidL w) (fun _ _ _ hh h => h.of_heap hh) own started (by kernel_rfl) Tryz.func8
    (ChangeSpec.witness_at (enc := enc) (C := Tryz.checked) (os := os) (X := fun w _ => laidMet Tryz.prog laidL w) false (laidWorld os) #[.slice none 0 0, .slice none 0 0, .slice none 0 0, .int .u32 0] 8 rfl (by kernel_rfl) (by kernel_rfl) (by kernel_rfl) (by kernel_rfl) (by kernel_rfl) (laidMet_of_run' 8 (by kernel_rfl) (by kernel_rfl))) ?_
  intro W base args ds gs before hval0 hW hcnd hsz0 hL _
  have hsz : (DataW.weightsEach Tryz.prog (Tryz.f8.params.toList ++ Rows.islandMatchesReferenceSpec.plain.varTypes Tryz.prog) (ds ++ gs)).all (· ≤ reachBytes) = true := hsz0
  have hval : ∀ (j : Nat) t v, Tryz.f8.params[j]? = some t → args[j]? = some v → Value.okWide Tryz.prog W .any base t v := hval0
  have hW' := hW
  obtain ⟨p, q, hA0, hV, rfl, hfz, hnd⟩ := hW
  have hA : DataW.TrodAll enc Tryz.prog W 0 (fun _ => true) true Tryz.f8.params.toList args.toList ds p := hA0
  rw [Tryz.params8] at hA hval hsz
  obtain ⟨v0, vs0, d0, ds0, p0, q0, hargs, rfl, rfl, h0, r0⟩ := trodAll_cons hA
  obtain ⟨v1, vs1, d1, ds1, p1, q1, rfl, rfl, rfl, h1, r1⟩ := trodAll_cons r0
  obtain ⟨v2, vs2, d2, ds2, p2, q2, rfl, rfl, rfl, h2, r2⟩ := trodAll_cons r1
  obtain ⟨v3, vs3, d3, ds3, p3, q3, rfl, rfl, rfl, h3, r3⟩ := trodAll_cons r2
  obtain ⟨rfl, rfl, rfl⟩ := trodAll_nil r3
  obtain rfl : args = #[v0, v1, v2, v3] := by cases args; simp_all
  obtain ⟨rfl, rfl⟩ := trodVars_none hV
  have k0 := h0
  have lt0 : ∀ x ∈ p0, x.block < W.heap.size := by obtain ⟨m, hm⟩ := k0; exact DataW.trod_lt m _ _ _ hm
  obtain ⟨a0, len0, cap0, rfl⟩ := okWide_slice Tryz.underlying22 (hval 0 22 v0 rfl rfl)
  have y0 := sized_rows hsz (j := 0) (t := 22) rfl rfl sl22 h0
  obtain ⟨ls0, R0, hi0⟩ := open_rows sl22 leaves32 rfl y0 h0
  obtain ⟨xs0, rfl, hx0⟩ := list_of bodyOf ls0 hi0
  have k1 := h1
  have lt1 : ∀ x ∈ p1, x.block < W.heap.size := by obtain ⟨m, hm⟩ := k1; exact DataW.trod_lt m _ _ _ hm
  obtain ⟨a1, len1, cap1, rfl⟩ := okWide_slice Tryz.underlying45 (hval 1 45 v1 rfl rfl)
  have y1 := sized_rows hsz (j := 1) (t := 45) rfl rfl sl45 h1
  obtain ⟨ls1, R1, hi1⟩ := open_rows sl45 leaves63 rfl y1 h1
  obtain ⟨xs1, rfl, hx1⟩ := list_of conOf5 ls1 hi1
  have k2 := h2
  have lt2 : ∀ x ∈ p2, x.block < W.heap.size := by obtain ⟨m, hm⟩ := k2; exact DataW.trod_lt m _ _ _ hm
  obtain ⟨a2, len2, cap2, rfl⟩ := okWide_slice Tryz.underlying50 (hval 2 50 v2 rfl rfl)
  have y2 : ∀ n ∈ d2.weights Tryz.prog 50, n ≤ reachBytes := fun n hn => by simpa using List.all_eq_true.1 hsz _ (DataW.weights_mem_each (j := 2) rfl rfl n hn)
  obtain ⟨rs2, L2, I2⟩ := open_rows2 sl50 sl52 leaves30 y2 h2
  obtain ⟨a3, rfl, rfl, rfl, w3⟩ := open_int Tryz.underlying30 (hval 3 30 v3 rfl rfl) h3
  have b3 : 0 ≤ a3 ∧ a3 ≤ 4294967295 := wf_int w3
  clear hA0 hval0 hsz0 hsz
  refine (law_IslandMatchesReference W (rdF hL) (rdN hL) _ _ _ xs0 R0 _ _ _ xs1 R1 (fun b hb => (hx0 b hb).key.1) _ _ _ rs2 L2 I2 a3).mono fun e W' ⟨v, he, hv, bel⟩ => ?_
  subst he
  subst hv
  exact ⟨_, rfl, _, _, _, [], _, [], hW', trodAll_mk1 (shut_bool Tryz.underlying4 _), (trodAll_cons_mk (Below.trod laidOut (by kernel_rfl) (of_decide_eq_true (by kernel_rfl)) k0 bel lt0) (trodAll_cons_mk (Below.trod laidOut (by kernel_rfl) (of_decide_eq_true (by kernel_rfl)) k1 bel lt1) (trodAll_cons_mk (Below.trod laidOut (by kernel_rfl) (of_decide_eq_true (by kernel_rfl)) k2 bel lt2) (trodAll_cons_mk (shut_int Tryz.underlying30 w3) trodAll_mk0)))), rfl, bel.frame _, fun h => by cases h⟩
theorem over : Rows.islandMatchesReferenceRow.holds Tryz.pinned (OpenSpec.ofChange Rows.islandMatchesReferenceSpec) :=
  OpenClaim.holds_of_wide 8 Tryz.f8 rfl rfl rfl rfl rfl rfl rfl ⟨rfl, rfl, rfl, rfl, rfl⟩ rfl rfl rfl rfl rfl (by kernel_rfl) Tryz.func8 (by kernel_rfl)
    (of_decide_eq_true (by kernel_rfl)) (by unfold Func.isWrapper; first | (rw [if_pos (by decide +kernel)]; kernel_rfl) | (rw [if_neg (by decide +kernel)]; exact ⟨rfl, rfl⟩))
    (fun os started H enc _ => lifted os started H enc)
end islandMatchesReference
theorem islandMatchesReference_holds : Rows.IslandMatchesReferenceSaid := islandMatchesReference.over
#print axioms islandMatchesReference_holds
theorem islandMatchesReference_card : Rows.IslandMatchesReferenceCardSaid :=
  Claim7.holds_tied_plain_at .later [] [.data, .data] true (true, "9f8295c113a943455c4832a95346352d7118fae4d0dcf065aaf106ad8bcb4f65") false
    islandMatchesReference_holds (fun _ h => by cases h) (by kernel_rfl) (fun _ h => by cases h) islandMatchesReference_row_tie rfl ⟨rfl, rfl⟩ (by kernel_rfl) rfl
    (fun f fn hf hfn => by
      obtain rfl : f = 8 := Option.some.inj ((show Tryz.prog.funcNamed "billiard/billiardlaw25.IslandMatchesReference" = some 8 by kernel_rfl).symm.trans hf) |>.symm
      obtain rfl : fn = Tryz.f8 := (Option.some.inj (Tryz.func8.symm.trans hfn)).symm
      exact ⟨by kernel_rfl, fun j t ht => by
        rw [Tryz.params8] at ht
        have hm : t ∈ [22, 45, 50, 30] := by simpa using Array.mem_of_getElem? ht
        have hall : ([22, 45, 50, 30].all fun u => !Tryz.prog.wantsStandIn u) = true := by kernel_rfl
        exact (show Tryz.prog.wantsStandIn t = false by simpa using List.all_eq_true.1 hall t hm)⟩)
    (by kernel_rfl)
#print axioms islandMatchesReference_card

end Go.Proofs.YtmcddmhkjcgneaaGreatDoor
