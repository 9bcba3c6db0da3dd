import Derived.Test.YtmcddmhkjcgneaaGreatDoorK5
import Derived.Test.YtmcddmhkjcgneaaGreatDoorK29
import Derived.Test.YtmcddmhkjcgneaaGreatDoorK23
import Derived.Test.YtmcddmhkjcgneaaGreatDoorK16
import Derived.Test.YtmcddmhkjcgneaaGreatDoorRows
import Derived.Test.YtmcddmhkjcgneaaGreatDoorK30
import Derived.Test.YtmcddmhkjcgneaaGreatDoorTie
import Derived.Test.YtmcddmhkjcgneaaGreatDoorCards
import Derived.WalkKit
import Derived.ProofKit
import Derived.OpenShut
import Derived.ShutString
import Derived.ChangeOld
import Derived.Below
import Derived.SizedLaws
/- Walks of Go functions over the frame of this claim: what each computes, for every input of the stated types (LIslandSingles). -/
set_option linter.unusedVariables false
set_option linter.unusedSimpArgs false
set_option linter.unnecessarySimpa false
namespace Go.Proofs.YtmcddmhkjcgneaaGreatDoor
open Go.Bil
open Go.RowKit (Below)
open Go.Proofs

set_option maxHeartbeats 16000000 in
theorem law_IslandSingles (w : World) (F : Rd w 2 (some ⟨1, 0, none⟩) 1 [[.int .u32 73856093, .int .u32 19349663]]) (N : Rd w 4 (some ⟨0, 0, none⟩) 1 [bxCells noneB]) (A : Option Addr) (n c : Nat) (xs : List Body) (R : Rd w 10 A n (xs.map bodyCells)) (B : Option Addr) (mc c' : Nat) (cs : List Con) (R' : Rd w 5 B mc (cs.map conCells)) (hkx : ∀ b ∈ xs, 0 ≤ b.key) :
    Calls Tryz.prog 13 #[.slice A n c, .slice B mc c'] w (fun ex w' => ∃ v, ex = .returned v ∧ (fun v w' => v = .bool true ∧ Below w.heap.size w w') v w') := by
  have hlen : xs.length = n := by simpa using R.len
  have hbd := R.bound
  refine calls_of_W #[.tmp 4] 82 Tryz.func13 rfl Tryz.results13 Tryz.ntmps13 rfl ?_
  have M0 := Mem.refl w
  refine W_seq ?_
  refine W_region ?_
  refine wl_q (r_assign (.bool false) rfl) rfl rfl ?_
  refine wl_nil ?_
  refine thenN ?_
  refine W_seq ?_
  refine W_region ?_
  refine wl_q (r_move (.slice _ _ _) rfl) rfl rfl ?_
  refine wl_cal cal14 rfl rfl rfl ?_
  refine (ref11_View _ _ _ _ xs (R.mem M0)).mono ?_
  rintro _ w1 ⟨v1, rfl, ⟨r, rfl, hr, hM1⟩⟩
  refine ⟨_, rfl, ?_⟩
  have M1 : Mem _ _ [_] _ := M0.call0 hM1
  refine wl_q (r_move (.tuple (List.toArray _)) rfl) rfl rfl ?_
  refine wl_q (r_ext (.slice _ _ _) rfl rfl) rfl rfl ?_
  refine wl_q (r_ext (.bool (decide _)) rfl rfl) rfl rfl ?_
  refine wl_q (r_assign (.slice _ _ _) rfl) rfl rfl ?_
  refine wl_q (r_assign (.bool (decide _)) rfl) rfl rfl ?_
  refine wl_nil ?_
  refine thenN ?_
  refine W_seq ?_
  refine W_seq ?_
  refine W_region ?_
  refine wl_cal cal23 rfl rfl rfl ?_
  refine (aw25 _ (F.mem M1) (N.mem M1)).mono ?_
  rintro _ w2 ⟨v2, rfl, ⟨rfl, hb2⟩⟩
  refine ⟨_, rfl, ?_⟩
  have M2 := M1.callB hb2
  refine wl_q (r_notB false rfl rfl) rfl rfl ?_
  refine wl_q (r_move (.bool false) rfl) rfl rfl ?_
  refine wl_q (r_move (.bool (decide _)) rfl) rfl rfl ?_
  refine wl_q (r_not rfl) rfl rfl ?_
  refine wl_q (r_pick false (.bool (decide _)) rfl rfl) rfl rfl ?_
  refine wl_q (r_move (.bool (decide _)) rfl) rfl rfl ?_
  refine wl_splitD 21 rfl (fun g21 => ?_) (fun g21 => ?_)
  · skip
    refine wl_skip rfl rfl ?_
    refine wl_skip rfl rfl ?_
    refine wl_skip rfl rfl ?_
    refine wl_skip rfl rfl ?_
    refine wl_q (r_pick true (.bool true) rfl rfl) rfl rfl ?_
    refine wl_nil ?_
    refine thenN ?_
    refine W_condT rfl ?_
    refine W_seq ?_
    refine W_region ?_
    refine wl_cal cal23 rfl rfl rfl ?_
    refine (aw25 _ (F.mem M2) (N.mem M2)).mono ?_
    rintro _ w3 ⟨v3, rfl, ⟨rfl, hb3⟩⟩
    refine ⟨_, rfl, ?_⟩
    have M3 := M2.callB hb3
    refine wl_q (r_assign (.bool true) rfl) rfl rfl ?_
    refine wl_nil ?_
    refine thenN ?_
    refine W_ret ?_
    refine thenR ?_
    skip
    refine fin1 (.bool true) rfl ?_
    exact ⟨rfl, M3.below⟩
  · skip
    refine wl_q (r_move (.slice _ _ _) rfl) rfl rfl ?_
    refine wl_q (r_move (.slice _ _ _) rfl) rfl rfl ?_
    refine wl_cal cal24 rfl rfl rfl ?_
    refine (ref25_Right _ _ _ _ (viewL xs) (hr.rd M2 (nthMem (i := 0) rfl)) _ _ _ cs (R'.mem M2)).mono ?_
    rintro _ w4 ⟨v4, rfl, ⟨rfl, hb4⟩⟩
    refine ⟨_, rfl, ?_⟩
    have M4 := M2.callB hb4
    refine wl_q (r_not rfl) rfl rfl ?_
    refine wl_q (r_pick false (.bool (decide _)) rfl rfl) rfl rfl ?_
    refine wl_nil ?_
    refine thenN ?_
    refine W_condD rfl (fun h26 => ?_) (fun h26 => ?_)
    · skip
      refine W_seq ?_
      refine W_region ?_
      refine wl_cal cal23 rfl rfl rfl ?_
      refine (aw25 _ (F.mem M4) (N.mem M4)).mono ?_
      rintro _ w5 ⟨v5, rfl, ⟨rfl, hb5⟩⟩
      refine ⟨_, rfl, ?_⟩
      have M5 := M4.callB hb5
      refine wl_q (r_assign (.bool true) rfl) rfl rfl ?_
      refine wl_nil ?_
      refine thenN ?_
      refine W_ret ?_
      refine thenR ?_
      skip
      refine fin1 (.bool true) rfl ?_
      exact ⟨rfl, M5.below⟩
    · skip
      obtain ⟨hV, hve, hvk⟩ := view_of (Decidable.not_not.1 g21)
      have hvl := hV.len
      have hrn : (viewL xs).length = r.n := by simpa using hr.1
      have hvs := hV.s
      have hvo := hV.okb
      have hrt := Decidable.not_not.1 h26
      have hcs := hrt.1
      have hvn : ∀ b ∈ (viewL xs), 0 ≤ b.key := fun b hb => hkx b (by rw [hve] at hb; exact (sortB_perm xs).mem_iff.1 hb)
      have hclen : cs.length = mc := by simpa using R'.len
      have hbd' := R'.bound
      have hfs := fun l => @forest_fst (viewL xs) hvn l
      refine W_skip ?_
      refine thenN ?_
      refine W_seq ?_
      refine W_region ?_
      refine wl_q (r_move (.slice _ _ _) rfl) rfl rfl ?_
      refine wl_cal cal26 rfl rfl rfl ?_
      refine (isl_Of _ _ _ _ (viewL xs) (hr.rd M4 (nthMem (i := 0) rfl)) _ _ _ [] (Rd.nil _ _ _) hvo hvs (by omega) hvn).mono ?_
      rintro _ w6 ⟨v6, rfl, ⟨q0, rs0, rfl, hq0, hI0, hM6⟩⟩
      refine ⟨_, rfl, ?_⟩
      have M6 : Mem _ _ ([_, _] ++ _) _ := Mem.front (L := [_]) (M4.call0T (A := [_]) hM6)
      rw [singles hvs] at hI0
      have hdl := dynC_le (viewL xs)
      have hkl0 := dynK_len (viewL xs)
      have hIl0 := hI0.len
      have hqn0 : rs0.length = q0.n := by simpa using hq0.1
      refine wl_q (r_assign (.slice _ _ _) rfl) rfl rfl ?_
      refine wl_nil ?_
      refine thenN ?_
      refine W_seq ?_
      refine W_region ?_
      refine wl_q (r_assign (.int _ _) rfl) rfl rfl ?_
      refine wl_nil ?_
      refine thenN ?_
      refine W_seq ?_
      refine W_seq ?_
      refine W_region ?_
      refine wl_q (r_assign (.int _ _) rfl) rfl rfl ?_
      refine wl_nil ?_
      refine thenN ?_
      refine W_block ?_
      refine W_loop (σ := Nat) [1, 5, 7] (fun i => [(8, .int .i64 (dynC ((viewL xs).take i) : Int)), (9, .int .i64 (i : Int))]) (fun i w' => i ≤ r.n ∧ Mem w [] ([r.e, q0.e] ++ rs0.map Row.e) w') (fun i => r.n - i) 0 (agC (iE rfl) (agC rfl agN)) (⟨by omega, M6⟩) ?_
      rintro i ρ7 w7 ⟨hi, hM7⟩
      have hdi := dynC_le ((viewL xs).take i)
      have htl := List.length_take_le i (viewL xs)
      refine W_seq ?_
      refine W_seq ?_
      refine W_region ?_
      refine wl_q (r_move (.int _ _) rfl) rfl rfl ?_
      refine wl_q (r_move (.slice _ _ _) rfl) rfl rfl ?_
      refine wl_q (r_lenS Tryz.underlying22 rfl) rfl rfl ?_
      refine wl_q (r_bin (.bool (decide _)) rfl rfl rfl) rfl rfl ?_
      refine wl_nil ?_
      refine thenN ?_
      refine W_condD rfl (fun h33 => ?_) (fun h33 => ?_)
      · skip
        obtain ⟨xb, hxb⟩ := getSome (xs := (viewL xs)) (k := i) hrn (by omega)
        refine W_skip ?_
        refine thenN ?_
        refine W_seq ?_
        refine W_block ?_
        refine W_seq ?_
        refine W_seq ?_
        refine W_region ?_
        refine wl_q (r_move (.slice _ _ _) rfl) rfl rfl ?_
        refine wl_q (r_move (.int _ _) rfl) rfl rfl ?_
        refine wl_q (r_idxR (i) sl22 rfl rfl rfl ((hr.rd hM7 (nthMem (i := 0) rfl)).below_len (mapGet bodyCells hxb)) ((hr.rd hM7 (nthMem (i := 0) rfl)).someK (mapGet bodyCells hxb))) rfl rfl ?_
        refine wl_q (r_fieldAddrE 4 fld32_3 (hr.rd hM7 (nthMem (i := 0) rfl)) (Nat.lt_of_le_of_lt (Nat.zero_le _) ((hr.rd hM7 (nthMem (i := 0) rfl)).below_len (mapGet bodyCells hxb))) rfl) rfl rfl ?_
        refine wl_q (r_ldE (o := 4) (.int _ _) one21 (hr.rd hM7 (nthMem (i := 0) rfl)) (mapGet bodyCells hxb) rfl rfl) rfl rfl ?_
        refine wl_q (r_bin (.bool (decide _)) rfl rfl rfl) rfl rfl ?_
        refine wl_nil ?_
        refine thenN ?_
        refine W_condD rfl (fun h41 => ?_) (fun h41 => ?_)
        · skip
          refine W_exit ?_
          refine thenX ?_
          refine blkH ?_
          refine thenN ?_
          refine W_region ?_
          refine wl_q (r_move (.int _ _) rfl) rfl rfl ?_
          refine wl_q (r_add rfl rfl (by omega) (by omega)) rfl rfl ?_
          refine wl_q (r_assign (.int _ _) rfl) rfl rfl ?_
          refine wl_nil ?_
          refine roundN (i + 1) (agC (iE (by rw [dynC_snoc hxb, if_neg (fun h => h h41), Nat.add_zero])) (agC rfl agN)) (akC rfl (akC rfl (akC rfl akN))) ?_ ?_
          · exact ⟨by omega, hM7⟩
          · omega
        · skip
          have hka := dynK_at hxb h41
          have hkl := (List.getElem?_eq_some_iff.1 hka).1
          rw [dynK_len] at hkl
          rw [List.length_map] at hIl0
          obtain ⟨r1, hr1⟩ := getSome (xs := rs0) (k := dynC ((viewL xs).take i)) hqn0 (by omega)
          have hl1 : ((dynK (viewL xs)).map (fun k => [k]))[dynC ((viewL xs).take i)]? = some [xb.key] := by rw [List.getElem?_map, hka]; rfl
          have hn1 : 1 = r1.n := by simpa using (hI0.row _ _ _ hr1 hl1).1
          refine W_skip ?_
          refine thenN ?_
          refine W_seq ?_
          refine W_seq ?_
          refine W_draw [(0, 0), (1, 0), (2, 0), (3, 0), (4, 0), (5, 0), (6, 0), (7, 1), (8, 1), (9, 0), (10, 0), (11, 0), (12, 0), (13, 0), (14, 0), (15, 1), (16, 1), (17, 1), (18, 1), (19, 0), (20, 0), (21, 1), (22, 1), (23, 1), (24, 0), (25, 0)] mixed rfl (by kernel_rfl) (fun w8 hb8 hh8 => ?_)
          have M8 := hM7.drew hb8 hh8
          refine D_p rfl rfl rfl (fun _ => r_move (.int _ _) rfl) ?_
          refine D_p rfl rfl rfl (fun _ => r_move (.slice _ _ _) rfl) ?_
          refine D_p rfl rfl rfl (fun _ => r_lenS Tryz.underlying50 rfl) ?_
          refine D_p rfl rfl rfl (fun _ => r_bin (.bool (decide _)) rfl rfl rfl) ?_
          refine D_re 45 (.bool false) (bF (by omega)).symm ?_
          refine D_p rfl rfl rfl (fun _ => r_move (.bool false) rfl) ?_
          refine D_p rfl rfl rfl (fun _ => r_move (.slice _ _ _) rfl) ?_
          refine D_p rfl rfl rfl (fun _ => r_move (.int _ _) rfl) ?_
          refine D_r rfl rfl rfl (r_idxR ((dynC ((viewL xs).take i))) sl50 rfl rfl rfl ((hq0.rd M8 (nthMem (i := 1) rfl)).below_len (mapGet hdr hr1)) ((hq0.rd M8 (nthMem (i := 1) rfl)).someK (mapGet hdr hr1))) ?_
          refine D_r rfl rfl rfl (r_ldE0 (.slice _ _ _) one52 (hq0.rd M8 (nthMem (i := 1) rfl)) (mapGet hdr hr1) rfl) ?_
          refine D_p rfl rfl rfl (fun _ => r_lenS Tryz.underlying52 rfl) ?_
          refine D_p rfl rfl rfl (fun _ => r_bin (.bool (decide _)) rfl rfl rfl) ?_
          refine D_re 52 (.bool false) (bF (by omega)).symm ?_
          refine D_p rfl rfl rfl (fun _ => r_pick false (.bool false) rfl rfl) ?_
          refine D_p rfl rfl rfl (fun _ => r_move (.bool false) rfl) ?_
          refine D_p rfl rfl rfl (fun _ => r_move (.slice _ _ _) rfl) ?_
          refine D_p rfl rfl rfl (fun _ => r_move (.int _ _) rfl) ?_
          refine D_r rfl rfl rfl (r_idxR ((dynC ((viewL xs).take i))) sl50 rfl rfl rfl ((hq0.rd M8 (nthMem (i := 1) rfl)).below_len (mapGet hdr hr1)) ((hq0.rd M8 (nthMem (i := 1) rfl)).someK (mapGet hdr hr1))) ?_
          refine D_r rfl rfl rfl (r_ldE0 (.slice _ _ _) one52 (hq0.rd M8 (nthMem (i := 1) rfl)) (mapGet hdr hr1) rfl) ?_
          refine D_r rfl rfl rfl (r_idxR (0) sl52 rfl rfl rfl (((hI0.rd hq0 M8 (nthMem (i := 1) rfl) (fun r hr => List.mem_append_right _ (List.mem_map_of_mem hr))).row _ _ _ hr1 hl1).below_len (mapGet keyCell (show ([xb.key] : List Int)[0]? = some xb.key from rfl))) (((hI0.rd hq0 M8 (nthMem (i := 1) rfl) (fun r hr => List.mem_append_right _ (List.mem_map_of_mem hr))).row _ _ _ hr1 hl1).someK (mapGet keyCell (show ([xb.key] : List Int)[0]? = some xb.key from rfl)))) ?_
          refine D_r rfl rfl rfl (r_ldE0 (.int _ _) one30 ((hI0.rd hq0 M8 (nthMem (i := 1) rfl) (fun r hr => List.mem_append_right _ (List.mem_map_of_mem hr))).row _ _ _ hr1 hl1) (mapGet keyCell (show ([xb.key] : List Int)[0]? = some xb.key from rfl)) rfl) ?_
          refine D_p rfl rfl rfl (fun _ => r_move (.slice _ _ _) rfl) ?_
          refine D_p rfl rfl rfl (fun _ => r_move (.int _ _) rfl) ?_
          refine D_r rfl rfl rfl (r_idxR (i) sl22 rfl rfl rfl ((hr.rd M8 (nthMem (i := 0) rfl)).below_len (mapGet bodyCells hxb)) ((hr.rd M8 (nthMem (i := 0) rfl)).someK (mapGet bodyCells hxb))) ?_
          refine D_r rfl rfl rfl (r_fieldAddrE 0 fld32_0 (hr.rd M8 (nthMem (i := 0) rfl)) (Nat.lt_of_le_of_lt (Nat.zero_le _) ((hr.rd M8 (nthMem (i := 0) rfl)).below_len (mapGet bodyCells hxb))) rfl) ?_
          refine D_r rfl rfl rfl (r_ldE (o := 0) (.int _ _) one30 (hr.rd M8 (nthMem (i := 0) rfl)) (mapGet bodyCells hxb) rfl rfl) ?_
          refine D_p rfl rfl rfl (fun _ => r_bin (.bool (decide _)) rfl rfl rfl) ?_
          refine D_re 66 (.bool false) (bF (fun h => h rfl)).symm ?_
          refine D_p rfl rfl rfl (fun _ => r_pick false (.bool false) rfl rfl) ?_
          refine D_nil ?_
          refine thenN ?_
          refine W_condF rfl ?_
          refine W_skip ?_
          refine thenN ?_
          refine W_region ?_
          refine wl_q (r_move (.int _ _) rfl) rfl rfl ?_
          refine wl_q (r_add rfl rfl (by omega) (by omega)) rfl rfl ?_
          refine wl_q (r_assign (.int _ _) rfl) rfl rfl ?_
          refine wl_nil ?_
          refine blkN ?_
          refine thenN ?_
          refine W_region ?_
          refine wl_q (r_move (.int _ _) rfl) rfl rfl ?_
          refine wl_q (r_add rfl rfl (by omega) (by omega)) rfl rfl ?_
          refine wl_q (r_assign (.int _ _) rfl) rfl rfl ?_
          refine wl_nil ?_
          refine roundN (i + 1) (agC (iE (by rw [dynC_snoc hxb, if_pos h41]; omega)) (agC rfl agN)) (akC rfl (akC rfl (akC rfl akN))) ?_ ?_
          · exact ⟨by omega, M8⟩
          · omega
      · skip
        have htk : (viewL xs).take i = (viewL xs) := List.take_of_length_le (by omega)
        rw [List.length_map] at hIl0
        refine W_exit ?_
        refine thenX ?_
        refine roundX ?_
        refine blkH ?_
        refine thenN ?_
        refine W_seq ?_
        refine W_region ?_
        refine wl_q (r_move (.int _ _) rfl) rfl rfl ?_
        refine wl_q (r_move (.slice _ _ _) rfl) rfl rfl ?_
        refine wl_q (r_lenS Tryz.underlying50 rfl) rfl rfl ?_
        refine wl_q (r_bin (.bool (decide _)) rfl rfl rfl) rfl rfl ?_
        refine wl_re 73 (.bool true) (bT (by rw [htk]; omega)).symm ?_
        refine wl_q (r_move (.bool true) rfl) rfl rfl ?_
        refine wl_q (r_move (.slice _ _ _) rfl) rfl rfl ?_
        refine wl_q (r_move (.slice _ _ _) rfl) rfl rfl ?_
        refine wl_cal cal26 rfl rfl rfl ?_
        refine (isl_Of _ _ _ _ (viewL xs) (hr.rd hM7 (nthMem (i := 0) rfl)) _ _ _ cs (R'.mem hM7) hvo hvs (by omega) hvn).mono ?_
        rintro _ w9 ⟨v9, rfl, ⟨q1, rs1, rfl, hq1, hI1, hM9⟩⟩
        refine ⟨_, rfl, ?_⟩
        have M9 : Mem _ _ ([_, _, _] ++ _) _ := Mem.front (L := [_, _]) (Mem.call0U (L := [_, _]) (A := [_]) hM7 hM9)
        have hfew := isl_few (xs := (viewL xs)) (forestOf (viewL xs) cs)
        have hIl1 := hI1.len
        have hqn1 : rs1.length = q1.n := by simpa using hq1.1
        refine wl_q (r_lenS Tryz.underlying50 rfl) rfl rfl ?_
        refine wl_q (r_move (.int _ _) rfl) rfl rfl ?_
        refine wl_q (r_bin (.bool (decide _)) rfl rfl rfl) rfl rfl ?_
        refine wl_re 80 (.bool true) (bT (by rw [htk]; omega)).symm ?_
        refine wl_q (r_pick true (.bool true) rfl rfl) rfl rfl ?_
        refine wl_q (r_assign (.bool true) rfl) rfl rfl ?_
        refine wl_nil ?_
        refine thenN ?_
        refine W_ret ?_
        skip
        refine fin1 (.bool true) rfl ?_
        exact ⟨rfl, M9.below⟩

end Go.Proofs.YtmcddmhkjcgneaaGreatDoor

set_option linter.unusedVariables false
set_option linter.unusedSimpArgs false
set_option linter.unnecessarySimpa false
namespace Go.Proofs.YtmcddmhkjcgneaaGreatDoor
open Go.Bil
open Go.RowKit (Below)
open Go.Proofs

namespace islandSingles
open Go.ChangeShapes Go.WideShapes Go.ChangeAt Go.RowKit
open Go.ChangeMaps (open_string shut_string)
theorem own : ownKnob Tryz.prog.godebug = none := by kernel_rfl
theorem laidOut : laidOutB Tryz.prog = true := by kernel_rfl
set_option maxRecDepth 100000 in
theorem lifted (os : Os) (started : os.Started) (H : Type) (enc : TypeId × Value → H) :
    ReturnsInHanded {} Tryz.checked os 13 .any (fun w args => (Rows.islandSinglesSpec.pre enc Tryz.prog Tryz.f13 [] false w args ∧ laidMet Tryz.prog laidL w) ∧ sizedMet enc Tryz.prog Tryz.f13 (OpenSpec.ofChange Rows.islandSinglesSpec) false w args) (Rows.islandSinglesSpec.post enc Tryz.prog Tryz.f13 false true false false) := by
  refine returnsInHanded_of_change_and (C := Tryz.checked) (X := fun w _ => laidMet Tryz.prog laidL w) (fun _ _ _ hh h => h.of_heap hh) own started (by kernel_rfl) Tryz.func13
    (ChangeSpec.witness_at (enc := enc) (C := Tryz.checked) (os := os) (X := fun w _ => laidMet Tryz.prog laidL w) false (laidWorld os) #[.slice none 0 0, .slice none 0 0] 8 rfl (by kernel_rfl) (by kernel_rfl) (by kernel_rfl) (by kernel_rfl) (by kernel_rfl) (laidMet_of_run' 8 (by kernel_rfl) (by kernel_rfl))) ?_
  intro W base args ds gs before hval0 hW hcnd hsz0 hL _
  have hsz : (DataW.weightsEach Tryz.prog (Tryz.f13.params.toList ++ Rows.islandSinglesSpec.plain.varTypes Tryz.prog) (ds ++ gs)).all (· ≤ reachBytes) = true := hsz0
  have hval : ∀ (j : Nat) t v, Tryz.f13.params[j]? = some t → args[j]? = some v → Value.okWide Tryz.prog W .any base t v := hval0
  have hW' := hW
  obtain ⟨p, q, hA0, hV, rfl, hfz, hnd⟩ := hW
  have hA : DataW.TrodAll enc Tryz.prog W 0 (fun _ => true) true Tryz.f13.params.toList args.toList ds p := hA0
  rw [Tryz.params13] at hA hval hsz
  obtain ⟨v0, vs0, d0, ds0, p0, q0, hargs, rfl, rfl, h0, r0⟩ := trodAll_cons hA
  obtain ⟨v1, vs1, d1, ds1, p1, q1, rfl, rfl, rfl, h1, r1⟩ := trodAll_cons r0
  obtain ⟨rfl, rfl, rfl⟩ := trodAll_nil r1
  obtain rfl : args = #[v0, v1] := by cases args; simp_all
  obtain ⟨rfl, rfl⟩ := trodVars_none hV
  have k0 := h0
  have lt0 : ∀ x ∈ p0, x.block < W.heap.size := by obtain ⟨m, hm⟩ := k0; exact DataW.trod_lt m _ _ _ hm
  obtain ⟨a0, len0, cap0, rfl⟩ := okWide_slice Tryz.underlying22 (hval 0 22 v0 rfl rfl)
  have y0 := sized_rows hsz (j := 0) (t := 22) rfl rfl sl22 h0
  obtain ⟨ls0, R0, hi0⟩ := open_rows sl22 leaves32 rfl y0 h0
  obtain ⟨xs0, rfl, hx0⟩ := list_of bodyOf ls0 hi0
  have k1 := h1
  have lt1 : ∀ x ∈ p1, x.block < W.heap.size := by obtain ⟨m, hm⟩ := k1; exact DataW.trod_lt m _ _ _ hm
  obtain ⟨a1, len1, cap1, rfl⟩ := okWide_slice Tryz.underlying45 (hval 1 45 v1 rfl rfl)
  have y1 := sized_rows hsz (j := 1) (t := 45) rfl rfl sl45 h1
  obtain ⟨ls1, R1, hi1⟩ := open_rows sl45 leaves63 rfl y1 h1
  obtain ⟨xs1, rfl, hx1⟩ := list_of conOf5 ls1 hi1
  clear hA0 hval0 hsz0 hsz
  refine (law_IslandSingles W (rdF hL) (rdN hL) _ _ _ xs0 R0 _ _ _ xs1 R1 (fun b hb => (hx0 b hb).key.1)).mono fun e W' ⟨v, he, hv, bel⟩ => ?_
  subst he
  subst hv
  exact ⟨_, rfl, _, _, _, [], _, [], hW', trodAll_mk1 (shut_bool Tryz.underlying4 _), (trodAll_cons_mk (Below.trod laidOut (by kernel_rfl) (of_decide_eq_true (by kernel_rfl)) k0 bel lt0) (trodAll_cons_mk (Below.trod laidOut (by kernel_rfl) (of_decide_eq_true (by kernel_rfl)) k1 bel lt1) trodAll_mk0)), rfl, bel.frame _, fun h => by cases h⟩
theorem over : Rows.islandSinglesRow.holds Tryz.pinned (OpenSpec.ofChange Rows.islandSinglesSpec) :=
  OpenClaim.holds_of_wide 13 Tryz.f13 rfl rfl rfl rfl rfl rfl rfl ⟨rfl, rfl, rfl, rfl, rfl⟩ rfl rfl rfl rfl rfl (by kernel_rfl) Tryz.func13 (by kernel_rfl)
    (of_decide_eq_true (by kernel_rfl)) (by unfold Func.isWrapper; first | (rw [if_pos (by decide +kernel)]; kernel_rfl) | (rw [if_neg (by decide +kernel)]; exact ⟨rfl, rfl⟩))
    (fun os started H enc _ => lifted os started H enc)
end islandSingles
theorem islandSingles_holds : Rows.IslandSinglesSaid := islandSingles.over
#print axioms islandSingles_holds
theorem islandSingles_card : Rows.IslandSinglesCardSaid :=
  Claim7.holds_tied_plain_at .later [] [.data, .data] true (true, "9f8295c113a943455c4832a95346352d7118fae4d0dcf065aaf106ad8bcb4f65") false
    islandSingles_holds (fun _ h => by cases h) (by kernel_rfl) (fun _ h => by cases h) islandSingles_row_tie rfl ⟨rfl, rfl⟩ (by kernel_rfl) rfl
    (fun f fn hf hfn => by
      obtain rfl : f = 13 := Option.some.inj ((show Tryz.prog.funcNamed "billiard/billiardlaw25.IslandSingles" = some 13 by kernel_rfl).symm.trans hf) |>.symm
      obtain rfl : fn = Tryz.f13 := (Option.some.inj (Tryz.func13.symm.trans hfn)).symm
      exact ⟨by kernel_rfl, fun j t ht => by
        rw [Tryz.params13] at ht
        have hm : t ∈ [22, 45] := by simpa using Array.mem_of_getElem? ht
        have hall : ([22, 45].all fun u => !Tryz.prog.wantsStandIn u) = true := by kernel_rfl
        exact (show Tryz.prog.wantsStandIn t = false by simpa using List.all_eq_true.1 hall t hm)⟩)
    (by kernel_rfl)
#print axioms islandSingles_card

end Go.Proofs.YtmcddmhkjcgneaaGreatDoor
