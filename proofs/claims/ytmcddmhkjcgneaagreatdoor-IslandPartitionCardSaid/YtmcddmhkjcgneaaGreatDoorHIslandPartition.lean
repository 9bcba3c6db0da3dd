import Derived.Test.YtmcddmhkjcgneaaGreatDoorK5
import Derived.Test.YtmcddmhkjcgneaaGreatDoorK29
import Derived.Test.YtmcddmhkjcgneaaGreatDoorK23
import Derived.Test.YtmcddmhkjcgneaaGreatDoorK16
import Derived.Test.YtmcddmhkjcgneaaGreatDoorRows
import Derived.Test.YtmcddmhkjcgneaaGreatDoorK30
import Derived.Test.YtmcddmhkjcgneaaGreatDoorTie
import Derived.Test.YtmcddmhkjcgneaaGreatDoorCards
import Derived.WalkKit
import Derived.ProofKit
import Derived.OpenShut
import Derived.ShutString
import Derived.ChangeOld
import Derived.Below
import Derived.SizedLaws
/- Walks of Go functions over the frame of this claim: what each computes, for every input of the stated types (LIslandPartition). -/
set_option linter.unusedVariables false
set_option linter.unusedSimpArgs false
set_option linter.unnecessarySimpa false
namespace Go.Proofs.YtmcddmhkjcgneaaGreatDoor
open Go.Bil
open Go.RowKit (Below)
open Go.Proofs

set_option maxHeartbeats 16000000 in
theorem law_IslandPartition (w : World) (F : Rd w 2 (some ⟨1, 0, none⟩) 1 [[.int .u32 73856093, .int .u32 19349663]]) (N : Rd w 4 (some ⟨0, 0, none⟩) 1 [bxCells noneB]) (A : Option Addr) (n c : Nat) (xs : List Body) (R : Rd w 10 A n (xs.map bodyCells)) (B : Option Addr) (mc c' : Nat) (cs : List Con) (R' : Rd w 5 B mc (cs.map conCells)) (hkx : ∀ b ∈ xs, 0 ≤ b.key) :
    Calls Tryz.prog 9 #[.slice A n c, .slice B mc c'] w (fun ex w' => ∃ v, ex = .returned v ∧ (fun v w' => v = .bool true ∧ Below w.heap.size w w') v w') := by
  have hlen : xs.length = n := by simpa using R.len
  have hbd := R.bound
  refine calls_of_W #[.tmp 4] 162 Tryz.func9 rfl Tryz.results9 Tryz.ntmps9 rfl ?_
  have M0 := Mem.refl w
  refine W_seq ?_
  refine W_region ?_
  refine wl_q (r_assign (.bool false) rfl) rfl rfl ?_
  refine wl_nil ?_
  refine thenN ?_
  refine W_seq ?_
  refine W_region ?_
  refine wl_q (r_move (.slice _ _ _) rfl) rfl rfl ?_
  refine wl_cal cal14 rfl rfl rfl ?_
  refine (ref11_View _ _ _ _ xs (R.mem M0)).mono ?_
  rintro _ w1 ⟨v1, rfl, ⟨r, rfl, hr, hM1⟩⟩
  refine ⟨_, rfl, ?_⟩
  have M1 : Mem _ _ [_] _ := M0.call0 hM1
  refine wl_q (r_move (.tuple (List.toArray _)) rfl) rfl rfl ?_
  refine wl_q (r_ext (.slice _ _ _) rfl rfl) rfl rfl ?_
  refine wl_q (r_ext (.bool (decide _)) rfl rfl) rfl rfl ?_
  refine wl_q (r_assign (.slice _ _ _) rfl) rfl rfl ?_
  refine wl_q (r_assign (.bool (decide _)) rfl) rfl rfl ?_
  refine wl_nil ?_
  refine thenN ?_
  refine W_seq ?_
  refine W_seq ?_
  refine W_region ?_
  refine wl_cal cal23 rfl rfl rfl ?_
  refine (aw25 _ (F.mem M1) (N.mem M1)).mono ?_
  rintro _ w2 ⟨v2, rfl, ⟨rfl, hb2⟩⟩
  refine ⟨_, rfl, ?_⟩
  have M2 := M1.callB hb2
  refine wl_q (r_notB false rfl rfl) rfl rfl ?_
  refine wl_q (r_move (.bool false) rfl) rfl rfl ?_
  refine wl_q (r_move (.bool (decide _)) rfl) rfl rfl ?_
  refine wl_q (r_not rfl) rfl rfl ?_
  refine wl_q (r_pick false (.bool (decide _)) rfl rfl) rfl rfl ?_
  refine wl_q (r_move (.bool (decide _)) rfl) rfl rfl ?_
  refine wl_splitD 27 rfl (fun g27 => ?_) (fun g27 => ?_)
  · skip
    refine wl_skip rfl rfl ?_
    refine wl_skip rfl rfl ?_
    refine wl_skip rfl rfl ?_
    refine wl_skip rfl rfl ?_
    refine wl_q (r_pick true (.bool true) rfl rfl) rfl rfl ?_
    refine wl_nil ?_
    refine thenN ?_
    refine W_condT rfl ?_
    refine W_seq ?_
    refine W_region ?_
    refine wl_cal cal23 rfl rfl rfl ?_
    refine (aw25 _ (F.mem M2) (N.mem M2)).mono ?_
    rintro _ w3 ⟨v3, rfl, ⟨rfl, hb3⟩⟩
    refine ⟨_, rfl, ?_⟩
    have M3 := M2.callB hb3
    refine wl_q (r_assign (.bool true) rfl) rfl rfl ?_
    refine wl_nil ?_
    refine thenN ?_
    refine W_ret ?_
    refine thenR ?_
    skip
    refine fin1 (.bool true) rfl ?_
    exact ⟨rfl, M3.below⟩
  · skip
    refine wl_q (r_move (.slice _ _ _) rfl) rfl rfl ?_
    refine wl_q (r_move (.slice _ _ _) rfl) rfl rfl ?_
    refine wl_cal cal24 rfl rfl rfl ?_
    refine (ref25_Right _ _ _ _ (viewL xs) (hr.rd M2 (nthMem (i := 0) rfl)) _ _ _ cs (R'.mem M2)).mono ?_
    rintro _ w4 ⟨v4, rfl, ⟨rfl, hb4⟩⟩
    refine ⟨_, rfl, ?_⟩
    have M4 := M2.callB hb4
    refine wl_q (r_not rfl) rfl rfl ?_
    refine wl_q (r_pick false (.bool (decide _)) rfl rfl) rfl rfl ?_
    refine wl_nil ?_
    refine thenN ?_
    refine W_condD rfl (fun h32 => ?_) (fun h32 => ?_)
    · skip
      refine W_seq ?_
      refine W_region ?_
      refine wl_cal cal23 rfl rfl rfl ?_
      refine (aw25 _ (F.mem M4) (N.mem M4)).mono ?_
      rintro _ w5 ⟨v5, rfl, ⟨rfl, hb5⟩⟩
      refine ⟨_, rfl, ?_⟩
      have M5 := M4.callB hb5
      refine wl_q (r_assign (.bool true) rfl) rfl rfl ?_
      refine wl_nil ?_
      refine thenN ?_
      refine W_ret ?_
      refine thenR ?_
      skip
      refine fin1 (.bool true) rfl ?_
      exact ⟨rfl, M5.below⟩
    · skip
      obtain ⟨hV, hve, hvk⟩ := view_of (Decidable.not_not.1 g27)
      have hvl := hV.len
      have hrn : (viewL xs).length = r.n := by simpa using hr.1
      have hvs := hV.s
      have hvo := hV.okb
      have hrt := Decidable.not_not.1 h32
      have hcs := hrt.1
      have hvn : ∀ b ∈ (viewL xs), 0 ≤ b.key := fun b hb => hkx b (by rw [hve] at hb; exact (sortB_perm xs).mem_iff.1 hb)
      have hclen : cs.length = mc := by simpa using R'.len
      have hbd' := R'.bound
      have hfs := fun l => @forest_fst (viewL xs) hvn l
      refine W_skip ?_
      refine thenN ?_
      refine W_seq ?_
      refine W_region ?_
      refine wl_q (r_move (.slice _ _ _) rfl) rfl rfl ?_
      refine wl_q (r_move (.slice _ _ _) rfl) rfl rfl ?_
      refine wl_cal cal26 rfl rfl rfl ?_
      refine (isl_Of _ _ _ _ (viewL xs) (hr.rd M4 (nthMem (i := 0) rfl)) _ _ _ cs (R'.mem M4) hvo hvs (by omega) hvn).mono ?_
      rintro _ w6 ⟨v6, rfl, ⟨q0, rs0, rfl, hq0, hI0, hM6⟩⟩
      refine ⟨_, rfl, ?_⟩
      have M6 : Mem _ _ ([_, _] ++ _) _ := Mem.front (L := [_]) (M4.call0T (A := [_]) hM6)
      have hIl0 := hI0.len
      have hqn0 : rs0.length = q0.n := by simpa using hq0.1
      have hsum := isl_sum (hfs cs) hvs
      have hrows : ∀ l ∈ (islL (forestOf (viewL xs) cs) (viewL xs)), l.length ≤ 40 := fun l hl => by obtain ⟨j, hj⟩ := List.getElem?_of_mem hl; exact Nat.le_trans (isl_row hvs hj).2 hvl
      have hLl : (islL (forestOf (viewL xs) cs) (viewL xs)).length ≤ 40 := Nat.le_trans (by rw [islL_len]; exact roots_len _ _) hvl
      refine wl_q (r_assign (.slice _ _ _) rfl) rfl rfl ?_
      refine wl_nil ?_
      refine thenN ?_
      refine W_seq ?_
      refine W_region ?_
      refine wl_q (r_assign (.int _ _) rfl) rfl rfl ?_
      refine wl_nil ?_
      refine thenN ?_
      refine W_seq ?_
      refine W_seq ?_
      refine W_region ?_
      refine wl_q (r_assign (.int _ _) rfl) rfl rfl ?_
      refine wl_nil ?_
      refine thenN ?_
      refine W_block ?_
      refine W_loop (σ := Nat) [1, 5, 7] (fun i => [(8, .int .i64 (sumL ((islL (forestOf (viewL xs) cs) (viewL xs)).take i) : Int)), (9, .int .i64 (i : Int))]) (fun i w' => i ≤ q0.n ∧ Mem w [] ([r.e, q0.e] ++ rs0.map Row.e) w') (fun i => q0.n - i) 0 (agC (iE rfl) (agC rfl agN)) (⟨by omega, M6⟩) ?_
      rintro i ρ7 w7 ⟨hi, hM7⟩
      have hsl := sumL_le (m := 40) (L := (islL (forestOf (viewL xs) cs) (viewL xs)).take i) (fun l hl => hrows l (List.mem_of_mem_take hl))
      have htl := List.length_take_le i (islL (forestOf (viewL xs) cs) (viewL xs))
      refine W_seq ?_
      refine W_seq ?_
      refine W_region ?_
      refine wl_q (r_move (.int _ _) rfl) rfl rfl ?_
      refine wl_q (r_move (.slice _ _ _) rfl) rfl rfl ?_
      refine wl_q (r_lenS Tryz.underlying50 rfl) rfl rfl ?_
      refine wl_q (r_bin (.bool (decide _)) rfl rfl rfl) rfl rfl ?_
      refine wl_nil ?_
      refine thenN ?_
      refine W_condD rfl (fun h40 => ?_) (fun h40 => ?_)
      · skip
        obtain ⟨r1, hr1⟩ := getSome (xs := rs0) (k := i) hqn0 (by omega)
        obtain ⟨l1, hl1⟩ := getSome (xs := (islL (forestOf (viewL xs) cs) (viewL xs))) (k := i) hIl0.symm (by omega)
        have hn1 : l1.length = r1.n := by simpa using (hI0.row _ _ _ hr1 hl1).1
        have hlr := hrows l1 (List.mem_of_getElem? hl1)
        obtain ⟨ra, hra, hla, _⟩ := isl_head (hfs cs) hvs hl1
        have hlp := (List.getElem?_eq_some_iff.1 hla).1
        refine W_skip ?_
        refine thenN ?_
        refine W_seq ?_
        refine W_block ?_
        refine W_seq ?_
        refine W_region ?_
        refine wl_q (r_move (.int _ _) rfl) rfl rfl ?_
        refine wl_q (r_move (.slice _ _ _) rfl) rfl rfl ?_
        refine wl_q (r_move (.int _ _) rfl) rfl rfl ?_
        refine wl_q (r_idxR (i) sl50 rfl rfl rfl ((hq0.rd hM7 (nthMem (i := 1) rfl)).below_len (mapGet hdr hr1)) ((hq0.rd hM7 (nthMem (i := 1) rfl)).someK (mapGet hdr hr1))) rfl rfl ?_
        refine wl_q (r_ldE0 (.slice _ _ _) one52 (hq0.rd hM7 (nthMem (i := 1) rfl)) (mapGet hdr hr1) rfl) rfl rfl ?_
        refine wl_q (r_lenS Tryz.underlying52 rfl) rfl rfl ?_
        refine wl_q (r_add rfl rfl (by omega) (by omega)) rfl rfl ?_
        refine wl_q (r_assign (.int _ _) rfl) rfl rfl ?_
        refine wl_nil ?_
        refine thenN ?_
        refine W_seq ?_
        refine W_seq ?_
        refine W_draw [(0, 0), (1, 0), (2, 1), (3, 1), (4, 0), (5, 0), (6, 0), (7, 0), (8, 0), (9, 0), (10, 0), (11, 0), (12, 0), (13, 1), (14, 1), (15, 1), (16, 1), (17, 0), (18, 0), (19, 1), (20, 1), (21, 1), (22, 1), (23, 0), (24, 0), (25, 0)] mixed rfl (by kernel_rfl) (fun w8 hb8 hh8 => ?_)
        have M8 := hM7.drew hb8 hh8
        refine D_p rfl rfl rfl (fun _ => r_move (.slice _ _ _) rfl) ?_
        refine D_p rfl rfl rfl (fun _ => r_move (.int _ _) rfl) ?_
        refine D_r rfl rfl rfl (r_idxR (i) sl50 rfl rfl rfl ((hq0.rd M8 (nthMem (i := 1) rfl)).below_len (mapGet hdr hr1)) ((hq0.rd M8 (nthMem (i := 1) rfl)).someK (mapGet hdr hr1))) ?_
        refine D_r rfl rfl rfl (r_ldE0 (.slice _ _ _) one52 (hq0.rd M8 (nthMem (i := 1) rfl)) (mapGet hdr hr1) rfl) ?_
        refine D_p rfl rfl rfl (fun _ => r_lenS Tryz.underlying52 rfl) ?_
        refine D_p rfl rfl rfl (fun _ => r_bin (.bool (decide _)) rfl rfl rfl) ?_
        refine D_re 55 (.bool false) (bF (by omega)).symm ?_
        refine D_p rfl rfl rfl (fun _ => r_move (.bool false) rfl) ?_
        refine D_p rfl rfl rfl (fun _ => r_move (.int _ _) rfl) ?_
        refine D_p rfl rfl rfl (fun _ => r_bin (.bool (decide _)) rfl rfl rfl) ?_
        refine D_p rfl rfl rfl (fun _ => r_move (.bool (decide _)) rfl) ?_
        refine D_splitD 59 rfl (fun g59 => ?_) (fun g59 => ?_)
        · skip
          obtain ⟨r0, hr0⟩ := getSome (xs := rs0) (k := i - 1) hqn0 (by omega)
          obtain ⟨l0, hl0⟩ := getSome (xs := (islL (forestOf (viewL xs) cs) (viewL xs))) (k := i - 1) hIl0.symm (by omega)
          obtain ⟨rb, hrb, hlb, _⟩ := isl_head (hfs cs) hvs hl0
          have hasc := isl_asc (hfs cs) hvs (show i - 1 < i by omega) hl0 hl1 hlb hla
          refine D_p rfl rfl rfl (fun _ => r_move (.slice _ _ _) rfl) ?_
          refine D_p rfl rfl rfl (fun _ => r_move (.int _ _) rfl) ?_
          refine D_p rfl rfl rfl (fun _ => r_sub rfl rfl (by omega) (by omega)) ?_
          refine D_re 62 (.int .i64 ((i - 1 : Nat) : Int)) (iE (by omega)) ?_
          refine D_r rfl rfl rfl (r_idxR ((i - 1)) sl50 rfl rfl rfl ((hq0.rd M8 (nthMem (i := 1) rfl)).below_len (mapGet hdr hr0)) ((hq0.rd M8 (nthMem (i := 1) rfl)).someK (mapGet hdr hr0))) ?_
          refine D_r rfl rfl rfl (r_ldE0 (.slice _ _ _) one52 (hq0.rd M8 (nthMem (i := 1) rfl)) (mapGet hdr hr0) rfl) ?_
          refine D_r rfl rfl rfl (r_idxR (0) sl52 rfl rfl rfl (((hI0.rd hq0 M8 (nthMem (i := 1) rfl) (fun r hr => List.mem_append_right _ (List.mem_map_of_mem hr))).row _ _ _ hr0 hl0).below_len (mapGet keyCell hlb)) (((hI0.rd hq0 M8 (nthMem (i := 1) rfl) (fun r hr => List.mem_append_right _ (List.mem_map_of_mem hr))).row _ _ _ hr0 hl0).someK (mapGet keyCell hlb))) ?_
          refine D_r rfl rfl rfl (r_ldE0 (.int _ _) one30 ((hI0.rd hq0 M8 (nthMem (i := 1) rfl) (fun r hr => List.mem_append_right _ (List.mem_map_of_mem hr))).row _ _ _ hr0 hl0) (mapGet keyCell hlb) rfl) ?_
          refine D_p rfl rfl rfl (fun _ => r_move (.slice _ _ _) rfl) ?_
          refine D_p rfl rfl rfl (fun _ => r_move (.int _ _) rfl) ?_
          refine D_r rfl rfl rfl (r_idxR (i) sl50 rfl rfl rfl ((hq0.rd M8 (nthMem (i := 1) rfl)).below_len (mapGet hdr hr1)) ((hq0.rd M8 (nthMem (i := 1) rfl)).someK (mapGet hdr hr1))) ?_
          refine D_r rfl rfl rfl (r_ldE0 (.slice _ _ _) one52 (hq0.rd M8 (nthMem (i := 1) rfl)) (mapGet hdr hr1) rfl) ?_
          refine D_r rfl rfl rfl (r_idxR (0) sl52 rfl rfl rfl (((hI0.rd hq0 M8 (nthMem (i := 1) rfl) (fun r hr => List.mem_append_right _ (List.mem_map_of_mem hr))).row _ _ _ hr1 hl1).below_len (mapGet keyCell hla)) (((hI0.rd hq0 M8 (nthMem (i := 1) rfl) (fun r hr => List.mem_append_right _ (List.mem_map_of_mem hr))).row _ _ _ hr1 hl1).someK (mapGet keyCell hla))) ?_
          refine D_r rfl rfl rfl (r_ldE0 (.int _ _) one30 ((hI0.rd hq0 M8 (nthMem (i := 1) rfl) (fun r hr => List.mem_append_right _ (List.mem_map_of_mem hr))).row _ _ _ hr1 hl1) (mapGet keyCell hla) rfl) ?_
          refine D_p rfl rfl rfl (fun _ => r_bin (.bool (decide _)) rfl rfl rfl) ?_
          refine D_re 73 (.bool false) (bF (by omega)).symm ?_
          refine D_p rfl rfl rfl (fun _ => r_pick true (.bool false) rfl rfl) ?_
          refine D_p rfl rfl rfl (fun _ => r_pick false (.bool false) rfl rfl) ?_
          refine D_nil ?_
          refine thenN ?_
          refine W_condF rfl ?_
          refine W_skip ?_
          refine thenN ?_
          refine W_seq ?_
          refine W_region ?_
          refine wl_q (r_assign (.int _ _) rfl) rfl rfl ?_
          refine wl_nil ?_
          refine thenN ?_
          refine W_block ?_
          refine W_loop (σ := Nat) [1, 5, 7, 8, 9] (fun k => [(10, .int .i64 (k : Int))]) (fun k w' => (1 ≤ k ∧ k ≤ r1.n) ∧ Mem w [] ([r.e, q0.e] ++ rs0.map Row.e) w') (fun k => r1.n - k) 1 (agC rfl agN) (⟨⟨by omega, by omega⟩, M8⟩) ?_
          rintro k ρ9 w9 ⟨⟨hk1, hk⟩, hM9⟩
          refine W_seq ?_
          refine W_seq ?_
          refine W_region ?_
          refine wl_q (r_move (.int _ _) rfl) rfl rfl ?_
          refine wl_q (r_move (.slice _ _ _) rfl) rfl rfl ?_
          refine wl_q (r_move (.int _ _) rfl) rfl rfl ?_
          refine wl_q (r_idxR (i) sl50 rfl rfl rfl ((hq0.rd hM9 (nthMem (i := 1) rfl)).below_len (mapGet hdr hr1)) ((hq0.rd hM9 (nthMem (i := 1) rfl)).someK (mapGet hdr hr1))) rfl rfl ?_
          refine wl_q (r_ldE0 (.slice _ _ _) one52 (hq0.rd hM9 (nthMem (i := 1) rfl)) (mapGet hdr hr1) rfl) rfl rfl ?_
          refine wl_q (r_lenS Tryz.underlying52 rfl) rfl rfl ?_
          refine wl_q (r_bin (.bool (decide _)) rfl rfl rfl) rfl rfl ?_
          refine wl_nil ?_
          refine thenN ?_
          refine W_condD rfl (fun h82 => ?_) (fun h82 => ?_)
          · skip
            obtain ⟨za, hza⟩ := getSome (xs := l1) (k := k - 1) hn1 (by omega)
            obtain ⟨zb, hzb⟩ := getSome (xs := l1) (k := k) hn1 (by omega)
            have hzz := pw_at (isl_row hvs hl1).1 (show k - 1 < k by omega) hza hzb
            refine W_skip ?_
            refine thenN ?_
            refine W_seq ?_
            refine W_block ?_
            refine W_seq ?_
            refine W_draw [(0, 0), (1, 0), (2, 1), (3, 1), (4, 0), (5, 0), (6, 1), (7, 1), (8, 0), (9, 0), (10, 1), (11, 1), (12, 0), (13, 1), (14, 1), (15, 0)] mixed rfl (by kernel_rfl) (fun w10 hb10 hh10 => ?_)
            have M10 := hM9.drew hb10 hh10
            refine D_p rfl rfl rfl (fun _ => r_move (.slice _ _ _) rfl) ?_
            refine D_p rfl rfl rfl (fun _ => r_move (.int _ _) rfl) ?_
            refine D_r rfl rfl rfl (r_idxR (i) sl50 rfl rfl rfl ((hq0.rd M10 (nthMem (i := 1) rfl)).below_len (mapGet hdr hr1)) ((hq0.rd M10 (nthMem (i := 1) rfl)).someK (mapGet hdr hr1))) ?_
            refine D_r rfl rfl rfl (r_ldE0 (.slice _ _ _) one52 (hq0.rd M10 (nthMem (i := 1) rfl)) (mapGet hdr hr1) rfl) ?_
            refine D_p rfl rfl rfl (fun _ => r_move (.int _ _) rfl) ?_
            refine D_p rfl rfl rfl (fun _ => r_sub rfl rfl (by omega) (by omega)) ?_
            refine D_re 90 (.int .i64 ((k - 1 : Nat) : Int)) (iE (by omega)) ?_
            refine D_r rfl rfl rfl (r_idxR ((k - 1)) sl52 rfl rfl rfl (((hI0.rd hq0 M10 (nthMem (i := 1) rfl) (fun r hr => List.mem_append_right _ (List.mem_map_of_mem hr))).row _ _ _ hr1 hl1).below_len (mapGet keyCell hza)) (((hI0.rd hq0 M10 (nthMem (i := 1) rfl) (fun r hr => List.mem_append_right _ (List.mem_map_of_mem hr))).row _ _ _ hr1 hl1).someK (mapGet keyCell hza))) ?_
            refine D_r rfl rfl rfl (r_ldE0 (.int _ _) one30 ((hI0.rd hq0 M10 (nthMem (i := 1) rfl) (fun r hr => List.mem_append_right _ (List.mem_map_of_mem hr))).row _ _ _ hr1 hl1) (mapGet keyCell hza) rfl) ?_
            refine D_p rfl rfl rfl (fun _ => r_move (.slice _ _ _) rfl) ?_
            refine D_p rfl rfl rfl (fun _ => r_move (.int _ _) rfl) ?_
            refine D_r rfl rfl rfl (r_idxR (i) sl50 rfl rfl rfl ((hq0.rd M10 (nthMem (i := 1) rfl)).below_len (mapGet hdr hr1)) ((hq0.rd M10 (nthMem (i := 1) rfl)).someK (mapGet hdr hr1))) ?_
            refine D_r rfl rfl rfl (r_ldE0 (.slice _ _ _) one52 (hq0.rd M10 (nthMem (i := 1) rfl)) (mapGet hdr hr1) rfl) ?_
            refine D_p rfl rfl rfl (fun _ => r_move (.int _ _) rfl) ?_
            refine D_r rfl rfl rfl (r_idxR (k) sl52 rfl rfl rfl (((hI0.rd hq0 M10 (nthMem (i := 1) rfl) (fun r hr => List.mem_append_right _ (List.mem_map_of_mem hr))).row _ _ _ hr1 hl1).below_len (mapGet keyCell hzb)) (((hI0.rd hq0 M10 (nthMem (i := 1) rfl) (fun r hr => List.mem_append_right _ (List.mem_map_of_mem hr))).row _ _ _ hr1 hl1).someK (mapGet keyCell hzb))) ?_
            refine D_r rfl rfl rfl (r_ldE0 (.int _ _) one30 ((hI0.rd hq0 M10 (nthMem (i := 1) rfl) (fun r hr => List.mem_append_right _ (List.mem_map_of_mem hr))).row _ _ _ hr1 hl1) (mapGet keyCell hzb) rfl) ?_
            refine D_p rfl rfl rfl (fun _ => r_bin (.bool (decide _)) rfl rfl rfl) ?_
            refine D_re 100 (.bool false) (bF (by omega)).symm ?_
            refine D_nil ?_
            refine thenN ?_
            refine W_condF rfl ?_
            refine W_skip ?_
            refine blkN ?_
            refine thenN ?_
            refine W_region ?_
            refine wl_q (r_move (.int _ _) rfl) rfl rfl ?_
            refine wl_q (r_add rfl rfl (by omega) (by omega)) rfl rfl ?_
            refine wl_q (r_assign (.int _ _) rfl) rfl rfl ?_
            refine wl_nil ?_
            refine roundN (k + 1) (agC rfl agN) (akC rfl (akC rfl (akC rfl (akC rfl (akC rfl akN))))) ?_ ?_
            · exact ⟨⟨by omega, by omega⟩, M10⟩
            · omega
          · skip
            refine W_exit ?_
            refine thenX ?_
            refine roundX ?_
            refine blkH ?_
            refine blkN ?_
            refine thenN ?_
            refine W_region ?_
            refine wl_q (r_move (.int _ _) rfl) rfl rfl ?_
            refine wl_q (r_add rfl rfl (by omega) (by omega)) rfl rfl ?_
            refine wl_q (r_assign (.int _ _) rfl) rfl rfl ?_
            refine wl_nil ?_
            refine roundN (i + 1) (agC (iE (by rw [sumL_snoc hl1]; omega)) (agC rfl agN)) (akC rfl (akC rfl (akC rfl akN))) ?_ ?_
            · exact ⟨by omega, hM9⟩
            · omega
        · skip
          refine D_s rfl rfl rfl ?_
          refine D_s rfl rfl rfl ?_
          refine D_s rfl rfl rfl ?_
          refine D_s1 rfl rfl rfl ?_
          refine D_s1 rfl rfl rfl ?_
          refine D_s1 rfl rfl rfl ?_
          refine D_s1 rfl rfl rfl ?_
          refine D_s rfl rfl rfl ?_
          refine D_s rfl rfl rfl ?_
          refine D_s1 rfl rfl rfl ?_
          refine D_s1 rfl rfl rfl ?_
          refine D_s1 rfl rfl rfl ?_
          refine D_s1 rfl rfl rfl ?_
          refine D_s rfl rfl rfl ?_
          refine D_p rfl rfl rfl (fun _ => r_pick false (.bool false) rfl rfl) ?_
          refine D_p rfl rfl rfl (fun _ => r_pick false (.bool false) rfl rfl) ?_
          refine D_nil ?_
          refine thenN ?_
          refine W_condF rfl ?_
          refine W_skip ?_
          refine thenN ?_
          refine W_seq ?_
          refine W_region ?_
          refine wl_q (r_assign (.int _ _) rfl) rfl rfl ?_
          refine wl_nil ?_
          refine thenN ?_
          refine W_block ?_
          refine W_loop (σ := Nat) [1, 5, 7, 8, 9] (fun k => [(10, .int .i64 (k : Int))]) (fun k w' => (1 ≤ k ∧ k ≤ r1.n) ∧ Mem w [] ([r.e, q0.e] ++ rs0.map Row.e) w') (fun k => r1.n - k) 1 (agC rfl agN) (⟨⟨by omega, by omega⟩, M8⟩) ?_
          rintro k ρ11 w11 ⟨⟨hk1, hk⟩, hM11⟩
          refine W_seq ?_
          refine W_seq ?_
          refine W_region ?_
          refine wl_q (r_move (.int _ _) rfl) rfl rfl ?_
          refine wl_q (r_move (.slice _ _ _) rfl) rfl rfl ?_
          refine wl_q (r_move (.int _ _) rfl) rfl rfl ?_
          refine wl_q (r_idxR (i) sl50 rfl rfl rfl ((hq0.rd hM11 (nthMem (i := 1) rfl)).below_len (mapGet hdr hr1)) ((hq0.rd hM11 (nthMem (i := 1) rfl)).someK (mapGet hdr hr1))) rfl rfl ?_
          refine wl_q (r_ldE0 (.slice _ _ _) one52 (hq0.rd hM11 (nthMem (i := 1) rfl)) (mapGet hdr hr1) rfl) rfl rfl ?_
          refine wl_q (r_lenS Tryz.underlying52 rfl) rfl rfl ?_
          refine wl_q (r_bin (.bool (decide _)) rfl rfl rfl) rfl rfl ?_
          refine wl_nil ?_
          refine thenN ?_
          refine W_condD rfl (fun h82 => ?_) (fun h82 => ?_)
          · skip
            obtain ⟨za, hza⟩ := getSome (xs := l1) (k := k - 1) hn1 (by omega)
            obtain ⟨zb, hzb⟩ := getSome (xs := l1) (k := k) hn1 (by omega)
            have hzz := pw_at (isl_row hvs hl1).1 (show k - 1 < k by omega) hza hzb
            refine W_skip ?_
            refine thenN ?_
            refine W_seq ?_
            refine W_block ?_
            refine W_seq ?_
            refine W_draw [(0, 0), (1, 0), (2, 1), (3, 1), (4, 0), (5, 0), (6, 1), (7, 1), (8, 0), (9, 0), (10, 1), (11, 1), (12, 0), (13, 1), (14, 1), (15, 0)] mixed rfl (by kernel_rfl) (fun w12 hb12 hh12 => ?_)
            have M12 := hM11.drew hb12 hh12
            refine D_p rfl rfl rfl (fun _ => r_move (.slice _ _ _) rfl) ?_
            refine D_p rfl rfl rfl (fun _ => r_move (.int _ _) rfl) ?_
            refine D_r rfl rfl rfl (r_idxR (i) sl50 rfl rfl rfl ((hq0.rd M12 (nthMem (i := 1) rfl)).below_len (mapGet hdr hr1)) ((hq0.rd M12 (nthMem (i := 1) rfl)).someK (mapGet hdr hr1))) ?_
            refine D_r rfl rfl rfl (r_ldE0 (.slice _ _ _) one52 (hq0.rd M12 (nthMem (i := 1) rfl)) (mapGet hdr hr1) rfl) ?_
            refine D_p rfl rfl rfl (fun _ => r_move (.int _ _) rfl) ?_
            refine D_p rfl rfl rfl (fun _ => r_sub rfl rfl (by omega) (by omega)) ?_
            refine D_re 90 (.int .i64 ((k - 1 : Nat) : Int)) (iE (by omega)) ?_
            refine D_r rfl rfl rfl (r_idxR ((k - 1)) sl52 rfl rfl rfl (((hI0.rd hq0 M12 (nthMem (i := 1) rfl) (fun r hr => List.mem_append_right _ (List.mem_map_of_mem hr))).row _ _ _ hr1 hl1).below_len (mapGet keyCell hza)) (((hI0.rd hq0 M12 (nthMem (i := 1) rfl) (fun r hr => List.mem_append_right _ (List.mem_map_of_mem hr))).row _ _ _ hr1 hl1).someK (mapGet keyCell hza))) ?_
            refine D_r rfl rfl rfl (r_ldE0 (.int _ _) one30 ((hI0.rd hq0 M12 (nthMem (i := 1) rfl) (fun r hr => List.mem_append_right _ (List.mem_map_of_mem hr))).row _ _ _ hr1 hl1) (mapGet keyCell hza) rfl) ?_
            refine D_p rfl rfl rfl (fun _ => r_move (.slice _ _ _) rfl) ?_
            refine D_p rfl rfl rfl (fun _ => r_move (.int _ _) rfl) ?_
            refine D_r rfl rfl rfl (r_idxR (i) sl50 rfl rfl rfl ((hq0.rd M12 (nthMem (i := 1) rfl)).below_len (mapGet hdr hr1)) ((hq0.rd M12 (nthMem (i := 1) rfl)).someK (mapGet hdr hr1))) ?_
            refine D_r rfl rfl rfl (r_ldE0 (.slice _ _ _) one52 (hq0.rd M12 (nthMem (i := 1) rfl)) (mapGet hdr hr1) rfl) ?_
            refine D_p rfl rfl rfl (fun _ => r_move (.int _ _) rfl) ?_
            refine D_r rfl rfl rfl (r_idxR (k) sl52 rfl rfl rfl (((hI0.rd hq0 M12 (nthMem (i := 1) rfl) (fun r hr => List.mem_append_right _ (List.mem_map_of_mem hr))).row _ _ _ hr1 hl1).below_len (mapGet keyCell hzb)) (((hI0.rd hq0 M12 (nthMem (i := 1) rfl) (fun r hr => List.mem_append_right _ (List.mem_map_of_mem hr))).row _ _ _ hr1 hl1).someK (mapGet keyCell hzb))) ?_
            refine D_r rfl rfl rfl (r_ldE0 (.int _ _) one30 ((hI0.rd hq0 M12 (nthMem (i := 1) rfl) (fun r hr => List.mem_append_right _ (List.mem_map_of_mem hr))).row _ _ _ hr1 hl1) (mapGet keyCell hzb) rfl) ?_
            refine D_p rfl rfl rfl (fun _ => r_bin (.bool (decide _)) rfl rfl rfl) ?_
            refine D_re 100 (.bool false) (bF (by omega)).symm ?_
            refine D_nil ?_
            refine thenN ?_
            refine W_condF rfl ?_
            refine W_skip ?_
            refine blkN ?_
            refine thenN ?_
            refine W_region ?_
            refine wl_q (r_move (.int _ _) rfl) rfl rfl ?_
            refine wl_q (r_add rfl rfl (by omega) (by omega)) rfl rfl ?_
            refine wl_q (r_assign (.int _ _) rfl) rfl rfl ?_
            refine wl_nil ?_
            refine roundN (k + 1) (agC rfl agN) (akC rfl (akC rfl (akC rfl (akC rfl (akC rfl akN))))) ?_ ?_
            · exact ⟨⟨by omega, by omega⟩, M12⟩
            · omega
          · skip
            refine W_exit ?_
            refine thenX ?_
            refine roundX ?_
            refine blkH ?_
            refine blkN ?_
            refine thenN ?_
            refine W_region ?_
            refine wl_q (r_move (.int _ _) rfl) rfl rfl ?_
            refine wl_q (r_add rfl rfl (by omega) (by omega)) rfl rfl ?_
            refine wl_q (r_assign (.int _ _) rfl) rfl rfl ?_
            refine wl_nil ?_
            refine roundN (i + 1) (agC (iE (by rw [sumL_snoc hl1]; omega)) (agC rfl agN)) (akC rfl (akC rfl (akC rfl akN))) ?_ ?_
            · exact ⟨by omega, hM11⟩
            · omega
      · skip
        have htL : (islL (forestOf (viewL xs) cs) (viewL xs)).take i = (islL (forestOf (viewL xs) cs) (viewL xs)) := List.take_of_length_le (by omega)
        have hnn : r.n * r.n ≤ 40 * 40 := Nat.mul_le_mul (by omega) (by omega)
        have hdl := dynC_le (viewL xs)
        refine W_exit ?_
        refine thenX ?_
        refine roundX ?_
        refine blkH ?_
        refine thenN ?_
        refine W_seq ?_
        refine W_region ?_
        refine wl_q (r_move (.slice _ _ _) rfl) rfl rfl ?_
        refine wl_q (r_move (.slice _ _ _) rfl) rfl rfl ?_
        refine wl_cal cal30 rfl rfl rfl ?_
        refine (ref25_Links _ _ _ _ (viewL xs) (hr.rd hM7 (nthMem (i := 0) rfl)) _ _ _ cs (R'.mem hM7) hvo hvs (by omega) hvn hrt.2).mono ?_
        rintro _ w13 ⟨v13, rfl, ⟨bm, m, en, rfl, hrow, hcl, hM13⟩⟩
        refine ⟨_, rfl, ?_⟩
        have M13 : Mem _ _ ([_, _, _] ++ _) _ := Mem.front (L := [_, _]) (hM7.call0 hM13)
        refine wl_q (r_assign (.slice _ _ _) rfl) rfl rfl ?_
        refine wl_nil ?_
        refine thenN ?_
        refine W_seq ?_
        refine W_seq ?_
        refine W_region ?_
        refine wl_q (r_assign (.int _ _) rfl) rfl rfl ?_
        refine wl_nil ?_
        refine thenN ?_
        refine W_block ?_
        refine W_loop (σ := Nat) [5, 7, 11] (fun i2 => [(8, .int .i64 ((dynC (viewL xs) : Int) - (dynC ((viewL xs).take i2) : Int))), (12, .int .i64 (i2 : Int))]) (fun i2 w' => i2 ≤ r.n ∧ Mem w [] ([r.e, q0.e, en] ++ rs0.map Row.e) w') (fun i2 => r.n - i2) 0 (agC (iE (by rw [htL, hsum, List.take_zero]; simp [dynC])) (agC rfl agN)) (⟨by omega, M13⟩) ?_
        rintro i2 ρ14 w14 ⟨hi2, hM14⟩
        have hdi := dynC_le ((viewL xs).take i2)
        have htl2 := List.length_take_le i2 (viewL xs)
        refine W_seq ?_
        refine W_seq ?_
        refine W_region ?_
        refine wl_q (r_move (.int _ _) rfl) rfl rfl ?_
        refine wl_q (r_move (.slice _ _ _) rfl) rfl rfl ?_
        refine wl_q (r_lenS Tryz.underlying22 rfl) rfl rfl ?_
        refine wl_q (r_bin (.bool (decide _)) rfl rfl rfl) rfl rfl ?_
        refine wl_nil ?_
        refine thenN ?_
        refine W_condD rfl (fun h107 => ?_) (fun h107 => ?_)
        · skip
          obtain ⟨xb, hxb⟩ := getSome (xs := (viewL xs)) (k := i2) hrn (by omega)
          have hxm := List.mem_of_getElem? hxb
          have hbm := (hvo xb hxm).m
          have hfd := findL_dyn (hfs cs) hvs hxm
          have hfl := findL_lt xb.key (islL (forestOf (viewL xs) cs) (viewL xs))
          refine W_skip ?_
          refine thenN ?_
          refine W_seq ?_
          refine W_block ?_
          refine W_seq ?_
          refine W_region ?_
          refine wl_q (r_move (.slice _ _ _) rfl) rfl rfl ?_
          refine wl_q (r_move (.slice _ _ _) rfl) rfl rfl ?_
          refine wl_q (r_move (.int _ _) rfl) rfl rfl ?_
          refine wl_q (r_idxR (i2) sl22 rfl rfl rfl ((hr.rd hM14 (nthMem (i := 0) rfl)).below_len (mapGet bodyCells hxb)) ((hr.rd hM14 (nthMem (i := 0) rfl)).someK (mapGet bodyCells hxb))) rfl rfl ?_
          refine wl_q (r_fieldAddrE 0 fld32_0 (hr.rd hM14 (nthMem (i := 0) rfl)) (Nat.lt_of_le_of_lt (Nat.zero_le _) ((hr.rd hM14 (nthMem (i := 0) rfl)).below_len (mapGet bodyCells hxb))) rfl) rfl rfl ?_
          refine wl_q (r_ldE (o := 0) (.int _ _) one30 (hr.rd hM14 (nthMem (i := 0) rfl)) (mapGet bodyCells hxb) rfl rfl) rfl rfl ?_
          refine wl_cal cal29 rfl rfl rfl ?_
          refine (isl_Find _ xb.key _ _ _ rs0 (islL (forestOf (viewL xs) cs) (viewL xs)) (hI0.rd hq0 hM14 (nthMem (i := 1) rfl) (fun r hr => List.mem_append_right _ (List.mem_map_of_mem hr)))).mono ?_
          rintro _ w15 ⟨v15, rfl, ⟨rfl, hb15⟩⟩
          refine ⟨_, rfl, ?_⟩
          have M15 := hM14.callB hb15
          refine wl_q (r_assign (.int _ _) rfl) rfl rfl ?_
          refine wl_nil ?_
          refine thenN ?_
          refine W_seq ?_
          refine W_seq ?_
          refine W_region ?_
          refine wl_q (r_move (.int _ _) rfl) rfl rfl ?_
          refine wl_q (r_bin (.bool (decide _)) rfl rfl rfl) rfl rfl ?_
          refine wl_q (r_move (.slice _ _ _) rfl) rfl rfl ?_
          refine wl_q (r_move (.int _ _) rfl) rfl rfl ?_
          refine wl_q (r_idxR (i2) sl22 rfl rfl rfl ((hr.rd M15 (nthMem (i := 0) rfl)).below_len (mapGet bodyCells hxb)) ((hr.rd M15 (nthMem (i := 0) rfl)).someK (mapGet bodyCells hxb))) rfl rfl ?_
          refine wl_q (r_fieldAddrE 4 fld32_3 (hr.rd M15 (nthMem (i := 0) rfl)) (Nat.lt_of_le_of_lt (Nat.zero_le _) ((hr.rd M15 (nthMem (i := 0) rfl)).below_len (mapGet bodyCells hxb))) rfl) rfl rfl ?_
          refine wl_q (r_ldE (o := 4) (.int _ _) one21 (hr.rd M15 (nthMem (i := 0) rfl)) (mapGet bodyCells hxb) rfl rfl) rfl rfl ?_
          refine wl_q (r_bin (.bool (decide _)) rfl rfl rfl) rfl rfl ?_
          refine wl_q (r_binB _ Tryz.underlying4 rfl rfl rfl) rfl rfl ?_
          refine wl_re 125 (.bool false) (bv rfl (nbE (decide_eq_decide.2 (by omega)))) ?_
          refine wl_nil ?_
          refine thenN ?_
          refine W_condF rfl ?_
          refine W_skip ?_
          refine thenN ?_
          refine W_seq ?_
          refine W_seq ?_
          refine W_region ?_
          refine wl_q (r_move (.int _ _) rfl) rfl rfl ?_
          refine wl_q (r_bin (.bool (decide _)) rfl rfl rfl) rfl rfl ?_
          refine wl_nil ?_
          refine thenN ?_
          refine W_condD rfl (fun h127 => ?_) (fun h127 => ?_)
          · skip
            refine W_region ?_
            refine wl_q (r_move (.int _ _) rfl) rfl rfl ?_
            refine wl_q (r_sub rfl rfl (by omega) (by omega)) rfl rfl ?_
            refine wl_q (r_assign (.int _ _) rfl) rfl rfl ?_
            refine wl_nil ?_
            refine thenN ?_
            refine W_seq ?_
            refine W_region ?_
            refine wl_q (r_assign (.int _ _) rfl) rfl rfl ?_
            refine wl_nil ?_
            refine thenN ?_
            refine W_block ?_
            refine W_loop (σ := Nat) [5, 7, 8, 11, 12, 13] (fun k2 => [(14, .int .i64 (k2 : Int))]) (fun k2 w' => k2 ≤ r.n ∧ Mem w [] ([r.e, q0.e, en] ++ rs0.map Row.e) w') (fun k2 => r.n - k2) 0 (agC rfl agN) (⟨by omega, M15⟩) ?_
            rintro k2 ρ16 w16 ⟨hk2, hM16⟩
            refine W_seq ?_
            refine W_seq ?_
            refine W_region ?_
            refine wl_q (r_move (.int _ _) rfl) rfl rfl ?_
            refine wl_q (r_move (.slice _ _ _) rfl) rfl rfl ?_
            refine wl_q (r_lenS Tryz.underlying22 rfl) rfl rfl ?_
            refine wl_q (r_bin (.bool (decide _)) rfl rfl rfl) rfl rfl ?_
            refine wl_nil ?_
            refine thenN ?_
            refine W_condD rfl (fun h133 => ?_) (fun h133 => ?_)
            · skip
              obtain ⟨yb, hyb⟩ := getSome (xs := (viewL xs)) (k := k2) hrn (by omega)
              have hym := List.mem_of_getElem? hyb
              have hgd := findL_dyn (hfs cs) hvs hym
              have hix := midx_lt (n := r.n) (a := i2) (b := k2) (by omega) (by omega)
              have hci := cl_iff hvs hvn (by rw [hrn]; exact hcl) (a := i2) (b := k2) (by omega) (by omega)
              rw [hrn] at hci
              unfold dynAt keyAt at hci
              rw [getD_at hxb, getD_at hyb, ← findL_eq (hfs cs) hvs hxm hym] at hci
              refine W_skip ?_
              refine thenN ?_
              refine W_seq ?_
              refine W_block ?_
              refine W_seq ?_
              refine W_region ?_
              refine wl_q (r_move (.slice _ _ _) rfl) rfl rfl ?_
              refine wl_q (r_move (.slice _ _ _) rfl) rfl rfl ?_
              refine wl_q (r_move (.int _ _) rfl) rfl rfl ?_
              refine wl_q (r_idxR (k2) sl22 rfl rfl rfl ((hr.rd hM16 (nthMem (i := 0) rfl)).below_len (mapGet bodyCells hyb)) ((hr.rd hM16 (nthMem (i := 0) rfl)).someK (mapGet bodyCells hyb))) rfl rfl ?_
              refine wl_q (r_fieldAddrE 0 fld32_0 (hr.rd hM16 (nthMem (i := 0) rfl)) (Nat.lt_of_le_of_lt (Nat.zero_le _) ((hr.rd hM16 (nthMem (i := 0) rfl)).below_len (mapGet bodyCells hyb))) rfl) rfl rfl ?_
              refine wl_q (r_ldE (o := 0) (.int _ _) one30 (hr.rd hM16 (nthMem (i := 0) rfl)) (mapGet bodyCells hyb) rfl rfl) rfl rfl ?_
              refine wl_cal cal29 rfl rfl rfl ?_
              refine (isl_Find _ yb.key _ _ _ rs0 (islL (forestOf (viewL xs) cs) (viewL xs)) (hI0.rd hq0 hM16 (nthMem (i := 1) rfl) (fun r hr => List.mem_append_right _ (List.mem_map_of_mem hr)))).mono ?_
              rintro _ w17 ⟨v17, rfl, ⟨rfl, hb17⟩⟩
              refine ⟨_, rfl, ?_⟩
              have M17 := hM16.callB hb17
              refine wl_q (r_assign (.int _ _) rfl) rfl rfl ?_
              refine wl_nil ?_
              refine thenN ?_
              refine W_seq ?_
              refine W_region ?_
              refine wl_q (r_move (.slice _ _ _) rfl) rfl rfl ?_
              refine wl_q (r_move (.int _ _) rfl) rfl rfl ?_
              refine wl_q (r_move (.slice _ _ _) rfl) rfl rfl ?_
              refine wl_q (r_lenS Tryz.underlying22 rfl) rfl rfl ?_
              refine wl_q (r_mul rfl rfl (by rw [← Int.natCast_mul]; omega) (by rw [← Int.natCast_mul]; omega)) rfl rfl ?_
              refine wl_re 147 (.int .i64 ((i2 * r.n : Nat) : Int)) (iE (by rw [Int.natCast_mul])) ?_
              refine wl_q (r_move (.int _ _) rfl) rfl rfl ?_
              refine wl_q (r_add rfl rfl (by omega) (by omega)) rfl rfl ?_
              refine wl_re 149 (.int .i64 ((i2 * r.n + k2 : Nat) : Int)) (iE (by omega)) ?_
              refine wl_q (r_idxR ((i2 * r.n + k2)) sl58 rfl rfl rfl ((hrow.rd M17 (nthMem (i := 2) rfl)).below_len (mapGet boolCell (mget_at (n := r.n) (a := i2) (b := k2) (by rw [hcl.lk.snd.len, hrn]) (by omega) (by omega)))) ((hrow.rd M17 (nthMem (i := 2) rfl)).someK (mapGet boolCell (mget_at (n := r.n) (a := i2) (b := k2) (by rw [hcl.lk.snd.len, hrn]) (by omega) (by omega))))) rfl rfl ?_
              refine wl_q (r_ldE0 (.bool _) one4 (hrow.rd M17 (nthMem (i := 2) rfl)) (mapGet boolCell (mget_at (n := r.n) (a := i2) (b := k2) (by rw [hcl.lk.snd.len, hrn]) (by omega) (by omega))) rfl) rfl rfl ?_
              refine wl_q (r_move (.int _ _) rfl) rfl rfl ?_
              refine wl_q (r_bin (.bool (decide _)) rfl rfl rfl) rfl rfl ?_
              refine wl_re 153 (.bool true) (bT h127).symm ?_
              refine wl_q (r_move (.bool true) rfl) rfl rfl ?_
              refine wl_q (r_move (.int _ _) rfl) rfl rfl ?_
              refine wl_q (r_move (.int _ _) rfl) rfl rfl ?_
              refine wl_q (r_bin (.bool (decide _)) rfl rfl rfl) rfl rfl ?_
              refine wl_q (r_pick true (.bool (decide _)) rfl rfl) rfl rfl ?_
              have e159 : mget r.n m i2 k2 = decide (findL xb.key (islL (forestOf (viewL xs) cs) (viewL xs)) = findL yb.key (islL (forestOf (viewL xs) cs) (viewL xs))) := by rw [Bool.eq_iff_iff, hci, decide_eq_true_eq]; exact ⟨fun h => h.2, fun h => ⟨h127, h⟩⟩
              refine wl_q (r_binB _ Tryz.underlying4 rfl rfl rfl) rfl rfl ?_
              refine wl_re 159 (.bool false) (bv rfl (nbE e159)) ?_
              refine wl_nil ?_
              refine thenN ?_
              refine W_condF rfl ?_
              refine W_skip ?_
              refine blkN ?_
              refine thenN ?_
              refine W_region ?_
              refine wl_q (r_move (.int _ _) rfl) rfl rfl ?_
              refine wl_q (r_add rfl rfl (by omega) (by omega)) rfl rfl ?_
              refine wl_q (r_assign (.int _ _) rfl) rfl rfl ?_
              refine wl_nil ?_
              refine roundN (k2 + 1) (agC rfl agN) (akC rfl (akC rfl (akC rfl (akC rfl (akC rfl (akC rfl akN)))))) ?_ ?_
              · exact ⟨by omega, M17⟩
              · omega
            · skip
              refine W_exit ?_
              refine thenX ?_
              refine roundX ?_
              refine blkH ?_
              refine blkN ?_
              refine thenN ?_
              refine W_region ?_
              refine wl_q (r_move (.int _ _) rfl) rfl rfl ?_
              refine wl_q (r_add rfl rfl (by omega) (by omega)) rfl rfl ?_
              refine wl_q (r_assign (.int _ _) rfl) rfl rfl ?_
              refine wl_nil ?_
              refine roundN (i2 + 1) (agC (iE (by rw [dynC_snoc hxb, if_pos ((findL_dyn (hfs cs) hvs hxm).1 (by omega))]; omega)) (agC rfl agN)) (akC rfl (akC rfl (akC rfl akN))) ?_ ?_
              · exact ⟨by omega, hM16⟩
              · omega
          · skip
            refine W_skip ?_
            refine thenN ?_
            refine W_seq ?_
            refine W_region ?_
            refine wl_q (r_assign (.int _ _) rfl) rfl rfl ?_
            refine wl_nil ?_
            refine thenN ?_
            refine W_block ?_
            refine W_loop (σ := Nat) [5, 7, 8, 11, 12, 13] (fun k2 => [(14, .int .i64 (k2 : Int))]) (fun k2 w' => k2 ≤ r.n ∧ Mem w [] ([r.e, q0.e, en] ++ rs0.map Row.e) w') (fun k2 => r.n - k2) 0 (agC rfl agN) (⟨by omega, M15⟩) ?_
            rintro k2 ρ18 w18 ⟨hk2, hM18⟩
            refine W_seq ?_
            refine W_seq ?_
            refine W_region ?_
            refine wl_q (r_move (.int _ _) rfl) rfl rfl ?_
            refine wl_q (r_move (.slice _ _ _) rfl) rfl rfl ?_
            refine wl_q (r_lenS Tryz.underlying22 rfl) rfl rfl ?_
            refine wl_q (r_bin (.bool (decide _)) rfl rfl rfl) rfl rfl ?_
            refine wl_nil ?_
            refine thenN ?_
            refine W_condD rfl (fun h133 => ?_) (fun h133 => ?_)
            · skip
              obtain ⟨yb, hyb⟩ := getSome (xs := (viewL xs)) (k := k2) hrn (by omega)
              have hym := List.mem_of_getElem? hyb
              have hgd := findL_dyn (hfs cs) hvs hym
              have hix := midx_lt (n := r.n) (a := i2) (b := k2) (by omega) (by omega)
              have hci := cl_iff hvs hvn (by rw [hrn]; exact hcl) (a := i2) (b := k2) (by omega) (by omega)
              rw [hrn] at hci
              unfold dynAt keyAt at hci
              rw [getD_at hxb, getD_at hyb, ← findL_eq (hfs cs) hvs hxm hym] at hci
              refine W_skip ?_
              refine thenN ?_
              refine W_seq ?_
              refine W_block ?_
              refine W_seq ?_
              refine W_region ?_
              refine wl_q (r_move (.slice _ _ _) rfl) rfl rfl ?_
              refine wl_q (r_move (.slice _ _ _) rfl) rfl rfl ?_
              refine wl_q (r_move (.int _ _) rfl) rfl rfl ?_
              refine wl_q (r_idxR (k2) sl22 rfl rfl rfl ((hr.rd hM18 (nthMem (i := 0) rfl)).below_len (mapGet bodyCells hyb)) ((hr.rd hM18 (nthMem (i := 0) rfl)).someK (mapGet bodyCells hyb))) rfl rfl ?_
              refine wl_q (r_fieldAddrE 0 fld32_0 (hr.rd hM18 (nthMem (i := 0) rfl)) (Nat.lt_of_le_of_lt (Nat.zero_le _) ((hr.rd hM18 (nthMem (i := 0) rfl)).below_len (mapGet bodyCells hyb))) rfl) rfl rfl ?_
              refine wl_q (r_ldE (o := 0) (.int _ _) one30 (hr.rd hM18 (nthMem (i := 0) rfl)) (mapGet bodyCells hyb) rfl rfl) rfl rfl ?_
              refine wl_cal cal29 rfl rfl rfl ?_
              refine (isl_Find _ yb.key _ _ _ rs0 (islL (forestOf (viewL xs) cs) (viewL xs)) (hI0.rd hq0 hM18 (nthMem (i := 1) rfl) (fun r hr => List.mem_append_right _ (List.mem_map_of_mem hr)))).mono ?_
              rintro _ w19 ⟨v19, rfl, ⟨rfl, hb19⟩⟩
              refine ⟨_, rfl, ?_⟩
              have M19 := hM18.callB hb19
              refine wl_q (r_assign (.int _ _) rfl) rfl rfl ?_
              refine wl_nil ?_
              refine thenN ?_
              refine W_seq ?_
              refine W_region ?_
              refine wl_q (r_move (.slice _ _ _) rfl) rfl rfl ?_
              refine wl_q (r_move (.int _ _) rfl) rfl rfl ?_
              refine wl_q (r_move (.slice _ _ _) rfl) rfl rfl ?_
              refine wl_q (r_lenS Tryz.underlying22 rfl) rfl rfl ?_
              refine wl_q (r_mul rfl rfl (by rw [← Int.natCast_mul]; omega) (by rw [← Int.natCast_mul]; omega)) rfl rfl ?_
              refine wl_re 147 (.int .i64 ((i2 * r.n : Nat) : Int)) (iE (by rw [Int.natCast_mul])) ?_
              refine wl_q (r_move (.int _ _) rfl) rfl rfl ?_
              refine wl_q (r_add rfl rfl (by omega) (by omega)) rfl rfl ?_
              refine wl_re 149 (.int .i64 ((i2 * r.n + k2 : Nat) : Int)) (iE (by omega)) ?_
              refine wl_q (r_idxR ((i2 * r.n + k2)) sl58 rfl rfl rfl ((hrow.rd M19 (nthMem (i := 2) rfl)).below_len (mapGet boolCell (mget_at (n := r.n) (a := i2) (b := k2) (by rw [hcl.lk.snd.len, hrn]) (by omega) (by omega)))) ((hrow.rd M19 (nthMem (i := 2) rfl)).someK (mapGet boolCell (mget_at (n := r.n) (a := i2) (b := k2) (by rw [hcl.lk.snd.len, hrn]) (by omega) (by omega))))) rfl rfl ?_
              refine wl_q (r_ldE0 (.bool _) one4 (hrow.rd M19 (nthMem (i := 2) rfl)) (mapGet boolCell (mget_at (n := r.n) (a := i2) (b := k2) (by rw [hcl.lk.snd.len, hrn]) (by omega) (by omega))) rfl) rfl rfl ?_
              refine wl_q (r_move (.int _ _) rfl) rfl rfl ?_
              refine wl_q (r_bin (.bool (decide _)) rfl rfl rfl) rfl rfl ?_
              refine wl_re 153 (.bool false) (bF h127).symm ?_
              refine wl_q (r_move (.bool false) rfl) rfl rfl ?_
              refine wl_skip rfl rfl ?_
              refine wl_skip rfl rfl ?_
              refine wl_skip rfl rfl ?_
              refine wl_q (r_pick false (.bool false) rfl rfl) rfl rfl ?_
              have e159 : mget r.n m i2 k2 = false := Bool.eq_false_iff.2 (fun h => h127 (hci.1 h).1)
              refine wl_q (r_binB _ Tryz.underlying4 rfl rfl rfl) rfl rfl ?_
              refine wl_re 159 (.bool false) (bv rfl (nbE e159)) ?_
              refine wl_nil ?_
              refine thenN ?_
              refine W_condF rfl ?_
              refine W_skip ?_
              refine blkN ?_
              refine thenN ?_
              refine W_region ?_
              refine wl_q (r_move (.int _ _) rfl) rfl rfl ?_
              refine wl_q (r_add rfl rfl (by omega) (by omega)) rfl rfl ?_
              refine wl_q (r_assign (.int _ _) rfl) rfl rfl ?_
              refine wl_nil ?_
              refine roundN (k2 + 1) (agC rfl agN) (akC rfl (akC rfl (akC rfl (akC rfl (akC rfl (akC rfl akN)))))) ?_ ?_
              · exact ⟨by omega, M19⟩
              · omega
            · skip
              refine W_exit ?_
              refine thenX ?_
              refine roundX ?_
              refine blkH ?_
              refine blkN ?_
              refine thenN ?_
              refine W_region ?_
              refine wl_q (r_move (.int _ _) rfl) rfl rfl ?_
              refine wl_q (r_add rfl rfl (by omega) (by omega)) rfl rfl ?_
              refine wl_q (r_assign (.int _ _) rfl) rfl rfl ?_
              refine wl_nil ?_
              refine roundN (i2 + 1) (agC (iE (by rw [dynC_snoc hxb, if_neg (fun h => absurd ((findL_dyn (hfs cs) hvs hxm).2 h) (by omega))]; omega)) (agC rfl agN)) (akC rfl (akC rfl (akC rfl akN))) ?_ ?_
              · exact ⟨by omega, hM18⟩
              · omega
        · skip
          have htk : (viewL xs).take i2 = (viewL xs) := List.take_of_length_le (by omega)
          refine W_exit ?_
          refine thenX ?_
          refine roundX ?_
          refine blkH ?_
          refine thenN ?_
          refine W_seq ?_
          refine W_region ?_
          refine wl_q (r_move (.int _ _) rfl) rfl rfl ?_
          refine wl_q (r_bin (.bool (decide _)) rfl rfl rfl) rfl rfl ?_
          refine wl_re 161 (.bool true) (bT (by rw [htk]; omega)).symm ?_
          refine wl_q (r_assign (.bool true) rfl) rfl rfl ?_
          refine wl_nil ?_
          refine thenN ?_
          refine W_ret ?_
          skip
          refine fin1 (.bool true) rfl ?_
          exact ⟨rfl, hM14.below⟩

end Go.Proofs.YtmcddmhkjcgneaaGreatDoor

set_option linter.unusedVariables false
set_option linter.unusedSimpArgs false
set_option linter.unnecessarySimpa false
namespace Go.Proofs.YtmcddmhkjcgneaaGreatDoor
open Go.Bil
open Go.RowKit (Below)
open Go.Proofs

namespace islandPartition
open Go.ChangeShapes Go.WideShapes Go.ChangeAt Go.RowKit
open Go.ChangeMaps (open_string shut_string)
theorem own : ownKnob Tryz.prog.godebug = none := by kernel_rfl
theorem laidOut : laidOutB Tryz.prog = true := by kernel_rfl
set_option maxRecDepth 100000 in
theorem lifted (os : Os) (started : os.Started) (H : Type) (enc : TypeId × Value → H) :
    ReturnsInHanded {} Tryz.checked os 9 .any (fun w args => (Rows.islandPartitionSpec.pre enc Tryz.prog Tryz.f9 [] false w args ∧ laidMet Tryz.prog laidL w) ∧ sizedMet enc Tryz.prog Tryz.f9 (OpenSpec.ofChange Rows.islandPartitionSpec) false w args) (Rows.islandPartitionSpec.post enc Tryz.prog Tryz.f9 false true false false) := by
  refine returnsInHanded_of_change_and (C := Tryz.checked) (X := fun w _ => laidMet Tryz.prog laidL w) (fun _ _ _ hh h => h.of_heap hh) own started (by kernel_rfl) Tryz.func9
    (ChangeSpec.witness_at (enc := enc) (C := Tryz.checked) (os := os) (X := fun w _ => laidMet Tryz.prog laidL w) false (laidWorld os) #[.slice none 0 0, .slice none 0 0] 8 rfl (by kernel_rfl) (by kernel_rfl) (by kernel_rfl) (by kernel_rfl) (by kernel_rfl) (laidMet_of_run' 8 (by kernel_rfl) (by kernel_rfl))) ?_
  intro W base args ds gs before hval0 hW hcnd hsz0 hL _
  have hsz : (DataW.weightsEach Tryz.prog (Tryz.f9.params.toList ++ Rows.islandPartitionSpec.plain.varTypes Tryz.prog) (ds ++ gs)).all (· ≤ reachBytes) = true := hsz0
  have hval : ∀ (j : Nat) t v, Tryz.f9.params[j]? = some t → args[j]? = some v → Value.okWide Tryz.prog W .any base t v := hval0
  have hW' := hW
  obtain ⟨p, q, hA0, hV, rfl, hfz, hnd⟩ := hW
  have hA : DataW.TrodAll enc Tryz.prog W 0 (fun _ => true) true Tryz.f9.params.toList args.toList ds p := hA0
  rw [Tryz.params9] at hA hval hsz
  obtain ⟨v0, vs0, d0, ds0, p0, q0, hargs, rfl, rfl, h0, r0⟩ := trodAll_cons hA
  obtain ⟨v1, vs1, d1, ds1, p1, q1, rfl, rfl, rfl, h1, r1⟩ := trodAll_cons r0
  obtain ⟨rfl, rfl, rfl⟩ := trodAll_nil r1
  obtain rfl : args = #[v0, v1] := by cases args; simp_all
  obtain ⟨rfl, rfl⟩ := trodVars_none hV
  have k0 := h0
  have lt0 : ∀ x ∈ p0, x.block < W.heap.size := by obtain ⟨m, hm⟩ := k0; exact DataW.trod_lt m _ _ _ hm
  obtain ⟨a0, len0, cap0, rfl⟩ := okWide_slice Tryz.underlying22 (hval 0 22 v0 rfl rfl)
  have y0 := sized_rows hsz (j := 0) (t := 22) rfl rfl sl22 h0
  obtain ⟨ls0, R0, hi0⟩ := open_rows sl22 leaves32 rfl y0 h0
  obtain ⟨xs0, rfl, hx0⟩ := list_of bodyOf ls0 hi0
  have k1 := h1
  have lt1 : ∀ x ∈ p1, x.block < W.heap.size := by obtain ⟨m, hm⟩ := k1; exact DataW.trod_lt m _ _ _ hm
  obtain ⟨a1, len1, cap1, rfl⟩ := okWide_slice Tryz.underlying45 (hval 1 45 v1 rfl rfl)
  have y1 := sized_rows hsz (j := 1) (t := 45) rfl rfl sl45 h1
  obtain ⟨ls1, R1, hi1⟩ := open_rows sl45 leaves63 rfl y1 h1
  obtain ⟨xs1, rfl, hx1⟩ := list_of conOf5 ls1 hi1
  clear hA0 hval0 hsz0 hsz
  refine (law_IslandPartition W (rdF hL) (rdN hL) _ _ _ xs0 R0 _ _ _ xs1 R1 (fun b hb => (hx0 b hb).key.1)).mono fun e W' ⟨v, he, hv, bel⟩ => ?_
  subst he
  subst hv
  exact ⟨_, rfl, _, _, _, [], _, [], hW', trodAll_mk1 (shut_bool Tryz.underlying4 _), (trodAll_cons_mk (Below.trod laidOut (by kernel_rfl) (of_decide_eq_true (by kernel_rfl)) k0 bel lt0) (trodAll_cons_mk (Below.trod laidOut (by kernel_rfl) (of_decide_eq_true (by kernel_rfl)) k1 bel lt1) trodAll_mk0)), rfl, bel.frame _, fun h => by cases h⟩
theorem over : Rows.islandPartitionRow.holds Tryz.pinned (OpenSpec.ofChange Rows.islandPartitionSpec) :=
  OpenClaim.holds_of_wide 9 Tryz.f9 rfl rfl rfl rfl rfl rfl rfl ⟨rfl, rfl, rfl, rfl, rfl⟩ rfl rfl rfl rfl rfl (by kernel_rfl) Tryz.func9 (by kernel_rfl)
    (of_decide_eq_true (by kernel_rfl)) (by unfold Func.isWrapper; first | (rw [if_pos (by decide +kernel)]; kernel_rfl) | (rw [if_neg (by decide +kernel)]; exact ⟨rfl, rfl⟩))
    (fun os started H enc _ => lifted os started H enc)
end islandPartition
theorem islandPartition_holds : Rows.IslandPartitionSaid := islandPartition.over
#print axioms islandPartition_holds
theorem islandPartition_card : Rows.IslandPartitionCardSaid :=
  Claim7.holds_tied_plain_at .later [] [.data, .data] true (true, "9f8295c113a943455c4832a95346352d7118fae4d0dcf065aaf106ad8bcb4f65") false
    islandPartition_holds (fun _ h => by cases h) (by kernel_rfl) (fun _ h => by cases h) islandPartition_row_tie rfl ⟨rfl, rfl⟩ (by kernel_rfl) rfl
    (fun f fn hf hfn => by
      obtain rfl : f = 9 := Option.some.inj ((show Tryz.prog.funcNamed "billiard/billiardlaw25.IslandPartition" = some 9 by kernel_rfl).symm.trans hf) |>.symm
      obtain rfl : fn = Tryz.f9 := (Option.some.inj (Tryz.func9.symm.trans hfn)).symm
      exact ⟨by kernel_rfl, fun j t ht => by
        rw [Tryz.params9] at ht
        have hm : t ∈ [22, 45] := by simpa using Array.mem_of_getElem? ht
        have hall : ([22, 45].all fun u => !Tryz.prog.wantsStandIn u) = true := by kernel_rfl
        exact (show Tryz.prog.wantsStandIn t = false by simpa using List.all_eq_true.1 hall t hm)⟩)
    (by kernel_rfl)
#print axioms islandPartition_card

end Go.Proofs.YtmcddmhkjcgneaaGreatDoor
