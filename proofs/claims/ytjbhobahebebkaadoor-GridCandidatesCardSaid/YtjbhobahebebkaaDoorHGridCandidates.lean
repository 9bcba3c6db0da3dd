import Derived.Test.YtjbhobahebebkaaDoorK5
import Derived.Test.YtjbhobahebebkaaDoorK25
import Derived.Test.YtjbhobahebebkaaDoorRows
import Derived.Test.YtjbhobahebebkaaDoorK26
import Derived.Test.YtjbhobahebebkaaDoorTie
import Derived.Test.YtjbhobahebebkaaDoorCards
import Derived.WalkKit
import Derived.ProofKit
import Derived.OpenShut
import Derived.ShutString
import Derived.ChangeOld
import Derived.Below
import Derived.SizedLaws
/- Walks of Go functions over the frame of this claim: what each computes, for every input of the stated types (LGridCandidates). -/
set_option linter.unusedVariables false
set_option linter.unusedSimpArgs false
set_option linter.unnecessarySimpa false
namespace Go.Proofs.YtjbhobahebebkaaDoor
open Go.Bil
open Go.RowKit (Below)
open Go.Proofs

set_option maxHeartbeats 16000000 in
theorem law_GridCandidates (w : World) (F : Rd w 2 (some ⟨0, 0, none⟩) 1 [[.int .u32 73856093, .int .u32 19349663]]) (A : Option Addr) (n c : Nat) (es : List GE) (R : Rd w 5 A n (es.map geCells)) (hes : ∀ x ∈ es, Okx x.2) :
    Calls Tryd.prog 4 #[.slice A n c] w (fun ex w' => ∃ v, ex = .returned v ∧ (fun v w' => v = .bool true ∧ Below w.heap.size w w') v w') := by
  have hlen : es.length = n := by simpa using R.len
  have hbd := R.bound
  refine calls_of_W #[.tmp 2] 105 Tryd.func4 rfl Tryd.results4 Tryd.ntmps4 rfl ?_
  have M0 := Mem.refl w
  refine W_seq ?_
  refine W_region ?_
  refine wl_q (r_assign (.bool false) rfl) rfl rfl ?_
  refine wl_nil ?_
  refine thenN ?_
  refine W_seq ?_
  refine W_seq ?_
  refine W_region ?_
  refine wl_cal cal8 rfl rfl rfl ?_
  refine (aw10 _ (F.mem M0)).mono ?_
  rintro _ w1 ⟨v1, rfl, ⟨rfl, hb1⟩⟩
  refine ⟨_, rfl, ?_⟩
  have M1 := M0.callB hb1
  refine wl_q (r_notB false rfl rfl) rfl rfl ?_
  refine wl_q (r_move (.bool false) rfl) rfl rfl ?_
  refine wl_q (r_move (.slice _ _ _) rfl) rfl rfl ?_
  refine wl_cal cal9 rfl rfl rfl ?_
  refine (ref10_Few _ _ _ _ es (R.mem M1) hes).mono ?_
  rintro _ w2 ⟨v2, rfl, ⟨z, rfl, hzz, hb2⟩⟩
  refine ⟨_, rfl, ?_⟩
  have M2 := M1.callB hb2
  refine wl_q (r_notB _ rfl rfl) rfl rfl ?_
  refine wl_q (r_pick false (.bool _) rfl rfl) rfl rfl ?_
  refine wl_nil ?_
  refine thenN ?_
  refine W_cond _ rfl (fun h14 => ?_) (fun h14 => ?_)
  · skip
    refine W_seq ?_
    refine W_region ?_
    refine wl_cal cal8 rfl rfl rfl ?_
    refine (aw10 _ (F.mem M2)).mono ?_
    rintro _ w3 ⟨v3, rfl, ⟨rfl, hb3⟩⟩
    refine ⟨_, rfl, ?_⟩
    have M3 := M2.callB hb3
    refine wl_q (r_assign (.bool true) rfl) rfl rfl ?_
    refine wl_nil ?_
    refine thenN ?_
    refine W_ret ?_
    refine thenR ?_
    skip
    refine fin1 (.bool true) rfl ?_
    exact ⟨rfl, M3.below⟩
  · skip
    have hn40 : n ≤ 40 := hzz (by simp_all)
    have hnn : es.length * es.length ≤ 40 * 40 := Nat.mul_le_mul (by omega) (by omega)
    refine W_skip ?_
    refine thenN ?_
    refine W_seq ?_
    refine W_region ?_
    refine wl_alloc zeroGr M2 rfl rfl (fun b4 w4 M4 => ?_)
    have M5 := Mem.gridNew (L := []) M4
    refine wl_nil ?_
    refine thenN ?_
    refine W_seq ?_
    refine W_region ?_
    refine wl_q (r_move (.slice _ _ _) rfl) rfl rfl ?_
    refine wl_cal cal10 rfl rfl rfl ?_
    refine (law10_fill _ (F.mem M5) b4 (List.replicate 1024 nilRow) 0 noG (grid_noG 42) (by omega) (fun j => by simp [noG]) _ _ _ es (R.mem M5) hes (by omega) (Mem.ownTail (L := []) M5) (Mem.awayTail (L := []) M5 F) (Mem.awayTail (L := []) M5 R)).mono ?_
    rintro _ w6 ⟨v6, rfl, ⟨rfl, rs1, hG1, hM6⟩⟩
    refine ⟨_, rfl, ?_⟩
    have M6 : Mem _ _ ([] ++ _) _ := Mem.tail (L := []) M5 hM6
    refine wl_nil ?_
    refine thenN ?_
    refine W_seq ?_
    refine W_region ?_
    refine wl_cal cal13 rfl rfl rfl ?_
    refine (grid_Candidates _ b4 rs1 (0 + ((n : Nat) : Int)) (fillG es noG) (show GridRows 42 rs1 (fillG es noG) from hG1).len (Mem.gridRd (show Mem _ _ ([] ++ _) _ from M6) (show GridRows 42 rs1 (fillG es noG) from hG1).len) (fun j r hr => Mem.rowRd (show Mem _ _ ([] ++ _) _ from M6) (show GridRows 42 rs1 (fillG es noG) from hG1) j r hr) (es.map (·.1)) (keys_fill es) (by first | (simp; done) | (simp; omega))).mono ?_
    rintro _ w7 ⟨v7, rfl, ⟨r, psr, hascr, hpsr, rfl, hr, hM7⟩⟩
    refine ⟨_, rfl, ?_⟩
    have M7 : Mem _ _ ([_] ++ _) _ := Mem.front (L := []) (M6.call0 hM7)
    have hcdr : ∀ z, z ∈ psr ↔ candP es z := fun z => (hpsr z).trans cand_fill
    have hfwr := cand_few hascr hcdr
    have hlnr : psr.length = r.n := by simpa using hr.1
    refine wl_q (r_assign (.slice _ _ _) rfl) rfl rfl ?_
    refine wl_nil ?_
    refine thenN ?_
    refine W_seq ?_
    refine W_seq ?_
    refine W_region ?_
    refine wl_q (r_assign (.int _ _) rfl) rfl rfl ?_
    refine wl_nil ?_
    refine thenN ?_
    refine W_block ?_
    refine W_loop (σ := Nat) [0, 4] (fun k => [(5, .int .i64 (k : Int))]) (fun k w' => k ≤ r.n ∧ Mem w [] ([r.e] ++ ((some b4, bc (gcells rs1 (0 + ((n : Nat) : Int))) 30) :: rs1.map Row.e)) w') (fun k => r.n - k) 0 (agC rfl agN) (⟨by omega, M7⟩) ?_
    rintro k ρ8 w8 ⟨hk, hM8⟩
    refine W_seq ?_
    refine W_seq ?_
    refine W_region ?_
    refine wl_q (r_move (.int _ _) rfl) rfl rfl ?_
    refine wl_q (r_move (.slice _ _ _) rfl) rfl rfl ?_
    refine wl_q (r_lenS Tryd.underlying35 rfl) rfl rfl ?_
    refine wl_q (r_bin (.bool (decide _)) rfl rfl rfl) rfl rfl ?_
    refine wl_nil ?_
    refine thenN ?_
    refine W_condD rfl (fun h22 => ?_) (fun h22 => ?_)
    · skip
      obtain ⟨p, hp⟩ := getSome (xs := psr) (k := k) hlnr (by omega)
      have hpl := ((hcdr p).1 (List.mem_of_getElem? hp)).1
      refine W_skip ?_
      refine thenN ?_
      refine W_seq ?_
      refine W_block ?_
      refine W_seq ?_
      refine W_draw [(0, 0), (1, 0), (2, 1), (3, 1), (4, 1), (5, 0), (6, 0), (7, 1), (8, 1), (9, 1), (10, 0), (11, 0), (12, 0), (13, 0), (14, 0), (15, 0), (16, 0), (17, 0), (18, 1), (19, 1), (20, 0), (21, 0), (22, 1), (23, 1), (24, 2), (25, 0), (26, 0), (27, 0)] mixed rfl (by kernel_rfl) (fun w9 hb9 hh9 => ?_)
      have M9 := hM8.drew hb9 hh9
      refine D_p rfl rfl rfl (fun _ => r_move (.slice _ _ _) rfl) ?_
      refine D_p rfl rfl rfl (fun _ => r_move (.int _ _) rfl) ?_
      refine D_r rfl rfl rfl (r_idxR (k) sl35 rfl rfl rfl ((hr.rd M9 (nthMem (i := 0) rfl)).below_len (mapGet pairCells hp)) ((hr.rd M9 (nthMem (i := 0) rfl)).someK (mapGet pairCells hp))) ?_
      refine D_r rfl rfl rfl (r_fieldAddrE 0 fld44_0 (hr.rd M9 (nthMem (i := 0) rfl)) (Nat.lt_of_le_of_lt (Nat.zero_le _) ((hr.rd M9 (nthMem (i := 0) rfl)).below_len (mapGet pairCells hp))) rfl) ?_
      refine D_r rfl rfl rfl (r_ldE (o := 0) (.int _ _) one42 (hr.rd M9 (nthMem (i := 0) rfl)) (mapGet pairCells hp) rfl rfl) ?_
      refine D_p rfl rfl rfl (fun _ => r_move (.slice _ _ _) rfl) ?_
      refine D_p rfl rfl rfl (fun _ => r_move (.int _ _) rfl) ?_
      refine D_r rfl rfl rfl (r_idxR (k) sl35 rfl rfl rfl ((hr.rd M9 (nthMem (i := 0) rfl)).below_len (mapGet pairCells hp)) ((hr.rd M9 (nthMem (i := 0) rfl)).someK (mapGet pairCells hp))) ?_
      refine D_r rfl rfl rfl (r_fieldAddrE 1 fld44_1 (hr.rd M9 (nthMem (i := 0) rfl)) (Nat.lt_of_le_of_lt (Nat.zero_le _) ((hr.rd M9 (nthMem (i := 0) rfl)).below_len (mapGet pairCells hp))) rfl) ?_
      refine D_r rfl rfl rfl (r_ldE (o := 1) (.int _ _) one42 (hr.rd M9 (nthMem (i := 0) rfl)) (mapGet pairCells hp) rfl rfl) ?_
      refine D_p rfl rfl rfl (fun _ => r_bin (.bool (decide _)) rfl rfl rfl) ?_
      refine D_re 35 (.bool false) (bF (by omega)).symm ?_
      refine D_p rfl rfl rfl (fun _ => r_move (.bool false) rfl) ?_
      refine D_p rfl rfl rfl (fun _ => r_move (.int _ _) rfl) ?_
      refine D_p rfl rfl rfl (fun _ => r_bin (.bool (decide _)) rfl rfl rfl) ?_
      refine D_p rfl rfl rfl (fun _ => r_move (.bool (decide _)) rfl) ?_
      refine D_splitD 39 rfl (fun g39 => ?_) (fun g39 => ?_)
      · skip
        obtain ⟨o, ho⟩ := getSome (xs := psr) (k := k - 1) hlnr (by omega)
        have hlt := asc_at hascr (show k - 1 < k by omega) ho hp
        refine D_p rfl rfl rfl (fun _ => r_move (.slice _ _ _) rfl) ?_
        refine D_p rfl rfl rfl (fun _ => r_move (.int _ _) rfl) ?_
        refine D_p rfl rfl rfl (fun _ => r_sub rfl rfl (by omega) (by omega)) ?_
        refine D_re 42 (.int .i64 ((k - 1 : Nat) : Int)) (iE (by omega)) ?_
        refine D_r rfl rfl rfl (r_idxR ((k - 1)) sl35 rfl rfl rfl ((hr.rd M9 (nthMem (i := 0) rfl)).below_len (mapGet pairCells ho)) ((hr.rd M9 (nthMem (i := 0) rfl)).someK (mapGet pairCells ho))) ?_
        refine D_r rfl rfl rfl (r_ldEA _ agg44 (hr.rd M9 (nthMem (i := 0) rfl)) (mapGet pairCells ho) rfl) ?_
        refine D_p rfl rfl rfl (fun _ => r_move (.slice _ _ _) rfl) ?_
        refine D_p rfl rfl rfl (fun _ => r_move (.int _ _) rfl) ?_
        refine D_r rfl rfl rfl (r_idxR (k) sl35 rfl rfl rfl ((hr.rd M9 (nthMem (i := 0) rfl)).below_len (mapGet pairCells hp)) ((hr.rd M9 (nthMem (i := 0) rfl)).someK (mapGet pairCells hp))) ?_
        refine D_r rfl rfl rfl (r_ldEA _ agg44 (hr.rd M9 (nthMem (i := 0) rfl)) (mapGet pairCells hp) rfl) ?_
        refine D_e [true, true, true, true, true, true, true, true, true, true] rfl (by kernel_rfl) ?_
        refine wl_cal cal18 rfl rfl rfl ?_
        refine (ref10_LessG _ o p).mono ?_
        rintro _ w10 ⟨v10, rfl, ⟨rfl, hb10⟩⟩
        refine ⟨_, rfl, ?_⟩
        have M10 := M9.callB hb10
        refine wl_nil (thenN ⟨alN, ?_⟩)
        refine D_re 49 (.bool true) (bT hlt).symm ?_
        refine D_p rfl rfl rfl (fun _ => r_notB false rfl rfl) ?_
        refine D_p rfl rfl rfl (fun _ => r_pick true (.bool false) rfl rfl) ?_
        refine D_p rfl rfl rfl (fun _ => r_pick false (.bool false) rfl rfl) ?_
        refine D_nil ?_
        refine thenN ?_
        refine W_condF rfl ?_
        refine W_skip ?_
        refine blkN ?_
        refine thenN ?_
        refine W_region ?_
        refine wl_q (r_move (.int _ _) rfl) rfl rfl ?_
        refine wl_q (r_add rfl rfl (by omega) (by omega)) rfl rfl ?_
        refine wl_q (r_assign (.int _ _) rfl) rfl rfl ?_
        refine wl_nil ?_
        refine roundN (k + 1) (agC rfl agN) (akC rfl (akC rfl akN)) ?_ ?_
        · exact ⟨by omega, M10⟩
        · omega
      · skip
        refine D_s rfl rfl rfl ?_
        refine D_s rfl rfl rfl ?_
        refine D_s rfl rfl rfl ?_
        refine D_s1 rfl rfl rfl ?_
        refine D_s1 rfl rfl rfl ?_
        refine D_s rfl rfl rfl ?_
        refine D_s rfl rfl rfl ?_
        refine D_s1 rfl rfl rfl ?_
        refine D_s1 rfl rfl rfl ?_
        refine D_e [true, true, true, true, true, true, true, true, true, true] rfl (by kernel_rfl) ?_
        refine wl_skip rfl rfl ?_
        refine wl_nil (thenN ⟨alN, ?_⟩)
        refine D_s rfl rfl rfl ?_
        refine D_p rfl rfl rfl (fun _ => r_pick false (.bool false) rfl rfl) ?_
        refine D_p rfl rfl rfl (fun _ => r_pick false (.bool false) rfl rfl) ?_
        refine D_nil ?_
        refine thenN ?_
        refine W_condF rfl ?_
        refine W_skip ?_
        refine blkN ?_
        refine thenN ?_
        refine W_region ?_
        refine wl_q (r_move (.int _ _) rfl) rfl rfl ?_
        refine wl_q (r_add rfl rfl (by omega) (by omega)) rfl rfl ?_
        refine wl_q (r_assign (.int _ _) rfl) rfl rfl ?_
        refine wl_nil ?_
        refine roundN (k + 1) (agC rfl agN) (akC rfl (akC rfl akN)) ?_ ?_
        · exact ⟨by omega, M9⟩
        · omega
    · skip
      refine W_exit ?_
      refine thenX ?_
      refine roundX ?_
      refine blkH ?_
      refine thenN ?_
      refine W_seq ?_
      refine W_seq ?_
      refine W_region ?_
      refine wl_q (r_assign (.int _ _) rfl) rfl rfl ?_
      refine wl_nil ?_
      refine thenN ?_
      refine W_block ?_
      refine W_loop (σ := Nat) [0, 4] (fun i => [(6, .int .i64 (i : Int))]) (fun i w' => i ≤ n ∧ Mem w [] ([r.e] ++ ((some b4, bc (gcells rs1 (0 + ((n : Nat) : Int))) 30) :: rs1.map Row.e)) w') (fun i => n - i) 0 (agC rfl agN) (⟨by omega, hM8⟩) ?_
      rintro i ρ11 w11 ⟨hi, hM11⟩
      refine W_seq ?_
      refine W_seq ?_
      refine W_region ?_
      refine wl_q (r_move (.int _ _) rfl) rfl rfl ?_
      refine wl_q (r_move (.slice _ _ _) rfl) rfl rfl ?_
      refine wl_q (r_lenS Tryd.underlying22 rfl) rfl rfl ?_
      refine wl_q (r_bin (.bool (decide _)) rfl rfl rfl) rfl rfl ?_
      refine wl_nil ?_
      refine thenN ?_
      refine W_condD rfl (fun h56 => ?_) (fun h56 => ?_)
      · skip
        obtain ⟨xa, hxa⟩ := getSome (xs := es) (k := i) hlen (by omega)
        refine W_skip ?_
        refine thenN ?_
        refine W_seq ?_
        refine W_block ?_
        refine W_seq ?_
        refine W_region ?_
        refine wl_q (r_assign (.int _ _) rfl) rfl rfl ?_
        refine wl_nil ?_
        refine thenN ?_
        refine W_block ?_
        refine W_loop (σ := Nat) [0, 4, 6] (fun j => [(7, .int .i64 (j : Int))]) (fun j w' => j ≤ n ∧ Mem w [] ([r.e] ++ ((some b4, bc (gcells rs1 (0 + ((n : Nat) : Int))) 30) :: rs1.map Row.e)) w') (fun j => n - j) 0 (agC rfl agN) (⟨by omega, hM11⟩) ?_
        rintro j ρ12 w12 ⟨hj, hM12⟩
        refine W_seq ?_
        refine W_seq ?_
        refine W_region ?_
        refine wl_q (r_move (.int _ _) rfl) rfl rfl ?_
        refine wl_q (r_move (.slice _ _ _) rfl) rfl rfl ?_
        refine wl_q (r_lenS Tryd.underlying22 rfl) rfl rfl ?_
        refine wl_q (r_bin (.bool (decide _)) rfl rfl rfl) rfl rfl ?_
        refine wl_nil ?_
        refine thenN ?_
        refine W_condD rfl (fun h62 => ?_) (fun h62 => ?_)
        · skip
          obtain ⟨xb, hxb⟩ := getSome (xs := es) (k := j) hlen (by omega)
          refine W_skip ?_
          refine thenN ?_
          refine W_seq ?_
          refine W_block ?_
          refine W_seq ?_
          refine W_draw [(0, 0), (1, 0), (2, 1), (3, 1), (4, 1), (5, 0), (6, 0), (7, 1), (8, 1), (9, 1), (10, 0), (11, 0), (12, 0), (13, 0), (14, 1), (15, 1), (16, 1), (17, 0), (18, 0), (19, 1), (20, 1), (21, 1), (22, 2), (23, 0), (24, 0), (25, 0), (26, 0), (27, 0), (28, 1), (29, 1), (30, 1), (31, 0), (32, 0), (33, 1), (34, 1), (35, 1), (36, 0), (37, 2), (38, 0), (39, 0)] mixed rfl (by kernel_rfl) (fun w13 hb13 hh13 => ?_)
          have M13 := hM12.drew hb13 hh13
          refine D_p rfl rfl rfl (fun _ => r_move (.slice _ _ _) rfl) ?_
          refine D_p rfl rfl rfl (fun _ => r_move (.int _ _) rfl) ?_
          refine D_r rfl rfl rfl (r_idxR (i) sl22 rfl rfl rfl ((R.mem M13).below_len (mapGet geCells hxa)) ((R.mem M13).someK (mapGet geCells hxa))) ?_
          refine D_r rfl rfl rfl (r_fieldAddrE 0 fld49_0 (R.mem M13) (Nat.lt_of_le_of_lt (Nat.zero_le _) ((R.mem M13).below_len (mapGet geCells hxa))) rfl) ?_
          refine D_r rfl rfl rfl (r_ldE (o := 0) (.int _ _) one42 (R.mem M13) (mapGet geCells hxa) rfl rfl) ?_
          refine D_p rfl rfl rfl (fun _ => r_move (.slice _ _ _) rfl) ?_
          refine D_p rfl rfl rfl (fun _ => r_move (.int _ _) rfl) ?_
          refine D_r rfl rfl rfl (r_idxR (j) sl22 rfl rfl rfl ((R.mem M13).below_len (mapGet geCells hxb)) ((R.mem M13).someK (mapGet geCells hxb))) ?_
          refine D_r rfl rfl rfl (r_fieldAddrE 0 fld49_0 (R.mem M13) (Nat.lt_of_le_of_lt (Nat.zero_le _) ((R.mem M13).below_len (mapGet geCells hxb))) rfl) ?_
          refine D_r rfl rfl rfl (r_ldE (o := 0) (.int _ _) one42 (R.mem M13) (mapGet geCells hxb) rfl rfl) ?_
          refine D_p rfl rfl rfl (fun _ => r_bin (.bool (decide _)) rfl rfl rfl) ?_
          refine D_p rfl rfl rfl (fun _ => r_move (.bool (decide _)) rfl) ?_
          refine D_splitD 76 rfl (fun g76 => ?_) (fun g76 => ?_)
          · skip
            refine D_p rfl rfl rfl (fun _ => r_move (.slice _ _ _) rfl) ?_
            refine D_p rfl rfl rfl (fun _ => r_move (.int _ _) rfl) ?_
            refine D_r rfl rfl rfl (r_idxR (i) sl22 rfl rfl rfl ((R.mem M13).below_len (mapGet geCells hxa)) ((R.mem M13).someK (mapGet geCells hxa))) ?_
            refine D_r rfl rfl rfl (r_fieldAddrE 1 fld49_1 (R.mem M13) (Nat.lt_of_le_of_lt (Nat.zero_le _) ((R.mem M13).below_len (mapGet geCells hxa))) rfl) ?_
            refine D_r rfl rfl rfl (r_ldEP (o := 1) _ agg47 (R.mem M13) (mapGet geCells hxa) rfl rfl rfl) ?_
            refine D_p rfl rfl rfl (fun _ => r_move (.slice _ _ _) rfl) ?_
            refine D_p rfl rfl rfl (fun _ => r_move (.int _ _) rfl) ?_
            refine D_r rfl rfl rfl (r_idxR (j) sl22 rfl rfl rfl ((R.mem M13).below_len (mapGet geCells hxb)) ((R.mem M13).someK (mapGet geCells hxb))) ?_
            refine D_r rfl rfl rfl (r_fieldAddrE 1 fld49_1 (R.mem M13) (Nat.lt_of_le_of_lt (Nat.zero_le _) ((R.mem M13).below_len (mapGet geCells hxb))) rfl) ?_
            refine D_r rfl rfl rfl (r_ldEP (o := 1) _ agg47 (R.mem M13) (mapGet geCells hxb) rfl rfl rfl) ?_
            refine D_e [true, true, true, true, true, true, true, true, true, true, true, true] rfl (by kernel_rfl) ?_
            refine wl_cal cal19 rfl rfl rfl ?_
            refine (ref08_Overlap _ xa.2 xb.2).mono ?_
            rintro _ w14 ⟨v14, rfl, ⟨rfl, hb14⟩⟩
            refine ⟨_, rfl, ?_⟩
            have M14 := M13.callB hb14
            refine wl_nil (thenN ⟨alN, ?_⟩)
            refine D_p rfl rfl rfl (fun _ => r_pick true (.bool (decide _)) rfl rfl) ?_
            refine D_p rfl rfl rfl (fun _ => r_move (.bool (decide _)) rfl) ?_
            refine D_splitD 89 rfl (fun g89 => ?_) (fun g89 => ?_)
            · skip
              refine D_p rfl rfl rfl (fun _ => r_move (.slice _ _ _) rfl) ?_
              refine D_p rfl rfl rfl (fun _ => r_move (.slice _ _ _) rfl) ?_
              refine D_p rfl rfl rfl (fun _ => r_move (.int _ _) rfl) ?_
              refine D_r rfl rfl rfl (r_idxR (i) sl22 rfl rfl rfl ((R.mem M14).below_len (mapGet geCells hxa)) ((R.mem M14).someK (mapGet geCells hxa))) ?_
              refine D_r rfl rfl rfl (r_fieldAddrE 0 fld49_0 (R.mem M14) (Nat.lt_of_le_of_lt (Nat.zero_le _) ((R.mem M14).below_len (mapGet geCells hxa))) rfl) ?_
              refine D_r rfl rfl rfl (r_ldE (o := 0) (.int _ _) one42 (R.mem M14) (mapGet geCells hxa) rfl rfl) ?_
              refine D_p rfl rfl rfl (fun _ => r_move (.slice _ _ _) rfl) ?_
              refine D_p rfl rfl rfl (fun _ => r_move (.int _ _) rfl) ?_
              refine D_r rfl rfl rfl (r_idxR (j) sl22 rfl rfl rfl ((R.mem M14).below_len (mapGet geCells hxb)) ((R.mem M14).someK (mapGet geCells hxb))) ?_
              refine D_r rfl rfl rfl (r_fieldAddrE 0 fld49_0 (R.mem M14) (Nat.lt_of_le_of_lt (Nat.zero_le _) ((R.mem M14).below_len (mapGet geCells hxb))) rfl) ?_
              refine D_r rfl rfl rfl (r_ldE (o := 0) (.int _ _) one42 (R.mem M14) (mapGet geCells hxb) rfl rfl) ?_
              refine D_p rfl rfl rfl (fun _ => r_build [(0, .int _ _), (1, .int _ _)] _ struct44 rfl rfl) ?_
              refine D_e [true, true, true, true, true, true] rfl (by kernel_rfl) ?_
              refine wl_cal cal20 rfl rfl rfl ?_
              refine (law10_has _ (xa.1, xb.1) _ _ _ psr (hr.rd M14 (nthMem (i := 0) rfl))).mono ?_
              rintro _ w15 ⟨v15, rfl, ⟨rfl, hb15⟩⟩
              refine ⟨_, rfl, ?_⟩
              have M15 := M14.callB hb15
              refine wl_nil (thenN ⟨alN, ?_⟩)
              refine D_re 102 (.bool true) (bT ((hcdr _).2 (cand_ovl (List.mem_of_getElem? hxa) (List.mem_of_getElem? hxb) (by omega) g89))).symm ?_
              refine D_p rfl rfl rfl (fun _ => r_notB false rfl rfl) ?_
              refine D_p rfl rfl rfl (fun _ => r_pick true (.bool false) rfl rfl) ?_
              refine D_nil ?_
              refine thenN ?_
              refine W_condF rfl ?_
              refine W_skip ?_
              refine blkN ?_
              refine thenN ?_
              refine W_region ?_
              refine wl_q (r_move (.int _ _) rfl) rfl rfl ?_
              refine wl_q (r_add rfl rfl (by omega) (by omega)) rfl rfl ?_
              refine wl_q (r_assign (.int _ _) rfl) rfl rfl ?_
              refine wl_nil ?_
              refine roundN (j + 1) (agC rfl agN) (akC rfl (akC rfl (akC rfl akN))) ?_ ?_
              · exact ⟨by omega, M15⟩
              · omega
            · skip
              refine D_s rfl rfl rfl ?_
              refine D_s rfl rfl rfl ?_
              refine D_s rfl rfl rfl ?_
              refine D_s1 rfl rfl rfl ?_
              refine D_s1 rfl rfl rfl ?_
              refine D_s1 rfl rfl rfl ?_
              refine D_s rfl rfl rfl ?_
              refine D_s rfl rfl rfl ?_
              refine D_s1 rfl rfl rfl ?_
              refine D_s1 rfl rfl rfl ?_
              refine D_s1 rfl rfl rfl ?_
              refine D_s rfl rfl rfl ?_
              refine D_e [true, true, true, true, true, true] rfl (by kernel_rfl) ?_
              refine wl_skip rfl rfl ?_
              refine wl_nil (thenN ⟨alN, ?_⟩)
              refine D_s rfl rfl rfl ?_
              refine D_p rfl rfl rfl (fun _ => r_pick false (.bool false) rfl rfl) ?_
              refine D_nil ?_
              refine thenN ?_
              refine W_condF rfl ?_
              refine W_skip ?_
              refine blkN ?_
              refine thenN ?_
              refine W_region ?_
              refine wl_q (r_move (.int _ _) rfl) rfl rfl ?_
              refine wl_q (r_add rfl rfl (by omega) (by omega)) rfl rfl ?_
              refine wl_q (r_assign (.int _ _) rfl) rfl rfl ?_
              refine wl_nil ?_
              refine roundN (j + 1) (agC rfl agN) (akC rfl (akC rfl (akC rfl akN))) ?_ ?_
              · exact ⟨by omega, M14⟩
              · omega
          · skip
            refine D_s rfl rfl rfl ?_
            refine D_s rfl rfl rfl ?_
            refine D_s1 rfl rfl rfl ?_
            refine D_s1 rfl rfl rfl ?_
            refine D_s1 rfl rfl rfl ?_
            refine D_s rfl rfl rfl ?_
            refine D_s rfl rfl rfl ?_
            refine D_s1 rfl rfl rfl ?_
            refine D_s1 rfl rfl rfl ?_
            refine D_s1 rfl rfl rfl ?_
            refine D_e [true, true, true, true, true, true, true, true, true, true, true, true] rfl (by kernel_rfl) ?_
            refine wl_skip rfl rfl ?_
            refine wl_nil (thenN ⟨alN, ?_⟩)
            refine D_p rfl rfl rfl (fun _ => r_pick false (.bool false) rfl rfl) ?_
            refine D_p rfl rfl rfl (fun _ => r_move (.bool false) rfl) ?_
            refine D_s rfl rfl rfl ?_
            refine D_s rfl rfl rfl ?_
            refine D_s rfl rfl rfl ?_
            refine D_s1 rfl rfl rfl ?_
            refine D_s1 rfl rfl rfl ?_
            refine D_s1 rfl rfl rfl ?_
            refine D_s rfl rfl rfl ?_
            refine D_s rfl rfl rfl ?_
            refine D_s1 rfl rfl rfl ?_
            refine D_s1 rfl rfl rfl ?_
            refine D_s1 rfl rfl rfl ?_
            refine D_s rfl rfl rfl ?_
            refine D_e [true, true, true, true, true, true] rfl (by kernel_rfl) ?_
            refine wl_skip rfl rfl ?_
            refine wl_nil (thenN ⟨alN, ?_⟩)
            refine D_s rfl rfl rfl ?_
            refine D_p rfl rfl rfl (fun _ => r_pick false (.bool false) rfl rfl) ?_
            refine D_nil ?_
            refine thenN ?_
            refine W_condF rfl ?_
            refine W_skip ?_
            refine blkN ?_
            refine thenN ?_
            refine W_region ?_
            refine wl_q (r_move (.int _ _) rfl) rfl rfl ?_
            refine wl_q (r_add rfl rfl (by omega) (by omega)) rfl rfl ?_
            refine wl_q (r_assign (.int _ _) rfl) rfl rfl ?_
            refine wl_nil ?_
            refine roundN (j + 1) (agC rfl agN) (akC rfl (akC rfl (akC rfl akN))) ?_ ?_
            · exact ⟨by omega, M13⟩
            · omega
        · skip
          refine W_exit ?_
          refine thenX ?_
          refine roundX ?_
          refine blkH ?_
          refine blkN ?_
          refine thenN ?_
          refine W_region ?_
          refine wl_q (r_move (.int _ _) rfl) rfl rfl ?_
          refine wl_q (r_add rfl rfl (by omega) (by omega)) rfl rfl ?_
          refine wl_q (r_assign (.int _ _) rfl) rfl rfl ?_
          refine wl_nil ?_
          refine roundN (i + 1) (agC rfl agN) (akC rfl (akC rfl akN)) ?_ ?_
          · exact ⟨by omega, hM12⟩
          · omega
      · skip
        refine W_exit ?_
        refine thenX ?_
        refine roundX ?_
        refine blkH ?_
        refine thenN ?_
        refine W_seq ?_
        refine W_region ?_
        refine wl_q (r_assign (.bool true) rfl) rfl rfl ?_
        refine wl_nil ?_
        refine thenN ?_
        refine W_ret ?_
        skip
        refine fin1 (.bool true) rfl ?_
        exact ⟨rfl, hM11.below⟩

end Go.Proofs.YtjbhobahebebkaaDoor

set_option linter.unusedVariables false
set_option linter.unusedSimpArgs false
set_option linter.unnecessarySimpa false
namespace Go.Proofs.YtjbhobahebebkaaDoor
open Go.Bil
open Go.RowKit (Below)
open Go.Proofs

namespace gridCandidates
open Go.ChangeShapes Go.WideShapes Go.ChangeAt Go.RowKit
open Go.ChangeMaps (open_string shut_string)
theorem own : ownKnob Tryd.prog.godebug = none := by kernel_rfl
theorem laidOut : laidOutB Tryd.prog = true := by kernel_rfl
set_option maxRecDepth 100000 in
theorem lifted (os : Os) (started : os.Started) (H : Type) (enc : TypeId × Value → H) :
    ReturnsInHanded {} Tryd.checked os 4 .any (fun w args => (Rows.gridCandidatesSpec.pre enc Tryd.prog Tryd.f4 [] false w args ∧ laidMet Tryd.prog laidL w) ∧ sizedMet enc Tryd.prog Tryd.f4 (OpenSpec.ofChange Rows.gridCandidatesSpec) false w args) (Rows.gridCandidatesSpec.post enc Tryd.prog Tryd.f4 false true false false) := by
  refine returnsInHanded_of_change_and (C := Tryd.checked) (X := fun w _ => laidMet Tryd.prog laidL w) (fun _ _ _ hh h => h.of_heap hh) own started (by kernel_rfl) Tryd.func4
    (ChangeSpec.witness_at (enc := enc) (C := Tryd.checked) (os := os) (X := fun w _ => laidMet Tryd.prog laidL w) false (laidWorld os) #[.slice none 0 0] 8 rfl (by kernel_rfl) (by kernel_rfl) (by kernel_rfl) (by kernel_rfl) (by kernel_rfl) (laidMet_of_run' 8 (by kernel_rfl) (by kernel_rfl))) ?_
  intro W base args ds gs before hval0 hW hcnd hsz0 hL _
  have hsz : (DataW.weightsEach Tryd.prog (Tryd.f4.params.toList ++ Rows.gridCandidatesSpec.plain.varTypes Tryd.prog) (ds ++ gs)).all (· ≤ reachBytes) = true := hsz0
  have hval : ∀ (j : Nat) t v, Tryd.f4.params[j]? = some t → args[j]? = some v → Value.okWide Tryd.prog W .any base t v := hval0
  have hW' := hW
  obtain ⟨p, q, hA0, hV, rfl, hfz, hnd⟩ := hW
  have hA : DataW.TrodAll enc Tryd.prog W 0 (fun _ => true) true Tryd.f4.params.toList args.toList ds p := hA0
  rw [Tryd.params4] at hA hval hsz
  obtain ⟨v0, vs0, d0, ds0, p0, q0, hargs, rfl, rfl, h0, r0⟩ := trodAll_cons hA
  obtain ⟨rfl, rfl, rfl⟩ := trodAll_nil r0
  obtain rfl : args = #[v0] := by cases args; simp_all
  obtain ⟨rfl, rfl⟩ := trodVars_none hV
  have k0 := h0
  have lt0 : ∀ x ∈ p0, x.block < W.heap.size := by obtain ⟨m, hm⟩ := k0; exact DataW.trod_lt m _ _ _ hm
  obtain ⟨a0, len0, cap0, rfl⟩ := okWide_slice Tryd.underlying22 (hval 0 22 v0 rfl rfl)
  have y0 := sized_rows hsz (j := 0) (t := 22) rfl rfl sl22 h0
  obtain ⟨ls0, R0, hi0⟩ := open_rows sl22 leaves49 rfl y0 h0
  obtain ⟨xs0, rfl, hx0⟩ := list_of geOf ls0 hi0
  clear hA0 hval0 hsz0 hsz
  refine (law_GridCandidates W (rdF hL) _ _ _ xs0 R0 hx0).mono fun e W' ⟨v, he, hv, bel⟩ => ?_
  subst he
  subst hv
  exact ⟨_, rfl, _, _, _, [], _, [], hW', trodAll_mk1 (shut_bool Tryd.underlying4 _), (trodAll_cons_mk (Below.trod laidOut (by kernel_rfl) (of_decide_eq_true (by kernel_rfl)) k0 bel lt0) trodAll_mk0), rfl, bel.frame _, fun h => by cases h⟩
theorem over : Rows.gridCandidatesRow.holds Tryd.pinned (OpenSpec.ofChange Rows.gridCandidatesSpec) :=
  OpenClaim.holds_of_wide 4 Tryd.f4 rfl rfl rfl rfl rfl rfl rfl ⟨rfl, rfl, rfl, rfl, rfl⟩ rfl rfl rfl rfl rfl (by kernel_rfl) Tryd.func4 (by kernel_rfl)
    (of_decide_eq_true (by kernel_rfl)) (by unfold Func.isWrapper; first | (rw [if_pos (by decide +kernel)]; kernel_rfl) | (rw [if_neg (by decide +kernel)]; exact ⟨rfl, rfl⟩))
    (fun os started H enc _ => lifted os started H enc)
end gridCandidates
theorem gridCandidates_holds : Rows.GridCandidatesSaid := gridCandidates.over
#print axioms gridCandidates_holds
theorem gridCandidates_card : Rows.GridCandidatesCardSaid :=
  Claim7.holds_tied_plain_at .later [] [.data] true (true, "c18748f09deabc37e04f3531794e452193763da30ff121f71e5b9410b62debd6") false
    gridCandidates_holds (fun _ h => by cases h) (by kernel_rfl) (fun _ h => by cases h) gridCandidates_row_tie rfl ⟨rfl, rfl⟩ (by kernel_rfl) rfl
    (fun f fn hf hfn => by
      obtain rfl : f = 4 := Option.some.inj ((show Tryd.prog.funcNamed "billiard/billiardlaw10.GridCandidates" = some 4 by kernel_rfl).symm.trans hf) |>.symm
      obtain rfl : fn = Tryd.f4 := (Option.some.inj (Tryd.func4.symm.trans hfn)).symm
      exact ⟨by kernel_rfl, fun j t ht => by
        rw [Tryd.params4] at ht
        have hm : t ∈ [22] := by simpa using Array.mem_of_getElem? ht
        have hall : ([22].all fun u => !Tryd.prog.wantsStandIn u) = true := by kernel_rfl
        exact (show Tryd.prog.wantsStandIn t = false by simpa using List.all_eq_true.1 hall t hm)⟩)
    (by kernel_rfl)
#print axioms gridCandidates_card

end Go.Proofs.YtjbhobahebebkaaDoor
