import Derived.Test.YtjbhobahebebkaaDoorK5
import Derived.Test.YtjbhobahebebkaaDoorK25
import Derived.Test.YtjbhobahebebkaaDoorRows
import Derived.Test.YtjbhobahebebkaaDoorK26
import Derived.Test.YtjbhobahebebkaaDoorTie
import Derived.Test.YtjbhobahebebkaaDoorCards
import Derived.WalkKit
import Derived.ProofKit
import Derived.OpenShut
import Derived.ShutString
import Derived.ChangeOld
import Derived.Below
import Derived.SizedLaws
/- Walks of Go functions over the frame of this claim: what each computes, for every input of the stated types (LGridMore). -/
set_option linter.unusedVariables false
set_option linter.unusedSimpArgs false
set_option linter.unnecessarySimpa false
namespace Go.Proofs.YtjbhobahebebkaaDoor
open Go.Bil
open Go.RowKit (Below)
open Go.Proofs

set_option maxHeartbeats 16000000 in
theorem law_GridMore (w : World) (F : Rd w 2 (some ⟨0, 0, none⟩) 1 [[.int .u32 73856093, .int .u32 19349663]]) (A : Option Addr) (n c : Nat) (es : List GE) (R : Rd w 5 A n (es.map geCells)) (hes : ∀ x ∈ es, Okx x.2) (x : GE) (hx : Okx x.2) :
    Calls Tryd.prog 7 #[.slice A n c, .agg (geCells x).toArray] w (fun ex w' => ∃ v, ex = .returned v ∧ (fun v w' => v = .bool true ∧ Below w.heap.size w w') v w') := by
  have hlen : es.length = n := by simpa using R.len
  have hbd := R.bound
  refine calls_of_W #[.tmp 4] 77 Tryd.func7 rfl Tryd.results7 Tryd.ntmps7 rfl ?_
  have M0 := Mem.refl w
  refine W_seq ?_
  refine W_region ?_
  refine wl_box (.agg (List.toArray _)) M0 rfl rfl rfl (fun b1 w1 M1 => ?_)
  refine wl_q (r_assign (.bool false) rfl) rfl rfl ?_
  refine wl_nil ?_
  refine thenN ?_
  refine W_seq ?_
  refine W_seq ?_
  refine W_region ?_
  refine wl_cal cal8 rfl rfl rfl ?_
  refine (aw10 _ (F.mem M1)).mono ?_
  rintro _ w2 ⟨v2, rfl, ⟨rfl, hb2⟩⟩
  refine ⟨_, rfl, ?_⟩
  have M2 := M1.callB hb2
  refine wl_q (r_notB false rfl rfl) rfl rfl ?_
  refine wl_q (r_move (.bool false) rfl) rfl rfl ?_
  refine wl_q (r_move (.slice _ _ _) rfl) rfl rfl ?_
  refine wl_cal cal9 rfl rfl rfl ?_
  refine (ref10_Few _ _ _ _ es (R.mem M2) hes).mono ?_
  rintro _ w3 ⟨v3, rfl, ⟨z, rfl, hzz, hb3⟩⟩
  refine ⟨_, rfl, ?_⟩
  have M3 := M2.callB hb3
  refine wl_q (r_notB _ rfl rfl) rfl rfl ?_
  refine wl_q (r_pick false (.bool _) rfl rfl) rfl rfl ?_
  refine wl_q (r_move (.bool _) rfl) rfl rfl ?_
  refine wl_split 17 _ rfl (fun g17 => ?_) (fun g17 => ?_)
  · skip
    refine wl_skip rfl rfl ?_
    refine wl_skip rfl rfl ?_
    refine wl_skip rfl rfl ?_
    refine wl_skip rfl rfl ?_
    refine wl_q (r_pick true (.bool true) rfl rfl) rfl rfl ?_
    refine wl_nil ?_
    refine thenN ?_
    refine W_condT rfl ?_
    refine W_seq ?_
    refine W_region ?_
    refine wl_cal cal8 rfl rfl rfl ?_
    refine (aw10 _ (F.mem M3)).mono ?_
    rintro _ w4 ⟨v4, rfl, ⟨rfl, hb4⟩⟩
    refine ⟨_, rfl, ?_⟩
    have M4 := M3.callB hb4
    refine wl_q (r_assign (.bool true) rfl) rfl rfl ?_
    refine wl_nil ?_
    refine thenN ?_
    refine W_ret ?_
    refine thenR ?_
    skip
    refine fin1 (.bool true) rfl ?_
    exact ⟨rfl, M4.below⟩
  · skip
    refine wl_q (r_ldW 0 agg49 M3 rfl rfl rfl) rfl rfl ?_
    refine wl_bslice [.agg (List.toArray _)] [geCells x] rfl sl22 M3 rfl rfl rfl rfl (lens_of rfl) (by decide) (fun b5 w5 M5 => ?_)
    have hlit19 := rowLit (T := 49) (b := b5) (nn := 1) (([x] : List GE).map geCells) (ges_len _) rfl (by decide)
    refine wl_cal cal9 rfl rfl rfl ?_
    refine (ref10_Few _ _ _ _ [x] (hlit19.rd M5 (nthMem (i := 1) rfl)) (by intro y hy; rw [List.mem_singleton] at hy; subst hy; exact hx)).mono ?_
    rintro _ w6 ⟨v6, rfl, ⟨z2, rfl, hzz2, hb6⟩⟩
    refine ⟨_, rfl, ?_⟩
    have M6 := M5.callB hb6
    refine wl_q (r_notB _ rfl rfl) rfl rfl ?_
    refine wl_q (r_pick false (.bool _) rfl rfl) rfl rfl ?_
    refine wl_nil ?_
    refine thenN ?_
    refine W_cond _ rfl (fun h22 => ?_) (fun h22 => ?_)
    · skip
      refine W_seq ?_
      refine W_region ?_
      refine wl_cal cal8 rfl rfl rfl ?_
      refine (aw10 _ (F.mem M6)).mono ?_
      rintro _ w7 ⟨v7, rfl, ⟨rfl, hb7⟩⟩
      refine ⟨_, rfl, ?_⟩
      have M7 := M6.callB hb7
      refine wl_q (r_assign (.bool true) rfl) rfl rfl ?_
      refine wl_nil ?_
      refine thenN ?_
      refine W_ret ?_
      refine thenR ?_
      skip
      refine fin1 (.bool true) rfl ?_
      exact ⟨rfl, M7.below⟩
    · skip
      have hn40 : n ≤ 40 := hzz (by simp_all)
      have hnn : es.length * es.length ≤ 40 * 40 := Nat.mul_le_mul (by omega) (by omega)
      have hnm : (es ++ [x]).length * (es ++ [x]).length ≤ 41 * 41 := Nat.mul_le_mul (by simp; omega) (by simp; omega)
      refine W_skip ?_
      refine thenN ?_
      refine W_seq ?_
      refine W_region ?_
      refine wl_alloc zeroGr M6 rfl rfl (fun b8 w8 M8 => ?_)
      have M9 := Mem.gridNew (L := [_, _]) M8
      refine wl_nil ?_
      refine thenN ?_
      refine W_seq ?_
      refine W_region ?_
      refine wl_q (r_move (.slice _ _ _) rfl) rfl rfl ?_
      refine wl_cal cal10 rfl rfl rfl ?_
      refine (law10_fill _ (F.mem M9) b8 (List.replicate 1024 nilRow) 0 noG (grid_noG 42) (by omega) (fun j => by simp [noG]) _ _ _ es (R.mem M9) hes (by omega) (Mem.ownTail (L := [_, _]) M9) (Mem.awayTail (L := [_, _]) M9 F) (Mem.awayTail (L := [_, _]) M9 R)).mono ?_
      rintro _ w10 ⟨v10, rfl, ⟨rfl, rs1, hG1, hM10⟩⟩
      refine ⟨_, rfl, ?_⟩
      have M10 : Mem _ _ ([_, _] ++ _) _ := Mem.tail (L := [_, _]) M9 hM10
      refine wl_nil ?_
      refine thenN ?_
      refine W_seq ?_
      refine W_region ?_
      refine wl_cal cal13 rfl rfl rfl ?_
      refine (grid_Candidates _ b8 rs1 (0 + ((n : Nat) : Int)) (fillG es noG) (show GridRows 42 rs1 (fillG es noG) from hG1).len (Mem.gridRd (show Mem _ _ ([_, _] ++ _) _ from M10) (show GridRows 42 rs1 (fillG es noG) from hG1).len) (fun j r hr => Mem.rowRd (show Mem _ _ ([_, _] ++ _) _ from M10) (show GridRows 42 rs1 (fillG es noG) from hG1) j r hr) (es.map (·.1)) (keys_fill es) (by first | (simp; done) | (simp; omega))).mono ?_
      rintro _ w11 ⟨v11, rfl, ⟨r, psr, hascr, hpsr, rfl, hr, hM11⟩⟩
      refine ⟨_, rfl, ?_⟩
      have M11 : Mem _ _ ([_, _, _] ++ _) _ := Mem.front (L := [_, _]) (M10.call0 hM11)
      have hcdr : ∀ z, z ∈ psr ↔ candP es z := fun z => (hpsr z).trans cand_fill
      have hfwr := cand_few hascr hcdr
      have hlnr : psr.length = r.n := by simpa using hr.1
      refine wl_q (r_assign (.slice _ _ _) rfl) rfl rfl ?_
      refine wl_nil ?_
      refine thenN ?_
      refine W_seq ?_
      refine W_region ?_
      refine wl_q (r_ldW 0 agg49 M11 rfl rfl rfl) rfl rfl ?_
      refine wl_bslice [.agg (List.toArray _)] [geCells x] rfl sl22 M11 rfl rfl rfl rfl (lens_of rfl) (by decide) (fun b12 w12 M12 => ?_)
      have M13 : Mem _ _ ([_, _, _, _] ++ _) _ := Mem.front (L := [_, _, _]) M12
      have hlit28 := rowLit (T := 49) (b := b12) (nn := 1) (([x] : List GE).map geCells) (ges_len _) rfl (by decide)
      refine wl_cal cal10 rfl rfl rfl ?_
      refine (law10_fill _ (F.mem M13) b8 rs1 (0 + ((n : Nat) : Int)) (fillG es noG) hG1 (by omega) (fun j => by have h1 := fill_len es j; omega) _ _ _ [x] (hlit28.rd M13 (nthMem (i := 3) rfl)) (by intro y hy; rw [List.mem_singleton] at hy; subst hy; exact hx) (by omega) (Mem.ownTail (L := [_, _, _, _]) M13) (Mem.awayTail (L := [_, _, _, _]) M13 F) (Mem.awayOwnT (L := [_, _, _, _]) M13 (nthMem (i := 3) rfl))).mono ?_
      rintro _ w14 ⟨v14, rfl, ⟨rfl, rs2, hG2, hM14⟩⟩
      refine ⟨_, rfl, ?_⟩
      have M14 : Mem _ _ ([_, _, _, _] ++ _) _ := Mem.tail (L := [_, _, _, _]) M13 hM14
      rw [fillG_app] at hG2
      refine wl_nil ?_
      refine thenN ?_
      refine W_seq ?_
      refine W_region ?_
      refine wl_cal cal13 rfl rfl rfl ?_
      refine (grid_Candidates _ b8 rs2 ((0 + ((n : Nat) : Int)) + ((1 : Nat) : Int)) (fillG (es ++ [x]) noG) (show GridRows 42 rs2 (fillG (es ++ [x]) noG) from hG2).len (Mem.gridRd (show Mem _ _ ([_, _, _, _] ++ _) _ from M14) (show GridRows 42 rs2 (fillG (es ++ [x]) noG) from hG2).len) (fun j r hr => Mem.rowRd (show Mem _ _ ([_, _, _, _] ++ _) _ from M14) (show GridRows 42 rs2 (fillG (es ++ [x]) noG) from hG2) j r hr) ((es ++ [x]).map (·.1)) (keys_fill (es ++ [x])) (by first | (simp; done) | (simp; omega))).mono ?_
      rintro _ w15 ⟨v15, rfl, ⟨s, pss, hascs, hpss, rfl, hs, hM15⟩⟩
      refine ⟨_, rfl, ?_⟩
      have M15 : Mem _ _ ([_, _, _, _, _] ++ _) _ := Mem.front (L := [_, _, _, _]) (M14.call0 hM15)
      have hcds : ∀ z, z ∈ pss ↔ candP (es ++ [x]) z := fun z => (hpss z).trans cand_fill
      have hfws := cand_few hascs hcds
      have hlns : pss.length = s.n := by simpa using hs.1
      refine wl_q (r_assign (.slice _ _ _) rfl) rfl rfl ?_
      refine wl_nil ?_
      refine thenN ?_
      refine W_seq ?_
      refine W_seq ?_
      refine W_region ?_
      refine wl_q (r_assign (.int _ _) rfl) rfl rfl ?_
      refine wl_nil ?_
      refine thenN ?_
      refine W_block ?_
      refine W_loop (σ := Nat) [3, 6, 7] (fun k => [(8, .int .i64 (k : Int))]) (fun k w' => k ≤ r.n ∧ Mem w [] ([(some b1, bc (geCells x) 49), (some b5, bc (([x] : List GE).map geCells).flatten 49), r.e, (some b12, bc (([x] : List GE).map geCells).flatten 49), s.e] ++ ((some b8, bc (gcells rs2 ((0 + ((n : Nat) : Int)) + ((1 : Nat) : Int))) 30) :: rs2.map Row.e)) w') (fun k => r.n - k) 0 (agC rfl agN) (⟨by omega, M15⟩) ?_
      rintro k ρ16 w16 ⟨hk, hM16⟩
      refine W_seq ?_
      refine W_seq ?_
      refine W_region ?_
      refine wl_q (r_move (.int _ _) rfl) rfl rfl ?_
      refine wl_q (r_move (.slice _ _ _) rfl) rfl rfl ?_
      refine wl_q (r_lenS Tryd.underlying35 rfl) rfl rfl ?_
      refine wl_q (r_bin (.bool (decide _)) rfl rfl rfl) rfl rfl ?_
      refine wl_nil ?_
      refine thenN ?_
      refine W_condD rfl (fun h34 => ?_) (fun h34 => ?_)
      · skip
        obtain ⟨p, hp⟩ := getSome (xs := psr) (k := k) hlnr (by omega)
        refine W_skip ?_
        refine thenN ?_
        refine W_seq ?_
        refine W_block ?_
        refine W_seq ?_
        refine W_region ?_
        refine wl_q (r_move (.slice _ _ _) rfl) rfl rfl ?_
        refine wl_q (r_move (.slice _ _ _) rfl) rfl rfl ?_
        refine wl_q (r_move (.int _ _) rfl) rfl rfl ?_
        refine wl_q (r_idxR (k) sl35 rfl rfl rfl ((hr.rd hM16 (nthMem (i := 2) rfl)).below_len (mapGet pairCells hp)) ((hr.rd hM16 (nthMem (i := 2) rfl)).someK (mapGet pairCells hp))) rfl rfl ?_
        refine wl_q (r_ldEA _ agg44 (hr.rd hM16 (nthMem (i := 2) rfl)) (mapGet pairCells hp) rfl) rfl rfl ?_
        refine wl_cal cal20 rfl rfl rfl ?_
        refine (law10_has _ p _ _ _ pss (hs.rd hM16 (nthMem (i := 4) rfl))).mono ?_
        rintro _ w17 ⟨v17, rfl, ⟨rfl, hb17⟩⟩
        refine ⟨_, rfl, ?_⟩
        have M17 := hM16.callB hb17
        refine wl_re 42 (.bool true) (bT ((hcds _).2 (cand_mono (fun y hy => List.mem_append_left _ hy) ((hcdr _).1 (List.mem_of_getElem? hp))))).symm ?_
        refine wl_q (r_notB false rfl rfl) rfl rfl ?_
        refine wl_nil ?_
        refine thenN ?_
        refine W_condF rfl ?_
        refine W_skip ?_
        refine blkN ?_
        refine thenN ?_
        refine W_region ?_
        refine wl_q (r_move (.int _ _) rfl) rfl rfl ?_
        refine wl_q (r_add rfl rfl (by omega) (by omega)) rfl rfl ?_
        refine wl_q (r_assign (.int _ _) rfl) rfl rfl ?_
        refine wl_nil ?_
        refine roundN (k + 1) (agC rfl agN) (akC rfl (akC rfl (akC rfl akN))) ?_ ?_
        · exact ⟨by omega, M17⟩
        · omega
      · skip
        refine W_exit ?_
        refine thenX ?_
        refine roundX ?_
        refine blkH ?_
        refine thenN ?_
        refine W_seq ?_
        refine W_seq ?_
        refine W_region ?_
        refine wl_q (r_assign (.int _ _) rfl) rfl rfl ?_
        refine wl_nil ?_
        refine thenN ?_
        refine W_block ?_
        refine W_loop (σ := Nat) [3, 6, 7] (fun k2 => [(9, .int .i64 (k2 : Int))]) (fun k2 w' => k2 ≤ s.n ∧ Mem w [] ([(some b1, bc (geCells x) 49), (some b5, bc (([x] : List GE).map geCells).flatten 49), r.e, (some b12, bc (([x] : List GE).map geCells).flatten 49), s.e] ++ ((some b8, bc (gcells rs2 ((0 + ((n : Nat) : Int)) + ((1 : Nat) : Int))) 30) :: rs2.map Row.e)) w') (fun k2 => s.n - k2) 0 (agC rfl agN) (⟨by omega, hM16⟩) ?_
        rintro k2 ρ18 w18 ⟨hk2, hM18⟩
        refine W_seq ?_
        refine W_seq ?_
        refine W_region ?_
        refine wl_q (r_move (.int _ _) rfl) rfl rfl ?_
        refine wl_q (r_move (.slice _ _ _) rfl) rfl rfl ?_
        refine wl_q (r_lenS Tryd.underlying35 rfl) rfl rfl ?_
        refine wl_q (r_bin (.bool (decide _)) rfl rfl rfl) rfl rfl ?_
        refine wl_nil ?_
        refine thenN ?_
        refine W_condD rfl (fun h47 => ?_) (fun h47 => ?_)
        · skip
          obtain ⟨p, hp⟩ := getSome (xs := pss) (k := k2) hlns (by omega)
          refine W_skip ?_
          refine thenN ?_
          refine W_seq ?_
          refine W_block ?_
          refine W_seq ?_
          refine W_draw [(0, 0), (1, 0), (2, 0), (3, 1), (4, 1), (5, 2), (6, 0), (7, 0), (8, 0), (9, 0), (10, 1), (11, 1), (12, 1), (13, 0), (14, 1), (15, 0), (16, 0), (17, 0), (18, 0), (19, 0), (20, 1), (21, 1), (22, 1), (23, 0), (24, 1), (25, 0), (26, 0)] mixed rfl (by kernel_rfl) (fun w19 hb19 hh19 => ?_)
          have M19 := hM18.drew hb19 hh19
          refine D_p rfl rfl rfl (fun _ => r_move (.slice _ _ _) rfl) ?_
          refine D_p rfl rfl rfl (fun _ => r_move (.slice _ _ _) rfl) ?_
          refine D_p rfl rfl rfl (fun _ => r_move (.int _ _) rfl) ?_
          refine D_r rfl rfl rfl (r_idxR (k2) sl35 rfl rfl rfl ((hs.rd M19 (nthMem (i := 4) rfl)).below_len (mapGet pairCells hp)) ((hs.rd M19 (nthMem (i := 4) rfl)).someK (mapGet pairCells hp))) ?_
          refine D_r rfl rfl rfl (r_ldEA _ agg44 (hs.rd M19 (nthMem (i := 4) rfl)) (mapGet pairCells hp) rfl) ?_
          refine D_e [true, true] rfl (by kernel_rfl) ?_
          refine wl_cal cal20 rfl rfl rfl ?_
          refine (law10_has _ p _ _ _ psr (hr.rd M19 (nthMem (i := 2) rfl))).mono ?_
          rintro _ w20 ⟨v20, rfl, ⟨rfl, hb20⟩⟩
          refine ⟨_, rfl, ?_⟩
          have M20 := M19.callB hb20
          refine wl_nil (thenN ⟨alN, ?_⟩)
          refine D_p rfl rfl rfl (fun _ => r_not rfl) ?_
          refine D_p rfl rfl rfl (fun _ => r_move (.bool (decide _)) rfl) ?_
          refine D_splitD 57 rfl (fun g57 => ?_) (fun g57 => ?_)
          · skip
            refine D_p rfl rfl rfl (fun _ => r_move (.slice _ _ _) rfl) ?_
            refine D_p rfl rfl rfl (fun _ => r_move (.int _ _) rfl) ?_
            refine D_r rfl rfl rfl (r_idxR (k2) sl35 rfl rfl rfl ((hs.rd M20 (nthMem (i := 4) rfl)).below_len (mapGet pairCells hp)) ((hs.rd M20 (nthMem (i := 4) rfl)).someK (mapGet pairCells hp))) ?_
            refine D_r rfl rfl rfl (r_fieldAddrE 0 fld44_0 (hs.rd M20 (nthMem (i := 4) rfl)) (Nat.lt_of_le_of_lt (Nat.zero_le _) ((hs.rd M20 (nthMem (i := 4) rfl)).below_len (mapGet pairCells hp))) rfl) ?_
            refine D_r rfl rfl rfl (r_ldE (o := 0) (.int _ _) one42 (hs.rd M20 (nthMem (i := 4) rfl)) (mapGet pairCells hp) rfl rfl) ?_
            refine D_p rfl rfl rfl (fun _ => r_fieldAddr 0 fld49_0 rfl) ?_
            refine D_r rfl rfl rfl (r_ld 0 (.int _ _) one42 M20 rfl rfl rfl) ?_
            refine D_p rfl rfl rfl (fun _ => r_bin (.bool (decide _)) rfl rfl rfl) ?_
            refine D_p rfl rfl rfl (fun _ => r_pick true (.bool (decide _)) rfl rfl) ?_
            refine D_p rfl rfl rfl (fun _ => r_move (.bool (decide _)) rfl) ?_
            refine D_splitD 67 rfl (fun g67 => ?_) (fun g67 => ?_)
            · skip
              have hnw := cand_more (x := x) ((hcds _).1 (List.mem_of_getElem? hp)) (fun h => g57 ((hcdr _).2 h))
              refine D_p rfl rfl rfl (fun _ => r_move (.slice _ _ _) rfl) ?_
              refine D_p rfl rfl rfl (fun _ => r_move (.int _ _) rfl) ?_
              refine D_r rfl rfl rfl (r_idxR (k2) sl35 rfl rfl rfl ((hs.rd M20 (nthMem (i := 4) rfl)).below_len (mapGet pairCells hp)) ((hs.rd M20 (nthMem (i := 4) rfl)).someK (mapGet pairCells hp))) ?_
              refine D_r rfl rfl rfl (r_fieldAddrE 1 fld44_1 (hs.rd M20 (nthMem (i := 4) rfl)) (Nat.lt_of_le_of_lt (Nat.zero_le _) ((hs.rd M20 (nthMem (i := 4) rfl)).below_len (mapGet pairCells hp))) rfl) ?_
              refine D_r rfl rfl rfl (r_ldE (o := 1) (.int _ _) one42 (hs.rd M20 (nthMem (i := 4) rfl)) (mapGet pairCells hp) rfl rfl) ?_
              refine D_p rfl rfl rfl (fun _ => r_fieldAddr 0 fld49_0 rfl) ?_
              refine D_r rfl rfl rfl (r_ld 0 (.int _ _) one42 M20 rfl rfl rfl) ?_
              refine D_p rfl rfl rfl (fun _ => r_bin (.bool (decide _)) rfl rfl rfl) ?_
              refine D_re 75 (.bool false) (bF (by omega)).symm ?_
              refine D_p rfl rfl rfl (fun _ => r_pick true (.bool false) rfl rfl) ?_
              refine D_nil ?_
              refine thenN ?_
              refine W_condF rfl ?_
              refine W_skip ?_
              refine blkN ?_
              refine thenN ?_
              refine W_region ?_
              refine wl_q (r_move (.int _ _) rfl) rfl rfl ?_
              refine wl_q (r_add rfl rfl (by omega) (by omega)) rfl rfl ?_
              refine wl_q (r_assign (.int _ _) rfl) rfl rfl ?_
              refine wl_nil ?_
              refine roundN (k2 + 1) (agC rfl agN) (akC rfl (akC rfl (akC rfl akN))) ?_ ?_
              · exact ⟨by omega, M20⟩
              · omega
            · skip
              refine D_s rfl rfl rfl ?_
              refine D_s rfl rfl rfl ?_
              refine D_s1 rfl rfl rfl ?_
              refine D_s1 rfl rfl rfl ?_
              refine D_s1 rfl rfl rfl ?_
              refine D_s rfl rfl rfl ?_
              refine D_s1 rfl rfl rfl ?_
              refine D_s rfl rfl rfl ?_
              refine D_p rfl rfl rfl (fun _ => r_pick false (.bool false) rfl rfl) ?_
              refine D_nil ?_
              refine thenN ?_
              refine W_condF rfl ?_
              refine W_skip ?_
              refine blkN ?_
              refine thenN ?_
              refine W_region ?_
              refine wl_q (r_move (.int _ _) rfl) rfl rfl ?_
              refine wl_q (r_add rfl rfl (by omega) (by omega)) rfl rfl ?_
              refine wl_q (r_assign (.int _ _) rfl) rfl rfl ?_
              refine wl_nil ?_
              refine roundN (k2 + 1) (agC rfl agN) (akC rfl (akC rfl (akC rfl akN))) ?_ ?_
              · exact ⟨by omega, M20⟩
              · omega
          · skip
            refine D_s rfl rfl rfl ?_
            refine D_s rfl rfl rfl ?_
            refine D_s1 rfl rfl rfl ?_
            refine D_s1 rfl rfl rfl ?_
            refine D_s1 rfl rfl rfl ?_
            refine D_s rfl rfl rfl ?_
            refine D_s1 rfl rfl rfl ?_
            refine D_s rfl rfl rfl ?_
            refine D_p rfl rfl rfl (fun _ => r_pick false (.bool false) rfl rfl) ?_
            refine D_p rfl rfl rfl (fun _ => r_move (.bool false) rfl) ?_
            refine D_s rfl rfl rfl ?_
            refine D_s rfl rfl rfl ?_
            refine D_s1 rfl rfl rfl ?_
            refine D_s1 rfl rfl rfl ?_
            refine D_s1 rfl rfl rfl ?_
            refine D_s rfl rfl rfl ?_
            refine D_s1 rfl rfl rfl ?_
            refine D_s rfl rfl rfl ?_
            refine D_p rfl rfl rfl (fun _ => r_pick false (.bool false) rfl rfl) ?_
            refine D_nil ?_
            refine thenN ?_
            refine W_condF rfl ?_
            refine W_skip ?_
            refine blkN ?_
            refine thenN ?_
            refine W_region ?_
            refine wl_q (r_move (.int _ _) rfl) rfl rfl ?_
            refine wl_q (r_add rfl rfl (by omega) (by omega)) rfl rfl ?_
            refine wl_q (r_assign (.int _ _) rfl) rfl rfl ?_
            refine wl_nil ?_
            refine roundN (k2 + 1) (agC rfl agN) (akC rfl (akC rfl (akC rfl akN))) ?_ ?_
            · exact ⟨by omega, M20⟩
            · omega
        · skip
          refine W_exit ?_
          refine thenX ?_
          refine roundX ?_
          refine blkH ?_
          refine thenN ?_
          refine W_seq ?_
          refine W_region ?_
          refine wl_q (r_assign (.bool true) rfl) rfl rfl ?_
          refine wl_nil ?_
          refine thenN ?_
          refine W_ret ?_
          skip
          refine fin1 (.bool true) rfl ?_
          exact ⟨rfl, hM18.below⟩

end Go.Proofs.YtjbhobahebebkaaDoor

set_option linter.unusedVariables false
set_option linter.unusedSimpArgs false
set_option linter.unnecessarySimpa false
namespace Go.Proofs.YtjbhobahebebkaaDoor
open Go.Bil
open Go.RowKit (Below)
open Go.Proofs

namespace gridMore
open Go.ChangeShapes Go.WideShapes Go.ChangeAt Go.RowKit
open Go.ChangeMaps (open_string shut_string)
theorem own : ownKnob Tryd.prog.godebug = none := by kernel_rfl
theorem laidOut : laidOutB Tryd.prog = true := by kernel_rfl
set_option maxRecDepth 100000 in
theorem lifted (os : Os) (started : os.Started) (H : Type) (enc : TypeId × Value → H) :
    ReturnsInHanded {} Tryd.checked os 7 .any (fun w args => (Rows.gridMoreSpec.pre enc Tryd.prog Tryd.f7 [] false w args ∧ laidMet Tryd.prog laidL w) ∧ sizedMet enc Tryd.prog Tryd.f7 (OpenSpec.ofChange Rows.gridMoreSpec) false w args) (Rows.gridMoreSpec.post enc Tryd.prog Tryd.f7 false true false false) := by
  refine returnsInHanded_of_change_and (C := Tryd.checked) (X := fun w _ => laidMet Tryd.prog laidL w) (fun _ _ _ hh h => h.of_heap hh) own started (by kernel_rfl) Tryd.func7
    (ChangeSpec.witness_at (enc := enc) (C := Tryd.checked) (os := os) (X := fun w _ => laidMet Tryd.prog laidL w) false (laidWorld os) #[.slice none 0 0, (.agg #[.int .u32 0, .int .i32 0, .int .i32 0, .int .i32 0, .int .i32 0])] 8 rfl (by kernel_rfl) (by kernel_rfl) (by kernel_rfl) (by kernel_rfl) (by kernel_rfl) (laidMet_of_run' 8 (by kernel_rfl) (by kernel_rfl))) ?_
  intro W base args ds gs before hval0 hW hcnd hsz0 hL _
  have hsz : (DataW.weightsEach Tryd.prog (Tryd.f7.params.toList ++ Rows.gridMoreSpec.plain.varTypes Tryd.prog) (ds ++ gs)).all (· ≤ reachBytes) = true := hsz0
  have hval : ∀ (j : Nat) t v, Tryd.f7.params[j]? = some t → args[j]? = some v → Value.okWide Tryd.prog W .any base t v := hval0
  have hW' := hW
  obtain ⟨p, q, hA0, hV, rfl, hfz, hnd⟩ := hW
  have hA : DataW.TrodAll enc Tryd.prog W 0 (fun _ => true) true Tryd.f7.params.toList args.toList ds p := hA0
  rw [Tryd.params7] at hA hval hsz
  obtain ⟨v0, vs0, d0, ds0, p0, q0, hargs, rfl, rfl, h0, r0⟩ := trodAll_cons hA
  obtain ⟨v1, vs1, d1, ds1, p1, q1, rfl, rfl, rfl, h1, r1⟩ := trodAll_cons r0
  obtain ⟨rfl, rfl, rfl⟩ := trodAll_nil r1
  obtain rfl : args = #[v0, v1] := by cases args; simp_all
  obtain ⟨rfl, rfl⟩ := trodVars_none hV
  have k0 := h0
  have lt0 : ∀ x ∈ p0, x.block < W.heap.size := by obtain ⟨m, hm⟩ := k0; exact DataW.trod_lt m _ _ _ hm
  obtain ⟨a0, len0, cap0, rfl⟩ := okWide_slice Tryd.underlying22 (hval 0 22 v0 rfl rfl)
  have y0 := sized_rows hsz (j := 0) (t := 22) rfl rfl sl22 h0
  obtain ⟨ls0, R0, hi0⟩ := open_rows sl22 leaves49 rfl y0 h0
  obtain ⟨xs0, rfl, hx0⟩ := list_of geOf ls0 hi0
  have k1 := h1
  have lt1 : ∀ x ∈ p1, x.block < W.heap.size := by obtain ⟨m, hm⟩ := k1; exact DataW.trod_lt m _ _ _ hm
  obtain ⟨cs1, rfl, hi1⟩ := okWide_agg agg49 leaves49 rfl rfl h1
  obtain ⟨x1, rfl, hx1⟩ := geOf _ hi1
  clear hA0 hval0 hsz0 hsz
  refine (law_GridMore W (rdF hL) _ _ _ xs0 R0 hx0 x1 hx1).mono fun e W' ⟨v, he, hv, bel⟩ => ?_
  subst he
  subst hv
  exact ⟨_, rfl, _, _, _, [], _, [], hW', trodAll_mk1 (shut_bool Tryd.underlying4 _), (trodAll_cons_mk (Below.trod laidOut (by kernel_rfl) (of_decide_eq_true (by kernel_rfl)) k0 bel lt0) (trodAll_cons_mk (Below.trod laidOut (by kernel_rfl) (of_decide_eq_true (by kernel_rfl)) k1 bel lt1) trodAll_mk0)), rfl, bel.frame _, fun h => by cases h⟩
theorem over : Rows.gridMoreRow.holds Tryd.pinned (OpenSpec.ofChange Rows.gridMoreSpec) :=
  OpenClaim.holds_of_wide 7 Tryd.f7 rfl rfl rfl rfl rfl rfl rfl ⟨rfl, rfl, rfl, rfl, rfl⟩ rfl rfl rfl rfl rfl (by kernel_rfl) Tryd.func7 (by kernel_rfl)
    (of_decide_eq_true (by kernel_rfl)) (by unfold Func.isWrapper; first | (rw [if_pos (by decide +kernel)]; kernel_rfl) | (rw [if_neg (by decide +kernel)]; exact ⟨rfl, rfl⟩))
    (fun os started H enc _ => lifted os started H enc)
end gridMore
theorem gridMore_holds : Rows.GridMoreSaid := gridMore.over
#print axioms gridMore_holds
theorem gridMore_card : Rows.GridMoreCardSaid :=
  Claim7.holds_tied_plain_at .later [] [.data] true (true, "c18748f09deabc37e04f3531794e452193763da30ff121f71e5b9410b62debd6") false
    gridMore_holds (fun _ h => by cases h) (by kernel_rfl) (fun _ h => by cases h) gridMore_row_tie rfl ⟨rfl, rfl⟩ (by kernel_rfl) rfl
    (fun f fn hf hfn => by
      obtain rfl : f = 7 := Option.some.inj ((show Tryd.prog.funcNamed "billiard/billiardlaw10.GridMore" = some 7 by kernel_rfl).symm.trans hf) |>.symm
      obtain rfl : fn = Tryd.f7 := (Option.some.inj (Tryd.func7.symm.trans hfn)).symm
      exact ⟨by kernel_rfl, fun j t ht => by
        rw [Tryd.params7] at ht
        have hm : t ∈ [22, 49] := by simpa using Array.mem_of_getElem? ht
        have hall : ([22, 49].all fun u => !Tryd.prog.wantsStandIn u) = true := by kernel_rfl
        exact (show Tryd.prog.wantsStandIn t = false by simpa using List.all_eq_true.1 hall t hm)⟩)
    (by kernel_rfl)
#print axioms gridMore_card

end Go.Proofs.YtjbhobahebebkaaDoor
