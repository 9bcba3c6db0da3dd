/- Walks of Go functions over the frame of this claim: what each computes, for every input of the stated types (LPairsLonely). -/
import Derived.Test.YtfgbmegchdjfeaaDoorTy
import Derived.Test.YtfgbmegchdjfeaaDoorAw11
import Derived.Test.YtfgbmegchdjfeaaDoorMdR
set_option linter.unusedVariables false
set_option linter.unusedSimpArgs false
set_option linter.unnecessarySimpa false
namespace Go.Proofs.YtfgbmegchdjfeaaDoor
open Go.Bil
open Go.RowKit (Below)
open Go.Proofs

set_option maxHeartbeats 16000000 in
theorem law_PairsLonely (w : World) (F : Rd w 2 (some ⟨0, 0, none⟩) 1 [[.int .u32 73856093, .int .u32 19349663]]) (N : Rd w 4 (some ⟨1, 0, none⟩) 1 [bxCells noneB]) (f : Nat) (hf : f ≤ 255) (A : Option Addr) (n c : Nat) (xs : List Body) (R : Rd w 10 A n (xs.map bodyCells)) :
    Calls Tryd.prog 5 #[.slice A n c, .int .u8 (f : Int)] w (fun ex w' => ∃ v, ex = .returned v ∧ (fun v w' => v = .bool true ∧ Below w.heap.size w w') v w') := by
  have hlen : xs.length = n := by simpa using R.len
  have hbd := R.bound
  refine calls_of_W #[.tmp 4] 110 Tryd.func5 rfl Tryd.results5 Tryd.ntmps5 rfl ?_
  have M0 := Mem.refl w
  refine W_seq ?_
  refine W_region ?_
  refine wl_q (r_assign (.bool false) rfl) rfl rfl ?_
  refine wl_nil ?_
  refine thenN ?_
  refine W_seq ?_
  refine W_region ?_
  refine wl_q (r_move (.slice _ _ _) rfl) rfl rfl ?_
  refine wl_cal cal10 rfl rfl rfl ?_
  refine (ref11_View _ _ _ _ xs (R.mem M0)).mono ?_
  rintro _ w1 ⟨v1, rfl, ⟨r, rfl, hr, hM1⟩⟩
  refine ⟨_, rfl, ?_⟩
  have M1 : Mem _ _ [_] _ := M0.call0 hM1
  refine wl_q (r_move (.tuple (List.toArray _)) rfl) rfl rfl ?_
  refine wl_q (r_ext (.slice _ _ _) rfl rfl) rfl rfl ?_
  refine wl_q (r_ext (.bool (decide _)) rfl rfl) rfl rfl ?_
  refine wl_q (r_assign (.slice _ _ _) rfl) rfl rfl ?_
  refine wl_q (r_assign (.bool (decide _)) rfl) rfl rfl ?_
  refine wl_nil ?_
  refine thenN ?_
  refine W_seq ?_
  refine W_seq ?_
  refine W_region ?_
  refine wl_cal cal11 rfl rfl rfl ?_
  refine (aw11 _ (F.mem M1) (N.mem M1)).mono ?_
  rintro _ w2 ⟨v2, rfl, ⟨rfl, hb2⟩⟩
  refine ⟨_, rfl, ?_⟩
  have M2 := M1.callB hb2
  refine wl_q (r_notB false rfl rfl) rfl rfl ?_
  refine wl_q (r_move (.bool false) rfl) rfl rfl ?_
  refine wl_q (r_move (.bool (decide _)) rfl) rfl rfl ?_
  refine wl_q (r_not rfl) rfl rfl ?_
  refine wl_q (r_pick false (.bool (decide _)) rfl rfl) rfl rfl ?_
  refine wl_q (r_move (.bool (decide _)) rfl) rfl rfl ?_
  refine wl_splitD 25 rfl (fun g25 => ?_) (fun g25 => ?_)
  · skip
    refine wl_skip rfl rfl ?_
    refine wl_skip rfl rfl ?_
    refine wl_skip rfl rfl ?_
    refine wl_q (r_pick true (.bool true) rfl rfl) rfl rfl ?_
    refine wl_nil ?_
    refine thenN ?_
    refine W_condT rfl ?_
    refine W_seq ?_
    refine W_region ?_
    refine wl_cal cal11 rfl rfl rfl ?_
    refine (aw11 _ (F.mem M2) (N.mem M2)).mono ?_
    rintro _ w3 ⟨v3, rfl, ⟨rfl, hb3⟩⟩
    refine ⟨_, rfl, ?_⟩
    have M3 := M2.callB hb3
    refine wl_q (r_assign (.bool true) rfl) rfl rfl ?_
    refine wl_nil ?_
    refine thenN ?_
    refine W_ret ?_
    refine thenR ?_
    skip
    refine fin1 (.bool true) rfl ?_
    exact ⟨rfl, M3.below⟩
  · skip
    refine wl_q (r_move (.slice _ _ _) rfl) rfl rfl ?_
    refine wl_q (r_lenS Tryd.underlying22 rfl) rfl rfl ?_
    refine wl_q (r_bin (.bool (decide _)) rfl rfl rfl) rfl rfl ?_
    refine wl_q (r_pick false (.bool (decide _)) rfl rfl) rfl rfl ?_
    refine wl_nil ?_
    refine thenN ?_
    refine W_condD rfl (fun h29 => ?_) (fun h29 => ?_)
    · skip
      refine W_seq ?_
      refine W_region ?_
      refine wl_cal cal11 rfl rfl rfl ?_
      refine (aw11 _ (F.mem M2) (N.mem M2)).mono ?_
      rintro _ w4 ⟨v4, rfl, ⟨rfl, hb4⟩⟩
      refine ⟨_, rfl, ?_⟩
      have M4 := M2.callB hb4
      refine wl_q (r_assign (.bool true) rfl) rfl rfl ?_
      refine wl_nil ?_
      refine thenN ?_
      refine W_ret ?_
      refine thenR ?_
      skip
      refine fin1 (.bool true) rfl ?_
      exact ⟨rfl, M4.below⟩
    · skip
      obtain ⟨hV, hve, hvk⟩ := view_of (Decidable.not_not.1 g25)
      have hvl := hV.len
      have hrn : (viewL xs).length = r.n := by simpa using hr.1
      have hvs := hV.s
      have hvo := hV.okb
      obtain ⟨kk, hkk⟩ : ∃ kk : Nat, kk = f % r.n := ⟨_, rfl⟩
      have hkl : kk < r.n := by rw [hkk]; exact Nat.mod_lt _ (by omega)
      obtain ⟨y, hy⟩ := getSome (xs := (viewL xs)) (k := kk) hrn hkl
      have hcap := hr.slice
      refine W_skip ?_
      refine thenN ?_
      refine W_seq ?_
      refine W_region ?_
      refine wl_q (r_move (.int _ _) rfl) rfl rfl ?_
      refine wl_q (r_convK us5 Tryd.underlying3 rfl (w64 _ (by omega) (by omega))) rfl rfl ?_
      refine wl_q (r_move (.slice _ _ _) rfl) rfl rfl ?_
      refine wl_q (r_lenS Tryd.underlying22 rfl) rfl rfl ?_
      refine wl_q (r_rem rfl rfl (by omega)) rfl rfl ?_
      refine wl_re 35 (.int .i64 (kk : Int)) (iE (tmod_nat rfl hkk)) ?_
      refine wl_q (r_assign (.int _ _) rfl) rfl rfl ?_
      refine wl_nil ?_
      refine thenN ?_
      refine W_seq ?_
      refine W_region ?_
      refine wl_q (r_move (.slice _ _ _) rfl) rfl rfl ?_
      refine wl_cal cal12 rfl rfl rfl ?_
      refine (pairs_Find _ (F.mem M2) (N.mem M2) _ _ _ (viewL xs) (hr.rd M2 (nthMem (i := 0) rfl)) hvo hvs (by first | decide | omega)).mono ?_
      rintro _ w5 ⟨v5, rfl, ⟨r0, m0, rfl, hfm0, hgm0, hr0, hM5⟩⟩
      refine ⟨_, rfl, ?_⟩
      have M5 : Mem _ _ [_, _] _ := M2.call0 hM5
      have hfl := hr0.1
      rw [List.length_map] at hfl
      have hfs := findP_small hvl
      refine wl_q (r_move (.tuple (List.toArray _)) rfl) rfl rfl ?_
      refine wl_q (r_ext (.slice _ _ _) rfl rfl) rfl rfl ?_
      refine wl_q (r_ext (.int _ _) rfl rfl) rfl rfl ?_
      refine wl_q (r_assign (.slice _ _ _) rfl) rfl rfl ?_
      refine wl_q (r_assign (.int _ _) rfl) rfl rfl ?_
      refine wl_nil ?_
      refine thenN ?_
      refine W_seq ?_
      refine W_draw [(1, 0), (2, 0), (3, 0), (5, 0), (6, 0), (7, 0), (8, 0), (0, 2), (4, 2), (9, 2), (10, 2), (11, 0), (12, 0), (13, 0), (14, 0), (15, 0)] mixed rfl (by kernel_rfl) (fun w6 hb6 hh6 => ?_)
      have M6 := M5.drew hb6 hh6
      refine D_p rfl rfl rfl (fun _ => r_move (.slice _ _ _) rfl) ?_
      refine D_p rfl rfl rfl (fun _ => r_move (.int _ _) rfl) ?_
      refine D_p rfl rfl rfl (fun _ => r_slice (0) ((kk : Int)) sl22 rfl rfl ⟨_, rfl⟩ (by decide) (by omega) (by omega)) ?_
      refine D_p rfl rfl rfl (fun _ => r_move (.slice _ _ _) rfl) ?_
      refine D_p rfl rfl rfl (fun _ => r_move (.int _ _) rfl) ?_
      refine D_p rfl rfl rfl (fun _ => r_add rfl rfl (by omega) (by omega)) ?_
      refine D_re 49 (.int .i64 ((kk + 1 : Nat) : Int)) (iE (by omega)) ?_
      refine D_p rfl rfl rfl (fun _ => r_slice (((kk + 1 : Nat) : Int)) ((r.n : Int)) sl22 rfl ⟨_, rfl⟩ rfl (by omega) (by omega) (by omega)) ?_
      refine D_e [] rfl (by kernel_rfl) ?_
      refine wl_bslice [] [] rfl sl22 M6 rfl rfl rfl rfl (lens_of rfl) (by decide) (fun b7 w7 M7 => ?_)
      refine wl_nil (thenN ⟨alN, ?_⟩)
      refine D_e [] rfl (by kernel_rfl) ?_
      refine wl_appendR 2 ((((viewL xs).map bodyCells).drop 0).take (kk - 0)) sl22 M7 rfl rfl rfl rfl rfl (RowIs.empty b7) (Rd.sub (hr.rd M7 (nthMem (i := 0) rfl)) 0 kk (by omega) (by omega) hcap) (fun y hy => bodies_one _ y (List.mem_of_mem_drop (List.mem_of_mem_take hy))) (by omega) (fun A8 c8 e8 w8 M8 hR8 hA8 => ?_)
      refine wl_nil (thenN ⟨alN, ?_⟩)
      refine D_e [] rfl (by kernel_rfl) ?_
      refine wl_appendR 2 ((((viewL xs).map bodyCells).drop (kk + 1)).take (r.n - (kk + 1))) sl22 M8 rfl rfl rfl rfl rfl hR8 (Rd.sub (hr.rd M8 (nthMem (i := 0) rfl)) (kk + 1) r.n (by omega) (by omega) hcap) (fun y hy => bodies_one _ y (List.mem_of_mem_drop (List.mem_of_mem_take hy))) (by omega) (fun A9 c9 e9 w9 M9 hR9 hA9 => ?_)
      have hW := hR9
      rw [cut_rows bodyCells hrn hkl] at hW
      have hWl : ((viewL xs).eraseIdx kk).length ≤ 40 := Nat.le_trans (List.length_eraseIdx_le _ _) hvl
      refine wl_nil (thenN ⟨alN, ?_⟩)
      refine D_e [] rfl (by kernel_rfl) ?_
      refine wl_cal cal12 rfl rfl rfl ?_
      refine (pairs_Find _ (F.mem M9) (N.mem M9) _ _ _ ((viewL xs).eraseIdx kk) (hW.rd M9 (nthMem (i := 2) rfl)) (fun b hb => hvo b ((List.eraseIdx_sublist _ _).subset hb)) (erase_sorted hvs kk) (by first | decide | omega)).mono ?_
      rintro _ w10 ⟨v10, rfl, ⟨r4, m4, rfl, hfm4, hgm4, hr4, hM10⟩⟩
      refine ⟨_, rfl, ?_⟩
      have M10 : Mem _ _ [_, _, _, _] _ := M9.call0 hM10
      refine wl_nil (thenN ⟨alN, ?_⟩)
      refine D_p rfl rfl rfl (fun _ => r_move (.tuple (List.toArray _)) rfl) ?_
      refine D_p rfl rfl rfl (fun _ => r_ext (.slice _ _ _) rfl rfl) ?_
      refine D_p rfl rfl rfl (fun _ => r_ext (.int _ _) rfl rfl) ?_
      refine D_p rfl rfl rfl (fun _ => r_assign (.slice _ _ _) rfl) ?_
      refine D_p rfl rfl rfl (fun _ => r_assign (.int _ _) rfl) ?_
      refine D_nil ?_
      refine thenN ?_
      refine W_seq ?_
      refine W_region ?_
      refine wl_q (r_assign (.slice _ _ _) rfl) rfl rfl ?_
      have M11 := M10.dummy default
      refine wl_nil ?_
      refine thenN ?_
      refine W_seq ?_
      refine W_seq ?_
      refine W_region ?_
      refine wl_q (r_assign (.int _ _) rfl) rfl rfl ?_
      refine wl_nil ?_
      refine thenN ?_
      refine W_block ?_
      refine W_loop (σ := Nat × Row) [4, 5, 7, 8, 10] (fun (j, q) => [(12, .slice q.A q.n q.c), (13, .int .i64 (j : Int))]) (fun (j, q) w' => (j ≤ r0.n ∧ RowIs 42 2 q.A q.n q.c ((restP y.key ((findP (viewL xs)).take j)).map pairCells) q.e) ∧ Mem w [] [r.e, r0.e, e9, r4.e, q.e] w') (fun (j, q) => r0.n - j) (0, nilRow) (agC rfl (agC rfl agN)) (⟨⟨by omega, RowIs.nil _ _ _⟩, M11⟩) ?_
      rintro ⟨j, q⟩ ρ12 w12 ⟨⟨hj, hq⟩, hM12⟩
      have hrp := restP_len y.key ((findP (viewL xs)).take j)
      have htl := List.length_take_le j (findP (viewL xs))
      have hql : (restP y.key ((findP (viewL xs)).take j)).length = q.n := by simpa using hq.1
      refine W_seq ?_
      refine W_seq ?_
      refine W_region ?_
      refine wl_q (r_move (.int _ _) rfl) rfl rfl ?_
      refine wl_q (r_move (.slice _ _ _) rfl) rfl rfl ?_
      refine wl_q (r_lenS Tryd.underlying29 rfl) rfl rfl ?_
      refine wl_q (r_bin (.bool (decide _)) rfl rfl rfl) rfl rfl ?_
      refine wl_nil ?_
      refine thenN ?_
      refine W_condD rfl (fun h58 => ?_) (fun h58 => ?_)
      · skip
        obtain ⟨z, hz⟩ := getSome (xs := findP (viewL xs)) (k := j) hfl (by omega)
        refine W_skip ?_
        refine thenN ?_
        refine W_seq ?_
        refine W_block ?_
        refine W_seq ?_
        refine W_draw [(0, 0), (1, 0), (2, 1), (3, 1), (4, 1), (5, 0), (6, 0), (7, 1), (8, 1), (9, 1), (10, 0), (11, 0), (12, 0), (13, 0), (14, 1), (15, 1), (16, 1), (17, 0), (18, 0), (19, 1), (20, 1), (21, 1), (22, 0), (23, 0)] mixed rfl (by kernel_rfl) (fun w13 hb13 hh13 => ?_)
        have M13 := hM12.drew hb13 hh13
        refine D_p rfl rfl rfl (fun _ => r_move (.slice _ _ _) rfl) ?_
        refine D_p rfl rfl rfl (fun _ => r_move (.int _ _) rfl) ?_
        refine D_r rfl rfl rfl (r_idxR (j) sl29 rfl rfl rfl ((hr0.rd M13 (nthMem (i := 1) rfl)).below_len (mapGet pairCells hz)) ((hr0.rd M13 (nthMem (i := 1) rfl)).someK (mapGet pairCells hz))) ?_
        refine D_r rfl rfl rfl (r_fieldAddrE 0 fld42_0 (hr0.rd M13 (nthMem (i := 1) rfl)) (Nat.lt_of_le_of_lt (Nat.zero_le _) ((hr0.rd M13 (nthMem (i := 1) rfl)).below_len (mapGet pairCells hz))) rfl) ?_
        refine D_r rfl rfl rfl (r_ldE (o := 0) (.int _ _) one25 (hr0.rd M13 (nthMem (i := 1) rfl)) (mapGet pairCells hz) rfl rfl) ?_
        refine D_p rfl rfl rfl (fun _ => r_move (.slice _ _ _) rfl) ?_
        refine D_p rfl rfl rfl (fun _ => r_move (.int _ _) rfl) ?_
        refine D_r rfl rfl rfl (r_idxR (kk) sl22 rfl rfl rfl ((hr.rd M13 (nthMem (i := 0) rfl)).below_len (mapGet bodyCells hy)) ((hr.rd M13 (nthMem (i := 0) rfl)).someK (mapGet bodyCells hy))) ?_
        refine D_r rfl rfl rfl (r_fieldAddrE 0 fld49_0 (hr.rd M13 (nthMem (i := 0) rfl)) (Nat.lt_of_le_of_lt (Nat.zero_le _) ((hr.rd M13 (nthMem (i := 0) rfl)).below_len (mapGet bodyCells hy))) rfl) ?_
        refine D_r rfl rfl rfl (r_ldE (o := 0) (.int _ _) one25 (hr.rd M13 (nthMem (i := 0) rfl)) (mapGet bodyCells hy) rfl rfl) ?_
        refine D_p rfl rfl rfl (fun _ => r_bin (.bool (decide _)) rfl rfl rfl) ?_
        refine D_p rfl rfl rfl (fun _ => r_move (.bool (decide _)) rfl) ?_
        refine D_splitD 72 rfl (fun g72 => ?_) (fun g72 => ?_)
        · skip
          refine D_p rfl rfl rfl (fun _ => r_move (.slice _ _ _) rfl) ?_
          refine D_p rfl rfl rfl (fun _ => r_move (.int _ _) rfl) ?_
          refine D_r rfl rfl rfl (r_idxR (j) sl29 rfl rfl rfl ((hr0.rd M13 (nthMem (i := 1) rfl)).below_len (mapGet pairCells hz)) ((hr0.rd M13 (nthMem (i := 1) rfl)).someK (mapGet pairCells hz))) ?_
          refine D_r rfl rfl rfl (r_fieldAddrE 1 fld42_1 (hr0.rd M13 (nthMem (i := 1) rfl)) (Nat.lt_of_le_of_lt (Nat.zero_le _) ((hr0.rd M13 (nthMem (i := 1) rfl)).below_len (mapGet pairCells hz))) rfl) ?_
          refine D_r rfl rfl rfl (r_ldE (o := 1) (.int _ _) one25 (hr0.rd M13 (nthMem (i := 1) rfl)) (mapGet pairCells hz) rfl rfl) ?_
          refine D_p rfl rfl rfl (fun _ => r_move (.slice _ _ _) rfl) ?_
          refine D_p rfl rfl rfl (fun _ => r_move (.int _ _) rfl) ?_
          refine D_r rfl rfl rfl (r_idxR (kk) sl22 rfl rfl rfl ((hr.rd M13 (nthMem (i := 0) rfl)).below_len (mapGet bodyCells hy)) ((hr.rd M13 (nthMem (i := 0) rfl)).someK (mapGet bodyCells hy))) ?_
          refine D_r rfl rfl rfl (r_fieldAddrE 0 fld49_0 (hr.rd M13 (nthMem (i := 0) rfl)) (Nat.lt_of_le_of_lt (Nat.zero_le _) ((hr.rd M13 (nthMem (i := 0) rfl)).below_len (mapGet bodyCells hy))) rfl) ?_
          refine D_r rfl rfl rfl (r_ldE (o := 0) (.int _ _) one25 (hr.rd M13 (nthMem (i := 0) rfl)) (mapGet bodyCells hy) rfl rfl) ?_
          refine D_p rfl rfl rfl (fun _ => r_bin (.bool (decide _)) rfl rfl rfl) ?_
          refine D_p rfl rfl rfl (fun _ => r_pick true (.bool (decide _)) rfl rfl) ?_
          refine D_nil ?_
          refine thenN ?_
          refine W_condD rfl (fun h84 => ?_) (fun h84 => ?_)
          · skip
            refine W_region ?_
            refine wl_q (r_move (.slice _ _ _) rfl) rfl rfl ?_
            refine wl_q (r_move (.slice _ _ _) rfl) rfl rfl ?_
            refine wl_q (r_move (.int _ _) rfl) rfl rfl ?_
            refine wl_q (r_idxR (j) sl29 rfl rfl rfl ((hr0.rd M13 (nthMem (i := 1) rfl)).below_len (mapGet pairCells hz)) ((hr0.rd M13 (nthMem (i := 1) rfl)).someK (mapGet pairCells hz))) rfl rfl ?_
            refine wl_q (r_ldEA _ agg42 (hr0.rd M13 (nthMem (i := 1) rfl)) (mapGet pairCells hz) rfl) rfl rfl ?_
            refine wl_bslice [.agg (List.toArray _)] [pairCells z] rfl sl29 M13 rfl rfl rfl rfl (lens_of rfl) (by decide) (fun b14 w14 M14 => ?_)
            refine wl_append 4 [pairCells z] sl29 M14 rfl rfl rfl rfl rfl hq rfl (by simp [pairCells, Go.Bil.one]) (Cells.ofMem 5 M14 rfl) (by have := findP_small hvl; omega) (fun A15 c15 e15 w15 M15 hR15 => ?_)
            refine wl_q (r_assign (.slice _ _ _) rfl) rfl rfl ?_
            refine wl_nil ?_
            refine blkN ?_
            refine thenN ?_
            refine W_region ?_
            refine wl_q (r_move (.int _ _) rfl) rfl rfl ?_
            refine wl_q (r_add rfl rfl (by omega) (by omega)) rfl rfl ?_
            refine wl_q (r_assign (.int _ _) rfl) rfl rfl ?_
            refine wl_nil ?_
            refine roundN (j + 1, ⟨A15, q.n + 1, c15, e15⟩) (agC rfl (agC rfl agN)) (akC rfl (akC rfl (akC rfl (akC rfl (akC rfl akN))))) ?_ ?_
            · exact ⟨⟨by omega, by rw [restP_yes hz g72 h84, List.map_append]; exact hR15⟩, M15.keep [true, true, true, true, true, false]⟩
            · (show r0.n - (j + 1) < r0.n - j; omega)
          · skip
            refine W_skip ?_
            refine blkN ?_
            refine thenN ?_
            refine W_region ?_
            refine wl_q (r_move (.int _ _) rfl) rfl rfl ?_
            refine wl_q (r_add rfl rfl (by omega) (by omega)) rfl rfl ?_
            refine wl_q (r_assign (.int _ _) rfl) rfl rfl ?_
            refine wl_nil ?_
            refine roundN (j + 1, q) (agC rfl (agC rfl agN)) (akC rfl (akC rfl (akC rfl (akC rfl (akC rfl akN))))) ?_ ?_
            · exact ⟨⟨by omega, by rw [restP_no hz (fun h => h84 h.2)]; exact hq⟩, M13⟩
            · (show r0.n - (j + 1) < r0.n - j; omega)
        · skip
          refine D_s rfl rfl rfl ?_
          refine D_s rfl rfl rfl ?_
          refine D_s1 rfl rfl rfl ?_
          refine D_s1 rfl rfl rfl ?_
          refine D_s1 rfl rfl rfl ?_
          refine D_s rfl rfl rfl ?_
          refine D_s rfl rfl rfl ?_
          refine D_s1 rfl rfl rfl ?_
          refine D_s1 rfl rfl rfl ?_
          refine D_s1 rfl rfl rfl ?_
          refine D_s rfl rfl rfl ?_
          refine D_p rfl rfl rfl (fun _ => r_pick false (.bool false) rfl rfl) ?_
          refine D_nil ?_
          refine thenN ?_
          refine W_condF rfl ?_
          refine W_skip ?_
          refine blkN ?_
          refine thenN ?_
          refine W_region ?_
          refine wl_q (r_move (.int _ _) rfl) rfl rfl ?_
          refine wl_q (r_add rfl rfl (by omega) (by omega)) rfl rfl ?_
          refine wl_q (r_assign (.int _ _) rfl) rfl rfl ?_
          refine wl_nil ?_
          refine roundN (j + 1, q) (agC rfl (agC rfl agN)) (akC rfl (akC rfl (akC rfl (akC rfl (akC rfl akN))))) ?_ ?_
          · exact ⟨⟨by omega, by rw [restP_no hz (fun h => g72 h.1)]; exact hq⟩, M13⟩
          · (show r0.n - (j + 1) < r0.n - j; omega)
      · skip
        have hjn : j = r0.n := by omega
        rw [List.take_of_length_le (by omega)] at hq hql
        refine W_exit ?_
        refine thenX ?_
        refine roundX ?_
        refine blkH ?_
        refine thenN ?_
        refine W_seq ?_
        refine W_region ?_
        refine wl_q (r_move (.slice _ _ _) rfl) rfl rfl ?_
        refine wl_q (r_move (.slice _ _ _) rfl) rfl rfl ?_
        refine wl_cal cal13 rfl rfl rfl ?_
        refine (ref10_SamePairs _ _ _ _ _ (hr4.rd hM12 (nthMem (i := 3) rfl)) _ _ _ _ (hq.rd hM12 (nthMem (i := 4) rfl))).mono ?_
        rintro _ w16 ⟨v16, rfl, ⟨rfl, hb16⟩⟩
        refine ⟨_, rfl, ?_⟩
        have M16 := hM12.callB hb16
        refine wl_re 94 (.bool true) (bT (find_cut hvs hy)).symm ?_
        refine wl_q (r_move (.bool true) rfl) rfl rfl ?_
        refine wl_q (r_move (.slice _ _ _) rfl) rfl rfl ?_
        refine wl_q (r_move (.slice _ _ _) rfl) rfl rfl ?_
        refine wl_q (r_move (.int _ _) rfl) rfl rfl ?_
        refine wl_q (r_idxR (kk) sl22 rfl rfl rfl ((hr.rd M16 (nthMem (i := 0) rfl)).below_len (mapGet bodyCells hy)) ((hr.rd M16 (nthMem (i := 0) rfl)).someK (mapGet bodyCells hy))) rfl rfl ?_
        refine wl_q (r_fieldAddrE 0 fld49_0 (hr.rd M16 (nthMem (i := 0) rfl)) (Nat.lt_of_le_of_lt (Nat.zero_le _) ((hr.rd M16 (nthMem (i := 0) rfl)).below_len (mapGet bodyCells hy))) rfl) rfl rfl ?_
        refine wl_q (r_ldE (o := 0) (.int _ _) one25 (hr.rd M16 (nthMem (i := 0) rfl)) (mapGet bodyCells hy) rfl rfl) rfl rfl ?_
        refine wl_cal cal18 rfl rfl rfl ?_
        refine (pairs_Lonely _ y.key (N.mem M16) _ _ _ (viewL xs) (hr.rd M16 (nthMem (i := 0) rfl)) hvo (by omega)).mono ?_
        rintro _ w17 ⟨v17, rfl, ⟨rfl, hb17⟩⟩
        refine ⟨_, rfl, ?_⟩
        have M17 := M16.callB hb17
        refine wl_q (r_move (.slice _ _ _) rfl) rfl rfl ?_
        refine wl_q (r_lenS Tryd.underlying29 rfl) rfl rfl ?_
        refine wl_q (r_move (.slice _ _ _) rfl) rfl rfl ?_
        refine wl_q (r_lenS Tryd.underlying29 rfl) rfl rfl ?_
        refine wl_q (r_bin (.bool (decide _)) rfl rfl rfl) rfl rfl ?_
        refine wl_q (r_binB _ Tryd.underlying4 rfl rfl rfl) rfl rfl ?_
        refine wl_re 108 (.bool true) (bv rfl (by rw [lon_rest hV hy, hql, hfl]; simp only [beq_iff_eq, decide_eq_decide]; omega)) ?_
        refine wl_q (r_pick true (.bool true) rfl rfl) rfl rfl ?_
        refine wl_q (r_assign (.bool true) rfl) rfl rfl ?_
        refine wl_nil ?_
        refine thenN ?_
        refine W_ret ?_
        skip
        refine fin1 (.bool true) rfl ?_
        exact ⟨rfl, M17.below⟩

end Go.Proofs.YtfgbmegchdjfeaaDoor
