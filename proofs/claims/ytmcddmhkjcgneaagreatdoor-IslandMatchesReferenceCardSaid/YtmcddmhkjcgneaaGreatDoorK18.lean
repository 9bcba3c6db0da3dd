/- Part of the proof of the laws of this seat: Z4, W6. No conditions. -/
import Derived.Test.YtmcddmhkjcgneaaGreatDoorK5
import Derived.Test.YtmcddmhkjcgneaaGreatDoorK17
/- Walks of Go functions over the frame of this claim: what each computes, for every input of the stated types (Z4). -/
set_option linter.unusedVariables false
set_option linter.unusedSimpArgs false
set_option linter.unnecessarySimpa false
namespace Go.Proofs.YtmcddmhkjcgneaaGreatDoor
open Go.Bil
open Go.RowKit (Below)
open Go.Proofs

set_option maxHeartbeats 16000000 in
theorem ref13_Chosen (w : World) (ap aq bp bq : Pt) (h1 : SgI ap aq) (h2 : SgI bp bq) :
    Calls Tryz.prog 80 #[(.agg (vecCells ap).toArray), (.agg (vecCells aq).toArray), (.agg (vecCells bp).toArray), (.agg (vecCells bq).toArray)] w (fun ex w' => ∃ v, ex = .returned v ∧ (fun v w' => v = (.agg (twoCells ((chosen ap aq bp bq).1, (chosen ap aq bp bq).2.1)).toArray) ∧ Below w.heap.size w w') v w') := by
  have hlen4 : ([(ap, nearest bp bq ap), (aq, nearest bp bq aq), (nearest ap aq bp, bp), (nearest ap aq bq, bq)] : List (Pt × Pt)).length = 4 := rfl
  have hins : ∀ z ∈ ([(ap, nearest bp bq ap), (aq, nearest bp bq aq), (nearest ap aq bp, bp), (nearest ap aq bq, bq)] : List (Pt × Pt)), PtI z.1 ∧ PtI z.2 := chosen_ins h1 h2
  refine calls_of_W #[.cell 8 112] 59 Tryz.func80 rfl Tryz.results80 Tryz.ntmps80 rfl ?_
  have M0 := Mem.refl w
  refine W_seq ?_
  refine W_region ?_
  refine wl_box (.agg (List.toArray _)) M0 rfl rfl rfl (fun b1 w1 M1 => ?_)
  refine wl_box (.agg (List.toArray _)) M1 rfl rfl rfl (fun b2 w2 M2 => ?_)
  refine wl_box (.agg (List.toArray _)) M2 rfl rfl rfl (fun b3 w3 M3 => ?_)
  refine wl_box (.agg (List.toArray _)) M3 rfl rfl rfl (fun b4 w4 M4 => ?_)
  refine wl_alloc zero112 M4 rfl rfl (fun b5 w5 M5 => ?_)
  refine wl_nil ?_
  refine thenN ?_
  refine W_seq ?_
  refine W_draw [(0, 1), (1, 1), (2, 1), (3, 1), (6, 1), (7, 1), (8, 1), (9, 1), (12, 1), (13, 1), (14, 1), (16, 1), (18, 1), (19, 1), (20, 1), (22, 1), (4, 2), (5, 0), (10, 2), (11, 0), (15, 2), (17, 0), (21, 2), (23, 0), (24, 2), (25, 0)] mixed rfl (by kernel_rfl) (fun w6 hb6 hh6 => ?_)
  have M6 := M5.drew hb6 hh6
  refine D_r rfl rfl rfl (r_ldW 0 agg29 M6 rfl rfl rfl) ?_
  refine D_r rfl rfl rfl (r_ldW 2 agg29 M6 rfl rfl rfl) ?_
  refine D_r rfl rfl rfl (r_ldW 3 agg29 M6 rfl rfl rfl) ?_
  refine D_r rfl rfl rfl (r_ldW 0 agg29 M6 rfl rfl rfl) ?_
  refine D_r rfl rfl rfl (r_ldW 1 agg29 M6 rfl rfl rfl) ?_
  refine D_r rfl rfl rfl (r_ldW 2 agg29 M6 rfl rfl rfl) ?_
  refine D_r rfl rfl rfl (r_ldW 3 agg29 M6 rfl rfl rfl) ?_
  refine D_r rfl rfl rfl (r_ldW 1 agg29 M6 rfl rfl rfl) ?_
  refine D_r rfl rfl rfl (r_ldW 0 agg29 M6 rfl rfl rfl) ?_
  refine D_r rfl rfl rfl (r_ldW 1 agg29 M6 rfl rfl rfl) ?_
  refine D_r rfl rfl rfl (r_ldW 2 agg29 M6 rfl rfl rfl) ?_
  refine D_r rfl rfl rfl (r_ldW 2 agg29 M6 rfl rfl rfl) ?_
  refine D_r rfl rfl rfl (r_ldW 0 agg29 M6 rfl rfl rfl) ?_
  refine D_r rfl rfl rfl (r_ldW 1 agg29 M6 rfl rfl rfl) ?_
  refine D_r rfl rfl rfl (r_ldW 3 agg29 M6 rfl rfl rfl) ?_
  refine D_r rfl rfl rfl (r_ldW 3 agg29 M6 rfl rfl rfl) ?_
  refine D_e [false, false, false, false, false, false, false, false, false, false, false, false, true, true, true, false] rfl (by kernel_rfl) ?_
  refine wl_cal cal102 rfl rfl rfl ?_
  refine (ref12_Nearest _ bp bq ap h2 h1.hp).mono ?_
  rintro _ w7 ⟨v7, rfl, ⟨rfl, hb7⟩⟩
  refine ⟨_, rfl, ?_⟩
  have M7 := M6.callB hb7
  refine wl_nil (thenN ⟨(alC (Yl_of rfl (r_ldW 3 agg29 M7 rfl rfl rfl)) (alC (Yl_of rfl (r_ldW 3 agg29 M7 rfl rfl rfl)) (alC (Yl_of rfl (r_ldW 1 agg29 M7 rfl rfl rfl)) (alC (Yl_of rfl (r_ldW 0 agg29 M7 rfl rfl rfl)) (alC (Yl_of rfl (r_ldW 2 agg29 M7 rfl rfl rfl)) (alC (Yl_of rfl (r_ldW 2 agg29 M7 rfl rfl rfl)) (alC (Yl_of rfl (r_ldW 1 agg29 M7 rfl rfl rfl)) (alC (Yl_of rfl (r_ldW 0 agg29 M7 rfl rfl rfl)) (alC (Yl_of rfl (r_ldW 1 agg29 M7 rfl rfl rfl)) (alC (Yl_of rfl (r_ldW 3 agg29 M7 rfl rfl rfl)) (alC (Yl_of rfl (r_ldW 2 agg29 M7 rfl rfl rfl)) (alC (Yl_of rfl (r_ldW 1 agg29 M7 rfl rfl rfl)) (alC (Yl_of rfl (r_ldW 0 agg29 M7 rfl rfl rfl)) alN))))))))))))), ?_⟩)
  refine D_p rfl rfl rfl (fun _ => r_build [(0, .agg (List.toArray _)), (1, .agg (List.toArray _))] _ struct112 rfl rfl) ?_
  refine D_e [false, false, false, false, false, false, false, false, true, true, true, false, false] rfl (by kernel_rfl) ?_
  refine wl_cal cal102 rfl rfl rfl ?_
  refine (ref12_Nearest _ bp bq aq h2 h1.hq).mono ?_
  rintro _ w8 ⟨v8, rfl, ⟨rfl, hb8⟩⟩
  refine ⟨_, rfl, ?_⟩
  have M8 := M7.callB hb8
  refine wl_nil (thenN ⟨(alC (Yl_of rfl (r_ldW 3 agg29 M8 rfl rfl rfl)) (alC (Yl_of rfl (r_ldW 3 agg29 M8 rfl rfl rfl)) (alC (Yl_of rfl (r_ldW 1 agg29 M8 rfl rfl rfl)) (alC (Yl_of rfl (r_ldW 0 agg29 M8 rfl rfl rfl)) (alC (Yl_of rfl (r_ldW 2 agg29 M8 rfl rfl rfl)) (alC (Yl_of rfl (r_ldW 2 agg29 M8 rfl rfl rfl)) (alC (Yl_of rfl (r_ldW 1 agg29 M8 rfl rfl rfl)) (alC (Yl_of rfl (r_ldW 0 agg29 M8 rfl rfl rfl)) (alC (Yl_of rfl (r_ldW 1 agg29 M8 rfl rfl rfl)) (alC (Yl_of rfl (r_ldW 0 agg29 M8 rfl rfl rfl)) alN)))))))))), ?_⟩)
  refine D_p rfl rfl rfl (fun _ => r_build [(0, .agg (List.toArray _)), (1, .agg (List.toArray _))] _ struct112 rfl rfl) ?_
  refine D_e [false, false, false, false, false, true, true, true, false, false] rfl (by kernel_rfl) ?_
  refine wl_cal cal102 rfl rfl rfl ?_
  refine (ref12_Nearest _ ap aq bp h1 h2.hp).mono ?_
  rintro _ w9 ⟨v9, rfl, ⟨rfl, hb9⟩⟩
  refine ⟨_, rfl, ?_⟩
  have M9 := M8.callB hb9
  refine wl_nil (thenN ⟨(alC (Yl_of rfl (r_ldW 3 agg29 M9 rfl rfl rfl)) (alC (Yl_of rfl (r_ldW 3 agg29 M9 rfl rfl rfl)) (alC (Yl_of rfl (r_ldW 1 agg29 M9 rfl rfl rfl)) (alC (Yl_of rfl (r_ldW 0 agg29 M9 rfl rfl rfl)) (alC (Yl_of rfl (r_ldW 2 agg29 M9 rfl rfl rfl)) (alC (Yl_of rfl (r_ldW 1 agg29 M9 rfl rfl rfl)) (alC (Yl_of rfl (r_ldW 0 agg29 M9 rfl rfl rfl)) alN))))))), ?_⟩)
  refine D_p rfl rfl rfl (fun _ => r_build [(0, .agg (List.toArray _)), (1, .agg (List.toArray _))] _ struct112 rfl rfl) ?_
  refine D_e [false, true, true, true, false, false, false] rfl (by kernel_rfl) ?_
  refine wl_cal cal102 rfl rfl rfl ?_
  refine (ref12_Nearest _ ap aq bq h1 h2.hq).mono ?_
  rintro _ w10 ⟨v10, rfl, ⟨rfl, hb10⟩⟩
  refine ⟨_, rfl, ?_⟩
  have M10 := M9.callB hb10
  refine wl_nil (thenN ⟨(alC (Yl_of rfl (r_ldW 3 agg29 M10 rfl rfl rfl)) (alC (Yl_of rfl (r_ldW 2 agg29 M10 rfl rfl rfl)) (alC (Yl_of rfl (r_ldW 1 agg29 M10 rfl rfl rfl)) (alC (Yl_of rfl (r_ldW 0 agg29 M10 rfl rfl rfl)) alN)))), ?_⟩)
  refine D_p rfl rfl rfl (fun _ => r_build [(0, .agg (List.toArray _)), (1, .agg (List.toArray _))] _ struct112 rfl rfl) ?_
  refine D_e [true, true, true, true] rfl (by kernel_rfl) ?_
  refine wl_bslice [.agg (List.toArray _), .agg (List.toArray _), .agg (List.toArray _), .agg (List.toArray _)] [twoCells (ap, nearest bp bq ap), twoCells (aq, nearest bp bq aq), twoCells (nearest ap aq bp, bp), twoCells (nearest ap aq bq, bq)] rfl sl162 M10 rfl rfl rfl rfl (lens_of rfl) (by decide) (fun b11 w11 M11 => ?_)
  refine wl_nil (thenN ⟨alN, ?_⟩)
  have hlit36 := rowLit (T := 112) (b := b11) (nn := 4) (([(ap, nearest bp bq ap), (aq, nearest bp bq aq), (nearest ap aq bp, bp), (nearest ap aq bq, bq)] : List (Pt × Pt)).map twoCells) (two_len _) rfl (by decide)
  refine D_p rfl rfl rfl (fun _ => r_assign (.slice _ _ _) rfl) ?_
  refine D_nil ?_
  refine thenN ?_
  refine W_seq ?_
  refine W_region ?_
  refine wl_q (r_move (.slice _ _ _) rfl) rfl rfl ?_
  refine wl_q (r_idxR (0) sl162 rfl rfl rfl ((hlit36.rd M11 (nthMem (i := 5) rfl)).below_len (mapGet twoCells (show ([(ap, nearest bp bq ap), (aq, nearest bp bq aq), (nearest ap aq bp, bp), (nearest ap aq bq, bq)] : List (Pt × Pt))[0]? = some (ap, nearest bp bq ap) from rfl))) ((hlit36.rd M11 (nthMem (i := 5) rfl)).someK (mapGet twoCells (show ([(ap, nearest bp bq ap), (aq, nearest bp bq aq), (nearest ap aq bp, bp), (nearest ap aq bq, bq)] : List (Pt × Pt))[0]? = some (ap, nearest bp bq ap) from rfl)))) rfl rfl ?_
  refine wl_q (r_ldEA _ agg112 (hlit36.rd M11 (nthMem (i := 5) rfl)) (mapGet twoCells (show ([(ap, nearest bp bq ap), (aq, nearest bp bq aq), (nearest ap aq bp, bp), (nearest ap aq bq, bq)] : List (Pt × Pt))[0]? = some (ap, nearest bp bq ap) from rfl)) rfl) rfl rfl ?_
  refine wl_alloc zero112 M11 rfl rfl (fun b12 w12 M12 => ?_)
  refine wl_stW 6 _ agg112 M12 rfl rfl rfl rfl rfl (ones_of rfl) rfl (fun w13 M13 => ?_)
  refine wl_nil ?_
  refine thenN ?_
  refine W_seq ?_
  refine W_seq ?_
  refine W_region ?_
  refine wl_q (r_assign (.int _ _) rfl) rfl rfl ?_
  refine wl_nil ?_
  refine thenN ?_
  refine W_block ?_
  refine W_loop (σ := Nat × Ch) [8, 9, 10] (fun (i, s) => [(11, .int .i64 (i : Int))]) (fun (i, s) w' => (1 ≤ i ∧ i ≤ 4 ∧ s = chFold (([(ap, nearest bp bq ap), (aq, nearest bp bq aq), (nearest ap aq bp, bp), (nearest ap aq bq, bq)] : List (Pt × Pt)).take i) ∧ ChL s) ∧ Mem w [] [(some b1, bc (vecCells ap) 29), (some b2, bc (vecCells aq) 29), (some b3, bc (vecCells bp) 29), (some b4, bc (vecCells bq) 29), (some b5, bc [.int .i32 0, .int .i32 0, .int .i32 0, .int .i32 0] 112), (some b11, bc ((([(ap, nearest bp bq ap), (aq, nearest bp bq aq), (nearest ap aq bp, bp), (nearest ap aq bq, bq)] : List (Pt × Pt)).map twoCells).flatten) 112), (some b12, bc (twoCells (s.1, s.2.1)) 112)] w') (fun (i, s) => 4 - i) (1, chFold [(ap, nearest bp bq ap)]) (agC rfl agN) (⟨⟨by omega, by omega, rfl, (chL_first h1.hp (nearest_in h2)).2⟩, by rw [(chL_first h1.hp (nearest_in h2)).1]; exact M13⟩) ?_
  rintro ⟨i, s⟩ ρ14 w14 ⟨⟨hi1, hi4, hs, hL⟩, hM14⟩
  refine W_seq ?_
  refine W_seq ?_
  refine W_region ?_
  refine wl_q (r_move (.int _ _) rfl) rfl rfl ?_
  refine wl_q (r_move (.slice _ _ _) rfl) rfl rfl ?_
  refine wl_q (r_lenS Tryz.underlying162 rfl) rfl rfl ?_
  refine wl_re 42 (.int .i64 4) rfl ?_
  refine wl_q (r_bin (.bool (decide _)) rfl rfl rfl) rfl rfl ?_
  refine wl_nil ?_
  refine thenN ?_
  refine W_condD rfl (fun h43 => ?_) (fun h43 => ?_)
  · skip
    obtain ⟨z, hz⟩ := getSome (xs := ([(ap, nearest bp bq ap), (aq, nearest bp bq aq), (nearest ap aq bp, bp), (nearest ap aq bq, bq)] : List (Pt × Pt))) (k := i) hlen4 (by omega)
    have hzi := hins z (List.mem_of_getElem? hz)
    refine W_skip ?_
    refine thenN ?_
    refine W_seq ?_
    refine W_block ?_
    refine W_seq ?_
    refine W_draw [(0, 0), (1, 0), (2, 1), (3, 1), (5, 1), (4, 2), (6, 2), (7, 0)] mixed rfl (by kernel_rfl) (fun w15 hb15 hh15 => ?_)
    have M15 := hM14.drew hb15 hh15
    refine D_p rfl rfl rfl (fun _ => r_move (.slice _ _ _) rfl) ?_
    refine D_p rfl rfl rfl (fun _ => r_move (.int _ _) rfl) ?_
    refine D_r rfl rfl rfl (r_idxR (i) sl162 rfl rfl rfl ((hlit36.rd M15 (nthMem (i := 5) rfl)).below_len (mapGet twoCells hz)) ((hlit36.rd M15 (nthMem (i := 5) rfl)).someK (mapGet twoCells hz))) ?_
    refine D_r rfl rfl rfl (r_ldEA _ agg112 (hlit36.rd M15 (nthMem (i := 5) rfl)) (mapGet twoCells hz) rfl) ?_
    refine D_r rfl rfl rfl (r_ldW 6 agg112 M15 rfl rfl rfl) ?_
    refine D_e [false, true, true] rfl (by kernel_rfl) ?_
    refine wl_cal cal66 rfl rfl rfl ?_
    refine (ref13_DistSq _ z.1 z.2 hzi.1 hzi.2).mono ?_
    rintro _ w16 ⟨v16, rfl, ⟨rfl, hb16⟩⟩
    refine ⟨_, rfl, ?_⟩
    have M16 := M15.callB hb16
    refine wl_nil (thenN ⟨(alC (Yl_of rfl (r_ldW 6 agg112 M16 rfl rfl rfl)) alN), ?_⟩)
    refine D_e [true] rfl (by kernel_rfl) ?_
    refine wl_cal cal66 rfl rfl rfl ?_
    refine (ref13_DistSq _ s.1 s.2.1 hL.i.a hL.i.b).mono ?_
    rintro _ w17 ⟨v17, rfl, ⟨rfl, hb17⟩⟩
    refine ⟨_, rfl, ?_⟩
    have M17 := M16.callB hb17
    refine wl_nil (thenN ⟨alN, ?_⟩)
    refine D_p rfl rfl rfl (fun _ => r_bin (.bool (decide _)) rfl rfl rfl) ?_
    refine D_nil ?_
    refine thenN ?_
    refine W_condD rfl (fun h53 => ?_) (fun h53 => ?_)
    · skip
      refine W_region ?_
      refine wl_q (r_move (.slice _ _ _) rfl) rfl rfl ?_
      refine wl_q (r_move (.int _ _) rfl) rfl rfl ?_
      refine wl_q (r_idxR (i) sl162 rfl rfl rfl ((hlit36.rd M17 (nthMem (i := 5) rfl)).below_len (mapGet twoCells hz)) ((hlit36.rd M17 (nthMem (i := 5) rfl)).someK (mapGet twoCells hz))) rfl rfl ?_
      refine wl_q (r_ldEA _ agg112 (hlit36.rd M17 (nthMem (i := 5) rfl)) (mapGet twoCells hz) rfl) rfl rfl ?_
      refine wl_stW 6 _ agg112 M17 rfl rfl rfl rfl rfl (ones_of rfl) rfl (fun w18 M18 => ?_)
      refine wl_nil ?_
      refine blkN ?_
      refine thenN ?_
      refine W_region ?_
      refine wl_q (r_move (.int _ _) rfl) rfl rfl ?_
      refine wl_q (r_add rfl rfl (by omega) (by omega)) rfl rfl ?_
      refine wl_q (r_assign (.int _ _) rfl) rfl rfl ?_
      refine wl_nil ?_
      refine roundN (i + 1, chStep s z.1 z.2) (agC rfl agN) (akC rfl (akC rfl (akC rfl akN))) ?_ ?_
      · exact ⟨⟨by omega, by omega, by rw [chFold_snoc hz, hs], hL.step hzi.1 hzi.2⟩, by unfold chStep; rw [if_pos (by rw [hL.l]; omega)]; exact M18⟩
      · (show 4 - (i + 1) < 4 - i; omega)
    · skip
      refine W_skip ?_
      refine blkN ?_
      refine thenN ?_
      refine W_region ?_
      refine wl_q (r_move (.int _ _) rfl) rfl rfl ?_
      refine wl_q (r_add rfl rfl (by omega) (by omega)) rfl rfl ?_
      refine wl_q (r_assign (.int _ _) rfl) rfl rfl ?_
      refine wl_nil ?_
      refine roundN (i + 1, chStep s z.1 z.2) (agC rfl agN) (akC rfl (akC rfl (akC rfl akN))) ?_ ?_
      · exact ⟨⟨by omega, by omega, by rw [chFold_snoc hz, hs], hL.step hzi.1 hzi.2⟩, by unfold chStep; rw [if_neg (by rw [hL.l]; omega)]; exact M17⟩
      · (show 4 - (i + 1) < 4 - i; omega)
  · skip
    obtain rfl : i = 4 := by omega
    refine W_exit ?_
    refine thenX ?_
    refine roundX ?_
    refine blkH ?_
    refine thenN ?_
    refine W_seq ?_
    refine W_region ?_
    refine wl_q (r_ldW 6 agg112 hM14 rfl rfl rfl) rfl rfl ?_
    refine wl_stW 4 _ agg112 hM14 rfl rfl rfl rfl rfl (ones_of rfl) rfl (fun w19 M19 => ?_)
    refine wl_nil ?_
    refine thenN ?_
    refine W_ret ?_
    skip
    refine finC1 4 agg112 M19 rfl rfl rfl ?_
    exact ⟨by rw [hs]; rfl, M19.below⟩

set_option maxHeartbeats 4000000 in
theorem ref14_chosen (w : World) (a b : Body) (ha : Okb a) (hb : Okb b) :
    Calls Tryz.prog 65 #[(.agg (bodyCells a).toArray), (.agg (bodyCells b).toArray)] w (fun ex w' => ∃ v, ex = .returned v ∧ (fun v w' => v = (.agg (twoCells ((chB a b).1, (chB a b).2.1)).toArray) ∧ Below w.heap.size w w') v w') := by
  refine calls_of_W #[.cell 4 112] 14 Tryz.func65 rfl Tryz.results65 Tryz.ntmps65 rfl ?_
  have M0 := Mem.refl w
  refine W_seq ?_
  refine W_region ?_
  refine wl_box (.agg (List.toArray _)) M0 rfl rfl rfl (fun b1 w1 M1 => ?_)
  refine wl_box (.agg (List.toArray _)) M1 rfl rfl rfl (fun b2 w2 M2 => ?_)
  refine wl_alloc zero112 M2 rfl rfl (fun b3 w3 M3 => ?_)
  refine wl_nil ?_
  refine thenN ?_
  refine W_seq ?_
  refine W_draw [(0, 1), (2, 1), (4, 1), (6, 1), (1, 2), (3, 2), (5, 2), (7, 2), (8, 2), (9, 2)] mixed rfl (by kernel_rfl) (fun w4 hb4 hh4 => ?_)
  have M4 := M3.drew hb4 hh4
  refine D_r rfl rfl rfl (r_ldW 0 agg32 M4 rfl rfl rfl) ?_
  refine D_r rfl rfl rfl (r_ldW 0 agg32 M4 rfl rfl rfl) ?_
  refine D_r rfl rfl rfl (r_ldW 1 agg32 M4 rfl rfl rfl) ?_
  refine D_r rfl rfl rfl (r_ldW 1 agg32 M4 rfl rfl rfl) ?_
  refine D_e [false, false, false, true] rfl (by kernel_rfl) ?_
  refine wl_cal cal81 rfl rfl rfl ?_
  refine (ref05_First _ a ha).mono ?_
  rintro _ w5 ⟨v5, rfl, ⟨rfl, hb5⟩⟩
  refine ⟨_, rfl, ?_⟩
  have M5 := M4.callB hb5
  refine wl_nil (thenN ⟨(alC (Yl_of rfl (r_ldW 1 agg32 M5 rfl rfl rfl)) (alC (Yl_of rfl (r_ldW 1 agg32 M5 rfl rfl rfl)) (alC (Yl_of rfl (r_ldW 0 agg32 M5 rfl rfl rfl)) alN))), ?_⟩)
  refine D_e [false, false, true] rfl (by kernel_rfl) ?_
  refine wl_cal cal82 rfl rfl rfl ?_
  refine (ref05_Second _ a ha).mono ?_
  rintro _ w6 ⟨v6, rfl, ⟨rfl, hb6⟩⟩
  refine ⟨_, rfl, ?_⟩
  have M6 := M5.callB hb6
  refine wl_nil (thenN ⟨(alC (Yl_of rfl (r_ldW 1 agg32 M6 rfl rfl rfl)) (alC (Yl_of rfl (r_ldW 1 agg32 M6 rfl rfl rfl)) alN)), ?_⟩)
  refine D_e [false, true] rfl (by kernel_rfl) ?_
  refine wl_cal cal81 rfl rfl rfl ?_
  refine (ref05_First _ b hb).mono ?_
  rintro _ w7 ⟨v7, rfl, ⟨rfl, hb7⟩⟩
  refine ⟨_, rfl, ?_⟩
  have M7 := M6.callB hb7
  refine wl_nil (thenN ⟨(alC (Yl_of rfl (r_ldW 1 agg32 M7 rfl rfl rfl)) alN), ?_⟩)
  refine D_e [true] rfl (by kernel_rfl) ?_
  refine wl_cal cal82 rfl rfl rfl ?_
  refine (ref05_Second _ b hb).mono ?_
  rintro _ w8 ⟨v8, rfl, ⟨rfl, hb8⟩⟩
  refine ⟨_, rfl, ?_⟩
  have M8 := M7.callB hb8
  refine wl_nil (thenN ⟨alN, ?_⟩)
  refine D_e [] rfl (by kernel_rfl) ?_
  refine wl_cal cal80 rfl rfl rfl ?_
  refine (ref13_Chosen _ (endP a) (endQ a) (endP b) (endQ b) (ends_in ha) (ends_in hb)).mono ?_
  rintro _ w9 ⟨v9, rfl, ⟨rfl, hb9⟩⟩
  refine ⟨_, rfl, ?_⟩
  have M9 := M8.callB hb9
  refine wl_nil (thenN ⟨alN, ?_⟩)
  refine D_e [] rfl (by kernel_rfl) ?_
  refine wl_stW 2 _ agg112 M9 rfl rfl rfl rfl rfl (ones_of rfl) rfl (fun w10 M10 => ?_)
  refine wl_nil (thenN ⟨alN, ?_⟩)
  refine D_nil ?_
  refine thenN ?_
  refine W_ret ?_
  skip
  refine finC1 2 agg112 M10 rfl rfl rfl ?_
  exact ⟨rfl, M10.below⟩

set_option maxHeartbeats 8000000 in
theorem ref14_Of0 (w : World) (a b : Body) (ha : Okb a) (hb : Okb b) (hk : ¬ b.key < a.key) :
    Calls Tryz.prog 46 #[(.agg (bodyCells a).toArray), (.agg (bodyCells b).toArray)] w (fun ex w' => ∃ v, ex = .returned v ∧ (fun v w' => v = .tuple #[.agg (conO (conLow a b)).toArray, .bool (conLow a b).isSome] ∧ Below w.heap.size w w') v w') := by
  have hch := chB_in ha hb
  have hd := chB_d ha hb
  have hl := len_lt hd.1 hd.2
  have hra := ha.r
  have hrb := hb.r
  have hsn : (a.radius + b.radius).natAbs * (a.radius + b.radius).natAbs ≤ 70368744177664 := by have := sum_sq ha hb; rw [← Int.natAbs_mul_self] at this; omega
  have hax := hch.a.i32.x
  have hay := hch.a.i32.y
  have hbx := hch.b.i32.x
  have hby := hch.b.i32.y
  refine calls_of_W #[.cell 4 63, .tmp 5] 72 Tryz.func46 rfl Tryz.results46 Tryz.ntmps46 rfl ?_
  have M0 := Mem.refl w
  refine W_seq ?_
  refine W_region ?_
  refine wl_box (.agg (List.toArray _)) M0 rfl rfl rfl (fun b1 w1 M1 => ?_)
  refine wl_box (.agg (List.toArray _)) M1 rfl rfl rfl (fun b2 w2 M2 => ?_)
  refine wl_alloc zero63 M2 rfl rfl (fun b3 w3 M3 => ?_)
  refine wl_q (r_assign (.bool false) rfl) rfl rfl ?_
  refine wl_nil ?_
  refine thenN ?_
  refine W_seq ?_
  refine W_seq ?_
  refine W_region ?_
  refine wl_q (r_fieldAddr 0 fld32_0 rfl) rfl rfl ?_
  refine wl_q (r_ld 1 (.int _ _) one30 M3 rfl rfl rfl) rfl rfl ?_
  refine wl_q (r_fieldAddr 0 fld32_0 rfl) rfl rfl ?_
  refine wl_q (r_ld 0 (.int _ _) one30 M3 rfl rfl rfl) rfl rfl ?_
  refine wl_q (r_bin (.bool (decide _)) rfl rfl rfl) rfl rfl ?_
  refine wl_re 14 (.bool false) (bF (by omega)).symm ?_
  refine wl_nil ?_
  refine thenN ?_
  refine W_condF rfl ?_
  refine W_skip ?_
  refine thenN ?_
  refine W_seq ?_
  refine W_region ?_
  refine wl_q (r_ldW 0 agg32 M3 rfl rfl rfl) rfl rfl ?_
  refine wl_q (r_ldW 1 agg32 M3 rfl rfl rfl) rfl rfl ?_
  refine wl_cal cal65 rfl rfl rfl ?_
  refine (ref14_chosen _ a b ha hb).mono ?_
  rintro _ w4 ⟨v4, rfl, ⟨rfl, hb4⟩⟩
  refine ⟨_, rfl, ?_⟩
  have M4 := M3.callB hb4
  refine wl_re 22 (.agg (vecCells (chB a b).1 ++ vecCells (chB a b).2.1).toArray) rfl ?_
  refine wl_alloc zero112 M4 rfl rfl (fun b5 w5 M5 => ?_)
  refine wl_stW 3 _ agg112 M5 rfl rfl rfl rfl rfl (ones_of rfl) rfl (fun w6 M6 => ?_)
  refine wl_nil ?_
  refine thenN ?_
  refine W_seq ?_
  refine W_region ?_
  refine wl_q (r_fieldAddr 1 fld32_1 rfl) rfl rfl ?_
  refine wl_q (r_ld 0 (.int _ _) one21 M6 rfl rfl rfl) rfl rfl ?_
  refine wl_q (r_convK us21 Tryz.underlying2 rfl (w64 _ (by omega) (by omega))) rfl rfl ?_
  refine wl_q (r_fieldAddr 1 fld32_1 rfl) rfl rfl ?_
  refine wl_q (r_ld 1 (.int _ _) one21 M6 rfl rfl rfl) rfl rfl ?_
  refine wl_q (r_convK us21 Tryz.underlying2 rfl (w64 _ (by omega) (by omega))) rfl rfl ?_
  refine wl_q (r_add rfl rfl (by omega) (by omega)) rfl rfl ?_
  refine wl_q (r_assign (.int _ _) rfl) rfl rfl ?_
  refine wl_nil ?_
  refine thenN ?_
  refine W_seq ?_
  refine W_seq ?_
  refine W_region ?_
  refine wl_q (r_ldW 3 agg112 M6 rfl rfl rfl) rfl rfl ?_
  refine wl_cal cal66 rfl rfl rfl ?_
  refine (ref13_DistSq _ (chB a b).1 (chB a b).2.1 hch.a hch.b).mono ?_
  rintro _ w7 ⟨v7, rfl, ⟨rfl, hb7⟩⟩
  refine ⟨_, rfl, ?_⟩
  have M7 := M6.callB hb7
  refine wl_re 31 (.int .u64 ((lsq (chDx (chB a b)) (chDy (chB a b)) : Nat) : Int)) rfl ?_
  refine wl_q (r_move (.int _ _) rfl) rfl rfl ?_
  refine wl_q (r_conv us2 Tryz.underlying26 rfl) rfl rfl ?_
  refine wl_re 33 (.int .u64 (((a.radius + b.radius).natAbs : Nat) : Int)) (iE (by rw [wrU]; omega)) ?_
  refine wl_q (r_move (.int _ _) rfl) rfl rfl ?_
  refine wl_q (r_conv us2 Tryz.underlying26 rfl) rfl rfl ?_
  refine wl_re 35 (.int .u64 (((a.radius + b.radius).natAbs : Nat) : Int)) (iE (by rw [wrU]; omega)) ?_
  refine wl_q (r_bin (.int _ _) rfl rfl rfl) rfl rfl ?_
  refine wl_re 36 (.int .u64 (((a.radius + b.radius).natAbs * (a.radius + b.radius).natAbs : Nat) : Int)) (iE (mulU _ _ (by omega))) ?_
  refine wl_q (r_bin (.bool (decide _)) rfl rfl rfl) rfl rfl ?_
  refine wl_nil ?_
  refine thenN ?_
  refine W_condD rfl (fun h37 => ?_) (fun h37 => ?_)
  · skip
    refine W_seq ?_
    refine W_region ?_
    refine wl_q (r_build [] _ struct63 rfl rfl) rfl rfl ?_
    refine wl_stW 2 _ agg63 M7 rfl rfl rfl rfl rfl (ones_of rfl) rfl (fun w8 M8 => ?_)
    refine wl_q (r_assign (.bool false) rfl) rfl rfl ?_
    refine wl_nil ?_
    refine thenN ?_
    refine W_ret ?_
    refine thenR ?_
    skip
    refine finC2 (v2 := .bool false) 2 agg63 M8 rfl rfl rfl rfl ?_
    exact ⟨by unfold conLow; first | (rw [if_pos (by omega)]; rfl) | (rw [if_neg (by omega)]; rfl), M8.below⟩
  · skip
    refine W_skip ?_
    refine thenN ?_
    refine W_seq ?_
    refine W_region ?_
    refine wl_q (r_fieldAddr 2 fld112_1 rfl) rfl rfl ?_
    refine wl_q (r_fieldAddr 0 fld29_0 rfl) rfl rfl ?_
    refine wl_q (r_ld 3 (.int _ _) one21 M7 rfl rfl rfl) rfl rfl ?_
    refine wl_q (r_convK us21 Tryz.underlying2 rfl (w64 _ (by omega) (by omega))) rfl rfl ?_
    refine wl_q (r_fieldAddr 0 fld112_0 rfl) rfl rfl ?_
    refine wl_q (r_fieldAddr 0 fld29_0 rfl) rfl rfl ?_
    refine wl_q (r_ld 3 (.int _ _) one21 M7 rfl rfl rfl) rfl rfl ?_
    refine wl_q (r_convK us21 Tryz.underlying2 rfl (w64 _ (by omega) (by omega))) rfl rfl ?_
    refine wl_q (r_sub rfl rfl (by omega) (by omega)) rfl rfl ?_
    refine wl_re 47 (.int .i64 (chDx (chB a b))) rfl ?_
    refine wl_q (r_assign (.int _ _) rfl) rfl rfl ?_
    refine wl_nil ?_
    refine thenN ?_
    refine W_seq ?_
    refine W_region ?_
    refine wl_q (r_fieldAddr 2 fld112_1 rfl) rfl rfl ?_
    refine wl_q (r_fieldAddr 1 fld29_1 rfl) rfl rfl ?_
    refine wl_q (r_ld 3 (.int _ _) one21 M7 rfl rfl rfl) rfl rfl ?_
    refine wl_q (r_convK us21 Tryz.underlying2 rfl (w64 _ (by omega) (by omega))) rfl rfl ?_
    refine wl_q (r_fieldAddr 0 fld112_0 rfl) rfl rfl ?_
    refine wl_q (r_fieldAddr 1 fld29_1 rfl) rfl rfl ?_
    refine wl_q (r_ld 3 (.int _ _) one21 M7 rfl rfl rfl) rfl rfl ?_
    refine wl_q (r_convK us21 Tryz.underlying2 rfl (w64 _ (by omega) (by omega))) rfl rfl ?_
    refine wl_q (r_sub rfl rfl (by omega) (by omega)) rfl rfl ?_
    refine wl_re 56 (.int .i64 (chDy (chB a b))) rfl ?_
    refine wl_q (r_assign (.int _ _) rfl) rfl rfl ?_
    refine wl_nil ?_
    refine thenN ?_
    refine W_seq ?_
    refine W_draw [(0, 0), (1, 1), (2, 0), (3, 1), (4, 0), (5, 0), (6, 0), (8, 0), (9, 0), (10, 0), (7, 2), (11, 2), (12, 0), (13, 0), (14, 0), (15, 2), (16, 0)] mixed rfl (by kernel_rfl) (fun w9 hb9 hh9 => ?_)
    have M9 := M7.drew hb9 hh9
    refine D_p rfl rfl rfl (fun _ => r_fieldAddr 0 fld32_0 rfl) ?_
    refine D_r rfl rfl rfl (r_ld 0 (.int _ _) one30 M9 rfl rfl rfl) ?_
    refine D_p rfl rfl rfl (fun _ => r_fieldAddr 0 fld32_0 rfl) ?_
    refine D_r rfl rfl rfl (r_ld 1 (.int _ _) one30 M9 rfl rfl rfl) ?_
    refine D_p rfl rfl rfl (fun _ => r_build [(0, .int _ _), (1, .int _ _)] _ struct61 rfl rfl) ?_
    refine D_p rfl rfl rfl (fun _ => r_move (.int _ _) rfl) ?_
    refine D_p rfl rfl rfl (fun _ => r_move (.int _ _) rfl) ?_
    refine D_p rfl rfl rfl (fun _ => r_move (.int _ _) rfl) ?_
    refine D_p rfl rfl rfl (fun _ => r_move (.int _ _) rfl) ?_
    refine D_p rfl rfl rfl (fun _ => r_move (.int _ _) rfl) ?_
    refine D_e [false, false] rfl (by kernel_rfl) ?_
    refine wl_cal cal67 rfl rfl rfl ?_
    refine (ref04_Unit _ (chDx (chB a b)) (chDy (chB a b)) hd.1 hd.2).mono ?_
    rintro _ w10 ⟨v10, rfl, ⟨rfl, hb10⟩⟩
    refine ⟨_, rfl, ?_⟩
    have M10 := M9.callB hb10
    refine wl_nil (thenN ⟨(alC (Yl_of rfl (r_ld 1 (.int _ _) one30 M10 rfl rfl rfl)) (alC (Yl_of rfl (r_ld 0 (.int _ _) one30 M10 rfl rfl rfl)) alN)), ?_⟩)
    refine D_e [false, false] rfl (by kernel_rfl) ?_
    refine wl_cal cal68 rfl rfl rfl ?_
    refine (ref04_Length _ (chDx (chB a b)) (chDy (chB a b)) hd.1 hd.2).mono ?_
    rintro _ w11 ⟨v11, rfl, ⟨rfl, hb11⟩⟩
    refine ⟨_, rfl, ?_⟩
    have M11 := M10.callB hb11
    refine wl_nil (thenN ⟨(alC (Yl_of rfl (r_ld 1 (.int _ _) one30 M11 rfl rfl rfl)) (alC (Yl_of rfl (r_ld 0 (.int _ _) one30 M11 rfl rfl rfl)) alN)), ?_⟩)
    refine D_p rfl rfl rfl (fun _ => r_sub rfl rfl (by omega) (by omega)) ?_
    refine D_p rfl rfl rfl (fun _ => r_conv us2 Tryz.underlying21 rfl) ?_
    refine D_p rfl rfl rfl (fun _ => r_build [(0, .agg (List.toArray _)), (1, .agg (List.toArray _)), (2, .int _ _)] _ struct63 rfl rfl) ?_
    refine D_e [true, true] rfl (by kernel_rfl) ?_
    refine wl_stW 2 _ agg63 M11 rfl rfl rfl rfl rfl (ones_of rfl) rfl (fun w12 M12 => ?_)
    refine wl_nil (thenN ⟨alN, ?_⟩)
    refine D_p rfl rfl rfl (fun _ => r_assign (.bool true) rfl) ?_
    refine D_nil ?_
    refine thenN ?_
    refine W_ret ?_
    skip
    refine finC2 (v2 := .bool true) 2 agg63 M12 rfl rfl rfl rfl ?_
    exact ⟨by unfold conLow; first | (rw [if_pos (by omega)]; rfl) | (rw [if_neg (by omega)]; rfl), M12.below⟩

set_option maxHeartbeats 4000000 in
theorem ref14_Of1 (w : World) (a b : Body) (ha : Okb a) (hb : Okb b) (hk : b.key < a.key) :
    Calls Tryz.prog 46 #[(.agg (bodyCells a).toArray), (.agg (bodyCells b).toArray)] w (fun ex w' => ∃ v, ex = .returned v ∧ (fun v w' => v = .tuple #[.agg (conO (conLow b a)).toArray, .bool (conLow b a).isSome] ∧ Below w.heap.size w w') v w') := by
  refine calls_of_W #[.cell 4 63, .tmp 5] 72 Tryz.func46 rfl Tryz.results46 Tryz.ntmps46 rfl ?_
  have M0 := Mem.refl w
  refine W_seq ?_
  refine W_region ?_
  refine wl_box (.agg (List.toArray _)) M0 rfl rfl rfl (fun b1 w1 M1 => ?_)
  refine wl_box (.agg (List.toArray _)) M1 rfl rfl rfl (fun b2 w2 M2 => ?_)
  refine wl_alloc zero63 M2 rfl rfl (fun b3 w3 M3 => ?_)
  refine wl_q (r_assign (.bool false) rfl) rfl rfl ?_
  refine wl_nil ?_
  refine thenN ?_
  refine W_seq ?_
  refine W_seq ?_
  refine W_region ?_
  refine wl_q (r_fieldAddr 0 fld32_0 rfl) rfl rfl ?_
  refine wl_q (r_ld 1 (.int _ _) one30 M3 rfl rfl rfl) rfl rfl ?_
  refine wl_q (r_fieldAddr 0 fld32_0 rfl) rfl rfl ?_
  refine wl_q (r_ld 0 (.int _ _) one30 M3 rfl rfl rfl) rfl rfl ?_
  refine wl_q (r_bin (.bool (decide _)) rfl rfl rfl) rfl rfl ?_
  refine wl_re 14 (.bool true) (bT (by omega)).symm ?_
  refine wl_nil ?_
  refine thenN ?_
  refine W_condT rfl ?_
  refine W_seq ?_
  refine W_region ?_
  refine wl_q (r_ldW 1 agg32 M3 rfl rfl rfl) rfl rfl ?_
  refine wl_q (r_ldW 0 agg32 M3 rfl rfl rfl) rfl rfl ?_
  refine wl_cal cal46 rfl rfl rfl ?_
  refine (ref14_Of0 _ b a hb ha (by omega)).mono ?_
  rintro _ w4 ⟨v4, rfl, ⟨rfl, hb4⟩⟩
  refine ⟨_, rfl, ?_⟩
  have M4 := M3.callB hb4
  refine wl_q (r_ext (.agg (List.toArray _)) rfl rfl) rfl rfl ?_
  refine wl_q (r_ext (.bool _) rfl rfl) rfl rfl ?_
  refine wl_stW 2 _ agg63 M4 rfl rfl rfl rfl rfl (ones_of rfl) rfl (fun w5 M5 => ?_)
  refine wl_q (r_assign (.bool _) rfl) rfl rfl ?_
  refine wl_nil ?_
  refine thenN ?_
  refine W_ret ?_
  refine thenR ?_
  skip
  refine finC2 (v2 := .bool _) 2 agg63 M5 rfl rfl rfl rfl ?_
  exact ⟨rfl, M5.below⟩

theorem ref14_Of (w : World) (a b : Body) (ha : Okb a) (hb : Okb b) : Calls Tryz.prog 46 #[(.agg (bodyCells a).toArray), (.agg (bodyCells b).toArray)] w (fun ex w' => ∃ v, ex = .returned v ∧ (fun v w' => v = .tuple #[.agg (conO (conOf a b)).toArray, .bool (conOf a b).isSome] ∧ Below w.heap.size w w') v w') := by
  unfold conOf
  by_cases hk : b.key < a.key
  · rw [if_pos hk]; exact ref14_Of1 w a b ha hb hk
  · rw [if_neg hk]; exact ref14_Of0 w a b ha hb hk

end Go.Proofs.YtmcddmhkjcgneaaGreatDoor

/- Walks of Go functions over the frame of this claim: what each computes, for every input of the stated types (W6). -/
set_option linter.unusedVariables false
set_option linter.unusedSimpArgs false
set_option linter.unnecessarySimpa false
namespace Go.Proofs.YtmcddmhkjcgneaaGreatDoor
open Go.Bil
open Go.RowKit (Below)
open Go.Proofs

set_option maxHeartbeats 4000000 in
theorem solidOf (w : World) (b : Body) (hb : Okb b) :
    Calls Tryz.prog 110 #[(.agg (bodyCells b).toArray)] w (fun ex w' => ∃ v, ex = .returned v ∧ (fun v w' => v = (.agg (solidCells b).toArray) ∧ Below w.heap.size w w') v w') := by
  refine calls_of_W #[.cell 2 156] 14 Tryz.func110 rfl Tryz.results110 Tryz.ntmps110 rfl ?_
  have M0 := Mem.refl w
  refine W_seq ?_
  refine W_region ?_
  refine wl_box (.agg (List.toArray _)) M0 rfl rfl rfl (fun b1 w1 M1 => ?_)
  refine wl_alloc zero156 M1 rfl rfl (fun b2 w2 M2 => ?_)
  refine wl_nil ?_
  refine thenN ?_
  refine W_seq ?_
  refine W_region ?_
  refine wl_q (r_ldW 0 agg32 M2 rfl rfl rfl) rfl rfl ?_
  refine wl_cal cal124 rfl rfl rfl ?_
  refine (body_Ends _ b hb).mono ?_
  rintro _ w3 ⟨v3, rfl, ⟨rfl, hb3⟩⟩
  refine ⟨_, rfl, ?_⟩
  have M3 := M2.callB hb3
  refine wl_q (r_move (.tuple (List.toArray _)) rfl) rfl rfl ?_
  refine wl_q (r_ext (.agg (List.toArray _)) rfl rfl) rfl rfl ?_
  refine wl_q (r_ext (.agg (List.toArray _)) rfl rfl) rfl rfl ?_
  refine wl_alloc zero29 M3 rfl rfl (fun b4 w4 M4 => ?_)
  refine wl_alloc zero29 M4 rfl rfl (fun b5 w5 M5 => ?_)
  refine wl_stW 2 _ agg29 M5 rfl rfl rfl rfl rfl (ones_of rfl) rfl (fun w6 M6 => ?_)
  refine wl_stW 3 _ agg29 M6 rfl rfl rfl rfl rfl (ones_of rfl) rfl (fun w7 M7 => ?_)
  refine wl_nil ?_
  refine thenN ?_
  refine W_seq ?_
  refine W_region ?_
  refine wl_q (r_ldW 0 agg32 M7 rfl rfl rfl) rfl rfl ?_
  refine wl_q (r_ldW 2 agg29 M7 rfl rfl rfl) rfl rfl ?_
  refine wl_q (r_ldW 3 agg29 M7 rfl rfl rfl) rfl rfl ?_
  refine wl_q (r_build [(0, .agg (List.toArray _)), (1, .agg (List.toArray _)), (2, .agg (List.toArray _))] _ struct156 rfl rfl) rfl rfl ?_
  refine wl_stW 1 _ agg156 M7 rfl rfl rfl rfl rfl (ones_of rfl) rfl (fun w8 M8 => ?_)
  refine wl_nil ?_
  refine thenN ?_
  refine W_ret ?_
  skip
  refine finC1 1 agg156 M8 rfl rfl rfl ?_
  exact ⟨rfl, M8.below⟩

set_option maxHeartbeats 4000000 in
theorem inOrder (w : World) (a b : Body) (ha : Okb a) (hb : Okb b) :
    Calls Tryz.prog 97 #[(.agg (bodyCells a).toArray), (.agg (bodyCells b).toArray)] w (fun ex w' => ∃ v, ex = .returned v ∧ (fun v w' => v = .tuple #[(.agg (solidCells (loB a b)).toArray), (.agg (solidCells (hiB a b)).toArray)] ∧ Below w.heap.size w w') v w') := by
  refine calls_of_W #[.cell 4 156, .cell 5 156] 17 Tryz.func97 rfl Tryz.results97 Tryz.ntmps97 rfl ?_
  have M0 := Mem.refl w
  refine W_seq ?_
  refine W_region ?_
  refine wl_box (.agg (List.toArray _)) M0 rfl rfl rfl (fun b1 w1 M1 => ?_)
  refine wl_box (.agg (List.toArray _)) M1 rfl rfl rfl (fun b2 w2 M2 => ?_)
  refine wl_alloc zero156 M2 rfl rfl (fun b3 w3 M3 => ?_)
  refine wl_alloc zero156 M3 rfl rfl (fun b4 w4 M4 => ?_)
  refine wl_nil ?_
  refine thenN ?_
  refine W_seq ?_
  refine W_seq ?_
  refine W_region ?_
  refine wl_q (r_fieldAddr 0 fld32_0 rfl) rfl rfl ?_
  refine wl_q (r_ld 0 (.int _ _) one30 M4 rfl rfl rfl) rfl rfl ?_
  refine wl_q (r_fieldAddr 0 fld32_0 rfl) rfl rfl ?_
  refine wl_q (r_ld 1 (.int _ _) one30 M4 rfl rfl rfl) rfl rfl ?_
  refine wl_q (r_bin (.bool (decide _)) rfl rfl rfl) rfl rfl ?_
  refine wl_nil ?_
  refine thenN ?_
  refine W_condD rfl (fun h10 => ?_) (fun h10 => ?_)
  · skip
    refine W_region ?_
    refine wl_q (r_ldW 1 agg32 M4 rfl rfl rfl) rfl rfl ?_
    refine wl_q (r_ldW 0 agg32 M4 rfl rfl rfl) rfl rfl ?_
    refine wl_stW 0 _ agg32 M4 rfl rfl rfl rfl rfl (ones_of rfl) rfl (fun w5 M5 => ?_)
    refine wl_stW 1 _ agg32 M5 rfl rfl rfl rfl rfl (ones_of rfl) rfl (fun w6 M6 => ?_)
    refine wl_nil ?_
    refine thenN ?_
    refine W_seq ?_
    refine W_draw [(0, 1), (2, 1), (1, 2), (3, 2), (4, 2), (5, 2)] mixed rfl (by kernel_rfl) (fun w7 hb7 hh7 => ?_)
    have M7 := M6.drew hb7 hh7
    refine D_r rfl rfl rfl (r_ldW 0 agg32 M7 rfl rfl rfl) ?_
    refine D_r rfl rfl rfl (r_ldW 1 agg32 M7 rfl rfl rfl) ?_
    refine D_e [false, true] rfl (by kernel_rfl) ?_
    refine wl_cal cal110 rfl rfl rfl ?_
    refine (solidOf _ b hb).mono ?_
    rintro _ w8 ⟨v8, rfl, ⟨rfl, hb8⟩⟩
    refine ⟨_, rfl, ?_⟩
    have M8 := M7.callB hb8
    refine wl_nil (thenN ⟨(alC (Yl_of rfl (r_ldW 1 agg32 M8 rfl rfl rfl)) alN), ?_⟩)
    refine D_e [true] rfl (by kernel_rfl) ?_
    refine wl_cal cal110 rfl rfl rfl ?_
    refine (solidOf _ a ha).mono ?_
    rintro _ w9 ⟨v9, rfl, ⟨rfl, hb9⟩⟩
    refine ⟨_, rfl, ?_⟩
    have M9 := M8.callB hb9
    refine wl_nil (thenN ⟨alN, ?_⟩)
    refine D_e [] rfl (by kernel_rfl) ?_
    refine wl_stW 2 _ agg156 M9 rfl rfl rfl rfl rfl (ones_of rfl) rfl (fun w10 M10 => ?_)
    refine wl_nil (thenN ⟨alN, ?_⟩)
    refine D_e [] rfl (by kernel_rfl) ?_
    refine wl_stW 3 _ agg156 M10 rfl rfl rfl rfl rfl (ones_of rfl) rfl (fun w11 M11 => ?_)
    refine wl_nil (thenN ⟨alN, ?_⟩)
    refine D_nil ?_
    refine thenN ?_
    refine W_ret ?_
    skip
    refine finCC 2 3 agg156 M11 rfl rfl rfl rfl rfl rfl ?_
    exact ⟨by unfold loB hiB; first | rw [if_pos (by omega), if_pos (by omega)] | rw [if_neg (by omega), if_neg (by omega)], M11.below⟩
  · skip
    refine W_skip ?_
    refine thenN ?_
    refine W_seq ?_
    refine W_draw [(0, 1), (2, 1), (1, 2), (3, 2), (4, 2), (5, 2)] mixed rfl (by kernel_rfl) (fun w12 hb12 hh12 => ?_)
    have M12 := M4.drew hb12 hh12
    refine D_r rfl rfl rfl (r_ldW 0 agg32 M12 rfl rfl rfl) ?_
    refine D_r rfl rfl rfl (r_ldW 1 agg32 M12 rfl rfl rfl) ?_
    refine D_e [false, true] rfl (by kernel_rfl) ?_
    refine wl_cal cal110 rfl rfl rfl ?_
    refine (solidOf _ a ha).mono ?_
    rintro _ w13 ⟨v13, rfl, ⟨rfl, hb13⟩⟩
    refine ⟨_, rfl, ?_⟩
    have M13 := M12.callB hb13
    refine wl_nil (thenN ⟨(alC (Yl_of rfl (r_ldW 1 agg32 M13 rfl rfl rfl)) alN), ?_⟩)
    refine D_e [true] rfl (by kernel_rfl) ?_
    refine wl_cal cal110 rfl rfl rfl ?_
    refine (solidOf _ b hb).mono ?_
    rintro _ w14 ⟨v14, rfl, ⟨rfl, hb14⟩⟩
    refine ⟨_, rfl, ?_⟩
    have M14 := M13.callB hb14
    refine wl_nil (thenN ⟨alN, ?_⟩)
    refine D_e [] rfl (by kernel_rfl) ?_
    refine wl_stW 2 _ agg156 M14 rfl rfl rfl rfl rfl (ones_of rfl) rfl (fun w15 M15 => ?_)
    refine wl_nil (thenN ⟨alN, ?_⟩)
    refine D_e [] rfl (by kernel_rfl) ?_
    refine wl_stW 3 _ agg156 M15 rfl rfl rfl rfl rfl (ones_of rfl) rfl (fun w16 M16 => ?_)
    refine wl_nil (thenN ⟨alN, ?_⟩)
    refine D_nil ?_
    refine thenN ?_
    refine W_ret ?_
    skip
    refine finCC 2 3 agg156 M16 rfl rfl rfl rfl rfl rfl ?_
    exact ⟨by unfold loB hiB; first | rw [if_pos (by omega), if_pos (by omega)] | rw [if_neg (by omega), if_neg (by omega)], M16.below⟩

set_option maxHeartbeats 4000000 in
theorem measure (w : World) (a b : Body) (ha : Okb a) (hb : Okb b) :
    Calls Tryz.prog 98 #[(.agg (solidCells a).toArray), (.agg (solidCells b).toArray)] w (fun ex w' => ∃ v, ex = .returned v ∧ (fun v w' => v = .tuple #[.int .i64 (chDx (chB a b)), .int .i64 (chDy (chB a b)), .int .i64 (a.radius + b.radius)] ∧ Below w.heap.size w w') v w') := by
  have hra := ha.r
  have hrb := hb.r
  have hch := chB_in ha hb
  refine calls_of_W #[.tmp 4, .tmp 5, .tmp 6] 38 Tryz.func98 rfl Tryz.results98 Tryz.ntmps98 rfl ?_
  have M0 := Mem.refl w
  refine W_seq ?_
  refine W_region ?_
  refine wl_box (.agg (List.toArray _)) M0 rfl rfl rfl (fun b1 w1 M1 => ?_)
  refine wl_box (.agg (List.toArray _)) M1 rfl rfl rfl (fun b2 w2 M2 => ?_)
  refine wl_q (r_assign (.int _ _) rfl) rfl rfl ?_
  refine wl_q (r_assign (.int _ _) rfl) rfl rfl ?_
  refine wl_q (r_assign (.int _ _) rfl) rfl rfl ?_
  refine wl_nil ?_
  refine thenN ?_
  refine W_seq ?_
  refine W_region ?_
  refine wl_q (r_fieldAddr 10 fld156_1 rfl) rfl rfl ?_
  refine wl_q (r_ldA 0 _ agg29 M2 rfl rfl rfl rfl) rfl rfl ?_
  refine wl_q (r_fieldAddr 12 fld156_2 rfl) rfl rfl ?_
  refine wl_q (r_ldA 0 _ agg29 M2 rfl rfl rfl rfl) rfl rfl ?_
  refine wl_q (r_fieldAddr 10 fld156_1 rfl) rfl rfl ?_
  refine wl_q (r_ldA 1 _ agg29 M2 rfl rfl rfl rfl) rfl rfl ?_
  refine wl_q (r_fieldAddr 12 fld156_2 rfl) rfl rfl ?_
  refine wl_q (r_ldA 1 _ agg29 M2 rfl rfl rfl rfl) rfl rfl ?_
  refine wl_cal cal111 rfl rfl rfl ?_
  refine (seg_Chosen _ (endP a) (endQ a) (endP b) (endQ b) (ends_in ha) (ends_in hb)).mono ?_
  rintro _ w3 ⟨v3, rfl, ⟨rfl, hb3⟩⟩
  refine ⟨_, rfl, ?_⟩
  have M3 := M2.callB hb3
  refine wl_q (r_move (.tuple (List.toArray _)) rfl) rfl rfl ?_
  refine wl_q (r_ext (.agg (List.toArray _)) rfl rfl) rfl rfl ?_
  refine wl_q (r_ext (.agg (List.toArray _)) rfl rfl) rfl rfl ?_
  refine wl_alloc zero29 M3 rfl rfl (fun b4 w4 M4 => ?_)
  refine wl_alloc zero29 M4 rfl rfl (fun b5 w5 M5 => ?_)
  refine wl_stW 2 _ agg29 M5 rfl rfl rfl rfl rfl (ones_of rfl) rfl (fun w6 M6 => ?_)
  refine wl_stW 3 _ agg29 M6 rfl rfl rfl rfl rfl (ones_of rfl) rfl (fun w7 M7 => ?_)
  refine wl_nil ?_
  refine thenN ?_
  refine W_seq ?_
  refine W_region ?_
  refine wl_q (r_ldW 2 agg29 M7 rfl rfl rfl) rfl rfl ?_
  refine wl_q (r_ldW 3 agg29 M7 rfl rfl rfl) rfl rfl ?_
  refine wl_cal cal112 rfl rfl rfl ?_
  refine (vec_Diff _ (chB a b).1 (chB a b).2.1 hch.a.i32 hch.b.i32).mono ?_
  rintro _ w8 ⟨v8, rfl, ⟨rfl, hb8⟩⟩
  refine ⟨_, rfl, ?_⟩
  have M8 := M7.callB hb8
  refine wl_q (r_move (.tuple (List.toArray _)) rfl) rfl rfl ?_
  refine wl_q (r_ext (.int _ _) rfl rfl) rfl rfl ?_
  refine wl_q (r_ext (.int _ _) rfl rfl) rfl rfl ?_
  refine wl_q (r_assign (.int _ _) rfl) rfl rfl ?_
  refine wl_q (r_assign (.int _ _) rfl) rfl rfl ?_
  refine wl_nil ?_
  refine thenN ?_
  refine W_seq ?_
  refine W_draw [(0, 0), (1, 0), (2, 0), (3, 0), (4, 1), (5, 0), (6, 0), (7, 0), (8, 1), (9, 0), (10, 0), (11, 0), (12, 0), (13, 0)] mixed rfl (by kernel_rfl) (fun w9 hb9 hh9 => ?_)
  have M9 := M8.drew hb9 hh9
  refine D_p rfl rfl rfl (fun _ => r_move (.int _ _) rfl) ?_
  refine D_p rfl rfl rfl (fun _ => r_move (.int _ _) rfl) ?_
  refine D_p rfl rfl rfl (fun _ => r_fieldAddr 0 fld156_0 rfl) ?_
  refine D_p rfl rfl rfl (fun _ => r_fieldAddr 1 fld32_1 rfl) ?_
  refine D_r rfl rfl rfl (r_ld 0 (.int _ _) one21 M9 rfl rfl rfl) ?_
  refine D_p rfl rfl rfl (fun _ => r_convK us21 Tryz.underlying2 rfl (w64 _ (by omega) (by omega))) ?_
  refine D_p rfl rfl rfl (fun _ => r_fieldAddr 0 fld156_0 rfl) ?_
  refine D_p rfl rfl rfl (fun _ => r_fieldAddr 1 fld32_1 rfl) ?_
  refine D_r rfl rfl rfl (r_ld 1 (.int _ _) one21 M9 rfl rfl rfl) ?_
  refine D_p rfl rfl rfl (fun _ => r_convK us21 Tryz.underlying2 rfl (w64 _ (by omega) (by omega))) ?_
  refine D_p rfl rfl rfl (fun _ => r_add rfl rfl (by omega) (by omega)) ?_
  refine D_p rfl rfl rfl (fun _ => r_assign (.int _ _) rfl) ?_
  refine D_p rfl rfl rfl (fun _ => r_assign (.int _ _) rfl) ?_
  refine D_p rfl rfl rfl (fun _ => r_assign (.int _ _) rfl) ?_
  refine D_nil ?_
  refine thenN ?_
  refine W_ret ?_
  skip
  refine fin3 (.int _ _) (.int _ _) (.int _ _) rfl rfl rfl ?_
  exact ⟨rfl, M9.below⟩

set_option maxHeartbeats 4000000 in
theorem contact_Of (w : World) (a b : Body) (ha : Okb a) (hb : Okb b) :
    Calls Tryz.prog 77 #[(.agg (bodyCells a).toArray), (.agg (bodyCells b).toArray)] w (fun ex w' => ∃ v, ex = .returned v ∧ (fun v w' => v = .tuple #[.agg (conO (conOf a b)).toArray, .bool (conOf a b).isSome] ∧ Below w.heap.size w w') v w') := by
  obtain ⟨hlo, hhi⟩ := loB_ok ha hb
  have hd := chB_d hlo hhi
  have hl := len_lt hd.1 hd.2
  have hss := sum_sq hlo hhi
  have hr1 := hlo.r
  have hr2 := hhi.r
  refine calls_of_W #[.cell 4 63, .tmp 5] 52 Tryz.func77 rfl Tryz.results77 Tryz.ntmps77 rfl ?_
  have M0 := Mem.refl w
  refine W_seq ?_
  refine W_region ?_
  refine wl_box (.agg (List.toArray _)) M0 rfl rfl rfl (fun b1 w1 M1 => ?_)
  refine wl_box (.agg (List.toArray _)) M1 rfl rfl rfl (fun b2 w2 M2 => ?_)
  refine wl_alloc zero63 M2 rfl rfl (fun b3 w3 M3 => ?_)
  refine wl_q (r_assign (.bool false) rfl) rfl rfl ?_
  refine wl_nil ?_
  refine thenN ?_
  refine W_seq ?_
  refine W_region ?_
  refine wl_q (r_ldW 0 agg32 M3 rfl rfl rfl) rfl rfl ?_
  refine wl_q (r_ldW 1 agg32 M3 rfl rfl rfl) rfl rfl ?_
  refine wl_cal cal97 rfl rfl rfl ?_
  refine (inOrder _ a b ha hb).mono ?_
  rintro _ w4 ⟨v4, rfl, ⟨rfl, hb4⟩⟩
  refine ⟨_, rfl, ?_⟩
  have M4 := M3.callB hb4
  refine wl_q (r_move (.tuple (List.toArray _)) rfl) rfl rfl ?_
  refine wl_q (r_ext (.agg (List.toArray _)) rfl rfl) rfl rfl ?_
  refine wl_q (r_ext (.agg (List.toArray _)) rfl rfl) rfl rfl ?_
  refine wl_alloc zero156 M4 rfl rfl (fun b5 w5 M5 => ?_)
  refine wl_alloc zero156 M5 rfl rfl (fun b6 w6 M6 => ?_)
  refine wl_stW 3 _ agg156 M6 rfl rfl rfl rfl rfl (ones_of rfl) rfl (fun w7 M7 => ?_)
  refine wl_stW 4 _ agg156 M7 rfl rfl rfl rfl rfl (ones_of rfl) rfl (fun w8 M8 => ?_)
  refine wl_nil ?_
  refine thenN ?_
  refine W_seq ?_
  refine W_region ?_
  refine wl_q (r_ldW 3 agg156 M8 rfl rfl rfl) rfl rfl ?_
  refine wl_q (r_ldW 4 agg156 M8 rfl rfl rfl) rfl rfl ?_
  refine wl_cal cal98 rfl rfl rfl ?_
  refine (measure _ (loB a b) (hiB a b) hlo hhi).mono ?_
  rintro _ w9 ⟨v9, rfl, ⟨rfl, hb9⟩⟩
  refine ⟨_, rfl, ?_⟩
  have M9 := M8.callB hb9
  refine wl_q (r_move (.tuple (List.toArray _)) rfl) rfl rfl ?_
  refine wl_q (r_ext (.int _ _) rfl rfl) rfl rfl ?_
  refine wl_q (r_ext (.int _ _) rfl rfl) rfl rfl ?_
  refine wl_q (r_ext (.int _ _) rfl rfl) rfl rfl ?_
  refine wl_q (r_assign (.int _ _) rfl) rfl rfl ?_
  refine wl_q (r_assign (.int _ _) rfl) rfl rfl ?_
  refine wl_q (r_assign (.int _ _) rfl) rfl rfl ?_
  refine wl_nil ?_
  refine thenN ?_
  refine W_seq ?_
  refine W_seq ?_
  refine W_region ?_
  refine wl_q (r_move (.int _ _) rfl) rfl rfl ?_
  refine wl_q (r_move (.int _ _) rfl) rfl rfl ?_
  refine wl_cal cal63 rfl rfl rfl ?_
  refine (vec_LengthSq _ (chDx (chB (loB a b) (hiB a b))) (chDy (chB (loB a b) (hiB a b))) hd.1 hd.2).mono ?_
  rintro _ w10 ⟨v10, rfl, ⟨rfl, hb10⟩⟩
  refine ⟨_, rfl, ?_⟩
  have M10 := M9.callB hb10
  refine wl_q (r_move (.int _ _) rfl) rfl rfl ?_
  refine wl_q (r_move (.int _ _) rfl) rfl rfl ?_
  refine wl_q (r_mul rfl rfl (by omega) (by omega)) rfl rfl ?_
  refine wl_q (r_conv us2 Tryz.underlying26 rfl) rfl rfl ?_
  refine wl_re 31 (.int .u64 ((((loB a b).radius + (hiB a b).radius).natAbs * ((loB a b).radius + (hiB a b).radius).natAbs : Nat) : Int)) (iE (sq_cast _ hss)) ?_
  refine wl_q (r_bin (.bool (decide _)) rfl rfl rfl) rfl rfl ?_
  refine wl_nil ?_
  refine thenN ?_
  refine W_condD rfl (fun h32 => ?_) (fun h32 => ?_)
  · skip
    refine W_seq ?_
    refine W_region ?_
    refine wl_q (r_build [] _ struct63 rfl rfl) rfl rfl ?_
    refine wl_stW 2 _ agg63 M10 rfl rfl rfl rfl rfl (ones_of rfl) rfl (fun w11 M11 => ?_)
    refine wl_q (r_assign (.bool false) rfl) rfl rfl ?_
    refine wl_nil ?_
    refine thenN ?_
    refine W_ret ?_
    refine thenR ?_
    skip
    refine finC2 (v2 := .bool false) 2 agg63 M11 rfl rfl rfl rfl ?_
    exact ⟨by rw [conOf_lo]; unfold conLow; first | (rw [if_pos (by omega)]; rfl) | (rw [if_neg (by omega)]; rfl), M11.below⟩
  · skip
    refine W_skip ?_
    refine thenN ?_
    refine W_seq ?_
    refine W_region ?_
    refine wl_q (r_fieldAddr 0 fld156_0 rfl) rfl rfl ?_
    refine wl_q (r_fieldAddr 0 fld32_0 rfl) rfl rfl ?_
    refine wl_q (r_ld 3 (.int _ _) one30 M10 rfl rfl rfl) rfl rfl ?_
    refine wl_q (r_fieldAddr 0 fld156_0 rfl) rfl rfl ?_
    refine wl_q (r_fieldAddr 0 fld32_0 rfl) rfl rfl ?_
    refine wl_q (r_ld 4 (.int _ _) one30 M10 rfl rfl rfl) rfl rfl ?_
    refine wl_q (r_build [(0, .int _ _), (1, .int _ _)] _ struct61 rfl rfl) rfl rfl ?_
    refine wl_alloc zero61 M10 rfl rfl (fun b12 w12 M12 => ?_)
    refine wl_stW 5 _ agg61 M12 rfl rfl rfl rfl rfl (ones_of rfl) rfl (fun w13 M13 => ?_)
    refine wl_nil ?_
    refine thenN ?_
    refine W_seq ?_
    refine W_draw [(0, 1), (1, 0), (2, 0), (4, 0), (5, 0), (6, 0), (3, 2), (7, 2), (8, 0), (9, 0), (10, 0), (11, 2), (12, 0)] mixed rfl (by kernel_rfl) (fun w14 hb14 hh14 => ?_)
    have M14 := M13.drew hb14 hh14
    refine D_r rfl rfl rfl (r_ldW 5 agg61 M14 rfl rfl rfl) ?_
    refine D_p rfl rfl rfl (fun _ => r_move (.int _ _) rfl) ?_
    refine D_p rfl rfl rfl (fun _ => r_move (.int _ _) rfl) ?_
    refine D_p rfl rfl rfl (fun _ => r_move (.int _ _) rfl) ?_
    refine D_p rfl rfl rfl (fun _ => r_move (.int _ _) rfl) ?_
    refine D_p rfl rfl rfl (fun _ => r_move (.int _ _) rfl) ?_
    refine D_e [false] rfl (by kernel_rfl) ?_
    refine wl_cal cal99 rfl rfl rfl ?_
    refine (vec_Unit _ (chDx (chB (loB a b) (hiB a b))) (chDy (chB (loB a b) (hiB a b))) hd.1 hd.2).mono ?_
    rintro _ w15 ⟨v15, rfl, ⟨rfl, hb15⟩⟩
    refine ⟨_, rfl, ?_⟩
    have M15 := M14.callB hb15
    refine wl_nil (thenN ⟨(alC (Yl_of rfl (r_ldW 5 agg61 M15 rfl rfl rfl)) alN), ?_⟩)
    refine D_e [false] rfl (by kernel_rfl) ?_
    refine wl_cal cal100 rfl rfl rfl ?_
    refine (vec_Length _ (chDx (chB (loB a b) (hiB a b))) (chDy (chB (loB a b) (hiB a b))) hd.1 hd.2).mono ?_
    rintro _ w16 ⟨v16, rfl, ⟨rfl, hb16⟩⟩
    refine ⟨_, rfl, ?_⟩
    have M16 := M15.callB hb16
    refine wl_nil (thenN ⟨(alC (Yl_of rfl (r_ldW 5 agg61 M16 rfl rfl rfl)) alN), ?_⟩)
    refine D_p rfl rfl rfl (fun _ => r_sub rfl rfl (by omega) (by omega)) ?_
    refine D_p rfl rfl rfl (fun _ => r_conv us2 Tryz.underlying21 rfl) ?_
    refine D_p rfl rfl rfl (fun _ => r_build [(0, .agg (List.toArray _)), (1, .agg (List.toArray _)), (2, .int _ _)] _ struct63 rfl rfl) ?_
    refine D_e [true] rfl (by kernel_rfl) ?_
    refine wl_stW 2 _ agg63 M16 rfl rfl rfl rfl rfl (ones_of rfl) rfl (fun w17 M17 => ?_)
    refine wl_nil (thenN ⟨alN, ?_⟩)
    refine D_p rfl rfl rfl (fun _ => r_assign (.bool true) rfl) ?_
    refine D_nil ?_
    refine thenN ?_
    refine W_ret ?_
    skip
    refine finC2 (v2 := .bool true) 2 agg63 M17 rfl rfl rfl rfl ?_
    exact ⟨by rw [conOf_lo]; unfold conLow; first | (rw [if_pos (by omega)]; rfl) | (rw [if_neg (by omega)]; rfl), M17.below⟩

end Go.Proofs.YtmcddmhkjcgneaaGreatDoor
