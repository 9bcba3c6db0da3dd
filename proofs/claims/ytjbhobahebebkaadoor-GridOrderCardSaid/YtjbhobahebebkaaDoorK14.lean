/- Part of the proof of the laws of this seat: G10. No conditions. -/
import Derived.Test.YtjbhobahebebkaaDoorK5
import Derived.Test.YtjbhobahebebkaaDoorK12
import Derived.Test.YtjbhobahebebkaaDoorK13
/- Walks of Go functions over the frame of this claim: what each computes, for every input of the stated types (G10). -/
set_option linter.unusedVariables false
set_option linter.unusedSimpArgs false
set_option linter.unnecessarySimpa false
namespace Go.Proofs.YtjbhobahebebkaaDoor
open Go.Bil
open Go.RowKit (Below)
open Go.Proofs

set_option maxHeartbeats 16000000 in
theorem grid_Insert (w : World) (F : Rd w 2 (some ⟨0, 0, none⟩) 1 [[.int .u32 73856093, .int .u32 19349663]]) (b : Nat) (rs : List Row) (cnt : Int) (g : Nat → List Int) (hG : GridRows 42 rs g) (hcnt : 0 ≤ cnt ∧ cnt ≤ 1048576) (hgl : ∀ j, j < 1024 → (g j).length ≤ 1048576) (key : Int) (a : Bx) (ha : Okx a) (hO : Own ((some b, bc (gcells rs cnt) 30) :: rs.map Row.e) w) (hdF : 0 < 1 → ∀ q off, (some ⟨0, 0, none⟩ : Option Addr) = some ⟨q, off, none⟩ → q ∉ blks ((some b, bc (gcells rs cnt) 30) :: rs.map Row.e)) :
    Calls Tryd.prog 22 #[.pointer (some ⟨b, 0, none⟩), .int .u32 key, (.agg (bxCells a).toArray)] w (fun ex w' => ∃ v, ex = .returned v ∧ (fun v w' => v = .tuple #[] ∧ ∃ rs' : List Row, GridRows 42 rs' (addG g key ((cellsB a).map bucketI)) ∧ Mem w (blks ((some b, bc (gcells rs cnt) 30) :: rs.map Row.e)) ((some b, bc (gcells rs' (cnt + 1)) 30) :: rs'.map Row.e) w') v w') := by
  refine calls_of_W #[] 49 Tryd.func22 rfl Tryd.results22 Tryd.ntmps22 rfl ?_
  have M0 := hO.mem
  refine W_seq ?_
  refine W_region ?_
  refine wl_box (.agg (List.toArray _)) M0 rfl rfl rfl (fun b1 w1 M1 => ?_)
  have M2 : Mem _ _ ([_, _] ++ _) _ := Mem.front (L := [_]) M1
  refine wl_nil ?_
  refine thenN ?_
  refine W_seq ?_
  refine W_seq ?_
  refine W_region ?_
  refine wl_q (r_move (.pointer _) rfl) rfl rfl ?_
  refine wl_q (r_eqPtrNil false Tryd.underlying32 rfl rfl) rfl rfl ?_
  refine wl_nil ?_
  refine thenN ?_
  refine W_condF rfl ?_
  refine W_skip ?_
  refine thenN ?_
  refine W_seq ?_
  refine W_region ?_
  refine wl_q (r_move (.pointer _) rfl) rfl rfl ?_
  refine wl_q (r_nilCheck rfl) rfl rfl ?_
  refine wl_q (r_fieldAddr 1024 fld30_1 rfl) rfl rfl ?_
  refine wl_q (r_ld 0 (.int .i64 cnt) one3 M2 rfl rfl (gcells_cnt hG.len)) rfl rfl ?_
  refine wl_q (r_add rfl rfl (by omega) (by omega)) rfl rfl ?_
  refine wl_q (r_nilCheck rfl) rfl rfl ?_
  refine wl_q (r_fieldAddr 1024 fld30_1 rfl) rfl rfl ?_
  refine wl_st 0 (.int _ _) one3 M2 rfl rfl rfl rfl rfl (by rw [gcells_cnt hG.len]; rfl) (fun w3 M3 => ?_)
  have M3b : Mem _ _ ([(some b, bc (gcells rs (cnt + 1)) 30), _] ++ rs.map Row.e) _ := Mem.cells0 M3 (gcells_setcnt hG.len)
  refine wl_nil ?_
  refine thenN ?_
  refine W_seq ?_
  refine W_region ?_
  refine wl_makeMap M3b rfl rfl (fun b4 w4 M4 => ?_)
  have M5 : Mem _ _ ([_, _, _] ++ _) _ := Mem.front (L := [_, _]) M4
  refine wl_q (r_assign (.map _) rfl) rfl rfl ?_
  refine wl_nil ?_
  refine thenN ?_
  refine W_seq ?_
  refine W_region ?_
  refine wl_q (r_ldW 1 agg56 M5 rfl rfl rfl) rfl rfl ?_
  refine wl_cal cal39 rfl rfl rfl ?_
  refine (cell_All _ a ha).mono ?_
  rintro _ w6 ⟨v6, rfl, ⟨r0, rfl, hR0, hM6⟩⟩
  refine ⟨_, rfl, ?_⟩
  have M6 : Mem _ _ ([_, _, _, _] ++ _) _ := Mem.front (L := [_, _, _]) (M5.call0 hM6)
  have hcl : (cellsB a).length = r0.n := by simpa using hR0.1
  have hcb := cellsB_len ha
  refine wl_q (r_lenS Tryd.underlying81 rfl) rfl rfl ?_
  refine wl_q (r_move (.int _ _) rfl) rfl rfl ?_
  refine wl_nil ?_
  refine thenN ?_
  refine W_block ?_
  refine W_loop (σ := Nat × List Row × Ent) [0, 1, 6, 21, 22] (fun (i, rs1, em) => [(23, .int .i64 (i : Int))]) (fun (i, rs1, em) w' => (i ≤ r0.n ∧ GridRows 42 rs1 (addG g key (((cellsB a).map bucketI).take i)) ∧ MapE .i64 Value.bool (doneF (((cellsB a).map bucketI).take i)) (some b4) em) ∧ Mem w (blks ((some b, bc (gcells rs cnt) 30) :: rs.map Row.e)) ([(some b, bc (gcells rs1 (cnt + 1)) 30), (some b1, bc (bxCells a) 56), em, r0.e] ++ rs1.map Row.e) w') (fun (i, rs1, em) => r0.n - i) (0, rs, (some b4, .map #[] 0)) (agC rfl agN) (⟨⟨by omega, by rw [List.take_zero, addG_nil]; exact hG, (MapE.empty _ _ b4).congr (fun q => by rw [List.take_zero]; exact doneF_nil q)⟩, M6⟩) ?_
  rintro ⟨i, rs1, em⟩ ρ7 w7 ⟨⟨hi, hrs, hme⟩, hM7⟩
  refine W_seq ?_
  refine W_region ?_
  refine wl_q (r_bin (.bool (decide _)) rfl rfl rfl) rfl rfl ?_
  refine wl_nil ?_
  refine thenN ?_
  refine W_seq ?_
  refine W_condD rfl (fun h24 => ?_) (fun h24 => ?_)
  · skip
    obtain ⟨xc, hxc⟩ := getSome (xs := cellsB a) (k := i) hcl (by omega)
    have hbb : ((cellsB a).map bucketI)[i]? = some (bucketI xc) := by rw [List.getElem?_map, hxc]; rfl
    refine W_skip ?_
    refine thenN ?_
    refine W_seq ?_
    refine W_block ?_
    refine W_seq ?_
    refine W_region ?_
    refine wl_q (r_idxR (i) sl81 rfl rfl rfl ((hR0.rd hM7 (nthMem (i := 3) rfl)).below_len (mapGet cellCells hxc)) ((hR0.rd hM7 (nthMem (i := 3) rfl)).someK (mapGet cellCells hxc))) rfl rfl ?_
    refine wl_q (r_ldEA _ agg73 (hR0.rd hM7 (nthMem (i := 3) rfl)) (mapGet cellCells hxc) rfl) rfl rfl ?_
    refine wl_alloc zero73 hM7 rfl rfl (fun b8 w8 M8 => ?_)
    have M9 : Mem _ _ ([_, _, _, _, _] ++ _) _ := Mem.front (L := [_, _, _, _]) M8
    refine wl_stW 4 _ agg73 M9 rfl rfl rfl rfl rfl (ones_of rfl) rfl (fun w10 M10 => ?_)
    refine wl_nil ?_
    refine thenN ?_
    refine W_seq ?_
    refine W_region ?_
    refine wl_q (r_ldW 4 agg73 M10 rfl rfl rfl) rfl rfl ?_
    refine wl_cal cal32 rfl rfl rfl ?_
    refine (cell_Bucket _ (F.memY M10 hdF) xc).mono ?_
    rintro _ w11 ⟨v11, rfl, ⟨rfl, hb11⟩⟩
    refine ⟨_, rfl, ?_⟩
    have M11 := M10.callB hb11
    refine wl_q (r_assign (.int _ _) rfl) rfl rfl ?_
    refine wl_nil ?_
    refine thenN ?_
    refine W_seq ?_
    refine W_seq ?_
    refine W_region ?_
    refine wl_q (r_move (.map _) rfl) rfl rfl ?_
    refine wl_q (r_move (.int _ _) rfl) rfl rfl ?_
    refine wl_q (r_lookup1 (enc := Value.bool) false 2 map80 zv4 M11 rfl hme rfl rfl) rfl rfl ?_
    refine wl_nil ?_
    refine thenN ?_
    refine W_cond _ rfl (fun h31 => ?_) (fun h31 => ?_)
    · skip
      refine W_exit ?_
      refine thenX ?_
      refine blkH ?_
      refine thenN ?_
      refine W_region ?_
      refine wl_q (r_add rfl rfl (by omega) (by omega)) rfl rfl ?_
      refine wl_q (r_move (.int _ _) rfl) rfl rfl ?_
      refine wl_nil ?_
      refine roundN (i + 1, rs1, em) (agC rfl agN) (akC rfl (akC rfl (akC rfl (akC rfl (akC rfl akN))))) ?_ ?_
      · exact ⟨⟨by omega, by rw [addG_old hbb (doneF_yes.1 h31)]; exact hrs, by rw [doneF_old hbb (doneF_yes.1 h31)]; exact hme⟩, Mem.keepL (L := [_, _, _, _, _]) [true, true, true, true, false] M11⟩
      · (show r0.n - (i + 1) < r0.n - i; omega)
    · skip
      have hnb : bucketI xc ∉ ((cellsB a).map bucketI).take i := fun h => by have h2 := doneF_yes.2 h; rw [h2] at h31; cases h31
      refine W_skip ?_
      refine thenN ?_
      refine W_seq ?_
      refine W_region ?_
      refine wl_q (r_move (.map _) rfl) rfl rfl ?_
      refine wl_q (r_move (.int _ _) rfl) rfl rfl ?_
      refine wl_mapUpdate (enc := Value.bool) 2 map80 M11 rfl rfl hme rfl rfl rfl rfl (fun e12 w12 hm12 M12 => ?_)
      refine wl_nil ?_
      refine thenN ?_
      refine W_draw [(0, 0), (1, 0), (2, 0), (3, 0), (4, 0), (5, 0), (6, 0), (7, 1), (8, 0), (11, 0), (12, 0), (9, 2), (10, 2), (13, 0), (14, 2)] mixed rfl (by kernel_rfl) (fun w13 hb13 hh13 => ?_)
      have M13 := M12.drew hb13 hh13
      refine D_p rfl rfl rfl (fun _ => r_move (.pointer _) rfl) ?_
      refine D_p rfl rfl rfl (fun _ => r_move (.int _ _) rfl) ?_
      refine D_p rfl rfl rfl (fun _ => r_move (.pointer _) rfl) ?_
      refine D_p rfl rfl rfl (fun _ => r_move (.int _ _) rfl) ?_
      refine D_p rfl rfl rfl (fun _ => r_nilCheck rfl) ?_
      refine D_p rfl rfl rfl (fun _ => r_fieldAddr 0 fld30_0 rfl) ?_
      refine D_p rfl rfl rfl (fun _ => r_idxP (bucketI xc) arr28 rfl rfl rfl (bucket_lt xc)) ?_
      obtain ⟨rb, hrb⟩ := hrs.get (bucket_lt xc)
      have hrowb := hrs.row _ _ hrb
      have hgb : addG g key (((cellsB a).map bucketI).take i) (bucketI xc) = g (bucketI xc) := by unfold addG; rw [if_neg hnb]
      have hrn : (addG g key (((cellsB a).map bucketI).take i) (bucketI xc)).length = rb.n := by simpa using hrowb.1
      have hgl := hgl (bucketI xc) (bucket_lt xc)
      rw [hgb] at hrn
      have M14 : Mem _ _ ([_, _, _, _, _, _] ++ (rs1.eraseIdx (bucketI xc)).map Row.e) _ := Mem.pull (L := [_, _, _, _, _]) (rs := rs1) M13 hrb
      refine D_r rfl rfl rfl (r_ld 0 (.slice _ _ _) one27 M14 rfl rfl (gcells_row hrb)) ?_
      refine D_p rfl rfl rfl (fun _ => r_move (.int _ _) rfl) ?_
      refine D_p rfl rfl rfl (fun _ => r_nilCheck rfl) ?_
      refine D_p rfl rfl rfl (fun _ => r_fieldAddr 0 fld30_0 rfl) ?_
      refine D_e [false] rfl (by kernel_rfl) ?_
      refine wl_bslice [.int _ _] [keyCell key] rfl sl27 M14 rfl rfl rfl rfl (lens_of rfl) (by decide) (fun b15 w15 M15 => ?_)
      have M16 : Mem _ _ ([_, _, _, _, _, _, _] ++ _) _ := Mem.front (L := [_, _, _, _, _, _]) M15
      refine wl_nil (thenN ⟨(alC (Yl_of rfl (r_ld 0 (.slice _ _ _) one27 M16 rfl rfl (gcells_row hrb))) alN), ?_⟩)
      refine D_e [true] rfl (by kernel_rfl) ?_
      refine wl_append 5 [keyCell key] sl27 M16 rfl rfl rfl rfl rfl hrowb rfl (keyCell_ok _) (Cells.ofMem 6 M16 rfl) (by omega) (fun A17 c17 e17 w17 M17 hR17 => ?_)
      refine wl_nil (thenN ⟨alN, ?_⟩)
      refine D_p rfl rfl rfl (fun _ => r_idxP (bucketI xc) arr28 rfl rfl rfl (bucket_lt xc)) ?_
      refine D_e [] rfl (by kernel_rfl) ?_
      refine wl_st 0 (.slice _ _ _) one27 M17 rfl rfl rfl rfl rfl (by rw [gcells_row hrb]; rfl) (fun w18 M18 => ?_)
      have M18b : Mem _ _ ([(some b, bc (gcells (rs1.set (bucketI xc) (⟨A17, rb.n + 1, c17, e17⟩ : Row)) (cnt + 1)) 30), _, _, _, _, _, _] ++ (rs1.eraseIdx (bucketI xc)).map Row.e) _ := Mem.cells0 M18 (gcells_setrow (⟨A17, rb.n + 1, c17, e17⟩ : Row) (by rw [hrs.len]; exact bucket_lt xc))
      refine wl_nil (thenN ⟨alN, ?_⟩)
      refine D_nil ?_
      refine blkN ?_
      refine thenN ?_
      refine W_region ?_
      refine wl_q (r_add rfl rfl (by omega) (by omega)) rfl rfl ?_
      refine wl_q (r_move (.int _ _) rfl) rfl rfl ?_
      refine wl_nil ?_
      refine roundN (i + 1, rs1.set (bucketI xc) (⟨A17, rb.n + 1, c17, e17⟩ : Row), e12) (agC rfl agN) (akC rfl (akC rfl (akC rfl (akC rfl (akC rfl akN))))) ?_ ?_
      · exact ⟨⟨by omega, by rw [addG_new hbb hnb]; exact hrs.put (r := (⟨A17, rb.n + 1, c17, e17⟩ : Row)) (bucket_lt xc) (by simpa using hR17), hm12.congr (fun q => doneF_new hbb q)⟩, Mem.push (L := [_, _, _, _]) (rs := rs1) (⟨A17, rb.n + 1, c17, e17⟩ : Row) (Mem.keepL (L := [_, _, _, _, _, _, _]) [true, true, true, true, false, true, false] M18b) (by rw [hrs.len]; exact bucket_lt xc)⟩
      · (show r0.n - (i + 1) < r0.n - i; omega)
  · skip
    have hin : i = r0.n := by omega
    rw [List.take_of_length_le (by simp; omega)] at hrs
    refine W_exit ?_
    refine thenX ?_
    refine roundX ?_
    refine blkH ?_
    refine fin0n ?_
    exact ⟨rfl, rs1, hrs, Mem.keepL (L := [_, _, _, _]) [true, false, false, false] hM7⟩

end Go.Proofs.YtjbhobahebebkaaDoor
