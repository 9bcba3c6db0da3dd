/- The law MeasureMoves returns true for every input, and what it reads stays as it was. No conditions. -/
import Derived.Test.YtmcddmhkjcgneaaGreatDoorK5
import Derived.Test.YtmcddmhkjcgneaaGreatDoorK27
import Derived.Test.YtmcddmhkjcgneaaGreatDoorK24
import Derived.Test.YtmcddmhkjcgneaaGreatDoorRows
import Derived.Test.YtmcddmhkjcgneaaGreatDoorK28
import Derived.Test.YtmcddmhkjcgneaaGreatDoorTie
import Derived.Test.YtmcddmhkjcgneaaGreatDoorCards
import Derived.WalkKit
import Derived.ProofKit
import Derived.OpenShut
import Derived.ShutString
import Derived.ChangeOld
import Derived.Below
import Derived.SizedLaws
/- Walks of Go functions over the frame of this claim: what each computes, for every input of the stated types (LMeasureMoves). -/
set_option linter.unusedVariables false
set_option linter.unusedSimpArgs false
set_option linter.unnecessarySimpa false
namespace Go.Proofs.YtmcddmhkjcgneaaGreatDoor
open Go.Bil
open Go.RowKit (Below)
open Go.Proofs

set_option maxHeartbeats 16000000 in
theorem law_MeasureMoves (w : World) (F : Rd w 2 (some ⟨1, 0, none⟩) 1 [[.int .u32 73856093, .int .u32 19349663]]) (N : Rd w 4 (some ⟨0, 0, none⟩) 1 [bxCells noneB]) (dx dy : Int) (hdx : -2147483648 ≤ dx ∧ dx ≤ 2147483647) (hdy : -2147483648 ≤ dy ∧ dy ≤ 2147483647) (A : Option Addr) (n c : Nat) (xs : List Body) (R : Rd w 10 A n (xs.map bodyCells)) :
    Calls Tryz.prog 6 #[.slice A n c, .agg [.int .i32 dx, .int .i32 dy].toArray] w (fun ex w' => ∃ v, ex = .returned v ∧ (fun v w' => v = .bool true ∧ Below w.heap.size w w') v w') := by
  have hlen : xs.length = n := by simpa using R.len
  have hbd := R.bound
  refine calls_of_W #[.tmp 4] 120 Tryz.func6 rfl Tryz.results6 Tryz.ntmps6 rfl ?_
  have M0 := Mem.refl w
  refine W_seq ?_
  refine W_region ?_
  refine wl_box (.agg (List.toArray _)) M0 rfl rfl rfl (fun b1 w1 M1 => ?_)
  refine wl_q (r_assign (.bool false) rfl) rfl rfl ?_
  refine wl_nil ?_
  refine thenN ?_
  refine W_seq ?_
  refine W_region ?_
  refine wl_q (r_move (.slice _ _ _) rfl) rfl rfl ?_
  refine wl_cal cal14 rfl rfl rfl ?_
  refine (ref11_View _ _ _ _ xs (R.mem M1)).mono ?_
  rintro _ w2 ⟨v2, rfl, ⟨r, rfl, hr, hM2⟩⟩
  refine ⟨_, rfl, ?_⟩
  have M2 : Mem _ _ [_, _] _ := M1.call0 hM2
  refine wl_q (r_move (.tuple (List.toArray _)) rfl) rfl rfl ?_
  refine wl_q (r_ext (.slice _ _ _) rfl rfl) rfl rfl ?_
  refine wl_q (r_ext (.bool (decide _)) rfl rfl) rfl rfl ?_
  refine wl_q (r_assign (.slice _ _ _) rfl) rfl rfl ?_
  refine wl_q (r_assign (.bool (decide _)) rfl) rfl rfl ?_
  refine wl_nil ?_
  refine thenN ?_
  refine W_seq ?_
  refine W_seq ?_
  refine W_region ?_
  refine wl_cal cal15 rfl rfl rfl ?_
  refine (aw26 _ (F.mem M2) (N.mem M2)).mono ?_
  rintro _ w3 ⟨v3, rfl, ⟨rfl, hb3⟩⟩
  refine ⟨_, rfl, ?_⟩
  have M3 := M2.callB hb3
  refine wl_q (r_notB false rfl rfl) rfl rfl ?_
  refine wl_q (r_move (.bool false) rfl) rfl rfl ?_
  refine wl_q (r_move (.bool (decide _)) rfl) rfl rfl ?_
  refine wl_q (r_not rfl) rfl rfl ?_
  refine wl_q (r_pick false (.bool (decide _)) rfl rfl) rfl rfl ?_
  refine wl_q (r_move (.bool (decide _)) rfl) rfl rfl ?_
  refine wl_splitD 25 rfl (fun g25 => ?_) (fun g25 => ?_)
  · skip
    refine wl_skip rfl rfl ?_
    refine wl_skip rfl rfl ?_
    refine wl_skip rfl rfl ?_
    refine wl_q (r_pick true (.bool true) rfl rfl) rfl rfl ?_
    refine wl_nil ?_
    refine thenN ?_
    refine W_condT rfl ?_
    refine W_seq ?_
    refine W_region ?_
    refine wl_cal cal15 rfl rfl rfl ?_
    refine (aw26 _ (F.mem M3) (N.mem M3)).mono ?_
    rintro _ w4 ⟨v4, rfl, ⟨rfl, hb4⟩⟩
    refine ⟨_, rfl, ?_⟩
    have M4 := M3.callB hb4
    refine wl_q (r_assign (.bool true) rfl) rfl rfl ?_
    refine wl_nil ?_
    refine thenN ?_
    refine W_ret ?_
    refine thenR ?_
    skip
    refine fin1 (.bool true) rfl ?_
    exact ⟨rfl, M4.below⟩
  · skip
    refine wl_q (r_move (.slice _ _ _) rfl) rfl rfl ?_
    refine wl_q (r_lenS Tryz.underlying22 rfl) rfl rfl ?_
    refine wl_q (r_bin (.bool (decide _)) rfl rfl rfl) rfl rfl ?_
    refine wl_q (r_pick false (.bool (decide _)) rfl rfl) rfl rfl ?_
    refine wl_nil ?_
    refine thenN ?_
    refine W_condD rfl (fun h29 => ?_) (fun h29 => ?_)
    · skip
      refine W_seq ?_
      refine W_region ?_
      refine wl_cal cal15 rfl rfl rfl ?_
      refine (aw26 _ (F.mem M3) (N.mem M3)).mono ?_
      rintro _ w5 ⟨v5, rfl, ⟨rfl, hb5⟩⟩
      refine ⟨_, rfl, ?_⟩
      have M5 := M3.callB hb5
      refine wl_q (r_assign (.bool true) rfl) rfl rfl ?_
      refine wl_nil ?_
      refine thenN ?_
      refine W_ret ?_
      refine thenR ?_
      skip
      refine fin1 (.bool true) rfl ?_
      exact ⟨rfl, M5.below⟩
    · skip
      obtain ⟨hV, hve, hvk⟩ := view_of (Decidable.not_not.1 g25)
      have hvl := hV.len
      have hrn : (viewL xs).length = r.n := by simpa using hr.1
      have hvs := hV.s
      have hvo := hV.okb
      refine W_skip ?_
      refine thenN ?_
      refine W_seq ?_
      refine W_region ?_
      refine wl_q (r_assign (.slice _ _ _) rfl) rfl rfl ?_
      have M6 := M3.dummy default
      refine wl_nil ?_
      refine thenN ?_
      refine W_seq ?_
      refine W_seq ?_
      refine W_region ?_
      refine wl_q (r_assign (.int _ _) rfl) rfl rfl ?_
      refine wl_nil ?_
      refine thenN ?_
      refine W_block ?_
      refine W_loop (σ := Nat × Row) [3, 5] (fun (i, q) => [(7, .slice q.A q.n q.c), (8, .int .i64 (i : Int))]) (fun (i, q) w' => (i ≤ r.n ∧ (∀ (j : Nat) (c : Body), j < i → (viewL xs)[j]? = some c → (-1073741824 ≤ c.px + dx ∧ c.px + dx ≤ 1073741824) ∧ (-1073741824 ≤ c.py + dy ∧ c.py + dy ≤ 1073741824)) ∧ RowIs 32 10 q.A q.n q.c ((((viewL xs).take i).map (mvB dx dy)).map bodyCells) q.e) ∧ Mem w [] [(some b1, bc [.int .i32 dx, .int .i32 dy] 29), r.e, q.e] w') (fun (i, q) => r.n - i) (0, nilRow) (agC rfl (agC rfl agN)) (⟨⟨by omega, (fun j c hj => by omega), RowIs.nil _ _ _⟩, M6⟩) ?_
      rintro ⟨i, q⟩ ρ7 w7 ⟨⟨hi, hmv, hq⟩, hM7⟩
      have htl := List.length_take_le i (viewL xs)
      have hql : ((viewL xs).take i).length = q.n := by simpa using hq.1
      refine W_seq ?_
      refine W_seq ?_
      refine W_region ?_
      refine wl_q (r_move (.int _ _) rfl) rfl rfl ?_
      refine wl_q (r_move (.slice _ _ _) rfl) rfl rfl ?_
      refine wl_q (r_lenS Tryz.underlying22 rfl) rfl rfl ?_
      refine wl_q (r_bin (.bool (decide _)) rfl rfl rfl) rfl rfl ?_
      refine wl_nil ?_
      refine thenN ?_
      refine W_condD rfl (fun h34 => ?_) (fun h34 => ?_)
      · skip
        obtain ⟨xb, hxb⟩ := getSome (xs := (viewL xs)) (k := i) hrn (by omega)
        have hpb := (hvo xb (List.mem_of_getElem? hxb)).p
        refine W_skip ?_
        refine thenN ?_
        refine W_seq ?_
        refine W_block ?_
        refine W_seq ?_
        refine W_draw [(0, 0), (1, 0), (2, 1), (3, 1), (4, 1), (5, 1), (6, 0), (7, 0), (8, 1), (9, 0), (10, 0), (11, 0)] mixed rfl (by kernel_rfl) (fun w8 hb8 hh8 => ?_)
        have M8 := hM7.drew hb8 hh8
        refine D_p rfl rfl rfl (fun _ => r_move (.slice _ _ _) rfl) ?_
        refine D_p rfl rfl rfl (fun _ => r_move (.int _ _) rfl) ?_
        refine D_r rfl rfl rfl (r_idxR (i) sl22 rfl rfl rfl ((hr.rd M8 (nthMem (i := 1) rfl)).below_len (mapGet bodyCells hxb)) ((hr.rd M8 (nthMem (i := 1) rfl)).someK (mapGet bodyCells hxb))) ?_
        refine D_r rfl rfl rfl (r_fieldAddrE 6 fld32_5 (hr.rd M8 (nthMem (i := 1) rfl)) (Nat.lt_of_le_of_lt (Nat.zero_le _) ((hr.rd M8 (nthMem (i := 1) rfl)).below_len (mapGet bodyCells hxb))) rfl) ?_
        refine D_r rfl rfl rfl (r_fieldAddrE 0 fld29_0 (hr.rd M8 (nthMem (i := 1) rfl)) (Nat.lt_of_le_of_lt (Nat.zero_le _) ((hr.rd M8 (nthMem (i := 1) rfl)).below_len (mapGet bodyCells hxb))) rfl) ?_
        refine D_r rfl rfl rfl (r_ldE (o := 6) (.int _ _) one21 (hr.rd M8 (nthMem (i := 1) rfl)) (mapGet bodyCells hxb) rfl rfl) ?_
        refine D_p rfl rfl rfl (fun _ => r_convK us21 Tryz.underlying2 rfl (w64 _ (by omega) (by omega))) ?_
        refine D_p rfl rfl rfl (fun _ => r_fieldAddr 0 fld29_0 rfl) ?_
        refine D_r rfl rfl rfl (r_ld 0 (.int _ _) one21 M8 rfl rfl rfl) ?_
        refine D_p rfl rfl rfl (fun _ => r_convK us21 Tryz.underlying2 rfl (w64 _ (by omega) (by omega))) ?_
        refine D_p rfl rfl rfl (fun _ => r_add rfl rfl (by omega) (by omega)) ?_
        refine D_p rfl rfl rfl (fun _ => r_assign (.int _ _) rfl) ?_
        refine D_nil ?_
        refine thenN ?_
        refine W_seq ?_
        refine W_draw [(0, 0), (1, 0), (2, 1), (3, 1), (4, 1), (5, 1), (6, 0), (7, 0), (8, 1), (9, 0), (10, 0), (11, 0)] mixed rfl (by kernel_rfl) (fun w9 hb9 hh9 => ?_)
        have M9 := M8.drew hb9 hh9
        refine D_p rfl rfl rfl (fun _ => r_move (.slice _ _ _) rfl) ?_
        refine D_p rfl rfl rfl (fun _ => r_move (.int _ _) rfl) ?_
        refine D_r rfl rfl rfl (r_idxR (i) sl22 rfl rfl rfl ((hr.rd M9 (nthMem (i := 1) rfl)).below_len (mapGet bodyCells hxb)) ((hr.rd M9 (nthMem (i := 1) rfl)).someK (mapGet bodyCells hxb))) ?_
        refine D_r rfl rfl rfl (r_fieldAddrE 6 fld32_5 (hr.rd M9 (nthMem (i := 1) rfl)) (Nat.lt_of_le_of_lt (Nat.zero_le _) ((hr.rd M9 (nthMem (i := 1) rfl)).below_len (mapGet bodyCells hxb))) rfl) ?_
        refine D_r rfl rfl rfl (r_fieldAddrE 1 fld29_1 (hr.rd M9 (nthMem (i := 1) rfl)) (Nat.lt_of_le_of_lt (Nat.zero_le _) ((hr.rd M9 (nthMem (i := 1) rfl)).below_len (mapGet bodyCells hxb))) rfl) ?_
        refine D_r rfl rfl rfl (r_ldE (o := 7) (.int _ _) one21 (hr.rd M9 (nthMem (i := 1) rfl)) (mapGet bodyCells hxb) rfl rfl) ?_
        refine D_p rfl rfl rfl (fun _ => r_convK us21 Tryz.underlying2 rfl (w64 _ (by omega) (by omega))) ?_
        refine D_p rfl rfl rfl (fun _ => r_fieldAddr 1 fld29_1 rfl) ?_
        refine D_r rfl rfl rfl (r_ld 0 (.int _ _) one21 M9 rfl rfl rfl) ?_
        refine D_p rfl rfl rfl (fun _ => r_convK us21 Tryz.underlying2 rfl (w64 _ (by omega) (by omega))) ?_
        refine D_p rfl rfl rfl (fun _ => r_add rfl rfl (by omega) (by omega)) ?_
        refine D_p rfl rfl rfl (fun _ => r_assign (.int _ _) rfl) ?_
        refine D_nil ?_
        refine thenN ?_
        refine W_seq ?_
        refine W_seq ?_
        refine W_region ?_
        refine wl_q (r_move (.int _ _) rfl) rfl rfl ?_
        refine wl_q (r_bin (.bool (decide _)) rfl rfl rfl) rfl rfl ?_
        refine wl_q (r_move (.bool (decide _)) rfl) rfl rfl ?_
        refine wl_splitD 61 rfl (fun g61 => ?_) (fun g61 => ?_)
        · skip
          refine wl_skip rfl rfl ?_
          refine wl_skip rfl rfl ?_
          refine wl_q (r_pick true (.bool true) rfl rfl) rfl rfl ?_
          refine wl_q (r_move (.bool true) rfl) rfl rfl ?_
          refine wl_skip rfl rfl ?_
          refine wl_skip rfl rfl ?_
          refine wl_q (r_pick true (.bool true) rfl rfl) rfl rfl ?_
          refine wl_q (r_move (.bool true) rfl) rfl rfl ?_
          refine wl_skip rfl rfl ?_
          refine wl_skip rfl rfl ?_
          refine wl_q (r_pick true (.bool true) rfl rfl) rfl rfl ?_
          refine wl_nil ?_
          refine thenN ?_
          refine W_condT rfl ?_
          refine W_seq ?_
          refine W_region ?_
          refine wl_q (r_assign (.bool true) rfl) rfl rfl ?_
          refine wl_nil ?_
          refine thenN ?_
          refine W_ret ?_
          refine thenR ?_
          refine blkR ?_
          refine thenR ?_
          refine roundR ?_
          refine blkR ?_
          refine thenR ?_
          skip
          refine fin1 (.bool true) rfl ?_
          exact ⟨rfl, M9.below⟩
        · skip
          refine wl_q (r_move (.int _ _) rfl) rfl rfl ?_
          refine wl_q (r_bin (.bool (decide _)) rfl rfl rfl) rfl rfl ?_
          refine wl_q (r_pick false (.bool (decide _)) rfl rfl) rfl rfl ?_
          refine wl_q (r_move (.bool (decide _)) rfl) rfl rfl ?_
          refine wl_splitD 65 rfl (fun g65 => ?_) (fun g65 => ?_)
          · skip
            refine wl_skip rfl rfl ?_
            refine wl_skip rfl rfl ?_
            refine wl_q (r_pick true (.bool true) rfl rfl) rfl rfl ?_
            refine wl_q (r_move (.bool true) rfl) rfl rfl ?_
            refine wl_skip rfl rfl ?_
            refine wl_skip rfl rfl ?_
            refine wl_q (r_pick true (.bool true) rfl rfl) rfl rfl ?_
            refine wl_nil ?_
            refine thenN ?_
            refine W_condT rfl ?_
            refine W_seq ?_
            refine W_region ?_
            refine wl_q (r_assign (.bool true) rfl) rfl rfl ?_
            refine wl_nil ?_
            refine thenN ?_
            refine W_ret ?_
            refine thenR ?_
            refine blkR ?_
            refine thenR ?_
            refine roundR ?_
            refine blkR ?_
            refine thenR ?_
            skip
            refine fin1 (.bool true) rfl ?_
            exact ⟨rfl, M9.below⟩
          · skip
            refine wl_q (r_move (.int _ _) rfl) rfl rfl ?_
            refine wl_q (r_bin (.bool (decide _)) rfl rfl rfl) rfl rfl ?_
            refine wl_q (r_pick false (.bool (decide _)) rfl rfl) rfl rfl ?_
            refine wl_q (r_move (.bool (decide _)) rfl) rfl rfl ?_
            refine wl_splitD 69 rfl (fun g69 => ?_) (fun g69 => ?_)
            · skip
              refine wl_skip rfl rfl ?_
              refine wl_skip rfl rfl ?_
              refine wl_q (r_pick true (.bool true) rfl rfl) rfl rfl ?_
              refine wl_nil ?_
              refine thenN ?_
              refine W_condT rfl ?_
              refine W_seq ?_
              refine W_region ?_
              refine wl_q (r_assign (.bool true) rfl) rfl rfl ?_
              refine wl_nil ?_
              refine thenN ?_
              refine W_ret ?_
              refine thenR ?_
              refine blkR ?_
              refine thenR ?_
              refine roundR ?_
              refine blkR ?_
              refine thenR ?_
              skip
              refine fin1 (.bool true) rfl ?_
              exact ⟨rfl, M9.below⟩
            · skip
              refine wl_q (r_move (.int _ _) rfl) rfl rfl ?_
              refine wl_q (r_bin (.bool (decide _)) rfl rfl rfl) rfl rfl ?_
              refine wl_q (r_pick false (.bool (decide _)) rfl rfl) rfl rfl ?_
              refine wl_nil ?_
              refine thenN ?_
              refine W_condD rfl (fun h72 => ?_) (fun h72 => ?_)
              · skip
                refine W_seq ?_
                refine W_region ?_
                refine wl_q (r_assign (.bool true) rfl) rfl rfl ?_
                refine wl_nil ?_
                refine thenN ?_
                refine W_ret ?_
                refine thenR ?_
                refine blkR ?_
                refine thenR ?_
                refine roundR ?_
                refine blkR ?_
                refine thenR ?_
                skip
                refine fin1 (.bool true) rfl ?_
                exact ⟨rfl, M9.below⟩
              · skip
                refine W_skip ?_
                refine thenN ?_
                refine W_seq ?_
                refine W_region ?_
                refine wl_q (r_move (.slice _ _ _) rfl) rfl rfl ?_
                refine wl_q (r_move (.int _ _) rfl) rfl rfl ?_
                refine wl_q (r_idxR (i) sl22 rfl rfl rfl ((hr.rd M9 (nthMem (i := 1) rfl)).below_len (mapGet bodyCells hxb)) ((hr.rd M9 (nthMem (i := 1) rfl)).someK (mapGet bodyCells hxb))) rfl rfl ?_
                refine wl_q (r_ldEA _ agg32 (hr.rd M9 (nthMem (i := 1) rfl)) (mapGet bodyCells hxb) rfl) rfl rfl ?_
                refine wl_alloc zero32 M9 rfl rfl (fun b10 w10 M10 => ?_)
                refine wl_stW 3 _ agg32 M10 rfl rfl rfl rfl rfl (ones_of rfl) rfl (fun w11 M11 => ?_)
                refine wl_nil ?_
                refine thenN ?_
                refine W_seq ?_
                refine W_region ?_
                refine wl_q (r_move (.int _ _) rfl) rfl rfl ?_
                refine wl_q (r_convK us2 Tryz.underlying21 rfl (wr32 _ (by omega) (by omega))) rfl rfl ?_
                refine wl_q (r_move (.int _ _) rfl) rfl rfl ?_
                refine wl_q (r_convK us2 Tryz.underlying21 rfl (wr32 _ (by omega) (by omega))) rfl rfl ?_
                refine wl_q (r_build [(0, .int _ _), (1, .int _ _)] _ struct29 rfl rfl) rfl rfl ?_
                refine wl_q (r_fieldAddr 6 fld32_5 rfl) rfl rfl ?_
                refine wl_stA 3 _ agg29 M11 rfl rfl rfl rfl rfl (ones_of rfl) (Nat.le_of_ble_eq_true rfl) (fun w12 M12 => ?_)
                refine wl_nil ?_
                refine thenN ?_
                refine W_region ?_
                refine wl_q (r_move (.slice _ _ _) rfl) rfl rfl ?_
                refine wl_q (r_ldW 3 agg32 M12 rfl rfl rfl) rfl rfl ?_
                refine wl_bslice [.agg (List.toArray _)] [bodyCells (mvB dx dy xb)] rfl sl22 M12 rfl rfl rfl rfl (lens_of rfl) (by decide) (fun b13 w13 M13 => ?_)
                refine wl_append 2 [bodyCells (mvB dx dy xb)] sl22 M13 rfl rfl rfl rfl rfl hq rfl (by simpa using ⟨bodyCells_len _, bodyCells_one _⟩) (Cells.ofMem 4 M13 rfl) (by omega) (fun A14 c14 e14 w14 M14 hR14 => ?_)
                refine wl_q (r_assign (.slice _ _ _) rfl) rfl rfl ?_
                refine wl_nil ?_
                refine blkN ?_
                refine thenN ?_
                refine W_region ?_
                refine wl_q (r_move (.int _ _) rfl) rfl rfl ?_
                refine wl_q (r_add rfl rfl (by omega) (by omega)) rfl rfl ?_
                refine wl_q (r_assign (.int _ _) rfl) rfl rfl ?_
                refine wl_nil ?_
                refine roundN (i + 1, ⟨A14, q.n + 1, c14, e14⟩) (agC rfl (agC rfl agN)) (akC rfl (akC rfl akN)) ?_ ?_
                · exact ⟨⟨by omega, allNext (p := fun _ c => (-1073741824 ≤ c.px + dx ∧ c.px + dx ≤ 1073741824) ∧ (-1073741824 ≤ c.py + dy ∧ c.py + dy ≤ 1073741824)) hmv hxb ⟨⟨by omega, by omega⟩, by omega, by omega⟩, by rw [take_snoc hxb, List.map_append, List.map_append]; exact hR14⟩, M14.keep [true, true, true, false, false]⟩
                · (show r.n - (i + 1) < r.n - i; omega)
      · skip
        have hin : i = r.n := by omega
        rw [List.take_of_length_le (by omega)] at hq hql
        have hmo := mv_allok hrn hvo (fun j c hj => hmv j c (by omega))
        have hnn0 : (viewL xs) ≠ [] := fun h => by rw [h] at hrn; simp at hrn; omega
        obtain ⟨ma, hma⟩ : ∃ m, meOf (viewL xs) = m := ⟨_, rfl⟩
        have hmb : meOf ((viewL xs).map (mvB dx dy)) = mvM dx dy ma := by rw [← hma]; exact meOf_mv hvs hvo hmo hnn0
        have hmx := mv_okx hvs hmo hmb
        refine W_exit ?_
        refine thenX ?_
        refine roundX ?_
        refine blkH ?_
        refine thenN ?_
        refine W_seq ?_
        refine W_region ?_
        refine wl_q (r_move (.slice _ _ _) rfl) rfl rfl ?_
        refine wl_cal cal17 rfl rfl rfl ?_
        refine (me_Of _ (F.mem hM7) (N.mem hM7) _ _ _ (viewL xs) (hr.rd hM7 (nthMem (i := 1) rfl)) hvo hvs (by first | decide | omega)).mono ?_
        rintro _ w15 ⟨v15, rfl, ⟨rfl, hb15⟩⟩
        refine ⟨_, rfl, ?_⟩
        have M15 := hM7.callB hb15
        refine wl_re 88 ((.agg (meCells ma).toArray)) (congrArg (fun m => Value.agg (meCells m).toArray) hma) ?_
        refine wl_alloc zero36 M15 rfl rfl (fun b16 w16 M16 => ?_)
        refine wl_stW 3 _ agg36 M16 rfl rfl rfl rfl rfl (ones_of rfl) rfl (fun w17 M17 => ?_)
        refine wl_nil ?_
        refine thenN ?_
        refine W_seq ?_
        refine W_region ?_
        refine wl_q (r_move (.slice _ _ _) rfl) rfl rfl ?_
        refine wl_cal cal17 rfl rfl rfl ?_
        refine (me_Of _ (F.mem M17) (N.mem M17) _ _ _ ((viewL xs).map (mvB dx dy)) (hq.rd M17 (nthMem (i := 2) rfl)) (fun b hb => by obtain ⟨c, hc, rfl⟩ := List.mem_map.1 hb; exact hmo c hc) (mv_sorted hvs) (by first | decide | omega)).mono ?_
        rintro _ w18 ⟨v18, rfl, ⟨rfl, hb18⟩⟩
        refine ⟨_, rfl, ?_⟩
        have M18 := M17.callB hb18
        refine wl_re 90 ((.agg (meCells (mvM dx dy ma)).toArray)) (congrArg (fun m => Value.agg (meCells m).toArray) hmb) ?_
        refine wl_alloc zero36 M18 rfl rfl (fun b19 w19 M19 => ?_)
        refine wl_stW 4 _ agg36 M19 rfl rfl rfl rfl rfl (ones_of rfl) rfl (fun w20 M20 => ?_)
        refine wl_nil ?_
        refine thenN ?_
        refine W_seq ?_
        refine W_region ?_
        refine wl_q (r_fieldAddr 5 fld36_5 rfl) rfl rfl ?_
        refine wl_q (r_fieldAddr 0 fld34_0 rfl) rfl rfl ?_
        refine wl_q (r_ld 3 (.int _ _) one21 M20 rfl rfl rfl) rfl rfl ?_
        refine wl_q (r_fieldAddr 0 fld29_0 rfl) rfl rfl ?_
        refine wl_q (r_ld 0 (.int _ _) one21 M20 rfl rfl rfl) rfl rfl ?_
        refine wl_q (r_bin (.int _ _) rfl rfl rfl) rfl rfl ?_
        refine wl_re 96 (.int .i32 (mvX dx dy ma.bx).x0) (iE (wr32 _ (by have := hmx.x0; simp only [mvX] at this; omega) (by have := hmx.x0; simp only [mvX] at this; omega))) ?_
        refine wl_q (r_fieldAddr 5 fld36_5 rfl) rfl rfl ?_
        refine wl_q (r_fieldAddr 1 fld34_1 rfl) rfl rfl ?_
        refine wl_q (r_ld 3 (.int _ _) one21 M20 rfl rfl rfl) rfl rfl ?_
        refine wl_q (r_fieldAddr 1 fld29_1 rfl) rfl rfl ?_
        refine wl_q (r_ld 0 (.int _ _) one21 M20 rfl rfl rfl) rfl rfl ?_
        refine wl_q (r_bin (.int _ _) rfl rfl rfl) rfl rfl ?_
        refine wl_re 102 (.int .i32 (mvX dx dy ma.bx).y0) (iE (wr32 _ (by have := hmx.y0; simp only [mvX] at this; omega) (by have := hmx.y0; simp only [mvX] at this; omega))) ?_
        refine wl_q (r_fieldAddr 5 fld36_5 rfl) rfl rfl ?_
        refine wl_q (r_fieldAddr 2 fld34_2 rfl) rfl rfl ?_
        refine wl_q (r_ld 3 (.int _ _) one21 M20 rfl rfl rfl) rfl rfl ?_
        refine wl_q (r_fieldAddr 0 fld29_0 rfl) rfl rfl ?_
        refine wl_q (r_ld 0 (.int _ _) one21 M20 rfl rfl rfl) rfl rfl ?_
        refine wl_q (r_bin (.int _ _) rfl rfl rfl) rfl rfl ?_
        refine wl_re 108 (.int .i32 (mvX dx dy ma.bx).x1) (iE (wr32 _ (by have := hmx.x1; simp only [mvX] at this; omega) (by have := hmx.x1; simp only [mvX] at this; omega))) ?_
        refine wl_q (r_fieldAddr 5 fld36_5 rfl) rfl rfl ?_
        refine wl_q (r_fieldAddr 3 fld34_3 rfl) rfl rfl ?_
        refine wl_q (r_ld 3 (.int _ _) one21 M20 rfl rfl rfl) rfl rfl ?_
        refine wl_q (r_fieldAddr 1 fld29_1 rfl) rfl rfl ?_
        refine wl_q (r_ld 0 (.int _ _) one21 M20 rfl rfl rfl) rfl rfl ?_
        refine wl_q (r_bin (.int _ _) rfl rfl rfl) rfl rfl ?_
        refine wl_re 114 (.int .i32 (mvX dx dy ma.bx).y1) (iE (wr32 _ (by have := hmx.y1; simp only [mvX] at this; omega) (by have := hmx.y1; simp only [mvX] at this; omega))) ?_
        refine wl_q (r_build [(0, .int _ _), (1, .int _ _), (2, .int _ _), (3, .int _ _)] _ struct34 rfl rfl) rfl rfl ?_
        refine wl_q (r_fieldAddr 5 fld36_5 rfl) rfl rfl ?_
        refine wl_stA 3 _ agg34 M20 rfl rfl rfl rfl rfl (ones_of rfl) (Nat.le_of_ble_eq_true rfl) (fun w21 M21 => ?_)
        refine wl_nil ?_
        refine thenN ?_
        refine W_seq ?_
        refine W_region ?_
        refine wl_q (r_ldW 3 agg36 M21 rfl rfl rfl) rfl rfl ?_
        refine wl_q (r_ldW 4 agg36 M21 rfl rfl rfl) rfl rfl ?_
        refine wl_q (r_eqA (eqMe (mvM dx dy ma) (mvM dx dy ma)) rfl rfl) rfl rfl ?_
        refine wl_re 119 (.bool true) (bT rfl).symm ?_
        refine wl_q (r_assign (.bool true) rfl) rfl rfl ?_
        refine wl_nil ?_
        refine thenN ?_
        refine W_ret ?_
        skip
        refine fin1 (.bool true) rfl ?_
        exact ⟨rfl, M21.below⟩

end Go.Proofs.YtmcddmhkjcgneaaGreatDoor

set_option linter.unusedVariables false
set_option linter.unusedSimpArgs false
set_option linter.unnecessarySimpa false
namespace Go.Proofs.YtmcddmhkjcgneaaGreatDoor
open Go.Bil
open Go.RowKit (Below)
open Go.Proofs

namespace measureMoves
open Go.ChangeShapes Go.WideShapes Go.ChangeAt Go.RowKit
open Go.ChangeMaps (open_string shut_string)
theorem own : ownKnob Tryz.prog.godebug = none := by kernel_rfl
theorem laidOut : laidOutB Tryz.prog = true := by kernel_rfl
set_option maxRecDepth 100000 in
theorem lifted (os : Os) (started : os.Started) (H : Type) (enc : TypeId × Value → H) :
    ReturnsInHanded {} Tryz.checked os 6 .any (fun w args => (Rows.measureMovesSpec.pre enc Tryz.prog Tryz.f6 [] false w args ∧ laidMet Tryz.prog laidL w) ∧ sizedMet enc Tryz.prog Tryz.f6 (OpenSpec.ofChange Rows.measureMovesSpec) false w args) (Rows.measureMovesSpec.post enc Tryz.prog Tryz.f6 false true false false) := by
  refine returnsInHanded_of_change_and (C := Tryz.checked) (X := fun w _ => laidMet Tryz.prog laidL w) (fun _ _ _ hh h => h.of_heap hh) own started (by kernel_rfl) Tryz.func6
    (ChangeSpec.witness_at (enc := enc) (C := Tryz.checked) (os := os) (X := fun w _ => laidMet Tryz.prog laidL w) false (laidWorld os) #[.slice none 0 0, (.agg #[.int .i32 0, .int .i32 0])] 8 rfl (by kernel_rfl) (by kernel_rfl) (by kernel_rfl) (by kernel_rfl) (by kernel_rfl) (laidMet_of_run' 8 (by kernel_rfl) (by kernel_rfl))) ?_
  intro W base args ds gs before hval0 hW hcnd hsz0 hL _
  have hsz : (DataW.weightsEach Tryz.prog (Tryz.f6.params.toList ++ Rows.measureMovesSpec.plain.varTypes Tryz.prog) (ds ++ gs)).all (· ≤ reachBytes) = true := hsz0
  have hval : ∀ (j : Nat) t v, Tryz.f6.params[j]? = some t → args[j]? = some v → Value.okWide Tryz.prog W .any base t v := hval0
  have hW' := hW
  obtain ⟨p, q, hA0, hV, rfl, hfz, hnd⟩ := hW
  have hA : DataW.TrodAll enc Tryz.prog W 0 (fun _ => true) true Tryz.f6.params.toList args.toList ds p := hA0
  rw [Tryz.params6] at hA hval hsz
  obtain ⟨v0, vs0, d0, ds0, p0, q0, hargs, rfl, rfl, h0, r0⟩ := trodAll_cons hA
  obtain ⟨v1, vs1, d1, ds1, p1, q1, rfl, rfl, rfl, h1, r1⟩ := trodAll_cons r0
  obtain ⟨rfl, rfl, rfl⟩ := trodAll_nil r1
  obtain rfl : args = #[v0, v1] := by cases args; simp_all
  obtain ⟨rfl, rfl⟩ := trodVars_none hV
  have k0 := h0
  have lt0 : ∀ x ∈ p0, x.block < W.heap.size := by obtain ⟨m, hm⟩ := k0; exact DataW.trod_lt m _ _ _ hm
  obtain ⟨a0, len0, cap0, rfl⟩ := okWide_slice Tryz.underlying22 (hval 0 22 v0 rfl rfl)
  have y0 := sized_rows hsz (j := 0) (t := 22) rfl rfl sl22 h0
  obtain ⟨ls0, R0, hi0⟩ := open_rows sl22 leaves32 rfl y0 h0
  obtain ⟨xs0, rfl, hx0⟩ := list_of bodyOf ls0 hi0
  have k1 := h1
  have lt1 : ∀ x ∈ p1, x.block < W.heap.size := by obtain ⟨m, hm⟩ := k1; exact DataW.trod_lt m _ _ _ hm
  obtain ⟨cs1, rfl, hi1⟩ := okWide_agg agg29 leaves29 rfl rfl h1
  obtain ⟨x1, rfl, hx1⟩ := vecOf _ hi1
  clear hA0 hval0 hsz0 hsz
  refine (law_MeasureMoves W (rdF hL) (rdN hL) x1.1 x1.2 hx1.1 hx1.2 _ _ _ xs0 R0).mono fun e W' ⟨v, he, hv, bel⟩ => ?_
  subst he
  subst hv
  exact ⟨_, rfl, _, _, _, [], _, [], hW', trodAll_mk1 (shut_bool Tryz.underlying4 _), (trodAll_cons_mk (Below.trod laidOut (by kernel_rfl) (of_decide_eq_true (by kernel_rfl)) k0 bel lt0) (trodAll_cons_mk (Below.trod laidOut (by kernel_rfl) (of_decide_eq_true (by kernel_rfl)) k1 bel lt1) trodAll_mk0)), rfl, bel.frame _, fun h => by cases h⟩
theorem over : Rows.measureMovesRow.holds Tryz.pinned (OpenSpec.ofChange Rows.measureMovesSpec) :=
  OpenClaim.holds_of_wide 6 Tryz.f6 rfl rfl rfl rfl rfl rfl rfl ⟨rfl, rfl, rfl, rfl, rfl⟩ rfl rfl rfl rfl rfl (by kernel_rfl) Tryz.func6 (by kernel_rfl)
    (of_decide_eq_true (by kernel_rfl)) (by unfold Func.isWrapper; first | (rw [if_pos (by decide +kernel)]; kernel_rfl) | (rw [if_neg (by decide +kernel)]; exact ⟨rfl, rfl⟩))
    (fun os started H enc _ => lifted os started H enc)
end measureMoves
theorem measureMoves_holds : Rows.MeasureMovesSaid := measureMoves.over
#print axioms measureMoves_holds
theorem measureMoves_card : Rows.MeasureMovesCardSaid :=
  Claim7.holds_tied_plain_at .later [] [.data, .data] true (true, "9f8295c113a943455c4832a95346352d7118fae4d0dcf065aaf106ad8bcb4f65") false
    measureMoves_holds (fun _ h => by cases h) (by kernel_rfl) (fun _ h => by cases h) measureMoves_row_tie rfl ⟨rfl, rfl⟩ (by kernel_rfl) rfl
    (fun f fn hf hfn => by
      obtain rfl : f = 6 := Option.some.inj ((show Tryz.prog.funcNamed "billiard/billiardlaw26.MeasureMoves" = some 6 by kernel_rfl).symm.trans hf) |>.symm
      obtain rfl : fn = Tryz.f6 := (Option.some.inj (Tryz.func6.symm.trans hfn)).symm
      exact ⟨by kernel_rfl, fun j t ht => by
        rw [Tryz.params6] at ht
        have hm : t ∈ [22, 29] := by simpa using Array.mem_of_getElem? ht
        have hall : ([22, 29].all fun u => !Tryz.prog.wantsStandIn u) = true := by kernel_rfl
        exact (show Tryz.prog.wantsStandIn t = false by simpa using List.all_eq_true.1 hall t hm)⟩)
    (by kernel_rfl)
#print axioms measureMoves_card

end Go.Proofs.YtmcddmhkjcgneaaGreatDoor
