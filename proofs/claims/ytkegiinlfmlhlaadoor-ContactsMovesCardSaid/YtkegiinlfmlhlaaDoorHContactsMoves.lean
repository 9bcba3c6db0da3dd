/- The law ContactsMoves returns true for every input, and what it reads stays as it was. No conditions. -/
import Derived.Test.YtkegiinlfmlhlaaDoorK5
import Derived.Test.YtkegiinlfmlhlaaDoorK26
import Derived.Test.YtkegiinlfmlhlaaDoorK21
import Derived.Test.YtkegiinlfmlhlaaDoorRows
import Derived.Test.YtkegiinlfmlhlaaDoorK27
import Derived.Test.YtkegiinlfmlhlaaDoorTie
import Derived.Test.YtkegiinlfmlhlaaDoorCards
import Derived.WalkKit
import Derived.ProofKit
import Derived.OpenShut
import Derived.ShutString
import Derived.ChangeOld
import Derived.Below
import Derived.SizedLaws
/- Walks of Go functions over the frame of this claim: what each computes, for every input of the stated types (LContactsMoves). -/
set_option linter.unusedVariables false
set_option linter.unusedSimpArgs false
set_option linter.unnecessarySimpa false
namespace Go.Proofs.YtkegiinlfmlhlaaDoor
open Go.Bil
open Go.RowKit (Below)
open Go.Proofs

set_option maxHeartbeats 16000000 in
theorem law_ContactsMoves (w : World) (F : Rd w 2 (some ⟨0, 0, none⟩) 1 [[.int .u32 73856093, .int .u32 19349663]]) (N : Rd w 4 (some ⟨1, 0, none⟩) 1 [bxCells noneB]) (dx dy : Int) (hdx : -2147483648 ≤ dx ∧ dx ≤ 2147483647) (hdy : -2147483648 ≤ dy ∧ dy ≤ 2147483647) (A : Option Addr) (n c : Nat) (xs : List Body) (R : Rd w 10 A n (xs.map bodyCells)) :
    Calls Tryd.prog 4 #[.slice A n c, .agg [.int .i32 dx, .int .i32 dy].toArray] w (fun ex w' => ∃ v, ex = .returned v ∧ (fun v w' => v = .bool true ∧ Below w.heap.size w w') v w') := by
  have hlen : xs.length = n := by simpa using R.len
  have hbd := R.bound
  refine calls_of_W #[.tmp 4] 97 Tryd.func4 rfl Tryd.results4 Tryd.ntmps4 rfl ?_
  have M0 := Mem.refl w
  refine W_seq ?_
  refine W_region ?_
  refine wl_box (.agg (List.toArray _)) M0 rfl rfl rfl (fun b1 w1 M1 => ?_)
  refine wl_q (r_assign (.bool false) rfl) rfl rfl ?_
  refine wl_nil ?_
  refine thenN ?_
  refine W_seq ?_
  refine W_region ?_
  refine wl_q (r_move (.slice _ _ _) rfl) rfl rfl ?_
  refine wl_cal cal11 rfl rfl rfl ?_
  refine (ref11_View _ _ _ _ xs (R.mem M1)).mono ?_
  rintro _ w2 ⟨v2, rfl, ⟨r, rfl, hr, hM2⟩⟩
  refine ⟨_, rfl, ?_⟩
  have M2 : Mem _ _ [_, _] _ := M1.call0 hM2
  refine wl_q (r_move (.tuple (List.toArray _)) rfl) rfl rfl ?_
  refine wl_q (r_ext (.slice _ _ _) rfl rfl) rfl rfl ?_
  refine wl_q (r_ext (.bool (decide _)) rfl rfl) rfl rfl ?_
  refine wl_q (r_assign (.slice _ _ _) rfl) rfl rfl ?_
  refine wl_q (r_assign (.bool (decide _)) rfl) rfl rfl ?_
  refine wl_nil ?_
  refine thenN ?_
  refine W_seq ?_
  refine W_seq ?_
  refine W_region ?_
  refine wl_cal cal12 rfl rfl rfl ?_
  refine (aw15 _ (F.mem M2) (N.mem M2)).mono ?_
  rintro _ w3 ⟨v3, rfl, ⟨rfl, hb3⟩⟩
  refine ⟨_, rfl, ?_⟩
  have M3 := M2.callB hb3
  refine wl_q (r_notB false rfl rfl) rfl rfl ?_
  refine wl_q (r_move (.bool false) rfl) rfl rfl ?_
  refine wl_q (r_move (.bool (decide _)) rfl) rfl rfl ?_
  refine wl_q (r_not rfl) rfl rfl ?_
  refine wl_q (r_pick false (.bool (decide _)) rfl rfl) rfl rfl ?_
  refine wl_nil ?_
  refine thenN ?_
  refine W_condD rfl (fun h26 => ?_) (fun h26 => ?_)
  · skip
    refine W_seq ?_
    refine W_region ?_
    refine wl_cal cal12 rfl rfl rfl ?_
    refine (aw15 _ (F.mem M3) (N.mem M3)).mono ?_
    rintro _ w4 ⟨v4, rfl, ⟨rfl, hb4⟩⟩
    refine ⟨_, rfl, ?_⟩
    have M4 := M3.callB hb4
    refine wl_q (r_assign (.bool true) rfl) rfl rfl ?_
    refine wl_nil ?_
    refine thenN ?_
    refine W_ret ?_
    refine thenR ?_
    skip
    refine fin1 (.bool true) rfl ?_
    exact ⟨rfl, M4.below⟩
  · skip
    obtain ⟨hV, hve, hvk⟩ := view_of (Decidable.not_not.1 h26)
    have hvl := hV.len
    have hrn : (viewL xs).length = r.n := by simpa using hr.1
    have hvs := hV.s
    have hvo := hV.okb
    refine W_skip ?_
    refine thenN ?_
    refine W_seq ?_
    refine W_region ?_
    refine wl_q (r_assign (.slice _ _ _) rfl) rfl rfl ?_
    have M5 := M3.dummy default
    refine wl_nil ?_
    refine thenN ?_
    refine W_seq ?_
    refine W_seq ?_
    refine W_region ?_
    refine wl_q (r_assign (.int _ _) rfl) rfl rfl ?_
    refine wl_nil ?_
    refine thenN ?_
    refine W_block ?_
    refine W_loop (σ := Nat × Row) [3, 5] (fun (i, q) => [(7, .slice q.A q.n q.c), (8, .int .i64 (i : Int))]) (fun (i, q) w' => (i ≤ r.n ∧ (∀ (j : Nat) (c : Body), j < i → (viewL xs)[j]? = some c → (-1073741824 ≤ c.px + dx ∧ c.px + dx ≤ 1073741824) ∧ (-1073741824 ≤ c.py + dy ∧ c.py + dy ≤ 1073741824)) ∧ RowIs 34 10 q.A q.n q.c ((((viewL xs).take i).map (mvB dx dy)).map bodyCells) q.e) ∧ Mem w [] [(some b1, bc [.int .i32 dx, .int .i32 dy] 32), r.e, q.e] w') (fun (i, q) => r.n - i) (0, nilRow) (agC rfl (agC rfl agN)) (⟨⟨by omega, (fun j c hj => by omega), RowIs.nil _ _ _⟩, M5⟩) ?_
    rintro ⟨i, q⟩ ρ6 w6 ⟨⟨hi, hmv, hq⟩, hM6⟩
    have htl := List.length_take_le i (viewL xs)
    have hql : ((viewL xs).take i).length = q.n := by simpa using hq.1
    refine W_seq ?_
    refine W_seq ?_
    refine W_region ?_
    refine wl_q (r_move (.int _ _) rfl) rfl rfl ?_
    refine wl_q (r_move (.slice _ _ _) rfl) rfl rfl ?_
    refine wl_q (r_lenS Tryd.underlying22 rfl) rfl rfl ?_
    refine wl_q (r_bin (.bool (decide _)) rfl rfl rfl) rfl rfl ?_
    refine wl_nil ?_
    refine thenN ?_
    refine W_condD rfl (fun h31 => ?_) (fun h31 => ?_)
    · skip
      obtain ⟨xb, hxb⟩ := getSome (xs := (viewL xs)) (k := i) hrn (by omega)
      have hpb := (hvo xb (List.mem_of_getElem? hxb)).p
      refine W_skip ?_
      refine thenN ?_
      refine W_seq ?_
      refine W_block ?_
      refine W_seq ?_
      refine W_draw [(0, 0), (1, 0), (2, 1), (3, 1), (4, 1), (5, 1), (6, 0), (7, 0), (8, 1), (9, 0), (10, 0), (11, 0)] mixed rfl (by kernel_rfl) (fun w7 hb7 hh7 => ?_)
      have M7 := hM6.drew hb7 hh7
      refine D_p rfl rfl rfl (fun _ => r_move (.slice _ _ _) rfl) ?_
      refine D_p rfl rfl rfl (fun _ => r_move (.int _ _) rfl) ?_
      refine D_r rfl rfl rfl (r_idxR (i) sl22 rfl rfl rfl ((hr.rd M7 (nthMem (i := 1) rfl)).below_len (mapGet bodyCells hxb)) ((hr.rd M7 (nthMem (i := 1) rfl)).someK (mapGet bodyCells hxb))) ?_
      refine D_r rfl rfl rfl (r_fieldAddrE 6 fld34_5 (hr.rd M7 (nthMem (i := 1) rfl)) (Nat.lt_of_le_of_lt (Nat.zero_le _) ((hr.rd M7 (nthMem (i := 1) rfl)).below_len (mapGet bodyCells hxb))) rfl) ?_
      refine D_r rfl rfl rfl (r_fieldAddrE 0 fld32_0 (hr.rd M7 (nthMem (i := 1) rfl)) (Nat.lt_of_le_of_lt (Nat.zero_le _) ((hr.rd M7 (nthMem (i := 1) rfl)).below_len (mapGet bodyCells hxb))) rfl) ?_
      refine D_r rfl rfl rfl (r_ldE (o := 6) (.int _ _) one21 (hr.rd M7 (nthMem (i := 1) rfl)) (mapGet bodyCells hxb) rfl rfl) ?_
      refine D_p rfl rfl rfl (fun _ => r_convK us21 Tryd.underlying2 rfl (w64 _ (by omega) (by omega))) ?_
      refine D_p rfl rfl rfl (fun _ => r_fieldAddr 0 fld32_0 rfl) ?_
      refine D_r rfl rfl rfl (r_ld 0 (.int _ _) one21 M7 rfl rfl rfl) ?_
      refine D_p rfl rfl rfl (fun _ => r_convK us21 Tryd.underlying2 rfl (w64 _ (by omega) (by omega))) ?_
      refine D_p rfl rfl rfl (fun _ => r_add rfl rfl (by omega) (by omega)) ?_
      refine D_p rfl rfl rfl (fun _ => r_assign (.int _ _) rfl) ?_
      refine D_nil ?_
      refine thenN ?_
      refine W_seq ?_
      refine W_draw [(0, 0), (1, 0), (2, 1), (3, 1), (4, 1), (5, 1), (6, 0), (7, 0), (8, 1), (9, 0), (10, 0), (11, 0)] mixed rfl (by kernel_rfl) (fun w8 hb8 hh8 => ?_)
      have M8 := M7.drew hb8 hh8
      refine D_p rfl rfl rfl (fun _ => r_move (.slice _ _ _) rfl) ?_
      refine D_p rfl rfl rfl (fun _ => r_move (.int _ _) rfl) ?_
      refine D_r rfl rfl rfl (r_idxR (i) sl22 rfl rfl rfl ((hr.rd M8 (nthMem (i := 1) rfl)).below_len (mapGet bodyCells hxb)) ((hr.rd M8 (nthMem (i := 1) rfl)).someK (mapGet bodyCells hxb))) ?_
      refine D_r rfl rfl rfl (r_fieldAddrE 6 fld34_5 (hr.rd M8 (nthMem (i := 1) rfl)) (Nat.lt_of_le_of_lt (Nat.zero_le _) ((hr.rd M8 (nthMem (i := 1) rfl)).below_len (mapGet bodyCells hxb))) rfl) ?_
      refine D_r rfl rfl rfl (r_fieldAddrE 1 fld32_1 (hr.rd M8 (nthMem (i := 1) rfl)) (Nat.lt_of_le_of_lt (Nat.zero_le _) ((hr.rd M8 (nthMem (i := 1) rfl)).below_len (mapGet bodyCells hxb))) rfl) ?_
      refine D_r rfl rfl rfl (r_ldE (o := 7) (.int _ _) one21 (hr.rd M8 (nthMem (i := 1) rfl)) (mapGet bodyCells hxb) rfl rfl) ?_
      refine D_p rfl rfl rfl (fun _ => r_convK us21 Tryd.underlying2 rfl (w64 _ (by omega) (by omega))) ?_
      refine D_p rfl rfl rfl (fun _ => r_fieldAddr 1 fld32_1 rfl) ?_
      refine D_r rfl rfl rfl (r_ld 0 (.int _ _) one21 M8 rfl rfl rfl) ?_
      refine D_p rfl rfl rfl (fun _ => r_convK us21 Tryd.underlying2 rfl (w64 _ (by omega) (by omega))) ?_
      refine D_p rfl rfl rfl (fun _ => r_add rfl rfl (by omega) (by omega)) ?_
      refine D_p rfl rfl rfl (fun _ => r_assign (.int _ _) rfl) ?_
      refine D_nil ?_
      refine thenN ?_
      refine W_seq ?_
      refine W_seq ?_
      refine W_region ?_
      refine wl_q (r_move (.int _ _) rfl) rfl rfl ?_
      refine wl_q (r_bin (.bool (decide _)) rfl rfl rfl) rfl rfl ?_
      refine wl_q (r_move (.bool (decide _)) rfl) rfl rfl ?_
      refine wl_splitD 58 rfl (fun g58 => ?_) (fun g58 => ?_)
      · skip
        refine wl_skip rfl rfl ?_
        refine wl_skip rfl rfl ?_
        refine wl_q (r_pick true (.bool true) rfl rfl) rfl rfl ?_
        refine wl_q (r_move (.bool true) rfl) rfl rfl ?_
        refine wl_skip rfl rfl ?_
        refine wl_skip rfl rfl ?_
        refine wl_q (r_pick true (.bool true) rfl rfl) rfl rfl ?_
        refine wl_q (r_move (.bool true) rfl) rfl rfl ?_
        refine wl_skip rfl rfl ?_
        refine wl_skip rfl rfl ?_
        refine wl_q (r_pick true (.bool true) rfl rfl) rfl rfl ?_
        refine wl_nil ?_
        refine thenN ?_
        refine W_condT rfl ?_
        refine W_seq ?_
        refine W_region ?_
        refine wl_q (r_assign (.bool true) rfl) rfl rfl ?_
        refine wl_nil ?_
        refine thenN ?_
        refine W_ret ?_
        refine thenR ?_
        refine blkR ?_
        refine thenR ?_
        refine roundR ?_
        refine blkR ?_
        refine thenR ?_
        skip
        refine fin1 (.bool true) rfl ?_
        exact ⟨rfl, M8.below⟩
      · skip
        refine wl_q (r_move (.int _ _) rfl) rfl rfl ?_
        refine wl_q (r_bin (.bool (decide _)) rfl rfl rfl) rfl rfl ?_
        refine wl_q (r_pick false (.bool (decide _)) rfl rfl) rfl rfl ?_
        refine wl_q (r_move (.bool (decide _)) rfl) rfl rfl ?_
        refine wl_splitD 62 rfl (fun g62 => ?_) (fun g62 => ?_)
        · skip
          refine wl_skip rfl rfl ?_
          refine wl_skip rfl rfl ?_
          refine wl_q (r_pick true (.bool true) rfl rfl) rfl rfl ?_
          refine wl_q (r_move (.bool true) rfl) rfl rfl ?_
          refine wl_skip rfl rfl ?_
          refine wl_skip rfl rfl ?_
          refine wl_q (r_pick true (.bool true) rfl rfl) rfl rfl ?_
          refine wl_nil ?_
          refine thenN ?_
          refine W_condT rfl ?_
          refine W_seq ?_
          refine W_region ?_
          refine wl_q (r_assign (.bool true) rfl) rfl rfl ?_
          refine wl_nil ?_
          refine thenN ?_
          refine W_ret ?_
          refine thenR ?_
          refine blkR ?_
          refine thenR ?_
          refine roundR ?_
          refine blkR ?_
          refine thenR ?_
          skip
          refine fin1 (.bool true) rfl ?_
          exact ⟨rfl, M8.below⟩
        · skip
          refine wl_q (r_move (.int _ _) rfl) rfl rfl ?_
          refine wl_q (r_bin (.bool (decide _)) rfl rfl rfl) rfl rfl ?_
          refine wl_q (r_pick false (.bool (decide _)) rfl rfl) rfl rfl ?_
          refine wl_q (r_move (.bool (decide _)) rfl) rfl rfl ?_
          refine wl_splitD 66 rfl (fun g66 => ?_) (fun g66 => ?_)
          · skip
            refine wl_skip rfl rfl ?_
            refine wl_skip rfl rfl ?_
            refine wl_q (r_pick true (.bool true) rfl rfl) rfl rfl ?_
            refine wl_nil ?_
            refine thenN ?_
            refine W_condT rfl ?_
            refine W_seq ?_
            refine W_region ?_
            refine wl_q (r_assign (.bool true) rfl) rfl rfl ?_
            refine wl_nil ?_
            refine thenN ?_
            refine W_ret ?_
            refine thenR ?_
            refine blkR ?_
            refine thenR ?_
            refine roundR ?_
            refine blkR ?_
            refine thenR ?_
            skip
            refine fin1 (.bool true) rfl ?_
            exact ⟨rfl, M8.below⟩
          · skip
            refine wl_q (r_move (.int _ _) rfl) rfl rfl ?_
            refine wl_q (r_bin (.bool (decide _)) rfl rfl rfl) rfl rfl ?_
            refine wl_q (r_pick false (.bool (decide _)) rfl rfl) rfl rfl ?_
            refine wl_nil ?_
            refine thenN ?_
            refine W_condD rfl (fun h69 => ?_) (fun h69 => ?_)
            · skip
              refine W_seq ?_
              refine W_region ?_
              refine wl_q (r_assign (.bool true) rfl) rfl rfl ?_
              refine wl_nil ?_
              refine thenN ?_
              refine W_ret ?_
              refine thenR ?_
              refine blkR ?_
              refine thenR ?_
              refine roundR ?_
              refine blkR ?_
              refine thenR ?_
              skip
              refine fin1 (.bool true) rfl ?_
              exact ⟨rfl, M8.below⟩
            · skip
              refine W_skip ?_
              refine thenN ?_
              refine W_seq ?_
              refine W_region ?_
              refine wl_q (r_move (.slice _ _ _) rfl) rfl rfl ?_
              refine wl_q (r_move (.int _ _) rfl) rfl rfl ?_
              refine wl_q (r_idxR (i) sl22 rfl rfl rfl ((hr.rd M8 (nthMem (i := 1) rfl)).below_len (mapGet bodyCells hxb)) ((hr.rd M8 (nthMem (i := 1) rfl)).someK (mapGet bodyCells hxb))) rfl rfl ?_
              refine wl_q (r_ldEA _ agg34 (hr.rd M8 (nthMem (i := 1) rfl)) (mapGet bodyCells hxb) rfl) rfl rfl ?_
              refine wl_alloc zero34 M8 rfl rfl (fun b9 w9 M9 => ?_)
              refine wl_stW 3 _ agg34 M9 rfl rfl rfl rfl rfl (ones_of rfl) rfl (fun w10 M10 => ?_)
              refine wl_nil ?_
              refine thenN ?_
              refine W_seq ?_
              refine W_region ?_
              refine wl_q (r_move (.int _ _) rfl) rfl rfl ?_
              refine wl_q (r_convK us2 Tryd.underlying21 rfl (wr32 _ (by omega) (by omega))) rfl rfl ?_
              refine wl_q (r_move (.int _ _) rfl) rfl rfl ?_
              refine wl_q (r_convK us2 Tryd.underlying21 rfl (wr32 _ (by omega) (by omega))) rfl rfl ?_
              refine wl_q (r_build [(0, .int _ _), (1, .int _ _)] _ struct32 rfl rfl) rfl rfl ?_
              refine wl_q (r_fieldAddr 6 fld34_5 rfl) rfl rfl ?_
              refine wl_stA 3 _ agg32 M10 rfl rfl rfl rfl rfl (ones_of rfl) (Nat.le_of_ble_eq_true rfl) (fun w11 M11 => ?_)
              refine wl_nil ?_
              refine thenN ?_
              refine W_region ?_
              refine wl_q (r_move (.slice _ _ _) rfl) rfl rfl ?_
              refine wl_q (r_ldW 3 agg34 M11 rfl rfl rfl) rfl rfl ?_
              refine wl_bslice [.agg (List.toArray _)] [bodyCells (mvB dx dy xb)] rfl sl22 M11 rfl rfl rfl rfl (lens_of rfl) (by decide) (fun b12 w12 M12 => ?_)
              refine wl_append 2 [bodyCells (mvB dx dy xb)] sl22 M12 rfl rfl rfl rfl rfl hq rfl (by simpa using ⟨bodyCells_len _, bodyCells_one _⟩) (Cells.ofMem 4 M12 rfl) (by omega) (fun A13 c13 e13 w13 M13 hR13 => ?_)
              refine wl_q (r_assign (.slice _ _ _) rfl) rfl rfl ?_
              refine wl_nil ?_
              refine blkN ?_
              refine thenN ?_
              refine W_region ?_
              refine wl_q (r_move (.int _ _) rfl) rfl rfl ?_
              refine wl_q (r_add rfl rfl (by omega) (by omega)) rfl rfl ?_
              refine wl_q (r_assign (.int _ _) rfl) rfl rfl ?_
              refine wl_nil ?_
              refine roundN (i + 1, ⟨A13, q.n + 1, c13, e13⟩) (agC rfl (agC rfl agN)) (akC rfl (akC rfl akN)) ?_ ?_
              · exact ⟨⟨by omega, allNext (p := fun _ c => (-1073741824 ≤ c.px + dx ∧ c.px + dx ≤ 1073741824) ∧ (-1073741824 ≤ c.py + dy ∧ c.py + dy ≤ 1073741824)) hmv hxb ⟨⟨by omega, by omega⟩, by omega, by omega⟩, by rw [take_snoc hxb, List.map_append, List.map_append]; exact hR13⟩, M13.keep [true, true, true, false, false]⟩
              · (show r.n - (i + 1) < r.n - i; omega)
    · skip
      have hin : i = r.n := by omega
      rw [List.take_of_length_le (by omega)] at hq hql
      have hmo := mv_allok hrn hvo (fun j c hj => hmv j c (by omega))
      refine W_exit ?_
      refine thenX ?_
      refine roundX ?_
      refine blkH ?_
      refine thenN ?_
      refine W_seq ?_
      refine W_region ?_
      refine wl_q (r_move (.slice _ _ _) rfl) rfl rfl ?_
      refine wl_cal cal13 rfl rfl rfl ?_
      refine (contacts_All _ (F.mem hM6) (N.mem hM6) _ _ _ (viewL xs) (hr.rd hM6 (nthMem (i := 1) rfl)) hvo hvs (by first | decide | omega)).mono ?_
      rintro _ w14 ⟨v14, rfl, ⟨r0, m0, rfl, hfm0, hgm0, hr0, hM14⟩⟩
      refine ⟨_, rfl, ?_⟩
      have M14 : Mem _ _ [_, _, _, _] _ := hM6.call0 hM14
      have hfl0 := allC_len (viewL xs)
      refine wl_q (r_move (.tuple (List.toArray _)) rfl) rfl rfl ?_
      refine wl_q (r_ext (.slice _ _ _) rfl rfl) rfl rfl ?_
      refine wl_q (r_ext (.int _ _) rfl rfl) rfl rfl ?_
      refine wl_q (r_assign (.slice _ _ _) rfl) rfl rfl ?_
      refine wl_q (r_assign (.int _ _) rfl) rfl rfl ?_
      refine wl_nil ?_
      refine thenN ?_
      refine W_seq ?_
      refine W_region ?_
      refine wl_q (r_move (.slice _ _ _) rfl) rfl rfl ?_
      refine wl_cal cal13 rfl rfl rfl ?_
      refine (contacts_All _ (F.mem M14) (N.mem M14) _ _ _ ((viewL xs).map (mvB dx dy)) (hq.rd M14 (nthMem (i := 2) rfl)) (fun b hb => by obtain ⟨c, hc, rfl⟩ := List.mem_map.1 hb; exact hmo c hc) (mv_sorted hvs) (by first | decide | omega)).mono ?_
      rintro _ w15 ⟨v15, rfl, ⟨r5, m5, rfl, hfm5, hgm5, hr5, hM15⟩⟩
      refine ⟨_, rfl, ?_⟩
      have M15 : Mem _ _ [_, _, _, _, _] _ := M14.call0 hM15
      refine wl_q (r_move (.tuple (List.toArray _)) rfl) rfl rfl ?_
      refine wl_q (r_ext (.slice _ _ _) rfl rfl) rfl rfl ?_
      refine wl_q (r_ext (.int _ _) rfl rfl) rfl rfl ?_
      refine wl_q (r_assign (.slice _ _ _) rfl) rfl rfl ?_
      refine wl_q (r_assign (.int _ _) rfl) rfl rfl ?_
      refine wl_nil ?_
      refine thenN ?_
      refine W_seq ?_
      refine W_region ?_
      refine wl_q (r_move (.slice _ _ _) rfl) rfl rfl ?_
      refine wl_q (r_move (.slice _ _ _) rfl) rfl rfl ?_
      refine wl_cal cal15 rfl rfl rfl ?_
      refine (ref15_Same _ _ _ _ _ (hr0.rd M15 (nthMem (i := 3) rfl)) _ _ _ _ (hr5.rd M15 (nthMem (i := 4) rfl))).mono ?_
      rintro _ w16 ⟨v16, rfl, ⟨rfl, hb16⟩⟩
      refine ⟨_, rfl, ?_⟩
      have M16 := M15.callB hb16
      refine wl_re 96 (.bool true) (bT (allC_mv hvs hvo hmo).symm).symm ?_
      refine wl_q (r_assign (.bool true) rfl) rfl rfl ?_
      refine wl_nil ?_
      refine thenN ?_
      refine W_ret ?_
      skip
      refine fin1 (.bool true) rfl ?_
      exact ⟨rfl, M16.below⟩

end Go.Proofs.YtkegiinlfmlhlaaDoor

set_option linter.unusedVariables false
set_option linter.unusedSimpArgs false
set_option linter.unnecessarySimpa false
namespace Go.Proofs.YtkegiinlfmlhlaaDoor
open Go.Bil
open Go.RowKit (Below)
open Go.Proofs

namespace contactsMoves
open Go.ChangeShapes Go.WideShapes Go.ChangeAt Go.RowKit
open Go.ChangeMaps (open_string shut_string)
theorem own : ownKnob Tryd.prog.godebug = none := by kernel_rfl
theorem laidOut : laidOutB Tryd.prog = true := by kernel_rfl
set_option maxRecDepth 100000 in
theorem lifted (os : Os) (started : os.Started) (H : Type) (enc : TypeId × Value → H) :
    ReturnsInHanded {} Tryd.checked os 4 .any (fun w args => (Rows.contactsMovesSpec.pre enc Tryd.prog Tryd.f4 [] false w args ∧ laidMet Tryd.prog laidL w) ∧ sizedMet enc Tryd.prog Tryd.f4 (OpenSpec.ofChange Rows.contactsMovesSpec) false w args) (Rows.contactsMovesSpec.post enc Tryd.prog Tryd.f4 false true false false) := by
  refine returnsInHanded_of_change_and (C := Tryd.checked) (X := fun w _ => laidMet Tryd.prog laidL w) (fun _ _ _ hh h => h.of_heap hh) own started (by kernel_rfl) Tryd.func4
    (ChangeSpec.witness_at (enc := enc) (C := Tryd.checked) (os := os) (X := fun w _ => laidMet Tryd.prog laidL w) false (laidWorld os) #[.slice none 0 0, (.agg #[.int .i32 0, .int .i32 0])] 8 rfl (by kernel_rfl) (by kernel_rfl) (by kernel_rfl) (by kernel_rfl) (by kernel_rfl) (laidMet_of_run' 8 (by kernel_rfl) (by kernel_rfl))) ?_
  intro W base args ds gs before hval0 hW hcnd hsz0 hL _
  have hsz : (DataW.weightsEach Tryd.prog (Tryd.f4.params.toList ++ Rows.contactsMovesSpec.plain.varTypes Tryd.prog) (ds ++ gs)).all (· ≤ reachBytes) = true := hsz0
  have hval : ∀ (j : Nat) t v, Tryd.f4.params[j]? = some t → args[j]? = some v → Value.okWide Tryd.prog W .any base t v := hval0
  have hW' := hW
  obtain ⟨p, q, hA0, hV, rfl, hfz, hnd⟩ := hW
  have hA : DataW.TrodAll enc Tryd.prog W 0 (fun _ => true) true Tryd.f4.params.toList args.toList ds p := hA0
  rw [Tryd.params4] at hA hval hsz
  obtain ⟨v0, vs0, d0, ds0, p0, q0, hargs, rfl, rfl, h0, r0⟩ := trodAll_cons hA
  obtain ⟨v1, vs1, d1, ds1, p1, q1, rfl, rfl, rfl, h1, r1⟩ := trodAll_cons r0
  obtain ⟨rfl, rfl, rfl⟩ := trodAll_nil r1
  obtain rfl : args = #[v0, v1] := by cases args; simp_all
  obtain ⟨rfl, rfl⟩ := trodVars_none hV
  have k0 := h0
  have lt0 : ∀ x ∈ p0, x.block < W.heap.size := by obtain ⟨m, hm⟩ := k0; exact DataW.trod_lt m _ _ _ hm
  obtain ⟨a0, len0, cap0, rfl⟩ := okWide_slice Tryd.underlying22 (hval 0 22 v0 rfl rfl)
  have y0 := sized_rows hsz (j := 0) (t := 22) rfl rfl sl22 h0
  obtain ⟨ls0, R0, hi0⟩ := open_rows sl22 leaves34 rfl y0 h0
  obtain ⟨xs0, rfl, hx0⟩ := list_of bodyOf ls0 hi0
  have k1 := h1
  have lt1 : ∀ x ∈ p1, x.block < W.heap.size := by obtain ⟨m, hm⟩ := k1; exact DataW.trod_lt m _ _ _ hm
  obtain ⟨cs1, rfl, hi1⟩ := okWide_agg agg32 leaves32 rfl rfl h1
  obtain ⟨x1, rfl, hx1⟩ := vecOf _ hi1
  clear hA0 hval0 hsz0 hsz
  refine (law_ContactsMoves W (rdF hL) (rdN hL) x1.1 x1.2 hx1.1 hx1.2 _ _ _ xs0 R0).mono fun e W' ⟨v, he, hv, bel⟩ => ?_
  subst he
  subst hv
  exact ⟨_, rfl, _, _, _, [], _, [], hW', trodAll_mk1 (shut_bool Tryd.underlying4 _), (trodAll_cons_mk (Below.trod laidOut (by kernel_rfl) (of_decide_eq_true (by kernel_rfl)) k0 bel lt0) (trodAll_cons_mk (Below.trod laidOut (by kernel_rfl) (of_decide_eq_true (by kernel_rfl)) k1 bel lt1) trodAll_mk0)), rfl, bel.frame _, fun h => by cases h⟩
theorem over : Rows.contactsMovesRow.holds Tryd.pinned (OpenSpec.ofChange Rows.contactsMovesSpec) :=
  OpenClaim.holds_of_wide 4 Tryd.f4 rfl rfl rfl rfl rfl rfl rfl ⟨rfl, rfl, rfl, rfl, rfl⟩ rfl rfl rfl rfl rfl (by kernel_rfl) Tryd.func4 (by kernel_rfl)
    (of_decide_eq_true (by kernel_rfl)) (by unfold Func.isWrapper; first | (rw [if_pos (by decide +kernel)]; kernel_rfl) | (rw [if_neg (by decide +kernel)]; exact ⟨rfl, rfl⟩))
    (fun os started H enc _ => lifted os started H enc)
end contactsMoves
theorem contactsMoves_holds : Rows.ContactsMovesSaid := contactsMoves.over
#print axioms contactsMoves_holds
theorem contactsMoves_card : Rows.ContactsMovesCardSaid :=
  Claim7.holds_tied_plain_at .later [] [.data, .data] true (true, "d1d3c31060a6ca8baa398e157254570693e950adb22e4c3c0db7b24060cd2884") false
    contactsMoves_holds (fun _ h => by cases h) (by kernel_rfl) (fun _ h => by cases h) contactsMoves_row_tie rfl ⟨rfl, rfl⟩ (by kernel_rfl) rfl
    (fun f fn hf hfn => by
      obtain rfl : f = 4 := Option.some.inj ((show Tryd.prog.funcNamed "billiard/billiardlaw15.ContactsMoves" = some 4 by kernel_rfl).symm.trans hf) |>.symm
      obtain rfl : fn = Tryd.f4 := (Option.some.inj (Tryd.func4.symm.trans hfn)).symm
      exact ⟨by kernel_rfl, fun j t ht => by
        rw [Tryd.params4] at ht
        have hm : t ∈ [22, 32] := by simpa using Array.mem_of_getElem? ht
        have hall : ([22, 32].all fun u => !Tryd.prog.wantsStandIn u) = true := by kernel_rfl
        exact (show Tryd.prog.wantsStandIn t = false by simpa using List.all_eq_true.1 hall t hm)⟩)
    (by kernel_rfl)
#print axioms contactsMoves_card

end Go.Proofs.YtkegiinlfmlhlaaDoor
