/- Walks of Go functions over the frame of this claim: what each computes, for every input of the stated types (LPairsWithin). -/
import Derived.Test.YtfgbmegchdjfeaaDoorTy
import Derived.Test.YtfgbmegchdjfeaaDoorAw11
import Derived.Test.YtfgbmegchdjfeaaDoorMdR
set_option linter.unusedVariables false
set_option linter.unusedSimpArgs false
set_option linter.unnecessarySimpa false
namespace Go.Proofs.YtfgbmegchdjfeaaDoor
open Go.Bil
open Go.RowKit (Below)
open Go.Proofs

set_option maxHeartbeats 16000000 in
theorem law_PairsWithin (w : World) (F : Rd w 2 (some ⟨0, 0, none⟩) 1 [[.int .u32 73856093, .int .u32 19349663]]) (N : Rd w 4 (some ⟨1, 0, none⟩) 1 [bxCells noneB]) (f : Nat) (hf : f ≤ 255) (A : Option Addr) (n c : Nat) (xs : List Body) (R : Rd w 10 A n (xs.map bodyCells)) :
    Calls Tryd.prog 7 #[.slice A n c, .int .u8 (f : Int)] w (fun ex w' => ∃ v, ex = .returned v ∧ (fun v w' => v = .bool true ∧ Below w.heap.size w w') v w') := by
  have hlen : xs.length = n := by simpa using R.len
  have hbd := R.bound
  refine calls_of_W #[.tmp 4] 116 Tryd.func7 rfl Tryd.results7 Tryd.ntmps7 rfl ?_
  have M0 := Mem.refl w
  refine W_seq ?_
  refine W_region ?_
  refine wl_q (r_assign (.bool false) rfl) rfl rfl ?_
  refine wl_nil ?_
  refine thenN ?_
  refine W_seq ?_
  refine W_region ?_
  refine wl_q (r_move (.slice _ _ _) rfl) rfl rfl ?_
  refine wl_cal cal10 rfl rfl rfl ?_
  refine (ref11_View _ _ _ _ xs (R.mem M0)).mono ?_
  rintro _ w1 ⟨v1, rfl, ⟨r, rfl, hr, hM1⟩⟩
  refine ⟨_, rfl, ?_⟩
  have M1 : Mem _ _ [_] _ := M0.call0 hM1
  refine wl_q (r_move (.tuple (List.toArray _)) rfl) rfl rfl ?_
  refine wl_q (r_ext (.slice _ _ _) rfl rfl) rfl rfl ?_
  refine wl_q (r_ext (.bool (decide _)) rfl rfl) rfl rfl ?_
  refine wl_q (r_assign (.slice _ _ _) rfl) rfl rfl ?_
  refine wl_q (r_assign (.bool (decide _)) rfl) rfl rfl ?_
  refine wl_nil ?_
  refine thenN ?_
  refine W_seq ?_
  refine W_seq ?_
  refine W_region ?_
  refine wl_cal cal11 rfl rfl rfl ?_
  refine (aw11 _ (F.mem M1) (N.mem M1)).mono ?_
  rintro _ w2 ⟨v2, rfl, ⟨rfl, hb2⟩⟩
  refine ⟨_, rfl, ?_⟩
  have M2 := M1.callB hb2
  refine wl_q (r_notB false rfl rfl) rfl rfl ?_
  refine wl_q (r_move (.bool false) rfl) rfl rfl ?_
  refine wl_q (r_move (.bool (decide _)) rfl) rfl rfl ?_
  refine wl_q (r_not rfl) rfl rfl ?_
  refine wl_q (r_pick false (.bool (decide _)) rfl rfl) rfl rfl ?_
  refine wl_q (r_move (.bool (decide _)) rfl) rfl rfl ?_
  refine wl_splitD 27 rfl (fun g27 => ?_) (fun g27 => ?_)
  · skip
    refine wl_skip rfl rfl ?_
    refine wl_skip rfl rfl ?_
    refine wl_skip rfl rfl ?_
    refine wl_q (r_pick true (.bool true) rfl rfl) rfl rfl ?_
    refine wl_nil ?_
    refine thenN ?_
    refine W_condT rfl ?_
    refine W_seq ?_
    refine W_region ?_
    refine wl_cal cal11 rfl rfl rfl ?_
    refine (aw11 _ (F.mem M2) (N.mem M2)).mono ?_
    rintro _ w3 ⟨v3, rfl, ⟨rfl, hb3⟩⟩
    refine ⟨_, rfl, ?_⟩
    have M3 := M2.callB hb3
    refine wl_q (r_assign (.bool true) rfl) rfl rfl ?_
    refine wl_nil ?_
    refine thenN ?_
    refine W_ret ?_
    refine thenR ?_
    skip
    refine fin1 (.bool true) rfl ?_
    exact ⟨rfl, M3.below⟩
  · skip
    refine wl_q (r_move (.slice _ _ _) rfl) rfl rfl ?_
    refine wl_q (r_lenS Tryd.underlying22 rfl) rfl rfl ?_
    refine wl_q (r_bin (.bool (decide _)) rfl rfl rfl) rfl rfl ?_
    refine wl_q (r_pick false (.bool (decide _)) rfl rfl) rfl rfl ?_
    refine wl_nil ?_
    refine thenN ?_
    refine W_condD rfl (fun h31 => ?_) (fun h31 => ?_)
    · skip
      refine W_seq ?_
      refine W_region ?_
      refine wl_cal cal11 rfl rfl rfl ?_
      refine (aw11 _ (F.mem M2) (N.mem M2)).mono ?_
      rintro _ w4 ⟨v4, rfl, ⟨rfl, hb4⟩⟩
      refine ⟨_, rfl, ?_⟩
      have M4 := M2.callB hb4
      refine wl_q (r_assign (.bool true) rfl) rfl rfl ?_
      refine wl_nil ?_
      refine thenN ?_
      refine W_ret ?_
      refine thenR ?_
      skip
      refine fin1 (.bool true) rfl ?_
      exact ⟨rfl, M4.below⟩
    · skip
      obtain ⟨hV, hve, hvk⟩ := view_of (Decidable.not_not.1 g27)
      have hvl := hV.len
      have hrn : (viewL xs).length = r.n := by simpa using hr.1
      have hvs := hV.s
      have hvo := hV.okb
      obtain ⟨kk, hkk⟩ : ∃ kk : Nat, kk = f % r.n := ⟨_, rfl⟩
      have hkl : kk < r.n := by rw [hkk]; exact Nat.mod_lt _ (by omega)
      obtain ⟨y, hy⟩ := getSome (xs := (viewL xs)) (k := kk) hrn hkl
      have hym := List.mem_of_getElem? hy
      refine W_skip ?_
      refine thenN ?_
      refine W_seq ?_
      refine W_region ?_
      refine wl_q (r_move (.slice _ _ _) rfl) rfl rfl ?_
      refine wl_q (r_move (.int _ _) rfl) rfl rfl ?_
      refine wl_q (r_convK us5 Tryd.underlying3 rfl (w64 _ (by omega) (by omega))) rfl rfl ?_
      refine wl_q (r_move (.slice _ _ _) rfl) rfl rfl ?_
      refine wl_q (r_lenS Tryd.underlying22 rfl) rfl rfl ?_
      refine wl_q (r_rem rfl rfl (by omega)) rfl rfl ?_
      refine wl_re 38 (.int .i64 (kk : Int)) (iE (tmod_nat rfl hkk)) ?_
      refine wl_q (r_idxR (kk) sl22 rfl rfl rfl ((hr.rd M2 (nthMem (i := 0) rfl)).below_len (mapGet bodyCells hy)) ((hr.rd M2 (nthMem (i := 0) rfl)).someK (mapGet bodyCells hy))) rfl rfl ?_
      refine wl_q (r_ldEA _ agg49 (hr.rd M2 (nthMem (i := 0) rfl)) (mapGet bodyCells hy) rfl) rfl rfl ?_
      refine wl_alloc zero49 M2 rfl rfl (fun b5 w5 M5 => ?_)
      refine wl_stW 1 _ agg49 M5 rfl rfl rfl rfl rfl (ones_of rfl) rfl (fun w6 M6 => ?_)
      refine wl_nil ?_
      refine thenN ?_
      refine W_seq ?_
      refine W_region ?_
      refine wl_q (r_ldW 1 agg49 M6 rfl rfl rfl) rfl rfl ?_
      refine wl_cal cal22 rfl rfl rfl ?_
      refine (ref08_Of _ y (hvo y hym)).mono ?_
      rintro _ w7 ⟨v7, rfl, ⟨rfl, hb7⟩⟩
      refine ⟨_, rfl, ?_⟩
      have M7 := M6.callB hb7
      refine wl_alloc zero24 M7 rfl rfl (fun b8 w8 M8 => ?_)
      refine wl_stW 2 _ agg24 M8 rfl rfl rfl rfl rfl (ones_of rfl) rfl (fun w9 M9 => ?_)
      refine wl_nil ?_
      refine thenN ?_
      refine W_seq ?_
      refine W_region ?_
      refine wl_q (r_move (.slice _ _ _) rfl) rfl rfl ?_
      refine wl_q (r_fieldAddr 0 fld24_0 rfl) rfl rfl ?_
      refine wl_q (r_ld 2 (.int _ _) one21 M9 rfl rfl rfl) rfl rfl ?_
      refine wl_q (r_fieldAddr 1 fld24_1 rfl) rfl rfl ?_
      refine wl_q (r_ld 2 (.int _ _) one21 M9 rfl rfl rfl) rfl rfl ?_
      refine wl_q (r_fieldAddr 2 fld24_2 rfl) rfl rfl ?_
      refine wl_q (r_ld 2 (.int _ _) one21 M9 rfl rfl rfl) rfl rfl ?_
      refine wl_q (r_fieldAddr 3 fld24_3 rfl) rfl rfl ?_
      refine wl_q (r_ld 2 (.int _ _) one21 M9 rfl rfl rfl) rfl rfl ?_
      refine wl_q (r_build [(0, .int _ _), (1, .int _ _), (2, .int _ _), (3, .int _ _)] _ struct32 rfl rfl) rfl rfl ?_
      refine wl_cal cal16 rfl rfl rfl ?_
      refine (pairs_Within _ (N.mem M9) _ _ _ (viewL xs) (hr.rd M9 (nthMem (i := 0) rfl)) hvo (boxOf y) (by first | decide | omega)).mono ?_
      rintro _ w10 ⟨v10, rfl, ⟨r3, rfl, hr3, hM10⟩⟩
      refine ⟨_, rfl, ?_⟩
      have M10 : Mem _ _ [_, _, _, _] _ := M9.call0 hM10
      refine wl_q (r_assign (.slice _ _ _) rfl) rfl rfl ?_
      refine wl_nil ?_
      refine thenN ?_
      refine W_seq ?_
      refine W_region ?_
      refine wl_q (r_move (.slice _ _ _) rfl) rfl rfl ?_
      refine wl_cal cal12 rfl rfl rfl ?_
      refine (pairs_Find _ (F.mem M10) (N.mem M10) _ _ _ (viewL xs) (hr.rd M10 (nthMem (i := 0) rfl)) hvo hvs (by first | decide | omega)).mono ?_
      rintro _ w11 ⟨v11, rfl, ⟨r0, m0, rfl, hfm0, hgm0, hr0, hM11⟩⟩
      refine ⟨_, rfl, ?_⟩
      have M11 : Mem _ _ [_, _, _, _, _] _ := M10.call0 hM11
      have hfl := hr0.1
      rw [List.length_map] at hfl
      have hfs := findP_small hvl
      refine wl_q (r_move (.tuple (List.toArray _)) rfl) rfl rfl ?_
      refine wl_q (r_ext (.slice _ _ _) rfl rfl) rfl rfl ?_
      refine wl_q (r_ext (.int _ _) rfl rfl) rfl rfl ?_
      refine wl_q (r_assign (.slice _ _ _) rfl) rfl rfl ?_
      refine wl_q (r_assign (.int _ _) rfl) rfl rfl ?_
      refine wl_nil ?_
      refine thenN ?_
      refine W_seq ?_
      refine W_region ?_
      refine wl_q (r_assign (.slice _ _ _) rfl) rfl rfl ?_
      have M12 := M11.dummy default
      refine wl_nil ?_
      refine thenN ?_
      refine W_seq ?_
      refine W_seq ?_
      refine W_region ?_
      refine wl_q (r_assign (.int _ _) rfl) rfl rfl ?_
      refine wl_nil ?_
      refine thenN ?_
      refine W_block ?_
      refine W_loop (σ := Nat × Row) [4, 5, 7, 9, 10] (fun (i, q) => [(12, .slice q.A q.n q.c), (13, .int .i64 (i : Int))]) (fun (i, q) w' => (i ≤ r.n ∧ RowIs 25 1 q.A q.n q.c ((withinL ((viewL xs).take i) (boxOf y)).map keyCell) q.e) ∧ Mem w [] [r.e, (some b5, bc (bodyCells y) 49), (some b8, bc (bxCells (boxOf y)) 24), r3.e, r0.e, q.e] w') (fun (i, q) => r.n - i) (0, nilRow) (agC rfl (agC rfl agN)) (⟨⟨by omega, RowIs.nil _ _ _⟩, M12⟩) ?_
      rintro ⟨i, q⟩ ρ13 w13 ⟨⟨hi, hq⟩, hM13⟩
      have hwl := withinL_len ((viewL xs).take i) (boxOf y)
      have htl := List.length_take_le i (viewL xs)
      have hql : (withinL ((viewL xs).take i) (boxOf y)).length = q.n := by simpa using hq.1
      refine W_seq ?_
      refine W_seq ?_
      refine W_region ?_
      refine wl_q (r_move (.int _ _) rfl) rfl rfl ?_
      refine wl_q (r_move (.slice _ _ _) rfl) rfl rfl ?_
      refine wl_q (r_lenS Tryd.underlying22 rfl) rfl rfl ?_
      refine wl_q (r_bin (.bool (decide _)) rfl rfl rfl) rfl rfl ?_
      refine wl_nil ?_
      refine thenN ?_
      refine W_condD rfl (fun h62 => ?_) (fun h62 => ?_)
      · skip
        obtain ⟨xb, hxb⟩ := getSome (xs := (viewL xs)) (k := i) hrn (by omega)
        have hw := within_iff' hV hym (List.mem_of_getElem? hxb)
        refine W_skip ?_
        refine thenN ?_
        refine W_seq ?_
        refine W_block ?_
        refine W_seq ?_
        refine W_draw [(0, 0), (1, 0), (2, 1), (3, 1), (4, 1), (5, 0), (6, 1), (7, 0), (8, 0)] mixed rfl (by kernel_rfl) (fun w14 hb14 hh14 => ?_)
        have M14 := hM13.drew hb14 hh14
        refine D_p rfl rfl rfl (fun _ => r_move (.slice _ _ _) rfl) ?_
        refine D_p rfl rfl rfl (fun _ => r_move (.int _ _) rfl) ?_
        refine D_r rfl rfl rfl (r_idxR (i) sl22 rfl rfl rfl ((hr.rd M14 (nthMem (i := 0) rfl)).below_len (mapGet bodyCells hxb)) ((hr.rd M14 (nthMem (i := 0) rfl)).someK (mapGet bodyCells hxb))) ?_
        refine D_r rfl rfl rfl (r_fieldAddrE 0 fld49_0 (hr.rd M14 (nthMem (i := 0) rfl)) (Nat.lt_of_le_of_lt (Nat.zero_le _) ((hr.rd M14 (nthMem (i := 0) rfl)).below_len (mapGet bodyCells hxb))) rfl) ?_
        refine D_r rfl rfl rfl (r_ldE (o := 0) (.int _ _) one25 (hr.rd M14 (nthMem (i := 0) rfl)) (mapGet bodyCells hxb) rfl rfl) ?_
        refine D_p rfl rfl rfl (fun _ => r_fieldAddr 0 fld49_0 rfl) ?_
        refine D_r rfl rfl rfl (r_ld 1 (.int _ _) one25 M14 rfl rfl rfl) ?_
        refine D_p rfl rfl rfl (fun _ => r_bin (.bool (decide _)) rfl rfl rfl) ?_
        refine D_p rfl rfl rfl (fun _ => r_assign (.bool (decide _)) rfl) ?_
        refine D_nil ?_
        refine thenN ?_
        refine W_seq ?_
        refine W_seq ?_
        refine W_region ?_
        refine wl_q (r_assign (.int _ _) rfl) rfl rfl ?_
        refine wl_nil ?_
        refine thenN ?_
        refine W_block ?_
        refine W_loop (σ := Nat) [4, 5, 7, 9, 10, 12, 13] (fun k => [(14, .bool (decide (xb.key = y.key ∨ prI y.key xb.key ∈ (findP (viewL xs)).take k))), (15, .int .i64 (k : Int))]) (fun k w' => k ≤ r0.n ∧ Mem w [] [r.e, (some b5, bc (bodyCells y) 49), (some b8, bc (bxCells (boxOf y)) 24), r3.e, r0.e, q.e] w') (fun k => r0.n - k) 0 (agC (bD (by simp)) (agC rfl agN)) (⟨by omega, M14⟩) ?_
        rintro k ρ15 w15 ⟨hk, hM15⟩
        refine W_seq ?_
        refine W_seq ?_
        refine W_region ?_
        refine wl_q (r_move (.int _ _) rfl) rfl rfl ?_
        refine wl_q (r_move (.slice _ _ _) rfl) rfl rfl ?_
        refine wl_q (r_lenS Tryd.underlying29 rfl) rfl rfl ?_
        refine wl_q (r_bin (.bool (decide _)) rfl rfl rfl) rfl rfl ?_
        refine wl_nil ?_
        refine thenN ?_
        refine W_condD rfl (fun h76 => ?_) (fun h76 => ?_)
        · skip
          obtain ⟨z, hz⟩ := getSome (xs := findP (viewL xs)) (k := k) hfl (by omega)
          refine W_skip ?_
          refine thenN ?_
          refine W_seq ?_
          refine W_block ?_
          refine W_draw [(0, 0), (1, 0), (2, 0), (3, 0), (4, 1), (5, 1), (6, 0), (7, 1), (8, 0), (9, 0), (10, 1), (11, 1), (12, 1), (13, 0), (14, 0), (15, 1), (16, 0), (17, 0), (18, 1), (19, 1), (20, 1), (21, 0), (22, 0), (23, 0), (24, 0), (25, 0)] mixed rfl (by kernel_rfl) (fun w16 hb16 hh16 => ?_)
          have M16 := hM15.drew hb16 hh16
          refine D_p rfl rfl rfl (fun _ => r_move (.bool (decide _)) rfl) ?_
          refine D_p rfl rfl rfl (fun _ => r_move (.bool (decide _)) rfl) ?_
          refine D_splitD 80 rfl (fun g80 => ?_) (fun g80 => ?_)
          · skip
            refine D_s rfl rfl rfl ?_
            refine D_s rfl rfl rfl ?_
            refine D_s1 rfl rfl rfl ?_
            refine D_s1 rfl rfl rfl ?_
            refine D_s rfl rfl rfl ?_
            refine D_s1 rfl rfl rfl ?_
            refine D_s rfl rfl rfl ?_
            refine D_s rfl rfl rfl ?_
            refine D_s1 rfl rfl rfl ?_
            refine D_s1 rfl rfl rfl ?_
            refine D_s1 rfl rfl rfl ?_
            refine D_s rfl rfl rfl ?_
            refine D_s rfl rfl rfl ?_
            refine D_s1 rfl rfl rfl ?_
            refine D_s rfl rfl rfl ?_
            refine D_s rfl rfl rfl ?_
            refine D_s1 rfl rfl rfl ?_
            refine D_s1 rfl rfl rfl ?_
            refine D_s1 rfl rfl rfl ?_
            refine D_s rfl rfl rfl ?_
            refine D_s rfl rfl rfl ?_
            refine D_s rfl rfl rfl ?_
            refine D_p rfl rfl rfl (fun _ => r_pick true (.bool true) rfl rfl) ?_
            refine D_p rfl rfl rfl (fun _ => r_assign (.bool true) rfl) ?_
            refine D_nil ?_
            refine blkN ?_
            refine thenN ?_
            refine W_region ?_
            refine wl_q (r_move (.int _ _) rfl) rfl rfl ?_
            refine wl_q (r_add rfl rfl (by omega) (by omega)) rfl rfl ?_
            refine wl_q (r_assign (.int _ _) rfl) rfl rfl ?_
            refine wl_nil ?_
            refine roundN (k + 1) (agC (bT (by rw [mem_take_snoc hz]; exact g80.imp id .inl)) (agC rfl agN)) (akC rfl (akC rfl (akC rfl (akC rfl (akC rfl (akC rfl (akC rfl akN))))))) ?_ ?_
            · exact ⟨by omega, M16⟩
            · omega
          · skip
            refine D_p rfl rfl rfl (fun _ => r_move (.slice _ _ _) rfl) ?_
            refine D_p rfl rfl rfl (fun _ => r_move (.int _ _) rfl) ?_
            refine D_r rfl rfl rfl (r_idxR (k) sl29 rfl rfl rfl ((hr0.rd M16 (nthMem (i := 4) rfl)).below_len (mapGet pairCells hz)) ((hr0.rd M16 (nthMem (i := 4) rfl)).someK (mapGet pairCells hz))) ?_
            refine D_r rfl rfl rfl (r_ldEA _ agg42 (hr0.rd M16 (nthMem (i := 4) rfl)) (mapGet pairCells hz) rfl) ?_
            refine D_p rfl rfl rfl (fun _ => r_fieldAddr 0 fld49_0 rfl) ?_
            refine D_r rfl rfl rfl (r_ld 1 (.int _ _) one25 M16 rfl rfl rfl) ?_
            refine D_p rfl rfl rfl (fun _ => r_move (.slice _ _ _) rfl) ?_
            refine D_p rfl rfl rfl (fun _ => r_move (.int _ _) rfl) ?_
            refine D_r rfl rfl rfl (r_idxR (i) sl22 rfl rfl rfl ((hr.rd M16 (nthMem (i := 0) rfl)).below_len (mapGet bodyCells hxb)) ((hr.rd M16 (nthMem (i := 0) rfl)).someK (mapGet bodyCells hxb))) ?_
            refine D_r rfl rfl rfl (r_fieldAddrE 0 fld49_0 (hr.rd M16 (nthMem (i := 0) rfl)) (Nat.lt_of_le_of_lt (Nat.zero_le _) ((hr.rd M16 (nthMem (i := 0) rfl)).below_len (mapGet bodyCells hxb))) rfl) ?_
            refine D_r rfl rfl rfl (r_ldE (o := 0) (.int _ _) one25 (hr.rd M16 (nthMem (i := 0) rfl)) (mapGet bodyCells hxb) rfl rfl) ?_
            refine D_p rfl rfl rfl (fun _ => r_min2 rfl rfl ) ?_
            refine D_p rfl rfl rfl (fun _ => r_fieldAddr 0 fld49_0 rfl) ?_
            refine D_r rfl rfl rfl (r_ld 1 (.int _ _) one25 M16 rfl rfl rfl) ?_
            refine D_p rfl rfl rfl (fun _ => r_move (.slice _ _ _) rfl) ?_
            refine D_p rfl rfl rfl (fun _ => r_move (.int _ _) rfl) ?_
            refine D_r rfl rfl rfl (r_idxR (i) sl22 rfl rfl rfl ((hr.rd M16 (nthMem (i := 0) rfl)).below_len (mapGet bodyCells hxb)) ((hr.rd M16 (nthMem (i := 0) rfl)).someK (mapGet bodyCells hxb))) ?_
            refine D_r rfl rfl rfl (r_fieldAddrE 0 fld49_0 (hr.rd M16 (nthMem (i := 0) rfl)) (Nat.lt_of_le_of_lt (Nat.zero_le _) ((hr.rd M16 (nthMem (i := 0) rfl)).below_len (mapGet bodyCells hxb))) rfl) ?_
            refine D_r rfl rfl rfl (r_ldE (o := 0) (.int _ _) one25 (hr.rd M16 (nthMem (i := 0) rfl)) (mapGet bodyCells hxb) rfl rfl) ?_
            refine D_p rfl rfl rfl (fun _ => r_max2 rfl rfl ) ?_
            refine D_p rfl rfl rfl (fun _ => r_build [(0, .int _ _), (1, .int _ _)] _ struct42 rfl rfl) ?_
            refine D_p rfl rfl rfl (fun _ => r_eqA (eqPair z (prI y.key xb.key)) rfl rfl) ?_
            refine D_p rfl rfl rfl (fun _ => r_pick false (.bool (decide _)) rfl rfl) ?_
            refine D_p rfl rfl rfl (fun _ => r_assign (.bool (decide _)) rfl) ?_
            refine D_nil ?_
            refine blkN ?_
            refine thenN ?_
            refine W_region ?_
            refine wl_q (r_move (.int _ _) rfl) rfl rfl ?_
            refine wl_q (r_add rfl rfl (by omega) (by omega)) rfl rfl ?_
            refine wl_q (r_assign (.int _ _) rfl) rfl rfl ?_
            refine wl_nil ?_
            refine roundN (k + 1) (agC (bD (by rw [mem_take_snoc hz]; exact ⟨fun h => .inr (.inr h), fun h => h.elim (fun h => absurd (.inl h) g80) (fun h => h.elim (fun h => absurd (.inr h) g80) id)⟩)) (agC rfl agN)) (akC rfl (akC rfl (akC rfl (akC rfl (akC rfl (akC rfl (akC rfl akN))))))) ?_ ?_
            · exact ⟨by omega, M16⟩
            · omega
        · skip
          have hkn : k = r0.n := by omega
          refine W_exit ?_
          refine thenX ?_
          refine roundX ?_
          refine blkH ?_
          refine thenN ?_
          refine W_seq ?_
          refine W_region ?_
          have htk : (findP (viewL xs)).take k = findP (viewL xs) := List.take_of_length_le (by omega)
          rw [← htk] at hw
          refine wl_q (r_move (.bool (decide _)) rfl) rfl rfl ?_
          refine wl_nil ?_
          refine thenN ?_
          refine W_condD rfl (fun h104 => ?_) (fun h104 => ?_)
          · skip
            refine W_region ?_
            refine wl_q (r_move (.slice _ _ _) rfl) rfl rfl ?_
            refine wl_q (r_move (.slice _ _ _) rfl) rfl rfl ?_
            refine wl_q (r_move (.int _ _) rfl) rfl rfl ?_
            refine wl_q (r_idxR (i) sl22 rfl rfl rfl ((hr.rd hM15 (nthMem (i := 0) rfl)).below_len (mapGet bodyCells hxb)) ((hr.rd hM15 (nthMem (i := 0) rfl)).someK (mapGet bodyCells hxb))) rfl rfl ?_
            refine wl_q (r_fieldAddrE 0 fld49_0 (hr.rd hM15 (nthMem (i := 0) rfl)) (Nat.lt_of_le_of_lt (Nat.zero_le _) ((hr.rd hM15 (nthMem (i := 0) rfl)).below_len (mapGet bodyCells hxb))) rfl) rfl rfl ?_
            refine wl_q (r_ldE (o := 0) (.int _ _) one25 (hr.rd hM15 (nthMem (i := 0) rfl)) (mapGet bodyCells hxb) rfl rfl) rfl rfl ?_
            refine wl_bslice [.int _ _] [keyCell xb.key] rfl sl36 hM15 rfl rfl rfl rfl (lens_of rfl) (by decide) (fun b17 w17 M17 => ?_)
            refine wl_append 5 [keyCell xb.key] sl36 M17 rfl rfl rfl rfl rfl hq rfl (keyCell_ok _) (Cells.ofMem 6 M17 rfl) (by omega) (fun A18 c18 e18 w18 M18 hR18 => ?_)
            refine wl_q (r_assign (.slice _ _ _) rfl) rfl rfl ?_
            refine wl_nil ?_
            refine blkN ?_
            refine thenN ?_
            refine W_region ?_
            refine wl_q (r_move (.int _ _) rfl) rfl rfl ?_
            refine wl_q (r_add rfl rfl (by omega) (by omega)) rfl rfl ?_
            refine wl_q (r_assign (.int _ _) rfl) rfl rfl ?_
            refine wl_nil ?_
            refine roundN (i + 1, ⟨A18, q.n + 1, c18, e18⟩) (agC rfl (agC rfl agN)) (akC rfl (akC rfl (akC rfl (akC rfl (akC rfl akN))))) ?_ ?_
            · exact ⟨⟨by omega, by rw [withinL_yes hxb (hw.1 h104), List.map_append]; exact hR18⟩, M18.keep [true, true, true, true, true, true, false]⟩
            · (show r.n - (i + 1) < r.n - i; omega)
          · skip
            refine W_skip ?_
            refine blkN ?_
            refine thenN ?_
            refine W_region ?_
            refine wl_q (r_move (.int _ _) rfl) rfl rfl ?_
            refine wl_q (r_add rfl rfl (by omega) (by omega)) rfl rfl ?_
            refine wl_q (r_assign (.int _ _) rfl) rfl rfl ?_
            refine wl_nil ?_
            refine roundN (i + 1, q) (agC rfl (agC rfl agN)) (akC rfl (akC rfl (akC rfl (akC rfl (akC rfl akN))))) ?_ ?_
            · exact ⟨⟨by omega, by rw [withinL_no hxb (fun h => h104 (hw.2 h))]; exact hq⟩, hM15⟩
            · (show r.n - (i + 1) < r.n - i; omega)
      · skip
        have hin : i = r.n := by omega
        rw [List.take_of_length_le (by omega)] at hq
        refine W_exit ?_
        refine thenX ?_
        refine roundX ?_
        refine blkH ?_
        refine thenN ?_
        refine W_seq ?_
        refine W_region ?_
        refine wl_q (r_move (.slice _ _ _) rfl) rfl rfl ?_
        refine wl_q (r_move (.slice _ _ _) rfl) rfl rfl ?_
        refine wl_cal cal15 rfl rfl rfl ?_
        refine (ref07_Keys _ _ _ _ _ (hr3.rd hM13 (nthMem (i := 3) rfl)) _ _ _ _ (hq.rd hM13 (nthMem (i := 5) rfl))).mono ?_
        rintro _ w19 ⟨v19, rfl, ⟨rfl, hb19⟩⟩
        refine ⟨_, rfl, ?_⟩
        have M19 := hM13.callB hb19
        refine wl_re 115 (.bool true) (bT rfl).symm ?_
        refine wl_q (r_assign (.bool true) rfl) rfl rfl ?_
        refine wl_nil ?_
        refine thenN ?_
        refine W_ret ?_
        skip
        refine fin1 (.bool true) rfl ?_
        exact ⟨rfl, M19.below⟩

end Go.Proofs.YtfgbmegchdjfeaaDoor
