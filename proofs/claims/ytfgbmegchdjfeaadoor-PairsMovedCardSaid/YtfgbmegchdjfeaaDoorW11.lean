/- Walks of Go functions over the frame of this claim: what each computes, for every input of the stated types (W11). -/
import Derived.Test.YtfgbmegchdjfeaaDoorTy
import Derived.Test.YtfgbmegchdjfeaaDoorV11
import Derived.Test.YtfgbmegchdjfeaaDoorV7
set_option linter.unusedVariables false
set_option linter.unusedSimpArgs false
set_option linter.unnecessarySimpa false
namespace Go.Proofs.YtfgbmegchdjfeaaDoor
open Go.Bil
open Go.RowKit (Below)
open Go.Proofs

set_option maxHeartbeats 4000000 in
theorem pairs_Within (w : World) (N : Rd w 4 (some ⟨1, 0, none⟩) 1 [bxCells noneB]) (A : Option Addr) (n c : Nat) (xs : List Body) (R : Rd w 10 A n (xs.map bodyCells)) (hb : ∀ b ∈ xs, Okb b) (a : Bx) (hn : n ≤ 1048576) :
    Calls Tryd.prog 16 #[.slice A n c, (.agg (bxCells a).toArray)] w (fun ex w' => ∃ v, ex = .returned v ∧ (fun v w' => ∃ r : Row, v = .slice r.A r.n r.c ∧ RowIs 25 1 r.A r.n r.c ((withinL xs a).map keyCell) r.e ∧ Mem w [] [r.e] w') v w') := by
  have hlen : xs.length = n := by simpa using R.len
  have hbd := R.bound
  refine calls_of_W #[.tmp 4] 25 Tryd.func16 rfl Tryd.results16 Tryd.ntmps16 rfl ?_
  have M0 := Mem.refl w
  refine W_seq ?_
  refine W_region ?_
  refine wl_box (.agg (List.toArray _)) M0 rfl rfl rfl (fun b1 w1 M1 => ?_)
  refine wl_q (r_assign (.slice _ _ _) rfl) rfl rfl ?_
  refine wl_nil ?_
  refine thenN ?_
  refine W_seq ?_
  refine W_region ?_
  refine wl_q (r_assign (.slice _ _ _) rfl) rfl rfl ?_
  have M2 := M1.dummy default
  refine wl_nil ?_
  refine thenN ?_
  refine W_seq ?_
  refine W_seq ?_
  refine W_region ?_
  refine wl_q (r_move (.slice _ _ _) rfl) rfl rfl ?_
  refine wl_q (r_lenS Tryd.underlying22 rfl) rfl rfl ?_
  refine wl_q (r_move (.int _ _) rfl) rfl rfl ?_
  refine wl_nil ?_
  refine thenN ?_
  refine W_block ?_
  refine W_loop (σ := Nat × Row) [3, 4, 8, 9] (fun (k, r) => [(5, .slice r.A r.n r.c), (10, .int .i64 (k : Int))]) (fun (k, r) w' => (k ≤ n ∧ RowIs 25 1 r.A r.n r.c ((withinL (xs.take k) a).map keyCell) r.e) ∧ Mem w [] [(some b1, bc (bxCells a) 32), r.e] w') (fun (k, r) => n - k) (0, nilRow) (agC rfl (agC rfl agN)) (⟨⟨by omega, RowIs.nil _ _ _⟩, M2⟩) ?_
  rintro ⟨k, r⟩ ρ3 w3 ⟨⟨hk, hr⟩, hM3⟩
  have hwl := withinL_len (xs.take k) a
  have htl := List.length_take_le k xs
  have hrl : (withinL (xs.take k) a).length = r.n := by simpa using hr.1
  refine W_seq ?_
  refine W_region ?_
  refine wl_q (r_bin (.bool (decide _)) rfl rfl rfl) rfl rfl ?_
  refine wl_nil ?_
  refine thenN ?_
  refine W_seq ?_
  refine W_condD rfl (fun h11 => ?_) (fun h11 => ?_)
  · skip
    obtain ⟨xb, hxb⟩ := getSome (k := k) hlen (by omega)
    refine W_skip ?_
    refine thenN ?_
    refine W_seq ?_
    refine W_block ?_
    refine W_seq ?_
    refine W_region ?_
    refine wl_q (r_idxR (k) sl22 rfl rfl rfl ((R.mem hM3).below_len (mapGet bodyCells hxb)) ((R.mem hM3).someK (mapGet bodyCells hxb))) rfl rfl ?_
    refine wl_q (r_ldEA _ agg49 (R.mem hM3) (mapGet bodyCells hxb) rfl) rfl rfl ?_
    refine wl_alloc zero49 hM3 rfl rfl (fun b4 w4 M4 => ?_)
    refine wl_stW 2 _ agg49 M4 rfl rfl rfl rfl rfl (ones_of rfl) rfl (fun w5 M5 => ?_)
    refine wl_nil ?_
    refine thenN ?_
    refine W_seq ?_
    refine W_draw [(0, 1), (2, 1), (1, 2), (3, 2)] mixed rfl (by kernel_rfl) (fun w6 hb6 hh6 => ?_)
    have M6 := M5.drew hb6 hh6
    refine D_r rfl rfl rfl (r_ldW 2 agg49 M6 rfl rfl rfl) ?_
    refine D_r rfl rfl rfl (r_ldW 0 agg32 M6 rfl rfl rfl) ?_
    refine D_e [false, true] rfl (by kernel_rfl) ?_
    refine wl_cal cal36 rfl rfl rfl ?_
    refine (box_Of _ xb (hb xb (List.mem_of_getElem? hxb))).mono ?_
    rintro _ w7 ⟨v7, rfl, ⟨rfl, hb7⟩⟩
    refine ⟨_, rfl, ?_⟩
    have M7 := M6.callB hb7
    refine wl_nil (thenN ⟨(alC (Yl_of rfl (r_ldW 0 agg32 M7 rfl rfl rfl)) alN), ?_⟩)
    refine D_e [true] rfl (by kernel_rfl) ?_
    refine wl_cal cal35 rfl rfl rfl ?_
    refine (box_Overlap _ (N.mem M7) (boxOf xb) a).mono ?_
    rintro _ w8 ⟨v8, rfl, ⟨rfl, hb8⟩⟩
    refine ⟨_, rfl, ?_⟩
    have M8 := M7.callB hb8
    refine wl_nil (thenN ⟨alN, ?_⟩)
    refine D_nil ?_
    refine thenN ?_
    refine W_condD rfl (fun h17 => ?_) (fun h17 => ?_)
    · skip
      refine W_region ?_
      refine wl_q (r_move (.slice _ _ _) rfl) rfl rfl ?_
      refine wl_q (r_fieldAddr 0 fld49_0 rfl) rfl rfl ?_
      refine wl_q (r_ld 2 (.int _ _) one25 M8 rfl rfl rfl) rfl rfl ?_
      refine wl_bslice [.int _ _] [keyCell xb.key] rfl sl36 M8 rfl rfl rfl rfl (lens_of rfl) (by decide) (fun b9 w9 M9 => ?_)
      refine wl_append 1 [keyCell xb.key] sl36 M9 rfl rfl rfl rfl rfl hr rfl (keyCell_ok _) (Cells.ofMem 3 M9 rfl) (by omega) (fun A10 c10 e10 w10 M10 hR10 => ?_)
      refine wl_q (r_assign (.slice _ _ _) rfl) rfl rfl ?_
      refine wl_nil ?_
      refine blkN ?_
      refine thenN ?_
      refine W_region ?_
      refine wl_q (r_add rfl rfl (by omega) (by omega)) rfl rfl ?_
      refine wl_q (r_move (.int _ _) rfl) rfl rfl ?_
      refine wl_nil ?_
      refine roundN (k + 1, ⟨A10, r.n + 1, c10, e10⟩) (agC rfl (agC rfl agN)) (akC rfl (akC rfl (akC rfl (akC rfl akN)))) ?_ ?_
      · exact ⟨⟨by omega, by rw [withinL_yes hxb h17]; simpa using hR10⟩, M10.keep [true, true, false, false]⟩
      · (show n - (k + 1) < n - k; omega)
    · skip
      refine W_skip ?_
      refine blkN ?_
      refine thenN ?_
      refine W_region ?_
      refine wl_q (r_add rfl rfl (by omega) (by omega)) rfl rfl ?_
      refine wl_q (r_move (.int _ _) rfl) rfl rfl ?_
      refine wl_nil ?_
      refine roundN (k + 1, r) (agC rfl (agC rfl agN)) (akC rfl (akC rfl (akC rfl (akC rfl akN)))) ?_ ?_
      · exact ⟨⟨by omega, by rw [withinL_no hxb h17]; exact hr⟩, M8.keep [true, true, false]⟩
      · (show n - (k + 1) < n - k; omega)
  · skip
    have hkn : k = n := by omega
    rw [List.take_of_length_le (by omega)] at hr
    refine W_exit ?_
    refine thenX ?_
    refine roundX ?_
    refine blkH ?_
    refine thenN ?_
    refine W_seq ?_
    refine W_region ?_
    refine wl_q (r_move (.slice _ _ _) rfl) rfl rfl ?_
    refine wl_q (r_assign (.slice _ _ _) rfl) rfl rfl ?_
    refine wl_nil ?_
    refine thenN ?_
    refine W_ret ?_
    skip
    refine fin1 (.slice _ _ _) rfl ?_
    exact ⟨r, rfl, hr, hM3.keep [false, true]⟩

set_option maxHeartbeats 4000000 in
theorem ref11_Within (w : World)  (A : Option Addr) (n c : Nat) (xs : List Body) (R : Rd w 10 A n (xs.map bodyCells)) (hb : ∀ b ∈ xs, Okb b) (a : Bx) (hn : n ≤ 1048576) :
    Calls Tryd.prog 17 #[.slice A n c, (.agg (bxCells a).toArray)] w (fun ex w' => ∃ v, ex = .returned v ∧ (fun v w' => ∃ r : Row, v = .slice r.A r.n r.c ∧ RowIs 25 1 r.A r.n r.c ((withinL xs a).map keyCell) r.e ∧ Mem w [] [r.e] w') v w') := by
  have hlen : xs.length = n := by simpa using R.len
  have hbd := R.bound
  refine calls_of_W #[.tmp 4] 29 Tryd.func17 rfl Tryd.results17 Tryd.ntmps17 rfl ?_
  have M0 := Mem.refl w
  refine W_seq ?_
  refine W_region ?_
  refine wl_box (.agg (List.toArray _)) M0 rfl rfl rfl (fun b1 w1 M1 => ?_)
  refine wl_q (r_assign (.slice _ _ _) rfl) rfl rfl ?_
  refine wl_nil ?_
  refine thenN ?_
  refine W_seq ?_
  refine W_region ?_
  refine wl_q (r_assign (.slice _ _ _) rfl) rfl rfl ?_
  have M2 := M1.dummy default
  refine wl_nil ?_
  refine thenN ?_
  refine W_seq ?_
  refine W_seq ?_
  refine W_region ?_
  refine wl_q (r_assign (.int _ _) rfl) rfl rfl ?_
  refine wl_nil ?_
  refine thenN ?_
  refine W_block ?_
  refine W_loop (σ := Nat × Row) [0, 3, 4] (fun (k, r) => [(5, .slice r.A r.n r.c), (6, .int .i64 (k : Int))]) (fun (k, r) w' => (k ≤ n ∧ RowIs 25 1 r.A r.n r.c ((withinL (xs.take k) a).map keyCell) r.e) ∧ Mem w [] [(some b1, bc (bxCells a) 24), r.e] w') (fun (k, r) => n - k) (0, nilRow) (agC rfl (agC rfl agN)) (⟨⟨by omega, RowIs.nil _ _ _⟩, M2⟩) ?_
  rintro ⟨k, r⟩ ρ3 w3 ⟨⟨hk, hr⟩, hM3⟩
  have hwl := withinL_len (xs.take k) a
  have htl := List.length_take_le k xs
  have hrl : (withinL (xs.take k) a).length = r.n := by simpa using hr.1
  refine W_seq ?_
  refine W_seq ?_
  refine W_region ?_
  refine wl_q (r_move (.int _ _) rfl) rfl rfl ?_
  refine wl_q (r_move (.slice _ _ _) rfl) rfl rfl ?_
  refine wl_q (r_lenS Tryd.underlying22 rfl) rfl rfl ?_
  refine wl_q (r_bin (.bool (decide _)) rfl rfl rfl) rfl rfl ?_
  refine wl_nil ?_
  refine thenN ?_
  refine W_condD rfl (fun h10 => ?_) (fun h10 => ?_)
  · skip
    obtain ⟨xb, hxb⟩ := getSome (k := k) hlen (by omega)
    refine W_skip ?_
    refine thenN ?_
    refine W_seq ?_
    refine W_block ?_
    refine W_seq ?_
    refine W_draw [(0, 0), (1, 0), (2, 1), (3, 1), (5, 1), (4, 2), (6, 2)] mixed rfl (by kernel_rfl) (fun w4 hb4 hh4 => ?_)
    have M4 := hM3.drew hb4 hh4
    refine D_p rfl rfl rfl (fun _ => r_move (.slice _ _ _) rfl) ?_
    refine D_p rfl rfl rfl (fun _ => r_move (.int _ _) rfl) ?_
    refine D_r rfl rfl rfl (r_idxR (k) sl22 rfl rfl rfl ((R.mem M4).below_len (mapGet bodyCells hxb)) ((R.mem M4).someK (mapGet bodyCells hxb))) ?_
    refine D_r rfl rfl rfl (r_ldEA _ agg49 (R.mem M4) (mapGet bodyCells hxb) rfl) ?_
    refine D_r rfl rfl rfl (r_ldW 0 agg24 M4 rfl rfl rfl) ?_
    refine D_e [false, true, true] rfl (by kernel_rfl) ?_
    refine wl_cal cal22 rfl rfl rfl ?_
    refine (ref08_Of _ xb (hb xb (List.mem_of_getElem? hxb))).mono ?_
    rintro _ w5 ⟨v5, rfl, ⟨rfl, hb5⟩⟩
    refine ⟨_, rfl, ?_⟩
    have M5 := M4.callB hb5
    refine wl_nil (thenN ⟨(alC (Yl_of rfl (r_ldW 0 agg24 M5 rfl rfl rfl)) alN), ?_⟩)
    refine D_e [true] rfl (by kernel_rfl) ?_
    refine wl_cal cal34 rfl rfl rfl ?_
    refine (ref08_Overlap _ (boxOf xb) a).mono ?_
    rintro _ w6 ⟨v6, rfl, ⟨rfl, hb6⟩⟩
    refine ⟨_, rfl, ?_⟩
    have M6 := M5.callB hb6
    refine wl_nil (thenN ⟨alN, ?_⟩)
    refine D_nil ?_
    refine thenN ?_
    refine W_condD rfl (fun h19 => ?_) (fun h19 => ?_)
    · skip
      refine W_region ?_
      refine wl_q (r_move (.slice _ _ _) rfl) rfl rfl ?_
      refine wl_q (r_move (.slice _ _ _) rfl) rfl rfl ?_
      refine wl_q (r_move (.int _ _) rfl) rfl rfl ?_
      refine wl_q (r_idxR (k) sl22 rfl rfl rfl ((R.mem M6).below_len (mapGet bodyCells hxb)) ((R.mem M6).someK (mapGet bodyCells hxb))) rfl rfl ?_
      refine wl_q (r_fieldAddrE 0 fld49_0 (R.mem M6) (Nat.lt_of_le_of_lt (Nat.zero_le _) ((R.mem M6).below_len (mapGet bodyCells hxb))) rfl) rfl rfl ?_
      refine wl_q (r_ldE (o := 0) (.int _ _) one25 (R.mem M6) (mapGet bodyCells hxb) rfl rfl) rfl rfl ?_
      refine wl_bslice [.int _ _] [keyCell xb.key] rfl sl36 M6 rfl rfl rfl rfl (lens_of rfl) (by decide) (fun b7 w7 M7 => ?_)
      refine wl_append 1 [keyCell xb.key] sl36 M7 rfl rfl rfl rfl rfl hr rfl (keyCell_ok _) (Cells.ofMem 2 M7 rfl) (by omega) (fun A8 c8 e8 w8 M8 hR8 => ?_)
      refine wl_q (r_assign (.slice _ _ _) rfl) rfl rfl ?_
      refine wl_nil ?_
      refine blkN ?_
      refine thenN ?_
      refine W_region ?_
      refine wl_q (r_move (.int _ _) rfl) rfl rfl ?_
      refine wl_q (r_add rfl rfl (by omega) (by omega)) rfl rfl ?_
      refine wl_q (r_assign (.int _ _) rfl) rfl rfl ?_
      refine wl_nil ?_
      refine roundN (k + 1, ⟨A8, r.n + 1, c8, e8⟩) (agC rfl (agC rfl agN)) (akC rfl (akC rfl (akC rfl akN))) ?_ ?_
      · exact ⟨⟨by omega, by rw [withinL_yes hxb h19]; simpa using hR8⟩, M8.keep [true, true, false]⟩
      · (show n - (k + 1) < n - k; omega)
    · skip
      refine W_skip ?_
      refine blkN ?_
      refine thenN ?_
      refine W_region ?_
      refine wl_q (r_move (.int _ _) rfl) rfl rfl ?_
      refine wl_q (r_add rfl rfl (by omega) (by omega)) rfl rfl ?_
      refine wl_q (r_assign (.int _ _) rfl) rfl rfl ?_
      refine wl_nil ?_
      refine roundN (k + 1, r) (agC rfl (agC rfl agN)) (akC rfl (akC rfl (akC rfl akN))) ?_ ?_
      · exact ⟨⟨by omega, by rw [withinL_no hxb h19]; exact hr⟩, M6⟩
      · (show n - (k + 1) < n - k; omega)
  · skip
    have hkn : k = n := by omega
    rw [List.take_of_length_le (by omega)] at hr
    refine W_exit ?_
    refine thenX ?_
    refine roundX ?_
    refine blkH ?_
    refine thenN ?_
    refine W_seq ?_
    refine W_region ?_
    refine wl_q (r_move (.slice _ _ _) rfl) rfl rfl ?_
    refine wl_q (r_assign (.slice _ _ _) rfl) rfl rfl ?_
    refine wl_nil ?_
    refine thenN ?_
    refine W_ret ?_
    skip
    refine fin1 (.slice _ _ _) rfl ?_
    exact ⟨r, rfl, hr, hM3.keep [false, true]⟩

set_option maxHeartbeats 4000000 in
theorem pairs_Lonely1 (w : World) (b : Body) (bk : Nat) (key : Int) (K : Rd w 1 (some ⟨bk, 0, none⟩) 1 [[.int .u32 key]]) :
    Calls Tryd.prog 38 #[(.agg (bodyCells b).toArray), .pointer (some ⟨bk, 0, none⟩)] w (fun ex w' => ∃ v, ex = .returned v ∧ (fun v w' => v = .bool (decide (b.key = key)) ∧ Below w.heap.size w w') v w') := by
  rw [← elt_zero bk]
  refine calls_of_W #[.tmp 3] 8 Tryd.func38 rfl Tryd.results38 Tryd.ntmps38 rfl ?_
  have M0 := Mem.refl w
  refine W_seq ?_
  refine W_region ?_
  refine wl_box (.agg (List.toArray _)) M0 rfl rfl rfl (fun b1 w1 M1 => ?_)
  refine wl_q (r_assign (.bool false) rfl) rfl rfl ?_
  refine wl_nil ?_
  refine thenN ?_
  refine W_seq ?_
  refine W_region ?_
  refine wl_q (r_fieldAddr 0 fld49_0 rfl) rfl rfl ?_
  refine wl_q (r_ld 0 (.int _ _) one25 M1 rfl rfl rfl) rfl rfl ?_
  refine wl_q (r_ldE (o := 0) (.int _ _) one25 (K.mem M1) (show ([[.int .u32 key]] : List (List Value))[0]? = some [.int .u32 key] from rfl) rfl rfl) rfl rfl ?_
  refine wl_q (r_bin (.bool (decide _)) rfl rfl rfl) rfl rfl ?_
  refine wl_q (r_assign (.bool (decide _)) rfl) rfl rfl ?_
  refine wl_nil ?_
  refine thenN ?_
  refine W_ret ?_
  skip
  refine fin1 (.bool (decide _)) rfl ?_
  exact ⟨rfl, M1.below⟩

set_option maxHeartbeats 4000000 in
theorem slices_IndexFuncB (w : World) (bk : Nat) (key : Int) (K : Rd w 1 (some ⟨bk, 0, none⟩) 1 [[.int .u32 key]]) (A : Option Addr) (n c : Nat) (xs : List Body) (R : Rd w 10 A n (xs.map bodyCells)) :
    Calls Tryd.prog 37 #[.slice A n c, .func (.func 38) #[] #[.pointer (some ⟨bk, 0, none⟩)]] w (fun ex w' => ∃ v, ex = .returned v ∧ (fun v w' => v = .int .i64 (findI key xs) ∧ Below w.heap.size w w') v w') := by
  have hlen : xs.length = n := by simpa using R.len
  have hbd := R.bound
  refine calls_of_W #[.tmp 4] 19 Tryd.func37 rfl Tryd.results37 Tryd.ntmps37 rfl ?_
  have M0 := Mem.refl w
  refine W_seq ?_
  refine W_region ?_
  refine wl_q (r_assign (.int _ _) rfl) rfl rfl ?_
  refine wl_nil ?_
  refine thenN ?_
  refine W_seq ?_
  refine W_seq ?_
  refine W_region ?_
  refine wl_q (r_move (.slice _ _ _) rfl) rfl rfl ?_
  refine wl_q (r_lenS Tryd.underlying22 rfl) rfl rfl ?_
  refine wl_q (r_move (.int _ _) rfl) rfl rfl ?_
  refine wl_nil ?_
  refine thenN ?_
  refine W_block ?_
  refine W_loop (σ := Nat) [0, 1, 7] (fun k => [(8, .int .i64 (k : Int))]) (fun k w' => (k ≤ n ∧ ∀ (j : Nat) (c : Body), j < k → xs[j]? = some c → c.key ≠ key) ∧ Mem w [] [] w') (fun k => n - k) 0 (agC rfl agN) (⟨⟨by omega, fun j c hj => by omega⟩, M0⟩) ?_
  rintro k ρ1 w1 ⟨⟨hk, hne⟩, hM1⟩
  refine W_seq ?_
  refine W_region ?_
  refine wl_q (r_bin (.bool (decide _)) rfl rfl rfl) rfl rfl ?_
  refine wl_nil ?_
  refine thenN ?_
  refine W_seq ?_
  refine W_condD rfl (fun h9 => ?_) (fun h9 => ?_)
  · skip
    obtain ⟨xb, hxb⟩ := getSome (k := k) hlen (by omega)
    refine W_skip ?_
    refine thenN ?_
    refine W_seq ?_
    refine W_block ?_
    refine W_seq ?_
    refine W_region ?_
    refine wl_q (r_move (.int _ _) rfl) rfl rfl ?_
    refine wl_q (r_assign (.int _ _) rfl) rfl rfl ?_
    refine wl_nil ?_
    refine thenN ?_
    refine W_seq ?_
    refine W_region ?_
    refine wl_q (r_move (.func _ _ _) rfl) rfl rfl ?_
    refine wl_q (r_move (.slice _ _ _) rfl) rfl rfl ?_
    refine wl_q (r_move (.int _ _) rfl) rfl rfl ?_
    refine wl_q (r_idxR (k) sl22 rfl rfl rfl ((R.mem hM1).below_len (mapGet bodyCells hxb)) ((R.mem hM1).someK (mapGet bodyCells hxb))) rfl rfl ?_
    refine wl_q (r_ldEA _ agg49 (R.mem hM1) (mapGet bodyCells hxb) rfl) rfl rfl ?_
    refine wl_cal cal38 rfl rfl rfl ?_
    refine (pairs_Lonely1 _ xb bk key (K.mem hM1)).mono ?_
    rintro _ w2 ⟨v2, rfl, ⟨rfl, hb2⟩⟩
    refine ⟨_, rfl, ?_⟩
    have M2 := hM1.callB hb2
    refine wl_nil ?_
    refine thenN ?_
    refine W_condD rfl (fun h16 => ?_) (fun h16 => ?_)
    · skip
      refine W_seq ?_
      refine W_region ?_
      refine wl_q (r_move (.int _ _) rfl) rfl rfl ?_
      refine wl_q (r_assign (.int _ _) rfl) rfl rfl ?_
      refine wl_nil ?_
      refine thenN ?_
      refine W_ret ?_
      refine blkR ?_
      refine thenR ?_
      refine roundR ?_
      refine blkR ?_
      refine thenR ?_
      skip
      refine fin1 (.int _ _) rfl ?_
      exact ⟨iE (findI_at hxb h16 hne).symm, M2.below⟩
    · skip
      refine W_skip ?_
      refine blkN ?_
      refine thenN ?_
      refine W_region ?_
      refine wl_q (r_add rfl rfl (by omega) (by omega)) rfl rfl ?_
      refine wl_q (r_move (.int _ _) rfl) rfl rfl ?_
      refine wl_nil ?_
      refine roundN (k + 1) (agC rfl agN) (akC rfl (akC rfl (akC rfl akN))) ?_ ?_
      · exact ⟨⟨by omega, allNext hne hxb h16⟩, M2⟩
      · omega
  · skip
    refine W_exit ?_
    refine thenX ?_
    refine roundX ?_
    refine blkH ?_
    refine thenN ?_
    refine W_seq ?_
    refine W_region ?_
    refine wl_q (r_assign (.int _ _) rfl) rfl rfl ?_
    refine wl_nil ?_
    refine thenN ?_
    refine W_ret ?_
    skip
    refine fin1 (.int _ _) rfl ?_
    have hkn : k = n := by omega
    exact ⟨iE (findI_neg (fun j b hj => hne j b (by have := (List.getElem?_eq_some_iff.1 hj).1; omega) hj)).symm, hM1.below⟩

set_option maxHeartbeats 4000000 in
theorem pairs_Lonely (w : World) (key : Int) (N : Rd w 4 (some ⟨1, 0, none⟩) 1 [bxCells noneB]) (A : Option Addr) (n c : Nat) (xs : List Body) (R : Rd w 10 A n (xs.map bodyCells)) (hb : ∀ b ∈ xs, Okb b) (hn : n ≤ 1048576) :
    Calls Tryd.prog 18 #[.slice A n c, .int .u32 key] w (fun ex w' => ∃ v, ex = .returned v ∧ (fun v w' => v = .bool (lonB xs key) ∧ Below w.heap.size w w') v w') := by
  have hlen : xs.length = n := by simpa using R.len
  have hbd := R.bound
  refine calls_of_W #[.tmp 4] 22 Tryd.func18 rfl Tryd.results18 Tryd.ntmps18 rfl ?_
  have M0 := Mem.refl w
  refine W_seq ?_
  refine W_region ?_
  refine wl_box (.int _ _) M0 rfl rfl rfl (fun b1 w1 M1 => ?_)
  refine wl_q (r_assign (.bool false) rfl) rfl rfl ?_
  refine wl_nil ?_
  refine thenN ?_
  refine W_seq ?_
  refine W_region ?_
  refine wl_q (r_move (.slice _ _ _) rfl) rfl rfl ?_
  refine wl_q (r_makeFuncV [] [.pointer _] rfl rfl) rfl rfl ?_
  refine wl_cal cal37 rfl rfl rfl ?_
  refine (slices_IndexFuncB _ b1 key (rdOf 0 M1 rfl rfl) _ _ _ xs (R.mem M1)).mono ?_
  rintro _ w2 ⟨v2, rfl, ⟨rfl, hb2⟩⟩
  refine ⟨_, rfl, ?_⟩
  have M2 := M1.callB hb2
  refine wl_q (r_assign (.int _ _) rfl) rfl rfl ?_
  refine wl_nil ?_
  refine thenN ?_
  refine W_seq ?_
  refine W_region ?_
  refine wl_q (r_move (.int _ _) rfl) rfl rfl ?_
  refine wl_q (r_bin (.bool (decide _)) rfl rfl rfl) rfl rfl ?_
  refine wl_q (r_move (.bool (decide _)) rfl) rfl rfl ?_
  refine wl_splitD 11 rfl (fun g11 => ?_) (fun g11 => ?_)
  · skip
    obtain ⟨q, yb, hq, hqk, hqi⟩ : ∃ (q : Nat) (yb : Body), xs[q]? = some yb ∧ yb.key = key ∧ findI key xs = (q : Int) := (findI_cases key xs).elim (fun h => absurd h.1 (by omega)) id
    refine wl_q (r_move (.slice _ _ _) rfl) rfl rfl ?_
    refine wl_q (r_move (.slice _ _ _) rfl) rfl rfl ?_
    refine wl_q (r_move (.int _ _) rfl) rfl rfl ?_
    refine wl_q (r_idxR (q) sl22 rfl rfl hqi ((R.mem M2).below_len (mapGet bodyCells hq)) ((R.mem M2).someK (mapGet bodyCells hq))) rfl rfl ?_
    refine wl_q (r_ldEA _ agg49 (R.mem M2) (mapGet bodyCells hq) rfl) rfl rfl ?_
    refine wl_cal cal36 rfl rfl rfl ?_
    refine (box_Of _ yb (hb yb (List.mem_of_getElem? hq))).mono ?_
    rintro _ w3 ⟨v3, rfl, ⟨rfl, hb3⟩⟩
    refine ⟨_, rfl, ?_⟩
    have M3 := M2.callB hb3
    refine wl_cal cal16 rfl rfl rfl ?_
    refine (pairs_Within _ (N.mem M3) _ _ _ xs (R.mem M3) hb (boxOf yb) hn).mono ?_
    rintro _ w4 ⟨v4, rfl, ⟨r, rfl, hr, hM4⟩⟩
    refine ⟨_, rfl, ?_⟩
    have M4 : Mem _ _ [_, _] _ := M3.call0 hM4
    have hrl : (withinL xs (boxOf yb)).length = r.n := by simpa using hr.1
    refine wl_q (r_lenS Tryd.underlying36 rfl) rfl rfl ?_
    refine wl_q (r_bin (.bool (decide _)) rfl rfl rfl) rfl rfl ?_
    refine wl_q (r_pick true (.bool (decide _)) rfl rfl) rfl rfl ?_
    refine wl_q (r_assign (.bool (decide _)) rfl) rfl rfl ?_
    refine wl_nil ?_
    refine thenN ?_
    refine W_ret ?_
    skip
    refine fin1 (.bool (decide _)) rfl ?_
    exact ⟨by unfold lonB; rw [if_neg (by omega), hqi, Int.toNat_natCast, List.getD_eq_getElem?_getD, hq, Option.getD_some, hrl]; exact bD (by omega), M4.below⟩
  · skip
    refine wl_skip rfl rfl ?_
    refine wl_skip rfl rfl ?_
    refine wl_skip rfl rfl ?_
    refine wl_skip rfl rfl ?_
    refine wl_skip rfl rfl ?_
    refine wl_skip rfl rfl ?_
    refine wl_skip rfl rfl ?_
    refine wl_skip rfl rfl ?_
    refine wl_skip rfl rfl ?_
    refine wl_q (r_pick false (.bool false) rfl rfl) rfl rfl ?_
    refine wl_q (r_assign (.bool false) rfl) rfl rfl ?_
    refine wl_nil ?_
    refine thenN ?_
    refine W_ret ?_
    skip
    refine fin1 (.bool false) rfl ?_
    exact ⟨by rw [lonB_none (by omega)], M2.below⟩

set_option maxHeartbeats 4000000 in
theorem ref11_Lonely (w : World) (key : Int) (A : Option Addr) (n c : Nat) (xs : List Body) (R : Rd w 10 A n (xs.map bodyCells)) (hb : ∀ b ∈ xs, Okb b) :
    Calls Tryd.prog 19 #[.slice A n c, .int .u32 key] w (fun ex w' => ∃ v, ex = .returned v ∧ (fun v w' => v = .bool (lonB xs key) ∧ Below w.heap.size w w') v w') := by
  have hlen : xs.length = n := by simpa using R.len
  have hbd := R.bound
  refine calls_of_W #[.tmp 4] 34 Tryd.func19 rfl Tryd.results19 Tryd.ntmps19 rfl ?_
  have M0 := Mem.refl w
  refine W_seq ?_
  refine W_region ?_
  refine wl_q (r_assign (.bool false) rfl) rfl rfl ?_
  refine wl_nil ?_
  refine thenN ?_
  refine W_seq ?_
  refine W_region ?_
  refine wl_q (r_move (.slice _ _ _) rfl) rfl rfl ?_
  refine wl_q (r_move (.int _ _) rfl) rfl rfl ?_
  refine wl_cal cal21 rfl rfl rfl ?_
  refine (ref06_Find _ key _ _ _ xs (R.mem M0)).mono ?_
  rintro _ w1 ⟨v1, rfl, ⟨rfl, hb1⟩⟩
  refine ⟨_, rfl, ?_⟩
  have M1 := M0.callB hb1
  refine wl_q (r_assign (.int _ _) rfl) rfl rfl ?_
  refine wl_nil ?_
  refine thenN ?_
  refine W_seq ?_
  refine W_seq ?_
  refine W_region ?_
  refine wl_q (r_move (.int _ _) rfl) rfl rfl ?_
  refine wl_q (r_bin (.bool (decide _)) rfl rfl rfl) rfl rfl ?_
  refine wl_nil ?_
  refine thenN ?_
  refine W_condD rfl (fun h11 => ?_) (fun h11 => ?_)
  · skip
    refine W_seq ?_
    refine W_region ?_
    refine wl_q (r_assign (.bool false) rfl) rfl rfl ?_
    refine wl_nil ?_
    refine thenN ?_
    refine W_ret ?_
    refine thenR ?_
    skip
    refine fin1 (.bool false) rfl ?_
    exact ⟨by rw [lonB_none (by omega)], M1.below⟩
  · skip
    obtain ⟨q, yb, hq, hqk, hqi⟩ : ∃ (q : Nat) (yb : Body), xs[q]? = some yb ∧ yb.key = key ∧ findI key xs = (q : Int) := (findI_cases key xs).elim (fun h => absurd h.1 (by omega)) id
    refine W_skip ?_
    refine thenN ?_
    refine W_seq ?_
    refine W_seq ?_
    refine W_region ?_
    refine wl_q (r_assign (.int _ _) rfl) rfl rfl ?_
    refine wl_nil ?_
    refine thenN ?_
    refine W_block ?_
    refine W_loop (σ := Nat) [0, 5] (fun k => [(6, .int .i64 (k : Int))]) (fun k w' => (k ≤ n ∧ ∀ (j : Nat) (c : Body), j < k → xs[j]? = some c → j ≠ q → ¬ ovl (boxOf yb) (boxOf c)) ∧ Mem w [] [] w') (fun k => n - k) 0 (agC rfl agN) (⟨⟨by omega, fun j c hj => by omega⟩, M1⟩) ?_
    rintro k ρ2 w2 ⟨⟨hk, hno⟩, hM2⟩
    refine W_seq ?_
    refine W_seq ?_
    refine W_region ?_
    refine wl_q (r_move (.int _ _) rfl) rfl rfl ?_
    refine wl_q (r_move (.slice _ _ _) rfl) rfl rfl ?_
    refine wl_q (r_lenS Tryd.underlying22 rfl) rfl rfl ?_
    refine wl_q (r_bin (.bool (decide _)) rfl rfl rfl) rfl rfl ?_
    refine wl_nil ?_
    refine thenN ?_
    refine W_condD rfl (fun h15 => ?_) (fun h15 => ?_)
    · skip
      obtain ⟨xb, hxb⟩ := getSome (k := k) hlen (by omega)
      refine W_skip ?_
      refine thenN ?_
      refine W_seq ?_
      refine W_block ?_
      refine W_seq ?_
      refine W_draw [(0, 0), (1, 0), (2, 0), (3, 0), (4, 0), (5, 0), (6, 1), (7, 1), (9, 0), (10, 0), (11, 1), (12, 1), (8, 2), (13, 2), (14, 2), (15, 0)] mixed rfl (by kernel_rfl) (fun w3 hb3 hh3 => ?_)
      have M3 := hM2.drew hb3 hh3
      refine D_p rfl rfl rfl (fun _ => r_move (.int _ _) rfl) ?_
      refine D_p rfl rfl rfl (fun _ => r_move (.int _ _) rfl) ?_
      refine D_p rfl rfl rfl (fun _ => r_bin (.bool (decide _)) rfl rfl rfl) ?_
      refine D_p rfl rfl rfl (fun _ => r_move (.bool (decide _)) rfl) ?_
      refine D_splitD 21 rfl (fun g21 => ?_) (fun g21 => ?_)
      · skip
        refine D_p rfl rfl rfl (fun _ => r_move (.slice _ _ _) rfl) ?_
        refine D_p rfl rfl rfl (fun _ => r_move (.int _ _) rfl) ?_
        refine D_r rfl rfl rfl (r_idxR (q) sl22 rfl rfl hqi ((R.mem M3).below_len (mapGet bodyCells hq)) ((R.mem M3).someK (mapGet bodyCells hq))) ?_
        refine D_r rfl rfl rfl (r_ldEA _ agg49 (R.mem M3) (mapGet bodyCells hq) rfl) ?_
        refine D_p rfl rfl rfl (fun _ => r_move (.slice _ _ _) rfl) ?_
        refine D_p rfl rfl rfl (fun _ => r_move (.int _ _) rfl) ?_
        refine D_r rfl rfl rfl (r_idxR (k) sl22 rfl rfl rfl ((R.mem M3).below_len (mapGet bodyCells hxb)) ((R.mem M3).someK (mapGet bodyCells hxb))) ?_
        refine D_r rfl rfl rfl (r_ldEA _ agg49 (R.mem M3) (mapGet bodyCells hxb) rfl) ?_
        refine D_e [false, false, true, true] rfl (by kernel_rfl) ?_
        refine wl_cal cal22 rfl rfl rfl ?_
        refine (ref08_Of _ yb (hb yb (List.mem_of_getElem? hq))).mono ?_
        rintro _ w4 ⟨v4, rfl, ⟨rfl, hb4⟩⟩
        refine ⟨_, rfl, ?_⟩
        have M4 := M3.callB hb4
        refine wl_nil (thenN ⟨(alC (Yl_of rfl (r_ldEA _ agg49 (R.mem M4) (mapGet bodyCells hxb) rfl)) (alC (Yl_of rfl (r_idxR (k) sl22 rfl rfl rfl ((R.mem M4).below_len (mapGet bodyCells hxb)) ((R.mem M4).someK (mapGet bodyCells hxb)))) alN)), ?_⟩)
        refine D_e [true, true] rfl (by kernel_rfl) ?_
        refine wl_cal cal22 rfl rfl rfl ?_
        refine (ref08_Of _ xb (hb xb (List.mem_of_getElem? hxb))).mono ?_
        rintro _ w5 ⟨v5, rfl, ⟨rfl, hb5⟩⟩
        refine ⟨_, rfl, ?_⟩
        have M5 := M4.callB hb5
        refine wl_nil (thenN ⟨alN, ?_⟩)
        refine D_e [] rfl (by kernel_rfl) ?_
        refine wl_cal cal34 rfl rfl rfl ?_
        refine (ref08_Overlap _ (boxOf yb) (boxOf xb)).mono ?_
        rintro _ w6 ⟨v6, rfl, ⟨rfl, hb6⟩⟩
        refine ⟨_, rfl, ?_⟩
        have M6 := M5.callB hb6
        refine wl_nil (thenN ⟨alN, ?_⟩)
        refine D_p rfl rfl rfl (fun _ => r_pick true (.bool (decide _)) rfl rfl) ?_
        refine D_nil ?_
        refine thenN ?_
        refine W_condD rfl (fun h33 => ?_) (fun h33 => ?_)
        · skip
          refine W_seq ?_
          refine W_region ?_
          refine wl_q (r_assign (.bool false) rfl) rfl rfl ?_
          refine wl_nil ?_
          refine thenN ?_
          refine W_ret ?_
          refine blkR ?_
          refine thenR ?_
          refine roundR ?_
          refine blkR ?_
          refine thenR ?_
          skip
          refine fin1 (.bool false) rfl ?_
          have hlf : ¬ lonB xs key = true := fun h => (lonB_iff hb hq hqi).1 h k xb hxb (by omega) h33
          exact ⟨by rw [Bool.eq_false_iff.2 hlf], M6.below⟩
        · skip
          refine W_skip ?_
          refine blkN ?_
          refine thenN ?_
          refine W_region ?_
          refine wl_q (r_move (.int _ _) rfl) rfl rfl ?_
          refine wl_q (r_add rfl rfl (by omega) (by omega)) rfl rfl ?_
          refine wl_q (r_assign (.int _ _) rfl) rfl rfl ?_
          refine wl_nil ?_
          refine roundN (k + 1) (agC rfl agN) (akC rfl (akC rfl akN)) ?_ ?_
          · exact ⟨⟨by omega, allNext (p := fun j c => j ≠ q → ¬ ovl (boxOf yb) (boxOf c)) hno hxb (fun _ => h33)⟩, M6⟩
          · omega
      · skip
        refine D_s rfl rfl rfl ?_
        refine D_s rfl rfl rfl ?_
        refine D_s1 rfl rfl rfl ?_
        refine D_s1 rfl rfl rfl ?_
        refine D_s rfl rfl rfl ?_
        refine D_s rfl rfl rfl ?_
        refine D_s1 rfl rfl rfl ?_
        refine D_s1 rfl rfl rfl ?_
        refine D_e [false, false, true, true] rfl (by kernel_rfl) ?_
        refine wl_skip rfl rfl ?_
        refine wl_nil (thenN ⟨(alC (.inr ⟨rfl, rfl⟩) (alC (.inr ⟨rfl, rfl⟩) alN)), ?_⟩)
        refine D_e [true, true] rfl (by kernel_rfl) ?_
        refine wl_skip rfl rfl ?_
        refine wl_nil (thenN ⟨alN, ?_⟩)
        refine D_e [] rfl (by kernel_rfl) ?_
        refine wl_skip rfl rfl ?_
        refine wl_nil (thenN ⟨alN, ?_⟩)
        refine D_p rfl rfl rfl (fun _ => r_pick false (.bool false) rfl rfl) ?_
        refine D_nil ?_
        refine thenN ?_
        refine W_condF rfl ?_
        refine W_skip ?_
        refine blkN ?_
        refine thenN ?_
        refine W_region ?_
        refine wl_q (r_move (.int _ _) rfl) rfl rfl ?_
        refine wl_q (r_add rfl rfl (by omega) (by omega)) rfl rfl ?_
        refine wl_q (r_assign (.int _ _) rfl) rfl rfl ?_
        refine wl_nil ?_
        refine roundN (k + 1) (agC rfl agN) (akC rfl (akC rfl akN)) ?_ ?_
        · exact ⟨⟨by omega, allNext (p := fun j c => j ≠ q → ¬ ovl (boxOf yb) (boxOf c)) hno hxb (fun h => absurd h (by omega))⟩, M3⟩
        · omega
    · skip
      refine W_exit ?_
      refine thenX ?_
      refine roundX ?_
      refine blkH ?_
      refine thenN ?_
      refine W_seq ?_
      refine W_region ?_
      refine wl_q (r_assign (.bool true) rfl) rfl rfl ?_
      refine wl_nil ?_
      refine thenN ?_
      refine W_ret ?_
      skip
      refine fin1 (.bool true) rfl ?_
      have hlt : lonB xs key = true := (lonB_iff hb hq hqi).2 fun j c hj hne => hno j c (by have := (List.getElem?_eq_some_iff.1 hj).1; omega) hj hne
      exact ⟨by rw [hlt], hM2.below⟩

set_option maxHeartbeats 4000000 in
theorem ref11_Find (w : World) (A : Option Addr) (n c : Nat) (xs : List Body) (R : Rd w 10 A n (xs.map bodyCells)) (hb : ∀ b ∈ xs, Okb b) (hn : n ≤ 65536) :
    Calls Tryd.prog 14 #[.slice A n c] w (fun ex w' => ∃ v, ex = .returned v ∧ (fun v w' => ∃ r : Row, v = .slice r.A r.n r.c ∧ RowIs 42 2 r.A r.n r.c ((findP xs).map pairCells) r.e ∧ Mem w [] [r.e] w') v w') := by
  have hlen : xs.length = n := by simpa using R.len
  have hbd := R.bound
  refine calls_of_W #[.tmp 2] 46 Tryd.func14 rfl Tryd.results14 Tryd.ntmps14 rfl ?_
  have M0 := Mem.refl w
  refine W_seq ?_
  refine W_region ?_
  refine wl_q (r_assign (.slice _ _ _) rfl) rfl rfl ?_
  refine wl_nil ?_
  refine thenN ?_
  refine W_seq ?_
  refine W_region ?_
  refine wl_q (r_assign (.slice _ _ _) rfl) rfl rfl ?_
  have M1 := M0.dummy default
  refine wl_nil ?_
  refine thenN ?_
  refine W_seq ?_
  refine W_seq ?_
  refine W_region ?_
  refine wl_q (r_assign (.int _ _) rfl) rfl rfl ?_
  refine wl_nil ?_
  refine thenN ?_
  refine W_block ?_
  refine W_loop (σ := Nat × Row) [0, 2] (fun (i, r) => [(3, .slice r.A r.n r.c), (4, .int .i64 (i : Int))]) (fun (i, r) w' => (i ≤ n ∧ RowIs 42 2 r.A r.n r.c ((findK xs i).map pairCells) r.e) ∧ Mem w [] [r.e] w') (fun (i, r) => n - i) (0, nilRow) (agC rfl (agC rfl agN)) (⟨⟨by omega, RowIs.nil _ _ _⟩, M1⟩) ?_
  rintro ⟨i, r⟩ ρ2 w2 ⟨⟨hi, hr⟩, hM2⟩
  refine W_seq ?_
  refine W_seq ?_
  refine W_region ?_
  refine wl_q (r_move (.int _ _) rfl) rfl rfl ?_
  refine wl_q (r_move (.slice _ _ _) rfl) rfl rfl ?_
  refine wl_q (r_lenS Tryd.underlying22 rfl) rfl rfl ?_
  refine wl_q (r_bin (.bool (decide _)) rfl rfl rfl) rfl rfl ?_
  refine wl_nil ?_
  refine thenN ?_
  refine W_condD rfl (fun h9 => ?_) (fun h9 => ?_)
  · skip
    obtain ⟨xa, hxa⟩ := getSome (k := i) hlen (by omega)
    refine W_skip ?_
    refine thenN ?_
    refine W_seq ?_
    refine W_block ?_
    refine W_seq ?_
    refine W_region ?_
    refine wl_q (r_move (.int _ _) rfl) rfl rfl ?_
    refine wl_q (r_add rfl rfl (by omega) (by omega)) rfl rfl ?_
    refine wl_q (r_assign (.int _ _) rfl) rfl rfl ?_
    refine wl_nil ?_
    refine thenN ?_
    refine W_block ?_
    refine W_loop (σ := Nat × Row) [0, 2, 4] (fun (k, q) => [(3, .slice q.A q.n q.c), (5, .int .i64 (k : Int))]) (fun (k, q) w' => (i + 1 ≤ k ∧ k ≤ n ∧ RowIs 42 2 q.A q.n q.c ((findK xs i ++ rowK xs i k).map pairCells) q.e) ∧ Mem w [] [q.e] w') (fun (k, q) => n - k) (i + 1, r) (agC rfl (agC rfl agN)) (⟨⟨by omega, by omega, by rw [rowK_start, List.append_nil]; exact hr⟩, hM2⟩) ?_
    rintro ⟨k, q⟩ ρ3 w3 ⟨⟨hik, hk, hq⟩, hM3⟩
    have hfl := findK_len xs i
    have hfm : i * xs.length ≤ 65536 * 65536 := Nat.mul_le_mul (by omega) (by omega)
    have hrw := rowK_len xs i k
    have hql : (findK xs i).length + (rowK xs i k).length = q.n := by simpa using hq.1
    refine W_seq ?_
    refine W_seq ?_
    refine W_region ?_
    refine wl_q (r_move (.int _ _) rfl) rfl rfl ?_
    refine wl_q (r_move (.slice _ _ _) rfl) rfl rfl ?_
    refine wl_q (r_lenS Tryd.underlying22 rfl) rfl rfl ?_
    refine wl_q (r_bin (.bool (decide _)) rfl rfl rfl) rfl rfl ?_
    refine wl_nil ?_
    refine thenN ?_
    refine W_condD rfl (fun h17 => ?_) (fun h17 => ?_)
    · skip
      obtain ⟨xb, hxb⟩ := getSome (k := k) hlen (by omega)
      refine W_skip ?_
      refine thenN ?_
      refine W_seq ?_
      refine W_block ?_
      refine W_seq ?_
      refine W_draw [(0, 0), (1, 0), (2, 1), (3, 1), (5, 0), (6, 0), (7, 1), (8, 1), (4, 2), (9, 2), (10, 2)] mixed rfl (by kernel_rfl) (fun w4 hb4 hh4 => ?_)
      have M4 := hM3.drew hb4 hh4
      refine D_p rfl rfl rfl (fun _ => r_move (.slice _ _ _) rfl) ?_
      refine D_p rfl rfl rfl (fun _ => r_move (.int _ _) rfl) ?_
      refine D_r rfl rfl rfl (r_idxR (i) sl22 rfl rfl rfl ((R.mem M4).below_len (mapGet bodyCells hxa)) ((R.mem M4).someK (mapGet bodyCells hxa))) ?_
      refine D_r rfl rfl rfl (r_ldEA _ agg49 (R.mem M4) (mapGet bodyCells hxa) rfl) ?_
      refine D_p rfl rfl rfl (fun _ => r_move (.slice _ _ _) rfl) ?_
      refine D_p rfl rfl rfl (fun _ => r_move (.int _ _) rfl) ?_
      refine D_r rfl rfl rfl (r_idxR (k) sl22 rfl rfl rfl ((R.mem M4).below_len (mapGet bodyCells hxb)) ((R.mem M4).someK (mapGet bodyCells hxb))) ?_
      refine D_r rfl rfl rfl (r_ldEA _ agg49 (R.mem M4) (mapGet bodyCells hxb) rfl) ?_
      refine D_e [false, false, true, true] rfl (by kernel_rfl) ?_
      refine wl_cal cal22 rfl rfl rfl ?_
      refine (ref08_Of _ xa (hb xa (List.mem_of_getElem? hxa))).mono ?_
      rintro _ w5 ⟨v5, rfl, ⟨rfl, hb5⟩⟩
      refine ⟨_, rfl, ?_⟩
      have M5 := M4.callB hb5
      refine wl_nil (thenN ⟨(alC (Yl_of rfl (r_ldEA _ agg49 (R.mem M5) (mapGet bodyCells hxb) rfl)) (alC (Yl_of rfl (r_idxR (k) sl22 rfl rfl rfl ((R.mem M5).below_len (mapGet bodyCells hxb)) ((R.mem M5).someK (mapGet bodyCells hxb)))) alN)), ?_⟩)
      refine D_e [true, true] rfl (by kernel_rfl) ?_
      refine wl_cal cal22 rfl rfl rfl ?_
      refine (ref08_Of _ xb (hb xb (List.mem_of_getElem? hxb))).mono ?_
      rintro _ w6 ⟨v6, rfl, ⟨rfl, hb6⟩⟩
      refine ⟨_, rfl, ?_⟩
      have M6 := M5.callB hb6
      refine wl_nil (thenN ⟨alN, ?_⟩)
      refine D_e [] rfl (by kernel_rfl) ?_
      refine wl_cal cal34 rfl rfl rfl ?_
      refine (ref08_Overlap _ (boxOf xa) (boxOf xb)).mono ?_
      rintro _ w7 ⟨v7, rfl, ⟨rfl, hb7⟩⟩
      refine ⟨_, rfl, ?_⟩
      have M7 := M6.callB hb7
      refine wl_nil (thenN ⟨alN, ?_⟩)
      refine D_nil ?_
      refine thenN ?_
      refine W_condD rfl (fun h30 => ?_) (fun h30 => ?_)
      · skip
        refine W_draw [(0, 0), (1, 0), (2, 0), (3, 1), (4, 1), (5, 1), (6, 0), (7, 0), (8, 1), (9, 1), (10, 1), (11, 0), (12, 2), (13, 2), (14, 0)] mixed rfl (by kernel_rfl) (fun w8 hb8 hh8 => ?_)
        have M8 := M7.drew hb8 hh8
        refine D_p rfl rfl rfl (fun _ => r_move (.slice _ _ _) rfl) ?_
        refine D_p rfl rfl rfl (fun _ => r_move (.slice _ _ _) rfl) ?_
        refine D_p rfl rfl rfl (fun _ => r_move (.int _ _) rfl) ?_
        refine D_r rfl rfl rfl (r_idxR (i) sl22 rfl rfl rfl ((R.mem M8).below_len (mapGet bodyCells hxa)) ((R.mem M8).someK (mapGet bodyCells hxa))) ?_
        refine D_r rfl rfl rfl (r_fieldAddrE 0 fld49_0 (R.mem M8) (Nat.lt_of_le_of_lt (Nat.zero_le _) ((R.mem M8).below_len (mapGet bodyCells hxa))) rfl) ?_
        refine D_r rfl rfl rfl (r_ldE (o := 0) (.int _ _) one25 (R.mem M8) (mapGet bodyCells hxa) rfl rfl) ?_
        refine D_p rfl rfl rfl (fun _ => r_move (.slice _ _ _) rfl) ?_
        refine D_p rfl rfl rfl (fun _ => r_move (.int _ _) rfl) ?_
        refine D_r rfl rfl rfl (r_idxR (k) sl22 rfl rfl rfl ((R.mem M8).below_len (mapGet bodyCells hxb)) ((R.mem M8).someK (mapGet bodyCells hxb))) ?_
        refine D_r rfl rfl rfl (r_fieldAddrE 0 fld49_0 (R.mem M8) (Nat.lt_of_le_of_lt (Nat.zero_le _) ((R.mem M8).below_len (mapGet bodyCells hxb))) rfl) ?_
        refine D_r rfl rfl rfl (r_ldE (o := 0) (.int _ _) one25 (R.mem M8) (mapGet bodyCells hxb) rfl rfl) ?_
        refine D_p rfl rfl rfl (fun _ => r_build [(0, .int _ _), (1, .int _ _)] _ struct42 rfl rfl) ?_
        refine D_e [true, true, true, true, true, true] rfl (by kernel_rfl) ?_
        refine wl_bslice [.agg (List.toArray _)] [pairCells (xa.key, xb.key)] rfl sl29 M8 rfl rfl rfl rfl (lens_of rfl) (by decide) (fun b9 w9 M9 => ?_)
        refine wl_nil (thenN ⟨alN, ?_⟩)
        refine D_e [] rfl (by kernel_rfl) ?_
        refine wl_append 0 [pairCells (xa.key, xb.key)] sl29 M9 rfl rfl rfl rfl rfl hq rfl (by simp [pairCells, Go.Bil.one]) (Cells.ofMem 1 M9 rfl) (by omega) (fun A10 c10 e10 w10 M10 hR10 => ?_)
        refine wl_nil (thenN ⟨alN, ?_⟩)
        refine D_p rfl rfl rfl (fun _ => r_assign (.slice _ _ _) rfl) ?_
        refine D_nil ?_
        refine blkN ?_
        refine thenN ?_
        refine W_region ?_
        refine wl_q (r_move (.int _ _) rfl) rfl rfl ?_
        refine wl_q (r_add rfl rfl (by omega) (by omega)) rfl rfl ?_
        refine wl_q (r_assign (.int _ _) rfl) rfl rfl ?_
        refine wl_nil ?_
        refine roundN (k + 1, ⟨A10, q.n + 1, c10, e10⟩) (agC rfl (agC rfl agN)) (akC rfl (akC rfl (akC rfl akN))) ?_ ?_
        · exact ⟨⟨by omega, by omega, by rw [rowK_yes hxa hxb (by omega) h30, ← List.append_assoc, List.map_append]; exact hR10⟩, M10.keep [true, false]⟩
        · (show n - (k + 1) < n - k; omega)
      · skip
        refine W_skip ?_
        refine blkN ?_
        refine thenN ?_
        refine W_region ?_
        refine wl_q (r_move (.int _ _) rfl) rfl rfl ?_
        refine wl_q (r_add rfl rfl (by omega) (by omega)) rfl rfl ?_
        refine wl_q (r_assign (.int _ _) rfl) rfl rfl ?_
        refine wl_nil ?_
        refine roundN (k + 1, q) (agC rfl (agC rfl agN)) (akC rfl (akC rfl (akC rfl akN))) ?_ ?_
        · exact ⟨⟨by omega, by omega, by rw [rowK_no hxa hxb (by omega) h30]; exact hq⟩, M7⟩
        · (show n - (k + 1) < n - k; omega)
    · skip
      have hkn : k = n := by omega
      refine W_exit ?_
      refine thenX ?_
      refine roundX ?_
      refine blkH ?_
      refine blkN ?_
      refine thenN ?_
      refine W_region ?_
      refine wl_q (r_move (.int _ _) rfl) rfl rfl ?_
      refine wl_q (r_add rfl rfl (by omega) (by omega)) rfl rfl ?_
      refine wl_q (r_assign (.int _ _) rfl) rfl rfl ?_
      refine wl_nil ?_
      refine roundN (i + 1, q) (agC rfl (agC rfl agN)) (akC rfl (akC rfl akN)) ?_ ?_
      · exact ⟨⟨by omega, by rw [findK_succ, hlen, ← hkn]; exact hq⟩, hM3⟩
      · (show n - (i + 1) < n - i; omega)
  · skip
    have hin : i = n := by omega
    refine W_exit ?_
    refine thenX ?_
    refine roundX ?_
    refine blkH ?_
    refine thenN ?_
    refine W_seq ?_
    refine W_region ?_
    refine wl_q (r_move (.slice _ _ _) rfl) rfl rfl ?_
    refine wl_q (r_assign (.slice _ _ _) rfl) rfl rfl ?_
    refine wl_nil ?_
    refine thenN ?_
    refine W_ret ?_
    skip
    refine fin1 (.slice _ _ _) rfl ?_
    exact ⟨r, rfl, by unfold findP; rw [hlen, ← hin]; exact hr, hM2⟩

set_option maxHeartbeats 4000000 in
theorem ref11_View (w : World) (A : Option Addr) (n c : Nat) (xs : List Body) (R : Rd w 10 A n (xs.map bodyCells)) :
    Calls Tryd.prog 10 #[.slice A n c] w (fun ex w' => ∃ v, ex = .returned v ∧ (fun v w' => ∃ r : Row, v = .tuple #[.slice r.A r.n r.c, .bool (decide (viewP xs))] ∧ RowIs 49 10 r.A r.n r.c ((viewL xs).map bodyCells) r.e ∧ Mem w [] [r.e] w') v w') := by
  have hlen : xs.length = n := by simpa using R.len
  have hbd := R.bound
  refine calls_of_W #[.tmp 2, .tmp 3] 17 Tryd.func10 rfl Tryd.results10 Tryd.ntmps10 rfl ?_
  have M0 := Mem.refl w
  refine W_seq ?_
  refine W_region ?_
  refine wl_q (r_assign (.slice _ _ _) rfl) rfl rfl ?_
  refine wl_q (r_assign (.bool false) rfl) rfl rfl ?_
  refine wl_nil ?_
  refine thenN ?_
  refine W_seq ?_
  refine W_seq ?_
  refine W_region ?_
  refine wl_q (r_move (.slice _ _ _) rfl) rfl rfl ?_
  refine wl_q (r_lenS Tryd.underlying22 rfl) rfl rfl ?_
  refine wl_q (r_bin (.bool (decide _)) rfl rfl rfl) rfl rfl ?_
  refine wl_nil ?_
  refine thenN ?_
  refine W_condD rfl (fun h8 => ?_) (fun h8 => ?_)
  · skip
    refine W_seq ?_
    refine W_region ?_
    refine wl_q (r_assign (.slice _ _ _) rfl) rfl rfl ?_
    refine wl_q (r_assign (.bool false) rfl) rfl rfl ?_
    refine wl_nil ?_
    refine thenN ?_
    refine W_ret ?_
    refine thenR ?_
    skip
    refine fin2 (.slice _ _ _) (.bool false) rfl rfl ?_
    exact ⟨nilRow, tupE rfl (bF (fun h => by have := h.1; omega)), by unfold viewL; rw [if_pos (by omega)]; exact RowIs.nil _ _ _, M0.dummy default⟩
  · skip
    refine W_skip ?_
    refine thenN ?_
    refine W_seq ?_
    refine W_region ?_
    refine wl_q (r_move (.slice _ _ _) rfl) rfl rfl ?_
    refine wl_cal cal27 rfl rfl rfl ?_
    refine (ref07_Sort _ _ _ _ xs (R.mem M0) (by omega)).mono ?_
    rintro _ w1 ⟨v1, rfl, ⟨A1, n1, c1, e1, rfl, hR1, hM1⟩⟩
    refine ⟨_, rfl, ?_⟩
    have M1 : Mem _ _ [_] _ := M0.call0 hM1
    refine wl_q (r_move (.tuple (List.toArray _)) rfl) rfl rfl ?_
    refine wl_q (r_ext (.slice _ _ _) rfl rfl) rfl rfl ?_
    refine wl_q (r_ext (.int _ _) rfl rfl) rfl rfl ?_
    refine wl_q (r_assign (.slice _ _ _) rfl) rfl rfl ?_
    refine wl_q (r_assign (.int _ _) rfl) rfl rfl ?_
    refine wl_nil ?_
    refine thenN ?_
    refine W_seq ?_
    refine W_region ?_
    refine wl_q (r_move (.slice _ _ _) rfl) rfl rfl ?_
    refine wl_q (r_move (.int _ _) rfl) rfl rfl ?_
    refine wl_q (r_bin (.bool (decide _)) rfl rfl rfl) rfl rfl ?_
    refine wl_q (r_assign (.slice _ _ _) rfl) rfl rfl ?_
    refine wl_q (r_assign (.bool (decide _)) rfl) rfl rfl ?_
    refine wl_nil ?_
    refine thenN ?_
    refine W_ret ?_
    skip
    refine fin2 (.slice _ _ _) (.bool (decide _)) rfl rfl ?_
    exact ⟨⟨A1, n1, c1, e1⟩, tupE rfl (bD ⟨fun h => ⟨by omega, h⟩, fun h => h.2⟩), by unfold viewL; rw [if_neg (by omega)]; exact hR1, M1⟩

set_option maxHeartbeats 4000000 in
theorem ref10_SamePairs (w : World) (A : Option Addr) (n c : Nat) (xs : List (Int × Int)) (R : Rd w 2 A n (xs.map pairCells)) (B : Option Addr) (m c' : Nat) (ys : List (Int × Int)) (R' : Rd w 2 B m (ys.map pairCells)) :
    Calls Tryd.prog 13 #[.slice A n c, .slice B m c'] w (fun ex w' => ∃ v, ex = .returned v ∧ (fun v w' => v = .bool (decide (xs = ys)) ∧ Below w.heap.size w w') v w') := by
  have hlen : xs.length = n := by simpa using R.len
  have hbd := R.bound
  have hlen' : ys.length = m := by simpa using R'.len
  have hbd' := R'.bound
  refine calls_of_W #[.tmp 4] 26 Tryd.func13 rfl Tryd.results13 Tryd.ntmps13 rfl ?_
  have M0 := Mem.refl w
  refine W_seq ?_
  refine W_region ?_
  refine wl_q (r_assign (.bool false) rfl) rfl rfl ?_
  refine wl_nil ?_
  refine thenN ?_
  refine W_seq ?_
  refine W_seq ?_
  refine W_region ?_
  refine wl_q (r_move (.slice _ _ _) rfl) rfl rfl ?_
  refine wl_q (r_lenS Tryd.underlying29 rfl) rfl rfl ?_
  refine wl_q (r_move (.slice _ _ _) rfl) rfl rfl ?_
  refine wl_q (r_lenS Tryd.underlying29 rfl) rfl rfl ?_
  refine wl_q (r_bin (.bool (decide _)) rfl rfl rfl) rfl rfl ?_
  refine wl_nil ?_
  refine thenN ?_
  refine W_condD rfl (fun h10 => ?_) (fun h10 => ?_)
  · skip
    refine W_seq ?_
    refine W_region ?_
    refine wl_q (r_assign (.bool false) rfl) rfl rfl ?_
    refine wl_nil ?_
    refine thenN ?_
    refine W_ret ?_
    refine thenR ?_
    skip
    refine fin1 (.bool false) rfl ?_
    exact ⟨bF (fun e => h10 (by rw [← hlen, ← hlen', e])), M0.below⟩
  · skip
    have hnm : n = m := by omega
    refine W_skip ?_
    refine thenN ?_
    refine W_seq ?_
    refine W_seq ?_
    refine W_region ?_
    refine wl_q (r_assign (.int _ _) rfl) rfl rfl ?_
    refine wl_nil ?_
    refine thenN ?_
    refine W_block ?_
    refine W_loop (σ := Nat) [0, 1] (fun k => [(5, .int .i64 (k : Int))]) (fun k w' => (k ≤ n ∧ ∀ (j : Nat) (x : Int × Int), j < k → xs[j]? = some x → ys[j]? = some x) ∧ Mem w [] [] w') (fun k => n - k) 0 (agC rfl agN) (⟨⟨by omega, fun j c hj => by omega⟩, M0⟩) ?_
    rintro k ρ1 w1 ⟨⟨hk, hne⟩, hM1⟩
    refine W_seq ?_
    refine W_seq ?_
    refine W_region ?_
    refine wl_q (r_move (.int _ _) rfl) rfl rfl ?_
    refine wl_q (r_move (.slice _ _ _) rfl) rfl rfl ?_
    refine wl_q (r_lenS Tryd.underlying29 rfl) rfl rfl ?_
    refine wl_q (r_bin (.bool (decide _)) rfl rfl rfl) rfl rfl ?_
    refine wl_nil ?_
    refine thenN ?_
    refine W_condD rfl (fun h14 => ?_) (fun h14 => ?_)
    · skip
      obtain ⟨xb, hxb⟩ := getSome (k := k) hlen (by omega)
      obtain ⟨yb, hyb⟩ := getSome (k := k) hlen' (by omega)
      refine W_skip ?_
      refine thenN ?_
      refine W_seq ?_
      refine W_block ?_
      refine W_seq ?_
      refine W_draw [(0, 0), (1, 0), (2, 1), (3, 1), (4, 0), (5, 0), (6, 1), (7, 1), (8, 0)] mixed rfl (by kernel_rfl) (fun w2 hb2 hh2 => ?_)
      have M2 := hM1.drew hb2 hh2
      refine D_p rfl rfl rfl (fun _ => r_move (.slice _ _ _) rfl) ?_
      refine D_p rfl rfl rfl (fun _ => r_move (.int _ _) rfl) ?_
      refine D_r rfl rfl rfl (r_idxR (k) sl29 rfl rfl rfl ((R.mem M2).below_len (mapGet pairCells hxb)) ((R.mem M2).someK (mapGet pairCells hxb))) ?_
      refine D_r rfl rfl rfl (r_ldEA _ agg42 (R.mem M2) (mapGet pairCells hxb) rfl) ?_
      refine D_p rfl rfl rfl (fun _ => r_move (.slice _ _ _) rfl) ?_
      refine D_p rfl rfl rfl (fun _ => r_move (.int _ _) rfl) ?_
      refine D_r rfl rfl rfl (r_idxR (k) sl29 rfl rfl rfl ((R'.mem M2).below_len (mapGet pairCells hyb)) ((R'.mem M2).someK (mapGet pairCells hyb))) ?_
      refine D_r rfl rfl rfl (r_ldEA _ agg42 (R'.mem M2) (mapGet pairCells hyb) rfl) ?_
      refine D_p rfl rfl rfl (fun _ => r_neA (eqPair xb yb) rfl rfl) ?_
      refine D_nil ?_
      refine thenN ?_
      refine W_condD rfl (fun h25 => ?_) (fun h25 => ?_)
      · skip
        refine W_seq ?_
        refine W_region ?_
        refine wl_q (r_assign (.bool false) rfl) rfl rfl ?_
        refine wl_nil ?_
        refine thenN ?_
        refine W_ret ?_
        refine blkR ?_
        refine thenR ?_
        refine roundR ?_
        refine blkR ?_
        refine thenR ?_
        skip
        refine fin1 (.bool false) rfl ?_
        exact ⟨bF (fun e => h25 (by rw [e] at hxb; rw [hxb] at hyb; injection hyb)), M2.below⟩
      · skip
        refine W_skip ?_
        refine blkN ?_
        refine thenN ?_
        refine W_region ?_
        refine wl_q (r_move (.int _ _) rfl) rfl rfl ?_
        refine wl_q (r_add rfl rfl (by omega) (by omega)) rfl rfl ?_
        refine wl_q (r_assign (.int _ _) rfl) rfl rfl ?_
        refine wl_nil ?_
        refine roundN (k + 1) (agC rfl agN) (akC rfl (akC rfl akN)) ?_ ?_
        · exact ⟨⟨by omega, allNext (p := fun j x => ys[j]? = some x) hne hxb (by rw [hyb, Decidable.not_not.1 h25])⟩, M2⟩
        · omega
    · skip
      refine W_exit ?_
      refine thenX ?_
      refine roundX ?_
      refine blkH ?_
      refine thenN ?_
      refine W_seq ?_
      refine W_region ?_
      refine wl_q (r_assign (.bool true) rfl) rfl rfl ?_
      refine wl_nil ?_
      refine thenN ?_
      refine W_ret ?_
      skip
      refine fin1 (.bool true) rfl ?_
      exact ⟨bT (listSame hlen hlen' hnm (fun j x hj hx => hne j x (by omega) hx)), hM1.below⟩

set_option maxHeartbeats 4000000 in
theorem ref10_Less (w : World) (a b : Int × Int) :
    Calls Tryd.prog 20 #[(.agg (pairCells a).toArray), (.agg (pairCells b).toArray)] w (fun ex w' => ∃ v, ex = .returned v ∧ (fun v w' => v = .bool (decide (ltP a b)) ∧ Below w.heap.size w w') v w') := by
  refine calls_of_W #[.tmp 4] 24 Tryd.func20 rfl Tryd.results20 Tryd.ntmps20 rfl ?_
  have M0 := Mem.refl w
  refine W_seq ?_
  refine W_region ?_
  refine wl_box (.agg (List.toArray _)) M0 rfl rfl rfl (fun b1 w1 M1 => ?_)
  refine wl_box (.agg (List.toArray _)) M1 rfl rfl rfl (fun b2 w2 M2 => ?_)
  refine wl_q (r_assign (.bool false) rfl) rfl rfl ?_
  refine wl_nil ?_
  refine thenN ?_
  refine W_seq ?_
  refine W_region ?_
  refine wl_q (r_fieldAddr 0 fld42_0 rfl) rfl rfl ?_
  refine wl_q (r_ld 0 (.int _ _) one25 M2 rfl rfl rfl) rfl rfl ?_
  refine wl_q (r_fieldAddr 0 fld42_0 rfl) rfl rfl ?_
  refine wl_q (r_ld 1 (.int _ _) one25 M2 rfl rfl rfl) rfl rfl ?_
  refine wl_q (r_bin (.bool (decide _)) rfl rfl rfl) rfl rfl ?_
  refine wl_q (r_move (.bool (decide _)) rfl) rfl rfl ?_
  refine wl_splitD 10 rfl (fun g10 => ?_) (fun g10 => ?_)
  · skip
    refine wl_skip rfl rfl ?_
    refine wl_skip rfl rfl ?_
    refine wl_skip rfl rfl ?_
    refine wl_skip rfl rfl ?_
    refine wl_skip rfl rfl ?_
    refine wl_skip rfl rfl ?_
    refine wl_skip rfl rfl ?_
    refine wl_skip rfl rfl ?_
    refine wl_skip rfl rfl ?_
    refine wl_skip rfl rfl ?_
    refine wl_skip rfl rfl ?_
    refine wl_skip rfl rfl ?_
    refine wl_q (r_pick true (.bool true) rfl rfl) rfl rfl ?_
    refine wl_q (r_assign (.bool true) rfl) rfl rfl ?_
    refine wl_nil ?_
    refine thenN ?_
    refine W_ret ?_
    skip
    refine fin1 (.bool true) rfl ?_
    exact ⟨by unfold ltP; first | exact bF (by omega) | exact bT (by omega) | exact bD (by omega), M2.below⟩
  · skip
    refine wl_q (r_fieldAddr 0 fld42_0 rfl) rfl rfl ?_
    refine wl_q (r_ld 0 (.int _ _) one25 M2 rfl rfl rfl) rfl rfl ?_
    refine wl_q (r_fieldAddr 0 fld42_0 rfl) rfl rfl ?_
    refine wl_q (r_ld 1 (.int _ _) one25 M2 rfl rfl rfl) rfl rfl ?_
    refine wl_q (r_bin (.bool (decide _)) rfl rfl rfl) rfl rfl ?_
    refine wl_q (r_move (.bool (decide _)) rfl) rfl rfl ?_
    refine wl_splitD 16 rfl (fun g16 => ?_) (fun g16 => ?_)
    · skip
      refine wl_q (r_fieldAddr 1 fld42_1 rfl) rfl rfl ?_
      refine wl_q (r_ld 0 (.int _ _) one25 M2 rfl rfl rfl) rfl rfl ?_
      refine wl_q (r_fieldAddr 1 fld42_1 rfl) rfl rfl ?_
      refine wl_q (r_ld 1 (.int _ _) one25 M2 rfl rfl rfl) rfl rfl ?_
      refine wl_q (r_bin (.bool (decide _)) rfl rfl rfl) rfl rfl ?_
      refine wl_q (r_pick true (.bool (decide _)) rfl rfl) rfl rfl ?_
      refine wl_q (r_pick false (.bool (decide _)) rfl rfl) rfl rfl ?_
      refine wl_q (r_assign (.bool (decide _)) rfl) rfl rfl ?_
      refine wl_nil ?_
      refine thenN ?_
      refine W_ret ?_
      skip
      refine fin1 (.bool (decide _)) rfl ?_
      exact ⟨by unfold ltP; first | exact bF (by omega) | exact bT (by omega) | exact bD (by omega), M2.below⟩
    · skip
      refine wl_skip rfl rfl ?_
      refine wl_skip rfl rfl ?_
      refine wl_skip rfl rfl ?_
      refine wl_skip rfl rfl ?_
      refine wl_skip rfl rfl ?_
      refine wl_q (r_pick false (.bool false) rfl rfl) rfl rfl ?_
      refine wl_q (r_pick false (.bool false) rfl rfl) rfl rfl ?_
      refine wl_q (r_assign (.bool false) rfl) rfl rfl ?_
      refine wl_nil ?_
      refine thenN ?_
      refine W_ret ?_
      skip
      refine fin1 (.bool false) rfl ?_
      exact ⟨by unfold ltP; first | exact bF (by omega) | exact bT (by omega) | exact bD (by omega), M2.below⟩

set_option maxHeartbeats 4000000 in
theorem law11_circle (w : World) (key x y : Int) :
    Calls Tryd.prog 28 #[.int .u32 key, .int .i32 x, .int .i32 y] w (fun ex w' => ∃ v, ex = .returned v ∧ (fun v w' => v = (.agg (bodyCells (bC key x y)).toArray) ∧ Below w.heap.size w w') v w') := by
  refine calls_of_W #[.cell 6 49] 12 Tryd.func28 rfl Tryd.results28 Tryd.ntmps28 rfl ?_
  have M0 := Mem.refl w
  refine W_seq ?_
  refine W_region ?_
  refine wl_alloc zero49 M0 rfl rfl (fun b1 w1 M1 => ?_)
  refine wl_nil ?_
  refine thenN ?_
  refine W_seq ?_
  refine W_region ?_
  refine wl_q (r_move (.int _ _) rfl) rfl rfl ?_
  refine wl_q (r_move (.int _ _) rfl) rfl rfl ?_
  refine wl_q (r_move (.int _ _) rfl) rfl rfl ?_
  refine wl_q (r_build [(0, .int _ _), (1, .int _ _)] _ struct47 rfl rfl) rfl rfl ?_
  refine wl_q (r_build [(0, .int _ _), (1, .int _ _), (5, .agg (List.toArray _))] _ struct49 rfl rfl) rfl rfl ?_
  refine wl_stW 0 _ agg49 M1 rfl rfl rfl rfl rfl (ones_of rfl) rfl (fun w2 M2 => ?_)
  refine wl_nil ?_
  refine thenN ?_
  refine W_ret ?_
  skip
  refine finC1 0 agg49 M2 rfl rfl rfl ?_
  exact ⟨rfl, M2.below⟩

end Go.Proofs.YtfgbmegchdjfeaaDoor
