/- Part of the proof of the laws of this seat: X15. No conditions. -/
import Derived.Test.YtkegiinlfmlhlaaDoorK5
import Derived.Test.YtkegiinlfmlhlaaDoorK23
import Derived.Test.YtkegiinlfmlhlaaDoorK25
/- Walks of Go functions over the frame of this claim: what each computes, for every input of the stated types (X15). -/
set_option linter.unusedVariables false
set_option linter.unusedSimpArgs false
set_option linter.unnecessarySimpa false
namespace Go.Proofs.YtkegiinlfmlhlaaDoor
open Go.Bil
open Go.RowKit (Below)
open Go.Proofs

set_option maxHeartbeats 4000000 in
theorem ref15_Same (w : World) (A : Option Addr) (n c : Nat) (xs : List Con) (R : Rd w 5 A n (xs.map conCells)) (B : Option Addr) (m c' : Nat) (ys : List Con) (R' : Rd w 5 B m (ys.map conCells)) :
    Calls Tryd.prog 15 #[.slice A n c, .slice B m c'] w (fun ex w' => ∃ v, ex = .returned v ∧ (fun v w' => v = .bool (decide (xs = ys)) ∧ Below w.heap.size w w') v w') := by
  have hlen : xs.length = n := by simpa using R.len
  have hbd := R.bound
  have hlen' : ys.length = m := by simpa using R'.len
  have hbd' := R'.bound
  refine calls_of_W #[.tmp 4] 26 Tryd.func15 rfl Tryd.results15 Tryd.ntmps15 rfl ?_
  have M0 := Mem.refl w
  refine W_seq ?_
  refine W_region ?_
  refine wl_q (r_assign (.bool false) rfl) rfl rfl ?_
  refine wl_nil ?_
  refine thenN ?_
  refine W_seq ?_
  refine W_seq ?_
  refine W_region ?_
  refine wl_q (r_move (.slice _ _ _) rfl) rfl rfl ?_
  refine wl_q (r_lenS Tryd.underlying26 rfl) rfl rfl ?_
  refine wl_q (r_move (.slice _ _ _) rfl) rfl rfl ?_
  refine wl_q (r_lenS Tryd.underlying26 rfl) rfl rfl ?_
  refine wl_q (r_bin (.bool (decide _)) rfl rfl rfl) rfl rfl ?_
  refine wl_nil ?_
  refine thenN ?_
  refine W_condD rfl (fun h10 => ?_) (fun h10 => ?_)
  · skip
    refine W_seq ?_
    refine W_region ?_
    refine wl_q (r_assign (.bool false) rfl) rfl rfl ?_
    refine wl_nil ?_
    refine thenN ?_
    refine W_ret ?_
    refine thenR ?_
    skip
    refine fin1 (.bool false) rfl ?_
    exact ⟨bF (fun e => h10 (by rw [← hlen, ← hlen', e])), M0.below⟩
  · skip
    have hnm : n = m := by omega
    refine W_skip ?_
    refine thenN ?_
    refine W_seq ?_
    refine W_seq ?_
    refine W_region ?_
    refine wl_q (r_assign (.int _ _) rfl) rfl rfl ?_
    refine wl_nil ?_
    refine thenN ?_
    refine W_block ?_
    refine W_loop (σ := Nat) [0, 1] (fun k => [(5, .int .i64 (k : Int))]) (fun k w' => (k ≤ n ∧ ∀ (j : Nat) (x : Con), j < k → xs[j]? = some x → ys[j]? = some x) ∧ Mem w [] [] w') (fun k => n - k) 0 (agC rfl agN) (⟨⟨by omega, fun j c hj => by omega⟩, M0⟩) ?_
    rintro k ρ1 w1 ⟨⟨hk, hne⟩, hM1⟩
    refine W_seq ?_
    refine W_seq ?_
    refine W_region ?_
    refine wl_q (r_move (.int _ _) rfl) rfl rfl ?_
    refine wl_q (r_move (.slice _ _ _) rfl) rfl rfl ?_
    refine wl_q (r_lenS Tryd.underlying26 rfl) rfl rfl ?_
    refine wl_q (r_bin (.bool (decide _)) rfl rfl rfl) rfl rfl ?_
    refine wl_nil ?_
    refine thenN ?_
    refine W_condD rfl (fun h14 => ?_) (fun h14 => ?_)
    · skip
      obtain ⟨xb, hxb⟩ := getSome (k := k) hlen (by omega)
      obtain ⟨yb, hyb⟩ := getSome (k := k) hlen' (by omega)
      refine W_skip ?_
      refine thenN ?_
      refine W_seq ?_
      refine W_block ?_
      refine W_seq ?_
      refine W_draw [(0, 0), (1, 0), (2, 1), (3, 1), (4, 0), (5, 0), (6, 1), (7, 1), (8, 0)] mixed rfl (by kernel_rfl) (fun w2 hb2 hh2 => ?_)
      have M2 := hM1.drew hb2 hh2
      refine D_p rfl rfl rfl (fun _ => r_move (.slice _ _ _) rfl) ?_
      refine D_p rfl rfl rfl (fun _ => r_move (.int _ _) rfl) ?_
      refine D_r rfl rfl rfl (r_idxR (k) sl26 rfl rfl rfl ((R.mem M2).below_len (mapGet conCells hxb)) ((R.mem M2).someK (mapGet conCells hxb))) ?_
      refine D_r rfl rfl rfl (r_ldEA _ agg38 (R.mem M2) (mapGet conCells hxb) rfl) ?_
      refine D_p rfl rfl rfl (fun _ => r_move (.slice _ _ _) rfl) ?_
      refine D_p rfl rfl rfl (fun _ => r_move (.int _ _) rfl) ?_
      refine D_r rfl rfl rfl (r_idxR (k) sl26 rfl rfl rfl ((R'.mem M2).below_len (mapGet conCells hyb)) ((R'.mem M2).someK (mapGet conCells hyb))) ?_
      refine D_r rfl rfl rfl (r_ldEA _ agg38 (R'.mem M2) (mapGet conCells hyb) rfl) ?_
      refine D_p rfl rfl rfl (fun _ => r_neA (eqCon xb yb) rfl rfl) ?_
      refine D_nil ?_
      refine thenN ?_
      refine W_condD rfl (fun h25 => ?_) (fun h25 => ?_)
      · skip
        refine W_seq ?_
        refine W_region ?_
        refine wl_q (r_assign (.bool false) rfl) rfl rfl ?_
        refine wl_nil ?_
        refine thenN ?_
        refine W_ret ?_
        refine blkR ?_
        refine thenR ?_
        refine roundR ?_
        refine blkR ?_
        refine thenR ?_
        skip
        refine fin1 (.bool false) rfl ?_
        exact ⟨bF (fun e => h25 (by rw [e] at hxb; rw [hxb] at hyb; injection hyb)), M2.below⟩
      · skip
        refine W_skip ?_
        refine blkN ?_
        refine thenN ?_
        refine W_region ?_
        refine wl_q (r_move (.int _ _) rfl) rfl rfl ?_
        refine wl_q (r_add rfl rfl (by omega) (by omega)) rfl rfl ?_
        refine wl_q (r_assign (.int _ _) rfl) rfl rfl ?_
        refine wl_nil ?_
        refine roundN (k + 1) (agC rfl agN) (akC rfl (akC rfl akN)) ?_ ?_
        · exact ⟨⟨by omega, allNext (p := fun j x => ys[j]? = some x) hne hxb (by rw [hyb, Decidable.not_not.1 h25])⟩, M2⟩
        · omega
    · skip
      refine W_exit ?_
      refine thenX ?_
      refine roundX ?_
      refine blkH ?_
      refine thenN ?_
      refine W_seq ?_
      refine W_region ?_
      refine wl_q (r_assign (.bool true) rfl) rfl rfl ?_
      refine wl_nil ?_
      refine thenN ?_
      refine W_ret ?_
      skip
      refine fin1 (.bool true) rfl ?_
      exact ⟨bT (listSame hlen hlen' hnm (fun j x hj hx => hne j x (by omega) hx)), hM1.below⟩

set_option maxHeartbeats 4000000 in
theorem contacts_Deepest (w : World) (A : Option Addr) (n c : Nat) (xs : List Con) (R : Rd w 5 A n (xs.map conCells)) (hn : n ≤ 1099511627776) (hcap : n ≤ c) :
    Calls Tryd.prog 17 #[.slice A n c] w (fun ex w' => ∃ v, ex = .returned v ∧ (fun v w' => v = .tuple #[.agg (conO (deepC xs)).toArray, .bool (decide (xs ≠ []))] ∧ Below w.heap.size w w') v w') := by
  have hlen : xs.length = n := by simpa using R.len
  have hbd := R.bound
  refine calls_of_W #[.cell 2 38, .tmp 3] 29 Tryd.func17 rfl Tryd.results17 Tryd.ntmps17 rfl ?_
  have M0 := Mem.refl w
  refine W_seq ?_
  refine W_region ?_
  refine wl_alloc zero38 M0 rfl rfl (fun b1 w1 M1 => ?_)
  refine wl_q (r_assign (.bool false) rfl) rfl rfl ?_
  refine wl_nil ?_
  refine thenN ?_
  refine W_seq ?_
  refine W_seq ?_
  refine W_region ?_
  refine wl_q (r_move (.slice _ _ _) rfl) rfl rfl ?_
  refine wl_q (r_lenS Tryd.underlying26 rfl) rfl rfl ?_
  refine wl_q (r_bin (.bool (decide _)) rfl rfl rfl) rfl rfl ?_
  refine wl_nil ?_
  refine thenN ?_
  refine W_condD rfl (fun h9 => ?_) (fun h9 => ?_)
  · skip
    refine W_seq ?_
    refine W_region ?_
    refine wl_q (r_build [] _ struct38 rfl rfl) rfl rfl ?_
    refine wl_stW 0 _ agg38 M1 rfl rfl rfl rfl rfl (ones_of rfl) rfl (fun w2 M2 => ?_)
    refine wl_q (r_assign (.bool false) rfl) rfl rfl ?_
    refine wl_nil ?_
    refine thenN ?_
    refine W_ret ?_
    refine thenR ?_
    skip
    refine finC2 (v2 := .bool false) 0 agg38 M2 rfl rfl rfl rfl ?_
    have hnil : xs = [] := List.eq_nil_of_length_eq_zero (by omega)
    subst hnil
    exact ⟨rfl, M2.below⟩
  · skip
    obtain ⟨x0, hx0⟩ := getSome (xs := xs) (k := 0) hlen (by omega)
    refine W_skip ?_
    refine thenN ?_
    refine W_seq ?_
    refine W_region ?_
    refine wl_q (r_move (.slice _ _ _) rfl) rfl rfl ?_
    refine wl_q (r_idxR (0) sl26 rfl rfl rfl ((R.mem M1).below_len (mapGet conCells hx0)) ((R.mem M1).someK (mapGet conCells hx0))) rfl rfl ?_
    refine wl_q (r_ldEA _ agg38 (R.mem M1) (mapGet conCells hx0) rfl) rfl rfl ?_
    refine wl_alloc zero38 M1 rfl rfl (fun b3 w3 M3 => ?_)
    refine wl_stW 1 _ agg38 M3 rfl rfl rfl rfl rfl (ones_of rfl) rfl (fun w4 M4 => ?_)
    refine wl_nil ?_
    refine thenN ?_
    refine W_seq ?_
    refine W_seq ?_
    refine W_region ?_
    refine wl_q (r_move (.slice _ _ _) rfl) rfl rfl ?_
    refine wl_q (r_slice (1) ((n : Int)) sl26 rfl ⟨_, rfl⟩ rfl (by decide) (by omega) (by omega)) rfl rfl ?_
    refine wl_q (r_lenS Tryd.underlying26 rfl) rfl rfl ?_
    refine wl_q (r_move (.int _ _) rfl) rfl rfl ?_
    refine wl_nil ?_
    refine thenN ?_
    refine W_block ?_
    refine W_loop (σ := Nat × Con) [2, 3, 4, 15, 16] (fun (k, b) => [(17, .int .i64 (k : Int))]) (fun (k, b) w' => (k ≤ n - 1 ∧ b = deepG x0 (xs.tail.take k)) ∧ Mem w [] [(some b1, bc [.int .u32 0, .int .u32 0, .int .i32 0, .int .i32 0, .int .i32 0] 38), (some b3, bc (conCells b) 38)] w') (fun (k, b) => n - 1 - k) (0, x0) (agC rfl agN) (⟨⟨by omega, rfl⟩, M4⟩) ?_
    rintro ⟨k, b⟩ ρ5 w5 ⟨⟨hk, hbe⟩, hM5⟩
    refine W_seq ?_
    refine W_region ?_
    refine wl_q (r_bin (.bool (decide _)) rfl rfl rfl) rfl rfl ?_
    refine wl_nil ?_
    refine thenN ?_
    refine W_seq ?_
    refine W_condD rfl (fun h18 => ?_) (fun h18 => ?_)
    · skip
      obtain ⟨xc, hxc⟩ := getSome (xs := xs) (k := k + 1) hlen (by omega)
      refine W_skip ?_
      refine thenN ?_
      refine W_seq ?_
      refine W_block ?_
      refine W_seq ?_
      refine W_region ?_
      refine wl_q (r_idxR (k) sl26 rfl rfl rfl ((Rd.sub (R.mem hM5) 1 n (by omega) (by omega) hcap).below_len (sub_get (f := conCells) hxc (by omega))) ((Rd.sub (R.mem hM5) 1 n (by omega) (by omega) hcap).someK (sub_get (f := conCells) hxc (by omega)))) rfl rfl ?_
      refine wl_q (r_ldEA _ agg38 (Rd.sub (R.mem hM5) 1 n (by omega) (by omega) hcap) (sub_get (f := conCells) hxc (by omega)) rfl) rfl rfl ?_
      refine wl_alloc zero38 hM5 rfl rfl (fun b6 w6 M6 => ?_)
      refine wl_stW 2 _ agg38 M6 rfl rfl rfl rfl rfl (ones_of rfl) rfl (fun w7 M7 => ?_)
      refine wl_nil ?_
      refine thenN ?_
      refine W_seq ?_
      refine W_region ?_
      refine wl_q (r_fieldAddr 4 fld38_2 rfl) rfl rfl ?_
      refine wl_q (r_ld 2 (.int _ _) one21 M7 rfl rfl rfl) rfl rfl ?_
      refine wl_q (r_fieldAddr 4 fld38_2 rfl) rfl rfl ?_
      refine wl_q (r_ld 1 (.int _ _) one21 M7 rfl rfl rfl) rfl rfl ?_
      refine wl_q (r_bin (.bool (decide _)) rfl rfl rfl) rfl rfl ?_
      refine wl_nil ?_
      refine thenN ?_
      refine W_condD rfl (fun h25 => ?_) (fun h25 => ?_)
      · skip
        refine W_region ?_
        refine wl_q (r_ldW 2 agg38 M7 rfl rfl rfl) rfl rfl ?_
        refine wl_stW 1 _ agg38 M7 rfl rfl rfl rfl rfl (ones_of rfl) rfl (fun w8 M8 => ?_)
        refine wl_nil ?_
        refine blkN ?_
        refine thenN ?_
        refine W_region ?_
        refine wl_q (r_add rfl rfl (by omega) (by omega)) rfl rfl ?_
        refine wl_q (r_move (.int _ _) rfl) rfl rfl ?_
        refine wl_nil ?_
        refine roundN (k + 1, xc) (agC rfl agN) (akC rfl (akC rfl (akC rfl (akC rfl (akC rfl akN))))) ?_ ?_
        · exact ⟨⟨by omega, by rw [take_snoc (tail_get hxc), deepG_snoc, ← hbe, if_pos h25]⟩, M8.keep [true, true, false]⟩
        · (show n - 1 - (k + 1) < n - 1 - k; omega)
      · skip
        refine W_skip ?_
        refine blkN ?_
        refine thenN ?_
        refine W_region ?_
        refine wl_q (r_add rfl rfl (by omega) (by omega)) rfl rfl ?_
        refine wl_q (r_move (.int _ _) rfl) rfl rfl ?_
        refine wl_nil ?_
        refine roundN (k + 1, b) (agC rfl agN) (akC rfl (akC rfl (akC rfl (akC rfl (akC rfl akN))))) ?_ ?_
        · exact ⟨⟨by omega, by rw [take_snoc (tail_get hxc), deepG_snoc, ← hbe, if_neg h25]⟩, M7.keep [true, true, false]⟩
        · (show n - 1 - (k + 1) < n - 1 - k; omega)
    · skip
      refine W_exit ?_
      refine thenX ?_
      refine roundX ?_
      refine blkH ?_
      refine thenN ?_
      refine W_seq ?_
      refine W_region ?_
      refine wl_q (r_ldW 1 agg38 hM5 rfl rfl rfl) rfl rfl ?_
      refine wl_stW 0 _ agg38 hM5 rfl rfl rfl rfl rfl (ones_of rfl) rfl (fun w9 M9 => ?_)
      refine wl_q (r_assign (.bool true) rfl) rfl rfl ?_
      refine wl_nil ?_
      refine thenN ?_
      refine W_ret ?_
      skip
      refine finC2 (v2 := .bool true) 0 agg38 M9 rfl rfl rfl rfl ?_
      have hkn : k = n - 1 := by omega
      rw [List.take_of_length_le (by rw [List.length_tail]; omega)] at hbe
      have hnn : xs ≠ [] := fun h => by rw [h] at hx0; cases hx0
      exact ⟨by rw [deepC_at hx0, ← hbe]; exact tupE rfl (bT hnn), M9.below⟩

theorem aw15_0 : ∀ b ∈ ([⟨1, 65536, 0, 0, 0, 0, 0, 0, 0, 0⟩, ⟨4, 65536, 0, 0, 0, 0, 0, 0, 0, 0⟩, ⟨9, 65537, 0, 0, 0, 0, 0, 0, 0, 0⟩] : List Body), Okb b := fun b hb => check_ok ((by decide : ∀ b ∈ ([⟨1, 65536, 0, 0, 0, 0, 0, 0, 0, 0⟩, ⟨4, 65536, 0, 0, 0, 0, 0, 0, 0, 0⟩, ⟨9, 65537, 0, 0, 0, 0, 0, 0, 0, 0⟩] : List Body), check b = 0) b hb)
theorem aw15_1 : findP [⟨1, 65536, 0, 0, 0, 0, 0, 0, 0, 0⟩, ⟨4, 65536, 0, 0, 0, 0, 0, 0, 0, 0⟩, ⟨9, 65537, 0, 0, 0, 0, 0, 0, 0, 0⟩] = [(1, 4), (1, 9), (4, 9)] := by decide
theorem aw15_2 : allC [⟨1, 65536, 0, 0, 0, 0, 0, 0, 0, 0⟩, ⟨4, 65536, 0, 0, 0, 0, 0, 0, 0, 0⟩, ⟨9, 65537, 0, 0, 0, 0, 0, 0, 0, 0⟩] = [⟨1, 4, 65536, 0, 131072⟩, ⟨1, 9, 65536, 0, 131073⟩, ⟨4, 9, 65536, 0, 131073⟩] := by decide
theorem aw15_3 : deepC [⟨1, 4, 65536, 0, 131072⟩, ⟨1, 9, 65536, 0, 131073⟩, ⟨4, 9, 65536, 0, 131073⟩] = some ⟨1, 9, 65536, 0, 131073⟩ := by decide
theorem aw15_4 : withC 9 [⟨1, 4, 65536, 0, 131072⟩, ⟨1, 9, 65536, 0, 131073⟩, ⟨4, 9, 65536, 0, 131073⟩] = [⟨1, 9, 65536, 0, 131073⟩, ⟨4, 9, 65536, 0, 131073⟩] := by decide

set_option maxHeartbeats 16000000 in
theorem aw15 (w : World) (F : Rd w 2 (some ⟨0, 0, none⟩) 1 [[.int .u32 73856093, .int .u32 19349663]]) (N : Rd w 4 (some ⟨1, 0, none⟩) 1 [bxCells noneB]) :
    Calls Tryd.prog 12 #[] w (fun ex w' => ∃ v, ex = .returned v ∧ (fun v w' => v = .bool true ∧ Below w.heap.size w w') v w') := by
  refine calls_of_W #[.tmp 0] 60 Tryd.func12 rfl Tryd.results12 Tryd.ntmps12 rfl ?_
  have M0 := Mem.refl w
  refine W_seq ?_
  refine W_region ?_
  refine wl_q (r_assign (.bool false) rfl) rfl rfl ?_
  refine wl_nil ?_
  refine thenN ?_
  refine W_seq ?_
  refine W_region ?_
  refine wl_q (r_build [(0, .int _ _), (1, .int _ _)] _ struct34 rfl rfl) rfl rfl ?_
  refine wl_q (r_build [(0, .int _ _), (1, .int _ _)] _ struct34 rfl rfl) rfl rfl ?_
  refine wl_q (r_build [(0, .int _ _), (1, .int _ _)] _ struct34 rfl rfl) rfl rfl ?_
  refine wl_bslice [.agg (List.toArray _), .agg (List.toArray _), .agg (List.toArray _)] [bodyCells ⟨1, 65536, 0, 0, 0, 0, 0, 0, 0, 0⟩, bodyCells ⟨4, 65536, 0, 0, 0, 0, 0, 0, 0, 0⟩, bodyCells ⟨9, 65537, 0, 0, 0, 0, 0, 0, 0, 0⟩] rfl sl22 M0 rfl rfl rfl rfl (lens_of rfl) (by decide) (fun b1 w1 M1 => ?_)
  have hlit11 := rowLit (T := 34) (b := b1) ([⟨1, 65536, 0, 0, 0, 0, 0, 0, 0, 0⟩, ⟨4, 65536, 0, 0, 0, 0, 0, 0, 0, 0⟩, ⟨9, 65537, 0, 0, 0, 0, 0, 0, 0, 0⟩].map bodyCells) (bodies_len _) rfl (by decide)
  refine wl_q (r_assign (.slice _ _ _) rfl) rfl rfl ?_
  refine wl_nil ?_
  refine thenN ?_
  refine W_seq ?_
  refine W_region ?_
  refine wl_q (r_move (.slice _ _ _) rfl) rfl rfl ?_
  refine wl_cal cal13 rfl rfl rfl ?_
  refine (contacts_All _ (F.mem M1) (N.mem M1) _ _ _ [⟨1, 65536, 0, 0, 0, 0, 0, 0, 0, 0⟩, ⟨4, 65536, 0, 0, 0, 0, 0, 0, 0, 0⟩, ⟨9, 65537, 0, 0, 0, 0, 0, 0, 0, 0⟩] (hlit11.rd M1 (nthMem (i := 0) rfl)) aw15_0 (adjB_sorted (by decide)) (by first | decide | omega)).mono ?_
  rintro _ w2 ⟨v2, rfl, ⟨r0, m0, rfl, hfm0, hgm0, hr0, hM2⟩⟩
  refine ⟨_, rfl, ?_⟩
  have M2 : Mem _ _ [_, _] _ := M1.call0 hM2
  rw [aw15_1] at hfm0
  rw [aw15_2] at hr0
  have hm3 : 3 ≤ m0 := hfm0
  have hm6 : 2 * m0 ≤ 6 := hgm0
  have hn3 : 3 = r0.n := by simpa using hr0.1
  have hc0 := hr0.slice
  refine wl_q (r_move (.tuple (List.toArray _)) rfl) rfl rfl ?_
  refine wl_q (r_ext (.slice _ _ _) rfl rfl) rfl rfl ?_
  refine wl_q (r_ext (.int _ _) rfl rfl) rfl rfl ?_
  refine wl_q (r_assign (.slice _ _ _) rfl) rfl rfl ?_
  refine wl_q (r_assign (.int _ _) rfl) rfl rfl ?_
  refine wl_nil ?_
  refine thenN ?_
  refine W_seq ?_
  refine W_seq ?_
  refine W_region ?_
  refine wl_q (r_move (.slice _ _ _) rfl) rfl rfl ?_
  refine wl_q (r_lenS Tryd.underlying26 rfl) rfl rfl ?_
  refine wl_q (r_bin (.bool (decide _)) rfl rfl rfl) rfl rfl ?_
  refine wl_re 19 (.bool false) (bF (by omega)).symm ?_
  refine wl_nil ?_
  refine thenN ?_
  refine W_condF rfl ?_
  refine W_skip ?_
  refine thenN ?_
  refine W_seq ?_
  refine W_region ?_
  refine wl_q (r_move (.slice _ _ _) rfl) rfl rfl ?_
  refine wl_cal cal17 rfl rfl rfl ?_
  refine (contacts_Deepest _ _ _ _ [⟨1, 4, 65536, 0, 131072⟩, ⟨1, 9, 65536, 0, 131073⟩, ⟨4, 9, 65536, 0, 131073⟩] (hr0.rd M2 (nthMem (i := 1) rfl)) (by omega) hc0).mono ?_
  rintro _ w3 ⟨v3, rfl, ⟨rfl, hb3⟩⟩
  refine ⟨_, rfl, ?_⟩
  have M3 := M2.callB hb3
  refine wl_q (r_move (.tuple (List.toArray _)) rfl) rfl rfl ?_
  refine wl_q (r_ext (.agg (List.toArray _)) rfl rfl) rfl rfl ?_
  refine wl_re 23 (.agg (conCells ⟨1, 9, 65536, 0, 131073⟩).toArray) (congrArg (fun o => Value.agg (conO o).toArray) aw15_3) ?_
  refine wl_q (r_ext (.bool (decide _)) rfl rfl) rfl rfl ?_
  refine wl_re 24 (.bool true) (bT (by decide)).symm ?_
  refine wl_alloc zero38 M3 rfl rfl (fun b4 w4 M4 => ?_)
  refine wl_stW 2 _ agg38 M4 rfl rfl rfl rfl rfl (ones_of rfl) rfl (fun w5 M5 => ?_)
  refine wl_q (r_assign (.bool true) rfl) rfl rfl ?_
  refine wl_nil ?_
  refine thenN ?_
  refine W_seq ?_
  refine W_region ?_
  refine wl_cal cal17 rfl rfl rfl ?_
  refine (contacts_Deepest _ none 0 0 [] (Rd.nil _ _ _) (by decide) (by decide)).mono ?_
  rintro _ w6 ⟨v6, rfl, ⟨rfl, hb6⟩⟩
  refine ⟨_, rfl, ?_⟩
  have M6 := M5.callB hb6
  refine wl_q (r_move (.tuple (List.toArray _)) rfl) rfl rfl ?_
  refine wl_q (r_ext (.agg (List.toArray _)) rfl rfl) rfl rfl ?_
  refine wl_q (r_ext (.bool (decide _)) rfl rfl) rfl rfl ?_
  refine wl_re 28 (.bool false) (bF (fun h => h rfl)).symm ?_
  refine wl_alloc zero38 M6 rfl rfl (fun b7 w7 M7 => ?_)
  refine wl_stW 3 _ agg38 M7 rfl rfl rfl rfl rfl (ones_of rfl) rfl (fun w8 M8 => ?_)
  refine wl_q (r_assign (.bool false) rfl) rfl rfl ?_
  refine wl_nil ?_
  refine thenN ?_
  refine W_seq ?_
  refine W_draw [(0, 0), (1, 1), (2, 1), (3, 0), (4, 0), (5, 0), (6, 0), (7, 0), (8, 0), (9, 0), (10, 0), (11, 0), (12, 1), (13, 0), (14, 1), (15, 1), (16, 0), (17, 0), (18, 0), (19, 0), (20, 0), (21, 0), (22, 0), (23, 0), (24, 0), (25, 0), (26, 0), (27, 2), (28, 0), (29, 0), (30, 0), (31, 0)] mixed rfl (by kernel_rfl) (fun w9 hb9 hh9 => ?_)
  have M9 := M8.drew hb9 hh9
  refine D_p rfl rfl rfl (fun _ => r_move (.slice _ _ _) rfl) ?_
  refine D_r rfl rfl rfl (r_idxR (0) sl26 rfl rfl rfl ((hr0.rd M9 (nthMem (i := 1) rfl)).below_len (mapGet conCells (show ([⟨1, 4, 65536, 0, 131072⟩, ⟨1, 9, 65536, 0, 131073⟩, ⟨4, 9, 65536, 0, 131073⟩] : List Con)[0]? = some ⟨1, 4, 65536, 0, 131072⟩ from rfl))) ((hr0.rd M9 (nthMem (i := 1) rfl)).someK (mapGet conCells (show ([⟨1, 4, 65536, 0, 131072⟩, ⟨1, 9, 65536, 0, 131073⟩, ⟨4, 9, 65536, 0, 131073⟩] : List Con)[0]? = some ⟨1, 4, 65536, 0, 131072⟩ from rfl)))) ?_
  refine D_r rfl rfl rfl (r_ldEA _ agg38 (hr0.rd M9 (nthMem (i := 1) rfl)) (mapGet conCells (show ([⟨1, 4, 65536, 0, 131072⟩, ⟨1, 9, 65536, 0, 131073⟩, ⟨4, 9, 65536, 0, 131073⟩] : List Con)[0]? = some ⟨1, 4, 65536, 0, 131072⟩ from rfl)) rfl) ?_
  refine D_p rfl rfl rfl (fun _ => r_build [(0, .int _ _), (1, .int _ _)] _ struct36 rfl rfl) ?_
  refine D_p rfl rfl rfl (fun _ => r_build [(0, .int _ _)] _ struct32 rfl rfl) ?_
  refine D_p rfl rfl rfl (fun _ => r_build [(0, .agg (List.toArray _)), (1, .agg (List.toArray _)), (2, .int _ _)] _ struct38 rfl rfl) ?_
  refine D_p rfl rfl rfl (fun _ => r_eqA (eqCon ⟨1, 4, 65536, 0, 131072⟩ ⟨1, 4, 65536, 0, 131072⟩) rfl rfl) ?_
  refine D_re 35 (.bool true) (bT rfl).symm ?_
  refine D_p rfl rfl rfl (fun _ => r_move (.bool true) rfl) ?_
  refine D_p rfl rfl rfl (fun _ => r_move (.int _ _) rfl) ?_
  refine D_p rfl rfl rfl (fun _ => r_bin (.bool (decide _)) rfl rfl rfl) ?_
  refine D_re 38 (.bool true) (bT (by omega)).symm ?_
  refine D_p rfl rfl rfl (fun _ => r_pick true (.bool true) rfl rfl) ?_
  refine D_p rfl rfl rfl (fun _ => r_move (.bool true) rfl) ?_
  refine D_r rfl rfl rfl (r_ldW 2 agg38 M9 rfl rfl rfl) ?_
  refine D_p rfl rfl rfl (fun _ => r_move (.slice _ _ _) rfl) ?_
  refine D_r rfl rfl rfl (r_idxR (1) sl26 rfl rfl rfl ((hr0.rd M9 (nthMem (i := 1) rfl)).below_len (mapGet conCells (show ([⟨1, 4, 65536, 0, 131072⟩, ⟨1, 9, 65536, 0, 131073⟩, ⟨4, 9, 65536, 0, 131073⟩] : List Con)[1]? = some ⟨1, 9, 65536, 0, 131073⟩ from rfl))) ((hr0.rd M9 (nthMem (i := 1) rfl)).someK (mapGet conCells (show ([⟨1, 4, 65536, 0, 131072⟩, ⟨1, 9, 65536, 0, 131073⟩, ⟨4, 9, 65536, 0, 131073⟩] : List Con)[1]? = some ⟨1, 9, 65536, 0, 131073⟩ from rfl)))) ?_
  refine D_r rfl rfl rfl (r_ldEA _ agg38 (hr0.rd M9 (nthMem (i := 1) rfl)) (mapGet conCells (show ([⟨1, 4, 65536, 0, 131072⟩, ⟨1, 9, 65536, 0, 131073⟩, ⟨4, 9, 65536, 0, 131073⟩] : List Con)[1]? = some ⟨1, 9, 65536, 0, 131073⟩ from rfl)) rfl) ?_
  refine D_p rfl rfl rfl (fun _ => r_eqA (eqCon ⟨1, 9, 65536, 0, 131073⟩ ⟨1, 9, 65536, 0, 131073⟩) rfl rfl) ?_
  refine D_re 45 (.bool true) (bT rfl).symm ?_
  refine D_p rfl rfl rfl (fun _ => r_pick true (.bool true) rfl rfl) ?_
  refine D_p rfl rfl rfl (fun _ => r_move (.bool true) rfl) ?_
  refine D_p rfl rfl rfl (fun _ => r_move (.bool true) rfl) ?_
  refine D_p rfl rfl rfl (fun _ => r_pick true (.bool true) rfl rfl) ?_
  refine D_p rfl rfl rfl (fun _ => r_move (.bool true) rfl) ?_
  refine D_p rfl rfl rfl (fun _ => r_move (.bool false) rfl) ?_
  refine D_p rfl rfl rfl (fun _ => r_notB true rfl rfl) ?_
  refine D_p rfl rfl rfl (fun _ => r_pick true (.bool true) rfl rfl) ?_
  refine D_p rfl rfl rfl (fun _ => r_move (.bool true) rfl) ?_
  refine D_p rfl rfl rfl (fun _ => r_move (.slice _ _ _) rfl) ?_
  refine D_e [true, true, true, true, true] rfl (by kernel_rfl) ?_
  refine wl_cal cal14 rfl rfl rfl ?_
  refine (contacts_With _ 9 _ _ _ [⟨1, 4, 65536, 0, 131072⟩, ⟨1, 9, 65536, 0, 131073⟩, ⟨4, 9, 65536, 0, 131073⟩] (hr0.rd M9 (nthMem (i := 1) rfl)) (by first | decide | omega)).mono ?_
  rintro _ w10 ⟨v10, rfl, ⟨r1, rfl, hr1, hM10⟩⟩
  refine ⟨_, rfl, ?_⟩
  have M10 : Mem _ _ [_, _, _, _, _] _ := M9.call0 hM10
  rw [aw15_4] at hr1
  have hn2 : 2 = r1.n := by simpa using hr1.1
  refine wl_nil (thenN ⟨alN, ?_⟩)
  refine D_p rfl rfl rfl (fun _ => r_lenS Tryd.underlying26 rfl) ?_
  refine D_p rfl rfl rfl (fun _ => r_bin (.bool (decide _)) rfl rfl rfl) ?_
  refine D_re 58 (.bool true) (bT (by omega)).symm ?_
  refine D_p rfl rfl rfl (fun _ => r_pick true (.bool true) rfl rfl) ?_
  refine D_p rfl rfl rfl (fun _ => r_assign (.bool true) rfl) ?_
  refine D_nil ?_
  refine thenN ?_
  refine W_ret ?_
  skip
  refine fin1 (.bool true) rfl ?_
  exact ⟨rfl, M10.below⟩

end Go.Proofs.YtkegiinlfmlhlaaDoor
