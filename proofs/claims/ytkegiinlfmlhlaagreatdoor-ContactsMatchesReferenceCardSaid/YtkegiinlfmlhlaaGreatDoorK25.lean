/- Part of the proof of the laws of this seat: X15, Z5. No conditions. -/
import Derived.Test.YtkegiinlfmlhlaaGreatDoorK5
import Derived.Test.YtkegiinlfmlhlaaGreatDoorK22
import Derived.Test.YtkegiinlfmlhlaaGreatDoorK24
import Derived.Test.YtkegiinlfmlhlaaGreatDoorK17
/- Walks of Go functions over the frame of this claim: what each computes, for every input of the stated types (X15). -/
set_option linter.unusedVariables false
set_option linter.unusedSimpArgs false
set_option linter.unnecessarySimpa false
namespace Go.Proofs.YtkegiinlfmlhlaaGreatDoor
open Go.Bil
open Go.RowKit (Below)
open Go.Proofs

set_option maxHeartbeats 4000000 in
theorem ref15_Same (w : World) (A : Option Addr) (n c : Nat) (xs : List Con) (R : Rd w 5 A n (xs.map conCells)) (B : Option Addr) (m c' : Nat) (ys : List Con) (R' : Rd w 5 B m (ys.map conCells)) :
    Calls Tryz.prog 9 #[.slice A n c, .slice B m c'] w (fun ex w' => ∃ v, ex = .returned v ∧ (fun v w' => v = .bool (decide (xs = ys)) ∧ Below w.heap.size w w') v w') := by
  have hlen : xs.length = n := by simpa using R.len
  have hbd := R.bound
  have hlen' : ys.length = m := by simpa using R'.len
  have hbd' := R'.bound
  refine calls_of_W #[.tmp 4] 26 Tryz.func9 rfl Tryz.results9 Tryz.ntmps9 rfl ?_
  have M0 := Mem.refl w
  refine W_seq ?_
  refine W_region ?_
  refine wl_q (r_assign (.bool false) rfl) rfl rfl ?_
  refine wl_nil ?_
  refine thenN ?_
  refine W_seq ?_
  refine W_seq ?_
  refine W_region ?_
  refine wl_q (r_move (.slice _ _ _) rfl) rfl rfl ?_
  refine wl_q (r_lenS Tryz.underlying23 rfl) rfl rfl ?_
  refine wl_q (r_move (.slice _ _ _) rfl) rfl rfl ?_
  refine wl_q (r_lenS Tryz.underlying23 rfl) rfl rfl ?_
  refine wl_q (r_bin (.bool (decide _)) rfl rfl rfl) rfl rfl ?_
  refine wl_nil ?_
  refine thenN ?_
  refine W_condD rfl (fun h10 => ?_) (fun h10 => ?_)
  · skip
    refine W_seq ?_
    refine W_region ?_
    refine wl_q (r_assign (.bool false) rfl) rfl rfl ?_
    refine wl_nil ?_
    refine thenN ?_
    refine W_ret ?_
    refine thenR ?_
    skip
    refine fin1 (.bool false) rfl ?_
    exact ⟨bF (fun e => h10 (by rw [← hlen, ← hlen', e])), M0.below⟩
  · skip
    have hnm : n = m := by omega
    refine W_skip ?_
    refine thenN ?_
    refine W_seq ?_
    refine W_seq ?_
    refine W_region ?_
    refine wl_q (r_assign (.int _ _) rfl) rfl rfl ?_
    refine wl_nil ?_
    refine thenN ?_
    refine W_block ?_
    refine W_loop (σ := Nat) [0, 1] (fun k => [(5, .int .i64 (k : Int))]) (fun k w' => (k ≤ n ∧ ∀ (j : Nat) (x : Con), j < k → xs[j]? = some x → ys[j]? = some x) ∧ Mem w [] [] w') (fun k => n - k) 0 (agC rfl agN) (⟨⟨by omega, fun j c hj => by omega⟩, M0⟩) ?_
    rintro k ρ1 w1 ⟨⟨hk, hne⟩, hM1⟩
    refine W_seq ?_
    refine W_seq ?_
    refine W_region ?_
    refine wl_q (r_move (.int _ _) rfl) rfl rfl ?_
    refine wl_q (r_move (.slice _ _ _) rfl) rfl rfl ?_
    refine wl_q (r_lenS Tryz.underlying23 rfl) rfl rfl ?_
    refine wl_q (r_bin (.bool (decide _)) rfl rfl rfl) rfl rfl ?_
    refine wl_nil ?_
    refine thenN ?_
    refine W_condD rfl (fun h14 => ?_) (fun h14 => ?_)
    · skip
      obtain ⟨xb, hxb⟩ := getSome (k := k) hlen (by omega)
      obtain ⟨yb, hyb⟩ := getSome (k := k) hlen' (by omega)
      refine W_skip ?_
      refine thenN ?_
      refine W_seq ?_
      refine W_block ?_
      refine W_seq ?_
      refine W_draw [(0, 0), (1, 0), (2, 1), (3, 1), (4, 0), (5, 0), (6, 1), (7, 1), (8, 0)] mixed rfl (by kernel_rfl) (fun w2 hb2 hh2 => ?_)
      have M2 := hM1.drew hb2 hh2
      refine D_p rfl rfl rfl (fun _ => r_move (.slice _ _ _) rfl) ?_
      refine D_p rfl rfl rfl (fun _ => r_move (.int _ _) rfl) ?_
      refine D_r rfl rfl rfl (r_idxR (k) sl23 rfl rfl rfl ((R.mem M2).below_len (mapGet conCells hxb)) ((R.mem M2).someK (mapGet conCells hxb))) ?_
      refine D_r rfl rfl rfl (r_ldEA _ agg35 (R.mem M2) (mapGet conCells hxb) rfl) ?_
      refine D_p rfl rfl rfl (fun _ => r_move (.slice _ _ _) rfl) ?_
      refine D_p rfl rfl rfl (fun _ => r_move (.int _ _) rfl) ?_
      refine D_r rfl rfl rfl (r_idxR (k) sl23 rfl rfl rfl ((R'.mem M2).below_len (mapGet conCells hyb)) ((R'.mem M2).someK (mapGet conCells hyb))) ?_
      refine D_r rfl rfl rfl (r_ldEA _ agg35 (R'.mem M2) (mapGet conCells hyb) rfl) ?_
      refine D_p rfl rfl rfl (fun _ => r_neA (eqCon xb yb) rfl rfl) ?_
      refine D_nil ?_
      refine thenN ?_
      refine W_condD rfl (fun h25 => ?_) (fun h25 => ?_)
      · skip
        refine W_seq ?_
        refine W_region ?_
        refine wl_q (r_assign (.bool false) rfl) rfl rfl ?_
        refine wl_nil ?_
        refine thenN ?_
        refine W_ret ?_
        refine blkR ?_
        refine thenR ?_
        refine roundR ?_
        refine blkR ?_
        refine thenR ?_
        skip
        refine fin1 (.bool false) rfl ?_
        exact ⟨bF (fun e => h25 (by rw [e] at hxb; rw [hxb] at hyb; injection hyb)), M2.below⟩
      · skip
        refine W_skip ?_
        refine blkN ?_
        refine thenN ?_
        refine W_region ?_
        refine wl_q (r_move (.int _ _) rfl) rfl rfl ?_
        refine wl_q (r_add rfl rfl (by omega) (by omega)) rfl rfl ?_
        refine wl_q (r_assign (.int _ _) rfl) rfl rfl ?_
        refine wl_nil ?_
        refine roundN (k + 1) (agC rfl agN) (akC rfl (akC rfl akN)) ?_ ?_
        · exact ⟨⟨by omega, allNext (p := fun j x => ys[j]? = some x) hne hxb (by rw [hyb, Decidable.not_not.1 h25])⟩, M2⟩
        · omega
    · skip
      refine W_exit ?_
      refine thenX ?_
      refine roundX ?_
      refine blkH ?_
      refine thenN ?_
      refine W_seq ?_
      refine W_region ?_
      refine wl_q (r_assign (.bool true) rfl) rfl rfl ?_
      refine wl_nil ?_
      refine thenN ?_
      refine W_ret ?_
      skip
      refine fin1 (.bool true) rfl ?_
      exact ⟨bT (listSame hlen hlen' hnm (fun j x hj hx => hne j x (by omega) hx)), hM1.below⟩

set_option maxHeartbeats 4000000 in
theorem contacts_Deepest (w : World) (A : Option Addr) (n c : Nat) (xs : List Con) (R : Rd w 5 A n (xs.map conCells)) (hn : n ≤ 1099511627776) (hcap : n ≤ c) :
    Calls Tryz.prog 8 #[.slice A n c] w (fun ex w' => ∃ v, ex = .returned v ∧ (fun v w' => v = .tuple #[.agg (conO (deepC xs)).toArray, .bool (decide (xs ≠ []))] ∧ Below w.heap.size w w') v w') := by
  have hlen : xs.length = n := by simpa using R.len
  have hbd := R.bound
  refine calls_of_W #[.cell 2 35, .tmp 3] 29 Tryz.func8 rfl Tryz.results8 Tryz.ntmps8 rfl ?_
  have M0 := Mem.refl w
  refine W_seq ?_
  refine W_region ?_
  refine wl_alloc zero35 M0 rfl rfl (fun b1 w1 M1 => ?_)
  refine wl_q (r_assign (.bool false) rfl) rfl rfl ?_
  refine wl_nil ?_
  refine thenN ?_
  refine W_seq ?_
  refine W_seq ?_
  refine W_region ?_
  refine wl_q (r_move (.slice _ _ _) rfl) rfl rfl ?_
  refine wl_q (r_lenS Tryz.underlying23 rfl) rfl rfl ?_
  refine wl_q (r_bin (.bool (decide _)) rfl rfl rfl) rfl rfl ?_
  refine wl_nil ?_
  refine thenN ?_
  refine W_condD rfl (fun h9 => ?_) (fun h9 => ?_)
  · skip
    refine W_seq ?_
    refine W_region ?_
    refine wl_q (r_build [] _ struct35 rfl rfl) rfl rfl ?_
    refine wl_stW 0 _ agg35 M1 rfl rfl rfl rfl rfl (ones_of rfl) rfl (fun w2 M2 => ?_)
    refine wl_q (r_assign (.bool false) rfl) rfl rfl ?_
    refine wl_nil ?_
    refine thenN ?_
    refine W_ret ?_
    refine thenR ?_
    skip
    refine finC2 (v2 := .bool false) 0 agg35 M2 rfl rfl rfl rfl ?_
    have hnil : xs = [] := List.eq_nil_of_length_eq_zero (by omega)
    subst hnil
    exact ⟨rfl, M2.below⟩
  · skip
    obtain ⟨x0, hx0⟩ := getSome (xs := xs) (k := 0) hlen (by omega)
    refine W_skip ?_
    refine thenN ?_
    refine W_seq ?_
    refine W_region ?_
    refine wl_q (r_move (.slice _ _ _) rfl) rfl rfl ?_
    refine wl_q (r_idxR (0) sl23 rfl rfl rfl ((R.mem M1).below_len (mapGet conCells hx0)) ((R.mem M1).someK (mapGet conCells hx0))) rfl rfl ?_
    refine wl_q (r_ldEA _ agg35 (R.mem M1) (mapGet conCells hx0) rfl) rfl rfl ?_
    refine wl_alloc zero35 M1 rfl rfl (fun b3 w3 M3 => ?_)
    refine wl_stW 1 _ agg35 M3 rfl rfl rfl rfl rfl (ones_of rfl) rfl (fun w4 M4 => ?_)
    refine wl_nil ?_
    refine thenN ?_
    refine W_seq ?_
    refine W_seq ?_
    refine W_region ?_
    refine wl_q (r_move (.slice _ _ _) rfl) rfl rfl ?_
    refine wl_q (r_slice (1) ((n : Int)) sl23 rfl ⟨_, rfl⟩ rfl (by decide) (by omega) (by omega)) rfl rfl ?_
    refine wl_q (r_lenS Tryz.underlying23 rfl) rfl rfl ?_
    refine wl_q (r_move (.int _ _) rfl) rfl rfl ?_
    refine wl_nil ?_
    refine thenN ?_
    refine W_block ?_
    refine W_loop (σ := Nat × Con) [2, 3, 4, 15, 16] (fun (k, b) => [(17, .int .i64 (k : Int))]) (fun (k, b) w' => (k ≤ n - 1 ∧ b = deepG x0 (xs.tail.take k)) ∧ Mem w [] [(some b1, bc [.int .u32 0, .int .u32 0, .int .i32 0, .int .i32 0, .int .i32 0] 35), (some b3, bc (conCells b) 35)] w') (fun (k, b) => n - 1 - k) (0, x0) (agC rfl agN) (⟨⟨by omega, rfl⟩, M4⟩) ?_
    rintro ⟨k, b⟩ ρ5 w5 ⟨⟨hk, hbe⟩, hM5⟩
    refine W_seq ?_
    refine W_region ?_
    refine wl_q (r_bin (.bool (decide _)) rfl rfl rfl) rfl rfl ?_
    refine wl_nil ?_
    refine thenN ?_
    refine W_seq ?_
    refine W_condD rfl (fun h18 => ?_) (fun h18 => ?_)
    · skip
      obtain ⟨xc, hxc⟩ := getSome (xs := xs) (k := k + 1) hlen (by omega)
      refine W_skip ?_
      refine thenN ?_
      refine W_seq ?_
      refine W_block ?_
      refine W_seq ?_
      refine W_region ?_
      refine wl_q (r_idxR (k) sl23 rfl rfl rfl ((Rd.sub (R.mem hM5) 1 n (by omega) (by omega) hcap).below_len (sub_get (f := conCells) hxc (by omega))) ((Rd.sub (R.mem hM5) 1 n (by omega) (by omega) hcap).someK (sub_get (f := conCells) hxc (by omega)))) rfl rfl ?_
      refine wl_q (r_ldEA _ agg35 (Rd.sub (R.mem hM5) 1 n (by omega) (by omega) hcap) (sub_get (f := conCells) hxc (by omega)) rfl) rfl rfl ?_
      refine wl_alloc zero35 hM5 rfl rfl (fun b6 w6 M6 => ?_)
      refine wl_stW 2 _ agg35 M6 rfl rfl rfl rfl rfl (ones_of rfl) rfl (fun w7 M7 => ?_)
      refine wl_nil ?_
      refine thenN ?_
      refine W_seq ?_
      refine W_region ?_
      refine wl_q (r_fieldAddr 4 fld35_2 rfl) rfl rfl ?_
      refine wl_q (r_ld 2 (.int _ _) one21 M7 rfl rfl rfl) rfl rfl ?_
      refine wl_q (r_fieldAddr 4 fld35_2 rfl) rfl rfl ?_
      refine wl_q (r_ld 1 (.int _ _) one21 M7 rfl rfl rfl) rfl rfl ?_
      refine wl_q (r_bin (.bool (decide _)) rfl rfl rfl) rfl rfl ?_
      refine wl_nil ?_
      refine thenN ?_
      refine W_condD rfl (fun h25 => ?_) (fun h25 => ?_)
      · skip
        refine W_region ?_
        refine wl_q (r_ldW 2 agg35 M7 rfl rfl rfl) rfl rfl ?_
        refine wl_stW 1 _ agg35 M7 rfl rfl rfl rfl rfl (ones_of rfl) rfl (fun w8 M8 => ?_)
        refine wl_nil ?_
        refine blkN ?_
        refine thenN ?_
        refine W_region ?_
        refine wl_q (r_add rfl rfl (by omega) (by omega)) rfl rfl ?_
        refine wl_q (r_move (.int _ _) rfl) rfl rfl ?_
        refine wl_nil ?_
        refine roundN (k + 1, xc) (agC rfl agN) (akC rfl (akC rfl (akC rfl (akC rfl (akC rfl akN))))) ?_ ?_
        · exact ⟨⟨by omega, by rw [take_snoc (tail_get hxc), deepG_snoc, ← hbe, if_pos h25]⟩, M8.keep [true, true, false]⟩
        · (show n - 1 - (k + 1) < n - 1 - k; omega)
      · skip
        refine W_skip ?_
        refine blkN ?_
        refine thenN ?_
        refine W_region ?_
        refine wl_q (r_add rfl rfl (by omega) (by omega)) rfl rfl ?_
        refine wl_q (r_move (.int _ _) rfl) rfl rfl ?_
        refine wl_nil ?_
        refine roundN (k + 1, b) (agC rfl agN) (akC rfl (akC rfl (akC rfl (akC rfl (akC rfl akN))))) ?_ ?_
        · exact ⟨⟨by omega, by rw [take_snoc (tail_get hxc), deepG_snoc, ← hbe, if_neg h25]⟩, M7.keep [true, true, false]⟩
        · (show n - 1 - (k + 1) < n - 1 - k; omega)
    · skip
      refine W_exit ?_
      refine thenX ?_
      refine roundX ?_
      refine blkH ?_
      refine thenN ?_
      refine W_seq ?_
      refine W_region ?_
      refine wl_q (r_ldW 1 agg35 hM5 rfl rfl rfl) rfl rfl ?_
      refine wl_stW 0 _ agg35 hM5 rfl rfl rfl rfl rfl (ones_of rfl) rfl (fun w9 M9 => ?_)
      refine wl_q (r_assign (.bool true) rfl) rfl rfl ?_
      refine wl_nil ?_
      refine thenN ?_
      refine W_ret ?_
      skip
      refine finC2 (v2 := .bool true) 0 agg35 M9 rfl rfl rfl rfl ?_
      have hkn : k = n - 1 := by omega
      rw [List.take_of_length_le (by rw [List.length_tail]; omega)] at hbe
      have hnn : xs ≠ [] := fun h => by rw [h] at hx0; cases hx0
      exact ⟨by rw [deepC_at hx0, ← hbe]; exact tupE rfl (bT hnn), M9.below⟩

theorem aw15_0 : ∀ b ∈ ([⟨1, 65536, 0, 0, 0, 0, 0, 0, 0, 0⟩, ⟨4, 65536, 0, 0, 0, 0, 0, 0, 0, 0⟩, ⟨9, 65537, 0, 0, 0, 0, 0, 0, 0, 0⟩] : List Body), Okb b := fun b hb => check_ok ((by decide : ∀ b ∈ ([⟨1, 65536, 0, 0, 0, 0, 0, 0, 0, 0⟩, ⟨4, 65536, 0, 0, 0, 0, 0, 0, 0, 0⟩, ⟨9, 65537, 0, 0, 0, 0, 0, 0, 0, 0⟩] : List Body), check b = 0) b hb)
theorem aw15_1 : findP [⟨1, 65536, 0, 0, 0, 0, 0, 0, 0, 0⟩, ⟨4, 65536, 0, 0, 0, 0, 0, 0, 0, 0⟩, ⟨9, 65537, 0, 0, 0, 0, 0, 0, 0, 0⟩] = [(1, 4), (1, 9), (4, 9)] := by decide
theorem aw15_2 : allC [⟨1, 65536, 0, 0, 0, 0, 0, 0, 0, 0⟩, ⟨4, 65536, 0, 0, 0, 0, 0, 0, 0, 0⟩, ⟨9, 65537, 0, 0, 0, 0, 0, 0, 0, 0⟩] = [⟨1, 4, 65536, 0, 131072⟩, ⟨1, 9, 65536, 0, 131073⟩, ⟨4, 9, 65536, 0, 131073⟩] := by decide
theorem aw15_3 : deepC [⟨1, 4, 65536, 0, 131072⟩, ⟨1, 9, 65536, 0, 131073⟩, ⟨4, 9, 65536, 0, 131073⟩] = some ⟨1, 9, 65536, 0, 131073⟩ := by decide
theorem aw15_4 : withC 9 [⟨1, 4, 65536, 0, 131072⟩, ⟨1, 9, 65536, 0, 131073⟩, ⟨4, 9, 65536, 0, 131073⟩] = [⟨1, 9, 65536, 0, 131073⟩, ⟨4, 9, 65536, 0, 131073⟩] := by decide

set_option maxHeartbeats 16000000 in
theorem aw15 (w : World) (F : Rd w 2 (some ⟨0, 0, none⟩) 1 [[.int .u32 73856093, .int .u32 19349663]]) (N : Rd w 4 (some ⟨1, 0, none⟩) 1 [bxCells noneB]) :
    Calls Tryz.prog 6 #[] w (fun ex w' => ∃ v, ex = .returned v ∧ (fun v w' => v = .bool true ∧ Below w.heap.size w w') v w') := by
  refine calls_of_W #[.tmp 0] 60 Tryz.func6 rfl Tryz.results6 Tryz.ntmps6 rfl ?_
  have M0 := Mem.refl w
  refine W_seq ?_
  refine W_region ?_
  refine wl_q (r_assign (.bool false) rfl) rfl rfl ?_
  refine wl_nil ?_
  refine thenN ?_
  refine W_seq ?_
  refine W_region ?_
  refine wl_q (r_build [(0, .int _ _), (1, .int _ _)] _ struct46 rfl rfl) rfl rfl ?_
  refine wl_q (r_build [(0, .int _ _), (1, .int _ _)] _ struct46 rfl rfl) rfl rfl ?_
  refine wl_q (r_build [(0, .int _ _), (1, .int _ _)] _ struct46 rfl rfl) rfl rfl ?_
  refine wl_bslice [.agg (List.toArray _), .agg (List.toArray _), .agg (List.toArray _)] [bodyCells ⟨1, 65536, 0, 0, 0, 0, 0, 0, 0, 0⟩, bodyCells ⟨4, 65536, 0, 0, 0, 0, 0, 0, 0, 0⟩, bodyCells ⟨9, 65537, 0, 0, 0, 0, 0, 0, 0, 0⟩] rfl sl22 M0 rfl rfl rfl rfl (lens_of rfl) (by decide) (fun b1 w1 M1 => ?_)
  have hlit11 := rowLit (T := 46) (b := b1) ([⟨1, 65536, 0, 0, 0, 0, 0, 0, 0, 0⟩, ⟨4, 65536, 0, 0, 0, 0, 0, 0, 0, 0⟩, ⟨9, 65537, 0, 0, 0, 0, 0, 0, 0, 0⟩].map bodyCells) (bodies_len _) rfl (by decide)
  refine wl_q (r_assign (.slice _ _ _) rfl) rfl rfl ?_
  refine wl_nil ?_
  refine thenN ?_
  refine W_seq ?_
  refine W_region ?_
  refine wl_q (r_move (.slice _ _ _) rfl) rfl rfl ?_
  refine wl_cal cal7 rfl rfl rfl ?_
  refine (contacts_All _ (F.mem M1) (N.mem M1) _ _ _ [⟨1, 65536, 0, 0, 0, 0, 0, 0, 0, 0⟩, ⟨4, 65536, 0, 0, 0, 0, 0, 0, 0, 0⟩, ⟨9, 65537, 0, 0, 0, 0, 0, 0, 0, 0⟩] (hlit11.rd M1 (nthMem (i := 0) rfl)) aw15_0 (adjB_sorted (by decide)) (by first | decide | omega)).mono ?_
  rintro _ w2 ⟨v2, rfl, ⟨r0, m0, rfl, hfm0, hgm0, hr0, hM2⟩⟩
  refine ⟨_, rfl, ?_⟩
  have M2 : Mem _ _ [_, _] _ := M1.call0 hM2
  rw [aw15_1] at hfm0
  rw [aw15_2] at hr0
  have hm3 : 3 ≤ m0 := hfm0
  have hm6 : 2 * m0 ≤ 6 := hgm0
  have hn3 : 3 = r0.n := by simpa using hr0.1
  have hc0 := hr0.slice
  refine wl_q (r_move (.tuple (List.toArray _)) rfl) rfl rfl ?_
  refine wl_q (r_ext (.slice _ _ _) rfl rfl) rfl rfl ?_
  refine wl_q (r_ext (.int _ _) rfl rfl) rfl rfl ?_
  refine wl_q (r_assign (.slice _ _ _) rfl) rfl rfl ?_
  refine wl_q (r_assign (.int _ _) rfl) rfl rfl ?_
  refine wl_nil ?_
  refine thenN ?_
  refine W_seq ?_
  refine W_seq ?_
  refine W_region ?_
  refine wl_q (r_move (.slice _ _ _) rfl) rfl rfl ?_
  refine wl_q (r_lenS Tryz.underlying23 rfl) rfl rfl ?_
  refine wl_q (r_bin (.bool (decide _)) rfl rfl rfl) rfl rfl ?_
  refine wl_re 19 (.bool false) (bF (by omega)).symm ?_
  refine wl_nil ?_
  refine thenN ?_
  refine W_condF rfl ?_
  refine W_skip ?_
  refine thenN ?_
  refine W_seq ?_
  refine W_region ?_
  refine wl_q (r_move (.slice _ _ _) rfl) rfl rfl ?_
  refine wl_cal cal8 rfl rfl rfl ?_
  refine (contacts_Deepest _ _ _ _ [⟨1, 4, 65536, 0, 131072⟩, ⟨1, 9, 65536, 0, 131073⟩, ⟨4, 9, 65536, 0, 131073⟩] (hr0.rd M2 (nthMem (i := 1) rfl)) (by omega) hc0).mono ?_
  rintro _ w3 ⟨v3, rfl, ⟨rfl, hb3⟩⟩
  refine ⟨_, rfl, ?_⟩
  have M3 := M2.callB hb3
  refine wl_q (r_move (.tuple (List.toArray _)) rfl) rfl rfl ?_
  refine wl_q (r_ext (.agg (List.toArray _)) rfl rfl) rfl rfl ?_
  refine wl_re 23 (.agg (conCells ⟨1, 9, 65536, 0, 131073⟩).toArray) (congrArg (fun o => Value.agg (conO o).toArray) aw15_3) ?_
  refine wl_q (r_ext (.bool (decide _)) rfl rfl) rfl rfl ?_
  refine wl_re 24 (.bool true) (bT (by decide)).symm ?_
  refine wl_alloc zero35 M3 rfl rfl (fun b4 w4 M4 => ?_)
  refine wl_stW 2 _ agg35 M4 rfl rfl rfl rfl rfl (ones_of rfl) rfl (fun w5 M5 => ?_)
  refine wl_q (r_assign (.bool true) rfl) rfl rfl ?_
  refine wl_nil ?_
  refine thenN ?_
  refine W_seq ?_
  refine W_region ?_
  refine wl_cal cal8 rfl rfl rfl ?_
  refine (contacts_Deepest _ none 0 0 [] (Rd.nil _ _ _) (by decide) (by decide)).mono ?_
  rintro _ w6 ⟨v6, rfl, ⟨rfl, hb6⟩⟩
  refine ⟨_, rfl, ?_⟩
  have M6 := M5.callB hb6
  refine wl_q (r_move (.tuple (List.toArray _)) rfl) rfl rfl ?_
  refine wl_q (r_ext (.agg (List.toArray _)) rfl rfl) rfl rfl ?_
  refine wl_q (r_ext (.bool (decide _)) rfl rfl) rfl rfl ?_
  refine wl_re 28 (.bool false) (bF (fun h => h rfl)).symm ?_
  refine wl_alloc zero35 M6 rfl rfl (fun b7 w7 M7 => ?_)
  refine wl_stW 3 _ agg35 M7 rfl rfl rfl rfl rfl (ones_of rfl) rfl (fun w8 M8 => ?_)
  refine wl_q (r_assign (.bool false) rfl) rfl rfl ?_
  refine wl_nil ?_
  refine thenN ?_
  refine W_seq ?_
  refine W_draw [(0, 0), (1, 1), (2, 1), (3, 0), (4, 0), (5, 0), (6, 0), (7, 0), (8, 0), (9, 0), (10, 0), (11, 0), (12, 1), (13, 0), (14, 1), (15, 1), (16, 0), (17, 0), (18, 0), (19, 0), (20, 0), (21, 0), (22, 0), (23, 0), (24, 0), (25, 0), (26, 0), (27, 2), (28, 0), (29, 0), (30, 0), (31, 0)] mixed rfl (by kernel_rfl) (fun w9 hb9 hh9 => ?_)
  have M9 := M8.drew hb9 hh9
  refine D_p rfl rfl rfl (fun _ => r_move (.slice _ _ _) rfl) ?_
  refine D_r rfl rfl rfl (r_idxR (0) sl23 rfl rfl rfl ((hr0.rd M9 (nthMem (i := 1) rfl)).below_len (mapGet conCells (show ([⟨1, 4, 65536, 0, 131072⟩, ⟨1, 9, 65536, 0, 131073⟩, ⟨4, 9, 65536, 0, 131073⟩] : List Con)[0]? = some ⟨1, 4, 65536, 0, 131072⟩ from rfl))) ((hr0.rd M9 (nthMem (i := 1) rfl)).someK (mapGet conCells (show ([⟨1, 4, 65536, 0, 131072⟩, ⟨1, 9, 65536, 0, 131073⟩, ⟨4, 9, 65536, 0, 131073⟩] : List Con)[0]? = some ⟨1, 4, 65536, 0, 131072⟩ from rfl)))) ?_
  refine D_r rfl rfl rfl (r_ldEA _ agg35 (hr0.rd M9 (nthMem (i := 1) rfl)) (mapGet conCells (show ([⟨1, 4, 65536, 0, 131072⟩, ⟨1, 9, 65536, 0, 131073⟩, ⟨4, 9, 65536, 0, 131073⟩] : List Con)[0]? = some ⟨1, 4, 65536, 0, 131072⟩ from rfl)) rfl) ?_
  refine D_p rfl rfl rfl (fun _ => r_build [(0, .int _ _), (1, .int _ _)] _ struct31 rfl rfl) ?_
  refine D_p rfl rfl rfl (fun _ => r_build [(0, .int _ _)] _ struct33 rfl rfl) ?_
  refine D_p rfl rfl rfl (fun _ => r_build [(0, .agg (List.toArray _)), (1, .agg (List.toArray _)), (2, .int _ _)] _ struct35 rfl rfl) ?_
  refine D_p rfl rfl rfl (fun _ => r_eqA (eqCon ⟨1, 4, 65536, 0, 131072⟩ ⟨1, 4, 65536, 0, 131072⟩) rfl rfl) ?_
  refine D_re 35 (.bool true) (bT rfl).symm ?_
  refine D_p rfl rfl rfl (fun _ => r_move (.bool true) rfl) ?_
  refine D_p rfl rfl rfl (fun _ => r_move (.int _ _) rfl) ?_
  refine D_p rfl rfl rfl (fun _ => r_bin (.bool (decide _)) rfl rfl rfl) ?_
  refine D_re 38 (.bool true) (bT (by omega)).symm ?_
  refine D_p rfl rfl rfl (fun _ => r_pick true (.bool true) rfl rfl) ?_
  refine D_p rfl rfl rfl (fun _ => r_move (.bool true) rfl) ?_
  refine D_r rfl rfl rfl (r_ldW 2 agg35 M9 rfl rfl rfl) ?_
  refine D_p rfl rfl rfl (fun _ => r_move (.slice _ _ _) rfl) ?_
  refine D_r rfl rfl rfl (r_idxR (1) sl23 rfl rfl rfl ((hr0.rd M9 (nthMem (i := 1) rfl)).below_len (mapGet conCells (show ([⟨1, 4, 65536, 0, 131072⟩, ⟨1, 9, 65536, 0, 131073⟩, ⟨4, 9, 65536, 0, 131073⟩] : List Con)[1]? = some ⟨1, 9, 65536, 0, 131073⟩ from rfl))) ((hr0.rd M9 (nthMem (i := 1) rfl)).someK (mapGet conCells (show ([⟨1, 4, 65536, 0, 131072⟩, ⟨1, 9, 65536, 0, 131073⟩, ⟨4, 9, 65536, 0, 131073⟩] : List Con)[1]? = some ⟨1, 9, 65536, 0, 131073⟩ from rfl)))) ?_
  refine D_r rfl rfl rfl (r_ldEA _ agg35 (hr0.rd M9 (nthMem (i := 1) rfl)) (mapGet conCells (show ([⟨1, 4, 65536, 0, 131072⟩, ⟨1, 9, 65536, 0, 131073⟩, ⟨4, 9, 65536, 0, 131073⟩] : List Con)[1]? = some ⟨1, 9, 65536, 0, 131073⟩ from rfl)) rfl) ?_
  refine D_p rfl rfl rfl (fun _ => r_eqA (eqCon ⟨1, 9, 65536, 0, 131073⟩ ⟨1, 9, 65536, 0, 131073⟩) rfl rfl) ?_
  refine D_re 45 (.bool true) (bT rfl).symm ?_
  refine D_p rfl rfl rfl (fun _ => r_pick true (.bool true) rfl rfl) ?_
  refine D_p rfl rfl rfl (fun _ => r_move (.bool true) rfl) ?_
  refine D_p rfl rfl rfl (fun _ => r_move (.bool true) rfl) ?_
  refine D_p rfl rfl rfl (fun _ => r_pick true (.bool true) rfl rfl) ?_
  refine D_p rfl rfl rfl (fun _ => r_move (.bool true) rfl) ?_
  refine D_p rfl rfl rfl (fun _ => r_move (.bool false) rfl) ?_
  refine D_p rfl rfl rfl (fun _ => r_notB true rfl rfl) ?_
  refine D_p rfl rfl rfl (fun _ => r_pick true (.bool true) rfl rfl) ?_
  refine D_p rfl rfl rfl (fun _ => r_move (.bool true) rfl) ?_
  refine D_p rfl rfl rfl (fun _ => r_move (.slice _ _ _) rfl) ?_
  refine D_e [true, true, true, true, true] rfl (by kernel_rfl) ?_
  refine wl_cal cal11 rfl rfl rfl ?_
  refine (contacts_With _ 9 _ _ _ [⟨1, 4, 65536, 0, 131072⟩, ⟨1, 9, 65536, 0, 131073⟩, ⟨4, 9, 65536, 0, 131073⟩] (hr0.rd M9 (nthMem (i := 1) rfl)) (by first | decide | omega)).mono ?_
  rintro _ w10 ⟨v10, rfl, ⟨r1, rfl, hr1, hM10⟩⟩
  refine ⟨_, rfl, ?_⟩
  have M10 : Mem _ _ [_, _, _, _, _] _ := M9.call0 hM10
  rw [aw15_4] at hr1
  have hn2 : 2 = r1.n := by simpa using hr1.1
  refine wl_nil (thenN ⟨alN, ?_⟩)
  refine D_p rfl rfl rfl (fun _ => r_lenS Tryz.underlying23 rfl) ?_
  refine D_p rfl rfl rfl (fun _ => r_bin (.bool (decide _)) rfl rfl rfl) ?_
  refine D_re 58 (.bool true) (bT (by omega)).symm ?_
  refine D_p rfl rfl rfl (fun _ => r_pick true (.bool true) rfl rfl) ?_
  refine D_p rfl rfl rfl (fun _ => r_assign (.bool true) rfl) ?_
  refine D_nil ?_
  refine thenN ?_
  refine W_ret ?_
  skip
  refine fin1 (.bool true) rfl ?_
  exact ⟨rfl, M10.below⟩

end Go.Proofs.YtkegiinlfmlhlaaGreatDoor

/- Walks of Go functions over the frame of this claim: what each computes, for every input of the stated types (Z5). -/
set_option linter.unusedVariables false
set_option linter.unusedSimpArgs false
set_option linter.unnecessarySimpa false
namespace Go.Proofs.YtkegiinlfmlhlaaGreatDoor
open Go.Bil
open Go.RowKit (Below)
open Go.Proofs

set_option maxHeartbeats 8000000 in
theorem ref15_All (w : World) (A : Option Addr) (n c : Nat) (xs : List Body) (R : Rd w 10 A n (xs.map bodyCells)) (hb : ∀ b ∈ xs, Okb b) (hs : Sorted xs) (hn : n ≤ 65536) :
    Calls Tryz.prog 10 #[.slice A n c] w (fun ex w' => ∃ v, ex = .returned v ∧ (fun v w' => ∃ r : Row, v = .slice r.A r.n r.c ∧ RowIs 35 5 r.A r.n r.c ((allC xs).map conCells) r.e ∧ Mem w [] [r.e] w') v w') := by
  have hlen : xs.length = n := by simpa using R.len
  have hbd := R.bound
  refine calls_of_W #[.tmp 2] 40 Tryz.func10 rfl Tryz.results10 Tryz.ntmps10 rfl ?_
  have M0 := Mem.refl w
  refine W_seq ?_
  refine W_region ?_
  refine wl_q (r_assign (.slice _ _ _) rfl) rfl rfl ?_
  refine wl_nil ?_
  refine thenN ?_
  refine W_seq ?_
  refine W_region ?_
  refine wl_q (r_assign (.slice _ _ _) rfl) rfl rfl ?_
  have M1 := M0.dummy default
  refine wl_nil ?_
  refine thenN ?_
  refine W_seq ?_
  refine W_seq ?_
  refine W_region ?_
  refine wl_q (r_assign (.int _ _) rfl) rfl rfl ?_
  refine wl_nil ?_
  refine thenN ?_
  refine W_block ?_
  refine W_loop (σ := Nat × Row) [0, 2] (fun (i, r) => [(3, .slice r.A r.n r.c), (4, .int .i64 (i : Int))]) (fun (i, r) w' => (i ≤ n ∧ RowIs 35 5 r.A r.n r.c ((allK xs i).map conCells) r.e) ∧ Mem w [] [r.e] w') (fun (i, r) => n - i) (0, nilRow) (agC rfl (agC rfl agN)) (⟨⟨by omega, RowIs.nil _ _ _⟩, M1⟩) ?_
  rintro ⟨i, r⟩ ρ2 w2 ⟨⟨hi, hr⟩, hM2⟩
  refine W_seq ?_
  refine W_seq ?_
  refine W_region ?_
  refine wl_q (r_move (.int _ _) rfl) rfl rfl ?_
  refine wl_q (r_move (.slice _ _ _) rfl) rfl rfl ?_
  refine wl_q (r_lenS Tryz.underlying22 rfl) rfl rfl ?_
  refine wl_q (r_bin (.bool (decide _)) rfl rfl rfl) rfl rfl ?_
  refine wl_nil ?_
  refine thenN ?_
  refine W_condD rfl (fun h11 => ?_) (fun h11 => ?_)
  · skip
    obtain ⟨xa, hxa⟩ := getSome (k := i) hlen (by omega)
    refine W_skip ?_
    refine thenN ?_
    refine W_seq ?_
    refine W_block ?_
    refine W_seq ?_
    refine W_region ?_
    refine wl_q (r_move (.int _ _) rfl) rfl rfl ?_
    refine wl_q (r_add rfl rfl (by omega) (by omega)) rfl rfl ?_
    refine wl_q (r_assign (.int _ _) rfl) rfl rfl ?_
    refine wl_nil ?_
    refine thenN ?_
    refine W_block ?_
    refine W_loop (σ := Nat × Row) [0, 2, 4] (fun (k, q) => [(3, .slice q.A q.n q.c), (5, .int .i64 (k : Int))]) (fun (k, q) w' => (i + 1 ≤ k ∧ k ≤ n ∧ RowIs 35 5 q.A q.n q.c ((allK xs i ++ rowQ xs i k).map conCells) q.e) ∧ Mem w [] [q.e] w') (fun (k, q) => n - k) (i + 1, r) (agC rfl (agC rfl agN)) (⟨⟨by omega, by omega, by rw [rowQ_start, List.append_nil]; exact hr⟩, hM2⟩) ?_
    rintro ⟨k, q⟩ ρ3 w3 ⟨⟨hik, hk, hq⟩, hM3⟩
    have hfl := allK_len xs i
    have hfm : i * xs.length ≤ 65536 * 65536 := Nat.mul_le_mul (by omega) (by omega)
    have hrw := rowQ_len xs i k
    have hql : (allK xs i ++ rowQ xs i k).length = q.n := by simpa using hq.1
    rw [List.length_append] at hql
    refine W_seq ?_
    refine W_seq ?_
    refine W_region ?_
    refine wl_q (r_move (.int _ _) rfl) rfl rfl ?_
    refine wl_q (r_move (.slice _ _ _) rfl) rfl rfl ?_
    refine wl_q (r_lenS Tryz.underlying22 rfl) rfl rfl ?_
    refine wl_q (r_bin (.bool (decide _)) rfl rfl rfl) rfl rfl ?_
    refine wl_nil ?_
    refine thenN ?_
    refine W_condD rfl (fun h19 => ?_) (fun h19 => ?_)
    · skip
      obtain ⟨xb, hxb⟩ := getSome (k := k) hlen (by omega)
      refine W_skip ?_
      refine thenN ?_
      refine W_seq ?_
      refine W_block ?_
      refine W_seq ?_
      refine W_fork [(0, 0), (1, 0), (2, 1), (3, 1), (4, 0), (5, 0), (6, 1), (7, 1)] 8 12 [(9, 0), (10, 0), (11, 0), (12, 2), (13, 2), (14, 0)] [(8, 2), (9, 0), (10, 0), (11, 0), (13, 2), (14, 0)] mixed rfl (by kernel_rfl) (fun w4 hb4 hh4 => ?_)
      have M4 := hM3.drew hb4 hh4
      refine DK_p rfl rfl rfl (fun _ => r_move (.slice _ _ _) rfl) ?_
      refine DK_p rfl rfl rfl (fun _ => r_move (.int _ _) rfl) ?_
      refine DK_r rfl rfl rfl (r_idxR (i) sl22 rfl rfl rfl ((R.mem M4).below_len (mapGet bodyCells hxa)) ((R.mem M4).someK (mapGet bodyCells hxa))) ?_
      refine DK_r rfl rfl rfl (r_ldEA _ agg46 (R.mem M4) (mapGet bodyCells hxa) rfl) ?_
      refine DK_p rfl rfl rfl (fun _ => r_move (.slice _ _ _) rfl) ?_
      refine DK_p rfl rfl rfl (fun _ => r_move (.int _ _) rfl) ?_
      refine DK_r rfl rfl rfl (r_idxR (k) sl22 rfl rfl rfl ((R.mem M4).below_len (mapGet bodyCells hxb)) ((R.mem M4).someK (mapGet bodyCells hxb))) ?_
      refine DK_r rfl rfl rfl (r_ldEA _ agg46 (R.mem M4) (mapGet bodyCells hxb) rfl) ?_
      refine DK_fork ?_ ?_
      · skip
        refine D_e [true, true, true, true] rfl (by kernel_rfl) ?_
        refine wl_cal cal15 rfl rfl rfl ?_
        refine (ref14_Of _ xa xb (hb xa (List.mem_of_getElem? hxa)) (hb xb (List.mem_of_getElem? hxb))).mono ?_
        rintro _ w5 ⟨v5, rfl, ⟨rfl, hb5⟩⟩
        refine ⟨_, rfl, ?_⟩
        have M5 := M4.callB hb5
        refine wl_nil (thenN ⟨alN, ?_⟩)
        refine D_p rfl rfl rfl (fun _ => r_move (.tuple (List.toArray _)) rfl) ?_
        refine D_p rfl rfl rfl (fun _ => r_ext (.agg (List.toArray _)) rfl rfl) ?_
        refine D_p rfl rfl rfl (fun _ => r_ext (.bool _) rfl rfl) ?_
        refine D_e [] rfl (by kernel_rfl) ?_
        refine wl_alloc zero35 M5 rfl rfl (fun b6 w6 M6 => ?_)
        refine wl_nil (thenN ⟨alN, ?_⟩)
        refine D_e [] rfl (by kernel_rfl) ?_
        refine wl_stW 1 _ agg35 M6 rfl rfl rfl rfl rfl (ones_of rfl) rfl (fun w7 M7 => ?_)
        refine wl_nil (thenN ⟨alN, ?_⟩)
        refine D_p rfl rfl rfl (fun _ => r_assign (.bool _) rfl) ?_
        refine D_nil ?_
        refine thenN ?_
        refine W_seq ?_
        refine W_region ?_
        refine wl_q (r_move (.bool _) rfl) rfl rfl ?_
        refine wl_nil ?_
        refine thenN ?_
        refine W_cond _ rfl (fun h34 => ?_) (fun h34 => ?_)
        · skip
          obtain ⟨cc, hcc⟩ := Option.isSome_iff_exists.1 h34
          refine W_region ?_
          refine wl_q (r_move (.slice _ _ _) rfl) rfl rfl ?_
          refine wl_q (r_ldW 1 agg35 M7 rfl rfl rfl) rfl rfl ?_
          refine wl_re 36 (.agg (conCells cc).toArray) (congrArg (fun o => Value.agg (conO o).toArray) hcc) ?_
          refine wl_bslice [.agg (List.toArray _)] [conCells cc] rfl sl23 M7 rfl rfl rfl rfl (lens_of rfl) (by decide) (fun b8 w8 M8 => ?_)
          refine wl_append 0 [conCells cc] sl23 M8 rfl rfl rfl rfl rfl hq rfl (by simp [conCells, Go.Bil.one]) (Cells.ofMem 2 M8 rfl) (by omega) (fun A9 c9 e9 w9 M9 hR9 => ?_)
          refine wl_q (r_assign (.slice _ _ _) rfl) rfl rfl ?_
          refine wl_nil ?_
          refine blkN ?_
          refine thenN ?_
          refine W_region ?_
          refine wl_q (r_move (.int _ _) rfl) rfl rfl ?_
          refine wl_q (r_add rfl rfl (by omega) (by omega)) rfl rfl ?_
          refine wl_q (r_assign (.int _ _) rfl) rfl rfl ?_
          refine wl_nil ?_
          refine roundN (k + 1, ⟨A9, q.n + 1, c9, e9⟩) (agC rfl (agC rfl agN)) (akC rfl (akC rfl (akC rfl akN))) ?_ ?_
          · exact ⟨⟨by omega, by omega, by rw [rowQ_snoc hs hb hxa hxb (by omega), hcc, ← List.append_assoc, List.map_append]; exact hR9⟩, M9.keep [true, false, false]⟩
          · (show n - (k + 1) < n - k; omega)
        · skip
          have hcc : conOf xa xb = none := by simpa using h34
          refine W_skip ?_
          refine blkN ?_
          refine thenN ?_
          refine W_region ?_
          refine wl_q (r_move (.int _ _) rfl) rfl rfl ?_
          refine wl_q (r_add rfl rfl (by omega) (by omega)) rfl rfl ?_
          refine wl_q (r_assign (.int _ _) rfl) rfl rfl ?_
          refine wl_nil ?_
          refine roundN (k + 1, q) (agC rfl (agC rfl agN)) (akC rfl (akC rfl (akC rfl akN))) ?_ ?_
          · exact ⟨⟨by omega, by omega, by rw [rowQ_snoc hs hb hxa hxb (by omega), hcc, ← List.append_assoc]; simpa using hq⟩, M7.keep [true, false]⟩
          · (show n - (k + 1) < n - k; omega)
      · skip
        refine D_e [false, false, false, false] rfl (by kernel_rfl) ?_
        refine wl_alloc zero35 M4 rfl rfl (fun b10 w10 M10 => ?_)
        refine wl_nil (thenN ⟨(alC (Yl_of rfl (r_ldEA _ agg46 (R.mem M10) (mapGet bodyCells hxb) rfl)) (alC (Yl_of rfl (r_idxR (k) sl22 rfl rfl rfl ((R.mem M10).below_len (mapGet bodyCells hxb)) ((R.mem M10).someK (mapGet bodyCells hxb)))) (alC (Yl_of rfl (r_ldEA _ agg46 (R.mem M10) (mapGet bodyCells hxa) rfl)) (alC (Yl_of rfl (r_idxR (i) sl22 rfl rfl rfl ((R.mem M10).below_len (mapGet bodyCells hxa)) ((R.mem M10).someK (mapGet bodyCells hxa)))) alN)))), ?_⟩)
        refine D_e [true, true, true, true] rfl (by kernel_rfl) ?_
        refine wl_cal cal15 rfl rfl rfl ?_
        refine (ref14_Of _ xa xb (hb xa (List.mem_of_getElem? hxa)) (hb xb (List.mem_of_getElem? hxb))).mono ?_
        rintro _ w11 ⟨v11, rfl, ⟨rfl, hb11⟩⟩
        refine ⟨_, rfl, ?_⟩
        have M11 := M10.callB hb11
        refine wl_nil (thenN ⟨alN, ?_⟩)
        refine D_p rfl rfl rfl (fun _ => r_move (.tuple (List.toArray _)) rfl) ?_
        refine D_p rfl rfl rfl (fun _ => r_ext (.agg (List.toArray _)) rfl rfl) ?_
        refine D_p rfl rfl rfl (fun _ => r_ext (.bool _) rfl rfl) ?_
        refine D_e [] rfl (by kernel_rfl) ?_
        refine wl_stW 1 _ agg35 M11 rfl rfl rfl rfl rfl (ones_of rfl) rfl (fun w12 M12 => ?_)
        refine wl_nil (thenN ⟨alN, ?_⟩)
        refine D_p rfl rfl rfl (fun _ => r_assign (.bool _) rfl) ?_
        refine D_nil ?_
        refine thenN ?_
        refine W_seq ?_
        refine W_region ?_
        refine wl_q (r_move (.bool _) rfl) rfl rfl ?_
        refine wl_nil ?_
        refine thenN ?_
        refine W_cond _ rfl (fun h34 => ?_) (fun h34 => ?_)
        · skip
          obtain ⟨cc, hcc⟩ := Option.isSome_iff_exists.1 h34
          refine W_region ?_
          refine wl_q (r_move (.slice _ _ _) rfl) rfl rfl ?_
          refine wl_q (r_ldW 1 agg35 M12 rfl rfl rfl) rfl rfl ?_
          refine wl_re 36 (.agg (conCells cc).toArray) (congrArg (fun o => Value.agg (conO o).toArray) hcc) ?_
          refine wl_bslice [.agg (List.toArray _)] [conCells cc] rfl sl23 M12 rfl rfl rfl rfl (lens_of rfl) (by decide) (fun b13 w13 M13 => ?_)
          refine wl_append 0 [conCells cc] sl23 M13 rfl rfl rfl rfl rfl hq rfl (by simp [conCells, Go.Bil.one]) (Cells.ofMem 2 M13 rfl) (by omega) (fun A14 c14 e14 w14 M14 hR14 => ?_)
          refine wl_q (r_assign (.slice _ _ _) rfl) rfl rfl ?_
          refine wl_nil ?_
          refine blkN ?_
          refine thenN ?_
          refine W_region ?_
          refine wl_q (r_move (.int _ _) rfl) rfl rfl ?_
          refine wl_q (r_add rfl rfl (by omega) (by omega)) rfl rfl ?_
          refine wl_q (r_assign (.int _ _) rfl) rfl rfl ?_
          refine wl_nil ?_
          refine roundN (k + 1, ⟨A14, q.n + 1, c14, e14⟩) (agC rfl (agC rfl agN)) (akC rfl (akC rfl (akC rfl akN))) ?_ ?_
          · exact ⟨⟨by omega, by omega, by rw [rowQ_snoc hs hb hxa hxb (by omega), hcc, ← List.append_assoc, List.map_append]; exact hR14⟩, M14.keep [true, false, false]⟩
          · (show n - (k + 1) < n - k; omega)
        · skip
          have hcc : conOf xa xb = none := by simpa using h34
          refine W_skip ?_
          refine blkN ?_
          refine thenN ?_
          refine W_region ?_
          refine wl_q (r_move (.int _ _) rfl) rfl rfl ?_
          refine wl_q (r_add rfl rfl (by omega) (by omega)) rfl rfl ?_
          refine wl_q (r_assign (.int _ _) rfl) rfl rfl ?_
          refine wl_nil ?_
          refine roundN (k + 1, q) (agC rfl (agC rfl agN)) (akC rfl (akC rfl (akC rfl akN))) ?_ ?_
          · exact ⟨⟨by omega, by omega, by rw [rowQ_snoc hs hb hxa hxb (by omega), hcc, ← List.append_assoc]; simpa using hq⟩, M12.keep [true, false]⟩
          · (show n - (k + 1) < n - k; omega)
    · skip
      have hkn : k = n := by omega
      refine W_exit ?_
      refine thenX ?_
      refine roundX ?_
      refine blkH ?_
      refine blkN ?_
      refine thenN ?_
      refine W_region ?_
      refine wl_q (r_move (.int _ _) rfl) rfl rfl ?_
      refine wl_q (r_add rfl rfl (by omega) (by omega)) rfl rfl ?_
      refine wl_q (r_assign (.int _ _) rfl) rfl rfl ?_
      refine wl_nil ?_
      refine roundN (i + 1, q) (agC rfl (agC rfl agN)) (akC rfl (akC rfl akN)) ?_ ?_
      · exact ⟨⟨by omega, by rw [allK_succ, hlen, ← hkn]; exact hq⟩, hM3⟩
      · (show n - (i + 1) < n - i; omega)
  · skip
    have hin : i = n := by omega
    refine W_exit ?_
    refine thenX ?_
    refine roundX ?_
    refine blkH ?_
    refine thenN ?_
    refine W_seq ?_
    refine W_region ?_
    refine wl_q (r_move (.slice _ _ _) rfl) rfl rfl ?_
    refine wl_q (r_assign (.slice _ _ _) rfl) rfl rfl ?_
    refine wl_nil ?_
    refine thenN ?_
    refine W_ret ?_
    skip
    refine fin1 (.slice _ _ _) rfl ?_
    exact ⟨r, rfl, by unfold allC findP; rw [hlen, ← hin]; exact hr, hM2⟩

set_option maxHeartbeats 4000000 in
theorem ref15_With (w : World) (key : Int) (A : Option Addr) (n c : Nat) (xs : List Con) (R : Rd w 5 A n (xs.map conCells)) (hn : n ≤ 1099511627776) :
    Calls Tryz.prog 12 #[.slice A n c, .int .u32 key] w (fun ex w' => ∃ v, ex = .returned v ∧ (fun v w' => ∃ r : Row, v = .slice r.A r.n r.c ∧ RowIs 35 5 r.A r.n r.c ((withC key xs).map conCells) r.e ∧ Mem w [] [r.e] w') v w') := by
  have hlen : xs.length = n := by simpa using R.len
  have hbd := R.bound
  refine calls_of_W #[.tmp 4] 39 Tryz.func12 rfl Tryz.results12 Tryz.ntmps12 rfl ?_
  have M0 := Mem.refl w
  refine W_seq ?_
  refine W_region ?_
  refine wl_q (r_assign (.slice _ _ _) rfl) rfl rfl ?_
  refine wl_nil ?_
  refine thenN ?_
  refine W_seq ?_
  refine W_region ?_
  refine wl_q (r_assign (.slice _ _ _) rfl) rfl rfl ?_
  have M1 := M0.dummy default
  refine wl_nil ?_
  refine thenN ?_
  refine W_seq ?_
  refine W_seq ?_
  refine W_region ?_
  refine wl_q (r_assign (.int _ _) rfl) rfl rfl ?_
  refine wl_nil ?_
  refine thenN ?_
  refine W_block ?_
  refine W_loop (σ := Nat × Row) [0, 1, 4] (fun (k, q) => [(5, .slice q.A q.n q.c), (6, .int .i64 (k : Int))]) (fun (k, q) w' => (k ≤ n ∧ RowIs 35 5 q.A q.n q.c ((withC key (xs.take k)).map conCells) q.e) ∧ Mem w [] [q.e] w') (fun (k, q) => n - k) (0, nilRow) (agC rfl (agC rfl agN)) (⟨⟨by omega, RowIs.nil _ _ _⟩, M1⟩) ?_
  rintro ⟨k, q⟩ ρ2 w2 ⟨⟨hk, hq⟩, hM2⟩
  have hwl := withC_len key (xs.take k)
  have htl := List.length_take_le k xs
  have hql : (withC key (xs.take k)).length = q.n := by simpa using hq.1
  refine W_seq ?_
  refine W_seq ?_
  refine W_region ?_
  refine wl_q (r_move (.int _ _) rfl) rfl rfl ?_
  refine wl_q (r_move (.slice _ _ _) rfl) rfl rfl ?_
  refine wl_q (r_lenS Tryz.underlying23 rfl) rfl rfl ?_
  refine wl_q (r_bin (.bool (decide _)) rfl rfl rfl) rfl rfl ?_
  refine wl_nil ?_
  refine thenN ?_
  refine W_condD rfl (fun h10 => ?_) (fun h10 => ?_)
  · skip
    obtain ⟨xc, hxc⟩ := getSome (k := k) hlen (by omega)
    refine W_skip ?_
    refine thenN ?_
    refine W_seq ?_
    refine W_block ?_
    refine W_seq ?_
    refine W_region ?_
    refine wl_q (r_move (.slice _ _ _) rfl) rfl rfl ?_
    refine wl_q (r_move (.int _ _) rfl) rfl rfl ?_
    refine wl_q (r_idxR (k) sl23 rfl rfl rfl ((R.mem hM2).below_len (mapGet conCells hxc)) ((R.mem hM2).someK (mapGet conCells hxc))) rfl rfl ?_
    refine wl_q (r_fieldAddrE 0 fld35_0 (R.mem hM2) (Nat.lt_of_le_of_lt (Nat.zero_le _) ((R.mem hM2).below_len (mapGet conCells hxc))) rfl) rfl rfl ?_
    refine wl_q (r_fieldAddrE 0 fld31_0 (R.mem hM2) (Nat.lt_of_le_of_lt (Nat.zero_le _) ((R.mem hM2).below_len (mapGet conCells hxc))) rfl) rfl rfl ?_
    refine wl_q (r_ldE (o := 0) (.int _ _) one24 (R.mem hM2) (mapGet conCells hxc) rfl rfl) rfl rfl ?_
    refine wl_q (r_move (.int _ _) rfl) rfl rfl ?_
    refine wl_q (r_bin (.bool (decide _)) rfl rfl rfl) rfl rfl ?_
    refine wl_q (r_move (.bool (decide _)) rfl) rfl rfl ?_
    refine wl_splitD 21 rfl (fun g21 => ?_) (fun g21 => ?_)
    · skip
      refine wl_skip rfl rfl ?_
      refine wl_skip rfl rfl ?_
      refine wl_skip rfl rfl ?_
      refine wl_skip rfl rfl ?_
      refine wl_skip rfl rfl ?_
      refine wl_skip rfl rfl ?_
      refine wl_skip rfl rfl ?_
      refine wl_skip rfl rfl ?_
      refine wl_q (r_pick true (.bool true) rfl rfl) rfl rfl ?_
      refine wl_nil ?_
      refine thenN ?_
      refine W_condT rfl ?_
      refine W_region ?_
      refine wl_q (r_move (.slice _ _ _) rfl) rfl rfl ?_
      refine wl_q (r_move (.slice _ _ _) rfl) rfl rfl ?_
      refine wl_q (r_move (.int _ _) rfl) rfl rfl ?_
      refine wl_q (r_idxR (k) sl23 rfl rfl rfl ((R.mem hM2).below_len (mapGet conCells hxc)) ((R.mem hM2).someK (mapGet conCells hxc))) rfl rfl ?_
      refine wl_q (r_ldEA _ agg35 (R.mem hM2) (mapGet conCells hxc) rfl) rfl rfl ?_
      refine wl_bslice [.agg (List.toArray _)] [conCells xc] rfl sl23 hM2 rfl rfl rfl rfl (lens_of rfl) (by decide) (fun b3 w3 M3 => ?_)
      refine wl_append 0 [conCells xc] sl23 M3 rfl rfl rfl rfl rfl hq rfl (by simp [conCells, Go.Bil.one]) (Cells.ofMem 1 M3 rfl) (by omega) (fun A4 c4 e4 w4 M4 hR4 => ?_)
      refine wl_q (r_assign (.slice _ _ _) rfl) rfl rfl ?_
      refine wl_nil ?_
      refine blkN ?_
      refine thenN ?_
      refine W_region ?_
      refine wl_q (r_move (.int _ _) rfl) rfl rfl ?_
      refine wl_q (r_add rfl rfl (by omega) (by omega)) rfl rfl ?_
      refine wl_q (r_assign (.int _ _) rfl) rfl rfl ?_
      refine wl_nil ?_
      refine roundN (k + 1, ⟨A4, q.n + 1, c4, e4⟩) (agC rfl (agC rfl agN)) (akC rfl (akC rfl (akC rfl akN))) ?_ ?_
      · exact ⟨⟨by omega, by rw [withC_yes hxc (.inl g21), List.map_append]; exact hR4⟩, M4.keep [true, false, false]⟩
      · (show n - (k + 1) < n - k; omega)
    · skip
      refine wl_q (r_move (.slice _ _ _) rfl) rfl rfl ?_
      refine wl_q (r_move (.int _ _) rfl) rfl rfl ?_
      refine wl_q (r_idxR (k) sl23 rfl rfl rfl ((R.mem hM2).below_len (mapGet conCells hxc)) ((R.mem hM2).someK (mapGet conCells hxc))) rfl rfl ?_
      refine wl_q (r_fieldAddrE 0 fld35_0 (R.mem hM2) (Nat.lt_of_le_of_lt (Nat.zero_le _) ((R.mem hM2).below_len (mapGet conCells hxc))) rfl) rfl rfl ?_
      refine wl_q (r_fieldAddrE 1 fld31_1 (R.mem hM2) (Nat.lt_of_le_of_lt (Nat.zero_le _) ((R.mem hM2).below_len (mapGet conCells hxc))) rfl) rfl rfl ?_
      refine wl_q (r_ldE (o := 1) (.int _ _) one24 (R.mem hM2) (mapGet conCells hxc) rfl rfl) rfl rfl ?_
      refine wl_q (r_move (.int _ _) rfl) rfl rfl ?_
      refine wl_q (r_bin (.bool (decide _)) rfl rfl rfl) rfl rfl ?_
      refine wl_q (r_pick false (.bool (decide _)) rfl rfl) rfl rfl ?_
      refine wl_nil ?_
      refine thenN ?_
      refine W_condD rfl (fun h30 => ?_) (fun h30 => ?_)
      · skip
        refine W_region ?_
        refine wl_q (r_move (.slice _ _ _) rfl) rfl rfl ?_
        refine wl_q (r_move (.slice _ _ _) rfl) rfl rfl ?_
        refine wl_q (r_move (.int _ _) rfl) rfl rfl ?_
        refine wl_q (r_idxR (k) sl23 rfl rfl rfl ((R.mem hM2).below_len (mapGet conCells hxc)) ((R.mem hM2).someK (mapGet conCells hxc))) rfl rfl ?_
        refine wl_q (r_ldEA _ agg35 (R.mem hM2) (mapGet conCells hxc) rfl) rfl rfl ?_
        refine wl_bslice [.agg (List.toArray _)] [conCells xc] rfl sl23 hM2 rfl rfl rfl rfl (lens_of rfl) (by decide) (fun b5 w5 M5 => ?_)
        refine wl_append 0 [conCells xc] sl23 M5 rfl rfl rfl rfl rfl hq rfl (by simp [conCells, Go.Bil.one]) (Cells.ofMem 1 M5 rfl) (by omega) (fun A6 c6 e6 w6 M6 hR6 => ?_)
        refine wl_q (r_assign (.slice _ _ _) rfl) rfl rfl ?_
        refine wl_nil ?_
        refine blkN ?_
        refine thenN ?_
        refine W_region ?_
        refine wl_q (r_move (.int _ _) rfl) rfl rfl ?_
        refine wl_q (r_add rfl rfl (by omega) (by omega)) rfl rfl ?_
        refine wl_q (r_assign (.int _ _) rfl) rfl rfl ?_
        refine wl_nil ?_
        refine roundN (k + 1, ⟨A6, q.n + 1, c6, e6⟩) (agC rfl (agC rfl agN)) (akC rfl (akC rfl (akC rfl akN))) ?_ ?_
        · exact ⟨⟨by omega, by rw [withC_yes hxc (.inr h30), List.map_append]; exact hR6⟩, M6.keep [true, false, false]⟩
        · (show n - (k + 1) < n - k; omega)
      · skip
        refine W_skip ?_
        refine blkN ?_
        refine thenN ?_
        refine W_region ?_
        refine wl_q (r_move (.int _ _) rfl) rfl rfl ?_
        refine wl_q (r_add rfl rfl (by omega) (by omega)) rfl rfl ?_
        refine wl_q (r_assign (.int _ _) rfl) rfl rfl ?_
        refine wl_nil ?_
        refine roundN (k + 1, q) (agC rfl (agC rfl agN)) (akC rfl (akC rfl (akC rfl akN))) ?_ ?_
        · exact ⟨⟨by omega, by rw [withC_no hxc (fun h => h.elim g21 h30)]; exact hq⟩, hM2.keep [true, false]⟩
        · (show n - (k + 1) < n - k; omega)
  · skip
    have hkn : k = n := by omega
    rw [List.take_of_length_le (by omega)] at hq
    refine W_exit ?_
    refine thenX ?_
    refine roundX ?_
    refine blkH ?_
    refine thenN ?_
    refine W_seq ?_
    refine W_region ?_
    refine wl_q (r_move (.slice _ _ _) rfl) rfl rfl ?_
    refine wl_q (r_assign (.slice _ _ _) rfl) rfl rfl ?_
    refine wl_nil ?_
    refine thenN ?_
    refine W_ret ?_
    skip
    refine fin1 (.slice _ _ _) rfl ?_
    exact ⟨q, rfl, hq, hM2⟩

end Go.Proofs.YtkegiinlfmlhlaaGreatDoor
