/- Part of the proof of the laws of this seat: W11, Aw11. No conditions. -/
import Derived.Test.YtkegiinlfmlhlaaDoorK5
import Derived.Test.YtkegiinlfmlhlaaDoorK16
import Derived.Test.YtkegiinlfmlhlaaDoorK24
/- Walks of Go functions over the frame of this claim: what each computes, for every input of the stated types (W11). -/
set_option linter.unusedVariables false
set_option linter.unusedSimpArgs false
set_option linter.unnecessarySimpa false
namespace Go.Proofs.YtkegiinlfmlhlaaDoor
open Go.Bil
open Go.RowKit (Below)
open Go.Proofs

set_option maxHeartbeats 4000000 in
theorem ref11_Lonely (w : World) (key : Int) (A : Option Addr) (n c : Nat) (xs : List Body) (R : Rd w 10 A n (xs.map bodyCells)) (hb : ∀ b ∈ xs, Okb b) :
    Calls Tryd.prog 16 #[.slice A n c, .int .u32 key] w (fun ex w' => ∃ v, ex = .returned v ∧ (fun v w' => v = .bool (lonB xs key) ∧ Below w.heap.size w w') v w') := by
  have hlen : xs.length = n := by simpa using R.len
  have hbd := R.bound
  refine calls_of_W #[.tmp 4] 34 Tryd.func16 rfl Tryd.results16 Tryd.ntmps16 rfl ?_
  have M0 := Mem.refl w
  refine W_seq ?_
  refine W_region ?_
  refine wl_q (r_assign (.bool false) rfl) rfl rfl ?_
  refine wl_nil ?_
  refine thenN ?_
  refine W_seq ?_
  refine W_region ?_
  refine wl_q (r_move (.slice _ _ _) rfl) rfl rfl ?_
  refine wl_q (r_move (.int _ _) rfl) rfl rfl ?_
  refine wl_cal cal36 rfl rfl rfl ?_
  refine (ref06_Find _ key _ _ _ xs (R.mem M0)).mono ?_
  rintro _ w1 ⟨v1, rfl, ⟨rfl, hb1⟩⟩
  refine ⟨_, rfl, ?_⟩
  have M1 := M0.callB hb1
  refine wl_q (r_assign (.int _ _) rfl) rfl rfl ?_
  refine wl_nil ?_
  refine thenN ?_
  refine W_seq ?_
  refine W_seq ?_
  refine W_region ?_
  refine wl_q (r_move (.int _ _) rfl) rfl rfl ?_
  refine wl_q (r_bin (.bool (decide _)) rfl rfl rfl) rfl rfl ?_
  refine wl_nil ?_
  refine thenN ?_
  refine W_condD rfl (fun h11 => ?_) (fun h11 => ?_)
  · skip
    refine W_seq ?_
    refine W_region ?_
    refine wl_q (r_assign (.bool false) rfl) rfl rfl ?_
    refine wl_nil ?_
    refine thenN ?_
    refine W_ret ?_
    refine thenR ?_
    skip
    refine fin1 (.bool false) rfl ?_
    exact ⟨by rw [lonB_none (by omega)], M1.below⟩
  · skip
    obtain ⟨q, yb, hq, hqk, hqi⟩ : ∃ (q : Nat) (yb : Body), xs[q]? = some yb ∧ yb.key = key ∧ findI key xs = (q : Int) := (findI_cases key xs).elim (fun h => absurd h.1 (by omega)) id
    refine W_skip ?_
    refine thenN ?_
    refine W_seq ?_
    refine W_seq ?_
    refine W_region ?_
    refine wl_q (r_assign (.int _ _) rfl) rfl rfl ?_
    refine wl_nil ?_
    refine thenN ?_
    refine W_block ?_
    refine W_loop (σ := Nat) [0, 5] (fun k => [(6, .int .i64 (k : Int))]) (fun k w' => (k ≤ n ∧ ∀ (j : Nat) (c : Body), j < k → xs[j]? = some c → j ≠ q → ¬ ovl (boxOf yb) (boxOf c)) ∧ Mem w [] [] w') (fun k => n - k) 0 (agC rfl agN) (⟨⟨by omega, fun j c hj => by omega⟩, M1⟩) ?_
    rintro k ρ2 w2 ⟨⟨hk, hno⟩, hM2⟩
    refine W_seq ?_
    refine W_seq ?_
    refine W_region ?_
    refine wl_q (r_move (.int _ _) rfl) rfl rfl ?_
    refine wl_q (r_move (.slice _ _ _) rfl) rfl rfl ?_
    refine wl_q (r_lenS Tryd.underlying22 rfl) rfl rfl ?_
    refine wl_q (r_bin (.bool (decide _)) rfl rfl rfl) rfl rfl ?_
    refine wl_nil ?_
    refine thenN ?_
    refine W_condD rfl (fun h15 => ?_) (fun h15 => ?_)
    · skip
      obtain ⟨xb, hxb⟩ := getSome (k := k) hlen (by omega)
      refine W_skip ?_
      refine thenN ?_
      refine W_seq ?_
      refine W_block ?_
      refine W_seq ?_
      refine W_draw [(0, 0), (1, 0), (2, 0), (3, 0), (4, 0), (5, 0), (6, 1), (7, 1), (9, 0), (10, 0), (11, 1), (12, 1), (8, 2), (13, 2), (14, 2), (15, 0)] mixed rfl (by kernel_rfl) (fun w3 hb3 hh3 => ?_)
      have M3 := hM2.drew hb3 hh3
      refine D_p rfl rfl rfl (fun _ => r_move (.int _ _) rfl) ?_
      refine D_p rfl rfl rfl (fun _ => r_move (.int _ _) rfl) ?_
      refine D_p rfl rfl rfl (fun _ => r_bin (.bool (decide _)) rfl rfl rfl) ?_
      refine D_p rfl rfl rfl (fun _ => r_move (.bool (decide _)) rfl) ?_
      refine D_splitD 21 rfl (fun g21 => ?_) (fun g21 => ?_)
      · skip
        refine D_p rfl rfl rfl (fun _ => r_move (.slice _ _ _) rfl) ?_
        refine D_p rfl rfl rfl (fun _ => r_move (.int _ _) rfl) ?_
        refine D_r rfl rfl rfl (r_idxR (q) sl22 rfl rfl hqi ((R.mem M3).below_len (mapGet bodyCells hq)) ((R.mem M3).someK (mapGet bodyCells hq))) ?_
        refine D_r rfl rfl rfl (r_ldEA _ agg34 (R.mem M3) (mapGet bodyCells hq) rfl) ?_
        refine D_p rfl rfl rfl (fun _ => r_move (.slice _ _ _) rfl) ?_
        refine D_p rfl rfl rfl (fun _ => r_move (.int _ _) rfl) ?_
        refine D_r rfl rfl rfl (r_idxR (k) sl22 rfl rfl rfl ((R.mem M3).below_len (mapGet bodyCells hxb)) ((R.mem M3).someK (mapGet bodyCells hxb))) ?_
        refine D_r rfl rfl rfl (r_ldEA _ agg34 (R.mem M3) (mapGet bodyCells hxb) rfl) ?_
        refine D_e [false, false, true, true] rfl (by kernel_rfl) ?_
        refine wl_cal cal37 rfl rfl rfl ?_
        refine (ref08_Of _ yb (hb yb (List.mem_of_getElem? hq))).mono ?_
        rintro _ w4 ⟨v4, rfl, ⟨rfl, hb4⟩⟩
        refine ⟨_, rfl, ?_⟩
        have M4 := M3.callB hb4
        refine wl_nil (thenN ⟨(alC (Yl_of rfl (r_ldEA _ agg34 (R.mem M4) (mapGet bodyCells hxb) rfl)) (alC (Yl_of rfl (r_idxR (k) sl22 rfl rfl rfl ((R.mem M4).below_len (mapGet bodyCells hxb)) ((R.mem M4).someK (mapGet bodyCells hxb)))) alN)), ?_⟩)
        refine D_e [true, true] rfl (by kernel_rfl) ?_
        refine wl_cal cal37 rfl rfl rfl ?_
        refine (ref08_Of _ xb (hb xb (List.mem_of_getElem? hxb))).mono ?_
        rintro _ w5 ⟨v5, rfl, ⟨rfl, hb5⟩⟩
        refine ⟨_, rfl, ?_⟩
        have M5 := M4.callB hb5
        refine wl_nil (thenN ⟨alN, ?_⟩)
        refine D_e [] rfl (by kernel_rfl) ?_
        refine wl_cal cal29 rfl rfl rfl ?_
        refine (ref08_Overlap _ (boxOf yb) (boxOf xb)).mono ?_
        rintro _ w6 ⟨v6, rfl, ⟨rfl, hb6⟩⟩
        refine ⟨_, rfl, ?_⟩
        have M6 := M5.callB hb6
        refine wl_nil (thenN ⟨alN, ?_⟩)
        refine D_p rfl rfl rfl (fun _ => r_pick true (.bool (decide _)) rfl rfl) ?_
        refine D_nil ?_
        refine thenN ?_
        refine W_condD rfl (fun h33 => ?_) (fun h33 => ?_)
        · skip
          refine W_seq ?_
          refine W_region ?_
          refine wl_q (r_assign (.bool false) rfl) rfl rfl ?_
          refine wl_nil ?_
          refine thenN ?_
          refine W_ret ?_
          refine blkR ?_
          refine thenR ?_
          refine roundR ?_
          refine blkR ?_
          refine thenR ?_
          skip
          refine fin1 (.bool false) rfl ?_
          have hlf : ¬ lonB xs key = true := fun h => (lonB_iff hb hq hqi).1 h k xb hxb (by omega) h33
          exact ⟨by rw [Bool.eq_false_iff.2 hlf], M6.below⟩
        · skip
          refine W_skip ?_
          refine blkN ?_
          refine thenN ?_
          refine W_region ?_
          refine wl_q (r_move (.int _ _) rfl) rfl rfl ?_
          refine wl_q (r_add rfl rfl (by omega) (by omega)) rfl rfl ?_
          refine wl_q (r_assign (.int _ _) rfl) rfl rfl ?_
          refine wl_nil ?_
          refine roundN (k + 1) (agC rfl agN) (akC rfl (akC rfl akN)) ?_ ?_
          · exact ⟨⟨by omega, allNext (p := fun j c => j ≠ q → ¬ ovl (boxOf yb) (boxOf c)) hno hxb (fun _ => h33)⟩, M6⟩
          · omega
      · skip
        refine D_s rfl rfl rfl ?_
        refine D_s rfl rfl rfl ?_
        refine D_s1 rfl rfl rfl ?_
        refine D_s1 rfl rfl rfl ?_
        refine D_s rfl rfl rfl ?_
        refine D_s rfl rfl rfl ?_
        refine D_s1 rfl rfl rfl ?_
        refine D_s1 rfl rfl rfl ?_
        refine D_e [false, false, true, true] rfl (by kernel_rfl) ?_
        refine wl_skip rfl rfl ?_
        refine wl_nil (thenN ⟨(alC (.inr ⟨rfl, rfl⟩) (alC (.inr ⟨rfl, rfl⟩) alN)), ?_⟩)
        refine D_e [true, true] rfl (by kernel_rfl) ?_
        refine wl_skip rfl rfl ?_
        refine wl_nil (thenN ⟨alN, ?_⟩)
        refine D_e [] rfl (by kernel_rfl) ?_
        refine wl_skip rfl rfl ?_
        refine wl_nil (thenN ⟨alN, ?_⟩)
        refine D_p rfl rfl rfl (fun _ => r_pick false (.bool false) rfl rfl) ?_
        refine D_nil ?_
        refine thenN ?_
        refine W_condF rfl ?_
        refine W_skip ?_
        refine blkN ?_
        refine thenN ?_
        refine W_region ?_
        refine wl_q (r_move (.int _ _) rfl) rfl rfl ?_
        refine wl_q (r_add rfl rfl (by omega) (by omega)) rfl rfl ?_
        refine wl_q (r_assign (.int _ _) rfl) rfl rfl ?_
        refine wl_nil ?_
        refine roundN (k + 1) (agC rfl agN) (akC rfl (akC rfl akN)) ?_ ?_
        · exact ⟨⟨by omega, allNext (p := fun j c => j ≠ q → ¬ ovl (boxOf yb) (boxOf c)) hno hxb (fun h => absurd h (by omega))⟩, M3⟩
        · omega
    · skip
      refine W_exit ?_
      refine thenX ?_
      refine roundX ?_
      refine blkH ?_
      refine thenN ?_
      refine W_seq ?_
      refine W_region ?_
      refine wl_q (r_assign (.bool true) rfl) rfl rfl ?_
      refine wl_nil ?_
      refine thenN ?_
      refine W_ret ?_
      skip
      refine fin1 (.bool true) rfl ?_
      have hlt : lonB xs key = true := (lonB_iff hb hq hqi).2 fun j c hj hne => hno j c (by have := (List.getElem?_eq_some_iff.1 hj).1; omega) hj hne
      exact ⟨by rw [hlt], hM2.below⟩

set_option maxHeartbeats 4000000 in
theorem ref11_View (w : World) (A : Option Addr) (n c : Nat) (xs : List Body) (R : Rd w 10 A n (xs.map bodyCells)) :
    Calls Tryd.prog 11 #[.slice A n c] w (fun ex w' => ∃ v, ex = .returned v ∧ (fun v w' => ∃ r : Row, v = .tuple #[.slice r.A r.n r.c, .bool (decide (viewP xs))] ∧ RowIs 34 10 r.A r.n r.c ((viewL xs).map bodyCells) r.e ∧ Mem w [] [r.e] w') v w') := by
  have hlen : xs.length = n := by simpa using R.len
  have hbd := R.bound
  refine calls_of_W #[.tmp 2, .tmp 3] 17 Tryd.func11 rfl Tryd.results11 Tryd.ntmps11 rfl ?_
  have M0 := Mem.refl w
  refine W_seq ?_
  refine W_region ?_
  refine wl_q (r_assign (.slice _ _ _) rfl) rfl rfl ?_
  refine wl_q (r_assign (.bool false) rfl) rfl rfl ?_
  refine wl_nil ?_
  refine thenN ?_
  refine W_seq ?_
  refine W_seq ?_
  refine W_region ?_
  refine wl_q (r_move (.slice _ _ _) rfl) rfl rfl ?_
  refine wl_q (r_lenS Tryd.underlying22 rfl) rfl rfl ?_
  refine wl_q (r_bin (.bool (decide _)) rfl rfl rfl) rfl rfl ?_
  refine wl_nil ?_
  refine thenN ?_
  refine W_condD rfl (fun h8 => ?_) (fun h8 => ?_)
  · skip
    refine W_seq ?_
    refine W_region ?_
    refine wl_q (r_assign (.slice _ _ _) rfl) rfl rfl ?_
    refine wl_q (r_assign (.bool false) rfl) rfl rfl ?_
    refine wl_nil ?_
    refine thenN ?_
    refine W_ret ?_
    refine thenR ?_
    skip
    refine fin2 (.slice _ _ _) (.bool false) rfl rfl ?_
    exact ⟨nilRow, tupE rfl (bF (fun h => by have := h.1; omega)), by unfold viewL; rw [if_pos (by omega)]; exact RowIs.nil _ _ _, M0.dummy default⟩
  · skip
    refine W_skip ?_
    refine thenN ?_
    refine W_seq ?_
    refine W_region ?_
    refine wl_q (r_move (.slice _ _ _) rfl) rfl rfl ?_
    refine wl_cal cal32 rfl rfl rfl ?_
    refine (ref07_Sort _ _ _ _ xs (R.mem M0) (by omega)).mono ?_
    rintro _ w1 ⟨v1, rfl, ⟨A1, n1, c1, e1, rfl, hR1, hM1⟩⟩
    refine ⟨_, rfl, ?_⟩
    have M1 : Mem _ _ [_] _ := M0.call0 hM1
    refine wl_q (r_move (.tuple (List.toArray _)) rfl) rfl rfl ?_
    refine wl_q (r_ext (.slice _ _ _) rfl rfl) rfl rfl ?_
    refine wl_q (r_ext (.int _ _) rfl rfl) rfl rfl ?_
    refine wl_q (r_assign (.slice _ _ _) rfl) rfl rfl ?_
    refine wl_q (r_assign (.int _ _) rfl) rfl rfl ?_
    refine wl_nil ?_
    refine thenN ?_
    refine W_seq ?_
    refine W_region ?_
    refine wl_q (r_move (.slice _ _ _) rfl) rfl rfl ?_
    refine wl_q (r_move (.int _ _) rfl) rfl rfl ?_
    refine wl_q (r_bin (.bool (decide _)) rfl rfl rfl) rfl rfl ?_
    refine wl_q (r_assign (.slice _ _ _) rfl) rfl rfl ?_
    refine wl_q (r_assign (.bool (decide _)) rfl) rfl rfl ?_
    refine wl_nil ?_
    refine thenN ?_
    refine W_ret ?_
    skip
    refine fin2 (.slice _ _ _) (.bool (decide _)) rfl rfl ?_
    exact ⟨⟨A1, n1, c1, e1⟩, tupE rfl (bD ⟨fun h => ⟨by omega, h⟩, fun h => h.2⟩), by unfold viewL; rw [if_neg (by omega)]; exact hR1, M1⟩

set_option maxHeartbeats 4000000 in
theorem ref10_SamePairs (w : World) (A : Option Addr) (n c : Nat) (xs : List (Int × Int)) (R : Rd w 2 A n (xs.map pairCells)) (B : Option Addr) (m c' : Nat) (ys : List (Int × Int)) (R' : Rd w 2 B m (ys.map pairCells)) :
    Calls Tryd.prog 22 #[.slice A n c, .slice B m c'] w (fun ex w' => ∃ v, ex = .returned v ∧ (fun v w' => v = .bool (decide (xs = ys)) ∧ Below w.heap.size w w') v w') := by
  have hlen : xs.length = n := by simpa using R.len
  have hbd := R.bound
  have hlen' : ys.length = m := by simpa using R'.len
  have hbd' := R'.bound
  refine calls_of_W #[.tmp 4] 26 Tryd.func22 rfl Tryd.results22 Tryd.ntmps22 rfl ?_
  have M0 := Mem.refl w
  refine W_seq ?_
  refine W_region ?_
  refine wl_q (r_assign (.bool false) rfl) rfl rfl ?_
  refine wl_nil ?_
  refine thenN ?_
  refine W_seq ?_
  refine W_seq ?_
  refine W_region ?_
  refine wl_q (r_move (.slice _ _ _) rfl) rfl rfl ?_
  refine wl_q (r_lenS Tryd.underlying56 rfl) rfl rfl ?_
  refine wl_q (r_move (.slice _ _ _) rfl) rfl rfl ?_
  refine wl_q (r_lenS Tryd.underlying56 rfl) rfl rfl ?_
  refine wl_q (r_bin (.bool (decide _)) rfl rfl rfl) rfl rfl ?_
  refine wl_nil ?_
  refine thenN ?_
  refine W_condD rfl (fun h10 => ?_) (fun h10 => ?_)
  · skip
    refine W_seq ?_
    refine W_region ?_
    refine wl_q (r_assign (.bool false) rfl) rfl rfl ?_
    refine wl_nil ?_
    refine thenN ?_
    refine W_ret ?_
    refine thenR ?_
    skip
    refine fin1 (.bool false) rfl ?_
    exact ⟨bF (fun e => h10 (by rw [← hlen, ← hlen', e])), M0.below⟩
  · skip
    have hnm : n = m := by omega
    refine W_skip ?_
    refine thenN ?_
    refine W_seq ?_
    refine W_seq ?_
    refine W_region ?_
    refine wl_q (r_assign (.int _ _) rfl) rfl rfl ?_
    refine wl_nil ?_
    refine thenN ?_
    refine W_block ?_
    refine W_loop (σ := Nat) [0, 1] (fun k => [(5, .int .i64 (k : Int))]) (fun k w' => (k ≤ n ∧ ∀ (j : Nat) (x : Int × Int), j < k → xs[j]? = some x → ys[j]? = some x) ∧ Mem w [] [] w') (fun k => n - k) 0 (agC rfl agN) (⟨⟨by omega, fun j c hj => by omega⟩, M0⟩) ?_
    rintro k ρ1 w1 ⟨⟨hk, hne⟩, hM1⟩
    refine W_seq ?_
    refine W_seq ?_
    refine W_region ?_
    refine wl_q (r_move (.int _ _) rfl) rfl rfl ?_
    refine wl_q (r_move (.slice _ _ _) rfl) rfl rfl ?_
    refine wl_q (r_lenS Tryd.underlying56 rfl) rfl rfl ?_
    refine wl_q (r_bin (.bool (decide _)) rfl rfl rfl) rfl rfl ?_
    refine wl_nil ?_
    refine thenN ?_
    refine W_condD rfl (fun h14 => ?_) (fun h14 => ?_)
    · skip
      obtain ⟨xb, hxb⟩ := getSome (k := k) hlen (by omega)
      obtain ⟨yb, hyb⟩ := getSome (k := k) hlen' (by omega)
      refine W_skip ?_
      refine thenN ?_
      refine W_seq ?_
      refine W_block ?_
      refine W_seq ?_
      refine W_draw [(0, 0), (1, 0), (2, 1), (3, 1), (4, 0), (5, 0), (6, 1), (7, 1), (8, 0)] mixed rfl (by kernel_rfl) (fun w2 hb2 hh2 => ?_)
      have M2 := hM1.drew hb2 hh2
      refine D_p rfl rfl rfl (fun _ => r_move (.slice _ _ _) rfl) ?_
      refine D_p rfl rfl rfl (fun _ => r_move (.int _ _) rfl) ?_
      refine D_r rfl rfl rfl (r_idxR (k) sl56 rfl rfl rfl ((R.mem M2).below_len (mapGet pairCells hxb)) ((R.mem M2).someK (mapGet pairCells hxb))) ?_
      refine D_r rfl rfl rfl (r_ldEA _ agg36 (R.mem M2) (mapGet pairCells hxb) rfl) ?_
      refine D_p rfl rfl rfl (fun _ => r_move (.slice _ _ _) rfl) ?_
      refine D_p rfl rfl rfl (fun _ => r_move (.int _ _) rfl) ?_
      refine D_r rfl rfl rfl (r_idxR (k) sl56 rfl rfl rfl ((R'.mem M2).below_len (mapGet pairCells hyb)) ((R'.mem M2).someK (mapGet pairCells hyb))) ?_
      refine D_r rfl rfl rfl (r_ldEA _ agg36 (R'.mem M2) (mapGet pairCells hyb) rfl) ?_
      refine D_p rfl rfl rfl (fun _ => r_neA (eqPair xb yb) rfl rfl) ?_
      refine D_nil ?_
      refine thenN ?_
      refine W_condD rfl (fun h25 => ?_) (fun h25 => ?_)
      · skip
        refine W_seq ?_
        refine W_region ?_
        refine wl_q (r_assign (.bool false) rfl) rfl rfl ?_
        refine wl_nil ?_
        refine thenN ?_
        refine W_ret ?_
        refine blkR ?_
        refine thenR ?_
        refine roundR ?_
        refine blkR ?_
        refine thenR ?_
        skip
        refine fin1 (.bool false) rfl ?_
        exact ⟨bF (fun e => h25 (by rw [e] at hxb; rw [hxb] at hyb; injection hyb)), M2.below⟩
      · skip
        refine W_skip ?_
        refine blkN ?_
        refine thenN ?_
        refine W_region ?_
        refine wl_q (r_move (.int _ _) rfl) rfl rfl ?_
        refine wl_q (r_add rfl rfl (by omega) (by omega)) rfl rfl ?_
        refine wl_q (r_assign (.int _ _) rfl) rfl rfl ?_
        refine wl_nil ?_
        refine roundN (k + 1) (agC rfl agN) (akC rfl (akC rfl akN)) ?_ ?_
        · exact ⟨⟨by omega, allNext (p := fun j x => ys[j]? = some x) hne hxb (by rw [hyb, Decidable.not_not.1 h25])⟩, M2⟩
        · omega
    · skip
      refine W_exit ?_
      refine thenX ?_
      refine roundX ?_
      refine blkH ?_
      refine thenN ?_
      refine W_seq ?_
      refine W_region ?_
      refine wl_q (r_assign (.bool true) rfl) rfl rfl ?_
      refine wl_nil ?_
      refine thenN ?_
      refine W_ret ?_
      skip
      refine fin1 (.bool true) rfl ?_
      exact ⟨bT (listSame hlen hlen' hnm (fun j x hj hx => hne j x (by omega) hx)), hM1.below⟩

set_option maxHeartbeats 4000000 in
theorem ref10_Less (w : World) (a b : Int × Int) :
    Calls Tryd.prog 28 #[(.agg (pairCells a).toArray), (.agg (pairCells b).toArray)] w (fun ex w' => ∃ v, ex = .returned v ∧ (fun v w' => v = .bool (decide (ltP a b)) ∧ Below w.heap.size w w') v w') := by
  refine calls_of_W #[.tmp 4] 24 Tryd.func28 rfl Tryd.results28 Tryd.ntmps28 rfl ?_
  have M0 := Mem.refl w
  refine W_seq ?_
  refine W_region ?_
  refine wl_box (.agg (List.toArray _)) M0 rfl rfl rfl (fun b1 w1 M1 => ?_)
  refine wl_box (.agg (List.toArray _)) M1 rfl rfl rfl (fun b2 w2 M2 => ?_)
  refine wl_q (r_assign (.bool false) rfl) rfl rfl ?_
  refine wl_nil ?_
  refine thenN ?_
  refine W_seq ?_
  refine W_region ?_
  refine wl_q (r_fieldAddr 0 fld36_0 rfl) rfl rfl ?_
  refine wl_q (r_ld 0 (.int _ _) one30 M2 rfl rfl rfl) rfl rfl ?_
  refine wl_q (r_fieldAddr 0 fld36_0 rfl) rfl rfl ?_
  refine wl_q (r_ld 1 (.int _ _) one30 M2 rfl rfl rfl) rfl rfl ?_
  refine wl_q (r_bin (.bool (decide _)) rfl rfl rfl) rfl rfl ?_
  refine wl_q (r_move (.bool (decide _)) rfl) rfl rfl ?_
  refine wl_splitD 10 rfl (fun g10 => ?_) (fun g10 => ?_)
  · skip
    refine wl_skip rfl rfl ?_
    refine wl_skip rfl rfl ?_
    refine wl_skip rfl rfl ?_
    refine wl_skip rfl rfl ?_
    refine wl_skip rfl rfl ?_
    refine wl_skip rfl rfl ?_
    refine wl_skip rfl rfl ?_
    refine wl_skip rfl rfl ?_
    refine wl_skip rfl rfl ?_
    refine wl_skip rfl rfl ?_
    refine wl_skip rfl rfl ?_
    refine wl_skip rfl rfl ?_
    refine wl_q (r_pick true (.bool true) rfl rfl) rfl rfl ?_
    refine wl_q (r_assign (.bool true) rfl) rfl rfl ?_
    refine wl_nil ?_
    refine thenN ?_
    refine W_ret ?_
    skip
    refine fin1 (.bool true) rfl ?_
    exact ⟨by unfold ltP; first | exact bF (by omega) | exact bT (by omega) | exact bD (by omega), M2.below⟩
  · skip
    refine wl_q (r_fieldAddr 0 fld36_0 rfl) rfl rfl ?_
    refine wl_q (r_ld 0 (.int _ _) one30 M2 rfl rfl rfl) rfl rfl ?_
    refine wl_q (r_fieldAddr 0 fld36_0 rfl) rfl rfl ?_
    refine wl_q (r_ld 1 (.int _ _) one30 M2 rfl rfl rfl) rfl rfl ?_
    refine wl_q (r_bin (.bool (decide _)) rfl rfl rfl) rfl rfl ?_
    refine wl_q (r_move (.bool (decide _)) rfl) rfl rfl ?_
    refine wl_splitD 16 rfl (fun g16 => ?_) (fun g16 => ?_)
    · skip
      refine wl_q (r_fieldAddr 1 fld36_1 rfl) rfl rfl ?_
      refine wl_q (r_ld 0 (.int _ _) one30 M2 rfl rfl rfl) rfl rfl ?_
      refine wl_q (r_fieldAddr 1 fld36_1 rfl) rfl rfl ?_
      refine wl_q (r_ld 1 (.int _ _) one30 M2 rfl rfl rfl) rfl rfl ?_
      refine wl_q (r_bin (.bool (decide _)) rfl rfl rfl) rfl rfl ?_
      refine wl_q (r_pick true (.bool (decide _)) rfl rfl) rfl rfl ?_
      refine wl_q (r_pick false (.bool (decide _)) rfl rfl) rfl rfl ?_
      refine wl_q (r_assign (.bool (decide _)) rfl) rfl rfl ?_
      refine wl_nil ?_
      refine thenN ?_
      refine W_ret ?_
      skip
      refine fin1 (.bool (decide _)) rfl ?_
      exact ⟨by unfold ltP; first | exact bF (by omega) | exact bT (by omega) | exact bD (by omega), M2.below⟩
    · skip
      refine wl_skip rfl rfl ?_
      refine wl_skip rfl rfl ?_
      refine wl_skip rfl rfl ?_
      refine wl_skip rfl rfl ?_
      refine wl_skip rfl rfl ?_
      refine wl_q (r_pick false (.bool false) rfl rfl) rfl rfl ?_
      refine wl_q (r_pick false (.bool false) rfl rfl) rfl rfl ?_
      refine wl_q (r_assign (.bool false) rfl) rfl rfl ?_
      refine wl_nil ?_
      refine thenN ?_
      refine W_ret ?_
      skip
      refine fin1 (.bool false) rfl ?_
      exact ⟨by unfold ltP; first | exact bF (by omega) | exact bT (by omega) | exact bD (by omega), M2.below⟩

end Go.Proofs.YtkegiinlfmlhlaaDoor

/- Walks of Go functions over the frame of this claim: what each computes, for every input of the stated types (Aw11). -/
set_option linter.unusedVariables false
set_option linter.unusedSimpArgs false
set_option linter.unnecessarySimpa false
namespace Go.Proofs.YtkegiinlfmlhlaaDoor
open Go.Bil
open Go.RowKit (Below)
open Go.Proofs

end Go.Proofs.YtkegiinlfmlhlaaDoor
