/- Walks of Go functions over the frame of this claim: what each computes, for every input of the stated types (P10). -/
import Derived.Test.YtfgbmegchdjfeaaDoorTy
import Derived.Test.YtfgbmegchdjfeaaDoorG10
import Derived.Test.YtfgbmegchdjfeaaDoorMdP
import Derived.Test.YtfgbmegchdjfeaaDoorLib
import Derived.Test.YtfgbmegchdjfeaaDoorLay
set_option linter.unusedVariables false
set_option linter.unusedSimpArgs false
set_option linter.unnecessarySimpa false
namespace Go.Proofs.YtfgbmegchdjfeaaDoor
open Go.Bil
open Go.RowKit (Below)
open Go.Proofs

set_option maxHeartbeats 4000000 in
theorem grid_pair (w : World) (a b : Int) :
    Calls Tryd.prog 50 #[.int .u32 a, .int .u32 b] w (fun ex w' => ∃ v, ex = .returned v ∧ (fun v w' => v = (.agg (pairCells (prI a b)).toArray) ∧ Below w.heap.size w w') v w') := by
  refine calls_of_W #[.cell 4 42] 12 Tryd.func50 rfl Tryd.results50 Tryd.ntmps50 rfl ?_
  have M0 := Mem.refl w
  refine W_seq ?_
  refine W_region ?_
  refine wl_alloc zero42 M0 rfl rfl (fun b1 w1 M1 => ?_)
  refine wl_nil ?_
  refine thenN ?_
  refine W_seq ?_
  refine W_region ?_
  refine wl_q (r_move (.int _ _) rfl) rfl rfl ?_
  refine wl_q (r_move (.int _ _) rfl) rfl rfl ?_
  refine wl_q (r_min2 rfl rfl ) rfl rfl ?_
  refine wl_q (r_move (.int _ _) rfl) rfl rfl ?_
  refine wl_q (r_move (.int _ _) rfl) rfl rfl ?_
  refine wl_q (r_max2 rfl rfl ) rfl rfl ?_
  refine wl_q (r_build [(0, .int _ _), (1, .int _ _)] _ struct42 rfl rfl) rfl rfl ?_
  refine wl_stW 0 _ agg42 M1 rfl rfl rfl rfl rfl (ones_of rfl) rfl (fun w2 M2 => ?_)
  refine wl_nil ?_
  refine thenN ?_
  refine W_ret ?_
  skip
  refine finC1 0 agg42 M2 rfl rfl rfl ?_
  exact ⟨rfl, M2.below⟩

set_option maxHeartbeats 4000000 in
theorem cmp_Or2 (w : World) (A : Option Addr) (x y : Int) (R : Rd w 1 A 2 [[.int .i64 x], [.int .i64 y]]) :
    Calls Tryd.prog 65 #[.slice A 2 2] w (fun ex w' => ∃ v, ex = .returned v ∧ (fun v w' => v = .int .i64 (if x = 0 then y else x) ∧ w' = w) v w') := by
  refine calls_of_W #[.tmp 2] 18 Tryd.func65 rfl Tryd.results65 Tryd.ntmps65 rfl ?_
  have M0 := Mem.refl w
  refine W_seq ?_
  refine W_region ?_
  refine wl_q (r_assign (.int _ _) rfl) rfl rfl ?_
  refine wl_nil ?_
  refine thenN ?_
  refine W_seq ?_
  refine W_region ?_
  refine wl_q (r_assign (.int _ _) rfl) rfl rfl ?_
  refine wl_nil ?_
  refine thenN ?_
  refine W_seq ?_
  refine W_seq ?_
  refine W_region ?_
  refine wl_q (r_move (.slice _ _ _) rfl) rfl rfl ?_
  refine wl_q (r_lenS Tryd.underlying141 rfl) rfl rfl ?_
  refine wl_re 7 (.int .i64 2) (iE rfl) ?_
  refine wl_q (r_move (.int _ _) rfl) rfl rfl ?_
  refine wl_nil ?_
  refine thenN ?_
  refine W_block ?_
  refine W_rounds 3 (Wr_s ?_)
  refine W_seq ?_
  refine W_region ?_
  refine wl_q (r_bin (.bool (decide _)) rfl rfl rfl) rfl rfl ?_
  refine wl_re 9 (.bool true) (bT (by omega)).symm ?_
  refine wl_nil ?_
  refine thenN ?_
  refine W_seq ?_
  refine W_condT rfl ?_
  refine W_skip ?_
  refine thenN ?_
  refine W_seq ?_
  refine W_block ?_
  refine W_seq ?_
  refine W_region ?_
  refine wl_q (r_idxR (0) sl141 rfl rfl rfl (R.below_len ((rfl : ([[.int .i64 x], [.int .i64 y]] : List (List Value))[0]? = some [.int .i64 x]))) (R.someK ((rfl : ([[.int .i64 x], [.int .i64 y]] : List (List Value))[0]? = some [.int .i64 x])))) rfl rfl ?_
  refine wl_q (r_ldE0 (.int _ _) one3 R ((rfl : ([[.int .i64 x], [.int .i64 y]] : List (List Value))[0]? = some [.int .i64 x])) rfl) rfl rfl ?_
  refine wl_q (r_assign (.int _ _) rfl) rfl rfl ?_
  refine wl_nil ?_
  refine thenN ?_
  refine W_seq ?_
  refine W_region ?_
  refine wl_q (r_move (.int _ _) rfl) rfl rfl ?_
  refine wl_q (r_move (.int _ _) rfl) rfl rfl ?_
  refine wl_q (r_bin (.bool (decide _)) rfl rfl rfl) rfl rfl ?_
  refine wl_nil ?_
  refine thenN ?_
  refine W_condD rfl (fun h14 => ?_) (fun h14 => ?_)
  · skip
    refine W_seq ?_
    refine W_region ?_
    refine wl_q (r_move (.int _ _) rfl) rfl rfl ?_
    refine wl_q (r_assign (.int _ _) rfl) rfl rfl ?_
    refine wl_nil ?_
    refine thenN ?_
    refine W_ret ?_
    refine blkR ?_
    refine thenR ?_
    refine thenR ?_
    refine blkR ?_
    refine thenR ?_
    skip
    refine fin1 (.int _ _) rfl ?_
    exact ⟨iE (by split <;> omega), rfl⟩
  · skip
    refine W_skip ?_
    refine blkN ?_
    refine thenN ?_
    refine W_region ?_
    refine wl_q (r_add rfl rfl (by omega) (by omega)) rfl rfl ?_
    refine wl_re 16 (.int .i64 1) (iE (by omega)) ?_
    refine wl_q (r_move (.int _ _) rfl) rfl rfl ?_
    refine wl_nil ?_
    refine thenN (Wr_s ?_)
    refine W_seq ?_
    refine W_region ?_
    refine wl_q (r_bin (.bool (decide _)) rfl rfl rfl) rfl rfl ?_
    refine wl_re 9 (.bool true) (bT (by omega)).symm ?_
    refine wl_nil ?_
    refine thenN ?_
    refine W_seq ?_
    refine W_condT rfl ?_
    refine W_skip ?_
    refine thenN ?_
    refine W_seq ?_
    refine W_block ?_
    refine W_seq ?_
    refine W_region ?_
    refine wl_q (r_idxR (1) sl141 rfl rfl rfl (R.below_len ((rfl : ([[.int .i64 x], [.int .i64 y]] : List (List Value))[1]? = some [.int .i64 y]))) (R.someK ((rfl : ([[.int .i64 x], [.int .i64 y]] : List (List Value))[1]? = some [.int .i64 y])))) rfl rfl ?_
    refine wl_q (r_ldE0 (.int _ _) one3 R ((rfl : ([[.int .i64 x], [.int .i64 y]] : List (List Value))[1]? = some [.int .i64 y])) rfl) rfl rfl ?_
    refine wl_q (r_assign (.int _ _) rfl) rfl rfl ?_
    refine wl_nil ?_
    refine thenN ?_
    refine W_seq ?_
    refine W_region ?_
    refine wl_q (r_move (.int _ _) rfl) rfl rfl ?_
    refine wl_q (r_move (.int _ _) rfl) rfl rfl ?_
    refine wl_q (r_bin (.bool (decide _)) rfl rfl rfl) rfl rfl ?_
    refine wl_nil ?_
    refine thenN ?_
    refine W_condD rfl (fun h14 => ?_) (fun h14 => ?_)
    · skip
      refine W_seq ?_
      refine W_region ?_
      refine wl_q (r_move (.int _ _) rfl) rfl rfl ?_
      refine wl_q (r_assign (.int _ _) rfl) rfl rfl ?_
      refine wl_nil ?_
      refine thenN ?_
      refine W_ret ?_
      refine blkR ?_
      refine thenR ?_
      refine thenR ?_
      refine blkR ?_
      refine thenR ?_
      skip
      refine fin1 (.int _ _) rfl ?_
      exact ⟨iE (by split <;> omega), rfl⟩
    · skip
      refine W_skip ?_
      refine blkN ?_
      refine thenN ?_
      refine W_region ?_
      refine wl_q (r_add rfl rfl (by omega) (by omega)) rfl rfl ?_
      refine wl_re 16 (.int .i64 2) (iE (by omega)) ?_
      refine wl_q (r_move (.int _ _) rfl) rfl rfl ?_
      refine wl_nil ?_
      refine thenN (Wr_s ?_)
      refine W_seq ?_
      refine W_region ?_
      refine wl_q (r_bin (.bool (decide _)) rfl rfl rfl) rfl rfl ?_
      refine wl_re 9 (.bool false) (bF (by omega)).symm ?_
      refine wl_nil ?_
      refine thenN ?_
      refine W_seq ?_
      refine W_condF rfl ?_
      refine W_exit ?_
      refine thenX ?_
      refine thenX ?_
      refine blkH ?_
      refine thenN ?_
      refine W_seq ?_
      refine W_region ?_
      refine wl_q (r_move (.int _ _) rfl) rfl rfl ?_
      refine wl_q (r_assign (.int _ _) rfl) rfl rfl ?_
      refine wl_nil ?_
      refine thenN ?_
      refine W_ret ?_
      skip
      refine fin1 (.int _ _) rfl ?_
      exact ⟨iE (by split <;> omega), rfl⟩

set_option maxHeartbeats 4000000 in
theorem grid_compare (a b : Int × Int) (w : World) :
    Calls Tryd.prog 53 #[(.agg (pairCells a).toArray), (.agg (pairCells b).toArray)] w (fun ex w' => ∃ v, ex = .returned v ∧ (fun v w' => v = .int .i64 (cmpP a b) ∧ ∃ q os, w' = Go.Sort.grow (w.drewN q) os) v w') := by
  refine calls_of_W #[.tmp 4] 17 Tryd.func53 rfl Tryd.results53 Tryd.ntmps53 rfl ?_
  have M0 := Mem.refl w
  refine W_seq ?_
  refine W_region ?_
  refine wl_boxE (.agg (List.toArray _)) M0 rfl rfl rfl (fun M1 => ?_)
  refine wl_boxE (.agg (List.toArray _)) M1 rfl rfl rfl (fun M2 => ?_)
  refine wl_q (r_assign (.int _ _) rfl) rfl rfl ?_
  refine wl_nil ?_
  refine thenN ?_
  refine W_seq ?_
  refine W_drawE [(0, 0), (1, 1), (2, 0), (3, 1), (5, 0), (6, 1), (7, 0), (8, 1), (4, 2), (9, 2), (10, 2), (11, 2), (12, 0)] mixed rfl (by kernel_rfl) ?_
  have M3 := M2.drewE
  refine D_p rfl rfl rfl (fun _ => r_fieldAddr 0 fld42_0 rfl) ?_
  refine D_r rfl rfl rfl (r_ld 0 (.int _ _) one25 M3 rfl rfl rfl) ?_
  refine D_p rfl rfl rfl (fun _ => r_fieldAddr 0 fld42_0 rfl) ?_
  refine D_r rfl rfl rfl (r_ld 1 (.int _ _) one25 M3 rfl rfl rfl) ?_
  refine D_p rfl rfl rfl (fun _ => r_fieldAddr 1 fld42_1 rfl) ?_
  refine D_r rfl rfl rfl (r_ld 0 (.int _ _) one25 M3 rfl rfl rfl) ?_
  refine D_p rfl rfl rfl (fun _ => r_fieldAddr 1 fld42_1 rfl) ?_
  refine D_r rfl rfl rfl (r_ld 1 (.int _ _) one25 M3 rfl rfl rfl) ?_
  refine D_e [false, false, true, true] rfl (by kernel_rfl) ?_
  refine wl_cal cal66 rfl rfl rfl ?_
  refine (cmp_Compare32 _ _ _).mono ?_
  rintro _ w4 ⟨v4, rfl, ⟨rfl, rfl⟩⟩
  refine ⟨_, rfl, ?_⟩
  have M4 : Mem _ _ [_, _] _ := M3
  refine wl_nil (thenN ⟨(alC (Yl_of rfl (r_ld 1 (.int _ _) one25 M4 rfl rfl rfl)) (alC (Yl_of rfl (r_ld 0 (.int _ _) one25 M4 rfl rfl rfl)) alN)), ?_⟩)
  refine D_e [true, true] rfl (by kernel_rfl) ?_
  refine wl_cal cal66 rfl rfl rfl ?_
  refine (cmp_Compare32 _ _ _).mono ?_
  rintro _ w5 ⟨v5, rfl, ⟨rfl, rfl⟩⟩
  refine ⟨_, rfl, ?_⟩
  have M5 : Mem _ _ [_, _] _ := M4
  refine wl_nil (thenN ⟨alN, ?_⟩)
  refine D_e [] rfl (by kernel_rfl) ?_
  refine wl_bsliceE [.int _ _, .int _ _] [[.int .i64 (cmpI a.1 b.1)], [.int .i64 (cmpI a.2 b.2)]] rfl sl141 M5 rfl rfl rfl rfl (lens_of rfl) (by decide) (fun M6 => ?_)
  refine wl_nil (thenN ⟨alN, ?_⟩)
  refine D_e [] rfl (by kernel_rfl) ?_
  refine wl_cal cal65 rfl rfl rfl ?_
  refine (cmp_Or2 _ _ _ _ ((rowLit (T := 3) [[.int .i64 (cmpI a.1 b.1)], [.int .i64 (cmpI a.2 b.2)]] (by simp) rfl (show 2 ≤ 281474976710656 by decide)).rd M6 (nthMem (i := 2) rfl))).mono ?_
  rintro _ w7 ⟨v7, rfl, ⟨rfl, rfl⟩⟩
  refine ⟨_, rfl, ?_⟩
  have M7 : Mem _ _ [_, _, _] _ := M6
  refine wl_nil (thenN ⟨alN, ?_⟩)
  refine D_p rfl rfl rfl (fun _ => r_assign (.int _ _) rfl) ?_
  refine D_nil ?_
  refine thenN ?_
  refine W_ret ?_
  skip
  refine fin1 (.int _ _) rfl ?_
  exact ⟨iE rfl, grow3 _ _ _ _⟩

theorem pair_cmp : CmpOk Tryd.prog 53 pairCells cmpP := fun x y w => grid_compare x y w
theorem pairKeyT : KeyT Tryd.prog 98 42 99 pairCells := by
  refine ⟨Tryd.underlying98, ⟨_, Tryd.underlying42⟩, fun a w => ?_, fun a b w => ?_, fun a => by simp [pairCells, Instr.sameBits]⟩
  · have h42 := run_underlying' (w := w) Tryd.underlying42
    have hc : ∀ x : Int, (Instr.checkKey false 9999 25 (.int .u32 x)).run Tryd.prog w = .ok () w := fun x => MapKept.run_checkKey (d := .int .u32) Tryd.underlying25 (by simp [MapKept.IsKey]) false 9998
    have p0 : (Go.part 25 #[.int .u32 a.1, .int .u32 a.2] 0).run Tryd.prog w = .ok (.int .u32 a.1) w := part1 (l := [.int .u32 a.1, .int .u32 a.2]) one25 rfl
    have p1 : (Go.part 25 #[.int .u32 a.1, .int .u32 a.2] 1).run Tryd.prog w = .ok (.int .u32 a.2) w := part1 (l := [.int .u32 a.1, .int .u32 a.2]) one25 rfl
    show (Instr.checkKey false (9999 + 1) 42 _).run _ w = _
    unfold Instr.checkKey
    simp only [Sem.run_bind, h42, Result.andThen_ok, pairCells]
    simp [p0, p1, hc, Sem.run_bind, Sem.run_pure]
  · have h := (eqA42 a.1 a.2 b.1 b.2).2 w
    have e : decide (a.1 = b.1 ∧ a.2 = b.2) = decide (a = b) := decide_eq_decide.2 Prod.ext_iff.symm
    rw [e] at h
    exact h
theorem sortFunc_pairs (w : World) (A : Option Addr) (n c : Nat) (xs : List (Int × Int)) (e : Ent) (hR : RowIs 42 2 A n c (xs.map pairCells) e) (hw : Own [e] w) (hn : n ≤ 1099511627776) :
    Calls Tryd.prog 63 #[.slice A n c, .func (.func 53) #[] #[]] w (fun ex w' => ∃ v, ex = .returned v ∧ v = .tuple #[] ∧ ∃ (ys : List (Int × Int)) (e' : Ent), ys.Perm xs ∧ (ys.Pairwise fun a b => ¬ ltP b a) ∧ RowIs 42 2 A n c (ys.map pairCells) e' ∧ Mem w (blks [e]) [e'] w') := by
  have h := sortFunc_rows sortP_lay (T := 42) agg42 pairCells pairCells_len (fun x v hv => by simp only [pairCells, List.mem_cons, List.not_mem_nil, or_false] at hv; rcases hv with h | h <;> subst h <;> rfl) _ swo_pair 53 cal53 pair_cmp w A xs e hR hw (by omega)
  refine Calls.mono h ?_
  rintro ex w' ⟨v, h1, h2, ys, e', h3, h4, h5, h6⟩
  refine ⟨v, h1, h2, ys, e', h3, ?_, h5, h6⟩
  refine List.pairwise_iff_getElem.2 fun i j hi hj hij => ?_
  have := h4 i j _ _ hij (List.getElem?_eq_getElem hi) (List.getElem?_eq_getElem hj)
  have h := of_decide_eq_false this
  rwa [cmpP_neg] at h

set_option maxHeartbeats 4000000 in
theorem maps_KeysP (w : World) (mb : Nat) :
    Calls Tryd.prog 52 #[.map (some mb)] w (fun ex w' => ∃ v, ex = .returned v ∧ (fun v w' => ∃ bb, v = .func (.func 64) #[] #[.pointer (some ⟨bb, 0, none⟩)] ∧ Mem w [] [(some bb, bc [.map (some mb)] 98)] w') v w') := by
  refine calls_of_W #[.tmp 2] 4 Tryd.func52 rfl Tryd.results52 Tryd.ntmps52 rfl ?_
  have M0 := Mem.refl w
  refine W_seq ?_
  refine W_region ?_
  refine wl_box (.map _) M0 rfl rfl rfl (fun b1 w1 M1 => ?_)
  refine wl_q (r_assign (_) rfl) rfl rfl ?_
  refine wl_nil ?_
  refine thenN ?_
  refine W_seq ?_
  refine W_region ?_
  refine wl_q (r_makeFuncV [] [.pointer _] rfl rfl) rfl rfl ?_
  refine wl_q (r_assign (.func _ _ _) rfl) rfl rfl ?_
  refine wl_nil ?_
  refine thenN ?_
  refine W_ret ?_
  skip
  refine fin1 (.func _ _ _) rfl ?_
  exact ⟨b1, rfl, M1⟩

set_option maxHeartbeats 4000000 in
theorem maps_KeysP1 (w : World) (bb : Nat) (mb clock : Nat) (L : List ((Int × Int) × Nat)) (hmb : w.heap[mb]? = some (setObj' pairCells L clock)) (hml : mb < w.heap.size) (hS : SetOk L clock) (hLN : L.length < 1099511627776) (B1 : Rd w 1 (some ⟨bb, 0, none⟩) 1 [[.map (some mb)]]) (lp ob : Nat) (rec : Loop) (hY : YieldApp Tryd.prog lp ob rec 29 42 2 1099511627776 (fun x => ∃ a b, x = [.int .u32 a, .int .u32 b])) (r0 : Row) (hr0 : RowIs 42 2 r0.A r0.n r0.c [] r0.e) (hO : Own [(some lp, .loop rec), (some ob, bc [.slice r0.A r0.n r0.c] 29), r0.e] w) (hd1 : 0 < 1 → ∀ q off, (some ⟨bb, 0, none⟩ : Option Addr) = some ⟨q, off, none⟩ → q ∉ blks [(some lp, .loop rec), (some ob, bc [.slice r0.A r0.n r0.c] 29), r0.e]) (hmX : mb ∉ blks [(some lp, .loop rec), (some ob, bc [.slice r0.A r0.n r0.c] 29), r0.e]) :
    Calls Tryd.prog 64 #[.func (.yield lp) #[] #[], .pointer (some ⟨bb, 0, none⟩)] w (fun ex w' => ∃ v, ex = .returned v ∧ (fun v w' => v = .tuple #[] ∧ ∃ (r : Row) (T : List ((Int × Int) × Nat)), T.Perm L ∧ RowIs 42 2 r.A r.n r.c ((T.map (fun z => z.1)).map pairCells) r.e ∧ Mem w (blks [(some lp, .loop rec), (some ob, bc [.slice r0.A r0.n r0.c] 29), r0.e]) [(some lp, .loop rec), (some ob, bc [.slice r.A r.n r.c] 29), r.e] w') v w') := by
  rw [← elt_zero bb]
  refine calls_of_W #[] 14 Tryd.func64 rfl Tryd.results64 Tryd.ntmps64 rfl ?_
  have M0 := hO.mem
  refine W_seq ?_
  refine W_region ?_
  refine wl_q (r_ldE (o := 0) (.map _) one98 (B1.memY M0 hd1) (show ([[.map (some mb)]] : List (List Value))[0]? = some ([.map (some mb)]) from rfl) rfl rfl) rfl rfl ?_
  refine wl_range (α := Int × Int) Tryd.underlying98 M0 rfl rfl rfl ((M0.old mb hml hmX).trans hmb) (fun b1 w1 M1 => ?_)
  refine wl_nil ?_
  refine thenN ?_
  refine W_block ?_
  refine W_loop (σ := List ((Int × Int) × Nat) × Row) [0, 5] (fun (T, r) => []) (fun (T, r) w' => ((∀ p ∈ T, p ∈ L) ∧ (T.map (·.2)).Nodup ∧ RowIs 42 2 r.A r.n r.c ((T.map (fun z => z.1)).map pairCells) r.e) ∧ Mem w (blks [(some lp, .loop rec), (some ob, bc [.slice r0.A r0.n r0.c] 29), r0.e]) [(some lp, .loop rec), (some ob, bc [.slice r.A r.n r.c] 29), r.e, (some b1, iterO mb clock T)] w') (fun (T, r) => L.length - T.length) ([], r0) agN (⟨⟨(fun p hp => nomatch hp), by simp, hr0⟩, M1⟩) ?_
  rintro ⟨T, r⟩ ρ2 w2 ⟨⟨hTs, hTn, hr⟩, hM2⟩
  have hrl : T.length = r.n := by simpa using hr.1
  have hTl := came_len hTn hTs
  refine W_seq ?_
  refine W_region ?_
  refine wl_next (enc := pairCells) 3 hM2 rfl rfl rfl rfl ((hM2.old mb hml hmX).trans hmb) hS.lt (fun hover => ?_) (fun p3 w3 hp3 hnp3 M3 => ?_)
  · skip
    refine wl_q (r_ext (.bool false) rfl rfl) rfl rfl ?_
    refine wl_nil ?_
    refine thenN ?_
    refine W_seq ?_
    refine W_condF rfl ?_
    refine W_exit ?_
    refine thenX ?_
    refine roundX ?_
    refine blkH ?_
    refine fin0n ?_
    exact ⟨rfl, r, T, came_all hS.nd hTn hTs hover, hr, hM2.keep [true, true, true, false]⟩
  · skip
    refine wl_q (r_ext (.bool true) rfl rfl) rfl rfl ?_
    refine wl_nil ?_
    refine thenN ?_
    refine W_seq ?_
    refine W_condT rfl ?_
    refine W_skip ?_
    refine thenN ?_
    refine W_block ?_
    refine W_seq ?_
    refine W_region ?_
    refine wl_q (r_entry (enc := pairCells) 3 (p3) M3 rfl rfl ((M3.old mb hml hmX).trans hmb) hp3 hS.nd) rfl rfl ?_
    refine wl_q (r_ext (.agg (List.toArray _)) rfl rfl) rfl rfl ?_
    refine wl_alloc zero42 M3 rfl rfl (fun b4 w4 M4 => ?_)
    refine wl_stW 4 _ agg42 M4 rfl rfl rfl rfl rfl (ones_of rfl) rfl (fun w5 M5 => ?_)
    refine wl_nil ?_
    refine thenN ?_
    refine W_seq ?_
    refine W_regionY ?_
    refine wlY_q (r_move (.func _ _ _) rfl) rfl rfl ?_
    refine wlY_q (r_ldW 4 agg42 M5 rfl rfl rfl) rfl rfl ?_
    obtain ⟨fy, ty, ay, by1, hy1, hy2⟩ := hY _ r ((T.map (fun z => z.1)).map pairCells) (pairCells p3.1) ⟨_, _, rfl⟩ (by omega) hr (M5.ownSeg 0 3)
    refine wlY_yield rfl rfl rfl rfl hy1 (hy2.mono ?_)
    rintro _ w6 ⟨rfl, q6, hqn6, hq6, hM6⟩
    have M6 : Mem _ _ [_, _, _, _, _] _ := M5.seg 0 3 hM6
    refine ⟨_, rfl, ?_⟩
    refine wlY_of rfl (fun _ _ h => h) ?_
    refine wl_q (r_notB false rfl rfl) rfl rfl ?_
    refine wl_nil ?_
    refine thenN ?_
    refine W_condF rfl ?_
    refine W_skip ?_
    refine blkN ?_
    have hTs2 : ∀ p ∈ T ++ [p3], p ∈ L := fun p hp => (List.mem_append.1 hp).elim (hTs p) (fun h => by rw [List.mem_singleton] at h; rw [h]; exact hp3)
    have hTn2 := came_snoc hTn hnp3
    have hTl2 := came_len hTn2 hTs2
    rw [List.length_append, List.length_singleton] at hTl2
    refine roundN (T ++ [p3], q6) agN (akC rfl (akC rfl akN)) ?_ ?_
    · exact ⟨⟨hTs2, hTn2, by rw [List.map_append, List.map_append]; exact hq6⟩, M6.keep [true, true, true, true, false]⟩
    · (show L.length - (T ++ [p3]).length < L.length - T.length; rw [List.length_append, List.length_singleton]; omega)

set_option maxHeartbeats 4000000 in
theorem slices_AppendSeqP (w : World) (bb : Nat) (mb clock : Nat) (L : List ((Int × Int) × Nat)) (hmb : w.heap[mb]? = some (setObj' pairCells L clock)) (hml : mb < w.heap.size) (hS : SetOk L clock) (hLN : L.length < 1099511627776) (B1 : Rd w 1 (some ⟨bb, 0, none⟩) 1 [[.map (some mb)]]) :
    Calls Tryd.prog 77 #[.slice none 0 0, .func (.func 64) #[] #[.pointer (some ⟨bb, 0, none⟩)]] w (fun ex w' => ∃ v, ex = .returned v ∧ (fun v w' => ∃ (r : Row) (T : List ((Int × Int) × Nat)), T.Perm L ∧ v = .slice r.A r.n r.c ∧ RowIs 42 2 r.A r.n r.c ((T.map (fun z => z.1)).map pairCells) r.e ∧ Mem w [] [r.e] w') v w') := by
  refine calls_of_W2 #[.tmp 4] 13 Tryd.func77 rfl Tryd.results77 Tryd.ntmps77 rfl ?_
  have M0 := Mem.refl w
  refine W2_seq ?_
  refine W2_region0 ?_
  refine wl_box (.slice _ _ _) M0 rfl rfl rfl (fun b1 w1 M1 => ?_)
  refine wl_q (r_assign (.slice _ _ _) rfl) rfl rfl ?_
  refine wl_nil ?_
  refine then2N ?_
  refine W2_seq ?_
  refine W2_seq ?_
  refine W2_region0 ?_
  refine wl_q (r_move (.func _ _ _) rfl) rfl rfl ?_
  refine wl_nil ?_
  refine then2N ?_
  refine W2_block ?_
  have M2 : Mem _ _ [_, _] _ := M1.dummy default
  refine W2_range cal64 M2 rfl (fun fnn B lp tmps w1 hρ hn M1 => ?_)
  refine with_yield (P := Tryd.prog) (ob := b1) (Tsl := 29) (Te := 42) (sz := 2) (N := 1099511627776) (ok := (fun x => ∃ a b, x = [.int .u32 a, .int .u32 b])) M1 ?_ (fun hY => ?_)
  · skip
    intro wr r ls x hok hlt hrow hO
    obtain ⟨xa, xb, rfl⟩ := hok
    refine ⟨_, _, _, _, round_go hO rfl rfl rfl hn (by decide) hρ ?_⟩
    have MR0 := hO.mem
    refine WR_region rfl (fun _ _ h => nomatch h.1) ?_
    refine wl_alloc zero42 MR0 rfl rfl (fun b3 w3 M3 => ?_)
    refine wl_stW 3 _ agg42 M3 rfl rfl rfl rfl rfl (ones_of rfl) rfl (fun w4 M4 => ?_)
    refine wl_nil ?_
    refine ⟨rfl, _, M4, rfl, fun w5 M5 => ?_⟩
    refine WR_block ?_
    refine WR_region rfl (fun _ _ h => nomatch h.1) ?_
    refine wl_q (r_ld 1 (.slice _ _ _) one29 M5 rfl rfl rfl) rfl rfl ?_
    refine wl_q (r_ldW 3 agg42 M5 rfl rfl rfl) rfl rfl ?_
    refine wl_bslice [.agg (List.toArray _)] [[.int .u32 xa, .int .u32 xb]] rfl sl29 M5 rfl rfl rfl rfl (lens_of rfl) (by decide) (fun b6 w6 M6 => ?_)
    refine wl_append 2 [[.int .u32 xa, .int .u32 xb]] sl29 M6 rfl rfl rfl rfl rfl hrow rfl (by simp [Go.Bil.one]) (Cells.ofMem 4 M6 rfl) (by omega) (fun A7 c7 e7 w7 M7 hR7 => ?_)
    refine wl_st 1 (.slice _ _ _) one29 M7 rfl rfl rfl rfl rfl rfl (fun w8 M8 => ?_)
    refine wl_nil ?_
    refine blkN ?_
    refine ⟨rfl, _, M8, rfl, fun w9 M9 => ?_⟩
    exact ⟨⟨A7, r.n + 1, c7, e7⟩, rfl, hR7, M9.keep [true, true, true, false, false]⟩
  · skip
    refine (maps_KeysP1 _ bb mb clock L ((M1.old mb hml List.not_mem_nil).trans hmb) (Nat.lt_of_lt_of_le hml M1.size) hS hLN (B1.mem M1) lp b1 _ hY ⟨none, 0, 0, (none, default)⟩ (RowIs.nil _ _ _) (M1.ownSeg 0 3) (M1.away 0 3 B1 (fun _ q off _ h => by simp at h)) (M1.notNew 3 hml)).mono ?_
    rintro _ w5 ⟨v5, rfl, rfl, r, T, hT, hr, hM⟩
    have M5 : Mem _ _ (_ :: [_, _, _]) _ := M1.seg 0 3 hM
    refine ⟨_, rfl, _, M5, fun w6 M6 => ?_⟩
    refine blk2N ?_
    refine then2N ?_
    refine W2_seq ?_
    refine W2_region ?_
    refine wl2_q (r_ld 1 (.slice _ _ _) one29 M6 rfl rfl rfl) rfl rfl ?_
    refine wl2_q (r_assign (.slice _ _ _) rfl) rfl rfl ?_
    refine wl2_nil ?_
    refine then2N ?_
    refine W2_ret ?_
    skip
    refine fin1M (i := 3) (.slice _ _ _) rfl M6 rfl (fun w9 M9 => ?_)
    exact ⟨r, T, hT, rfl, hr, M9.keep [false, false, true, false]⟩

set_option maxHeartbeats 4000000 in
theorem slices_CollectP (w : World) (bb : Nat) (mb clock : Nat) (L : List ((Int × Int) × Nat)) (hmb : w.heap[mb]? = some (setObj' pairCells L clock)) (hml : mb < w.heap.size) (hS : SetOk L clock) (hLN : L.length < 1099511627776) (B1 : Rd w 1 (some ⟨bb, 0, none⟩) 1 [[.map (some mb)]]) :
    Calls Tryd.prog 62 #[.func (.func 64) #[] #[.pointer (some ⟨bb, 0, none⟩)]] w (fun ex w' => ∃ v, ex = .returned v ∧ (fun v w' => ∃ (r : Row) (T : List ((Int × Int) × Nat)), T.Perm L ∧ v = .slice r.A r.n r.c ∧ RowIs 42 2 r.A r.n r.c ((T.map (fun z => z.1)).map pairCells) r.e ∧ Mem w [] [r.e] w') v w') := by
  refine calls_of_W #[.tmp 2] 5 Tryd.func62 rfl Tryd.results62 Tryd.ntmps62 rfl ?_
  have M0 := Mem.refl w
  refine W_seq ?_
  refine W_region ?_
  refine wl_q (r_assign (.slice _ _ _) rfl) rfl rfl ?_
  refine wl_nil ?_
  refine thenN ?_
  refine W_seq ?_
  refine W_region ?_
  refine wl_q (r_move (.func _ _ _) rfl) rfl rfl ?_
  refine wl_cal cal77 rfl rfl rfl ?_
  refine (slices_AppendSeqP _ bb mb clock L ((M0.old mb hml List.not_mem_nil).trans hmb) (Nat.lt_of_lt_of_le hml M0.size) hS hLN (B1.mem M0)).mono ?_
  rintro _ w1 ⟨v1, rfl, ⟨r, T, hT, rfl, hr, hM1⟩⟩
  refine ⟨_, rfl, ?_⟩
  have M1 : Mem _ _ [_] _ := M0.call0 hM1
  refine wl_q (r_assign (.slice _ _ _) rfl) rfl rfl ?_
  refine wl_nil ?_
  refine thenN ?_
  refine W_ret ?_
  skip
  refine fin1 (.slice _ _ _) rfl ?_
  exact ⟨r, T, hT, rfl, hr, M1⟩

set_option maxHeartbeats 4000000 in
theorem slices_SortedFuncP (w : World) (bb : Nat) (mb clock : Nat) (L : List ((Int × Int) × Nat)) (hmb : w.heap[mb]? = some (setObj' pairCells L clock)) (hml : mb < w.heap.size) (hS : SetOk L clock) (hLN : L.length < 1099511627776) (B1 : Rd w 1 (some ⟨bb, 0, none⟩) 1 [[.map (some mb)]]) :
    Calls Tryd.prog 51 #[.func (.func 64) #[] #[.pointer (some ⟨bb, 0, none⟩)], .func (.func 53) #[] #[]] w (fun ex w' => ∃ v, ex = .returned v ∧ (fun v w' => ∃ (r : Row) (ys : List (Int × Int)), Asc ys ∧ (∀ z, z ∈ ys ↔ z ∈ L.map (·.1)) ∧ v = .slice r.A r.n r.c ∧ RowIs 42 2 r.A r.n r.c ((ys).map pairCells) r.e ∧ Mem w [] [r.e] w') v w') := by
  refine calls_of_W #[.tmp 4] 12 Tryd.func51 rfl Tryd.results51 Tryd.ntmps51 rfl ?_
  have M0 := Mem.refl w
  refine W_seq ?_
  refine W_region ?_
  refine wl_q (r_assign (.slice _ _ _) rfl) rfl rfl ?_
  refine wl_nil ?_
  refine thenN ?_
  refine W_seq ?_
  refine W_region ?_
  refine wl_q (r_move (.func _ _ _) rfl) rfl rfl ?_
  refine wl_cal cal62 rfl rfl rfl ?_
  refine (slices_CollectP _ bb mb clock L ((M0.old mb hml List.not_mem_nil).trans hmb) (Nat.lt_of_lt_of_le hml M0.size) hS hLN (B1.mem M0)).mono ?_
  rintro _ w1 ⟨v1, rfl, ⟨r, T, hT, rfl, hr, hM1⟩⟩
  refine ⟨_, rfl, ?_⟩
  have M1 : Mem _ _ [_] _ := M0.call0 hM1
  have hrl : T.length = r.n := by simpa using hr.1
  have hTL := hT.length_eq
  refine wl_q (r_assign (.slice _ _ _) rfl) rfl rfl ?_
  refine wl_nil ?_
  refine thenN ?_
  refine W_seq ?_
  refine W_region ?_
  refine wl_q (r_move (.slice _ _ _) rfl) rfl rfl ?_
  refine wl_q (r_move (.func _ _ _) rfl) rfl rfl ?_
  refine wl_cal cal63 rfl rfl rfl ?_
  refine (sortFunc_pairs _ _ _ _ (T.map (fun z => z.1)) _ hr (M1.ownAt (i := 0) rfl) (by omega)).mono ?_
  rintro _ w2 ⟨v2, rfl, ⟨rfl, ys, e2, hpp, huu, hR2, hM2⟩⟩
  refine ⟨_, rfl, ?_⟩
  have M2 : Mem _ _ [_] _ := M1.seg 0 1 hM2
  refine wl_nil ?_
  refine thenN ?_
  refine W_seq ?_
  refine W_region ?_
  refine wl_q (r_move (.slice _ _ _) rfl) rfl rfl ?_
  refine wl_q (r_assign (.slice _ _ _) rfl) rfl rfl ?_
  refine wl_nil ?_
  refine thenN ?_
  refine W_ret ?_
  skip
  refine fin1 (.slice _ _ _) rfl ?_
  have hpl : ys.Perm (L.map (·.1)) := hpp.trans (hT.map _)
  exact ⟨⟨r.A, r.n, r.c, e2⟩, ys, asc_of (hpl.nodup_iff.2 hS.keys) huu, fun z => hpl.mem_iff, rfl, hR2, M2⟩

end Go.Proofs.YtfgbmegchdjfeaaDoor
