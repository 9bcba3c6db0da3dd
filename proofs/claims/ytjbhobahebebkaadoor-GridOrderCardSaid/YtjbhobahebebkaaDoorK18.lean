/- Part of the proof of the laws of this seat: P10, Q10. No conditions. -/
import Derived.Test.YtjbhobahebebkaaDoorK5
import Derived.Test.YtjbhobahebebkaaDoorK14
import Derived.Test.YtjbhobahebebkaaDoorK16
import Derived.Test.YtjbhobahebebkaaDoorK17
/- Walks of Go functions over the frame of this claim: what each computes, for every input of the stated types (P10). -/
set_option linter.unusedVariables false
set_option linter.unusedSimpArgs false
set_option linter.unnecessarySimpa false
namespace Go.Proofs.YtjbhobahebebkaaDoor
open Go.Bil
open Go.RowKit (Below)
open Go.Proofs

set_option maxHeartbeats 4000000 in
theorem grid_pair (w : World) (a b : Int) :
    Calls Tryd.prog 24 #[.int .u32 a, .int .u32 b] w (fun ex w' => ∃ v, ex = .returned v ∧ (fun v w' => v = (.agg (pairCells (prI a b)).toArray) ∧ Below w.heap.size w w') v w') := by
  refine calls_of_W #[.cell 4 44] 12 Tryd.func24 rfl Tryd.results24 Tryd.ntmps24 rfl ?_
  have M0 := Mem.refl w
  refine W_seq ?_
  refine W_region ?_
  refine wl_alloc zero44 M0 rfl rfl (fun b1 w1 M1 => ?_)
  refine wl_nil ?_
  refine thenN ?_
  refine W_seq ?_
  refine W_region ?_
  refine wl_q (r_move (.int _ _) rfl) rfl rfl ?_
  refine wl_q (r_move (.int _ _) rfl) rfl rfl ?_
  refine wl_q (r_min2 rfl rfl ) rfl rfl ?_
  refine wl_q (r_move (.int _ _) rfl) rfl rfl ?_
  refine wl_q (r_move (.int _ _) rfl) rfl rfl ?_
  refine wl_q (r_max2 rfl rfl ) rfl rfl ?_
  refine wl_q (r_build [(0, .int _ _), (1, .int _ _)] _ struct44 rfl rfl) rfl rfl ?_
  refine wl_stW 0 _ agg44 M1 rfl rfl rfl rfl rfl (ones_of rfl) rfl (fun w2 M2 => ?_)
  refine wl_nil ?_
  refine thenN ?_
  refine W_ret ?_
  skip
  refine finC1 0 agg44 M2 rfl rfl rfl ?_
  exact ⟨rfl, M2.below⟩

set_option maxHeartbeats 4000000 in
theorem cmp_Or2 (w : World) (A : Option Addr) (x y : Int) (R : Rd w 1 A 2 [[.int .i64 x], [.int .i64 y]]) :
    Calls Tryd.prog 44 #[.slice A 2 2] w (fun ex w' => ∃ v, ex = .returned v ∧ (fun v w' => v = .int .i64 (if x = 0 then y else x) ∧ w' = w) v w') := by
  refine calls_of_W #[.tmp 2] 18 Tryd.func44 rfl Tryd.results44 Tryd.ntmps44 rfl ?_
  have M0 := Mem.refl w
  refine W_seq ?_
  refine W_region ?_
  refine wl_q (r_assign (.int _ _) rfl) rfl rfl ?_
  refine wl_nil ?_
  refine thenN ?_
  refine W_seq ?_
  refine W_region ?_
  refine wl_q (r_assign (.int _ _) rfl) rfl rfl ?_
  refine wl_nil ?_
  refine thenN ?_
  refine W_seq ?_
  refine W_seq ?_
  refine W_region ?_
  refine wl_q (r_move (.slice _ _ _) rfl) rfl rfl ?_
  refine wl_q (r_lenS Tryd.underlying67 rfl) rfl rfl ?_
  refine wl_re 7 (.int .i64 2) (iE rfl) ?_
  refine wl_q (r_move (.int _ _) rfl) rfl rfl ?_
  refine wl_nil ?_
  refine thenN ?_
  refine W_block ?_
  refine W_rounds 3 (Wr_s ?_)
  refine W_seq ?_
  refine W_region ?_
  refine wl_q (r_bin (.bool (decide _)) rfl rfl rfl) rfl rfl ?_
  refine wl_re 9 (.bool true) (bT (by first | decide | omega)).symm ?_
  refine wl_nil ?_
  refine thenN ?_
  refine W_seq ?_
  refine W_condT rfl ?_
  refine W_skip ?_
  refine thenN ?_
  refine W_seq ?_
  refine W_block ?_
  refine W_seq ?_
  refine W_region ?_
  refine wl_q (r_idxR (0) sl67 rfl rfl rfl (R.below_len ((rfl : ([[.int .i64 x], [.int .i64 y]] : List (List Value))[0]? = some [.int .i64 x]))) (R.someK ((rfl : ([[.int .i64 x], [.int .i64 y]] : List (List Value))[0]? = some [.int .i64 x])))) rfl rfl ?_
  refine wl_q (r_ldE0 (.int _ _) one3 R ((rfl : ([[.int .i64 x], [.int .i64 y]] : List (List Value))[0]? = some [.int .i64 x])) rfl) rfl rfl ?_
  refine wl_q (r_assign (.int _ _) rfl) rfl rfl ?_
  refine wl_nil ?_
  refine thenN ?_
  refine W_seq ?_
  refine W_region ?_
  refine wl_q (r_move (.int _ _) rfl) rfl rfl ?_
  refine wl_q (r_move (.int _ _) rfl) rfl rfl ?_
  refine wl_q (r_bin (.bool (decide _)) rfl rfl rfl) rfl rfl ?_
  refine wl_nil ?_
  refine thenN ?_
  refine W_condD rfl (fun h14 => ?_) (fun h14 => ?_)
  · skip
    refine W_seq ?_
    refine W_region ?_
    refine wl_q (r_move (.int _ _) rfl) rfl rfl ?_
    refine wl_q (r_assign (.int _ _) rfl) rfl rfl ?_
    refine wl_nil ?_
    refine thenN ?_
    refine W_ret ?_
    refine blkR ?_
    refine thenR ?_
    refine thenR ?_
    refine blkR ?_
    refine thenR ?_
    skip
    refine fin1 (.int _ _) rfl ?_
    exact ⟨iE (by split <;> omega), rfl⟩
  · skip
    refine W_skip ?_
    refine blkN ?_
    refine thenN ?_
    refine W_region ?_
    refine wl_q (r_add rfl rfl (by first | decide | omega) (by first | decide | omega)) rfl rfl ?_
    refine wl_re 16 (.int .i64 1) (iE (by first | decide | omega)) ?_
    refine wl_q (r_move (.int _ _) rfl) rfl rfl ?_
    refine wl_nil ?_
    refine thenN (Wr_s ?_)
    refine W_seq ?_
    refine W_region ?_
    refine wl_q (r_bin (.bool (decide _)) rfl rfl rfl) rfl rfl ?_
    refine wl_re 9 (.bool true) (bT (by first | decide | omega)).symm ?_
    refine wl_nil ?_
    refine thenN ?_
    refine W_seq ?_
    refine W_condT rfl ?_
    refine W_skip ?_
    refine thenN ?_
    refine W_seq ?_
    refine W_block ?_
    refine W_seq ?_
    refine W_region ?_
    refine wl_q (r_idxR (1) sl67 rfl rfl rfl (R.below_len ((rfl : ([[.int .i64 x], [.int .i64 y]] : List (List Value))[1]? = some [.int .i64 y]))) (R.someK ((rfl : ([[.int .i64 x], [.int .i64 y]] : List (List Value))[1]? = some [.int .i64 y])))) rfl rfl ?_
    refine wl_q (r_ldE0 (.int _ _) one3 R ((rfl : ([[.int .i64 x], [.int .i64 y]] : List (List Value))[1]? = some [.int .i64 y])) rfl) rfl rfl ?_
    refine wl_q (r_assign (.int _ _) rfl) rfl rfl ?_
    refine wl_nil ?_
    refine thenN ?_
    refine W_seq ?_
    refine W_region ?_
    refine wl_q (r_move (.int _ _) rfl) rfl rfl ?_
    refine wl_q (r_move (.int _ _) rfl) rfl rfl ?_
    refine wl_q (r_bin (.bool (decide _)) rfl rfl rfl) rfl rfl ?_
    refine wl_nil ?_
    refine thenN ?_
    refine W_condD rfl (fun h14 => ?_) (fun h14 => ?_)
    · skip
      refine W_seq ?_
      refine W_region ?_
      refine wl_q (r_move (.int _ _) rfl) rfl rfl ?_
      refine wl_q (r_assign (.int _ _) rfl) rfl rfl ?_
      refine wl_nil ?_
      refine thenN ?_
      refine W_ret ?_
      refine blkR ?_
      refine thenR ?_
      refine thenR ?_
      refine blkR ?_
      refine thenR ?_
      skip
      refine fin1 (.int _ _) rfl ?_
      exact ⟨iE (by split <;> omega), rfl⟩
    · skip
      refine W_skip ?_
      refine blkN ?_
      refine thenN ?_
      refine W_region ?_
      refine wl_q (r_add rfl rfl (by first | decide | omega) (by first | decide | omega)) rfl rfl ?_
      refine wl_re 16 (.int .i64 2) (iE (by first | decide | omega)) ?_
      refine wl_q (r_move (.int _ _) rfl) rfl rfl ?_
      refine wl_nil ?_
      refine thenN (Wr_s ?_)
      refine W_seq ?_
      refine W_region ?_
      refine wl_q (r_bin (.bool (decide _)) rfl rfl rfl) rfl rfl ?_
      refine wl_re 9 (.bool false) (bF (by first | decide | omega)).symm ?_
      refine wl_nil ?_
      refine thenN ?_
      refine W_seq ?_
      refine W_condF rfl ?_
      refine W_exit ?_
      refine thenX ?_
      refine thenX ?_
      refine blkH ?_
      refine thenN ?_
      refine W_seq ?_
      refine W_region ?_
      refine wl_q (r_move (.int _ _) rfl) rfl rfl ?_
      refine wl_q (r_assign (.int _ _) rfl) rfl rfl ?_
      refine wl_nil ?_
      refine thenN ?_
      refine W_ret ?_
      skip
      refine fin1 (.int _ _) rfl ?_
      exact ⟨iE (by split <;> omega), rfl⟩

set_option maxHeartbeats 4000000 in
theorem grid_compare (a b : Int × Int) (w : World) :
    Calls Tryd.prog 27 #[(.agg (pairCells a).toArray), (.agg (pairCells b).toArray)] w (fun ex w' => ∃ v, ex = .returned v ∧ (fun v w' => v = .int .i64 (cmpP a b) ∧ ∃ q os, w' = Go.Sort.grow (w.drewN q) os) v w') := by
  refine calls_of_W #[.tmp 4] 17 Tryd.func27 rfl Tryd.results27 Tryd.ntmps27 rfl ?_
  have M0 := Mem.refl w
  refine W_seq ?_
  refine W_region ?_
  refine wl_boxE (.agg (List.toArray _)) M0 rfl rfl rfl (fun M1 => ?_)
  refine wl_boxE (.agg (List.toArray _)) M1 rfl rfl rfl (fun M2 => ?_)
  refine wl_q (r_assign (.int _ _) rfl) rfl rfl ?_
  refine wl_nil ?_
  refine thenN ?_
  refine W_seq ?_
  refine W_drawE [(0, 0), (1, 1), (2, 0), (3, 1), (5, 0), (6, 1), (7, 0), (8, 1), (4, 2), (9, 2), (10, 2), (11, 2), (12, 0)] mixed rfl (by kernel_rfl) ?_
  have M3 := M2.drewE
  refine D_p rfl rfl rfl (fun _ => r_fieldAddr 0 fld44_0 rfl) ?_
  refine D_r rfl rfl rfl (r_ld 0 (.int _ _) one42 M3 rfl rfl rfl) ?_
  refine D_p rfl rfl rfl (fun _ => r_fieldAddr 0 fld44_0 rfl) ?_
  refine D_r rfl rfl rfl (r_ld 1 (.int _ _) one42 M3 rfl rfl rfl) ?_
  refine D_p rfl rfl rfl (fun _ => r_fieldAddr 1 fld44_1 rfl) ?_
  refine D_r rfl rfl rfl (r_ld 0 (.int _ _) one42 M3 rfl rfl rfl) ?_
  refine D_p rfl rfl rfl (fun _ => r_fieldAddr 1 fld44_1 rfl) ?_
  refine D_r rfl rfl rfl (r_ld 1 (.int _ _) one42 M3 rfl rfl rfl) ?_
  refine D_e [false, false, true, true] rfl (by kernel_rfl) ?_
  refine wl_cal cal45 rfl rfl rfl ?_
  refine (cmp_Compare32 _ _ _).mono ?_
  rintro _ w4 ⟨v4, rfl, ⟨rfl, rfl⟩⟩
  refine ⟨_, rfl, ?_⟩
  have M4 : Mem _ _ [_, _] _ := M3
  refine wl_nil (thenN ⟨(alC (Yl_of rfl (r_ld 1 (.int _ _) one42 M4 rfl rfl rfl)) (alC (Yl_of rfl (r_ld 0 (.int _ _) one42 M4 rfl rfl rfl)) alN)), ?_⟩)
  refine D_e [true, true] rfl (by kernel_rfl) ?_
  refine wl_cal cal45 rfl rfl rfl ?_
  refine (cmp_Compare32 _ _ _).mono ?_
  rintro _ w5 ⟨v5, rfl, ⟨rfl, rfl⟩⟩
  refine ⟨_, rfl, ?_⟩
  have M5 : Mem _ _ [_, _] _ := M4
  refine wl_nil (thenN ⟨alN, ?_⟩)
  refine D_e [] rfl (by kernel_rfl) ?_
  refine wl_bsliceE [.int _ _, .int _ _] [[.int .i64 (cmpI a.1 b.1)], [.int .i64 (cmpI a.2 b.2)]] rfl sl67 M5 rfl rfl rfl rfl (lens_of rfl) (by decide) (fun M6 => ?_)
  refine wl_nil (thenN ⟨alN, ?_⟩)
  refine D_e [] rfl (by kernel_rfl) ?_
  refine wl_cal cal44 rfl rfl rfl ?_
  refine (cmp_Or2 _ _ _ _ ((rowLit (T := 3) [[.int .i64 (cmpI a.1 b.1)], [.int .i64 (cmpI a.2 b.2)]] (by simp) rfl (show 2 ≤ 281474976710656 by decide)).rd M6 (nthMem (i := 2) rfl))).mono ?_
  rintro _ w7 ⟨v7, rfl, ⟨rfl, rfl⟩⟩
  refine ⟨_, rfl, ?_⟩
  have M7 : Mem _ _ [_, _, _] _ := M6
  refine wl_nil (thenN ⟨alN, ?_⟩)
  refine D_p rfl rfl rfl (fun _ => r_assign (.int _ _) rfl) ?_
  refine D_nil ?_
  refine thenN ?_
  refine W_ret ?_
  skip
  refine fin1 (.int _ _) rfl ?_
  exact ⟨iE rfl, grow3 _ _ _ _⟩

theorem pair_cmp : CmpOk Tryd.prog 27 pairCells cmpP := fun x y w => grid_compare x y w
theorem pairKeyT : KeyT Tryd.prog 58 44 59 pairCells := by
  refine ⟨Tryd.underlying58, ⟨_, Tryd.underlying44⟩, fun a w => ?_, fun a b w => ?_, fun a => by simp [pairCells, Instr.sameBits]⟩
  · have h42 := run_underlying' (w := w) Tryd.underlying44
    have hc : ∀ x : Int, (Instr.checkKey false 9999 42 (.int .u32 x)).run Tryd.prog w = .ok () w := fun x => MapKept.run_checkKey (d := .int .u32) Tryd.underlying42 (by simp [MapKept.IsKey]) false 9998
    have p0 : (Go.part 42 #[.int .u32 a.1, .int .u32 a.2] 0).run Tryd.prog w = .ok (.int .u32 a.1) w := part1 (l := [.int .u32 a.1, .int .u32 a.2]) one42 rfl
    have p1 : (Go.part 42 #[.int .u32 a.1, .int .u32 a.2] 1).run Tryd.prog w = .ok (.int .u32 a.2) w := part1 (l := [.int .u32 a.1, .int .u32 a.2]) one42 rfl
    show (Instr.checkKey false (9999 + 1) 44 _).run _ w = _
    unfold Instr.checkKey
    simp only [Sem.run_bind, h42, Result.andThen_ok, pairCells]
    simp [p0, p1, hc, Sem.run_bind, Sem.run_pure]
  · have h := (eqA44 a.1 a.2 b.1 b.2).2 w
    have e : decide (a.1 = b.1 ∧ a.2 = b.2) = decide (a = b) := decide_eq_decide.2 Prod.ext_iff.symm
    rw [e] at h
    exact h
theorem sortFunc_pairs (w : World) (A : Option Addr) (n c : Nat) (xs : List (Int × Int)) (e : Ent) (hR : RowIs 44 2 A n c (xs.map pairCells) e) (hw : Own [e] w) (hn : n ≤ 1099511627776) :
    Calls Tryd.prog 42 #[.slice A n c, .func (.func 27) #[] #[]] w (fun ex w' => ∃ v, ex = .returned v ∧ v = .tuple #[] ∧ ∃ (ys : List (Int × Int)) (e' : Ent), ys.Perm xs ∧ (ys.Pairwise fun a b => ¬ ltP b a) ∧ RowIs 44 2 A n c (ys.map pairCells) e' ∧ Mem w (blks [e]) [e'] w') := by
  have h := sortFunc_rows sortP_lay (T := 44) agg44 pairCells pairCells_len (fun x v hv => by simp only [pairCells, List.mem_cons, List.not_mem_nil, or_false] at hv; rcases hv with h | h <;> subst h <;> rfl) _ swo_pair 27 cal27 pair_cmp w A xs e hR hw (by omega)
  refine Calls.mono h ?_
  rintro ex w' ⟨v, h1, h2, ys, e', h3, h4, h5, h6⟩
  refine ⟨v, h1, h2, ys, e', h3, ?_, h5, h6⟩
  refine List.pairwise_iff_getElem.2 fun i j hi hj hij => ?_
  have := h4 i j _ _ hij (List.getElem?_eq_getElem hi) (List.getElem?_eq_getElem hj)
  have h := of_decide_eq_false this
  rwa [cmpP_neg] at h

set_option maxHeartbeats 4000000 in
theorem maps_KeysP (w : World) (mb : Nat) :
    Calls Tryd.prog 26 #[.map (some mb)] w (fun ex w' => ∃ v, ex = .returned v ∧ (fun v w' => ∃ bb, v = .func (.func 43) #[] #[.pointer (some ⟨bb, 0, none⟩)] ∧ Mem w [] [(some bb, bc [.map (some mb)] 58)] w') v w') := by
  refine calls_of_W #[.tmp 2] 4 Tryd.func26 rfl Tryd.results26 Tryd.ntmps26 rfl ?_
  have M0 := Mem.refl w
  refine W_seq ?_
  refine W_region ?_
  refine wl_box (.map _) M0 rfl rfl rfl (fun b1 w1 M1 => ?_)
  refine wl_q (r_assign (_) rfl) rfl rfl ?_
  refine wl_nil ?_
  refine thenN ?_
  refine W_seq ?_
  refine W_region ?_
  refine wl_q (r_makeFuncV [] [.pointer _] rfl rfl) rfl rfl ?_
  refine wl_q (r_assign (.func _ _ _) rfl) rfl rfl ?_
  refine wl_nil ?_
  refine thenN ?_
  refine W_ret ?_
  skip
  refine fin1 (.func _ _ _) rfl ?_
  exact ⟨b1, rfl, M1⟩

set_option maxHeartbeats 4000000 in
theorem maps_KeysP1 (w : World) (bb : Nat) (mb clock : Nat) (L : List ((Int × Int) × Nat)) (hmb : w.heap[mb]? = some (setObj' pairCells L clock)) (hml : mb < w.heap.size) (hS : SetOk L clock) (hLN : L.length < 1099511627776) (B1 : Rd w 1 (some ⟨bb, 0, none⟩) 1 [[.map (some mb)]]) (lp ob : Nat) (rec : Loop) (hY : YieldApp Tryd.prog lp ob rec 35 44 2 1099511627776 (fun x => ∃ a b, x = [.int .u32 a, .int .u32 b])) (r0 : Row) (hr0 : RowIs 44 2 r0.A r0.n r0.c [] r0.e) (hO : Own [(some lp, .loop rec), (some ob, bc [.slice r0.A r0.n r0.c] 35), r0.e] w) (hd1 : 0 < 1 → ∀ q off, (some ⟨bb, 0, none⟩ : Option Addr) = some ⟨q, off, none⟩ → q ∉ blks [(some lp, .loop rec), (some ob, bc [.slice r0.A r0.n r0.c] 35), r0.e]) (hmX : mb ∉ blks [(some lp, .loop rec), (some ob, bc [.slice r0.A r0.n r0.c] 35), r0.e]) :
    Calls Tryd.prog 43 #[.func (.yield lp) #[] #[], .pointer (some ⟨bb, 0, none⟩)] w (fun ex w' => ∃ v, ex = .returned v ∧ (fun v w' => v = .tuple #[] ∧ ∃ (r : Row) (T : List ((Int × Int) × Nat)), T.Perm L ∧ RowIs 44 2 r.A r.n r.c ((T.map (fun z => z.1)).map pairCells) r.e ∧ Mem w (blks [(some lp, .loop rec), (some ob, bc [.slice r0.A r0.n r0.c] 35), r0.e]) [(some lp, .loop rec), (some ob, bc [.slice r.A r.n r.c] 35), r.e] w') v w') := by
  rw [← elt_zero bb]
  refine calls_of_W #[] 14 Tryd.func43 rfl Tryd.results43 Tryd.ntmps43 rfl ?_
  have M0 := hO.mem
  refine W_seq ?_
  refine W_region ?_
  refine wl_q (r_ldE (o := 0) (.map _) one58 (B1.memY M0 hd1) (show ([[.map (some mb)]] : List (List Value))[0]? = some ([.map (some mb)]) from rfl) rfl rfl) rfl rfl ?_
  refine wl_range (α := Int × Int) Tryd.underlying58 M0 rfl rfl rfl ((M0.old mb hml hmX).trans hmb) (fun b1 w1 M1 => ?_)
  refine wl_nil ?_
  refine thenN ?_
  refine W_block ?_
  refine W_loop (σ := List ((Int × Int) × Nat) × Row) [0, 5] (fun (T, r) => []) (fun (T, r) w' => ((∀ p ∈ T, p ∈ L) ∧ (T.map (·.2)).Nodup ∧ RowIs 44 2 r.A r.n r.c ((T.map (fun z => z.1)).map pairCells) r.e) ∧ Mem w (blks [(some lp, .loop rec), (some ob, bc [.slice r0.A r0.n r0.c] 35), r0.e]) [(some lp, .loop rec), (some ob, bc [.slice r.A r.n r.c] 35), r.e, (some b1, iterO mb clock T)] w') (fun (T, r) => L.length - T.length) ([], r0) agN (⟨⟨(fun p hp => nomatch hp), by simp, hr0⟩, M1⟩) ?_
  rintro ⟨T, r⟩ ρ2 w2 ⟨⟨hTs, hTn, hr⟩, hM2⟩
  have hrl : T.length = r.n := by simpa using hr.1
  have hTl := came_len hTn hTs
  refine W_seq ?_
  refine W_region ?_
  refine wl_next (enc := pairCells) 3 hM2 rfl rfl rfl rfl ((hM2.old mb hml hmX).trans hmb) hS.lt (fun hover => ?_) (fun p3 w3 hp3 hnp3 M3 => ?_)
  · skip
    refine wl_q (r_ext (.bool false) rfl rfl) rfl rfl ?_
    refine wl_nil ?_
    refine thenN ?_
    refine W_seq ?_
    refine W_condF rfl ?_
    refine W_exit ?_
    refine thenX ?_
    refine roundX ?_
    refine blkH ?_
    refine fin0n ?_
    exact ⟨rfl, r, T, came_all hS.nd hTn hTs hover, hr, hM2.keep [true, true, true, false]⟩
  · skip
    refine wl_q (r_ext (.bool true) rfl rfl) rfl rfl ?_
    refine wl_nil ?_
    refine thenN ?_
    refine W_seq ?_
    refine W_condT rfl ?_
    refine W_skip ?_
    refine thenN ?_
    refine W_block ?_
    refine W_seq ?_
    refine W_region ?_
    refine wl_q (r_entry (enc := pairCells) 3 (p3) M3 rfl rfl ((M3.old mb hml hmX).trans hmb) hp3 hS.nd) rfl rfl ?_
    refine wl_q (r_ext (.agg (List.toArray _)) rfl rfl) rfl rfl ?_
    refine wl_alloc zero44 M3 rfl rfl (fun b4 w4 M4 => ?_)
    refine wl_stW 4 _ agg44 M4 rfl rfl rfl rfl rfl (ones_of rfl) rfl (fun w5 M5 => ?_)
    refine wl_nil ?_
    refine thenN ?_
    refine W_seq ?_
    refine W_regionY ?_
    refine wlY_q (r_move (.func _ _ _) rfl) rfl rfl ?_
    refine wlY_q (r_ldW 4 agg44 M5 rfl rfl rfl) rfl rfl ?_
    obtain ⟨fy, ty, ay, by1, hy1, hy2⟩ := hY _ r ((T.map (fun z => z.1)).map pairCells) (pairCells p3.1) ⟨_, _, rfl⟩ (by omega) hr (M5.ownSeg 0 3)
    refine wlY_yield rfl rfl rfl rfl hy1 (hy2.mono ?_)
    rintro _ w6 ⟨rfl, q6, hqn6, hq6, hM6⟩
    have M6 : Mem _ _ [_, _, _, _, _] _ := M5.seg 0 3 hM6
    refine ⟨_, rfl, ?_⟩
    refine wlY_of rfl (fun _ _ h => h) ?_
    refine wl_q (r_notB false rfl rfl) rfl rfl ?_
    refine wl_nil ?_
    refine thenN ?_
    refine W_condF rfl ?_
    refine W_skip ?_
    refine blkN ?_
    have hTs2 : ∀ p ∈ T ++ [p3], p ∈ L := fun p hp => (List.mem_append.1 hp).elim (hTs p) (fun h => by rw [List.mem_singleton] at h; rw [h]; exact hp3)
    have hTn2 := came_snoc hTn hnp3
    have hTl2 := came_len hTn2 hTs2
    rw [List.length_append, List.length_singleton] at hTl2
    refine roundN (T ++ [p3], q6) agN (akC rfl (akC rfl akN)) ?_ ?_
    · exact ⟨⟨hTs2, hTn2, by rw [List.map_append, List.map_append]; exact hq6⟩, M6.keep [true, true, true, true, false]⟩
    · (show L.length - (T ++ [p3]).length < L.length - T.length; rw [List.length_append, List.length_singleton]; omega)

set_option maxHeartbeats 4000000 in
theorem slices_AppendSeqP (w : World) (bb : Nat) (mb clock : Nat) (L : List ((Int × Int) × Nat)) (hmb : w.heap[mb]? = some (setObj' pairCells L clock)) (hml : mb < w.heap.size) (hS : SetOk L clock) (hLN : L.length < 1099511627776) (B1 : Rd w 1 (some ⟨bb, 0, none⟩) 1 [[.map (some mb)]]) :
    Calls Tryd.prog 52 #[.slice none 0 0, .func (.func 43) #[] #[.pointer (some ⟨bb, 0, none⟩)]] w (fun ex w' => ∃ v, ex = .returned v ∧ (fun v w' => ∃ (r : Row) (T : List ((Int × Int) × Nat)), T.Perm L ∧ v = .slice r.A r.n r.c ∧ RowIs 44 2 r.A r.n r.c ((T.map (fun z => z.1)).map pairCells) r.e ∧ Mem w [] [r.e] w') v w') := by
  refine calls_of_W2 #[.tmp 4] 13 Tryd.func52 rfl Tryd.results52 Tryd.ntmps52 rfl ?_
  have M0 := Mem.refl w
  refine W2_seq ?_
  refine W2_region0 ?_
  refine wl_box (.slice _ _ _) M0 rfl rfl rfl (fun b1 w1 M1 => ?_)
  refine wl_q (r_assign (.slice _ _ _) rfl) rfl rfl ?_
  refine wl_nil ?_
  refine then2N ?_
  refine W2_seq ?_
  refine W2_seq ?_
  refine W2_region0 ?_
  refine wl_q (r_move (.func _ _ _) rfl) rfl rfl ?_
  refine wl_nil ?_
  refine then2N ?_
  refine W2_block ?_
  have M2 : Mem _ _ [_, _] _ := M1.dummy default
  refine W2_range cal43 M2 rfl (fun fnn B lp tmps w1 hρ hn M1 => ?_)
  refine with_yield (P := Tryd.prog) (ob := b1) (Tsl := 35) (Te := 44) (sz := 2) (N := 1099511627776) (ok := (fun x => ∃ a b, x = [.int .u32 a, .int .u32 b])) M1 ?_ (fun hY => ?_)
  · skip
    intro wr r ls x hok hlt hrow hO
    obtain ⟨xa, xb, rfl⟩ := hok
    refine ⟨_, _, _, _, round_go hO rfl rfl rfl hn (by decide) hρ ?_⟩
    have MR0 := hO.mem
    refine WR_region rfl (fun _ _ h => nomatch h.1) ?_
    refine wl_alloc zero44 MR0 rfl rfl (fun b3 w3 M3 => ?_)
    refine wl_stW 3 _ agg44 M3 rfl rfl rfl rfl rfl (ones_of rfl) rfl (fun w4 M4 => ?_)
    refine wl_nil ?_
    refine ⟨rfl, _, M4, rfl, fun w5 M5 => ?_⟩
    refine WR_block ?_
    refine WR_region rfl (fun _ _ h => nomatch h.1) ?_
    refine wl_q (r_ld 1 (.slice _ _ _) one35 M5 rfl rfl rfl) rfl rfl ?_
    refine wl_q (r_ldW 3 agg44 M5 rfl rfl rfl) rfl rfl ?_
    refine wl_bslice [.agg (List.toArray _)] [[.int .u32 xa, .int .u32 xb]] rfl sl35 M5 rfl rfl rfl rfl (lens_of rfl) (by decide) (fun b6 w6 M6 => ?_)
    refine wl_append 2 [[.int .u32 xa, .int .u32 xb]] sl35 M6 rfl rfl rfl rfl rfl hrow rfl (by simp [Go.Bil.one]) (Cells.ofMem 4 M6 rfl) (by omega) (fun A7 c7 e7 w7 M7 hR7 => ?_)
    refine wl_st 1 (.slice _ _ _) one35 M7 rfl rfl rfl rfl rfl rfl (fun w8 M8 => ?_)
    refine wl_nil ?_
    refine blkN ?_
    refine ⟨rfl, _, M8, rfl, fun w9 M9 => ?_⟩
    exact ⟨⟨A7, r.n + 1, c7, e7⟩, rfl, hR7, M9.keep [true, true, true, false, false]⟩
  · skip
    refine (maps_KeysP1 _ bb mb clock L ((M1.old mb hml List.not_mem_nil).trans hmb) (Nat.lt_of_lt_of_le hml M1.size) hS hLN (B1.mem M1) lp b1 _ hY ⟨none, 0, 0, (none, default)⟩ (RowIs.nil _ _ _) (M1.ownSeg 0 3) (M1.away 0 3 B1 (fun _ q off _ h => by simp at h)) (M1.notNew 3 hml)).mono ?_
    rintro _ w5 ⟨v5, rfl, rfl, r, T, hT, hr, hM⟩
    have M5 : Mem _ _ (_ :: [_, _, _]) _ := M1.seg 0 3 hM
    refine ⟨_, rfl, _, M5, fun w6 M6 => ?_⟩
    refine blk2N ?_
    refine then2N ?_
    refine W2_seq ?_
    refine W2_region ?_
    refine wl2_q (r_ld 1 (.slice _ _ _) one35 M6 rfl rfl rfl) rfl rfl ?_
    refine wl2_q (r_assign (.slice _ _ _) rfl) rfl rfl ?_
    refine wl2_nil ?_
    refine then2N ?_
    refine W2_ret ?_
    skip
    refine fin1M (i := 3) (.slice _ _ _) rfl M6 rfl (fun w9 M9 => ?_)
    exact ⟨r, T, hT, rfl, hr, M9.keep [false, false, true, false]⟩

set_option maxHeartbeats 4000000 in
theorem slices_CollectP (w : World) (bb : Nat) (mb clock : Nat) (L : List ((Int × Int) × Nat)) (hmb : w.heap[mb]? = some (setObj' pairCells L clock)) (hml : mb < w.heap.size) (hS : SetOk L clock) (hLN : L.length < 1099511627776) (B1 : Rd w 1 (some ⟨bb, 0, none⟩) 1 [[.map (some mb)]]) :
    Calls Tryd.prog 41 #[.func (.func 43) #[] #[.pointer (some ⟨bb, 0, none⟩)]] w (fun ex w' => ∃ v, ex = .returned v ∧ (fun v w' => ∃ (r : Row) (T : List ((Int × Int) × Nat)), T.Perm L ∧ v = .slice r.A r.n r.c ∧ RowIs 44 2 r.A r.n r.c ((T.map (fun z => z.1)).map pairCells) r.e ∧ Mem w [] [r.e] w') v w') := by
  refine calls_of_W #[.tmp 2] 5 Tryd.func41 rfl Tryd.results41 Tryd.ntmps41 rfl ?_
  have M0 := Mem.refl w
  refine W_seq ?_
  refine W_region ?_
  refine wl_q (r_assign (.slice _ _ _) rfl) rfl rfl ?_
  refine wl_nil ?_
  refine thenN ?_
  refine W_seq ?_
  refine W_region ?_
  refine wl_q (r_move (.func _ _ _) rfl) rfl rfl ?_
  refine wl_cal cal52 rfl rfl rfl ?_
  refine (slices_AppendSeqP _ bb mb clock L ((M0.old mb hml List.not_mem_nil).trans hmb) (Nat.lt_of_lt_of_le hml M0.size) hS hLN (B1.mem M0)).mono ?_
  rintro _ w1 ⟨v1, rfl, ⟨r, T, hT, rfl, hr, hM1⟩⟩
  refine ⟨_, rfl, ?_⟩
  have M1 : Mem _ _ [_] _ := M0.call0 hM1
  refine wl_q (r_assign (.slice _ _ _) rfl) rfl rfl ?_
  refine wl_nil ?_
  refine thenN ?_
  refine W_ret ?_
  skip
  refine fin1 (.slice _ _ _) rfl ?_
  exact ⟨r, T, hT, rfl, hr, M1⟩

set_option maxHeartbeats 4000000 in
theorem slices_SortedFuncP (w : World) (bb : Nat) (mb clock : Nat) (L : List ((Int × Int) × Nat)) (hmb : w.heap[mb]? = some (setObj' pairCells L clock)) (hml : mb < w.heap.size) (hS : SetOk L clock) (hLN : L.length < 1099511627776) (B1 : Rd w 1 (some ⟨bb, 0, none⟩) 1 [[.map (some mb)]]) :
    Calls Tryd.prog 25 #[.func (.func 43) #[] #[.pointer (some ⟨bb, 0, none⟩)], .func (.func 27) #[] #[]] w (fun ex w' => ∃ v, ex = .returned v ∧ (fun v w' => ∃ (r : Row) (ys : List (Int × Int)), Asc ys ∧ (∀ z, z ∈ ys ↔ z ∈ L.map (·.1)) ∧ v = .slice r.A r.n r.c ∧ RowIs 44 2 r.A r.n r.c ((ys).map pairCells) r.e ∧ Mem w [] [r.e] w') v w') := by
  refine calls_of_W #[.tmp 4] 12 Tryd.func25 rfl Tryd.results25 Tryd.ntmps25 rfl ?_
  have M0 := Mem.refl w
  refine W_seq ?_
  refine W_region ?_
  refine wl_q (r_assign (.slice _ _ _) rfl) rfl rfl ?_
  refine wl_nil ?_
  refine thenN ?_
  refine W_seq ?_
  refine W_region ?_
  refine wl_q (r_move (.func _ _ _) rfl) rfl rfl ?_
  refine wl_cal cal41 rfl rfl rfl ?_
  refine (slices_CollectP _ bb mb clock L ((M0.old mb hml List.not_mem_nil).trans hmb) (Nat.lt_of_lt_of_le hml M0.size) hS hLN (B1.mem M0)).mono ?_
  rintro _ w1 ⟨v1, rfl, ⟨r, T, hT, rfl, hr, hM1⟩⟩
  refine ⟨_, rfl, ?_⟩
  have M1 : Mem _ _ [_] _ := M0.call0 hM1
  have hrl : T.length = r.n := by simpa using hr.1
  have hTL := hT.length_eq
  refine wl_q (r_assign (.slice _ _ _) rfl) rfl rfl ?_
  refine wl_nil ?_
  refine thenN ?_
  refine W_seq ?_
  refine W_region ?_
  refine wl_q (r_move (.slice _ _ _) rfl) rfl rfl ?_
  refine wl_q (r_move (.func _ _ _) rfl) rfl rfl ?_
  refine wl_cal cal42 rfl rfl rfl ?_
  refine (sortFunc_pairs _ _ _ _ (T.map (fun z => z.1)) _ hr (M1.ownAt (i := 0) rfl) (by omega)).mono ?_
  rintro _ w2 ⟨v2, rfl, ⟨rfl, ys, e2, hpp, huu, hR2, hM2⟩⟩
  refine ⟨_, rfl, ?_⟩
  have M2 : Mem _ _ [_] _ := M1.seg 0 1 hM2
  refine wl_nil ?_
  refine thenN ?_
  refine W_seq ?_
  refine W_region ?_
  refine wl_q (r_move (.slice _ _ _) rfl) rfl rfl ?_
  refine wl_q (r_assign (.slice _ _ _) rfl) rfl rfl ?_
  refine wl_nil ?_
  refine thenN ?_
  refine W_ret ?_
  skip
  refine fin1 (.slice _ _ _) rfl ?_
  have hpl : ys.Perm (L.map (·.1)) := hpp.trans (hT.map _)
  exact ⟨⟨r.A, r.n, r.c, e2⟩, ys, asc_of (hpl.nodup_iff.2 hS.keys) huu, fun z => hpl.mem_iff, rfl, hR2, M2⟩

end Go.Proofs.YtjbhobahebebkaaDoor

/- Walks of Go functions over the frame of this claim: what each computes, for every input of the stated types (Q10). -/
set_option linter.unusedVariables false
set_option linter.unusedSimpArgs false
set_option linter.unnecessarySimpa false
namespace Go.Proofs.YtjbhobahebebkaaDoor
open Go.Bil
open Go.RowKit (Below)
open Go.Proofs

set_option maxHeartbeats 16000000 in
theorem grid_Candidates (w : World) (b : Nat) (rs : List Row) (cnt : Int) (g : Nat → List Int) (hlen : rs.length = 1024) (G : Rd w 1025 (some ⟨b, 0, none⟩) 1 [gcells rs cnt]) (hrow : ∀ (j : Nat) (r : Row), rs[j]? = some r → Rd w 1 r.A r.n ((g j).map keyCell) ∧ r.n ≤ r.c) (ks : List Int) (hks : ∀ j, j < 1024 → ∀ x ∈ g j, x ∈ ks) (hkl : ks.length ≤ 65536) :
    Calls Tryd.prog 13 #[.pointer (some ⟨b, 0, none⟩)] w (fun ex w' => ∃ v, ex = .returned v ∧ (fun v w' => ∃ (r : Row) (ps : List (Int × Int)), Asc ps ∧ (∀ z, z ∈ ps ↔ z ∈ cands g 1024) ∧ v = .slice r.A r.n r.c ∧ RowIs 44 2 r.A r.n r.c ((ps).map pairCells) r.e ∧ Mem w [] [r.e] w') v w') := by
  rw [← elt_zero b]
  refine calls_of_W #[.tmp 2] 49 Tryd.func13 rfl Tryd.results13 Tryd.ntmps13 rfl ?_
  have M0 := Mem.refl w
  refine W_seq ?_
  refine W_region ?_
  refine wl_q (r_assign (.slice _ _ _) rfl) rfl rfl ?_
  refine wl_nil ?_
  refine thenN ?_
  refine W_seq ?_
  refine W_seq ?_
  refine W_region ?_
  refine wl_q (r_move (elt _ _) rfl) rfl rfl ?_
  refine wl_q (r_eqPtrNilE Tryd.underlying32 (G.mem M0) (show ([gcells rs cnt] : List (List Value))[0]? = some (gcells rs cnt) from rfl) rfl) rfl rfl ?_
  refine wl_nil ?_
  refine thenN ?_
  refine W_condF rfl ?_
  refine W_skip ?_
  refine thenN ?_
  refine W_seq ?_
  refine W_region ?_
  refine wl_makeMap M0 rfl rfl (fun b1 w1 M1 => ?_)
  refine wl_q (r_assign (.map _) rfl) rfl rfl ?_
  refine wl_nil ?_
  refine thenN ?_
  refine W_seq ?_
  refine W_seq ?_
  refine W_region ?_
  refine wl_q (r_move (elt _ _) rfl) rfl rfl ?_
  refine wl_q (r_nilCheckE (G.mem M1) (Nat.lt_of_le_of_lt (Nat.zero_le _) ((G.mem M1).below_len (show ([gcells rs cnt] : List (List Value))[0]? = some (gcells rs cnt) from rfl))) rfl) rfl rfl ?_
  refine wl_q (r_fieldAddrE 0 fld30_0 (G.mem M1) (Nat.lt_of_le_of_lt (Nat.zero_le _) ((G.mem M1).below_len (show ([gcells rs cnt] : List (List Value))[0]? = some (gcells rs cnt) from rfl))) rfl) rfl rfl ?_
  refine wl_q (r_ldEP (o := 0) (rs.map (fun r => Value.slice r.A r.n r.c)) agg28 (G.mem M1) (show ([gcells rs cnt] : List (List Value))[0]? = some (gcells rs cnt) from rfl) rfl (gcells_take hlen) (by simp [hlen])) rfl rfl ?_
  refine wl_q (r_move (.int _ _) rfl) rfl rfl ?_
  refine wl_nil ?_
  refine thenN ?_
  refine W_block ?_
  refine W_loop (σ := Nat × Nat × List ((Int × Int) × Nat)) [2, 3, 16] (fun (i, c0, L0) => [(17, .int .i64 (i : Int))]) (fun (i, c0, L0) w' => i ≤ 1024 ∧ (SetOk L0 c0 ∧ ∀ z, z ∈ L0.map (fun z => z.1) ↔ z ∈ cands g i) ∧ Mem w [] [(some b1, setObj' pairCells L0 c0)] w') (fun (i, c0, L0) => 1024 - i) (0, 0, []) (agC rfl agN) (⟨by omega, ⟨SetOk.nil, fun z => by simp [cands]⟩, M1⟩) ?_
  rintro ⟨i, c0, L0⟩ ρ2 w2 ⟨hi, ⟨hS0, hI0⟩, hM2⟩
  refine W_seq ?_
  refine W_region ?_
  refine wl_q (r_bin (.bool (decide _)) rfl rfl rfl) rfl rfl ?_
  refine wl_nil ?_
  refine thenN ?_
  refine W_seq ?_
  refine W_condD rfl (fun h18 => ?_) (fun h18 => ?_)
  · skip
    obtain ⟨rj, hrj⟩ := getSome (xs := rs) (k := i) hlen (by omega)
    obtain ⟨Rj, hcj⟩ := hrow i rj hrj
    have hlj : (g i).length = rj.n := by simpa using Rj.len
    have hbj := Rj.bound
    refine W_skip ?_
    refine thenN ?_
    refine W_seq ?_
    refine W_block ?_
    refine W_seq ?_
    refine W_region ?_
    refine wl_q (r_idx1 (i) (.slice rj.A rj.n rj.c) arr28 one27 rfl rfl (by omega) (by omega) rfl (by rw [nth_eq]; exact mapGet _ hrj)) rfl rfl ?_
    refine wl_q (r_assign (.slice _ _ _) rfl) rfl rfl ?_
    refine wl_nil ?_
    refine thenN ?_
    refine W_seq ?_
    refine W_region ?_
    refine wl_q (r_move (.slice _ _ _) rfl) rfl rfl ?_
    refine wl_q (r_lenS Tryd.underlying27 rfl) rfl rfl ?_
    refine wl_q (r_move (.int _ _) rfl) rfl rfl ?_
    refine wl_nil ?_
    refine thenN ?_
    refine W_block ?_
    refine W_loop (σ := Nat × Nat × List ((Int × Int) × Nat)) [2, 3, 5, 16, 17, 20, 21] (fun (p, c2, L2) => [(22, .int .i64 (p : Int))]) (fun (p, c2, L2) w' => p ≤ rj.n ∧ (SetOk L2 c2 ∧ ∀ z, z ∈ L2.map (fun z => z.1) ↔ z ∈ cands g i ++ prsLk (g i) p) ∧ Mem w [] [(some b1, setObj' pairCells L2 c2)] w') (fun (p, c2, L2) => rj.n - p) (0, c0, L0) (agC rfl agN) (⟨by omega, ⟨hS0, fun z => by rw [hI0 z]; simp [prsLk]⟩, hM2⟩) ?_
    rintro ⟨p, c2, L2⟩ ρ3 w3 ⟨hp, ⟨hS2, hI2⟩, hM3⟩
    refine W_seq ?_
    refine W_region ?_
    refine wl_q (r_bin (.bool (decide _)) rfl rfl rfl) rfl rfl ?_
    refine wl_nil ?_
    refine thenN ?_
    refine W_seq ?_
    refine W_condD rfl (fun h23 => ?_) (fun h23 => ?_)
    · skip
      obtain ⟨xa, hxa⟩ := getSome (xs := g i) (k := p) hlj (by omega)
      refine W_skip ?_
      refine thenN ?_
      refine W_seq ?_
      refine W_block ?_
      refine W_seq ?_
      refine W_region ?_
      refine wl_q (r_move (.int _ _) rfl) rfl rfl ?_
      refine wl_q (r_idxR (p) sl27 rfl rfl rfl ((Rj.mem hM3).below_len (mapGet keyCell hxa)) ((Rj.mem hM3).someK (mapGet keyCell hxa))) rfl rfl ?_
      refine wl_q (r_ldE0 (.int _ _) one42 (Rj.mem hM3) (mapGet keyCell hxa) rfl) rfl rfl ?_
      refine wl_q (r_assign (.int _ _) rfl) rfl rfl ?_
      refine wl_q (r_assign (.int _ _) rfl) rfl rfl ?_
      refine wl_nil ?_
      refine thenN ?_
      refine W_seq ?_
      refine W_region ?_
      refine wl_q (r_move (.slice _ _ _) rfl) rfl rfl ?_
      refine wl_q (r_move (.int _ _) rfl) rfl rfl ?_
      refine wl_q (r_slice (0) ((p : Int)) sl27 rfl rfl ⟨_, rfl⟩ (by decide) (by omega) (by omega)) rfl rfl ?_
      refine wl_q (r_lenS Tryd.underlying27 rfl) rfl rfl ?_
      refine wl_q (r_move (.int _ _) rfl) rfl rfl ?_
      refine wl_nil ?_
      refine thenN ?_
      refine W_block ?_
      refine W_loop (σ := Nat × Nat × List ((Int × Int) × Nat)) [2, 3, 5, 7, 16, 17, 20, 21, 22, 29, 30] (fun (q, c4, L4) => [(31, .int .i64 (q : Int))]) (fun (q, c4, L4) w' => q ≤ p ∧ (SetOk L4 c4 ∧ ∀ z, z ∈ L4.map (fun z => z.1) ↔ z ∈ (cands g i ++ prsLk (g i) p) ++ prsR xa ((g i).take q)) ∧ Mem w [] [(some b1, setObj' pairCells L4 c4)] w') (fun (q, c4, L4) => p - q) (0, c2, L2) (agC rfl agN) (⟨by omega, ⟨hS2, fun z => by rw [hI2 z]; simp [prsR]⟩, hM3⟩) ?_
      rintro ⟨q, c4, L4⟩ ρ4 w4 ⟨hq, ⟨hS4, hI4⟩, hM4⟩
      refine W_seq ?_
      refine W_region ?_
      refine wl_q (r_bin (.bool (decide _)) rfl rfl rfl) rfl rfl ?_
      refine wl_nil ?_
      refine thenN ?_
      refine W_seq ?_
      refine W_condD rfl (fun h32 => ?_) (fun h32 => ?_)
      · skip
        obtain ⟨xb, hxb⟩ := getSome (xs := g i) (k := q) hlj (by omega)
        refine W_skip ?_
        refine thenN ?_
        refine W_seq ?_
        refine W_block ?_
        refine W_seq ?_
        refine W_region ?_
        refine wl_q (r_idxR (q) sl27 rfl rfl rfl (((Rj.mem hM4).sub 0 p (by omega) (by omega) hcj).below_len (take_get hxb (by omega))) (((Rj.mem hM4).sub 0 p (by omega) (by omega) hcj).someK (take_get hxb (by omega)))) rfl rfl ?_
        refine wl_q (r_ldE0 (.int _ _) one42 ((Rj.mem hM4).sub 0 p (by omega) (by omega) hcj) (take_get hxb (by omega)) rfl) rfl rfl ?_
        refine wl_q (r_assign (.int _ _) rfl) rfl rfl ?_
        refine wl_nil ?_
        refine thenN ?_
        refine W_seq ?_
        refine W_region ?_
        refine wl_q (r_move (.int _ _) rfl) rfl rfl ?_
        refine wl_q (r_move (.int _ _) rfl) rfl rfl ?_
        refine wl_q (r_bin (.bool (decide _)) rfl rfl rfl) rfl rfl ?_
        refine wl_nil ?_
        refine thenN ?_
        refine W_condD rfl (fun h37 => ?_) (fun h37 => ?_)
        · skip
          refine W_region ?_
          refine wl_q (r_move (.map _) rfl) rfl rfl ?_
          refine wl_q (r_move (.int _ _) rfl) rfl rfl ?_
          refine wl_q (r_move (.int _ _) rfl) rfl rfl ?_
          refine wl_cal cal24 rfl rfl rfl ?_
          refine (grid_pair _ xa xb).mono ?_
          rintro _ w5 ⟨v5, rfl, ⟨rfl, hb5⟩⟩
          refine ⟨_, rfl, ?_⟩
          have M5 := hM4.callB hb5
          refine wl_q (r_build [] _ struct59 rfl rfl) rfl rfl ?_
          refine wl_setAdd (enc := pairCells) 0 (prI xa xb) pairKeyT M5 rfl rfl hS4 rfl rfl rfl (fun L6 c6 w6 hS6 hZ6 hN6 M6 => ?_)
          refine wl_nil ?_
          refine blkN ?_
          refine thenN ?_
          refine W_region ?_
          refine wl_q (r_add rfl rfl (by omega) (by omega)) rfl rfl ?_
          refine wl_q (r_move (.int _ _) rfl) rfl rfl ?_
          refine wl_nil ?_
          refine roundN (q + 1, c6, L6) (agC rfl agN) (akC rfl (akC rfl (akC rfl (akC rfl (akC rfl (akC rfl (akC rfl (akC rfl (akC rfl (akC rfl (akC rfl akN))))))))))) ?_ ?_
          · exact ⟨by omega, ⟨hS6, cand_step hZ6 hI4 hxb h37⟩, M6⟩
          · (show p - (q + 1) < p - q; omega)
        · skip
          refine W_skip ?_
          refine blkN ?_
          refine thenN ?_
          refine W_region ?_
          refine wl_q (r_add rfl rfl (by omega) (by omega)) rfl rfl ?_
          refine wl_q (r_move (.int _ _) rfl) rfl rfl ?_
          refine wl_nil ?_
          refine roundN (q + 1, c4, L4) (agC rfl agN) (akC rfl (akC rfl (akC rfl (akC rfl (akC rfl (akC rfl (akC rfl (akC rfl (akC rfl (akC rfl (akC rfl akN))))))))))) ?_ ?_
          · exact ⟨by omega, ⟨hS4, cand_same hI4 hxb h37⟩, hM4⟩
          · (show p - (q + 1) < p - q; omega)
      · skip
        have hqp : q = p := by omega
        refine W_exit ?_
        refine thenX ?_
        refine roundX ?_
        refine blkH ?_
        refine blkN ?_
        refine thenN ?_
        refine W_region ?_
        refine wl_q (r_add rfl rfl (by omega) (by omega)) rfl rfl ?_
        refine wl_q (r_move (.int _ _) rfl) rfl rfl ?_
        refine wl_nil ?_
        refine roundN (p + 1, c4, L4) (agC rfl agN) (akC rfl (akC rfl (akC rfl (akC rfl (akC rfl (akC rfl (akC rfl akN))))))) ?_ ?_
        · exact ⟨by omega, ⟨hS4, fun z => by rw [hI4 z, prsLk_snoc hxa, ← hqp, List.append_assoc]⟩, hM4⟩
        · (show rj.n - (p + 1) < rj.n - p; omega)
    · skip
      have hpn : p = rj.n := by omega
      refine W_exit ?_
      refine thenX ?_
      refine roundX ?_
      refine blkH ?_
      refine blkN ?_
      refine thenN ?_
      refine W_region ?_
      refine wl_q (r_add rfl rfl (by omega) (by omega)) rfl rfl ?_
      refine wl_q (r_move (.int _ _) rfl) rfl rfl ?_
      refine wl_nil ?_
      refine roundN (i + 1, c2, L2) (agC rfl agN) (akC rfl (akC rfl (akC rfl akN))) ?_ ?_
      · exact ⟨by omega, ⟨hS2, fun z => by rw [hI2 z, cands_succ]; unfold prsL; rw [hlj, ← hpn]⟩, hM3⟩
      · (show 1024 - (i + 1) < 1024 - i; omega)
  · skip
    have hi' : i = 1024 := by omega
    rw [hi'] at hI0
    have hLb : (L0.map (fun z => z.1)).length ≤ (prodL ks).length := nodup_le hS0.keys (fun z hz => cand_prod hks ((hI0 z).1 hz))
    rw [List.length_map, prodL_len] at hLb
    have hkk : ks.length * ks.length ≤ 65536 * 65536 := Nat.mul_le_mul hkl hkl
    refine W_exit ?_
    refine thenX ?_
    refine roundX ?_
    refine blkH ?_
    refine thenN ?_
    refine W_seq ?_
    refine W_region ?_
    refine wl_q (r_move (.map _) rfl) rfl rfl ?_
    refine wl_cal cal26 rfl rfl rfl ?_
    refine (maps_KeysP _ b1).mono ?_
    rintro _ w7 ⟨v7, rfl, ⟨bb, rfl, hM7⟩⟩
    refine ⟨_, rfl, ?_⟩
    have M7 : Mem _ _ [_, _] _ := hM2.call0 hM7
    refine wl_cal cal25 rfl rfl rfl ?_
    refine (slices_SortedFuncP _ bb b1 c0 L0 (M7.at_ (i := 0) rfl) (M7.lt List.mem_cons_self) hS0 (by omega) (rdOf 1 M7 rfl rfl)).mono ?_
    rintro _ w8 ⟨v8, rfl, ⟨r, ys, hasc, hys, rfl, hr, hM8⟩⟩
    refine ⟨_, rfl, ?_⟩
    have M8 : Mem _ _ [_, _, _] _ := M7.call0 hM8
    refine wl_q (r_assign (.slice _ _ _) rfl) rfl rfl ?_
    refine wl_nil ?_
    refine thenN ?_
    refine W_ret ?_
    skip
    refine fin1 (.slice _ _ _) rfl ?_
    exact ⟨r, ys, hasc, fun z => (hys z).trans (hI0 z), rfl, hr, M8.keep [false, false, true]⟩

end Go.Proofs.YtjbhobahebebkaaDoor
