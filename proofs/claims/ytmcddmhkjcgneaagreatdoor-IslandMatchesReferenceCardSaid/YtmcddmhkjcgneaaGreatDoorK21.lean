/- Part of the proof of the laws of this seat: P10, Q10, U11, V11. No conditions. -/
import Derived.Test.YtmcddmhkjcgneaaGreatDoorK5
import Derived.Test.YtmcddmhkjcgneaaGreatDoorK19
import Derived.Test.YtmcddmhkjcgneaaGreatDoorK15
import Derived.Test.YtmcddmhkjcgneaaGreatDoorK20
/- Walks of Go functions over the frame of this claim: what each computes, for every input of the stated types (P10). -/
set_option linter.unusedVariables false
set_option linter.unusedSimpArgs false
set_option linter.unnecessarySimpa false
namespace Go.Proofs.YtmcddmhkjcgneaaGreatDoor
open Go.Bil
open Go.RowKit (Below)
open Go.Proofs

set_option maxHeartbeats 4000000 in
theorem grid_pair (w : World) (a b : Int) :
    Calls Tryz.prog 93 #[.int .u32 a, .int .u32 b] w (fun ex w' => ∃ v, ex = .returned v ∧ (fun v w' => v = (.agg (pairCells (prI a b)).toArray) ∧ Below w.heap.size w w') v w') := by
  refine calls_of_W #[.cell 4 61] 12 Tryz.func93 rfl Tryz.results93 Tryz.ntmps93 rfl ?_
  have M0 := Mem.refl w
  refine W_seq ?_
  refine W_region ?_
  refine wl_alloc zero61 M0 rfl rfl (fun b1 w1 M1 => ?_)
  refine wl_nil ?_
  refine thenN ?_
  refine W_seq ?_
  refine W_region ?_
  refine wl_q (r_move (.int _ _) rfl) rfl rfl ?_
  refine wl_q (r_move (.int _ _) rfl) rfl rfl ?_
  refine wl_q (r_min2 rfl rfl ) rfl rfl ?_
  refine wl_q (r_move (.int _ _) rfl) rfl rfl ?_
  refine wl_q (r_move (.int _ _) rfl) rfl rfl ?_
  refine wl_q (r_max2 rfl rfl ) rfl rfl ?_
  refine wl_q (r_build [(0, .int _ _), (1, .int _ _)] _ struct61 rfl rfl) rfl rfl ?_
  refine wl_stW 0 _ agg61 M1 rfl rfl rfl rfl rfl (ones_of rfl) rfl (fun w2 M2 => ?_)
  refine wl_nil ?_
  refine thenN ?_
  refine W_ret ?_
  skip
  refine finC1 0 agg61 M2 rfl rfl rfl ?_
  exact ⟨rfl, M2.below⟩

set_option maxHeartbeats 4000000 in
theorem cmp_Or2 (w : World) (A : Option Addr) (x y : Int) (R : Rd w 1 A 2 [[.int .i64 x], [.int .i64 y]]) :
    Calls Tryz.prog 108 #[.slice A 2 2] w (fun ex w' => ∃ v, ex = .returned v ∧ (fun v w' => v = .int .i64 (if x = 0 then y else x) ∧ w' = w) v w') := by
  refine calls_of_W #[.tmp 2] 18 Tryz.func108 rfl Tryz.results108 Tryz.ntmps108 rfl ?_
  have M0 := Mem.refl w
  refine W_seq ?_
  refine W_region ?_
  refine wl_q (r_assign (.int _ _) rfl) rfl rfl ?_
  refine wl_nil ?_
  refine thenN ?_
  refine W_seq ?_
  refine W_region ?_
  refine wl_q (r_assign (.int _ _) rfl) rfl rfl ?_
  refine wl_nil ?_
  refine thenN ?_
  refine W_seq ?_
  refine W_seq ?_
  refine W_region ?_
  refine wl_q (r_move (.slice _ _ _) rfl) rfl rfl ?_
  refine wl_q (r_lenS Tryz.underlying187 rfl) rfl rfl ?_
  refine wl_re 7 (.int .i64 2) (iE rfl) ?_
  refine wl_q (r_move (.int _ _) rfl) rfl rfl ?_
  refine wl_nil ?_
  refine thenN ?_
  refine W_block ?_
  refine W_rounds 3 (Wr_s ?_)
  refine W_seq ?_
  refine W_region ?_
  refine wl_q (r_bin (.bool (decide _)) rfl rfl rfl) rfl rfl ?_
  refine wl_re 9 (.bool true) (bT (by first | decide | omega)).symm ?_
  refine wl_nil ?_
  refine thenN ?_
  refine W_seq ?_
  refine W_condT rfl ?_
  refine W_skip ?_
  refine thenN ?_
  refine W_seq ?_
  refine W_block ?_
  refine W_seq ?_
  refine W_region ?_
  refine wl_q (r_idxR (0) sl187 rfl rfl rfl (R.below_len ((rfl : ([[.int .i64 x], [.int .i64 y]] : List (List Value))[0]? = some [.int .i64 x]))) (R.someK ((rfl : ([[.int .i64 x], [.int .i64 y]] : List (List Value))[0]? = some [.int .i64 x])))) rfl rfl ?_
  refine wl_q (r_ldE0 (.int _ _) one3 R ((rfl : ([[.int .i64 x], [.int .i64 y]] : List (List Value))[0]? = some [.int .i64 x])) rfl) rfl rfl ?_
  refine wl_q (r_assign (.int _ _) rfl) rfl rfl ?_
  refine wl_nil ?_
  refine thenN ?_
  refine W_seq ?_
  refine W_region ?_
  refine wl_q (r_move (.int _ _) rfl) rfl rfl ?_
  refine wl_q (r_move (.int _ _) rfl) rfl rfl ?_
  refine wl_q (r_bin (.bool (decide _)) rfl rfl rfl) rfl rfl ?_
  refine wl_nil ?_
  refine thenN ?_
  refine W_condD rfl (fun h14 => ?_) (fun h14 => ?_)
  · skip
    refine W_seq ?_
    refine W_region ?_
    refine wl_q (r_move (.int _ _) rfl) rfl rfl ?_
    refine wl_q (r_assign (.int _ _) rfl) rfl rfl ?_
    refine wl_nil ?_
    refine thenN ?_
    refine W_ret ?_
    refine blkR ?_
    refine thenR ?_
    refine thenR ?_
    refine blkR ?_
    refine thenR ?_
    skip
    refine fin1 (.int _ _) rfl ?_
    exact ⟨iE (by split <;> omega), rfl⟩
  · skip
    refine W_skip ?_
    refine blkN ?_
    refine thenN ?_
    refine W_region ?_
    refine wl_q (r_add rfl rfl (by first | decide | omega) (by first | decide | omega)) rfl rfl ?_
    refine wl_re 16 (.int .i64 1) (iE (by first | decide | omega)) ?_
    refine wl_q (r_move (.int _ _) rfl) rfl rfl ?_
    refine wl_nil ?_
    refine thenN (Wr_s ?_)
    refine W_seq ?_
    refine W_region ?_
    refine wl_q (r_bin (.bool (decide _)) rfl rfl rfl) rfl rfl ?_
    refine wl_re 9 (.bool true) (bT (by first | decide | omega)).symm ?_
    refine wl_nil ?_
    refine thenN ?_
    refine W_seq ?_
    refine W_condT rfl ?_
    refine W_skip ?_
    refine thenN ?_
    refine W_seq ?_
    refine W_block ?_
    refine W_seq ?_
    refine W_region ?_
    refine wl_q (r_idxR (1) sl187 rfl rfl rfl (R.below_len ((rfl : ([[.int .i64 x], [.int .i64 y]] : List (List Value))[1]? = some [.int .i64 y]))) (R.someK ((rfl : ([[.int .i64 x], [.int .i64 y]] : List (List Value))[1]? = some [.int .i64 y])))) rfl rfl ?_
    refine wl_q (r_ldE0 (.int _ _) one3 R ((rfl : ([[.int .i64 x], [.int .i64 y]] : List (List Value))[1]? = some [.int .i64 y])) rfl) rfl rfl ?_
    refine wl_q (r_assign (.int _ _) rfl) rfl rfl ?_
    refine wl_nil ?_
    refine thenN ?_
    refine W_seq ?_
    refine W_region ?_
    refine wl_q (r_move (.int _ _) rfl) rfl rfl ?_
    refine wl_q (r_move (.int _ _) rfl) rfl rfl ?_
    refine wl_q (r_bin (.bool (decide _)) rfl rfl rfl) rfl rfl ?_
    refine wl_nil ?_
    refine thenN ?_
    refine W_condD rfl (fun h14 => ?_) (fun h14 => ?_)
    · skip
      refine W_seq ?_
      refine W_region ?_
      refine wl_q (r_move (.int _ _) rfl) rfl rfl ?_
      refine wl_q (r_assign (.int _ _) rfl) rfl rfl ?_
      refine wl_nil ?_
      refine thenN ?_
      refine W_ret ?_
      refine blkR ?_
      refine thenR ?_
      refine thenR ?_
      refine blkR ?_
      refine thenR ?_
      skip
      refine fin1 (.int _ _) rfl ?_
      exact ⟨iE (by split <;> omega), rfl⟩
    · skip
      refine W_skip ?_
      refine blkN ?_
      refine thenN ?_
      refine W_region ?_
      refine wl_q (r_add rfl rfl (by first | decide | omega) (by first | decide | omega)) rfl rfl ?_
      refine wl_re 16 (.int .i64 2) (iE (by first | decide | omega)) ?_
      refine wl_q (r_move (.int _ _) rfl) rfl rfl ?_
      refine wl_nil ?_
      refine thenN (Wr_s ?_)
      refine W_seq ?_
      refine W_region ?_
      refine wl_q (r_bin (.bool (decide _)) rfl rfl rfl) rfl rfl ?_
      refine wl_re 9 (.bool false) (bF (by first | decide | omega)).symm ?_
      refine wl_nil ?_
      refine thenN ?_
      refine W_seq ?_
      refine W_condF rfl ?_
      refine W_exit ?_
      refine thenX ?_
      refine thenX ?_
      refine blkH ?_
      refine thenN ?_
      refine W_seq ?_
      refine W_region ?_
      refine wl_q (r_move (.int _ _) rfl) rfl rfl ?_
      refine wl_q (r_assign (.int _ _) rfl) rfl rfl ?_
      refine wl_nil ?_
      refine thenN ?_
      refine W_ret ?_
      skip
      refine fin1 (.int _ _) rfl ?_
      exact ⟨iE (by split <;> omega), rfl⟩

set_option maxHeartbeats 4000000 in
theorem grid_compare (a b : Int × Int) (w : World) :
    Calls Tryz.prog 96 #[(.agg (pairCells a).toArray), (.agg (pairCells b).toArray)] w (fun ex w' => ∃ v, ex = .returned v ∧ (fun v w' => v = .int .i64 (cmpP a b) ∧ ∃ q os, w' = Go.Sort.grow (w.drewN q) os) v w') := by
  refine calls_of_W #[.tmp 4] 17 Tryz.func96 rfl Tryz.results96 Tryz.ntmps96 rfl ?_
  have M0 := Mem.refl w
  refine W_seq ?_
  refine W_region ?_
  refine wl_boxE (.agg (List.toArray _)) M0 rfl rfl rfl (fun M1 => ?_)
  refine wl_boxE (.agg (List.toArray _)) M1 rfl rfl rfl (fun M2 => ?_)
  refine wl_q (r_assign (.int _ _) rfl) rfl rfl ?_
  refine wl_nil ?_
  refine thenN ?_
  refine W_seq ?_
  refine W_drawE [(0, 0), (1, 1), (2, 0), (3, 1), (5, 0), (6, 1), (7, 0), (8, 1), (4, 2), (9, 2), (10, 2), (11, 2), (12, 0)] mixed rfl (by kernel_rfl) ?_
  have M3 := M2.drewE
  refine D_p rfl rfl rfl (fun _ => r_fieldAddr 0 fld61_0 rfl) ?_
  refine D_r rfl rfl rfl (r_ld 0 (.int _ _) one30 M3 rfl rfl rfl) ?_
  refine D_p rfl rfl rfl (fun _ => r_fieldAddr 0 fld61_0 rfl) ?_
  refine D_r rfl rfl rfl (r_ld 1 (.int _ _) one30 M3 rfl rfl rfl) ?_
  refine D_p rfl rfl rfl (fun _ => r_fieldAddr 1 fld61_1 rfl) ?_
  refine D_r rfl rfl rfl (r_ld 0 (.int _ _) one30 M3 rfl rfl rfl) ?_
  refine D_p rfl rfl rfl (fun _ => r_fieldAddr 1 fld61_1 rfl) ?_
  refine D_r rfl rfl rfl (r_ld 1 (.int _ _) one30 M3 rfl rfl rfl) ?_
  refine D_e [false, false, true, true] rfl (by kernel_rfl) ?_
  refine wl_cal cal109 rfl rfl rfl ?_
  refine (cmp_Compare32 _ _ _).mono ?_
  rintro _ w4 ⟨v4, rfl, ⟨rfl, rfl⟩⟩
  refine ⟨_, rfl, ?_⟩
  have M4 : Mem _ _ [_, _] _ := M3
  refine wl_nil (thenN ⟨(alC (Yl_of rfl (r_ld 1 (.int _ _) one30 M4 rfl rfl rfl)) (alC (Yl_of rfl (r_ld 0 (.int _ _) one30 M4 rfl rfl rfl)) alN)), ?_⟩)
  refine D_e [true, true] rfl (by kernel_rfl) ?_
  refine wl_cal cal109 rfl rfl rfl ?_
  refine (cmp_Compare32 _ _ _).mono ?_
  rintro _ w5 ⟨v5, rfl, ⟨rfl, rfl⟩⟩
  refine ⟨_, rfl, ?_⟩
  have M5 : Mem _ _ [_, _] _ := M4
  refine wl_nil (thenN ⟨alN, ?_⟩)
  refine D_e [] rfl (by kernel_rfl) ?_
  refine wl_bsliceE [.int _ _, .int _ _] [[.int .i64 (cmpI a.1 b.1)], [.int .i64 (cmpI a.2 b.2)]] rfl sl187 M5 rfl rfl rfl rfl (lens_of rfl) (by decide) (fun M6 => ?_)
  refine wl_nil (thenN ⟨alN, ?_⟩)
  refine D_e [] rfl (by kernel_rfl) ?_
  refine wl_cal cal108 rfl rfl rfl ?_
  refine (cmp_Or2 _ _ _ _ ((rowLit (T := 3) [[.int .i64 (cmpI a.1 b.1)], [.int .i64 (cmpI a.2 b.2)]] (by simp) rfl (show 2 ≤ 281474976710656 by decide)).rd M6 (nthMem (i := 2) rfl))).mono ?_
  rintro _ w7 ⟨v7, rfl, ⟨rfl, rfl⟩⟩
  refine ⟨_, rfl, ?_⟩
  have M7 : Mem _ _ [_, _, _] _ := M6
  refine wl_nil (thenN ⟨alN, ?_⟩)
  refine D_p rfl rfl rfl (fun _ => r_assign (.int _ _) rfl) ?_
  refine D_nil ?_
  refine thenN ?_
  refine W_ret ?_
  skip
  refine fin1 (.int _ _) rfl ?_
  exact ⟨iE rfl, grow3 _ _ _ _⟩

theorem pair_cmp : CmpOk Tryz.prog 96 pairCells cmpP := fun x y w => grid_compare x y w
theorem pairKeyT : KeyT Tryz.prog 147 61 148 pairCells := by
  refine ⟨Tryz.underlying147, ⟨_, Tryz.underlying61⟩, fun a w => ?_, fun a b w => ?_, fun a => by simp [pairCells, Instr.sameBits]⟩
  · have h42 := run_underlying' (w := w) Tryz.underlying61
    have hc : ∀ x : Int, (Instr.checkKey false 9999 30 (.int .u32 x)).run Tryz.prog w = .ok () w := fun x => MapKept.run_checkKey (d := .int .u32) Tryz.underlying30 (by simp [MapKept.IsKey]) false 9998
    have p0 : (Go.part 30 #[.int .u32 a.1, .int .u32 a.2] 0).run Tryz.prog w = .ok (.int .u32 a.1) w := part1 (l := [.int .u32 a.1, .int .u32 a.2]) one30 rfl
    have p1 : (Go.part 30 #[.int .u32 a.1, .int .u32 a.2] 1).run Tryz.prog w = .ok (.int .u32 a.2) w := part1 (l := [.int .u32 a.1, .int .u32 a.2]) one30 rfl
    show (Instr.checkKey false (9999 + 1) 61 _).run _ w = _
    unfold Instr.checkKey
    simp only [Sem.run_bind, h42, Result.andThen_ok, pairCells]
    simp [p0, p1, hc, Sem.run_bind, Sem.run_pure]
  · have h := (eqA61 a.1 a.2 b.1 b.2).2 w
    have e : decide (a.1 = b.1 ∧ a.2 = b.2) = decide (a = b) := decide_eq_decide.2 Prod.ext_iff.symm
    rw [e] at h
    exact h
theorem sortFunc_pairs (w : World) (A : Option Addr) (n c : Nat) (xs : List (Int × Int)) (e : Ent) (hR : RowIs 61 2 A n c (xs.map pairCells) e) (hw : Own [e] w) (hn : n ≤ 1099511627776) :
    Calls Tryz.prog 106 #[.slice A n c, .func (.func 96) #[] #[]] w (fun ex w' => ∃ v, ex = .returned v ∧ v = .tuple #[] ∧ ∃ (ys : List (Int × Int)) (e' : Ent), ys.Perm xs ∧ (ys.Pairwise fun a b => ¬ ltP b a) ∧ RowIs 61 2 A n c (ys.map pairCells) e' ∧ Mem w (blks [e]) [e'] w') := by
  have h := sortFunc_rows sortP_lay (T := 61) agg61 pairCells pairCells_len (fun x v hv => by simp only [pairCells, List.mem_cons, List.not_mem_nil, or_false] at hv; rcases hv with h | h <;> subst h <;> rfl) _ swo_pair 96 cal96 pair_cmp w A xs e hR hw (by omega)
  refine Calls.mono h ?_
  rintro ex w' ⟨v, h1, h2, ys, e', h3, h4, h5, h6⟩
  refine ⟨v, h1, h2, ys, e', h3, ?_, h5, h6⟩
  refine List.pairwise_iff_getElem.2 fun i j hi hj hij => ?_
  have := h4 i j _ _ hij (List.getElem?_eq_getElem hi) (List.getElem?_eq_getElem hj)
  have h := of_decide_eq_false this
  rwa [cmpP_neg] at h

set_option maxHeartbeats 4000000 in
theorem maps_KeysP (w : World) (mb : Nat) :
    Calls Tryz.prog 95 #[.map (some mb)] w (fun ex w' => ∃ v, ex = .returned v ∧ (fun v w' => ∃ bb, v = .func (.func 107) #[] #[.pointer (some ⟨bb, 0, none⟩)] ∧ Mem w [] [(some bb, bc [.map (some mb)] 147)] w') v w') := by
  refine calls_of_W #[.tmp 2] 4 Tryz.func95 rfl Tryz.results95 Tryz.ntmps95 rfl ?_
  have M0 := Mem.refl w
  refine W_seq ?_
  refine W_region ?_
  refine wl_box (.map _) M0 rfl rfl rfl (fun b1 w1 M1 => ?_)
  refine wl_q (r_assign (_) rfl) rfl rfl ?_
  refine wl_nil ?_
  refine thenN ?_
  refine W_seq ?_
  refine W_region ?_
  refine wl_q (r_makeFuncV [] [.pointer _] rfl rfl) rfl rfl ?_
  refine wl_q (r_assign (.func _ _ _) rfl) rfl rfl ?_
  refine wl_nil ?_
  refine thenN ?_
  refine W_ret ?_
  skip
  refine fin1 (.func _ _ _) rfl ?_
  exact ⟨b1, rfl, M1⟩

set_option maxHeartbeats 4000000 in
theorem maps_KeysP1 (w : World) (bb : Nat) (mb clock : Nat) (L : List ((Int × Int) × Nat)) (hmb : w.heap[mb]? = some (setObj' pairCells L clock)) (hml : mb < w.heap.size) (hS : SetOk L clock) (hLN : L.length < 1099511627776) (B1 : Rd w 1 (some ⟨bb, 0, none⟩) 1 [[.map (some mb)]]) (lp ob : Nat) (rec : Loop) (hY : YieldApp Tryz.prog lp ob rec 103 61 2 1099511627776 (fun x => ∃ a b, x = [.int .u32 a, .int .u32 b])) (r0 : Row) (hr0 : RowIs 61 2 r0.A r0.n r0.c [] r0.e) (hO : Own [(some lp, .loop rec), (some ob, bc [.slice r0.A r0.n r0.c] 103), r0.e] w) (hd1 : 0 < 1 → ∀ q off, (some ⟨bb, 0, none⟩ : Option Addr) = some ⟨q, off, none⟩ → q ∉ blks [(some lp, .loop rec), (some ob, bc [.slice r0.A r0.n r0.c] 103), r0.e]) (hmX : mb ∉ blks [(some lp, .loop rec), (some ob, bc [.slice r0.A r0.n r0.c] 103), r0.e]) :
    Calls Tryz.prog 107 #[.func (.yield lp) #[] #[], .pointer (some ⟨bb, 0, none⟩)] w (fun ex w' => ∃ v, ex = .returned v ∧ (fun v w' => v = .tuple #[] ∧ ∃ (r : Row) (T : List ((Int × Int) × Nat)), T.Perm L ∧ RowIs 61 2 r.A r.n r.c ((T.map (fun z => z.1)).map pairCells) r.e ∧ Mem w (blks [(some lp, .loop rec), (some ob, bc [.slice r0.A r0.n r0.c] 103), r0.e]) [(some lp, .loop rec), (some ob, bc [.slice r.A r.n r.c] 103), r.e] w') v w') := by
  rw [← elt_zero bb]
  refine calls_of_W #[] 14 Tryz.func107 rfl Tryz.results107 Tryz.ntmps107 rfl ?_
  have M0 := hO.mem
  refine W_seq ?_
  refine W_region ?_
  refine wl_q (r_ldE (o := 0) (.map _) one147 (B1.memY M0 hd1) (show ([[.map (some mb)]] : List (List Value))[0]? = some ([.map (some mb)]) from rfl) rfl rfl) rfl rfl ?_
  refine wl_range (α := Int × Int) Tryz.underlying147 M0 rfl rfl rfl ((M0.old mb hml hmX).trans hmb) (fun b1 w1 M1 => ?_)
  refine wl_nil ?_
  refine thenN ?_
  refine W_block ?_
  refine W_loop (σ := List ((Int × Int) × Nat) × Row) [0, 5] (fun (T, r) => []) (fun (T, r) w' => ((∀ p ∈ T, p ∈ L) ∧ (T.map (·.2)).Nodup ∧ RowIs 61 2 r.A r.n r.c ((T.map (fun z => z.1)).map pairCells) r.e) ∧ Mem w (blks [(some lp, .loop rec), (some ob, bc [.slice r0.A r0.n r0.c] 103), r0.e]) [(some lp, .loop rec), (some ob, bc [.slice r.A r.n r.c] 103), r.e, (some b1, iterO mb clock T)] w') (fun (T, r) => L.length - T.length) ([], r0) agN (⟨⟨(fun p hp => nomatch hp), by simp, hr0⟩, M1⟩) ?_
  rintro ⟨T, r⟩ ρ2 w2 ⟨⟨hTs, hTn, hr⟩, hM2⟩
  have hrl : T.length = r.n := by simpa using hr.1
  have hTl := came_len hTn hTs
  refine W_seq ?_
  refine W_region ?_
  refine wl_next (enc := pairCells) 3 hM2 rfl rfl rfl rfl ((hM2.old mb hml hmX).trans hmb) hS.lt (fun hover => ?_) (fun p3 w3 hp3 hnp3 M3 => ?_)
  · skip
    refine wl_q (r_ext (.bool false) rfl rfl) rfl rfl ?_
    refine wl_nil ?_
    refine thenN ?_
    refine W_seq ?_
    refine W_condF rfl ?_
    refine W_exit ?_
    refine thenX ?_
    refine roundX ?_
    refine blkH ?_
    refine fin0n ?_
    exact ⟨rfl, r, T, came_all hS.nd hTn hTs hover, hr, hM2.keep [true, true, true, false]⟩
  · skip
    refine wl_q (r_ext (.bool true) rfl rfl) rfl rfl ?_
    refine wl_nil ?_
    refine thenN ?_
    refine W_seq ?_
    refine W_condT rfl ?_
    refine W_skip ?_
    refine thenN ?_
    refine W_block ?_
    refine W_seq ?_
    refine W_region ?_
    refine wl_q (r_entry (enc := pairCells) 3 (p3) M3 rfl rfl ((M3.old mb hml hmX).trans hmb) hp3 hS.nd) rfl rfl ?_
    refine wl_q (r_ext (.agg (List.toArray _)) rfl rfl) rfl rfl ?_
    refine wl_alloc zero61 M3 rfl rfl (fun b4 w4 M4 => ?_)
    refine wl_stW 4 _ agg61 M4 rfl rfl rfl rfl rfl (ones_of rfl) rfl (fun w5 M5 => ?_)
    refine wl_nil ?_
    refine thenN ?_
    refine W_seq ?_
    refine W_regionY ?_
    refine wlY_q (r_move (.func _ _ _) rfl) rfl rfl ?_
    refine wlY_q (r_ldW 4 agg61 M5 rfl rfl rfl) rfl rfl ?_
    obtain ⟨fy, ty, ay, by1, hy1, hy2⟩ := hY _ r ((T.map (fun z => z.1)).map pairCells) (pairCells p3.1) ⟨_, _, rfl⟩ (by omega) hr (M5.ownSeg 0 3)
    refine wlY_yield rfl rfl rfl rfl hy1 (hy2.mono ?_)
    rintro _ w6 ⟨rfl, q6, hqn6, hq6, hM6⟩
    have M6 : Mem _ _ [_, _, _, _, _] _ := M5.seg 0 3 hM6
    refine ⟨_, rfl, ?_⟩
    refine wlY_of rfl (fun _ _ h => h) ?_
    refine wl_q (r_notB false rfl rfl) rfl rfl ?_
    refine wl_nil ?_
    refine thenN ?_
    refine W_condF rfl ?_
    refine W_skip ?_
    refine blkN ?_
    have hTs2 : ∀ p ∈ T ++ [p3], p ∈ L := fun p hp => (List.mem_append.1 hp).elim (hTs p) (fun h => by rw [List.mem_singleton] at h; rw [h]; exact hp3)
    have hTn2 := came_snoc hTn hnp3
    have hTl2 := came_len hTn2 hTs2
    rw [List.length_append, List.length_singleton] at hTl2
    refine roundN (T ++ [p3], q6) agN (akC rfl (akC rfl akN)) ?_ ?_
    · exact ⟨⟨hTs2, hTn2, by rw [List.map_append, List.map_append]; exact hq6⟩, M6.keep [true, true, true, true, false]⟩
    · (show L.length - (T ++ [p3]).length < L.length - T.length; rw [List.length_append, List.length_singleton]; omega)

set_option maxHeartbeats 4000000 in
theorem slices_AppendSeqP (w : World) (bb : Nat) (mb clock : Nat) (L : List ((Int × Int) × Nat)) (hmb : w.heap[mb]? = some (setObj' pairCells L clock)) (hml : mb < w.heap.size) (hS : SetOk L clock) (hLN : L.length < 1099511627776) (B1 : Rd w 1 (some ⟨bb, 0, none⟩) 1 [[.map (some mb)]]) :
    Calls Tryz.prog 120 #[.slice none 0 0, .func (.func 107) #[] #[.pointer (some ⟨bb, 0, none⟩)]] w (fun ex w' => ∃ v, ex = .returned v ∧ (fun v w' => ∃ (r : Row) (T : List ((Int × Int) × Nat)), T.Perm L ∧ v = .slice r.A r.n r.c ∧ RowIs 61 2 r.A r.n r.c ((T.map (fun z => z.1)).map pairCells) r.e ∧ Mem w [] [r.e] w') v w') := by
  refine calls_of_W2 #[.tmp 4] 13 Tryz.func120 rfl Tryz.results120 Tryz.ntmps120 rfl ?_
  have M0 := Mem.refl w
  refine W2_seq ?_
  refine W2_region0 ?_
  refine wl_box (.slice _ _ _) M0 rfl rfl rfl (fun b1 w1 M1 => ?_)
  refine wl_q (r_assign (.slice _ _ _) rfl) rfl rfl ?_
  refine wl_nil ?_
  refine then2N ?_
  refine W2_seq ?_
  refine W2_seq ?_
  refine W2_region0 ?_
  refine wl_q (r_move (.func _ _ _) rfl) rfl rfl ?_
  refine wl_nil ?_
  refine then2N ?_
  refine W2_block ?_
  have M2 : Mem _ _ [_, _] _ := M1.dummy default
  refine W2_range cal107 M2 rfl (fun fnn B lp tmps w1 hρ hn M1 => ?_)
  refine with_yield (P := Tryz.prog) (ob := b1) (Tsl := 103) (Te := 61) (sz := 2) (N := 1099511627776) (ok := (fun x => ∃ a b, x = [.int .u32 a, .int .u32 b])) M1 ?_ (fun hY => ?_)
  · skip
    intro wr r ls x hok hlt hrow hO
    obtain ⟨xa, xb, rfl⟩ := hok
    refine ⟨_, _, _, _, round_go hO rfl rfl rfl hn (by decide) hρ ?_⟩
    have MR0 := hO.mem
    refine WR_region rfl (fun _ _ h => nomatch h.1) ?_
    refine wl_alloc zero61 MR0 rfl rfl (fun b3 w3 M3 => ?_)
    refine wl_stW 3 _ agg61 M3 rfl rfl rfl rfl rfl (ones_of rfl) rfl (fun w4 M4 => ?_)
    refine wl_nil ?_
    refine ⟨rfl, _, M4, rfl, fun w5 M5 => ?_⟩
    refine WR_block ?_
    refine WR_region rfl (fun _ _ h => nomatch h.1) ?_
    refine wl_q (r_ld 1 (.slice _ _ _) one103 M5 rfl rfl rfl) rfl rfl ?_
    refine wl_q (r_ldW 3 agg61 M5 rfl rfl rfl) rfl rfl ?_
    refine wl_bslice [.agg (List.toArray _)] [[.int .u32 xa, .int .u32 xb]] rfl sl103 M5 rfl rfl rfl rfl (lens_of rfl) (by decide) (fun b6 w6 M6 => ?_)
    refine wl_append 2 [[.int .u32 xa, .int .u32 xb]] sl103 M6 rfl rfl rfl rfl rfl hrow rfl (by simp [Go.Bil.one]) (Cells.ofMem 4 M6 rfl) (by omega) (fun A7 c7 e7 w7 M7 hR7 => ?_)
    refine wl_st 1 (.slice _ _ _) one103 M7 rfl rfl rfl rfl rfl rfl (fun w8 M8 => ?_)
    refine wl_nil ?_
    refine blkN ?_
    refine ⟨rfl, _, M8, rfl, fun w9 M9 => ?_⟩
    exact ⟨⟨A7, r.n + 1, c7, e7⟩, rfl, hR7, M9.keep [true, true, true, false, false]⟩
  · skip
    refine (maps_KeysP1 _ bb mb clock L ((M1.old mb hml List.not_mem_nil).trans hmb) (Nat.lt_of_lt_of_le hml M1.size) hS hLN (B1.mem M1) lp b1 _ hY ⟨none, 0, 0, (none, default)⟩ (RowIs.nil _ _ _) (M1.ownSeg 0 3) (M1.away 0 3 B1 (fun _ q off _ h => by simp at h)) (M1.notNew 3 hml)).mono ?_
    rintro _ w5 ⟨v5, rfl, rfl, r, T, hT, hr, hM⟩
    have M5 : Mem _ _ (_ :: [_, _, _]) _ := M1.seg 0 3 hM
    refine ⟨_, rfl, _, M5, fun w6 M6 => ?_⟩
    refine blk2N ?_
    refine then2N ?_
    refine W2_seq ?_
    refine W2_region ?_
    refine wl2_q (r_ld 1 (.slice _ _ _) one103 M6 rfl rfl rfl) rfl rfl ?_
    refine wl2_q (r_assign (.slice _ _ _) rfl) rfl rfl ?_
    refine wl2_nil ?_
    refine then2N ?_
    refine W2_ret ?_
    skip
    refine fin1M (i := 3) (.slice _ _ _) rfl M6 rfl (fun w9 M9 => ?_)
    exact ⟨r, T, hT, rfl, hr, M9.keep [false, false, true, false]⟩

set_option maxHeartbeats 4000000 in
theorem slices_CollectP (w : World) (bb : Nat) (mb clock : Nat) (L : List ((Int × Int) × Nat)) (hmb : w.heap[mb]? = some (setObj' pairCells L clock)) (hml : mb < w.heap.size) (hS : SetOk L clock) (hLN : L.length < 1099511627776) (B1 : Rd w 1 (some ⟨bb, 0, none⟩) 1 [[.map (some mb)]]) :
    Calls Tryz.prog 105 #[.func (.func 107) #[] #[.pointer (some ⟨bb, 0, none⟩)]] w (fun ex w' => ∃ v, ex = .returned v ∧ (fun v w' => ∃ (r : Row) (T : List ((Int × Int) × Nat)), T.Perm L ∧ v = .slice r.A r.n r.c ∧ RowIs 61 2 r.A r.n r.c ((T.map (fun z => z.1)).map pairCells) r.e ∧ Mem w [] [r.e] w') v w') := by
  refine calls_of_W #[.tmp 2] 5 Tryz.func105 rfl Tryz.results105 Tryz.ntmps105 rfl ?_
  have M0 := Mem.refl w
  refine W_seq ?_
  refine W_region ?_
  refine wl_q (r_assign (.slice _ _ _) rfl) rfl rfl ?_
  refine wl_nil ?_
  refine thenN ?_
  refine W_seq ?_
  refine W_region ?_
  refine wl_q (r_move (.func _ _ _) rfl) rfl rfl ?_
  refine wl_cal cal120 rfl rfl rfl ?_
  refine (slices_AppendSeqP _ bb mb clock L ((M0.old mb hml List.not_mem_nil).trans hmb) (Nat.lt_of_lt_of_le hml M0.size) hS hLN (B1.mem M0)).mono ?_
  rintro _ w1 ⟨v1, rfl, ⟨r, T, hT, rfl, hr, hM1⟩⟩
  refine ⟨_, rfl, ?_⟩
  have M1 : Mem _ _ [_] _ := M0.call0 hM1
  refine wl_q (r_assign (.slice _ _ _) rfl) rfl rfl ?_
  refine wl_nil ?_
  refine thenN ?_
  refine W_ret ?_
  skip
  refine fin1 (.slice _ _ _) rfl ?_
  exact ⟨r, T, hT, rfl, hr, M1⟩

set_option maxHeartbeats 4000000 in
theorem slices_SortedFuncP (w : World) (bb : Nat) (mb clock : Nat) (L : List ((Int × Int) × Nat)) (hmb : w.heap[mb]? = some (setObj' pairCells L clock)) (hml : mb < w.heap.size) (hS : SetOk L clock) (hLN : L.length < 1099511627776) (B1 : Rd w 1 (some ⟨bb, 0, none⟩) 1 [[.map (some mb)]]) :
    Calls Tryz.prog 94 #[.func (.func 107) #[] #[.pointer (some ⟨bb, 0, none⟩)], .func (.func 96) #[] #[]] w (fun ex w' => ∃ v, ex = .returned v ∧ (fun v w' => ∃ (r : Row) (ys : List (Int × Int)), Asc ys ∧ (∀ z, z ∈ ys ↔ z ∈ L.map (·.1)) ∧ v = .slice r.A r.n r.c ∧ RowIs 61 2 r.A r.n r.c ((ys).map pairCells) r.e ∧ Mem w [] [r.e] w') v w') := by
  refine calls_of_W #[.tmp 4] 12 Tryz.func94 rfl Tryz.results94 Tryz.ntmps94 rfl ?_
  have M0 := Mem.refl w
  refine W_seq ?_
  refine W_region ?_
  refine wl_q (r_assign (.slice _ _ _) rfl) rfl rfl ?_
  refine wl_nil ?_
  refine thenN ?_
  refine W_seq ?_
  refine W_region ?_
  refine wl_q (r_move (.func _ _ _) rfl) rfl rfl ?_
  refine wl_cal cal105 rfl rfl rfl ?_
  refine (slices_CollectP _ bb mb clock L ((M0.old mb hml List.not_mem_nil).trans hmb) (Nat.lt_of_lt_of_le hml M0.size) hS hLN (B1.mem M0)).mono ?_
  rintro _ w1 ⟨v1, rfl, ⟨r, T, hT, rfl, hr, hM1⟩⟩
  refine ⟨_, rfl, ?_⟩
  have M1 : Mem _ _ [_] _ := M0.call0 hM1
  have hrl : T.length = r.n := by simpa using hr.1
  have hTL := hT.length_eq
  refine wl_q (r_assign (.slice _ _ _) rfl) rfl rfl ?_
  refine wl_nil ?_
  refine thenN ?_
  refine W_seq ?_
  refine W_region ?_
  refine wl_q (r_move (.slice _ _ _) rfl) rfl rfl ?_
  refine wl_q (r_move (.func _ _ _) rfl) rfl rfl ?_
  refine wl_cal cal106 rfl rfl rfl ?_
  refine (sortFunc_pairs _ _ _ _ (T.map (fun z => z.1)) _ hr (M1.ownAt (i := 0) rfl) (by omega)).mono ?_
  rintro _ w2 ⟨v2, rfl, ⟨rfl, ys, e2, hpp, huu, hR2, hM2⟩⟩
  refine ⟨_, rfl, ?_⟩
  have M2 : Mem _ _ [_] _ := M1.seg 0 1 hM2
  refine wl_nil ?_
  refine thenN ?_
  refine W_seq ?_
  refine W_region ?_
  refine wl_q (r_move (.slice _ _ _) rfl) rfl rfl ?_
  refine wl_q (r_assign (.slice _ _ _) rfl) rfl rfl ?_
  refine wl_nil ?_
  refine thenN ?_
  refine W_ret ?_
  skip
  refine fin1 (.slice _ _ _) rfl ?_
  have hpl : ys.Perm (L.map (·.1)) := hpp.trans (hT.map _)
  exact ⟨⟨r.A, r.n, r.c, e2⟩, ys, asc_of (hpl.nodup_iff.2 hS.keys) huu, fun z => hpl.mem_iff, rfl, hR2, M2⟩

end Go.Proofs.YtmcddmhkjcgneaaGreatDoor

/- Walks of Go functions over the frame of this claim: what each computes, for every input of the stated types (Q10). -/
set_option linter.unusedVariables false
set_option linter.unusedSimpArgs false
set_option linter.unnecessarySimpa false
namespace Go.Proofs.YtmcddmhkjcgneaaGreatDoor
open Go.Bil
open Go.RowKit (Below)
open Go.Proofs

set_option maxHeartbeats 16000000 in
theorem grid_Candidates (w : World) (b : Nat) (rs : List Row) (cnt : Int) (g : Nat → List Int) (hlen : rs.length = 1024) (G : Rd w 1025 (some ⟨b, 0, none⟩) 1 [gcells rs cnt]) (hrow : ∀ (j : Nat) (r : Row), rs[j]? = some r → Rd w 1 r.A r.n ((g j).map keyCell) ∧ r.n ≤ r.c) (ks : List Int) (hks : ∀ j, j < 1024 → ∀ x ∈ g j, x ∈ ks) (hkl : ks.length ≤ 65536) :
    Calls Tryz.prog 76 #[.pointer (some ⟨b, 0, none⟩)] w (fun ex w' => ∃ v, ex = .returned v ∧ (fun v w' => ∃ (r : Row) (ps : List (Int × Int)), Asc ps ∧ (∀ z, z ∈ ps ↔ z ∈ cands g 1024) ∧ v = .slice r.A r.n r.c ∧ RowIs 61 2 r.A r.n r.c ((ps).map pairCells) r.e ∧ Mem w [] [r.e] w') v w') := by
  rw [← elt_zero b]
  refine calls_of_W #[.tmp 2] 49 Tryz.func76 rfl Tryz.results76 Tryz.ntmps76 rfl ?_
  have M0 := Mem.refl w
  refine W_seq ?_
  refine W_region ?_
  refine wl_q (r_assign (.slice _ _ _) rfl) rfl rfl ?_
  refine wl_nil ?_
  refine thenN ?_
  refine W_seq ?_
  refine W_seq ?_
  refine W_region ?_
  refine wl_q (r_move (elt _ _) rfl) rfl rfl ?_
  refine wl_q (r_eqPtrNilE Tryz.underlying139 (G.mem M0) (show ([gcells rs cnt] : List (List Value))[0]? = some (gcells rs cnt) from rfl) rfl) rfl rfl ?_
  refine wl_nil ?_
  refine thenN ?_
  refine W_condF rfl ?_
  refine W_skip ?_
  refine thenN ?_
  refine W_seq ?_
  refine W_region ?_
  refine wl_makeMap M0 rfl rfl (fun b1 w1 M1 => ?_)
  refine wl_q (r_assign (.map _) rfl) rfl rfl ?_
  refine wl_nil ?_
  refine thenN ?_
  refine W_seq ?_
  refine W_seq ?_
  refine W_region ?_
  refine wl_q (r_move (elt _ _) rfl) rfl rfl ?_
  refine wl_q (r_nilCheckE (G.mem M1) (Nat.lt_of_le_of_lt (Nat.zero_le _) ((G.mem M1).below_len (show ([gcells rs cnt] : List (List Value))[0]? = some (gcells rs cnt) from rfl))) rfl) rfl rfl ?_
  refine wl_q (r_fieldAddrE 0 fld123_0 (G.mem M1) (Nat.lt_of_le_of_lt (Nat.zero_le _) ((G.mem M1).below_len (show ([gcells rs cnt] : List (List Value))[0]? = some (gcells rs cnt) from rfl))) rfl) rfl rfl ?_
  refine wl_q (r_ldEP (o := 0) (rs.map (fun r => Value.slice r.A r.n r.c)) agg121 (G.mem M1) (show ([gcells rs cnt] : List (List Value))[0]? = some (gcells rs cnt) from rfl) rfl (gcells_take hlen) (by simp [hlen])) rfl rfl ?_
  refine wl_q (r_move (.int _ _) rfl) rfl rfl ?_
  refine wl_nil ?_
  refine thenN ?_
  refine W_block ?_
  refine W_loop (σ := Nat × Nat × List ((Int × Int) × Nat)) [2, 3, 16] (fun (i, c0, L0) => [(17, .int .i64 (i : Int))]) (fun (i, c0, L0) w' => i ≤ 1024 ∧ (SetOk L0 c0 ∧ ∀ z, z ∈ L0.map (fun z => z.1) ↔ z ∈ cands g i) ∧ Mem w [] [(some b1, setObj' pairCells L0 c0)] w') (fun (i, c0, L0) => 1024 - i) (0, 0, []) (agC rfl agN) (⟨by omega, ⟨SetOk.nil, fun z => by simp [cands]⟩, M1⟩) ?_
  rintro ⟨i, c0, L0⟩ ρ2 w2 ⟨hi, ⟨hS0, hI0⟩, hM2⟩
  refine W_seq ?_
  refine W_region ?_
  refine wl_q (r_bin (.bool (decide _)) rfl rfl rfl) rfl rfl ?_
  refine wl_nil ?_
  refine thenN ?_
  refine W_seq ?_
  refine W_condD rfl (fun h18 => ?_) (fun h18 => ?_)
  · skip
    obtain ⟨rj, hrj⟩ := getSome (xs := rs) (k := i) hlen (by omega)
    obtain ⟨Rj, hcj⟩ := hrow i rj hrj
    have hlj : (g i).length = rj.n := by simpa using Rj.len
    have hbj := Rj.bound
    refine W_skip ?_
    refine thenN ?_
    refine W_seq ?_
    refine W_block ?_
    refine W_seq ?_
    refine W_region ?_
    refine wl_q (r_idx1 (i) (.slice rj.A rj.n rj.c) arr121 one52 rfl rfl (by omega) (by omega) rfl (by rw [nth_eq]; exact mapGet _ hrj)) rfl rfl ?_
    refine wl_q (r_assign (.slice _ _ _) rfl) rfl rfl ?_
    refine wl_nil ?_
    refine thenN ?_
    refine W_seq ?_
    refine W_region ?_
    refine wl_q (r_move (.slice _ _ _) rfl) rfl rfl ?_
    refine wl_q (r_lenS Tryz.underlying52 rfl) rfl rfl ?_
    refine wl_q (r_move (.int _ _) rfl) rfl rfl ?_
    refine wl_nil ?_
    refine thenN ?_
    refine W_block ?_
    refine W_loop (σ := Nat × Nat × List ((Int × Int) × Nat)) [2, 3, 5, 16, 17, 20, 21] (fun (p, c2, L2) => [(22, .int .i64 (p : Int))]) (fun (p, c2, L2) w' => p ≤ rj.n ∧ (SetOk L2 c2 ∧ ∀ z, z ∈ L2.map (fun z => z.1) ↔ z ∈ cands g i ++ prsLk (g i) p) ∧ Mem w [] [(some b1, setObj' pairCells L2 c2)] w') (fun (p, c2, L2) => rj.n - p) (0, c0, L0) (agC rfl agN) (⟨by omega, ⟨hS0, fun z => by rw [hI0 z]; simp [prsLk]⟩, hM2⟩) ?_
    rintro ⟨p, c2, L2⟩ ρ3 w3 ⟨hp, ⟨hS2, hI2⟩, hM3⟩
    refine W_seq ?_
    refine W_region ?_
    refine wl_q (r_bin (.bool (decide _)) rfl rfl rfl) rfl rfl ?_
    refine wl_nil ?_
    refine thenN ?_
    refine W_seq ?_
    refine W_condD rfl (fun h23 => ?_) (fun h23 => ?_)
    · skip
      obtain ⟨xa, hxa⟩ := getSome (xs := g i) (k := p) hlj (by omega)
      refine W_skip ?_
      refine thenN ?_
      refine W_seq ?_
      refine W_block ?_
      refine W_seq ?_
      refine W_region ?_
      refine wl_q (r_move (.int _ _) rfl) rfl rfl ?_
      refine wl_q (r_idxR (p) sl52 rfl rfl rfl ((Rj.mem hM3).below_len (mapGet keyCell hxa)) ((Rj.mem hM3).someK (mapGet keyCell hxa))) rfl rfl ?_
      refine wl_q (r_ldE0 (.int _ _) one30 (Rj.mem hM3) (mapGet keyCell hxa) rfl) rfl rfl ?_
      refine wl_q (r_assign (.int _ _) rfl) rfl rfl ?_
      refine wl_q (r_assign (.int _ _) rfl) rfl rfl ?_
      refine wl_nil ?_
      refine thenN ?_
      refine W_seq ?_
      refine W_region ?_
      refine wl_q (r_move (.slice _ _ _) rfl) rfl rfl ?_
      refine wl_q (r_move (.int _ _) rfl) rfl rfl ?_
      refine wl_q (r_slice (0) ((p : Int)) sl52 rfl rfl ⟨_, rfl⟩ (by decide) (by omega) (by omega)) rfl rfl ?_
      refine wl_q (r_lenS Tryz.underlying52 rfl) rfl rfl ?_
      refine wl_q (r_move (.int _ _) rfl) rfl rfl ?_
      refine wl_nil ?_
      refine thenN ?_
      refine W_block ?_
      refine W_loop (σ := Nat × Nat × List ((Int × Int) × Nat)) [2, 3, 5, 7, 16, 17, 20, 21, 22, 29, 30] (fun (q, c4, L4) => [(31, .int .i64 (q : Int))]) (fun (q, c4, L4) w' => q ≤ p ∧ (SetOk L4 c4 ∧ ∀ z, z ∈ L4.map (fun z => z.1) ↔ z ∈ (cands g i ++ prsLk (g i) p) ++ prsR xa ((g i).take q)) ∧ Mem w [] [(some b1, setObj' pairCells L4 c4)] w') (fun (q, c4, L4) => p - q) (0, c2, L2) (agC rfl agN) (⟨by omega, ⟨hS2, fun z => by rw [hI2 z]; simp [prsR]⟩, hM3⟩) ?_
      rintro ⟨q, c4, L4⟩ ρ4 w4 ⟨hq, ⟨hS4, hI4⟩, hM4⟩
      refine W_seq ?_
      refine W_region ?_
      refine wl_q (r_bin (.bool (decide _)) rfl rfl rfl) rfl rfl ?_
      refine wl_nil ?_
      refine thenN ?_
      refine W_seq ?_
      refine W_condD rfl (fun h32 => ?_) (fun h32 => ?_)
      · skip
        obtain ⟨xb, hxb⟩ := getSome (xs := g i) (k := q) hlj (by omega)
        refine W_skip ?_
        refine thenN ?_
        refine W_seq ?_
        refine W_block ?_
        refine W_seq ?_
        refine W_region ?_
        refine wl_q (r_idxR (q) sl52 rfl rfl rfl (((Rj.mem hM4).sub 0 p (by omega) (by omega) hcj).below_len (take_get hxb (by omega))) (((Rj.mem hM4).sub 0 p (by omega) (by omega) hcj).someK (take_get hxb (by omega)))) rfl rfl ?_
        refine wl_q (r_ldE0 (.int _ _) one30 ((Rj.mem hM4).sub 0 p (by omega) (by omega) hcj) (take_get hxb (by omega)) rfl) rfl rfl ?_
        refine wl_q (r_assign (.int _ _) rfl) rfl rfl ?_
        refine wl_nil ?_
        refine thenN ?_
        refine W_seq ?_
        refine W_region ?_
        refine wl_q (r_move (.int _ _) rfl) rfl rfl ?_
        refine wl_q (r_move (.int _ _) rfl) rfl rfl ?_
        refine wl_q (r_bin (.bool (decide _)) rfl rfl rfl) rfl rfl ?_
        refine wl_nil ?_
        refine thenN ?_
        refine W_condD rfl (fun h37 => ?_) (fun h37 => ?_)
        · skip
          refine W_region ?_
          refine wl_q (r_move (.map _) rfl) rfl rfl ?_
          refine wl_q (r_move (.int _ _) rfl) rfl rfl ?_
          refine wl_q (r_move (.int _ _) rfl) rfl rfl ?_
          refine wl_cal cal93 rfl rfl rfl ?_
          refine (grid_pair _ xa xb).mono ?_
          rintro _ w5 ⟨v5, rfl, ⟨rfl, hb5⟩⟩
          refine ⟨_, rfl, ?_⟩
          have M5 := hM4.callB hb5
          refine wl_q (r_build [] _ struct148 rfl rfl) rfl rfl ?_
          refine wl_setAdd (enc := pairCells) 0 (prI xa xb) pairKeyT M5 rfl rfl hS4 rfl rfl rfl (fun L6 c6 w6 hS6 hZ6 hN6 M6 => ?_)
          refine wl_nil ?_
          refine blkN ?_
          refine thenN ?_
          refine W_region ?_
          refine wl_q (r_add rfl rfl (by omega) (by omega)) rfl rfl ?_
          refine wl_q (r_move (.int _ _) rfl) rfl rfl ?_
          refine wl_nil ?_
          refine roundN (q + 1, c6, L6) (agC rfl agN) (akC rfl (akC rfl (akC rfl (akC rfl (akC rfl (akC rfl (akC rfl (akC rfl (akC rfl (akC rfl (akC rfl akN))))))))))) ?_ ?_
          · exact ⟨by omega, ⟨hS6, cand_step hZ6 hI4 hxb h37⟩, M6⟩
          · (show p - (q + 1) < p - q; omega)
        · skip
          refine W_skip ?_
          refine blkN ?_
          refine thenN ?_
          refine W_region ?_
          refine wl_q (r_add rfl rfl (by omega) (by omega)) rfl rfl ?_
          refine wl_q (r_move (.int _ _) rfl) rfl rfl ?_
          refine wl_nil ?_
          refine roundN (q + 1, c4, L4) (agC rfl agN) (akC rfl (akC rfl (akC rfl (akC rfl (akC rfl (akC rfl (akC rfl (akC rfl (akC rfl (akC rfl (akC rfl akN))))))))))) ?_ ?_
          · exact ⟨by omega, ⟨hS4, cand_same hI4 hxb h37⟩, hM4⟩
          · (show p - (q + 1) < p - q; omega)
      · skip
        have hqp : q = p := by omega
        refine W_exit ?_
        refine thenX ?_
        refine roundX ?_
        refine blkH ?_
        refine blkN ?_
        refine thenN ?_
        refine W_region ?_
        refine wl_q (r_add rfl rfl (by omega) (by omega)) rfl rfl ?_
        refine wl_q (r_move (.int _ _) rfl) rfl rfl ?_
        refine wl_nil ?_
        refine roundN (p + 1, c4, L4) (agC rfl agN) (akC rfl (akC rfl (akC rfl (akC rfl (akC rfl (akC rfl (akC rfl akN))))))) ?_ ?_
        · exact ⟨by omega, ⟨hS4, fun z => by rw [hI4 z, prsLk_snoc hxa, ← hqp, List.append_assoc]⟩, hM4⟩
        · (show rj.n - (p + 1) < rj.n - p; omega)
    · skip
      have hpn : p = rj.n := by omega
      refine W_exit ?_
      refine thenX ?_
      refine roundX ?_
      refine blkH ?_
      refine blkN ?_
      refine thenN ?_
      refine W_region ?_
      refine wl_q (r_add rfl rfl (by omega) (by omega)) rfl rfl ?_
      refine wl_q (r_move (.int _ _) rfl) rfl rfl ?_
      refine wl_nil ?_
      refine roundN (i + 1, c2, L2) (agC rfl agN) (akC rfl (akC rfl (akC rfl akN))) ?_ ?_
      · exact ⟨by omega, ⟨hS2, fun z => by rw [hI2 z, cands_succ]; unfold prsL; rw [hlj, ← hpn]⟩, hM3⟩
      · (show 1024 - (i + 1) < 1024 - i; omega)
  · skip
    have hi' : i = 1024 := by omega
    rw [hi'] at hI0
    have hLb : (L0.map (fun z => z.1)).length ≤ (prodL ks).length := nodup_le hS0.keys (fun z hz => cand_prod hks ((hI0 z).1 hz))
    rw [List.length_map, prodL_len] at hLb
    have hkk : ks.length * ks.length ≤ 65536 * 65536 := Nat.mul_le_mul hkl hkl
    refine W_exit ?_
    refine thenX ?_
    refine roundX ?_
    refine blkH ?_
    refine thenN ?_
    refine W_seq ?_
    refine W_region ?_
    refine wl_q (r_move (.map _) rfl) rfl rfl ?_
    refine wl_cal cal95 rfl rfl rfl ?_
    refine (maps_KeysP _ b1).mono ?_
    rintro _ w7 ⟨v7, rfl, ⟨bb, rfl, hM7⟩⟩
    refine ⟨_, rfl, ?_⟩
    have M7 : Mem _ _ [_, _] _ := hM2.call0 hM7
    refine wl_cal cal94 rfl rfl rfl ?_
    refine (slices_SortedFuncP _ bb b1 c0 L0 (M7.at_ (i := 0) rfl) (M7.lt List.mem_cons_self) hS0 (by omega) (rdOf 1 M7 rfl rfl)).mono ?_
    rintro _ w8 ⟨v8, rfl, ⟨r, ys, hasc, hys, rfl, hr, hM8⟩⟩
    refine ⟨_, rfl, ?_⟩
    have M8 : Mem _ _ [_, _, _] _ := M7.call0 hM8
    refine wl_q (r_assign (.slice _ _ _) rfl) rfl rfl ?_
    refine wl_nil ?_
    refine thenN ?_
    refine W_ret ?_
    skip
    refine fin1 (.slice _ _ _) rfl ?_
    exact ⟨r, ys, hasc, fun z => (hys z).trans (hI0 z), rfl, hr, M8.keep [false, false, true]⟩

end Go.Proofs.YtmcddmhkjcgneaaGreatDoor

/- Walks of Go functions over the frame of this claim: what each computes, for every input of the stated types (U11). -/
set_option linter.unusedVariables false
set_option linter.unusedSimpArgs false
set_option linter.unnecessarySimpa false
namespace Go.Proofs.YtmcddmhkjcgneaaGreatDoor
open Go.Bil
open Go.RowKit (Below)
open Go.Proofs

set_option maxHeartbeats 4000000 in
theorem pairs_boxes (w : World) (A : Option Addr) (n c : Nat) (xs : List Body) (R : Rd w 10 A n (xs.map bodyCells)) (hb : ∀ b ∈ xs, Okb b) :
    Calls Tryz.prog 72 #[.slice A n c] w (fun ex w' => ∃ v, ex = .returned v ∧ (fun v w' => ∃ (pm : Nat) (em : Ent), v = .map (some pm) ∧ MapE .u32 encBx (bxM xs) (some pm) em ∧ Mem w [] [em] w') v w') := by
  have hlen : xs.length = n := by simpa using R.len
  have hbd := R.bound
  refine calls_of_W #[.tmp 2] 20 Tryz.func72 rfl Tryz.results72 Tryz.ntmps72 rfl ?_
  have M0 := Mem.refl w
  refine W_seq ?_
  refine W_region ?_
  refine wl_q (r_assign (.map _) rfl) rfl rfl ?_
  refine wl_nil ?_
  refine thenN ?_
  refine W_seq ?_
  refine W_region ?_
  refine wl_makeMap M0 rfl rfl (fun b1 w1 M1 => ?_)
  refine wl_q (r_assign (.map _) rfl) rfl rfl ?_
  refine wl_nil ?_
  refine thenN ?_
  refine W_seq ?_
  refine W_seq ?_
  refine W_region ?_
  refine wl_q (r_move (.slice _ _ _) rfl) rfl rfl ?_
  refine wl_q (r_lenS Tryz.underlying22 rfl) rfl rfl ?_
  refine wl_q (r_move (.int _ _) rfl) rfl rfl ?_
  refine wl_nil ?_
  refine thenN ?_
  refine W_block ?_
  refine W_loop (σ := Nat × Ent) [2, 3, 7, 8] (fun (k, em) => [(9, .int .i64 (k : Int))]) (fun (k, em) w' => (k ≤ n ∧ MapE .u32 encBx (bxM (xs.take k)) (some b1) em) ∧ Mem w [] [em] w') (fun (k, em) => n - k) (0, (some b1, .map #[] 0)) (agC rfl agN) (⟨⟨by omega, (MapE.empty _ _ b1).congr (fun q => by rw [List.take_zero]; exact bxM_nil q)⟩, M1⟩) ?_
  rintro ⟨k, em⟩ ρ2 w2 ⟨⟨hk, hme⟩, hM2⟩
  refine W_seq ?_
  refine W_region ?_
  refine wl_q (r_bin (.bool (decide _)) rfl rfl rfl) rfl rfl ?_
  refine wl_nil ?_
  refine thenN ?_
  refine W_seq ?_
  refine W_condD rfl (fun h10 => ?_) (fun h10 => ?_)
  · skip
    obtain ⟨xb, hxb⟩ := getSome (k := k) hlen (by omega)
    refine W_skip ?_
    refine thenN ?_
    refine W_seq ?_
    refine W_block ?_
    refine W_seq ?_
    refine W_region ?_
    refine wl_q (r_idxR (k) sl22 rfl rfl rfl ((R.mem hM2).below_len (mapGet bodyCells hxb)) ((R.mem hM2).someK (mapGet bodyCells hxb))) rfl rfl ?_
    refine wl_q (r_ldEA _ agg32 (R.mem hM2) (mapGet bodyCells hxb) rfl) rfl rfl ?_
    refine wl_alloc zero32 hM2 rfl rfl (fun b3 w3 M3 => ?_)
    refine wl_stW 1 _ agg32 M3 rfl rfl rfl rfl rfl (ones_of rfl) rfl (fun w4 M4 => ?_)
    refine wl_nil ?_
    refine thenN ?_
    refine W_draw [(0, 0), (1, 0), (2, 1), (3, 1), (4, 2), (5, 2)] mixed rfl (by kernel_rfl) (fun w5 hb5 hh5 => ?_)
    have M5 := M4.drew hb5 hh5
    refine D_p rfl rfl rfl (fun _ => r_move (.map _) rfl) ?_
    refine D_p rfl rfl rfl (fun _ => r_fieldAddr 0 fld32_0 rfl) ?_
    refine D_r rfl rfl rfl (r_ld 1 (.int _ _) one30 M5 rfl rfl rfl) ?_
    refine D_r rfl rfl rfl (r_ldW 1 agg32 M5 rfl rfl rfl) ?_
    refine D_e [true, false] rfl (by kernel_rfl) ?_
    refine wl_cal cal61 rfl rfl rfl ?_
    refine (box_Of _ xb (hb xb (List.mem_of_getElem? hxb))).mono ?_
    rintro _ w6 ⟨v6, rfl, ⟨rfl, hb6⟩⟩
    refine ⟨_, rfl, ?_⟩
    have M6 := M5.callB hb6
    refine wl_nil (thenN ⟨(alC (Yl_of rfl (r_ld 1 (.int _ _) one30 M6 rfl rfl rfl)) alN), ?_⟩)
    refine D_e [true] rfl (by kernel_rfl) ?_
    refine wl_mapUpdate (enc := encBx) 0 map119 M6 rfl rfl hme rfl rfl rfl rfl (fun e7 w7 hm7 M7 => ?_)
    refine wl_nil (thenN ⟨alN, ?_⟩)
    refine D_nil ?_
    refine blkN ?_
    refine thenN ?_
    refine W_region ?_
    refine wl_q (r_add rfl rfl (by omega) (by omega)) rfl rfl ?_
    refine wl_q (r_move (.int _ _) rfl) rfl rfl ?_
    refine wl_nil ?_
    refine roundN (k + 1, e7) (agC rfl agN) (akC rfl (akC rfl (akC rfl (akC rfl akN)))) ?_ ?_
    · exact ⟨⟨by omega, hm7.congr (fun q => bxM_snoc hxb q)⟩, M7.keep [true, false]⟩
    · (show n - (k + 1) < n - k; omega)
  · skip
    have hkn : k = n := by omega
    rw [List.take_of_length_le (by omega)] at hme
    refine W_exit ?_
    refine thenX ?_
    refine roundX ?_
    refine blkH ?_
    refine thenN ?_
    refine W_seq ?_
    refine W_region ?_
    refine wl_q (r_move (.map _) rfl) rfl rfl ?_
    refine wl_q (r_assign (.map _) rfl) rfl rfl ?_
    refine wl_nil ?_
    refine thenN ?_
    refine W_ret ?_
    skip
    refine fin1 (.map _) rfl ?_
    exact ⟨_, _, rfl, hme, hM2⟩

set_option maxHeartbeats 4000000 in
theorem pairs_counting (w : World) (pm : Nat) :
    Calls Tryz.prog 74 #[.map (some pm)] w (fun ex w' => ∃ v, ex = .returned v ∧ (fun v w' => ∃ bm bn, v = .tuple #[.func (.func 89) #[] #[.pointer (some ⟨bn, 0, none⟩), .pointer (some ⟨bm, 0, none⟩)], .func (.func 91) #[] #[.pointer (some ⟨bn, 0, none⟩)]] ∧ Mem w [] [(some bm, bc [.map (some pm)] 119), (some bn, bc [.int .i64 0] 3)] w') v w') := by
  refine calls_of_W #[.tmp 2, .tmp 3] 8 Tryz.func74 rfl Tryz.results74 Tryz.ntmps74 rfl ?_
  have M0 := Mem.refl w
  refine W_seq ?_
  refine W_region ?_
  refine wl_box (.map _) M0 rfl rfl rfl (fun b1 w1 M1 => ?_)
  refine wl_q (r_assign (_) rfl) rfl rfl ?_
  refine wl_q (r_assign (_) rfl) rfl rfl ?_
  refine wl_nil ?_
  refine thenN ?_
  refine W_seq ?_
  refine W_region ?_
  refine wl_alloc zero3 M1 rfl rfl (fun b2 w2 M2 => ?_)
  refine wl_st 1 (.int _ _) one3 M2 rfl rfl rfl rfl rfl rfl (fun w3 M3 => ?_)
  refine wl_nil ?_
  refine thenN ?_
  refine W_seq ?_
  refine W_region ?_
  refine wl_q (r_makeFuncV [] [.pointer _, .pointer _] rfl rfl) rfl rfl ?_
  refine wl_q (r_assign (.func _ _ _) rfl) rfl rfl ?_
  refine wl_nil ?_
  refine thenN ?_
  refine W_seq ?_
  refine W_region ?_
  refine wl_q (r_move (.func _ _ _) rfl) rfl rfl ?_
  refine wl_q (r_makeFuncV [] [.pointer _] rfl rfl) rfl rfl ?_
  refine wl_q (r_assign (.func _ _ _) rfl) rfl rfl ?_
  refine wl_q (r_assign (.func _ _ _) rfl) rfl rfl ?_
  refine wl_nil ?_
  refine thenN ?_
  refine W_ret ?_
  skip
  refine fin2 (.func _ _ _) (.func _ _ _) rfl rfl ?_
  exact ⟨b1, b2, rfl, M3⟩

set_option maxHeartbeats 4000000 in
theorem pairs_counted (w : World) (bn : Nat) (m : Int) (K : Rd w 1 (some ⟨bn, 0, none⟩) 1 [[.int .i64 m]]) :
    Calls Tryz.prog 91 #[.pointer (some ⟨bn, 0, none⟩)] w (fun ex w' => ∃ v, ex = .returned v ∧ (fun v w' => v = .int .i64 m ∧ Below w.heap.size w w') v w') := by
  rw [← elt_zero bn]
  refine calls_of_W #[.tmp 1] 3 Tryz.func91 rfl Tryz.results91 Tryz.ntmps91 rfl ?_
  have M0 := Mem.refl w
  refine W_seq ?_
  refine W_region ?_
  refine wl_q (r_assign (.int _ _) rfl) rfl rfl ?_
  refine wl_nil ?_
  refine thenN ?_
  refine W_seq ?_
  refine W_region ?_
  refine wl_q (r_ldE (o := 0) (.int _ _) one3 (K.mem M0) (show ([[.int .i64 m]] : List (List Value))[0]? = some [.int .i64 m] from rfl) rfl rfl) rfl rfl ?_
  refine wl_q (r_assign (.int _ _) rfl) rfl rfl ?_
  refine wl_nil ?_
  refine thenN ?_
  refine W_ret ?_
  skip
  refine fin1 (.int _ _) rfl ?_
  exact ⟨rfl, M0.below⟩

set_option maxHeartbeats 4000000 in
theorem pairs_apart (w : World) (z : Int × Int) (bn bm m : Nat) (f : Int → Option Bx) (pm : Nat) (em : Ent) (hme : MapE .u32 encBx f (some pm) em) (B : Rd w 1 (some ⟨bm, 0, none⟩) 1 [[.map (some pm)]]) (N : Rd w 4 (some ⟨0, 0, none⟩) 1 [bxCells noneB]) (hO : Own [(some bn, bc [.int .i64 (m : Int)] 3), em] w) (hdB : 0 < 1 → ∀ q off, (some ⟨bm, 0, none⟩ : Option Addr) = some ⟨q, off, none⟩ → q ∉ blks [(some bn, bc [.int .i64 (m : Int)] 3), em]) (hdN : 0 < 1 → ∀ q off, (some ⟨0, 0, none⟩ : Option Addr) = some ⟨q, off, none⟩ → q ∉ blks [(some bn, bc [.int .i64 (m : Int)] 3), em]) (hm : m ≤ 1125899906842624) :
    Calls Tryz.prog 89 #[(.agg (pairCells z).toArray), .pointer (some ⟨bn, 0, none⟩), .pointer (some ⟨bm, 0, none⟩)] w (fun ex w' => ∃ v, ex = .returned v ∧ (fun v w' => v = .bool (apB f z) ∧ Mem w (blks [(some bn, bc [.int .i64 (m : Int)] 3), em]) [(some bn, bc [.int .i64 ((m + 1 : Nat) : Int)] 3), em] w') v w') := by
  rw [← elt_zero bm]
  refine calls_of_W #[.tmp 4] 17 Tryz.func89 rfl Tryz.results89 Tryz.ntmps89 rfl ?_
  have M0 := hO.mem
  refine W_seq ?_
  refine W_region ?_
  refine wl_box (.agg (List.toArray _)) M0 rfl rfl rfl (fun b1 w1 M1 => ?_)
  refine wl_q (r_assign (.bool false) rfl) rfl rfl ?_
  refine wl_nil ?_
  refine thenN ?_
  refine W_seq ?_
  refine W_region ?_
  refine wl_q (r_ld 0 (.int _ _) one3 M1 rfl rfl rfl) rfl rfl ?_
  refine wl_q (r_add rfl rfl (by omega) (by omega)) rfl rfl ?_
  refine wl_re 6 (.int .i64 ((m + 1 : Nat) : Int)) (iE (by omega)) ?_
  refine wl_st 0 (.int _ _) one3 M1 rfl rfl rfl rfl rfl rfl (fun w2 M2 => ?_)
  refine wl_nil ?_
  refine thenN ?_
  refine W_seq ?_
  refine W_region ?_
  refine wl_q (r_ldE (o := 0) (.map _) one119 (B.memY M2 hdB) (show ([[.map (some pm)]] : List (List Value))[0]? = some ([.map (some pm)]) from rfl) rfl rfl) rfl rfl ?_
  refine wl_q (r_fieldAddr 0 fld61_0 rfl) rfl rfl ?_
  refine wl_q (r_ld 2 (.int _ _) one30 M2 rfl rfl rfl) rfl rfl ?_
  refine wl_q (r_lookup1 (enc := encBx) z0B 1 map119 zv34 M2 rfl hme rfl rfl) rfl rfl ?_
  refine wl_q (r_ldE (o := 0) (.map _) one119 (B.memY M2 hdB) (show ([[.map (some pm)]] : List (List Value))[0]? = some ([.map (some pm)]) from rfl) rfl rfl) rfl rfl ?_
  refine wl_q (r_fieldAddr 1 fld61_1 rfl) rfl rfl ?_
  refine wl_q (r_ld 2 (.int _ _) one30 M2 rfl rfl rfl) rfl rfl ?_
  refine wl_q (r_lookup1 (enc := encBx) z0B 1 map119 zv34 M2 rfl hme rfl rfl) rfl rfl ?_
  refine wl_cal cal90 rfl rfl rfl ?_
  refine (box_Overlap _ (N.memY M2 hdN) ((f z.1).getD z0B) ((f z.2).getD z0B)).mono ?_
  rintro _ w3 ⟨v3, rfl, ⟨rfl, hb3⟩⟩
  refine ⟨_, rfl, ?_⟩
  have M3 := M2.callB hb3
  refine wl_q (r_not rfl) rfl rfl ?_
  refine wl_q (r_assign (.bool (decide _)) rfl) rfl rfl ?_
  refine wl_nil ?_
  refine thenN ?_
  refine W_ret ?_
  skip
  refine fin1 (.bool (decide _)) rfl ?_
  exact ⟨rfl, M3.keep [true, true, false]⟩

set_option maxHeartbeats 4000000 in
theorem slices_IndexFuncP (w : World) (A : Option Addr) (n c : Nat) (zs : List (Int × Int)) (R : Rd w 2 A n (zs.map pairCells)) (bn bm m : Nat) (f : Int → Option Bx) (pm : Nat) (em : Ent) (hme : MapE .u32 encBx f (some pm) em) (B : Rd w 1 (some ⟨bm, 0, none⟩) 1 [[.map (some pm)]]) (N : Rd w 4 (some ⟨0, 0, none⟩) 1 [bxCells noneB]) (hO : Own [(some bn, bc [.int .i64 (m : Int)] 3), em] w) (hdA : 0 < n → ∀ q off, A = some ⟨q, off, none⟩ → q ∉ blks [(some bn, bc [.int .i64 (m : Int)] 3), em]) (hdB : 0 < 1 → ∀ q off, (some ⟨bm, 0, none⟩ : Option Addr) = some ⟨q, off, none⟩ → q ∉ blks [(some bn, bc [.int .i64 (m : Int)] 3), em]) (hdN : 0 < 1 → ∀ q off, (some ⟨0, 0, none⟩ : Option Addr) = some ⟨q, off, none⟩ → q ∉ blks [(some bn, bc [.int .i64 (m : Int)] 3), em]) (hm : m + n ≤ 1125899906842624) (hn : n ≤ 1099511627776) :
    Calls Tryz.prog 92 #[.slice A n c, .func (.func 89) #[] #[.pointer (some ⟨bn, 0, none⟩), .pointer (some ⟨bm, 0, none⟩)]] w (fun ex w' => ∃ v, ex = .returned v ∧ (fun v w' => v = .int .i64 (if zs.findIdx (apB f) < n then (zs.findIdx (apB f) : Int) else -1) ∧ Mem w (blks [(some bn, bc [.int .i64 (m : Int)] 3), em]) [(some bn, bc [.int .i64 ((m + min n (zs.findIdx (apB f) + 1) : Nat) : Int)] 3), em] w') v w') := by
  have hlen : zs.length = n := by simpa using R.len
  refine calls_of_W #[.tmp 4] 19 Tryz.func92 rfl Tryz.results92 Tryz.ntmps92 rfl ?_
  have M0 := hO.mem
  refine W_seq ?_
  refine W_region ?_
  refine wl_q (r_assign (.int _ _) rfl) rfl rfl ?_
  refine wl_nil ?_
  refine thenN ?_
  refine W_seq ?_
  refine W_seq ?_
  refine W_region ?_
  refine wl_q (r_move (.slice _ _ _) rfl) rfl rfl ?_
  refine wl_q (r_lenS Tryz.underlying103 rfl) rfl rfl ?_
  refine wl_q (r_move (.int _ _) rfl) rfl rfl ?_
  refine wl_nil ?_
  refine thenN ?_
  refine W_block ?_
  refine W_loop (σ := Nat) [0, 1, 7] (fun k => [(8, .int .i64 (k : Int))]) (fun k w' => (k ≤ n ∧ ∀ (j : Nat) (x : Int × Int), j < k → zs[j]? = some x → apB f x = false) ∧ Mem w (blks [(some bn, bc [.int .i64 (m : Int)] 3), em]) [(some bn, bc [.int .i64 ((m + k : Nat) : Int)] 3), em] w') (fun k => n - k) 0 (agC rfl agN) (⟨⟨by omega, fun j c hj => by omega⟩, M0⟩) ?_
  rintro k ρ1 w1 ⟨⟨hk, hno⟩, hM1⟩
  refine W_seq ?_
  refine W_region ?_
  refine wl_q (r_bin (.bool (decide _)) rfl rfl rfl) rfl rfl ?_
  refine wl_nil ?_
  refine thenN ?_
  refine W_seq ?_
  refine W_condD rfl (fun h9 => ?_) (fun h9 => ?_)
  · skip
    obtain ⟨xz, hxz⟩ := getSome (k := k) hlen (by omega)
    refine W_skip ?_
    refine thenN ?_
    refine W_seq ?_
    refine W_block ?_
    refine W_seq ?_
    refine W_region ?_
    refine wl_q (r_move (.int _ _) rfl) rfl rfl ?_
    refine wl_q (r_assign (.int _ _) rfl) rfl rfl ?_
    refine wl_nil ?_
    refine thenN ?_
    refine W_seq ?_
    refine W_region ?_
    refine wl_q (r_move (.func _ _ _) rfl) rfl rfl ?_
    refine wl_q (r_move (.slice _ _ _) rfl) rfl rfl ?_
    refine wl_q (r_move (.int _ _) rfl) rfl rfl ?_
    refine wl_q (r_idxR (k) sl103 rfl rfl rfl ((R.memY hM1 hdA).below_len (mapGet pairCells hxz)) ((R.memY hM1 hdA).someK (mapGet pairCells hxz))) rfl rfl ?_
    refine wl_q (r_ldEA _ agg61 (R.memY hM1 hdA) (mapGet pairCells hxz) rfl) rfl rfl ?_
    refine wl_cal cal89 rfl rfl rfl ?_
    refine (pairs_apart _ xz bn bm (m + k) f pm em hme (B.memY hM1 hdB) (N.memY hM1 hdN) (hM1.ownSeg 0 2) hdB hdN (by omega)).mono ?_
    rintro _ w2 ⟨v2, rfl, ⟨rfl, hM2⟩⟩
    refine ⟨_, rfl, ?_⟩
    have M2 : Mem _ _ [_, _] _ := hM1.seg 0 2 hM2
    refine wl_nil ?_
    refine thenN ?_
    refine W_cond _ rfl (fun h16 => ?_) (fun h16 => ?_)
    · skip
      refine W_seq ?_
      refine W_region ?_
      refine wl_q (r_move (.int _ _) rfl) rfl rfl ?_
      refine wl_q (r_assign (.int _ _) rfl) rfl rfl ?_
      refine wl_nil ?_
      refine thenN ?_
      refine W_ret ?_
      refine blkR ?_
      refine thenR ?_
      refine roundR ?_
      refine blkR ?_
      refine thenR ?_
      skip
      refine fin1 (.int _ _) rfl ?_
      have hfi := findIdx_at hxz h16 hno
      exact ⟨iE (by rw [hfi, if_pos (by omega)]), by rw [hfi, Nat.min_eq_right (by omega)]; exact M2⟩
    · skip
      refine W_skip ?_
      refine blkN ?_
      refine thenN ?_
      refine W_region ?_
      refine wl_q (r_add rfl rfl (by omega) (by omega)) rfl rfl ?_
      refine wl_q (r_move (.int _ _) rfl) rfl rfl ?_
      refine wl_nil ?_
      refine roundN (k + 1) (agC rfl agN) (akC rfl (akC rfl (akC rfl akN))) ?_ ?_
      · exact ⟨⟨by omega, allNext (p := fun _ x => apB f x = false) hno hxz h16⟩, M2⟩
      · omega
  · skip
    refine W_exit ?_
    refine thenX ?_
    refine roundX ?_
    refine blkH ?_
    refine thenN ?_
    refine W_seq ?_
    refine W_region ?_
    refine wl_q (r_assign (.int _ _) rfl) rfl rfl ?_
    refine wl_nil ?_
    refine thenN ?_
    refine W_ret ?_
    skip
    refine fin1 (.int _ _) rfl ?_
    have hkn : k = n := by omega
    have hfi := findIdx_no (p := apB f) (l := zs) (fun j y hy => hno j y (by have := (List.getElem?_eq_some_iff.1 hy).1; omega) hy)
    exact ⟨iE (by rw [hfi, if_neg (by omega)]), by rw [hfi, Nat.min_eq_left (by omega), ← hkn]; exact hM1⟩

set_option maxHeartbeats 16000000 in
theorem slices_DeleteFuncP (w : World) (A : Option Addr) (n c : Nat) (zs : List (Int × Int)) (er : Ent) (hr : RowIs 61 2 A n c ((zs).map pairCells) er) (bn bm m : Nat) (f : Int → Option Bx) (pm : Nat) (em : Ent) (hme : MapE .u32 encBx f (some pm) em) (B : Rd w 1 (some ⟨bm, 0, none⟩) 1 [[.map (some pm)]]) (N : Rd w 4 (some ⟨0, 0, none⟩) 1 [bxCells noneB]) (hO : Own [er, (some bn, bc [.int .i64 (m : Int)] 3), em] w) (hdB : 0 < 1 → ∀ q off, (some ⟨bm, 0, none⟩ : Option Addr) = some ⟨q, off, none⟩ → q ∉ blks [er, (some bn, bc [.int .i64 (m : Int)] 3), em]) (hdN : 0 < 1 → ∀ q off, (some ⟨0, 0, none⟩ : Option Addr) = some ⟨q, off, none⟩ → q ∉ blks [er, (some bn, bc [.int .i64 (m : Int)] 3), em]) (hm : m + n ≤ 1125899906842624) (hn : n ≤ 1099511627776) :
    Calls Tryz.prog 75 #[.slice A n c, .func (.func 89) #[] #[.pointer (some ⟨bn, 0, none⟩), .pointer (some ⟨bm, 0, none⟩)]] w (fun ex w' => ∃ v, ex = .returned v ∧ (fun v w' => ∃ r : Row, v = .slice r.A r.n r.c ∧ RowIs 61 2 r.A r.n r.c ((zs.filter (fun z => !apB f z)).map pairCells) r.e ∧ Mem w (blks [er, (some bn, bc [.int .i64 (m : Int)] 3), em]) [r.e, (some bn, bc [.int .i64 ((m + n : Nat) : Int)] 3), em] w') v w') := by
  have hlen : zs.length = n := by simpa using hr.1
  have hcap := hr.slice
  refine calls_of_W #[.tmp 4] 42 Tryz.func75 rfl Tryz.results75 Tryz.ntmps75 rfl ?_
  have M0 := hO.mem
  refine W_seq ?_
  refine W_region ?_
  refine wl_q (r_assign (.slice _ _ _) rfl) rfl rfl ?_
  refine wl_nil ?_
  refine thenN ?_
  refine W_seq ?_
  refine W_region ?_
  refine wl_q (r_move (.slice _ _ _) rfl) rfl rfl ?_
  refine wl_q (r_move (.func _ _ _) rfl) rfl rfl ?_
  refine wl_cal cal92 rfl rfl rfl ?_
  refine (slices_IndexFuncP _ A n c zs (hr.rd M0 (nthMem (i := 0) rfl)) bn bm m f pm em hme (B.memY M0 hdB) (N.memY M0 hdN) (M0.ownSeg 1 2) (hr.apartTail M0) (M0.away 1 2 B hdB) (M0.away 1 2 N hdN) hm hn).mono ?_
  rintro _ w1 ⟨v1, rfl, ⟨rfl, hM1⟩⟩
  refine ⟨_, rfl, ?_⟩
  have M1 : Mem _ _ [_, _, _] _ := M0.seg 1 2 hM1
  refine wl_q (r_assign (.int _ _) rfl) rfl rfl ?_
  refine wl_nil ?_
  refine thenN ?_
  refine W_seq ?_
  refine W_seq ?_
  refine W_region ?_
  refine wl_q (r_move (.int _ _) rfl) rfl rfl ?_
  refine wl_q (r_bin (.bool (decide _)) rfl rfl rfl) rfl rfl ?_
  refine wl_nil ?_
  refine thenN ?_
  refine W_condD rfl (fun h12 => ?_) (fun h12 => ?_)
  · skip
    have hge : ¬ zs.findIdx (apB f) < n := fun h => by rw [if_pos h] at h12; omega
    refine W_seq ?_
    refine W_region ?_
    refine wl_q (r_move (.slice _ _ _) rfl) rfl rfl ?_
    refine wl_q (r_assign (.slice _ _ _) rfl) rfl rfl ?_
    refine wl_nil ?_
    refine thenN ?_
    refine W_ret ?_
    refine thenR ?_
    skip
    refine fin1 (.slice _ _ _) rfl ?_
    have e1 : m + min n (zs.findIdx (apB f) + 1) = m + n := by omega
    rw [e1] at M1
    exact ⟨⟨A, n, c, er⟩, rfl, by rw [filter_none (by omega)]; exact hr, M1⟩
  · skip
    have hlt : zs.findIdx (apB f) < n := Decidable.by_contra fun h => h12 (if_neg h)
    refine W_skip ?_
    refine thenN ?_
    refine W_seq ?_
    refine W_seq ?_
    refine W_region ?_
    refine wl_q (r_move (.int _ _) rfl) rfl rfl ?_
    refine wl_q (r_add rfl rfl (by omega) (by omega)) rfl rfl ?_
    refine wl_re 15 (.int .i64 ((zs.findIdx (apB f) + 1 : Nat) : Int)) (iE (by rw [if_pos hlt]; omega)) ?_
    refine wl_q (r_assign (.int _ _) rfl) rfl rfl ?_
    refine wl_nil ?_
    refine thenN ?_
    refine W_block ?_
    refine W_loop (σ := Nat × Nat × List (Int × Int) × Ent) [0, 1, 4] (fun (j, k, zs2, en) => [(5, .int .i64 (k : Int)), (6, .int .i64 (j : Int))]) (fun (j, k, zs2, en) w' => (j ≤ n ∧ k < j ∧ zs2.take k = (zs.take j).filter (fun z => !apB f z) ∧ zs2.drop j = zs.drop j ∧ RowIs 61 2 A n c ((zs2).map pairCells) en) ∧ Mem w (blks [er, (some bn, bc [.int .i64 (m : Int)] 3), em]) [en, (some bn, bc [.int .i64 ((m + j : Nat) : Int)] 3), em] w') (fun (j, k, zs2, en) => n - j) (zs.findIdx (apB f) + 1, zs.findIdx (apB f), zs, er) (agC (iv rfl (if_pos hlt)) (agC rfl agN)) (⟨⟨by omega, by omega, filter_first (by omega), rfl, hr⟩, by
      have e1 : min n (zs.findIdx (apB f) + 1) = zs.findIdx (apB f) + 1 := by omega
      rw [e1] at M1
      exact M1⟩) ?_
    rintro ⟨j, k, zs2, en⟩ ρ2 w2 ⟨⟨hj, hkj, hpre, hsuf, hz2⟩, hM2⟩
    have hl2 : zs2.length = n := by simpa using hz2.1
    refine W_seq ?_
    refine W_seq ?_
    refine W_region ?_
    refine wl_q (r_move (.int _ _) rfl) rfl rfl ?_
    refine wl_q (r_move (.slice _ _ _) rfl) rfl rfl ?_
    refine wl_q (r_lenS Tryz.underlying103 rfl) rfl rfl ?_
    refine wl_q (r_bin (.bool (decide _)) rfl rfl rfl) rfl rfl ?_
    refine wl_nil ?_
    refine thenN ?_
    refine W_condD rfl (fun h19 => ?_) (fun h19 => ?_)
    · skip
      obtain ⟨xz, hxz⟩ := getSome (k := j) hlen (by omega)
      have hxz2 : zs2[j]? = some xz := (drop_get hsuf).trans hxz
      obtain ⟨xk, hxk⟩ := getSome (k := k) hl2 (by omega)
      refine W_skip ?_
      refine thenN ?_
      refine W_seq ?_
      refine W_block ?_
      refine W_seq ?_
      refine W_region ?_
      refine wl_q (r_move (.slice _ _ _) rfl) rfl rfl ?_
      refine wl_q (r_move (.int _ _) rfl) rfl rfl ?_
      refine wl_q (r_idxR (j) sl103 rfl rfl rfl ((hz2.rd hM2 (nthMem (i := 0) rfl)).below_len (mapGet pairCells hxz2)) ((hz2.rd hM2 (nthMem (i := 0) rfl)).someK (mapGet pairCells hxz2))) rfl rfl ?_
      refine wl_q (r_ldEA _ agg61 (hz2.rd hM2 (nthMem (i := 0) rfl)) (mapGet pairCells hxz2) rfl) rfl rfl ?_
      refine wl_alloc zero61 hM2 rfl rfl (fun b3 w3 M3 => ?_)
      refine wl_stW 3 _ agg61 M3 rfl rfl rfl rfl rfl (ones_of rfl) rfl (fun w4 M4 => ?_)
      refine wl_nil ?_
      refine thenN ?_
      refine W_seq ?_
      refine W_region ?_
      refine wl_q (r_move (.func _ _ _) rfl) rfl rfl ?_
      refine wl_q (r_ldW 3 agg61 M4 rfl rfl rfl) rfl rfl ?_
      refine wl_cal cal89 rfl rfl rfl ?_
      refine (pairs_apart _ xz bn bm (m + j) f pm em hme (B.memY M4 hdB) (N.memY M4 hdN) (M4.ownSeg 1 2) (M4.away 1 2 B hdB) (M4.away 1 2 N hdN) (by omega)).mono ?_
      rintro _ w5 ⟨v5, rfl, ⟨rfl, hM5⟩⟩
      refine ⟨_, rfl, ?_⟩
      have M5 : Mem _ _ [_, _, _, _] _ := M4.seg 1 2 hM5
      refine wl_q (r_notB _ rfl rfl) rfl rfl ?_
      refine wl_nil ?_
      refine thenN ?_
      refine W_cond _ rfl (fun h29 => ?_) (fun h29 => ?_)
      · skip
        refine W_seq ?_
        refine W_region ?_
        refine wl_q (r_move (.slice _ _ _) rfl) rfl rfl ?_
        refine wl_q (r_move (.int _ _) rfl) rfl rfl ?_
        refine wl_q (r_ldW 3 agg61 M5 rfl rfl rfl) rfl rfl ?_
        refine wl_q (r_idxR (k) sl103 rfl rfl rfl ((hz2.rd M5 (nthMem (i := 0) rfl)).below_len (mapGet pairCells hxk)) ((hz2.rd M5 (nthMem (i := 0) rfl)).someK (mapGet pairCells hxk))) rfl rfl ?_
        refine wl_stRW 0 _ agg61 M5 rfl hz2 (mapGet pairCells hxk) rfl rfl rfl rfl (ones_of rfl) (fun e6 w6 hR6 M6 => ?_)
        have hQ6 := hR6.mapSet (f := pairCells) (x := xz) rfl
        refine wl_nil ?_
        refine thenN ?_
        refine W_region ?_
        refine wl_q (r_move (.int _ _) rfl) rfl rfl ?_
        refine wl_q (r_add rfl rfl (by omega) (by omega)) rfl rfl ?_
        refine wl_q (r_assign (.int _ _) rfl) rfl rfl ?_
        refine wl_nil ?_
        refine blkN ?_
        refine thenN ?_
        refine W_region ?_
        refine wl_q (r_move (.int _ _) rfl) rfl rfl ?_
        refine wl_q (r_add rfl rfl (by omega) (by omega)) rfl rfl ?_
        refine wl_q (r_assign (.int _ _) rfl) rfl rfl ?_
        refine wl_nil ?_
        refine roundN (j + 1, k + 1, zs2.set k xz, e6) (agC rfl (agC rfl agN)) (akC rfl (akC rfl (akC rfl akN))) ?_ ?_
        · exact ⟨⟨by omega, by omega, by rw [set_take (by omega), hpre, filter_step hxz, if_neg (by simpa using h29)], by rw [set_drop (by omega)]; exact drop_next hsuf, hQ6⟩, M6.keep [true, true, true, false]⟩
        · (show n - (j + 1) < n - j; omega)
      · skip
        refine W_skip ?_
        refine blkN ?_
        refine thenN ?_
        refine W_region ?_
        refine wl_q (r_move (.int _ _) rfl) rfl rfl ?_
        refine wl_q (r_add rfl rfl (by omega) (by omega)) rfl rfl ?_
        refine wl_q (r_assign (.int _ _) rfl) rfl rfl ?_
        refine wl_nil ?_
        refine roundN (j + 1, k, zs2, en) (agC rfl (agC rfl agN)) (akC rfl (akC rfl (akC rfl akN))) ?_ ?_
        · exact ⟨⟨by omega, by omega, by rw [hpre, filter_step hxz, if_pos (by simpa using h29), List.append_nil], drop_next hsuf, hz2⟩, M5.keep [true, true, true, false]⟩
        · (show n - (j + 1) < n - j; omega)
    · skip
      have hjn : j = n := by omega
      rw [hjn, show List.take n zs = zs from List.take_of_length_le (by omega)] at hpre
      refine W_exit ?_
      refine thenX ?_
      refine roundX ?_
      refine blkH ?_
      refine thenN ?_
      refine W_seq ?_
      refine W_region ?_
      refine wl_q (r_move (.slice _ _ _) rfl) rfl rfl ?_
      refine wl_q (r_move (.int _ _) rfl) rfl rfl ?_
      refine wl_q (r_slice ((k : Int)) ((n : Int)) sl103 rfl ⟨_, rfl⟩ rfl (by omega) (by omega) (by omega)) rfl rfl ?_
      refine wl_clear 0 (k) sl103 (fun zv hz => by rw [zv61] at hz; injection hz with hz; subst hz; simp [Go.Bil.one, Value.cells]) hM2 rfl rfl hz2 (by omega) rfl (fun e7 w7 hR7 M7 => ?_)
      refine wl_nil ?_
      refine thenN ?_
      refine W_seq ?_
      refine W_region ?_
      refine wl_q (r_move (.slice _ _ _) rfl) rfl rfl ?_
      refine wl_q (r_move (.int _ _) rfl) rfl rfl ?_
      refine wl_q (r_slice (0) ((k : Int)) sl103 rfl rfl ⟨_, rfl⟩ (by decide) (by omega) (by omega)) rfl rfl ?_
      refine wl_q (r_assign (.slice _ _ _) rfl) rfl rfl ?_
      refine wl_nil ?_
      refine thenN ?_
      refine W_ret ?_
      skip
      refine fin1 (.slice _ _ _) rfl ?_
      rw [hjn] at M7
      have hpf := hR7
      rw [← List.map_take, hpre] at hpf
      exact ⟨⟨_, _, _, e7⟩, rfl, hpf, M7⟩

end Go.Proofs.YtmcddmhkjcgneaaGreatDoor

/- Walks of Go functions over the frame of this claim: what each computes, for every input of the stated types (V11). -/
set_option linter.unusedVariables false
set_option linter.unusedSimpArgs false
set_option linter.unnecessarySimpa false
namespace Go.Proofs.YtmcddmhkjcgneaaGreatDoor
open Go.Bil
open Go.RowKit (Below)
open Go.Proofs

set_option maxRecDepth 100000 in
theorem zeroG : zeroL Tryz.prog 123 = some (gcells (List.replicate 1024 nilRow) 0) := by kernel_rfl

set_option maxHeartbeats 16000000 in
theorem pairs_Find (w : World) (F : Rd w 2 (some ⟨1, 0, none⟩) 1 [[.int .u32 73856093, .int .u32 19349663]]) (N : Rd w 4 (some ⟨0, 0, none⟩) 1 [bxCells noneB]) (A : Option Addr) (n c : Nat) (xs : List Body) (R : Rd w 10 A n (xs.map bodyCells)) (hb : ∀ b ∈ xs, Okb b) (hs : Sorted xs) (hn : n ≤ 4096) :
    Calls Tryz.prog 58 #[.slice A n c] w (fun ex w' => ∃ v, ex = .returned v ∧ (fun v w' => ∃ (r : Row) (m : Nat), v = .tuple #[.slice r.A r.n r.c, .int .i64 (m : Int)] ∧ (findP xs).length ≤ m ∧ 2 * m ≤ xs.length * (xs.length - 1) ∧ RowIs 61 2 r.A r.n r.c ((findP xs).map pairCells) r.e ∧ Mem w [] [r.e] w') v w') := by
  have hlen : xs.length = n := by simpa using R.len
  have hbd := R.bound
  refine calls_of_W #[.tmp 2, .tmp 3] 37 Tryz.func58 rfl Tryz.results58 Tryz.ntmps58 rfl ?_
  have M0 := Mem.refl w
  refine W_seq ?_
  refine W_region ?_
  refine wl_q (r_assign (.slice _ _ _) rfl) rfl rfl ?_
  refine wl_q (r_assign (.int _ _) rfl) rfl rfl ?_
  refine wl_nil ?_
  refine thenN ?_
  refine W_seq ?_
  refine W_region ?_
  refine wl_q (r_move (.slice _ _ _) rfl) rfl rfl ?_
  refine wl_cal cal72 rfl rfl rfl ?_
  refine (pairs_boxes _ _ _ _ xs (R.mem M0) hb).mono ?_
  rintro _ w1 ⟨v1, rfl, ⟨pm, em, rfl, hme, hM1⟩⟩
  refine ⟨_, rfl, ?_⟩
  have M1 : Mem _ _ [_] _ := M0.call0 hM1
  refine wl_q (r_assign (.map _) rfl) rfl rfl ?_
  refine wl_nil ?_
  refine thenN ?_
  refine W_seq ?_
  refine W_region ?_
  refine wl_alloc zeroG M1 rfl rfl (fun b2 w2 M2 => ?_)
  have M3 := Mem.gridNew (L := [_]) M2
  refine wl_nil ?_
  refine thenN ?_
  refine W_seq ?_
  refine W_seq ?_
  refine W_region ?_
  refine wl_q (r_move (.slice _ _ _) rfl) rfl rfl ?_
  refine wl_q (r_lenS Tryz.underlying22 rfl) rfl rfl ?_
  refine wl_q (r_move (.int _ _) rfl) rfl rfl ?_
  refine wl_nil ?_
  refine thenN ?_
  refine W_block ?_
  refine W_loop (σ := Nat × List Row) [2, 3, 4, 5, 12, 13] (fun (k, rs) => [(14, .int .i64 (k : Int))]) (fun (k, rs) w' => (k ≤ n ∧ GridRows 30 rs (gOf (xs.take k))) ∧ Mem w [] ([em] ++ ((some b2, bc (gcells rs (k : Int)) 123) :: rs.map Row.e)) w') (fun (k, rs) => n - k) (0, List.replicate 1024 nilRow) (agC rfl agN) (⟨⟨by omega, by rw [List.take_zero]; exact grid_new _⟩, M3⟩) ?_
  rintro ⟨k, rs⟩ ρ4 w4 ⟨⟨hk, hrs⟩, hM4⟩
  refine W_seq ?_
  refine W_region ?_
  refine wl_q (r_bin (.bool (decide _)) rfl rfl rfl) rfl rfl ?_
  refine wl_nil ?_
  refine thenN ?_
  refine W_seq ?_
  refine W_condD rfl (fun h15 => ?_) (fun h15 => ?_)
  · skip
    obtain ⟨xb, hxb⟩ := getSome (k := k) hlen (by omega)
    refine W_skip ?_
    refine thenN ?_
    refine W_seq ?_
    refine W_block ?_
    refine W_seq ?_
    refine W_region ?_
    refine wl_q (r_idxR (k) sl22 rfl rfl rfl ((R.mem hM4).below_len (mapGet bodyCells hxb)) ((R.mem hM4).someK (mapGet bodyCells hxb))) rfl rfl ?_
    refine wl_q (r_ldEA _ agg32 (R.mem hM4) (mapGet bodyCells hxb) rfl) rfl rfl ?_
    refine wl_alloc zero32 hM4 rfl rfl (fun b5 w5 M5 => ?_)
    have M6 : Mem _ _ ([_, _] ++ _) _ := Mem.front (L := [_]) M5
    refine wl_stW 1 _ agg32 M6 rfl rfl rfl rfl rfl (ones_of rfl) rfl (fun w7 M7 => ?_)
    refine wl_nil ?_
    refine thenN ?_
    refine W_region ?_
    refine wl_q (r_fieldAddr 0 fld32_0 rfl) rfl rfl ?_
    refine wl_q (r_ld 1 (.int _ _) one30 M7 rfl rfl rfl) rfl rfl ?_
    refine wl_q (r_move (.map _) rfl) rfl rfl ?_
    refine wl_q (r_fieldAddr 0 fld32_0 rfl) rfl rfl ?_
    refine wl_q (r_ld 1 (.int _ _) one30 M7 rfl rfl rfl) rfl rfl ?_
    refine wl_q (r_lookup1 (enc := encBx) z0B 0 map119 zv34 M7 rfl hme rfl rfl) rfl rfl ?_
    refine wl_re 23 (.agg (bxCells (boxOf xb)).toArray) (congrArg encBx (by rw [bxM_get hs (List.mem_of_getElem? hxb)]; rfl)) ?_
    refine wl_cal cal73 rfl rfl rfl ?_
    refine (grid_Insert _ (F.mem M7) b2 rs (k : Int) (gOf (xs.take k)) hrs ⟨by omega, by omega⟩ (fun j _ => Nat.le_trans (gOf_len _ _) (by simp; omega)) xb.key (boxOf xb) (box_ok (hb xb (List.mem_of_getElem? hxb))) (Mem.ownTail (L := [_, _]) M7) (Mem.awayTail (L := [_, _]) M7 F)).mono ?_
    rintro _ w8 ⟨v8, rfl, ⟨rfl, rs2, hrs2, hM8⟩⟩
    refine ⟨_, rfl, ?_⟩
    have M8 : Mem _ _ ([_, _] ++ _) _ := Mem.tail (L := [_, _]) M7 hM8
    refine wl_nil ?_
    refine blkN ?_
    refine thenN ?_
    refine W_region ?_
    refine wl_q (r_add rfl rfl (by omega) (by omega)) rfl rfl ?_
    refine wl_q (r_move (.int _ _) rfl) rfl rfl ?_
    refine wl_nil ?_
    refine roundN (k + 1, rs2) (agC rfl agN) (akC rfl (akC rfl (akC rfl (akC rfl (akC rfl (akC rfl akN)))))) ?_ ?_
    · exact ⟨⟨by omega, by rw [gOf_snoc hxb]; exact hrs2⟩, Mem.keepL (L := [_, _]) [true, false] M8⟩
    · (show n - (k + 1) < n - k; omega)
  · skip
    have hkn : k = n := by omega
    rw [List.take_of_length_le (by omega)] at hrs
    refine W_exit ?_
    refine thenX ?_
    refine roundX ?_
    refine blkH ?_
    refine thenN ?_
    refine W_seq ?_
    refine W_region ?_
    refine wl_q (r_move (.map _) rfl) rfl rfl ?_
    refine wl_cal cal74 rfl rfl rfl ?_
    refine (pairs_counting _ pm).mono ?_
    rintro _ w9 ⟨v9, rfl, ⟨bm, bn, rfl, hM9⟩⟩
    refine ⟨_, rfl, ?_⟩
    have M9 : Mem _ _ ([_, _, _] ++ _) _ := Mem.front (L := [_]) (hM4.call0 hM9)
    refine wl_q (r_move (.tuple (List.toArray _)) rfl) rfl rfl ?_
    refine wl_q (r_ext (.func _ _ _) rfl rfl) rfl rfl ?_
    refine wl_q (r_ext (.func _ _ _) rfl rfl) rfl rfl ?_
    refine wl_q (r_assign (.func _ _ _) rfl) rfl rfl ?_
    refine wl_q (r_assign (.func _ _ _) rfl) rfl rfl ?_
    refine wl_nil ?_
    refine thenN ?_
    refine W_seq ?_
    refine W_region ?_
    refine wl_cal cal76 rfl rfl rfl ?_
    refine (grid_Candidates _ b2 rs (k : Int) (gOf xs) hrs.len (Mem.gridRd (L := [_, _, _]) M9 hrs.len) (fun j r hr => Mem.rowRd (L := [_, _, _]) M9 hrs j r hr) (xs.map (·.key)) (fun j _ x hx => by obtain ⟨b, h1, _, rfl⟩ := mem_gOf.1 hx; exact List.mem_map.2 ⟨b, h1, rfl⟩) (by simp; omega)).mono ?_
    rintro _ w10 ⟨v10, rfl, ⟨r, ps, hasc, hps, rfl, hr, hM10⟩⟩
    refine ⟨_, rfl, ?_⟩
    have M10 : Mem _ _ ([_, _, _, _] ++ _) _ := Mem.front (L := [_, _, _]) (M9.call0 hM10)
    have hpl := cands_len hs hasc hps
    have hrl : ps.length = r.n := by simpa using hr.1
    have hnn : xs.length * (xs.length - 1) ≤ 4096 * 4096 := Nat.mul_le_mul (by omega) (by omega)
    refine wl_q (r_move (.func _ _ _) rfl) rfl rfl ?_
    have M11 : Mem _ _ [_, _, _, _] _ := Mem.order4 M10
    refine wl_cal cal75 rfl rfl rfl ?_
    refine (slices_DeleteFuncP _ r.A r.n r.c ps r.e hr bn bm 0 (bxM xs) pm em hme (rdOf 3 M11 rfl rfl) (N.mem M11) (M11.ownSeg 0 3) (M11.apartTake 3 3 rfl rfl) (M11.away 0 3 N (fun _ q off _ h => by simp at h)) (by omega) (by omega)).mono ?_
    rintro _ w12 ⟨v12, rfl, ⟨r2, rfl, hr2, hM12⟩⟩
    refine ⟨_, rfl, ?_⟩
    have M12 : Mem _ _ [_, _, _, _] _ := M11.seg 0 3 hM12
    have hfl : (findP xs).length ≤ ps.length := by rw [← cands_find hs hasc hps]; exact List.length_filter_le _ _
    rw [cands_find hs hasc hps] at hr2
    refine wl_q (r_assign (.slice _ _ _) rfl) rfl rfl ?_
    refine wl_nil ?_
    refine thenN ?_
    refine W_seq ?_
    refine W_region ?_
    refine wl_q (r_move (.slice _ _ _) rfl) rfl rfl ?_
    refine wl_q (r_move (.func _ _ _) rfl) rfl rfl ?_
    refine wl_cal cal91 rfl rfl rfl ?_
    refine (pairs_counted _ bn _ (rdOf 1 M12 rfl rfl)).mono ?_
    rintro _ w13 ⟨v13, rfl, ⟨rfl, hb13⟩⟩
    refine ⟨_, rfl, ?_⟩
    have M13 := M12.callB hb13
    refine wl_q (r_assign (.slice _ _ _) rfl) rfl rfl ?_
    refine wl_q (r_assign (.int _ _) rfl) rfl rfl ?_
    refine wl_nil ?_
    refine thenN ?_
    refine W_ret ?_
    skip
    refine fin2 (.slice _ _ _) (.int _ _) rfl rfl ?_
    exact ⟨r2, 0 + r.n, rfl, by omega, by omega, hr2, M13.keep [true, false, false, false]⟩

end Go.Proofs.YtmcddmhkjcgneaaGreatDoor
