/- The law MeasureMatchesReference returns true for every input, and what it reads stays as it was. No conditions. -/
import Derived.Test.YtmcddmhkjcgneaaGreatDoorK5
import Derived.Test.YtmcddmhkjcgneaaGreatDoorK27
import Derived.Test.YtmcddmhkjcgneaaGreatDoorRows
import Derived.Test.YtmcddmhkjcgneaaGreatDoorK28
import Derived.Test.YtmcddmhkjcgneaaGreatDoorTie
import Derived.Test.YtmcddmhkjcgneaaGreatDoorCards
import Derived.WalkKit
import Derived.ProofKit
import Derived.OpenShut
import Derived.ShutString
import Derived.ChangeOld
import Derived.Below
import Derived.SizedLaws
/- Walks of Go functions over the frame of this claim: what each computes, for every input of the stated types (LMeasureMatchesReference). -/
set_option linter.unusedVariables false
set_option linter.unusedSimpArgs false
set_option linter.unnecessarySimpa false
namespace Go.Proofs.YtmcddmhkjcgneaaGreatDoor
open Go.Bil
open Go.RowKit (Below)
open Go.Proofs

set_option maxHeartbeats 16000000 in
theorem law_MeasureMatchesReference (w : World) (F : Rd w 2 (some ⟨1, 0, none⟩) 1 [[.int .u32 73856093, .int .u32 19349663]]) (N : Rd w 4 (some ⟨0, 0, none⟩) 1 [bxCells noneB]) (A : Option Addr) (n c : Nat) (xs : List Body) (R : Rd w 10 A n (xs.map bodyCells)) (s : Int) (hs : -2147483648 ≤ s ∧ s ≤ 2147483647) :
    Calls Tryz.prog 3 #[.slice A n c, .int .i32 s] w (fun ex w' => ∃ v, ex = .returned v ∧ (fun v w' => v = .bool true ∧ Below w.heap.size w w') v w') := by
  have hlen : xs.length = n := by simpa using R.len
  have hbd := R.bound
  have hsm : s.natAbs * s.natAbs ≤ 2147483648 * 2147483648 := Nat.mul_le_mul (by omega) (by omega)
  refine calls_of_W #[.tmp 4] 66 Tryz.func3 rfl Tryz.results3 Tryz.ntmps3 rfl ?_
  have M0 := Mem.refl w
  refine W_seq ?_
  refine W_region ?_
  refine wl_q (r_assign (.bool false) rfl) rfl rfl ?_
  refine wl_nil ?_
  refine thenN ?_
  refine W_seq ?_
  refine W_region ?_
  refine wl_q (r_move (.slice _ _ _) rfl) rfl rfl ?_
  refine wl_cal cal14 rfl rfl rfl ?_
  refine (ref11_View _ _ _ _ xs (R.mem M0)).mono ?_
  rintro _ w1 ⟨v1, rfl, ⟨r, rfl, hr, hM1⟩⟩
  refine ⟨_, rfl, ?_⟩
  have M1 : Mem _ _ [_] _ := M0.call0 hM1
  refine wl_q (r_move (.tuple (List.toArray _)) rfl) rfl rfl ?_
  refine wl_q (r_ext (.slice _ _ _) rfl rfl) rfl rfl ?_
  refine wl_q (r_ext (.bool (decide _)) rfl rfl) rfl rfl ?_
  refine wl_q (r_assign (.slice _ _ _) rfl) rfl rfl ?_
  refine wl_q (r_assign (.bool (decide _)) rfl) rfl rfl ?_
  refine wl_nil ?_
  refine thenN ?_
  refine W_seq ?_
  refine W_seq ?_
  refine W_region ?_
  refine wl_cal cal15 rfl rfl rfl ?_
  refine (aw26 _ (F.mem M1) (N.mem M1)).mono ?_
  rintro _ w2 ⟨v2, rfl, ⟨rfl, hb2⟩⟩
  refine ⟨_, rfl, ?_⟩
  have M2 := M1.callB hb2
  refine wl_q (r_notB false rfl rfl) rfl rfl ?_
  refine wl_q (r_move (.bool false) rfl) rfl rfl ?_
  refine wl_q (r_move (.bool (decide _)) rfl) rfl rfl ?_
  refine wl_q (r_not rfl) rfl rfl ?_
  refine wl_q (r_pick false (.bool (decide _)) rfl rfl) rfl rfl ?_
  refine wl_nil ?_
  refine thenN ?_
  refine W_condD rfl (fun h19 => ?_) (fun h19 => ?_)
  · skip
    refine W_seq ?_
    refine W_region ?_
    refine wl_cal cal15 rfl rfl rfl ?_
    refine (aw26 _ (F.mem M2) (N.mem M2)).mono ?_
    rintro _ w3 ⟨v3, rfl, ⟨rfl, hb3⟩⟩
    refine ⟨_, rfl, ?_⟩
    have M3 := M2.callB hb3
    refine wl_q (r_assign (.bool true) rfl) rfl rfl ?_
    refine wl_nil ?_
    refine thenN ?_
    refine W_ret ?_
    refine thenR ?_
    skip
    refine fin1 (.bool true) rfl ?_
    exact ⟨rfl, M3.below⟩
  · skip
    obtain ⟨hV, hve, hvk⟩ := view_of (Decidable.not_not.1 h19)
    have hvl := hV.len
    have hrn : (viewL xs).length = r.n := by simpa using hr.1
    have hvs := hV.s
    have hvo := hV.okb
    refine W_skip ?_
    refine thenN ?_
    refine W_seq ?_
    refine W_region ?_
    refine wl_q (r_move (.int _ _) rfl) rfl rfl ?_
    refine wl_q (r_bin (.bool (decide _)) rfl rfl rfl) rfl rfl ?_
    refine wl_q (r_assign (.bool (decide _)) rfl) rfl rfl ?_
    refine wl_nil ?_
    refine thenN ?_
    refine W_seq ?_
    refine W_seq ?_
    refine W_region ?_
    refine wl_q (r_assign (.int _ _) rfl) rfl rfl ?_
    refine wl_nil ?_
    refine thenN ?_
    refine W_block ?_
    refine W_loop (σ := Nat) [1, 4, 5] (fun k => [(7, .bool (decide (0 ≤ s) && quietP (s.natAbs * s.natAbs : Nat) ((viewL xs).take k))), (8, .int .i64 (k : Int))]) (fun k w' => k ≤ r.n ∧ Mem w [] [r.e] w') (fun k => r.n - k) 0 (agC (bv rfl (by simp [quietP])) (agC rfl agN)) (⟨by omega, M2⟩) ?_
    rintro k ρ4 w4 ⟨hk, hM4⟩
    refine W_seq ?_
    refine W_seq ?_
    refine W_region ?_
    refine wl_q (r_move (.int _ _) rfl) rfl rfl ?_
    refine wl_q (r_move (.slice _ _ _) rfl) rfl rfl ?_
    refine wl_q (r_lenS Tryz.underlying22 rfl) rfl rfl ?_
    refine wl_q (r_bin (.bool (decide _)) rfl rfl rfl) rfl rfl ?_
    refine wl_nil ?_
    refine thenN ?_
    refine W_condD rfl (fun h26 => ?_) (fun h26 => ?_)
    · skip
      obtain ⟨xb, hxb⟩ := getSome (xs := (viewL xs)) (k := k) hrn (by omega)
      have hbk := hvo xb (List.mem_of_getElem? hxb)
      have hv := hbk.v
      refine W_skip ?_
      refine thenN ?_
      refine W_seq ?_
      refine W_block ?_
      refine W_draw [(0, 0), (1, 0), (2, 0), (3, 0), (4, 1), (5, 1), (6, 1), (7, 1), (8, 0), (9, 0), (10, 0), (11, 1), (12, 1), (13, 1), (14, 1), (15, 0), (17, 0), (18, 0), (19, 0), (20, 0), (21, 0), (16, 2), (22, 0), (23, 0), (24, 0)] mixed rfl (by kernel_rfl) (fun w5 hb5 hh5 => ?_)
      have M5 := hM4.drew hb5 hh5
      refine D_p rfl rfl rfl (fun _ => r_move (.bool _) rfl) ?_
      refine D_p rfl rfl rfl (fun _ => r_move (.bool _) rfl) ?_
      refine D_split 30 _ rfl (fun g30 => ?_) (fun g30 => ?_)
      · skip
        have hs0 : 0 ≤ s := of_decide_eq_true ((Bool.and_eq_true _ _).mp g30).1
        refine D_p rfl rfl rfl (fun _ => r_move (.slice _ _ _) rfl) ?_
        refine D_p rfl rfl rfl (fun _ => r_move (.int _ _) rfl) ?_
        refine D_r rfl rfl rfl (r_idxR (k) sl22 rfl rfl rfl ((hr.rd M5 (nthMem (i := 0) rfl)).below_len (mapGet bodyCells hxb)) ((hr.rd M5 (nthMem (i := 0) rfl)).someK (mapGet bodyCells hxb))) ?_
        refine D_r rfl rfl rfl (r_fieldAddrE 8 fld32_6 (hr.rd M5 (nthMem (i := 0) rfl)) (Nat.lt_of_le_of_lt (Nat.zero_le _) ((hr.rd M5 (nthMem (i := 0) rfl)).below_len (mapGet bodyCells hxb))) rfl) ?_
        refine D_r rfl rfl rfl (r_fieldAddrE 0 fld29_0 (hr.rd M5 (nthMem (i := 0) rfl)) (Nat.lt_of_le_of_lt (Nat.zero_le _) ((hr.rd M5 (nthMem (i := 0) rfl)).below_len (mapGet bodyCells hxb))) rfl) ?_
        refine D_r rfl rfl rfl (r_ldE (o := 8) (.int _ _) one21 (hr.rd M5 (nthMem (i := 0) rfl)) (mapGet bodyCells hxb) rfl rfl) ?_
        refine D_p rfl rfl rfl (fun _ => r_convK us21 Tryz.underlying2 rfl (w64 _ (by omega) (by omega))) ?_
        refine D_p rfl rfl rfl (fun _ => r_move (.slice _ _ _) rfl) ?_
        refine D_p rfl rfl rfl (fun _ => r_move (.int _ _) rfl) ?_
        refine D_r rfl rfl rfl (r_idxR (k) sl22 rfl rfl rfl ((hr.rd M5 (nthMem (i := 0) rfl)).below_len (mapGet bodyCells hxb)) ((hr.rd M5 (nthMem (i := 0) rfl)).someK (mapGet bodyCells hxb))) ?_
        refine D_r rfl rfl rfl (r_fieldAddrE 8 fld32_6 (hr.rd M5 (nthMem (i := 0) rfl)) (Nat.lt_of_le_of_lt (Nat.zero_le _) ((hr.rd M5 (nthMem (i := 0) rfl)).below_len (mapGet bodyCells hxb))) rfl) ?_
        refine D_r rfl rfl rfl (r_fieldAddrE 1 fld29_1 (hr.rd M5 (nthMem (i := 0) rfl)) (Nat.lt_of_le_of_lt (Nat.zero_le _) ((hr.rd M5 (nthMem (i := 0) rfl)).below_len (mapGet bodyCells hxb))) rfl) ?_
        refine D_r rfl rfl rfl (r_ldE (o := 9) (.int _ _) one21 (hr.rd M5 (nthMem (i := 0) rfl)) (mapGet bodyCells hxb) rfl rfl) ?_
        refine D_p rfl rfl rfl (fun _ => r_convK us21 Tryz.underlying2 rfl (w64 _ (by omega) (by omega))) ?_
        refine D_p rfl rfl rfl (fun _ => r_move (.int _ _) rfl) ?_
        refine D_p rfl rfl rfl (fun _ => r_conv us21 Tryz.underlying26 rfl) ?_
        refine D_re 47 (.int .u64 ((s.natAbs : Nat) : Int)) (iE (by rw [wrU]; omega)) ?_
        refine D_p rfl rfl rfl (fun _ => r_move (.int _ _) rfl) ?_
        refine D_p rfl rfl rfl (fun _ => r_conv us21 Tryz.underlying26 rfl) ?_
        refine D_re 49 (.int .u64 ((s.natAbs : Nat) : Int)) (iE (by rw [wrU]; omega)) ?_
        refine D_p rfl rfl rfl (fun _ => r_bin (.int _ _) rfl rfl rfl) ?_
        refine D_re 50 (.int .u64 ((s.natAbs * s.natAbs : Nat) : Int)) (iE (mulU _ _ (by omega))) ?_
        refine D_e [true, true, true, true, true, true, true, true] rfl (by kernel_rfl) ?_
        refine wl_cal cal16 rfl rfl rfl ?_
        refine (ref04_LengthSq _ xb.vx xb.vy (vel_in hbk).1 (vel_in hbk).2).mono ?_
        rintro _ w6 ⟨v6, rfl, ⟨rfl, hb6⟩⟩
        refine ⟨_, rfl, ?_⟩
        have M6 := M5.callB hb6
        refine wl_nil (thenN ⟨alN, ?_⟩)
        refine D_p rfl rfl rfl (fun _ => r_bin (.bool (decide _)) rfl rfl rfl) ?_
        refine D_p rfl rfl rfl (fun _ => r_pick true (.bool (decide _)) rfl rfl) ?_
        refine D_p rfl rfl rfl (fun _ => r_assign (.bool (decide _)) rfl) ?_
        refine D_nil ?_
        refine blkN ?_
        refine thenN ?_
        refine W_region ?_
        refine wl_q (r_move (.int _ _) rfl) rfl rfl ?_
        refine wl_q (r_add rfl rfl (by omega) (by omega)) rfl rfl ?_
        refine wl_q (r_assign (.int _ _) rfl) rfl rfl ?_
        refine wl_nil ?_
        refine roundN (k + 1) (agC (bv rfl (by rw [quietP_snoc hxb, ← Bool.and_assoc, g30, Bool.true_and, decide_eq_decide]; omega)) (agC rfl agN)) (akC rfl (akC rfl (akC rfl akN))) ?_ ?_
        · exact ⟨by omega, M6⟩
        · omega
      · skip
        refine D_s rfl rfl rfl ?_
        refine D_s rfl rfl rfl ?_
        refine D_s1 rfl rfl rfl ?_
        refine D_s1 rfl rfl rfl ?_
        refine D_s1 rfl rfl rfl ?_
        refine D_s1 rfl rfl rfl ?_
        refine D_s rfl rfl rfl ?_
        refine D_s rfl rfl rfl ?_
        refine D_s rfl rfl rfl ?_
        refine D_s1 rfl rfl rfl ?_
        refine D_s1 rfl rfl rfl ?_
        refine D_s1 rfl rfl rfl ?_
        refine D_s1 rfl rfl rfl ?_
        refine D_s rfl rfl rfl ?_
        refine D_s rfl rfl rfl ?_
        refine D_s rfl rfl rfl ?_
        refine D_s rfl rfl rfl ?_
        refine D_s rfl rfl rfl ?_
        refine D_s rfl rfl rfl ?_
        refine D_e [true, true, true, true, true, true, true, true] rfl (by kernel_rfl) ?_
        refine wl_skip rfl rfl ?_
        refine wl_nil (thenN ⟨alN, ?_⟩)
        refine D_s rfl rfl rfl ?_
        refine D_p rfl rfl rfl (fun _ => r_pick false (.bool false) rfl rfl) ?_
        refine D_p rfl rfl rfl (fun _ => r_assign (.bool false) rfl) ?_
        refine D_nil ?_
        refine blkN ?_
        refine thenN ?_
        refine W_region ?_
        refine wl_q (r_move (.int _ _) rfl) rfl rfl ?_
        refine wl_q (r_add rfl rfl (by omega) (by omega)) rfl rfl ?_
        refine wl_q (r_assign (.int _ _) rfl) rfl rfl ?_
        refine wl_nil ?_
        refine roundN (k + 1) (agC (bv rfl (by rw [quietP_snoc hxb, ← Bool.and_assoc, g30, Bool.false_and])) (agC rfl agN)) (akC rfl (akC rfl (akC rfl akN))) ?_ ?_
        · exact ⟨by omega, M5⟩
        · omega
    · skip
      have hkn : k = r.n := by omega
      refine W_exit ?_
      refine thenX ?_
      refine roundX ?_
      refine blkH ?_
      refine thenN ?_
      refine W_seq ?_
      refine W_region ?_
      refine wl_q (r_move (.slice _ _ _) rfl) rfl rfl ?_
      refine wl_cal cal17 rfl rfl rfl ?_
      refine (me_Of _ (F.mem hM4) (N.mem hM4) _ _ _ (viewL xs) (hr.rd hM4 (nthMem (i := 0) rfl)) hvo hvs (by first | decide | omega)).mono ?_
      rintro _ w7 ⟨v7, rfl, ⟨rfl, hb7⟩⟩
      refine ⟨_, rfl, ?_⟩
      have M7 := hM4.callB hb7
      refine wl_q (r_move (.slice _ _ _) rfl) rfl rfl ?_
      refine wl_cal cal19 rfl rfl rfl ?_
      refine (ref26_Of _ _ _ _ (viewL xs) (hr.rd M7 (nthMem (i := 0) rfl)) hvo hvs (by omega)).mono ?_
      rintro _ w8 ⟨v8, rfl, ⟨rfl, hb8⟩⟩
      refine ⟨_, rfl, ?_⟩
      have M8 := M7.callB hb8
      refine wl_cal cal18 rfl rfl rfl ?_
      refine (law26_forward _ (meOf (viewL xs))).mono ?_
      rintro _ w9 ⟨v9, rfl, ⟨rfl, hb9⟩⟩
      refine ⟨_, rfl, ?_⟩
      have M9 := M8.callB hb9
      refine wl_q (r_eqA (eqMe _ _) rfl rfl) rfl rfl ?_
      refine wl_re 58 (.bool true) (bT rfl).symm ?_
      refine wl_q (r_move (.bool true) rfl) rfl rfl ?_
      refine wl_q (r_move (.slice _ _ _) rfl) rfl rfl ?_
      refine wl_q (r_move (.int _ _) rfl) rfl rfl ?_
      refine wl_cal cal20 rfl rfl rfl ?_
      refine (me_Quiet _ _ _ _ (viewL xs) (hr.rd M9 (nthMem (i := 0) rfl)) hvo s hs).mono ?_
      rintro _ w10 ⟨v10, rfl, ⟨rfl, hb10⟩⟩
      refine ⟨_, rfl, ?_⟩
      have M10 := M9.callB hb10
      refine wl_q (r_move (.bool _) rfl) rfl rfl ?_
      refine wl_q (r_binB _ Tryz.underlying4 rfl rfl rfl) rfl rfl ?_
      refine wl_re 64 (.bool true) (bv rfl (by rw [List.take_of_length_le (by omega)]; simp)) ?_
      refine wl_q (r_pick true (.bool true) rfl rfl) rfl rfl ?_
      refine wl_q (r_assign (.bool true) rfl) rfl rfl ?_
      refine wl_nil ?_
      refine thenN ?_
      refine W_ret ?_
      skip
      refine fin1 (.bool true) rfl ?_
      exact ⟨rfl, M10.below⟩

end Go.Proofs.YtmcddmhkjcgneaaGreatDoor

set_option linter.unusedVariables false
set_option linter.unusedSimpArgs false
set_option linter.unnecessarySimpa false
namespace Go.Proofs.YtmcddmhkjcgneaaGreatDoor
open Go.Bil
open Go.RowKit (Below)
open Go.Proofs

namespace measureMatchesReference
open Go.ChangeShapes Go.WideShapes Go.ChangeAt Go.RowKit
open Go.ChangeMaps (open_string shut_string)
theorem own : ownKnob Tryz.prog.godebug = none := by kernel_rfl
theorem laidOut : laidOutB Tryz.prog = true := by kernel_rfl
set_option maxRecDepth 100000 in
theorem lifted (os : Os) (started : os.Started) (H : Type) (enc : TypeId × Value → H) :
    ReturnsInHanded {} Tryz.checked os 3 .any (fun w args => (Rows.measureMatchesReferenceSpec.pre enc Tryz.prog Tryz.f3 [] false w args ∧ laidMet Tryz.prog laidL w) ∧ sizedMet enc Tryz.prog Tryz.f3 (OpenSpec.ofChange Rows.measureMatchesReferenceSpec) false w args) (Rows.measureMatchesReferenceSpec.post enc Tryz.prog Tryz.f3 false true false false) := by
  refine returnsInHanded_of_change_and (C := Tryz.checked) (X := fun w _ => laidMet Tryz.prog laidL w) (fun _ _ _ hh h => h.of_heap hh) own started (by kernel_rfl) Tryz.func3
    (ChangeSpec.witness_at (enc := enc) (C := Tryz.checked) (os := os) (X := fun w _ => laidMet Tryz.prog laidL w) false (laidWorld os) #[.slice none 0 0, .int .i32 0] 8 rfl (by kernel_rfl) (by kernel_rfl) (by kernel_rfl) (by kernel_rfl) (by kernel_rfl) (laidMet_of_run' 8 (by kernel_rfl) (by kernel_rfl))) ?_
  intro W base args ds gs before hval0 hW hcnd hsz0 hL _
  have hsz : (DataW.weightsEach Tryz.prog (Tryz.f3.params.toList ++ Rows.measureMatchesReferenceSpec.plain.varTypes Tryz.prog) (ds ++ gs)).all (· ≤ reachBytes) = true := hsz0
  have hval : ∀ (j : Nat) t v, Tryz.f3.params[j]? = some t → args[j]? = some v → Value.okWide Tryz.prog W .any base t v := hval0
  have hW' := hW
  obtain ⟨p, q, hA0, hV, rfl, hfz, hnd⟩ := hW
  have hA : DataW.TrodAll enc Tryz.prog W 0 (fun _ => true) true Tryz.f3.params.toList args.toList ds p := hA0
  rw [Tryz.params3] at hA hval hsz
  obtain ⟨v0, vs0, d0, ds0, p0, q0, hargs, rfl, rfl, h0, r0⟩ := trodAll_cons hA
  obtain ⟨v1, vs1, d1, ds1, p1, q1, rfl, rfl, rfl, h1, r1⟩ := trodAll_cons r0
  obtain ⟨rfl, rfl, rfl⟩ := trodAll_nil r1
  obtain rfl : args = #[v0, v1] := by cases args; simp_all
  obtain ⟨rfl, rfl⟩ := trodVars_none hV
  have k0 := h0
  have lt0 : ∀ x ∈ p0, x.block < W.heap.size := by obtain ⟨m, hm⟩ := k0; exact DataW.trod_lt m _ _ _ hm
  obtain ⟨a0, len0, cap0, rfl⟩ := okWide_slice Tryz.underlying22 (hval 0 22 v0 rfl rfl)
  have y0 := sized_rows hsz (j := 0) (t := 22) rfl rfl sl22 h0
  obtain ⟨ls0, R0, hi0⟩ := open_rows sl22 leaves32 rfl y0 h0
  obtain ⟨xs0, rfl, hx0⟩ := list_of bodyOf ls0 hi0
  obtain ⟨a1, rfl, rfl, rfl, w1⟩ := open_int Tryz.underlying21 (hval 1 21 v1 rfl rfl) h1
  have b1 : -2147483648 ≤ a1 ∧ a1 ≤ 2147483647 := wf_int w1
  clear hA0 hval0 hsz0 hsz
  refine (law_MeasureMatchesReference W (rdF hL) (rdN hL) _ _ _ xs0 R0 a1 b1).mono fun e W' ⟨v, he, hv, bel⟩ => ?_
  subst he
  subst hv
  exact ⟨_, rfl, _, _, _, [], _, [], hW', trodAll_mk1 (shut_bool Tryz.underlying4 _), (trodAll_cons_mk (Below.trod laidOut (by kernel_rfl) (of_decide_eq_true (by kernel_rfl)) k0 bel lt0) (trodAll_cons_mk (shut_int Tryz.underlying21 w1) trodAll_mk0)), rfl, bel.frame _, fun h => by cases h⟩
theorem over : Rows.measureMatchesReferenceRow.holds Tryz.pinned (OpenSpec.ofChange Rows.measureMatchesReferenceSpec) :=
  OpenClaim.holds_of_wide 3 Tryz.f3 rfl rfl rfl rfl rfl rfl rfl ⟨rfl, rfl, rfl, rfl, rfl⟩ rfl rfl rfl rfl rfl (by kernel_rfl) Tryz.func3 (by kernel_rfl)
    (of_decide_eq_true (by kernel_rfl)) (by unfold Func.isWrapper; first | (rw [if_pos (by decide +kernel)]; kernel_rfl) | (rw [if_neg (by decide +kernel)]; exact ⟨rfl, rfl⟩))
    (fun os started H enc _ => lifted os started H enc)
end measureMatchesReference
theorem measureMatchesReference_holds : Rows.MeasureMatchesReferenceSaid := measureMatchesReference.over
#print axioms measureMatchesReference_holds
theorem measureMatchesReference_card : Rows.MeasureMatchesReferenceCardSaid :=
  Claim7.holds_tied_plain_at .later [] [.data, .data] true (true, "9f8295c113a943455c4832a95346352d7118fae4d0dcf065aaf106ad8bcb4f65") false
    measureMatchesReference_holds (fun _ h => by cases h) (by kernel_rfl) (fun _ h => by cases h) measureMatchesReference_row_tie rfl ⟨rfl, rfl⟩ (by kernel_rfl) rfl
    (fun f fn hf hfn => by
      obtain rfl : f = 3 := Option.some.inj ((show Tryz.prog.funcNamed "billiard/billiardlaw26.MeasureMatchesReference" = some 3 by kernel_rfl).symm.trans hf) |>.symm
      obtain rfl : fn = Tryz.f3 := (Option.some.inj (Tryz.func3.symm.trans hfn)).symm
      exact ⟨by kernel_rfl, fun j t ht => by
        rw [Tryz.params3] at ht
        have hm : t ∈ [22, 21] := by simpa using Array.mem_of_getElem? ht
        have hall : ([22, 21].all fun u => !Tryz.prog.wantsStandIn u) = true := by kernel_rfl
        exact (show Tryz.prog.wantsStandIn t = false by simpa using List.all_eq_true.1 hall t hm)⟩)
    (by kernel_rfl)
#print axioms measureMatchesReference_card

end Go.Proofs.YtmcddmhkjcgneaaGreatDoor
