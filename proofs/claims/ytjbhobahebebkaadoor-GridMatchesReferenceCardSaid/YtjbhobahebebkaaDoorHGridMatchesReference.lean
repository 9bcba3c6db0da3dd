import Derived.Test.YtjbhobahebebkaaDoorK5
import Derived.Test.YtjbhobahebebkaaDoorK25
import Derived.Test.YtjbhobahebebkaaDoorRows
import Derived.Test.YtjbhobahebebkaaDoorK26
import Derived.Test.YtjbhobahebebkaaDoorTie
import Derived.Test.YtjbhobahebebkaaDoorCards
import Derived.WalkKit
import Derived.ProofKit
import Derived.OpenShut
import Derived.ShutString
import Derived.ChangeOld
import Derived.Below
import Derived.SizedLaws
/- Walks of Go functions over the frame of this claim: what each computes, for every input of the stated types (LGridMatchesReference). -/
set_option linter.unusedVariables false
set_option linter.unusedSimpArgs false
set_option linter.unnecessarySimpa false
namespace Go.Proofs.YtjbhobahebebkaaDoor
open Go.Bil
open Go.RowKit (Below)
open Go.Proofs

set_option maxHeartbeats 16000000 in
theorem law_GridMatchesReference (w : World) (F : Rd w 2 (some ⟨0, 0, none⟩) 1 [[.int .u32 73856093, .int .u32 19349663]]) (A : Option Addr) (n c : Nat) (es : List GE) (R : Rd w 5 A n (es.map geCells)) (hes : ∀ x ∈ es, Okx x.2) (x y : Int) (hx : -2147483648 ≤ x ∧ x ≤ 2147483647) (hy : -2147483648 ≤ y ∧ y ≤ 2147483647) :
    Calls Tryd.prog 3 #[.slice A n c, .agg [.int .i32 x, .int .i32 y].toArray] w (fun ex w' => ∃ v, ex = .returned v ∧ (fun v w' => v = .bool true ∧ Below w.heap.size w w') v w') := by
  have hlen : es.length = n := by simpa using R.len
  have hbd := R.bound
  refine calls_of_W #[.tmp 4] 34 Tryd.func3 rfl Tryd.results3 Tryd.ntmps3 rfl ?_
  have M0 := Mem.refl w
  refine W_seq ?_
  refine W_region ?_
  refine wl_box (.agg (List.toArray _)) M0 rfl rfl rfl (fun b1 w1 M1 => ?_)
  refine wl_q (r_assign (.bool false) rfl) rfl rfl ?_
  refine wl_nil ?_
  refine thenN ?_
  refine W_seq ?_
  refine W_seq ?_
  refine W_region ?_
  refine wl_cal cal8 rfl rfl rfl ?_
  refine (aw10 _ (F.mem M1)).mono ?_
  rintro _ w2 ⟨v2, rfl, ⟨rfl, hb2⟩⟩
  refine ⟨_, rfl, ?_⟩
  have M2 := M1.callB hb2
  refine wl_q (r_notB false rfl rfl) rfl rfl ?_
  refine wl_q (r_move (.bool false) rfl) rfl rfl ?_
  refine wl_q (r_move (.slice _ _ _) rfl) rfl rfl ?_
  refine wl_cal cal9 rfl rfl rfl ?_
  refine (ref10_Few _ _ _ _ es (R.mem M2) hes).mono ?_
  rintro _ w3 ⟨v3, rfl, ⟨z, rfl, hzz, hb3⟩⟩
  refine ⟨_, rfl, ?_⟩
  have M3 := M2.callB hb3
  refine wl_q (r_notB _ rfl rfl) rfl rfl ?_
  refine wl_q (r_pick false (.bool _) rfl rfl) rfl rfl ?_
  refine wl_nil ?_
  refine thenN ?_
  refine W_cond _ rfl (fun h12 => ?_) (fun h12 => ?_)
  · skip
    refine W_seq ?_
    refine W_region ?_
    refine wl_cal cal8 rfl rfl rfl ?_
    refine (aw10 _ (F.mem M3)).mono ?_
    rintro _ w4 ⟨v4, rfl, ⟨rfl, hb4⟩⟩
    refine ⟨_, rfl, ?_⟩
    have M4 := M3.callB hb4
    refine wl_q (r_assign (.bool true) rfl) rfl rfl ?_
    refine wl_nil ?_
    refine thenN ?_
    refine W_ret ?_
    refine thenR ?_
    skip
    refine fin1 (.bool true) rfl ?_
    exact ⟨rfl, M4.below⟩
  · skip
    have hn40 : n ≤ 40 := hzz (by simp_all)
    refine W_skip ?_
    refine thenN ?_
    refine W_seq ?_
    refine W_region ?_
    refine wl_alloc zeroGr M3 rfl rfl (fun b5 w5 M5 => ?_)
    have M6 := Mem.gridNew (L := [_]) M5
    refine wl_nil ?_
    refine thenN ?_
    refine W_seq ?_
    refine W_region ?_
    refine wl_q (r_move (.slice _ _ _) rfl) rfl rfl ?_
    refine wl_cal cal10 rfl rfl rfl ?_
    refine (law10_fill _ (F.mem M6) b5 (List.replicate 1024 nilRow) 0 noG (grid_noG 42) (by omega) (fun j => by simp [noG]) _ _ _ es (R.mem M6) hes (by omega) (Mem.ownTail (L := [_]) M6) (Mem.awayTail (L := [_]) M6 F) (Mem.awayTail (L := [_]) M6 R)).mono ?_
    rintro _ w7 ⟨v7, rfl, ⟨rfl, rs1, hG1, hM7⟩⟩
    refine ⟨_, rfl, ?_⟩
    have M7 : Mem _ _ ([_] ++ _) _ := Mem.tail (L := [_]) M6 hM7
    refine wl_nil ?_
    refine thenN ?_
    refine W_seq ?_
    refine W_draw [(1, 0), (2, 0), (0, 2), (3, 0), (4, 0), (6, 0), (5, 2), (7, 2), (8, 2), (9, 0), (10, 0), (11, 1), (13, 0), (14, 1), (12, 2), (15, 2), (16, 2), (17, 0), (18, 0)] mixed rfl (by kernel_rfl) (fun w8 hb8 hh8 => ?_)
    have M8 := M7.drew hb8 hh8
    refine D_p rfl rfl rfl (fun _ => r_move (.slice _ _ _) rfl) ?_
    refine D_p rfl rfl rfl (fun _ => r_lenS Tryd.underlying22 rfl) ?_
    refine D_e [] rfl (by kernel_rfl) ?_
    refine wl_cal cal11 rfl rfl rfl ?_
    refine (grid_Len _ b5 rs1 (0 + ((n : Nat) : Int)) (fillG es noG) hG1 (Mem.ownTail (L := [_]) M8)).mono ?_
    rintro _ w9 ⟨v9, rfl, ⟨rfl, hM9⟩⟩
    refine ⟨_, rfl, ?_⟩
    have M9 : Mem _ _ ([_] ++ _) _ := Mem.tail (L := [_]) M8 hM9
    refine wl_nil (thenN ⟨alN, ?_⟩)
    refine D_p rfl rfl rfl (fun _ => r_bin (.bool (decide _)) rfl rfl rfl) ?_
    refine D_re 19 (.bool true) (bT (by omega)).symm ?_
    refine D_p rfl rfl rfl (fun _ => r_move (.bool true) rfl) ?_
    refine D_p rfl rfl rfl (fun _ => r_move (.slice _ _ _) rfl) ?_
    refine D_e [] rfl (by kernel_rfl) ?_
    refine wl_cal cal13 rfl rfl rfl ?_
    refine (grid_Candidates _ b5 rs1 (0 + ((n : Nat) : Int)) (fillG es noG) (show GridRows 42 rs1 (fillG es noG) from hG1).len (Mem.gridRd (show Mem _ _ ([_] ++ _) _ from M9) (show GridRows 42 rs1 (fillG es noG) from hG1).len) (fun j r hr => Mem.rowRd (show Mem _ _ ([_] ++ _) _ from M9) (show GridRows 42 rs1 (fillG es noG) from hG1) j r hr) (es.map (·.1)) (keys_fill es) (by first | (simp; done) | (simp; omega))).mono ?_
    rintro _ w10 ⟨v10, rfl, ⟨r, psr, hascr, hpsr, rfl, hr, hM10⟩⟩
    refine ⟨_, rfl, ?_⟩
    have M10 : Mem _ _ ([_, _] ++ _) _ := Mem.front (L := [_]) (M9.call0 hM10)
    have hcdr : ∀ z, z ∈ psr ↔ candP es z := fun z => (hpsr z).trans cand_fill
    have hfwr := cand_few hascr hcdr
    have hlnr : psr.length = r.n := by simpa using hr.1
    refine wl_nil (thenN ⟨alN, ?_⟩)
    refine D_e [] rfl (by kernel_rfl) ?_
    refine wl_cal cal14 rfl rfl rfl ?_
    refine (ref10_Candidates _ _ _ _ es (R.mem M10) hes hn40).mono ?_
    rintro _ w11 ⟨v11, rfl, ⟨r2, ps2, rfl, hasc2, hme2, hr2, hM11⟩⟩
    refine ⟨_, rfl, ?_⟩
    have M11 : Mem _ _ ([_, _, _] ++ _) _ := Mem.front (L := [_, _]) (M10.call0 hM11)
    refine wl_nil (thenN ⟨alN, ?_⟩)
    refine D_e [] rfl (by kernel_rfl) ?_
    refine wl_cal cal12 rfl rfl rfl ?_
    refine (same_pairs _ _ _ _ psr (hr.rd M11 (nthMem (i := 1) rfl)) _ _ _ ps2 (hr2.rd M11 (nthMem (i := 2) rfl))).mono ?_
    rintro _ w12 ⟨v12, rfl, ⟨rfl, hb12⟩⟩
    refine ⟨_, rfl, ?_⟩
    have M12 := M11.callB hb12
    refine wl_nil (thenN ⟨alN, ?_⟩)
    refine D_re 24 (.bool true) (bT (cand_uni hascr hasc2 hcdr hme2 (fun _ => Iff.rfl))).symm ?_
    refine D_p rfl rfl rfl (fun _ => r_pick true (.bool true) rfl rfl) ?_
    refine D_p rfl rfl rfl (fun _ => r_move (.bool true) rfl) ?_
    refine D_r rfl rfl rfl (r_ldW 0 agg24 M12 rfl rfl rfl) ?_
    refine D_p rfl rfl rfl (fun _ => r_move (.slice _ _ _) rfl) ?_
    refine D_r rfl rfl rfl (r_ldW 0 agg24 M12 rfl rfl rfl) ?_
    refine D_e [false, true] rfl (by kernel_rfl) ?_
    refine wl_cal cal16 rfl rfl rfl ?_
    refine (grid_At _ (F.mem M12) b5 rs1 (0 + ((n : Nat) : Int)) (fillG es noG) hG1 (Mem.ownTail (L := [_, _, _]) M12) (Mem.awayTail (L := [_, _, _]) M12 F) (fun j => by have h1 := fill_len es j; omega) x y).mono ?_
    rintro _ w13 ⟨v13, rfl, ⟨q, ksq, rfl, hakq, hksq, hq, hM13⟩⟩
    refine ⟨_, rfl, ?_⟩
    have M13 : Mem _ _ ([_, _, _, _] ++ _) _ := Mem.gridGet (L := [_, _, _]) M12 hM13
    have hlnq : ksq.length = q.n := by simpa using hq.1
    refine wl_nil (thenN ⟨(alC (Yl_of rfl (r_ldW 0 agg24 M13 rfl rfl rfl)) alN), ?_⟩)
    refine D_e [true] rfl (by kernel_rfl) ?_
    refine wl_cal cal17 rfl rfl rfl ?_
    refine (ref10_At _ _ _ _ es (R.mem M13) hes (by omega) x y hx hy).mono ?_
    rintro _ w14 ⟨v14, rfl, ⟨q2, ks2, rfl, hak2, hks2, hq2, hM14⟩⟩
    refine ⟨_, rfl, ?_⟩
    have M14 : Mem _ _ ([_, _, _, _, _] ++ _) _ := Mem.front (L := [_, _, _, _]) (M13.call0 hM14)
    refine wl_nil (thenN ⟨alN, ?_⟩)
    refine D_e [] rfl (by kernel_rfl) ?_
    refine wl_cal cal15 rfl rfl rfl ?_
    refine (same_keys _ _ _ _ ksq (hq.rd M14 (nthMem (i := 3) rfl)) _ _ _ ks2 (hq2.rd M14 (nthMem (i := 4) rfl))).mono ?_
    rintro _ w15 ⟨v15, rfl, ⟨rfl, hb15⟩⟩
    refine ⟨_, rfl, ?_⟩
    have M15 := M14.callB hb15
    refine wl_nil (thenN ⟨alN, ?_⟩)
    refine D_re 32 (.bool true) (bT (ascI_unique hakq hak2 (fun z => (hksq z).trans (hks2 z).symm))).symm ?_
    refine D_p rfl rfl rfl (fun _ => r_pick true (.bool true) rfl rfl) ?_
    refine D_p rfl rfl rfl (fun _ => r_assign (.bool true) rfl) ?_
    refine D_nil ?_
    refine thenN ?_
    refine W_ret ?_
    skip
    refine fin1 (.bool true) rfl ?_
    exact ⟨rfl, M15.below⟩

end Go.Proofs.YtjbhobahebebkaaDoor

set_option linter.unusedVariables false
set_option linter.unusedSimpArgs false
set_option linter.unnecessarySimpa false
namespace Go.Proofs.YtjbhobahebebkaaDoor
open Go.Bil
open Go.RowKit (Below)
open Go.Proofs

namespace gridMatchesReference
open Go.ChangeShapes Go.WideShapes Go.ChangeAt Go.RowKit
open Go.ChangeMaps (open_string shut_string)
theorem own : ownKnob Tryd.prog.godebug = none := by kernel_rfl
theorem laidOut : laidOutB Tryd.prog = true := by kernel_rfl
set_option maxRecDepth 100000 in
theorem lifted (os : Os) (started : os.Started) (H : Type) (enc : TypeId × Value → H) :
    ReturnsInHanded {} Tryd.checked os 3 .any (fun w args => (Rows.gridMatchesReferenceSpec.pre enc Tryd.prog Tryd.f3 [] false w args ∧ laidMet Tryd.prog laidL w) ∧ sizedMet enc Tryd.prog Tryd.f3 (OpenSpec.ofChange Rows.gridMatchesReferenceSpec) false w args) (Rows.gridMatchesReferenceSpec.post enc Tryd.prog Tryd.f3 false true false false) := by
  refine returnsInHanded_of_change_and (C := Tryd.checked) (X := fun w _ => laidMet Tryd.prog laidL w) (fun _ _ _ hh h => h.of_heap hh) own started (by kernel_rfl) Tryd.func3
    (ChangeSpec.witness_at (enc := enc) (C := Tryd.checked) (os := os) (X := fun w _ => laidMet Tryd.prog laidL w) false (laidWorld os) #[.slice none 0 0, (.agg #[.int .i32 0, .int .i32 0])] 8 rfl (by kernel_rfl) (by kernel_rfl) (by kernel_rfl) (by kernel_rfl) (by kernel_rfl) (laidMet_of_run' 8 (by kernel_rfl) (by kernel_rfl))) ?_
  intro W base args ds gs before hval0 hW hcnd hsz0 hL _
  have hsz : (DataW.weightsEach Tryd.prog (Tryd.f3.params.toList ++ Rows.gridMatchesReferenceSpec.plain.varTypes Tryd.prog) (ds ++ gs)).all (· ≤ reachBytes) = true := hsz0
  have hval : ∀ (j : Nat) t v, Tryd.f3.params[j]? = some t → args[j]? = some v → Value.okWide Tryd.prog W .any base t v := hval0
  have hW' := hW
  obtain ⟨p, q, hA0, hV, rfl, hfz, hnd⟩ := hW
  have hA : DataW.TrodAll enc Tryd.prog W 0 (fun _ => true) true Tryd.f3.params.toList args.toList ds p := hA0
  rw [Tryd.params3] at hA hval hsz
  obtain ⟨v0, vs0, d0, ds0, p0, q0, hargs, rfl, rfl, h0, r0⟩ := trodAll_cons hA
  obtain ⟨v1, vs1, d1, ds1, p1, q1, rfl, rfl, rfl, h1, r1⟩ := trodAll_cons r0
  obtain ⟨rfl, rfl, rfl⟩ := trodAll_nil r1
  obtain rfl : args = #[v0, v1] := by cases args; simp_all
  obtain ⟨rfl, rfl⟩ := trodVars_none hV
  have k0 := h0
  have lt0 : ∀ x ∈ p0, x.block < W.heap.size := by obtain ⟨m, hm⟩ := k0; exact DataW.trod_lt m _ _ _ hm
  obtain ⟨a0, len0, cap0, rfl⟩ := okWide_slice Tryd.underlying22 (hval 0 22 v0 rfl rfl)
  have y0 := sized_rows hsz (j := 0) (t := 22) rfl rfl sl22 h0
  obtain ⟨ls0, R0, hi0⟩ := open_rows sl22 leaves49 rfl y0 h0
  obtain ⟨xs0, rfl, hx0⟩ := list_of geOf ls0 hi0
  have k1 := h1
  have lt1 : ∀ x ∈ p1, x.block < W.heap.size := by obtain ⟨m, hm⟩ := k1; exact DataW.trod_lt m _ _ _ hm
  obtain ⟨cs1, rfl, hi1⟩ := okWide_agg agg24 leaves24 rfl rfl h1
  obtain ⟨x1, rfl, hx1⟩ := vecOf _ hi1
  clear hA0 hval0 hsz0 hsz
  refine (law_GridMatchesReference W (rdF hL) _ _ _ xs0 R0 hx0 x1.1 x1.2 hx1.1 hx1.2).mono fun e W' ⟨v, he, hv, bel⟩ => ?_
  subst he
  subst hv
  exact ⟨_, rfl, _, _, _, [], _, [], hW', trodAll_mk1 (shut_bool Tryd.underlying4 _), (trodAll_cons_mk (Below.trod laidOut (by kernel_rfl) (of_decide_eq_true (by kernel_rfl)) k0 bel lt0) (trodAll_cons_mk (Below.trod laidOut (by kernel_rfl) (of_decide_eq_true (by kernel_rfl)) k1 bel lt1) trodAll_mk0)), rfl, bel.frame _, fun h => by cases h⟩
theorem over : Rows.gridMatchesReferenceRow.holds Tryd.pinned (OpenSpec.ofChange Rows.gridMatchesReferenceSpec) :=
  OpenClaim.holds_of_wide 3 Tryd.f3 rfl rfl rfl rfl rfl rfl rfl ⟨rfl, rfl, rfl, rfl, rfl⟩ rfl rfl rfl rfl rfl (by kernel_rfl) Tryd.func3 (by kernel_rfl)
    (of_decide_eq_true (by kernel_rfl)) (by unfold Func.isWrapper; first | (rw [if_pos (by decide +kernel)]; kernel_rfl) | (rw [if_neg (by decide +kernel)]; exact ⟨rfl, rfl⟩))
    (fun os started H enc _ => lifted os started H enc)
end gridMatchesReference
theorem gridMatchesReference_holds : Rows.GridMatchesReferenceSaid := gridMatchesReference.over
#print axioms gridMatchesReference_holds
theorem gridMatchesReference_card : Rows.GridMatchesReferenceCardSaid :=
  Claim7.holds_tied_plain_at .later [] [.data] true (true, "c18748f09deabc37e04f3531794e452193763da30ff121f71e5b9410b62debd6") false
    gridMatchesReference_holds (fun _ h => by cases h) (by kernel_rfl) (fun _ h => by cases h) gridMatchesReference_row_tie rfl ⟨rfl, rfl⟩ (by kernel_rfl) rfl
    (fun f fn hf hfn => by
      obtain rfl : f = 3 := Option.some.inj ((show Tryd.prog.funcNamed "billiard/billiardlaw10.GridMatchesReference" = some 3 by kernel_rfl).symm.trans hf) |>.symm
      obtain rfl : fn = Tryd.f3 := (Option.some.inj (Tryd.func3.symm.trans hfn)).symm
      exact ⟨by kernel_rfl, fun j t ht => by
        rw [Tryd.params3] at ht
        have hm : t ∈ [22, 24] := by simpa using Array.mem_of_getElem? ht
        have hall : ([22, 24].all fun u => !Tryd.prog.wantsStandIn u) = true := by kernel_rfl
        exact (show Tryd.prog.wantsStandIn t = false by simpa using List.all_eq_true.1 hall t hm)⟩)
    (by kernel_rfl)
#print axioms gridMatchesReference_card

end Go.Proofs.YtjbhobahebebkaaDoor
