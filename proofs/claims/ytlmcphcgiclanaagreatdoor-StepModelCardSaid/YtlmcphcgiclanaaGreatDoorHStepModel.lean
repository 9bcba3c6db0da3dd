import Derived.Test.YtlmcphcgiclanaaGreatDoorK5
import Derived.Test.YtlmcphcgiclanaaGreatDoorK33
import Derived.Test.YtlmcphcgiclanaaGreatDoorRows
import Derived.Test.YtlmcphcgiclanaaGreatDoorK34
import Derived.Test.YtlmcphcgiclanaaGreatDoorTie
import Derived.Test.YtlmcphcgiclanaaGreatDoorCards
import Derived.WalkKit
import Derived.ProofKit
import Derived.OpenShut
import Derived.ShutString
import Derived.ChangeOld
import Derived.Below
import Derived.SizedLaws
set_option linter.unusedVariables false
set_option linter.unusedSimpArgs false
set_option linter.unnecessarySimpa false
namespace Go.Proofs.YtlmcphcgiclanaaGreatDoor
open Go.Bil
open Go.RowKit (Below)
open Go.Proofs
set_option maxHeartbeats 16000000 in
theorem zG (w : World) (F : Rd w 2 (some ⟨0, 0, none⟩) 1 [[.int .u32 73856093, .int .u32 19349663]]) (N : Rd w 4 (some ⟨3, 0, none⟩) 1 [dV kA]) (A : Option Addr) (n c : Nat) (xs : List Body) (R : Rd w 10 A n (xs.map aI)) :
    Calls Tryz.prog 3 #[.slice A n c] w (fun ex w' => ∃ v, ex = .returned v ∧ (fun v w' => v = .bool true ∧ Below w.heap.size w w') v w') := by
  have hlen : xs.length = n := by simpa using R.len
  have hbd := R.bound
  refine aL #[.tmp 2] 66 Tryz.func3 rfl Tryz.results3 Tryz.ntmps3 rfl ?_
  have M0 := Mem.refl w
  refine aH (aB ?_)
  refine aA (aD (.bool false) rfl) rfl rfl ?_
  refine aE (aF (aH (aB ?_)))
  refine aA (aC (.slice _ _ _) rfl) rfl rfl ?_
  refine aM bCo rfl rfl rfl ?_
  refine (aIt _ _ _ _ xs (R.mem M0)).mono ?_
  rintro _ w1 ⟨v1, rfl, ⟨r, rfl, hr, hM1⟩⟩
  refine ⟨_, rfl, ?_⟩
  have M1 : Mem _ _ [_] _ := M0.call0 hM1
  refine aA (aC (.tuple (List.toArray _)) rfl) rfl rfl ?_
  refine aA (bI (.slice _ _ _) rfl rfl) rfl rfl ?_
  refine aA (bI (.bool (decide _)) rfl rfl) rfl rfl ?_
  refine aA (aD (.slice _ _ _) rfl) rfl rfl ?_
  refine aA (aD (.bool (decide _)) rfl) rfl rfl ?_
  refine aE (aF (aH (aH (aB ?_))))
  refine aM aWu rfl rfl rfl ?_
  refine (bBn _ (F.mem M1) (N.mem M1)).mono ?_
  rintro _ w2 ⟨v2, rfl, ⟨rfl, hb2⟩⟩
  refine ⟨_, rfl, ?_⟩
  have M2 := M1.callB hb2
  refine aA (kF false rfl rfl) rfl rfl ?_
  refine aA (aC (.bool false) rfl) rfl rfl ?_
  refine aA (aC (.bool (decide _)) rfl) rfl rfl ?_
  refine aA (qS rfl) rfl rfl ?_
  refine aA (bQ false (.bool (decide _)) rfl rfl) rfl rfl ?_
  refine aE (aF ?_)
  refine aX rfl (fun h20 => ?_) (fun h20 => ?_)
  · refine aH (aB ?_)
    refine aM aWu rfl rfl rfl ?_
    refine (bBn _ (F.mem M2) (N.mem M2)).mono ?_
    rintro _ w3 ⟨v3, rfl, ⟨rfl, hb3⟩⟩
    refine ⟨_, rfl, ?_⟩
    have M3 := M2.callB hb3
    refine aA (aD (.bool true) rfl) rfl rfl ?_
    refine aE (aF (aU (dC ?_)))
    refine cU (.bool true) rfl ?_
    exact ⟨rfl, M3.below⟩
  · obtain ⟨hV, hve, hvk⟩ := aUl (Decidable.not_not.1 h20)
    have hvl := hV.len
    have hrn : (mE xs).length = r.n := by simpa using hr.1
    have hvs := hV.s
    have hvo := hV.okb
    refine aO (aF (aH (aB ?_)))
    refine aA (aC (.slice _ _ _) rfl) rfl rfl ?_
    refine aM aJn rfl rfl rfl ?_
    refine (pP _ (F.mem M2) (N.mem M2) _ _ _ (mE xs) (hr.rd M2 (bH (i := 0) rfl)) hvo hvs (by omega)).mono ?_
    rintro _ w4 ⟨v4, rfl, ⟨ra, ta, rfl, h1ta, h2ta, hra, hM4⟩⟩
    refine ⟨_, rfl, ?_⟩
    have M4 : Mem _ _ [_, _] _ := M2.call0 hM4
    have hnra : (oT (mE xs)).length = ra.n := by simpa using hra.1
    have hkra := aAi (mE xs)
    have hlra := hkra.len
    refine aA (aC (.tuple (List.toArray _)) rfl) rfl rfl ?_
    refine aA (bI (.slice _ _ _) rfl rfl) rfl rfl ?_
    refine aA (bI (.agg (List.toArray _)) rfl rfl) rfl rfl ?_
    refine aV oY M4 rfl rfl (fun b5 w5 M5 => ?_)
    refine aA (aD (.slice _ _ _) rfl) rfl rfl ?_
    refine bL 2 _ nD M5 rfl rfl rfl rfl rfl (bA rfl) rfl (fun w6 M6 => ?_)
    refine aE (aF (aH (aB ?_)))
    refine aA (aC (.slice _ _ _) rfl) rfl rfl ?_
    refine aM bCt rfl rfl rfl ?_
    refine (aIg _ _ _ _ (mE xs) (hr.rd M6 (bH (i := 0) rfl)) hvo hvs (by omega)).mono ?_
    rintro _ w7 ⟨v7, rfl, ⟨rb, rfl, hrb, hM7⟩⟩
    refine ⟨_, rfl, ?_⟩
    have M7 : Mem _ _ [_, _, _, _] _ := M6.call0 hM7
    refine aA (aC (.tuple (List.toArray _)) rfl) rfl rfl ?_
    refine aA (bI (.slice _ _ _) rfl rfl) rfl rfl ?_
    refine aA (bI (.int _ _) rfl rfl) rfl rfl ?_
    refine aA (bI (.bool _) rfl rfl) rfl rfl ?_
    refine aA (aD (.slice _ _ _) rfl) rfl rfl ?_
    refine aA (aD (.int _ _) rfl) rfl rfl ?_
    refine aA (aD (.bool _) rfl) rfl rfl ?_
    refine aE (aF (aH (aB ?_)))
    refine aA (aC (.slice _ _ _) rfl) rfl rfl ?_
    refine aA (aC (.slice _ _ _) rfl) rfl rfl ?_
    refine aM bCs rfl rfl rfl ?_
    refine (aHh _ _ _ _ _ (hra.rd M7 (bH (i := 1) rfl)) _ _ _ _ (hrb.rd M7 (bH (i := 3) rfl))).mono ?_
    rintro _ w8 ⟨v8, rfl, ⟨rfl, hb8⟩⟩
    refine ⟨_, rfl, ?_⟩
    have M8 := M7.callB hb8
    refine aK 35 (.bool true) (bT rfl).symm ?_
    refine aA (aC (.bool true) rfl) rfl rfl ?_
    refine aA (aG 1 rV rfl) rfl rfl ?_
    refine aA (aQ 2 (.int _ _) lM M8 rfl rfl rfl) rfl rfl ?_
    refine aA (aC (.int _ _) rfl) rfl rfl ?_
    refine aA (aN (.bool (decide _)) rfl rfl rfl) rfl rfl ?_
    refine aK 40 (.bool true) (bT rfl).symm ?_
    refine aA (bQ true (.bool true) rfl rfl) rfl rfl ?_
    refine aA (aC (.bool true) rfl) rfl rfl ?_
    refine aA (aG 2 mL rfl) rfl rfl ?_
    refine aA (aQ 2 (.bool _) nE M8 rfl rfl rfl) rfl rfl ?_
    refine aA (aC (.bool _) rfl) rfl rfl ?_
    refine aA (nK _ Tryz.underlying4 rfl rfl rfl) rfl rfl ?_
    refine aK 46 (.bool true) (bv rfl (by simp)) ?_
    refine aA (bQ true (.bool true) rfl rfl) rfl rfl ?_
    refine aA (aC (.bool true) rfl) rfl rfl ?_
    refine aA (aG 0 qC rfl) rfl rfl ?_
    refine aA (aQ 2 (.int _ _) lM M8 rfl rfl rfl) rfl rfl ?_
    refine aA (aC (.int _ _) rfl) rfl rfl ?_
    refine aA (aN (.bool (decide _)) rfl rfl rfl) rfl rfl ?_
    refine aK 52 (.bool true) (bT (by omega)).symm ?_
    refine aA (bQ true (.bool true) rfl rfl) rfl rfl ?_
    refine aA (aC (.bool true) rfl) rfl rfl ?_
    refine aA (aG 0 qC rfl) rfl rfl ?_
    refine aA (aQ 2 (.int _ _) lM M8 rfl rfl rfl) rfl rfl ?_
    refine aA (aC (.slice _ _ _) rfl) rfl rfl ?_
    refine aA (dE Tryz.underlying22 rfl) rfl rfl ?_
    refine aA (aC (.slice _ _ _) rfl) rfl rfl ?_
    refine aA (dE Tryz.underlying22 rfl) rfl rfl ?_
    refine aA (fC rfl rfl (by omega) (by omega)) rfl rfl ?_
    have hnn : r.n * (r.n - 1) ≤ 40 * 40 := Nat.mul_le_mul (by omega) (by omega)
    rw [hrn] at h2ta
    refine aA (fP rfl rfl (by rw [aCi]; omega) (by rw [aCi]; omega)) rfl rfl ?_
    refine aK 62 (.int .i64 ((r.n * (r.n - 1) : Nat) : Int)) (iE (aCi _)) ?_
    refine aA (fO rfl rfl (by decide)) rfl rfl ?_
    refine aK 63 (.int .i64 ((r.n * (r.n - 1) / 2 : Nat) : Int)) (iE (bDa _ (by omega))) ?_
    refine aA (aN (.bool (decide _)) rfl rfl rfl) rfl rfl ?_
    refine aK 64 (.bool true) (bT (by omega)).symm ?_
    refine aA (bQ true (.bool true) rfl rfl) rfl rfl ?_
    refine aA (aD (.bool true) rfl) rfl rfl ?_
    refine aE (aF (aU ?_))
    refine cU (.bool true) rfl ?_
    exact ⟨rfl, M8.below⟩
end Go.Proofs.YtlmcphcgiclanaaGreatDoor

namespace Go.Proofs.YtlmcphcgiclanaaGreatDoor
open Go.Bil
open Go.RowKit (Below)
open Go.Proofs
namespace stepModel
open Go.ChangeShapes Go.WideShapes Go.ChangeAt Go.RowKit
open Go.ChangeMaps (open_string shut_string)
theorem own : ownKnob Tryz.prog.godebug = none := by kernel_rfl
theorem laidOut : laidOutB Tryz.prog = true := by kernel_rfl
set_option maxRecDepth 100000 in
theorem lifted (os : Os) (started : os.Started) (H : Type) (enc : TypeId × Value → H) :
    ReturnsInHanded {} Tryz.checked os 3 .any (fun w args => (Rows.stepModelSpec.pre enc Tryz.prog Tryz.f3 [] false w args ∧ laidMet Tryz.prog wV w) ∧ sizedMet enc Tryz.prog Tryz.f3 (OpenSpec.ofChange Rows.stepModelSpec) false w args) (Rows.stepModelSpec.post enc Tryz.prog Tryz.f3 false true false false) := by
  refine returnsInHanded_of_change_and (C := Tryz.checked) (X := fun w _ => laidMet Tryz.prog wV w) (fun _ _ _ hh h => h.of_heap hh) own started (by kernel_rfl) Tryz.func3
    (ChangeSpec.witness_at (enc := enc) (C := Tryz.checked) (os := os) (X := fun w _ => laidMet Tryz.prog wV w) false (aLc os) #[.slice none 0 0] 8 rfl (by kernel_rfl) (by kernel_rfl) (by kernel_rfl) (by kernel_rfl) (by kernel_rfl) (laidMet_of_run' 8 (by kernel_rfl) (by kernel_rfl))) ?_
  intro W base args ds gs before hval0 hW hcnd hsz0 hL _
  have hsz : (DataW.weightsEach Tryz.prog (Tryz.f3.params.toList ++ Rows.stepModelSpec.plain.varTypes Tryz.prog) (ds ++ gs)).all (· ≤ reachBytes) = true := hsz0
  have hval : ∀ (j : Nat) t v, Tryz.f3.params[j]? = some t → args[j]? = some v → Value.okWide Tryz.prog W .any base t v := hval0
  have hW' := hW
  obtain ⟨p, q, hA0, hV, rfl, hfz, hnd⟩ := hW
  have hA : DataW.TrodAll enc Tryz.prog W 0 (fun _ => true) true Tryz.f3.params.toList args.toList ds p := hA0
  rw [Tryz.params3] at hA hval hsz
  obtain ⟨v0, vs0, d0, ds0, p0, q0, hargs, rfl, rfl, h0, r0⟩ := trodAll_cons hA
  obtain ⟨rfl, rfl, rfl⟩ := trodAll_nil r0
  obtain rfl : args = #[v0] := by cases args; simp_all
  obtain ⟨rfl, rfl⟩ := trodVars_none hV
  have k0 := h0
  have lt0 : ∀ x ∈ p0, x.block < W.heap.size := by obtain ⟨m, hm⟩ := k0; exact DataW.trod_lt m _ _ _ hm
  obtain ⟨a0, len0, cap0, rfl⟩ := okWide_slice Tryz.underlying22 (hval 0 22 v0 rfl rfl)
  have y0 := aIk hsz (j := 0) (t := 22) rfl rfl cW h0
  obtain ⟨ls0, R0, hi0⟩ := aLx cW aQe rfl y0 h0
  obtain ⟨xs0, rfl, hx0⟩ := aJq aYs ls0 hi0
  clear hA0 hval0 hsz0 hsz
  refine (zG W (rdF hL) (rdN hL) _ _ _ xs0 R0).mono fun e W' ⟨v, he, hv, bel⟩ => ?_
  subst he
  subst hv
  exact ⟨_, rfl, _, _, _, [], _, [], hW', trodAll_mk1 (shut_bool Tryz.underlying4 _), (trodAll_cons_mk (Below.trod laidOut (by kernel_rfl) (of_decide_eq_true (by kernel_rfl)) k0 bel lt0) trodAll_mk0), rfl, bel.frame _, fun h => by cases h⟩
theorem andT {a b : Bool} (ha : a = true) (hb : b = true) : (a && b) = true := by rw [ha, hb]; rfl
set_option maxHeartbeats 16000000 in
theorem closed : joinedFacts Tryz.prog 3 Tryz.f3 Rows.stepModelSpec Rows.stepModelRow = true := by
  unfold joinedFacts
  repeat' (with_reducible refine andT ?_ ?_)
  all_goals (as_aux_lemma => kernel_rfl)
theorem over : Rows.stepModelRow.holds Tryz.pinned (OpenSpec.ofChange Rows.stepModelSpec) :=
  OpenClaim.holds_of_wide 3 Tryz.f3 rfl rfl rfl rfl rfl rfl rfl ⟨rfl, rfl, rfl, rfl, rfl⟩ rfl rfl rfl rfl rfl (by kernel_rfl) Tryz.func3 closed
    (of_decide_eq_true (by kernel_rfl)) (by unfold Func.isWrapper; first | (rw [if_pos (by decide +kernel)]; kernel_rfl) | (rw [if_neg (by decide +kernel)]; exact ⟨rfl, rfl⟩))
    (fun os started H enc _ => lifted os started H enc)
end stepModel
theorem stepModel_holds : Rows.StepModelSaid := stepModel.over
#print axioms stepModel_holds
theorem stepModel_card : Rows.StepModelCardSaid :=
  Claim7.holds_tied_plain_at .later [] [.data, .data] true (true, "efc75206f113ecd8e5cc872cd0b30c800981909977c6e963415616c654d1aab5") false
    stepModel_holds (fun _ h => by cases h) (by kernel_rfl) (fun _ h => by cases h) stepModel_row_tie rfl ⟨rfl, rfl⟩ (by kernel_rfl) rfl
    (fun f fn hf hfn => by
      obtain rfl : f = 3 := Option.some.inj ((show Tryz.prog.funcNamed "billiard/billiardlaw20.StepModel" = some 3 by kernel_rfl).symm.trans hf) |>.symm
      obtain rfl : fn = Tryz.f3 := (Option.some.inj (Tryz.func3.symm.trans hfn)).symm
      exact ⟨by kernel_rfl, fun j t ht => by
        rw [Tryz.params3] at ht
        have hm : t ∈ [22] := by simpa using Array.mem_of_getElem? ht
        have hall : ([22].all fun u => !Tryz.prog.wantsStandIn u) = true := by kernel_rfl
        exact (show Tryz.prog.wantsStandIn t = false by simpa using List.all_eq_true.1 hall t hm)⟩)
    (by kernel_rfl)
#print axioms stepModel_card
end Go.Proofs.YtlmcphcgiclanaaGreatDoor
