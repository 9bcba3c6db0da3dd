import Derived.Test.YtlmcphcgiclanaaGreatDoorK5
import Derived.Test.YtlmcphcgiclanaaGreatDoorK31
import Derived.Test.YtlmcphcgiclanaaGreatDoorRows
import Derived.Test.YtlmcphcgiclanaaGreatDoorK32
import Derived.Test.YtlmcphcgiclanaaGreatDoorTie
import Derived.Test.YtlmcphcgiclanaaGreatDoorCards
import Derived.WalkKit
import Derived.ProofKit
import Derived.OpenShut
import Derived.ShutString
import Derived.ChangeOld
import Derived.Below
import Derived.SizedLaws
set_option linter.unusedVariables false
set_option linter.unusedSimpArgs false
set_option linter.unnecessarySimpa false
namespace Go.Proofs.YtlmcphcgiclanaaGreatDoor
open Go.Bil
open Go.RowKit (Below)
open Go.Proofs
set_option maxHeartbeats 16000000 in
theorem wA (w : World) (F : Rd w 2 (some ⟨0, 0, none⟩) 1 [[.int .u32 73856093, .int .u32 19349663]]) (N : Rd w 4 (some ⟨3, 0, none⟩) 1 [cW iA]) (dx dy : Int) (hdx : -2147483648 ≤ dx ∧ dx ≤ 2147483647) (hdy : -2147483648 ≤ dy ∧ dy ≤ 2147483647) (A : Option Addr) (n c : Nat) (xs : List Body) (R : Rd w 10 A n (xs.map aI)) :
    Calls Tryz.prog 5 #[.slice A n c, .agg [.int .i32 dx, .int .i32 dy].toArray] w (fun ex w' => ∃ v, ex = .returned v ∧ (fun v w' => v = .bool true ∧ Below w.heap.size w w') v w') := by
  have hlen : xs.length = n := by simpa using R.len
  have hbd := R.bound
  refine aJ #[.tmp 4] 70 Tryz.func5 rfl Tryz.results5 Tryz.ntmps5 rfl ?_
  have M0 := Mem.refl w
  refine aG (aB ?_)
  refine bL (.agg (List.toArray _)) M0 rfl rfl rfl (fun b1 w1 M1 => ?_)
  refine aA (aD (.bool false) rfl) rfl rfl ?_
  refine aE (aF (aG (aB ?_)))
  refine aA (aC (.slice _ _ _) rfl) rfl rfl ?_
  refine aL aXd rfl rfl rfl ?_
  refine (aEc _ _ _ _ xs (R.mem M1)).mono ?_
  rintro _ w2 ⟨v2, rfl, ⟨r, rfl, hr, hM2⟩⟩
  refine ⟨_, rfl, ?_⟩
  have M2 : Mem _ _ [_, _] _ := M1.call0 hM2
  refine aA (aC (.tuple (List.toArray _)) rfl) rfl rfl ?_
  refine aA (bC (.slice _ _ _) rfl rfl) rfl rfl ?_
  refine aA (bC (.bool (decide _)) rfl rfl) rfl rfl ?_
  refine aA (aD (.slice _ _ _) rfl) rfl rfl ?_
  refine aA (aD (.bool (decide _)) rfl) rfl rfl ?_
  refine aE (aF (aG (aG (aB ?_))))
  refine aL aSq rfl rfl rfl ?_
  refine (aWq _ (F.mem M2) (N.mem M2)).mono ?_
  rintro _ w3 ⟨v3, rfl, ⟨rfl, hb3⟩⟩
  refine ⟨_, rfl, ?_⟩
  have M3 := M2.callB hb3
  refine aA (jI false rfl rfl) rfl rfl ?_
  refine aA (aC (.bool false) rfl) rfl rfl ?_
  refine aA (aC (.bool (decide _)) rfl) rfl rfl ?_
  refine aA (oN rfl) rfl rfl ?_
  refine aA (bM false (.bool (decide _)) rfl rfl) rfl rfl ?_
  refine aE (aF ?_)
  refine aZ rfl (fun h25 => ?_) (fun h25 => ?_)
  · refine aG (aB ?_)
    refine aL aSq rfl rfl rfl ?_
    refine (aWq _ (F.mem M3) (N.mem M3)).mono ?_
    rintro _ w4 ⟨v4, rfl, ⟨rfl, hb4⟩⟩
    refine ⟨_, rfl, ?_⟩
    have M4 := M3.callB hb4
    refine aA (aD (.bool true) rfl) rfl rfl ?_
    refine aE (aF (aQ (cC ?_)))
    refine cJ (.bool true) rfl ?_
    exact ⟨rfl, M4.below⟩
  · obtain ⟨hV, hve, hvk⟩ := aPh (Decidable.not_not.1 h25)
    have hvl := hV.len
    have hrn : (gE xs).length = r.n := by simpa using hr.1
    have hvs := hV.s
    have hvo := hV.okb
    refine aM (aF (aG (aB ?_)))
    refine aA (aC (.slice _ _ _) rfl) rfl rfl ?_
    refine aA (bA 0 bI M3 rfl rfl rfl) rfl rfl ?_
    refine aL aSh rfl rfl rfl ?_
    refine (rV _ _ _ _ (gE xs) (hr.rd M3 (aS (i := 1) rfl)) hvo (by omega) dx dy hdx hdy).mono ?_
    rintro _ w5 ⟨v5, rfl, ⟨q, g, rfl, h1g, h2g, hM5⟩⟩
    refine ⟨_, rfl, ?_⟩
    have M5 : Mem _ _ [_, _, _] _ := M3.call0 hM5
    refine aA (aC (.tuple (List.toArray _)) rfl) rfl rfl ?_
    refine aA (bC (.slice _ _ _) rfl rfl) rfl rfl ?_
    refine aA (bC (.bool _) rfl rfl) rfl rfl ?_
    refine aA (aD (.slice _ _ _) rfl) rfl rfl ?_
    refine aA (aD (.bool _) rfl) rfl rfl ?_
    refine aE (aF (aG (aG (aB ?_))))
    refine aA (aC (.bool _) rfl) rfl rfl ?_
    refine aA (jI _ rfl rfl) rfl rfl ?_
    refine aE (aF ?_)
    refine hJ _ rfl (fun h34 => ?_) (fun h34 => ?_)
    · refine aG (aB ?_)
      refine aA (aD (.bool true) rfl) rfl rfl ?_
      refine aE (aF (aQ (cC ?_)))
      refine cJ (.bool true) rfl ?_
      exact ⟨rfl, M5.below⟩
    · obtain rfl : g = true := by simpa using h34
      have hmi := h1g.1 rfl
      have hq := h2g rfl
      have hqn : (gE xs).length = q.n := by simpa using hq.1
      have hmo : ∀ b ∈ (gE xs), Okb (eQ dx dy b) := fun b hb => aXq (hvo b hb) (hmi b hb).1 (hmi b hb).2
      have hmo2 : ∀ b ∈ ((gE xs).map (eQ dx dy)), Okb b := fun b hb => by obtain ⟨c, hc, rfl⟩ := List.mem_map.1 hb; exact hmo c hc
      have hca := aGa hvs hvo hmo
      refine aM (aF (aG (aB ?_)))
      refine aA (aC (.slice _ _ _) rfl) rfl rfl ?_
      refine aL aCv rfl rfl rfl ?_
      refine (lN _ (F.mem M5) (N.mem M5) _ _ _ (gE xs) (hr.rd M5 (aS (i := 1) rfl)) hvo hvs (by omega)).mono ?_
      rintro _ w6 ⟨v6, rfl, ⟨ra, ta, rfl, h1ta, h2ta, hra, hM6⟩⟩
      refine ⟨_, rfl, ?_⟩
      have M6 : Mem _ _ [_, _, _, _] _ := M5.call0 hM6
      have hnra : (iR (gE xs)).length = ra.n := by simpa using hra.1
      have hkra := qL (gE xs)
      have hlra := hkra.len
      refine aA (aC (.tuple (List.toArray _)) rfl) rfl rfl ?_
      refine aA (bC (.slice _ _ _) rfl rfl) rfl rfl ?_
      refine aA (bC (.agg (List.toArray _)) rfl rfl) rfl rfl ?_
      refine aT mC M6 rfl rfl (fun b7 w7 M7 => ?_)
      refine aA (aD (.slice _ _ _) rfl) rfl rfl ?_
      refine bJ 4 _ kI M7 rfl rfl rfl rfl rfl (aV rfl) rfl (fun w8 M8 => ?_)
      refine aE (aF (aG (aB ?_)))
      refine aA (aC (.slice _ _ _) rfl) rfl rfl ?_
      refine aL aCv rfl rfl rfl ?_
      refine (lN _ (F.mem M8) (N.mem M8) _ _ _ ((gE xs).map (eQ dx dy)) (hq.rd M8 (aS (i := 2) rfl)) hmo2 (lM hvs) (by omega)).mono ?_
      rintro _ w9 ⟨v9, rfl, ⟨rb, tb, rfl, h1tb, h2tb, hrb, hM9⟩⟩
      refine ⟨_, rfl, ?_⟩
      have M9 : Mem _ _ [_, _, _, _, _, _] _ := M8.call0 hM9
      have hnrb : (iR ((gE xs).map (eQ dx dy))).length = rb.n := by simpa using hrb.1
      have hkrb := qL ((gE xs).map (eQ dx dy))
      have hlrb := hkrb.len
      refine aA (aC (.tuple (List.toArray _)) rfl) rfl rfl ?_
      refine aA (bC (.slice _ _ _) rfl rfl) rfl rfl ?_
      refine aA (bC (.agg (List.toArray _)) rfl rfl) rfl rfl ?_
      refine aT mC M9 rfl rfl (fun b10 w10 M10 => ?_)
      refine aA (aD (.slice _ _ _) rfl) rfl rfl ?_
      refine bJ 6 _ kI M10 rfl rfl rfl rfl rfl (aV rfl) rfl (fun w11 M11 => ?_)
      refine aE (aF (aG (aG (aB ?_))))
      refine aA (aH 2 iZ rfl) rfl rfl ?_
      refine aA (aY 4 (.bool _) kV M11 rfl rfl rfl) rfl rfl ?_
      refine aA (aC (.bool _) rfl) rfl rfl ?_
      refine iN 47 _ rfl (fun g47 => ?_) (fun g47 => ?_)
      · refine aP rfl rfl ?_
        refine aP rfl rfl ?_
        refine aA (bM true (.bool true) rfl rfl) rfl rfl ?_
        refine aE (aF ?_)
        refine dE rfl ?_
        refine aG (aB ?_)
        refine aA (aD (.bool true) rfl) rfl rfl ?_
        refine aE (aF (aQ (cC ?_)))
        refine cJ (.bool true) rfl ?_
        exact ⟨rfl, M11.below⟩
      · refine aA (aH 2 iZ rfl) rfl rfl ?_
        refine aA (aY 6 (.bool _) kV M11 rfl rfl rfl) rfl rfl ?_
        refine aA (bM false (.bool _) rfl rfl) rfl rfl ?_
        refine aE (aF ?_)
        refine hJ _ rfl (fun h50 => ?_) (fun h50 => ?_)
        · refine aG (aB ?_)
          refine aA (aD (.bool true) rfl) rfl rfl ?_
          refine aE (aF (aQ (cC ?_)))
          refine cJ (.bool true) rfl ?_
          exact ⟨rfl, M11.below⟩
        · have hsm := aPi hvs hvo hmo (by simpa using g47) (by simpa using h50)
          refine aM (aF (aG (aB ?_)))
          refine aA (aC (.slice _ _ _) rfl) rfl rfl ?_
          refine aA (bA 0 bI M11 rfl rfl rfl) rfl rfl ?_
          refine aL aSh rfl rfl rfl ?_
          refine (rV _ _ _ _ (iR (gE xs)) (hra.rd M11 (aS (i := 3) rfl)) (aGb hvo) (by omega) dx dy hdx hdy).mono ?_
          rintro _ w12 ⟨v12, rfl, ⟨z, g2, rfl, h1g2, h2g2, hM12⟩⟩
          refine ⟨_, rfl, ?_⟩
          have M12 : Mem _ _ [_, _, _, _, _, _, _, _] _ := M11.call0 hM12
          obtain rfl : g2 = true := h1g2.2 hsm.2
          have hz := h2g2 rfl
          refine aA (aC (.tuple (List.toArray _)) rfl) rfl rfl ?_
          refine aA (bC (.slice _ _ _) rfl rfl) rfl rfl ?_
          refine aA (bC (.bool true) rfl rfl) rfl rfl ?_
          refine aA (aD (.slice _ _ _) rfl) rfl rfl ?_
          refine aA (aD (.bool true) rfl) rfl rfl ?_
          refine aE (aF (aG (aB ?_)))
          refine aA (aC (.bool true) rfl) rfl rfl ?_
          refine aA (aC (.bool true) rfl) rfl rfl ?_
          refine aA (aC (.slice _ _ _) rfl) rfl rfl ?_
          refine aA (aC (.slice _ _ _) rfl) rfl rfl ?_
          refine aL aXh rfl rfl rfl ?_
          refine (aFh _ _ _ _ _ (hrb.rd M12 (aS (i := 5) rfl)) _ _ _ _ (hz.rd M12 (aS (i := 7) rfl))).mono ?_
          rintro _ w13 ⟨v13, rfl, ⟨rfl, hb13⟩⟩
          refine ⟨_, rfl, ?_⟩
          have M13 := M12.callB hb13
          refine aN 61 (.bool true) (bT hsm.1).symm ?_
          refine aA (bM true (.bool true) rfl rfl) rfl rfl ?_
          refine aA (aC (.bool true) rfl) rfl rfl ?_
          refine aA (aH 1 nU rfl) rfl rfl ?_
          refine aA (aY 4 (.int _ _) jZ M13 rfl rfl rfl) rfl rfl ?_
          refine aA (aH 1 nU rfl) rfl rfl ?_
          refine aA (aY 6 (.int _ _) jZ M13 rfl rfl rfl) rfl rfl ?_
          refine aA (aO (.bool (decide _)) rfl rfl rfl) rfl rfl ?_
          refine aN 68 (.bool true) (bT (by rw [hca])).symm ?_
          refine aA (bM true (.bool true) rfl rfl) rfl rfl ?_
          refine aA (aD (.bool true) rfl) rfl rfl ?_
          refine aE (aF (aQ ?_))
          refine cJ (.bool true) rfl ?_
          exact ⟨rfl, M13.below⟩
end Go.Proofs.YtlmcphcgiclanaaGreatDoor

namespace Go.Proofs.YtlmcphcgiclanaaGreatDoor
open Go.Bil
open Go.RowKit (Below)
open Go.Proofs
namespace stepMoves
open Go.ChangeShapes Go.WideShapes Go.ChangeAt Go.RowKit
open Go.ChangeMaps (open_string shut_string)
theorem own : ownKnob Tryz.prog.godebug = none := by kernel_rfl
theorem laidOut : laidOutB Tryz.prog = true := by kernel_rfl
set_option maxRecDepth 100000 in
theorem lifted (os : Os) (started : os.Started) (H : Type) (enc : TypeId × Value → H) :
    ReturnsInHanded {} Tryz.checked os 5 .any (fun w args => (Rows.stepMovesSpec.pre enc Tryz.prog Tryz.f5 [] false w args ∧ laidMet Tryz.prog tI w) ∧ sizedMet enc Tryz.prog Tryz.f5 (OpenSpec.ofChange Rows.stepMovesSpec) false w args) (Rows.stepMovesSpec.post enc Tryz.prog Tryz.f5 false true false false) := by
  refine returnsInHanded_of_change_and (C := Tryz.checked) (X := fun w _ => laidMet Tryz.prog tI w) (fun _ _ _ hh h => h.of_heap hh) own started (by kernel_rfl) Tryz.func5
    (ChangeSpec.witness_at (enc := enc) (C := Tryz.checked) (os := os) (X := fun w _ => laidMet Tryz.prog tI w) false (aIp os) #[.slice none 0 0, (.agg #[.int .i32 0, .int .i32 0])] 8 rfl (by kernel_rfl) (by kernel_rfl) (by kernel_rfl) (by kernel_rfl) (by kernel_rfl) (laidMet_of_run' 8 (by kernel_rfl) (by kernel_rfl))) ?_
  intro W base args ds gs before hval0 hW hcnd hsz0 hL _
  have hsz : (DataW.weightsEach Tryz.prog (Tryz.f5.params.toList ++ Rows.stepMovesSpec.plain.varTypes Tryz.prog) (ds ++ gs)).all (· ≤ reachBytes) = true := hsz0
  have hval : ∀ (j : Nat) t v, Tryz.f5.params[j]? = some t → args[j]? = some v → Value.okWide Tryz.prog W .any base t v := hval0
  have hW' := hW
  obtain ⟨p, q, hA0, hV, rfl, hfz, hnd⟩ := hW
  have hA : DataW.TrodAll enc Tryz.prog W 0 (fun _ => true) true Tryz.f5.params.toList args.toList ds p := hA0
  rw [Tryz.params5] at hA hval hsz
  obtain ⟨v0, vs0, d0, ds0, p0, q0, hargs, rfl, rfl, h0, r0⟩ := trodAll_cons hA
  obtain ⟨v1, vs1, d1, ds1, p1, q1, rfl, rfl, rfl, h1, r1⟩ := trodAll_cons r0
  obtain ⟨rfl, rfl, rfl⟩ := trodAll_nil r1
  obtain rfl : args = #[v0, v1] := by cases args; simp_all
  obtain ⟨rfl, rfl⟩ := trodVars_none hV
  have k0 := h0
  have lt0 : ∀ x ∈ p0, x.block < W.heap.size := by obtain ⟨m, hm⟩ := k0; exact DataW.trod_lt m _ _ _ hm
  obtain ⟨a0, len0, cap0, rfl⟩ := okWide_slice Tryz.underlying22 (hval 0 22 v0 rfl rfl)
  have y0 := aEj hsz (j := 0) (t := 22) rfl rfl dD h0
  obtain ⟨ls0, R0, hi0⟩ := aJw dD aNu rfl y0 h0
  obtain ⟨xs0, rfl, hx0⟩ := aFs aUt ls0 hi0
  have k1 := h1
  have lt1 : ∀ x ∈ p1, x.block < W.heap.size := by obtain ⟨m, hm⟩ := k1; exact DataW.trod_lt m _ _ _ hm
  obtain ⟨cs1, rfl, hi1⟩ := aFq bI aMe rfl rfl h1
  obtain ⟨x1, rfl, hx1⟩ := aWx _ hi1
  clear hA0 hval0 hsz0 hsz
  refine (wA W (rdF hL) (rdN hL) x1.1 x1.2 hx1.1 hx1.2 _ _ _ xs0 R0).mono fun e W' ⟨v, he, hv, bel⟩ => ?_
  subst he
  subst hv
  exact ⟨_, rfl, _, _, _, [], _, [], hW', trodAll_mk1 (shut_bool Tryz.underlying4 _), (trodAll_cons_mk (Below.trod laidOut (by kernel_rfl) (of_decide_eq_true (by kernel_rfl)) k0 bel lt0) (trodAll_cons_mk (Below.trod laidOut (by kernel_rfl) (of_decide_eq_true (by kernel_rfl)) k1 bel lt1) trodAll_mk0)), rfl, bel.frame _, fun h => by cases h⟩
theorem andT {a b : Bool} (ha : a = true) (hb : b = true) : (a && b) = true := by rw [ha, hb]; rfl
set_option maxHeartbeats 16000000 in
theorem closed : joinedFacts Tryz.prog 5 Tryz.f5 Rows.stepMovesSpec Rows.stepMovesRow = true := by
  unfold joinedFacts
  repeat' (with_reducible refine andT ?_ ?_)
  all_goals (as_aux_lemma => kernel_rfl)
theorem over : Rows.stepMovesRow.holds Tryz.pinned (OpenSpec.ofChange Rows.stepMovesSpec) :=
  OpenClaim.holds_of_wide 5 Tryz.f5 rfl rfl rfl rfl rfl rfl rfl ⟨rfl, rfl, rfl, rfl, rfl⟩ rfl rfl rfl rfl rfl (by kernel_rfl) Tryz.func5 closed
    (of_decide_eq_true (by kernel_rfl)) (by unfold Func.isWrapper; first | (rw [if_pos (by decide +kernel)]; kernel_rfl) | (rw [if_neg (by decide +kernel)]; exact ⟨rfl, rfl⟩))
    (fun os started H enc _ => lifted os started H enc)
end stepMoves
theorem stepMoves_holds : Rows.StepMovesSaid := stepMoves.over
#print axioms stepMoves_holds
theorem stepMoves_card : Rows.StepMovesCardSaid :=
  Claim7.holds_tied_plain_at .later [] [.data, .data] true (true, "efc75206f113ecd8e5cc872cd0b30c800981909977c6e963415616c654d1aab5") false
    stepMoves_holds (fun _ h => by cases h) (by kernel_rfl) (fun _ h => by cases h) stepMoves_row_tie rfl ⟨rfl, rfl⟩ (by kernel_rfl) rfl
    (fun f fn hf hfn => by
      obtain rfl : f = 5 := Option.some.inj ((show Tryz.prog.funcNamed "billiard/billiardlaw20.StepMoves" = some 5 by kernel_rfl).symm.trans hf) |>.symm
      obtain rfl : fn = Tryz.f5 := (Option.some.inj (Tryz.func5.symm.trans hfn)).symm
      exact ⟨by kernel_rfl, fun j t ht => by
        rw [Tryz.params5] at ht
        have hm : t ∈ [22, 38] := by simpa using Array.mem_of_getElem? ht
        have hall : ([22, 38].all fun u => !Tryz.prog.wantsStandIn u) = true := by kernel_rfl
        exact (show Tryz.prog.wantsStandIn t = false by simpa using List.all_eq_true.1 hall t hm)⟩)
    (by kernel_rfl)
#print axioms stepMoves_card
end Go.Proofs.YtlmcphcgiclanaaGreatDoor
