import Derived.Test.YtlmcphcgiclanaaGreatDoorK5
import Derived.Test.YtlmcphcgiclanaaGreatDoorK31
import Derived.Test.YtlmcphcgiclanaaGreatDoorRows
import Derived.Test.YtlmcphcgiclanaaGreatDoorK32
import Derived.Test.YtlmcphcgiclanaaGreatDoorTie
import Derived.Test.YtlmcphcgiclanaaGreatDoorCards
import Derived.WalkKit
import Derived.ProofKit
import Derived.OpenShut
import Derived.ShutString
import Derived.ChangeOld
import Derived.Below
import Derived.SizedLaws
set_option linter.unusedVariables false
set_option linter.unusedSimpArgs false
set_option linter.unnecessarySimpa false
namespace Go.Proofs.YtlmcphcgiclanaaGreatDoor
open Go.Bil
open Go.RowKit (Below)
open Go.Proofs
set_option maxHeartbeats 16000000 in
theorem nQ (w : World) (F : Rd w 2 (some ⟨0, 0, none⟩) 1 [[.int .u32 73856093, .int .u32 19349663]]) (N : Rd w 4 (some ⟨3, 0, none⟩) 1 [cT gT]) (f : Nat) (hf : f ≤ 255) (A : Option Addr) (n c : Nat) (xs : List Body) (R : Rd w 10 A n (xs.map aI)) :
    Calls Tryz.prog 4 #[.slice A n c, .int .u8 (f : Int)] w (fun ex w' => ∃ v, ex = .returned v ∧ (fun v w' => v = .bool true ∧ Below w.heap.size w w') v w') := by
  have hlen : xs.length = n := by simpa using R.len
  have hbd := R.bound
  refine aJ #[.tmp 4] 69 Tryz.func4 rfl Tryz.results4 Tryz.ntmps4 rfl ?_
  have M0 := Mem.refl w
  refine aG (aB ?_)
  refine aA (aD (.bool false) rfl) rfl rfl ?_
  refine aE (aF (aG (aB ?_)))
  refine aA (aC (.slice _ _ _) rfl) rfl rfl ?_
  refine aL aWb rfl rfl rfl ?_
  refine (aDw _ _ _ _ xs (R.mem M0)).mono ?_
  rintro _ w1 ⟨v1, rfl, ⟨r, rfl, hr, hM1⟩⟩
  refine ⟨_, rfl, ?_⟩
  have M1 : Mem _ _ [_] _ := M0.call0 hM1
  refine aA (aC (.tuple (List.toArray _)) rfl) rfl rfl ?_
  refine aA (bE (.slice _ _ _) rfl rfl) rfl rfl ?_
  refine aA (bE (.bool (decide _)) rfl rfl) rfl rfl ?_
  refine aA (aD (.slice _ _ _) rfl) rfl rfl ?_
  refine aA (aD (.bool (decide _)) rfl) rfl rfl ?_
  refine aE (aF (aG (aG (aB ?_))))
  refine aL aRv rfl rfl rfl ?_
  refine (aWw _ (F.mem M1) (N.mem M1)).mono ?_
  rintro _ w2 ⟨v2, rfl, ⟨rfl, hb2⟩⟩
  refine ⟨_, rfl, ?_⟩
  have M2 := M1.callB hb2
  refine aA (kF false rfl rfl) rfl rfl ?_
  refine aA (aC (.bool false) rfl) rfl rfl ?_
  refine aA (aC (.bool (decide _)) rfl) rfl rfl ?_
  refine aA (nW rfl) rfl rfl ?_
  refine aA (bP false (.bool (decide _)) rfl rfl) rfl rfl ?_
  refine aE (aF ?_)
  refine aY rfl (fun h21 => ?_) (fun h21 => ?_)
  · refine aG (aB ?_)
    refine aL aRv rfl rfl rfl ?_
    refine (aWw _ (F.mem M2) (N.mem M2)).mono ?_
    rintro _ w3 ⟨v3, rfl, ⟨rfl, hb3⟩⟩
    refine ⟨_, rfl, ?_⟩
    have M3 := M2.callB hb3
    refine aA (aD (.bool true) rfl) rfl rfl ?_
    refine aE (aF (aR (cP ?_)))
    refine cI (.bool true) rfl ?_
    exact ⟨rfl, M3.below⟩
  · obtain ⟨hV, hve, hvk⟩ := aPn (Decidable.not_not.1 h21)
    have hvl := hV.len
    have hrn : (gX xs).length = r.n := by simpa using hr.1
    have hvs := hV.s
    have hvo := hV.okb
    obtain ⟨m8, hm8⟩ : ∃ m, m = f % 8 := ⟨_, rfl⟩
    have hml : m8 < 8 := by omega
    refine aN (aF (aG (aB ?_)))
    refine aA (aC (.slice _ _ _) rfl) rfl rfl ?_
    refine aA (aC (.int _ _) rfl) rfl rfl ?_
    refine aA (aMv rfl rfl (by decide)) rfl rfl ?_
    refine aM 26 (.int .u8 (m8 : Int)) (iE (aLe rfl hm8)) ?_
    refine aA (bR us5 Tryz.underlying3 rfl (jL _ (by omega) (by omega))) rfl rfl ?_
    refine aL aRj rfl rfl rfl ?_
    refine (tF _ (F.mem M2) (N.mem M2) _ _ _ (gX xs) (hr.rd M2 (aP (i := 0) rfl)) hvo hvs (by omega) _ m8 (by omega) (by omega)).mono ?_
    rintro _ w4 ⟨v4, rfl, ⟨ra, ta, rfl, h1ta, h2ta, hra, hM4⟩⟩
    refine ⟨_, rfl, ?_⟩
    have M4 : Mem _ _ [_, _] _ := M2.call0 hM4
    have hnra : (fP (gX xs) m8).length = ra.n := by simpa using hra.1
    have hkra := lO (gX xs) m8
    have hlra := hkra.len
    have hcv := aCw (by omega) (sS hvo m8) (oU hvs m8)
    refine aA (aC (.tuple (List.toArray _)) rfl) rfl rfl ?_
    refine aA (bE (.slice _ _ _) rfl rfl) rfl rfl ?_
    refine aA (bE (.agg (List.toArray _)) rfl rfl) rfl rfl ?_
    refine aS mJ M4 rfl rfl (fun b5 w5 M5 => ?_)
    refine aA (aD (.slice _ _ _) rfl) rfl rfl ?_
    refine bJ 2 _ kZ M5 rfl rfl rfl rfl rfl (aU rfl) rfl (fun w6 M6 => ?_)
    refine aE (aF (aG (aG (aB ?_))))
    refine aA (aC (.slice _ _ _) rfl) rfl rfl ?_
    refine aA (cS Tryz.underlying22 rfl) rfl rfl ?_
    refine aA (aC (.slice _ _ _) rfl) rfl rfl ?_
    refine aA (cS Tryz.underlying22 rfl) rfl rfl ?_
    refine aA (aO (.bool (decide _)) rfl rfl rfl) rfl rfl ?_
    refine aM 35 (.bool false) (bF (by omega)).symm ?_
    refine aA (aC (.bool false) rfl) rfl rfl ?_
    refine aA (aC (.slice _ _ _) rfl) rfl rfl ?_
    refine aL aWu rfl rfl rfl ?_
    refine (aBu _ _ _ _ (fP (gX xs) m8) (hra.rd M6 (aP (i := 1) rfl))).mono ?_
    rintro _ w7 ⟨v7, rfl, ⟨rfl, hb7⟩⟩
    refine ⟨_, rfl, ?_⟩
    have M7 := M6.callB hb7
    refine aA (aO (.bool (decide _)) rfl rfl rfl) rfl rfl ?_
    refine aM 39 (.bool false) (bF (fun h => h hcv)).symm ?_
    refine aA (bP false (.bool false) rfl rfl) rfl rfl ?_
    refine aE (aF ?_)
    refine cH rfl ?_
    refine aN (aF (aG (aG (aB ?_))))
    refine aA (aD (.int _ _) rfl) rfl rfl ?_
    refine aE (aF (bA ?_))
    refine dI (σ := Nat) [5, 7] (fun i => [(9, .int .i64 (i : Int))]) (fun i w' => i ≤ r.n ∧ Mem w [] [r.e, ra.e, (some b5, bc [.int .i64 (ta : Int), .int .i64 (mM (gX xs) m8 : Int), .bool (pW (gX xs) m8)] 27)] w') (fun i => r.n - i) 0 (bS rfl eV) (⟨by omega, M7⟩) ?_
    rintro i ρ8 w8 ⟨hi, hM8⟩
    refine aG (aG (aB ?_))
    refine aA (aC (.int _ _) rfl) rfl rfl ?_
    refine aA (aC (.slice _ _ _) rfl) rfl rfl ?_
    refine aA (cS Tryz.underlying22 rfl) rfl rfl ?_
    refine aA (aO (.bool (decide _)) rfl rfl rfl) rfl rfl ?_
    refine aE (aF ?_)
    refine aY rfl (fun h44 => ?_) (fun h44 => ?_)
    · obtain ⟨x, hx⟩ := cN (xs := (gX xs)) (k := i) hrn (by omega)
      obtain ⟨y, hy⟩ := cN (xs := fP (gX xs) m8) (k := i) hnra (by omega)
      have hxy := hkra.at_ i x y hx hy
      refine aN (aF (aG (bA (aG (aB ?_)))))
      refine aA (aC (.slice _ _ _) rfl) rfl rfl ?_
      refine aA (aC (.int _ _) rfl) rfl rfl ?_
      refine aA (bO (i) dD rfl rfl rfl ((hra.rd hM8 (aP (i := 1) rfl)).below_len (aK aI hy)) ((hra.rd hM8 (aP (i := 1) rfl)).someK (aK aI hy))) rfl rfl ?_
      refine aA (dO _ bW (hra.rd hM8 (aP (i := 1) rfl)) (aK aI hy) rfl) rfl rfl ?_
      refine aS kD hM8 rfl rfl (fun b9 w9 M9 => ?_)
      refine bJ 3 _ bW M9 rfl rfl rfl rfl rfl (aU rfl) rfl (fun w10 M10 => ?_)
      refine aE (aF (aG (aB ?_)))
      refine aA (aC (.slice _ _ _) rfl) rfl rfl ?_
      refine aA (aC (.int _ _) rfl) rfl rfl ?_
      refine aA (bO (i) dD rfl rfl rfl ((hr.rd M10 (aP (i := 0) rfl)).below_len (aK aI hx)) ((hr.rd M10 (aP (i := 0) rfl)).someK (aK aI hx))) rfl rfl ?_
      refine aA (bM 6 eK (hr.rd M10 (aP (i := 0) rfl)) (Nat.lt_of_le_of_lt (Nat.zero_le _) ((hr.rd M10 (aP (i := 0) rfl)).below_len (aK aI hx))) rfl) rfl rfl ?_
      refine aA (lU (o := 6) _ bI (hr.rd M10 (aP (i := 0) rfl)) (aK aI hx) rfl rfl rfl) rfl rfl ?_
      refine aA (aH 6 eK rfl) rfl rfl ?_
      refine qK 3 _ bI M10 rfl rfl rfl rfl rfl (aU rfl) (Nat.le_of_ble_eq_true rfl) (fun w11 M11 => ?_)
      refine aE (aF (aG (aB ?_)))
      refine aA (aC (.slice _ _ _) rfl) rfl rfl ?_
      refine aA (aC (.int _ _) rfl) rfl rfl ?_
      refine aA (bO (i) dD rfl rfl rfl ((hr.rd M11 (aP (i := 0) rfl)).below_len (aK aI hx)) ((hr.rd M11 (aP (i := 0) rfl)).someK (aK aI hx))) rfl rfl ?_
      refine aA (bM 8 eF (hr.rd M11 (aP (i := 0) rfl)) (Nat.lt_of_le_of_lt (Nat.zero_le _) ((hr.rd M11 (aP (i := 0) rfl)).below_len (aK aI hx))) rfl) rfl rfl ?_
      refine aA (lU (o := 8) _ bI (hr.rd M11 (aP (i := 0) rfl)) (aK aI hx) rfl rfl rfl) rfl rfl ?_
      refine aA (aH 8 eF rfl) rfl rfl ?_
      refine qK 3 _ bI M11 rfl rfl rfl rfl rfl (aU rfl) (Nat.le_of_ble_eq_true rfl) (fun w12 M12 => ?_)
      refine aE (aF (aG ?_))
      refine bZ [(0, 1), (1, 0), (2, 0), (3, 1), (4, 1), (5, 0)] mixed rfl (by kernel_rfl) (fun w13 hb13 hh13 => ?_)
      have M13 := M12.drew hb13 hh13
      refine cB rfl rfl rfl (bB 3 bW M13 rfl rfl rfl) ?_
      refine aW rfl rfl rfl (fun _ => aC (.slice _ _ _) rfl) ?_
      refine aW rfl rfl rfl (fun _ => aC (.int _ _) rfl) ?_
      refine cB rfl rfl rfl (bO (i) dD rfl rfl rfl ((hr.rd M13 (aP (i := 0) rfl)).below_len (aK aI hx)) ((hr.rd M13 (aP (i := 0) rfl)).someK (aK aI hx))) ?_
      refine cB rfl rfl rfl (dO _ bW (hr.rd M13 (aP (i := 0) rfl)) (aK aI hx) rfl) ?_
      refine aW rfl rfl rfl (fun _ => aWr (aMj ⟨y.key, y.radius, y.ax, y.ay, y.mass, y.bounce, x.px, x.py, x.vx, x.vy⟩ x) rfl rfl) ?_
      refine mN 68 (.bool false) (bF (fun h => h (aGr hxy))).symm ?_
      refine cE ?_
      refine aF ?_
      refine cH rfl ?_
      refine aN ?_
      refine dJ ?_
      refine aF (aB ?_)
      refine aA (aC (.int _ _) rfl) rfl rfl ?_
      refine aA (bX rfl rfl (by omega) (by omega)) rfl rfl ?_
      refine aA (aD (.int _ _) rfl) rfl rfl ?_
      refine aE ?_
      refine cF (i + 1) (bS rfl eV) (cL rfl (cL rfl iI)) ?_ ?_
      · exact ⟨by omega, M13.keep [true, true, true, false]⟩
      · omega
    · refine cK ?_
      refine dB ?_
      refine cY ?_
      refine eN ?_
      refine aF (aG (aB ?_))
      refine aA (aD (.bool true) rfl) rfl rfl ?_
      refine aE (aF (aR ?_))
      refine cI (.bool true) rfl ?_
      exact ⟨rfl, hM8.below⟩
end Go.Proofs.YtlmcphcgiclanaaGreatDoor

namespace Go.Proofs.YtlmcphcgiclanaaGreatDoor
open Go.Bil
open Go.RowKit (Below)
open Go.Proofs
namespace stepKeepsShapes
open Go.ChangeShapes Go.WideShapes Go.ChangeAt Go.RowKit
open Go.ChangeMaps (open_string shut_string)
theorem own : ownKnob Tryz.prog.godebug = none := by kernel_rfl
theorem laidOut : laidOutB Tryz.prog = true := by kernel_rfl
set_option maxRecDepth 100000 in
theorem lifted (os : Os) (started : os.Started) (H : Type) (enc : TypeId × Value → H) :
    ReturnsInHanded {} Tryz.checked os 4 .any (fun w args => (Rows.stepKeepsShapesSpec.pre enc Tryz.prog Tryz.f4 [] false w args ∧ laidMet Tryz.prog sX w) ∧ sizedMet enc Tryz.prog Tryz.f4 (OpenSpec.ofChange Rows.stepKeepsShapesSpec) false w args) (Rows.stepKeepsShapesSpec.post enc Tryz.prog Tryz.f4 false true false false) := by
  refine returnsInHanded_of_change_and (C := Tryz.checked) (X := fun w _ => laidMet Tryz.prog sX w) (fun _ _ _ hh h => h.of_heap hh) own started (by kernel_rfl) Tryz.func4
    (ChangeSpec.witness_at (enc := enc) (C := Tryz.checked) (os := os) (X := fun w _ => laidMet Tryz.prog sX w) false (aHv os) #[.slice none 0 0, .int .u8 0] 8 rfl (by kernel_rfl) (by kernel_rfl) (by kernel_rfl) (by kernel_rfl) (by kernel_rfl) (laidMet_of_run' 8 (by kernel_rfl) (by kernel_rfl))) ?_
  intro W base args ds gs before hval0 hW hcnd hsz0 hL _
  have hsz : (DataW.weightsEach Tryz.prog (Tryz.f4.params.toList ++ Rows.stepKeepsShapesSpec.plain.varTypes Tryz.prog) (ds ++ gs)).all (· ≤ reachBytes) = true := hsz0
  have hval : ∀ (j : Nat) t v, Tryz.f4.params[j]? = some t → args[j]? = some v → Value.okWide Tryz.prog W .any base t v := hval0
  have hW' := hW
  obtain ⟨p, q, hA0, hV, rfl, hfz, hnd⟩ := hW
  have hA : DataW.TrodAll enc Tryz.prog W 0 (fun _ => true) true Tryz.f4.params.toList args.toList ds p := hA0
  rw [Tryz.params4] at hA hval hsz
  obtain ⟨v0, vs0, d0, ds0, p0, q0, hargs, rfl, rfl, h0, r0⟩ := trodAll_cons hA
  obtain ⟨v1, vs1, d1, ds1, p1, q1, rfl, rfl, rfl, h1, r1⟩ := trodAll_cons r0
  obtain ⟨rfl, rfl, rfl⟩ := trodAll_nil r1
  obtain rfl : args = #[v0, v1] := by cases args; simp_all
  obtain ⟨rfl, rfl⟩ := trodVars_none hV
  have k0 := h0
  have lt0 : ∀ x ∈ p0, x.block < W.heap.size := by obtain ⟨m, hm⟩ := k0; exact DataW.trod_lt m _ _ _ hm
  obtain ⟨a0, len0, cap0, rfl⟩ := okWide_slice Tryz.underlying22 (hval 0 22 v0 rfl rfl)
  have y0 := aCt hsz (j := 0) (t := 22) rfl rfl dD h0
  obtain ⟨ls0, R0, hi0⟩ := aIr dD aMl rfl y0 h0
  obtain ⟨xs0, rfl, hx0⟩ := aFg aTt ls0 hi0
  obtain ⟨a1, rfl, rfl, rfl, w1⟩ := open_int Tryz.underlying5 (hval 1 5 v1 rfl rfl) h1
  have b1 : 0 ≤ a1 ∧ a1 ≤ 255 := aKz w1
  clear hA0 hval0 hsz0 hsz
  obtain ⟨t1, rfl⟩ := Int.eq_ofNat_of_zero_le b1.1
  refine (nQ W (rdF hL) (rdN hL) t1 (by omega) _ _ _ xs0 R0).mono fun e W' ⟨v, he, hv, bel⟩ => ?_
  subst he
  subst hv
  exact ⟨_, rfl, _, _, _, [], _, [], hW', trodAll_mk1 (shut_bool Tryz.underlying4 _), (trodAll_cons_mk (Below.trod laidOut (by kernel_rfl) (of_decide_eq_true (by kernel_rfl)) k0 bel lt0) (trodAll_cons_mk (shut_int Tryz.underlying5 w1) trodAll_mk0)), rfl, bel.frame _, fun h => by cases h⟩
theorem andT {a b : Bool} (ha : a = true) (hb : b = true) : (a && b) = true := by rw [ha, hb]; rfl
set_option maxHeartbeats 16000000 in
theorem closed : joinedFacts Tryz.prog 4 Tryz.f4 Rows.stepKeepsShapesSpec Rows.stepKeepsShapesRow = true := by
  unfold joinedFacts
  repeat' (with_reducible refine andT ?_ ?_)
  all_goals (as_aux_lemma => kernel_rfl)
theorem over : Rows.stepKeepsShapesRow.holds Tryz.pinned (OpenSpec.ofChange Rows.stepKeepsShapesSpec) :=
  OpenClaim.holds_of_wide 4 Tryz.f4 rfl rfl rfl rfl rfl rfl rfl ⟨rfl, rfl, rfl, rfl, rfl⟩ rfl rfl rfl rfl rfl (by kernel_rfl) Tryz.func4 closed
    (of_decide_eq_true (by kernel_rfl)) (by unfold Func.isWrapper; first | (rw [if_pos (by decide +kernel)]; kernel_rfl) | (rw [if_neg (by decide +kernel)]; exact ⟨rfl, rfl⟩))
    (fun os started H enc _ => lifted os started H enc)
end stepKeepsShapes
theorem stepKeepsShapes_holds : Rows.StepKeepsShapesSaid := stepKeepsShapes.over
#print axioms stepKeepsShapes_holds
theorem stepKeepsShapes_card : Rows.StepKeepsShapesCardSaid :=
  Claim7.holds_tied_plain_at .later [] [.data, .data] true (true, "efc75206f113ecd8e5cc872cd0b30c800981909977c6e963415616c654d1aab5") false
    stepKeepsShapes_holds (fun _ h => by cases h) (by kernel_rfl) (fun _ h => by cases h) stepKeepsShapes_row_tie rfl ⟨rfl, rfl⟩ (by kernel_rfl) rfl
    (fun f fn hf hfn => by
      obtain rfl : f = 4 := Option.some.inj ((show Tryz.prog.funcNamed "billiard/billiardlaw20.StepKeepsShapes" = some 4 by kernel_rfl).symm.trans hf) |>.symm
      obtain rfl : fn = Tryz.f4 := (Option.some.inj (Tryz.func4.symm.trans hfn)).symm
      exact ⟨by kernel_rfl, fun j t ht => by
        rw [Tryz.params4] at ht
        have hm : t ∈ [22, 5] := by simpa using Array.mem_of_getElem? ht
        have hall : ([22, 5].all fun u => !Tryz.prog.wantsStandIn u) = true := by kernel_rfl
        exact (show Tryz.prog.wantsStandIn t = false by simpa using List.all_eq_true.1 hall t hm)⟩)
    (by kernel_rfl)
#print axioms stepKeepsShapes_card
end Go.Proofs.YtlmcphcgiclanaaGreatDoor
