import Derived.Test.YtlmcphcgiclanaaGreatDoorK5
import Derived.Test.YtlmcphcgiclanaaGreatDoorK35
import Derived.Test.YtlmcphcgiclanaaGreatDoorRows
import Derived.Test.YtlmcphcgiclanaaGreatDoorK36
import Derived.Test.YtlmcphcgiclanaaGreatDoorTie
import Derived.Test.YtlmcphcgiclanaaGreatDoorCards
import Derived.WalkKit
import Derived.ProofKit
import Derived.OpenShut
import Derived.ShutString
import Derived.ChangeOld
import Derived.Below
import Derived.SizedLaws
set_option linter.unusedVariables false
set_option linter.unusedSimpArgs false
set_option linter.unnecessarySimpa false
namespace Go.Proofs.YtlmcphcgiclanaaGreatDoor
open Go.Bil
open Go.RowKit (Below)
open Go.Proofs
set_option maxHeartbeats 32000000 in
theorem xT (w : World) (F : Rd w 2 (some ⟨0, 0, none⟩) 1 [[.int .u32 73856093, .int .u32 19349663]]) (N : Rd w 4 (some ⟨3, 0, none⟩) 1 [dI jA]) (A : Option Addr) (n c : Nat) (xs : List Body) (R : Rd w 10 A n (xs.map aI)) (hin : ∀ b ∈ xs, InB b) :
    Calls Tryz.prog 12 #[.slice A n c] w (fun ex w' => ∃ v, ex = .returned v ∧ (fun v w' => v = .bool true ∧ Below w.heap.size w w') v w') := by
  have hlen : xs.length = n := by simpa using R.len
  have hbd := R.bound
  refine aJ #[.tmp 2] 66 Tryz.func12 rfl Tryz.results12 Tryz.ntmps12 rfl ?_
  have M0 := Mem.refl w
  refine aG (aB ?_)
  refine aA (aE (.bool false) rfl) rfl rfl ?_
  refine aC (aF (aG (aG (aB ?_))))
  refine aK aXr rfl rfl rfl ?_
  refine (bDj _ (F.mem M0) (N.mem M0)).mono ?_
  rintro _ w1 ⟨v1, rfl, ⟨rfl, hb1⟩⟩
  refine ⟨_, rfl, ?_⟩
  have M1 := M0.callB hb1
  refine aA (iZ false rfl rfl) rfl rfl ?_
  refine aA (aD (.bool false) rfl) rfl rfl ?_
  refine aA (aD (.slice _ _ _) rfl) rfl rfl ?_
  refine aA (cT Tryz.underlying22 rfl) rfl rfl ?_
  refine aA (aP (.bool (decide _)) rfl rfl rfl) rfl rfl ?_
  refine aA (bN false (.bool (decide _)) rfl rfl) rfl rfl ?_
  refine aC (aF ?_)
  refine aZ rfl (fun h17 => ?_) (fun h17 => ?_)
  · refine aG (aB ?_)
    refine aK aXr rfl rfl rfl ?_
    refine (bDj _ (F.mem M1) (N.mem M1)).mono ?_
    rintro _ w2 ⟨v2, rfl, ⟨rfl, hb2⟩⟩
    refine ⟨_, rfl, ?_⟩
    have M2 := M1.callB hb2
    refine aA (aE (.bool true) rfl) rfl rfl ?_
    refine aC (aF (aR (cC ?_)))
    refine bY (.bool true) rfl ?_
    exact ⟨rfl, M2.below⟩
  · refine aN (aF (aG (aB ?_)))
    refine aW aGz M1 rfl rfl (fun b3 w3 M3 => ?_)
    have M4 := (M3.dummy default).dummy default
    refine aC (aF (aG (aG (aB ?_))))
    refine aA (aE (.int _ _) rfl) rfl rfl ?_
    refine aC (aF (aV ?_))
    refine dK (σ := Nat × StV) [0, 2, 3] (fun (j, r) => [(4, .int .i64 (j : Int))]) (fun (j, r) w' => (j ≤ n ∧ eF 40 r (uL (xs.take j))) ∧ Mem w [] [(some b3, bc [.slice r.A r.n r.c, .map r.p] 56), r.er, r.em] w') (fun (j, r) => n - j) (0, ⟨none, 0, 0, none, (none, default), (none, default)⟩) (bK rfl eO) (⟨⟨by omega, (eF.new 40 default default)⟩, M4⟩) ?_
    rintro ⟨j, r⟩ ρ5 w5 ⟨⟨hj, hr⟩, hM5⟩
    refine aG (aG (aB ?_))
    refine aA (aD (.int _ _) rfl) rfl rfl ?_
    refine aA (aD (.slice _ _ _) rfl) rfl rfl ?_
    refine aA (cT Tryz.underlying22 rfl) rfl rfl ?_
    refine aA (aP (.bool (decide _)) rfl rfl rfl) rfl rfl ?_
    refine aC (aF ?_)
    refine aZ rfl (fun h22 => ?_) (fun h22 => ?_)
    · obtain ⟨xb, hxb⟩ := cL (xs := xs) (k := j) hlen (by omega)
      refine aN (aF (aG (aV (aB ?_))))
      refine aA (aD (.slice _ _ _) rfl) rfl rfl ?_
      refine aA (aD (.int _ _) rfl) rfl rfl ?_
      refine aA (bU (j) dO rfl rfl rfl ((R.mem hM5).below_len (aL aI hxb)) ((R.mem hM5).someK (aL aI hxb))) rfl rfl ?_
      refine aA (dS _ bO (R.mem hM5) (aL aI hxb) rfl) rfl rfl ?_
      refine aK aKj rfl rfl rfl ?_
      refine (tA _ _ r _ hr (hM5.ownSeg 0 3) xb (hin xb (List.mem_of_getElem? hxb))).mono ?_
      rintro _ w6 ⟨v6, rfl, ⟨r2, rfl, hr2, hM6⟩⟩
      refine ⟨_, rfl, ?_⟩
      have M6 : Mem _ _ [_, _, _] _ := hM5.seg 0 3 hM6
      refine aC ?_
      refine dB ?_
      refine aF (aB ?_)
      refine aA (aD (.int _ _) rfl) rfl rfl ?_
      refine aA (bM rfl rfl (by omega) (by omega)) rfl rfl ?_
      refine aA (aE (.int _ _) rfl) rfl rfl ?_
      refine aC ?_
      refine cO (j + 1, r2) (bK rfl eO) (cS rfl (cS rfl (cS rfl jB))) ?_ ?_
      · exact ⟨⟨by omega, by rw [aAx hxb]; exact hr2⟩, M6⟩
      · (show n - (j + 1) < n - j; omega)
    · have hjn : j = n := by omega
      rw [hjn, List.take_of_length_le (by omega)] at hr
      have hal := aFb xs
      have hgv := hr.1
      refine cP ?_
      refine dA ?_
      refine cZ ?_
      refine eQ ?_
      refine aF (aG (aB ?_))
      refine aA (aD (.slice _ _ _) rfl) rfl rfl ?_
      refine aK bCq rfl rfl rfl ?_
      refine (aLp _ _ _ _ xs (R.mem hM5) (by omega)).mono ?_
      rintro _ w7 ⟨v7, rfl, ⟨Aa, na, ca, ea, rfl, hRa, hM7⟩⟩
      refine ⟨_, rfl, ?_⟩
      have M7 : Mem _ _ [_, _, _, _] _ := hM5.call0 hM7
      refine aA (aE (.slice _ _ _) rfl) rfl rfl ?_
      refine aC (aF (aG (aB ?_)))
      refine aK wV rfl rfl rfl ?_
      refine (jG _ _ r _ hr (M7.ownSeg 0 3)).mono ?_
      rintro _ w8 ⟨v8, rfl, ⟨q, rfl, hq, hM8⟩⟩
      refine ⟨_, rfl, ?_⟩
      have M8 : Mem _ _ [_, _, _, _, _] _ := M7.seg 0 3 hM8
      have hqn : (uL xs).length = q.n := by simpa using hq.1
      refine aA (aE (.slice _ _ _) rfl) rfl rfl ?_
      refine aC (aF (aG (aG (aB ?_))))
      refine aA (aE (.int _ _) rfl) rfl rfl ?_
      refine aC (aF (aV ?_))
      refine dK (σ := Nat × List (List Value) × dP) [2, 3, 5, 6] (fun (j, ls, e) => [(7, .int .i64 (j : Int))]) (fun (j, ls, e) w' => (j ≤ q.n ∧ bA 40 10 q.A q.n q.c ls e) ∧ Mem w [] [(some b3, bc [.slice r.A r.n r.c, .map r.p] 56), r.er, r.em, ea, e] w') (fun (j, ls, e) => q.n - j) (0, (uL xs).map aI, q.e) (bK rfl eO) (⟨⟨by omega, hq⟩, M8⟩) ?_
      rintro ⟨j, ls, e⟩ ρ9 w9 ⟨⟨hj2, hrow⟩, hM9⟩
      refine aG (aG (aB ?_))
      refine aA (aD (.int _ _) rfl) rfl rfl ?_
      refine aA (aD (.slice _ _ _) rfl) rfl rfl ?_
      refine aA (cT Tryz.underlying22 rfl) rfl rfl ?_
      refine aA (aP (.bool (decide _)) rfl rfl rfl) rfl rfl ?_
      refine aC (aF ?_)
      refine aZ rfl (fun h36 => ?_) (fun h36 => ?_)
      · obtain ⟨l8, hl8⟩ := cL (xs := ls) (k := j) hrow.1 (by omega)
        refine aN (aF (aG (aV (aB ?_))))
        refine aA (aD (.slice _ _ _) rfl) rfl rfl ?_
        refine aA (aD (.int _ _) rfl) rfl rfl ?_
        refine aA (bU (j) dO rfl rfl rfl ((hrow.rd hM9 (bB (i := 4) rfl)).below_len (hl8)) ((hrow.rd hM9 (bB (i := 4) rfl)).someK (hl8))) rfl rfl ?_
        refine aA (bP 1 jM (hrow.rd hM9 (bB (i := 4) rfl)) (Nat.lt_of_le_of_lt (Nat.zero_le _) ((hrow.rd hM9 (bB (i := 4) rfl)).below_len (hl8))) rfl) rfl rfl ?_
        refine vF (o := 1) 4 (.int _ _) aX hM9 rfl hrow (hl8) rfl rfl rfl rfl rfl (fun e10 w10 hR10 M10 => ?_)
        refine aC ?_
        refine dB ?_
        refine aF (aB ?_)
        refine aA (aD (.int _ _) rfl) rfl rfl ?_
        refine aA (bM rfl rfl (by omega) (by omega)) rfl rfl ?_
        refine aA (aE (.int _ _) rfl) rfl rfl ?_
        refine aC ?_
        refine cO (j + 1, ls.set j (l8.set 1 (.int .i32 (-1))), e10) (bK rfl eO) (cS rfl (cS rfl (cS rfl (cS rfl jB)))) ?_ ?_
        · exact ⟨⟨by omega, hR10⟩, M10⟩
        · (show q.n - (j + 1) < q.n - j; omega)
      · refine cP ?_
        refine dA ?_
        refine cZ ?_
        refine eQ ?_
        refine aF (aG (aB ?_))
        refine aK aXl rfl rfl rfl ?_
        refine (oR _ _ r _ hr (hM9.ownSeg 0 3)).mono ?_
        rintro _ w11 ⟨v11, rfl, ⟨pb, rfl, hpb, hM11⟩⟩
        refine ⟨_, rfl, ?_⟩
        have M11 : Mem _ _ [_, _, _, _, _, _] _ := hM9.seg 0 3 hM11
        have hpn : (kR (uL xs)).length = pb.n := by simpa using hpb.1
        rw [yK] at hpn
        refine aA (aE (.slice _ _ _) rfl) rfl rfl ?_
        refine aC (aF (aG (aB ?_)))
        refine aW aGz M11 rfl rfl (fun b12 w12 M12 => ?_)
        have M13 := (M12.dummy default).dummy default
        refine aC (aF (aG (aB ?_)))
        refine aA (aD (.slice _ _ _) rfl) rfl rfl ?_
        refine aK aYj rfl rfl rfl ?_
        refine (pW _ _ ⟨none, 0, 0, none, (none, default), (none, default)⟩ _ (eF.new 40 default default) (M13.ownSeg 6 3) _ _ _ (kR (uL xs)) (hpb.rd M13 (bB (i := 5) rfl)) (aOr _) hpb.slice (by omega) (hpb.awayS M13 6 3 5 rfl rfl)).mono ?_
        rintro _ w14 ⟨v14, rfl, ⟨r3, rfl, hr3, hM14⟩⟩
        refine ⟨_, rfl, ?_⟩
        have M14 : Mem _ _ [_, _, _, _, _, _, _, _, _] _ := M13.seg 6 3 hM14
        rw [aOk hgv] at hr3
        refine aC (aF (aG (aG (aB ?_))))
        refine aA (aE (.int _ _) rfl) rfl rfl ?_
        refine aC (aF (aV ?_))
        refine dK (σ := Nat × List Int × dP) [2, 3, 5, 8, 9] (fun (j, bs, e5) => [(10, .int .i64 (j : Int))]) (fun (j, bs, e5) w' => (j ≤ pb.n ∧ bA 5 1 pb.A pb.n pb.c (bs.map cD) e5) ∧ Mem w [] [(some b3, bc [.slice r.A r.n r.c, .map r.p] 56), r.er, r.em, ea, e, e5, (some b12, bc [.slice r3.A r3.n r3.c, .map r3.p] 56), r3.er, r3.em] w') (fun (j, bs, e5) => pb.n - j) (0, kR (uL xs), pb.e) (bK rfl eO) (⟨⟨by omega, hpb⟩, M14⟩) ?_
        rintro ⟨j, bs, e5⟩ ρ15 w15 ⟨⟨hj3, hrb⟩, hM15⟩
        refine aG (aG (aB ?_))
        refine aA (aD (.int _ _) rfl) rfl rfl ?_
        refine aA (aD (.slice _ _ _) rfl) rfl rfl ?_
        refine aA (cT Tryz.underlying57 rfl) rfl rfl ?_
        refine aA (aP (.bool (decide _)) rfl rfl rfl) rfl rfl ?_
        refine aC (aF ?_)
        refine aZ rfl (fun h49 => ?_) (fun h49 => ?_)
        · have hbl : bs.length = pb.n := by simpa using hrb.1
          obtain ⟨xi, hxi⟩ := cL (xs := bs) (k := j) hbl (by omega)
          refine aN (aF (aG (aV (aB ?_))))
          refine aA (aD (.slice _ _ _) rfl) rfl rfl ?_
          refine aA (aD (.int _ _) rfl) rfl rfl ?_
          refine aA (bU (j) lN rfl rfl rfl ((hrb.rd hM15 (bB (i := 5) rfl)).below_len (aL cD hxi)) ((hrb.rd hM15 (bB (i := 5) rfl)).someK (aL cD hxi))) rfl rfl ?_
          refine aA (iB (.int _ _) aLi (hrb.rd hM15 (bB (i := 5) rfl)) (aL cD hxi) rfl) rfl rfl ?_
          refine aA (aP (.int _ _) rfl rfl rfl) rfl rfl ?_
          refine aM 56 (.int .u8 (IntKind.wrap .u8 (xi + 1))) rfl ?_
          refine aA (bU (j) lN rfl rfl rfl ((hrb.rd hM15 (bB (i := 5) rfl)).below_len (aL cD hxi)) ((hrb.rd hM15 (bB (i := 5) rfl)).someK (aL cD hxi))) rfl rfl ?_
          refine qX 5 (.int _ _) aLi hM15 rfl hrb (aL cD hxi) rfl rfl rfl rfl (fun e16 w16 hR16 M16 => ?_)
          have hQ16 := hR16.mapSet (f := cD) rfl
          refine aC ?_
          refine dB ?_
          refine aF (aB ?_)
          refine aA (aD (.int _ _) rfl) rfl rfl ?_
          refine aA (bM rfl rfl (by omega) (by omega)) rfl rfl ?_
          refine aA (aE (.int _ _) rfl) rfl rfl ?_
          refine aC ?_
          refine cO (j + 1, bs.set j (IntKind.wrap .u8 (xi + 1)), e16) (bK rfl eO) (cS rfl (cS rfl (cS rfl (cS rfl (cS rfl jB))))) ?_ ?_
          · exact ⟨⟨by omega, hQ16⟩, M16⟩
          · (show pb.n - (j + 1) < pb.n - j; omega)
        · refine cP ?_
          refine dA ?_
          refine cZ ?_
          refine eQ ?_
          refine aF (aG (aB ?_))
          refine aK wV rfl rfl rfl ?_
          refine (jG _ _ r _ hr (hM15.ownSeg 0 3)).mono ?_
          rintro _ w17 ⟨v17, rfl, ⟨qv, rfl, hqv, hM17⟩⟩
          refine ⟨_, rfl, ?_⟩
          have M17 : Mem _ _ [_, _, _, _, _, _, _, _, _, _] _ := hM15.seg 0 3 hM17
          refine aA (aD (.slice _ _ _) rfl) rfl rfl ?_
          refine aK aXs rfl rfl rfl ?_
          refine (vP _ _ _ _ _ (hqv.rd M17 (bB (i := 9) rfl)) _ _ _ _ (hRa.rd M17 (bB (i := 3) rfl))).mono ?_
          rintro _ w18 ⟨v18, rfl, ⟨rfl, hb18⟩⟩
          refine ⟨_, rfl, ?_⟩
          have M18 := M17.callB hb18
          refine aM 60 (.bool true) (bT rfl).symm ?_
          refine aA (aD (.bool true) rfl) rfl rfl ?_
          refine aK wV rfl rfl rfl ?_
          refine (jG _ _ r3 _ hr3 (M18.ownSeg 6 3)).mono ?_
          rintro _ w19 ⟨v19, rfl, ⟨qx, rfl, hqx, hM19⟩⟩
          refine ⟨_, rfl, ?_⟩
          have M19 : Mem _ _ [_, _, _, _, _, _, _, _, _, _, _] _ := M18.seg 6 3 hM19
          refine aA (aD (.slice _ _ _) rfl) rfl rfl ?_
          refine aK aXs rfl rfl rfl ?_
          refine (vP _ _ _ _ _ (hqx.rd M19 (bB (i := 10) rfl)) _ _ _ _ (hRa.rd M19 (bB (i := 3) rfl))).mono ?_
          rintro _ w20 ⟨v20, rfl, ⟨rfl, hb20⟩⟩
          refine ⟨_, rfl, ?_⟩
          have M20 := M19.callB hb20
          refine aM 64 (.bool true) (bT rfl).symm ?_
          refine aA (bN true (.bool true) rfl rfl) rfl rfl ?_
          refine aA (aE (.bool true) rfl) rfl rfl ?_
          refine aC (aF (aR ?_))
          refine bY (.bool true) rfl ?_
          exact ⟨rfl, M20.below⟩
end Go.Proofs.YtlmcphcgiclanaaGreatDoor

namespace Go.Proofs.YtlmcphcgiclanaaGreatDoor
open Go.Bil
open Go.RowKit (Below)
open Go.Proofs
namespace worldKeeps
open Go.ChangeShapes Go.WideShapes Go.ChangeAt Go.RowKit
open Go.ChangeMaps (open_string shut_string)
theorem own : ownKnob Tryz.prog.godebug = none := by kernel_rfl
theorem laidOut : laidOutB Tryz.prog = true := by kernel_rfl
set_option maxRecDepth 100000 in
theorem lifted (os : Os) (started : os.Started) (H : Type) (enc : TypeId × Value → H) :
    ReturnsInHanded {} Tryz.checked os 12 .any (fun w args => (Rows.worldKeepsSpec.pre enc Tryz.prog Tryz.f12 [] false w args ∧ laidMet Tryz.prog xJ w) ∧ sizedMet enc Tryz.prog Tryz.f12 (OpenSpec.ofChange Rows.worldKeepsSpec) false w args) (Rows.worldKeepsSpec.post enc Tryz.prog Tryz.f12 false true false false) := by
  refine returnsInHanded_of_change_and (C := Tryz.checked) (X := fun w _ => laidMet Tryz.prog xJ w) (fun _ _ _ hh h => h.of_heap hh) own started (by kernel_rfl) Tryz.func12
    (ChangeSpec.witness_at (enc := enc) (C := Tryz.checked) (os := os) (X := fun w _ => laidMet Tryz.prog xJ w) false (aOl os) #[.slice none 0 0] 8 rfl (by kernel_rfl) (by kernel_rfl) (by kernel_rfl) (by kernel_rfl) (by kernel_rfl) (laidMet_of_run' 8 (by kernel_rfl) (by kernel_rfl))) ?_
  intro W base args ds gs before hval0 hW hcnd hsz0 hL _
  have hsz : (DataW.weightsEach Tryz.prog (Tryz.f12.params.toList ++ Rows.worldKeepsSpec.plain.varTypes Tryz.prog) (ds ++ gs)).all (· ≤ reachBytes) = true := hsz0
  have hval : ∀ (j : Nat) t v, Tryz.f12.params[j]? = some t → args[j]? = some v → Value.okWide Tryz.prog W .any base t v := hval0
  have hW' := hW
  obtain ⟨p, q, hA0, hV, rfl, hfz, hnd⟩ := hW
  have hA : DataW.TrodAll enc Tryz.prog W 0 (fun _ => true) true Tryz.f12.params.toList args.toList ds p := hA0
  rw [Tryz.params12] at hA hval hsz
  obtain ⟨v0, vs0, d0, ds0, p0, q0, hargs, rfl, rfl, h0, r0⟩ := trodAll_cons hA
  obtain ⟨rfl, rfl, rfl⟩ := trodAll_nil r0
  obtain rfl : args = #[v0] := by cases args; simp_all
  obtain ⟨rfl, rfl⟩ := trodVars_none hV
  have k0 := h0
  have lt0 : ∀ x ∈ p0, x.block < W.heap.size := by obtain ⟨m, hm⟩ := k0; exact DataW.trod_lt m _ _ _ hm
  obtain ⟨a0, len0, cap0, rfl⟩ := okWide_slice Tryz.underlying22 (hval 0 22 v0 rfl rfl)
  have y0 := aJe hsz (j := 0) (t := 22) rfl rfl dO h0
  obtain ⟨ls0, R0, hi0⟩ := aMp dO aQl rfl y0 h0
  obtain ⟨xs0, rfl, hx0⟩ := aKl aYv ls0 hi0
  clear hA0 hval0 hsz0 hsz
  refine (xT W (rdF hL) (rdN hL) _ _ _ xs0 R0 hx0).mono fun e W' ⟨v, he, hv, bel⟩ => ?_
  subst he
  subst hv
  exact ⟨_, rfl, _, _, _, [], _, [], hW', trodAll_mk1 (shut_bool Tryz.underlying4 _), (trodAll_cons_mk (Below.trod laidOut (by kernel_rfl) (of_decide_eq_true (by kernel_rfl)) k0 bel lt0) trodAll_mk0), rfl, bel.frame _, fun h => by cases h⟩
theorem andT {a b : Bool} (ha : a = true) (hb : b = true) : (a && b) = true := by rw [ha, hb]; rfl
set_option maxHeartbeats 16000000 in
theorem closed : joinedFacts Tryz.prog 12 Tryz.f12 Rows.worldKeepsSpec Rows.worldKeepsRow = true := by
  unfold joinedFacts
  repeat' (with_reducible refine andT ?_ ?_)
  all_goals (as_aux_lemma => kernel_rfl)
theorem over : Rows.worldKeepsRow.holds Tryz.pinned (OpenSpec.ofChange Rows.worldKeepsSpec) :=
  OpenClaim.holds_of_wide 12 Tryz.f12 rfl rfl rfl rfl rfl rfl rfl ⟨rfl, rfl, rfl, rfl, rfl⟩ rfl rfl rfl rfl rfl (by kernel_rfl) Tryz.func12 closed
    (of_decide_eq_true (by kernel_rfl)) (by unfold Func.isWrapper; first | (rw [if_pos (by decide +kernel)]; kernel_rfl) | (rw [if_neg (by decide +kernel)]; exact ⟨rfl, rfl⟩))
    (fun os started H enc _ => lifted os started H enc)
end worldKeeps
theorem worldKeeps_holds : Rows.WorldKeepsSaid := worldKeeps.over
#print axioms worldKeeps_holds
theorem worldKeeps_card : Rows.WorldKeepsCardSaid :=
  Claim7.holds_tied_plain_at .later [] [.data, .data] true (true, "efc75206f113ecd8e5cc872cd0b30c800981909977c6e963415616c654d1aab5") false
    worldKeeps_holds (fun _ h => by cases h) (by kernel_rfl) (fun _ h => by cases h) worldKeeps_row_tie rfl ⟨rfl, rfl⟩ (by kernel_rfl) rfl
    (fun f fn hf hfn => by
      obtain rfl : f = 12 := Option.some.inj ((show Tryz.prog.funcNamed "billiard/billiardlaw22.WorldKeeps" = some 12 by kernel_rfl).symm.trans hf) |>.symm
      obtain rfl : fn = Tryz.f12 := (Option.some.inj (Tryz.func12.symm.trans hfn)).symm
      exact ⟨by kernel_rfl, fun j t ht => by
        rw [Tryz.params12] at ht
        have hm : t ∈ [22] := by simpa using Array.mem_of_getElem? ht
        have hall : ([22].all fun u => !Tryz.prog.wantsStandIn u) = true := by kernel_rfl
        exact (show Tryz.prog.wantsStandIn t = false by simpa using List.all_eq_true.1 hall t hm)⟩)
    (by kernel_rfl)
#print axioms worldKeeps_card
end Go.Proofs.YtlmcphcgiclanaaGreatDoor
