import Derived.Test.YtaoaknafiegfoaaGreatDoorK2
import Derived.Test.YtaoaknafiegfoaaGreatDoorK5
import Derived.Test.YtaoaknafiegfoaaGreatDoorK36
import Derived.Test.YtaoaknafiegfoaaGreatDoorRows
import Derived.Test.YtaoaknafiegfoaaGreatDoorK37
import Derived.Test.YtaoaknafiegfoaaGreatDoorTie
import Derived.Test.YtaoaknafiegfoaaGreatDoorCards
import Derived.WalkKit
import Derived.ProofKit
import Derived.OpenShut
import Derived.ShutString
import Derived.ChangeOld
import Derived.Below
import Derived.SizedLaws
set_option linter.unusedVariables false
set_option linter.unusedSimpArgs false
set_option linter.unnecessarySimpa false
namespace Go.Proofs.YtaoaknafiegfoaaGreatDoor
open Go.Bil
open Go.RowKit (Below)
open Go.Proofs
set_option maxHeartbeats 64000000 in
theorem vS (w : World) (F : Rd w 2 (some ⟨0, 0, none⟩) 1 [[.int .u32 73856093, .int .u32 19349663]]) (N : Rd w 4 (some ⟨3, 0, none⟩) 1 [eK jX]) (A : Option Addr) (n c : Nat) (l : List OpRow) (hl : OpsRd w A n l) :
  Calls Tryz.prog 6 #[.slice A n c] w (fun ex w' => ∃ v, ex = .returned v ∧ (fun v w' => v = .bool true ∧ Below w.heap.size w w') v w') := by
 have hlen : l.length = n := by simpa using hl.rd.len
 have hbd := hl.rd.bound
 refine aH #[.tmp 2] 59 Tryz.func6 rfl Tryz.results6 Tryz.ntmps6 rfl ?_
 have M0 := Mem.refl w
 refine aE (aA (wq (aJ (.bool false) rfl) rfl (aB (aC (aE (aE (aA (bY bIl rfl rfl (bPq _ (F.mem M0) (N.mem M0)) ?_))))))))
 rintro v1 w1 ⟨rfl, hb1⟩
 have M1 := M0.callB hb1
 refine wq (gU false rfl rfl) rfl (wq (aI (.bool false) rfl) rfl (dI rfl rfl (bY bPa rfl rfl (aVp _ A n c l (hl.mem M1)) ?_)))
 rintro v2 w2 ⟨⟨g, rfl, hg⟩, hb2⟩
 have M2 := M1.callB hb2
 refine wq (gU _ rfl rfl) rfl (wq (bR false (.bool _) rfl rfl) rfl (aB (aC ?_)))
 refine iD _ rfl (fun h14 => ?_) (fun h14 => ?_)
 ·refine aE (aA (bY bIl rfl rfl (bPq _ (F.mem M2) (N.mem M2)) ?_))
  rintro v3 w3 ⟨rfl, hb3⟩
  have M3 := M2.callB hb3
  refine wq (aJ (.bool true) rfl) rfl (aB (aC (aO (cM (cD (.bool true) rfl ?_)))))
  exact ⟨rfl, M3.below⟩
 ·obtain ⟨hn40, hby⟩ := hg (by simpa using h14)
  have hby2 : ∀ x ∈ l, x.n ≤ 1000000 := fun x hx => Nat.le_trans (hby x hx) (by decide)
  have hn2 : n ≤ 1000000 := by omega
  refine aL (aC (aE (aA (bY bDm rfl rfl (rW _ (F.mem M2) (N.mem M2) none 0 0 [] (OpsRd.none _) (by simp) (by decide)) ?_))))
  rintro v4 w4 ⟨wb, r0, rfl, hr0, hM4⟩
  have M4 : Mem _ _ [_, _, _] _ := M2.call0 hM4
  have hr0 : dF 39 r0 [] := hr0
  refine wq (aJ (.pointer _) rfl) rfl (aB (aC (aE (aA (wq (aI (.pointer _) rfl) rfl (dI rfl rfl (bY bJf rfl rfl (aGy _ A n c l (hl.mem M4) hn2) ?_)))))))
  rintro v5 w5 ⟨q1, rfl, hq1, hM5⟩
  have M5 : Mem _ _ [_, _, _, _] _ := M4.call0 hM5
  have hq1n : (l).length = q1.n := by simpa using hq1.1
  refine bY bEg rfl rfl (vZ _ (F.mem M5) (N.mem M5) _ r0 _ hr0 (M5.ownSeg 0 3) (M5.away 0 3 F (by simp)) (M5.away 0 3 N (by simp)) q1.A q1.n q1.c l ⟨(hq1.rd M5 (bB (i := 3) rfl)), fun x hx => (hl.each x hx).mem M5⟩ hby2 (by omega) (hq1.awayS M5 0 3 3 rfl rfl) (fun x hx => M5.away 0 3 (hl.each x hx).rd (by simp))) ?_
  rintro v6 w6 ⟨r2, q2, rs, rfl, hr2, hq2, hoR, hM6⟩
  have M6 : Mem _ _ ([_, _, _, _, _] ++ _) _ := M5.seg 0 3 hM6
  have hq2n : (lB [] (jM (l))).length = q2.n := by have h : (nK _ rs).length = q2.n := hq2.1; rwa [tU hoR.len] at h
  rw [qW, oQ] at hq2n
  refine eJ rfl rfl (aB (aC (aE (aA (dI rfl rfl (bY bQv rfl rfl (aRj _ A n c l (hl.mem M6) hby2 hn2) ?_))))))
  rintro v7 w7 ⟨v1, o1, rs1, rfl, hv1, ho1, hoR1, hM7⟩
  have M7 : Mem _ _ ([_, _, _, _, _, _, _] ++ _) _ := Mem.front (L := [_, _, _, _, _]) (Mem.call0U (L := [_, _, _, _, _]) (A := [_, _]) M6 hM7)
  have ho1n : (lB [] (jM (l))).length = o1.n := by have h : (nK _ rs1).length = o1.n := ho1.1; rwa [tU hoR1.len] at h
  rw [qW, oQ] at ho1n
  refine wq (aI (.tuple (List.toArray _)) rfl) rfl (wq (bN (.slice _ _ _) rfl rfl) rfl (wq (bN (.slice _ _ _) rfl rfl) rfl (eJ rfl rfl (eJ rfl rfl (aB (aC (aE (aE (aA ?_)))))))))
  refine dI rfl rfl (wq (cZ Tryz.underlying63 rfl) rfl (dI rfl rfl (wq (cZ Tryz.underlying65 rfl) rfl (cY rfl rfl rfl rfl (pA 30 rfl (by omega) ?_)))))
  refine aB (aC (cJ rfl (aL (aC (aE (aE (aA (bH rfl rfl (aB (aC (aQ (dQ (σ := Nat) [0, 3, 4, 5, 6] (fun i => [(7, .int .i64 (i : Int))]) (fun i w' => i ≤ n ∧ Mem w [] ([(some wb, bc [.slice r2.A r2.n r2.c, .map r2.p] 107), r2.er, r2.em, q1.e, q2.e, v1.e, o1.e] ++ (rs.map Row.e ++ rs1.map Row.e)) w') (fun i => n - i) 0 (bA rfl dY) (⟨by omega, M7⟩) ?_))))))))))))
  rintro i ρ8 w8 ⟨hi, hM8⟩
  refine aE (aE (aA (aP rfl rfl (dI rfl rfl (wq (cZ Tryz.underlying63 rfl) rfl (cY rfl rfl rfl rfl (aB (aC ?_))))))))
  refine aV rfl (fun h34 => ?_) (fun h34 => ?_)
  ·obtain ⟨z, hz⟩ := cS (xs := lB [] (jM l)) (k := i) (aXw _ _) (by omega)
   obtain ⟨pa, hpa1, hpa2⟩ := rI (j := i) hoR.len hz
   obtain ⟨pb, hpb1, hpb2⟩ := rI (j := i) hoR1.len hz
   refine aL (aC (aE (aQ (aE (bQ [(0, 0), (1, 0), (2, 1), (3, 1), (4, 0), (5, 0), (6, 1), (7, 1), (8, 2), (9, 0)] mixed rfl (by kernel_rfl) (fun w9 hb9 hh9 => ?_))))))
   have M9 := hM8.drew hb9 hh9
   refine kV rfl rfl rfl (eD rfl rfl rfl (bS rfl rfl rfl (bP (i) aKm rfl rfl rfl ((hq2.rd M9 (bB (i := 4) rfl)).below_len (hpa2)) ((hq2.rd M9 (bB (i := 4) rfl)).someK (hpa2))) (bS rfl rfl rfl (dL _ jC (hq2.rd M9 (bB (i := 4) rfl)) (hpa2) rfl) (dW 40 (.agg (eH z pa).toArray) rfl ?_))))
   refine kV rfl rfl rfl (eD rfl rfl rfl (bS rfl rfl rfl (bP (i) bLn rfl rfl rfl ((ho1.rd M9 (bB (i := 6) rfl)).below_len (hpb2)) ((ho1.rd M9 (bB (i := 6) rfl)).someK (hpb2))) (bS rfl rfl rfl (dL _ vP (ho1.rd M9 (bB (i := 6) rfl)) (hpb2) rfl) (dW 44 (.agg (eH z pb).toArray) rfl ?_))))
   refine dU [true, true, true, true] rfl (by kernel_rfl) (bY bIx rfl rfl (aDc _ z pa pb (hoR.rd M9 (bGp (bRt bOi)) hpa1 hz) (hoR1.rd M9 (bGp (bGp bOi)) hpb1 hz)) ?_)
   rintro v10 w10 ⟨rfl, hb10⟩
   have M10 := M9.callB hb10
   refine aB (aC ⟨dT, ?_⟩)
   refine aW rfl rfl rfl (fun _ => gU false rfl rfl) (bX (aC (cJ rfl (aL (cU ?_)))))
   refine aC (aA (aP rfl rfl (wq (aY rfl rfl (by omega) (by omega)) rfl (bH rfl rfl (aB ?_)))))
   refine cE (i + 1) (bA rfl dY) (cN rfl (cN rfl (cN rfl (cN rfl (cN rfl gT))))) ?_ ?_
   ·exact ⟨by omega, M10⟩
   ·omega
  ·refine cV (dC (dK (eN (aC (aE (aA (wq (aI (.pointer _) rfl) rfl ?_)))))))
   refine bY aUi rfl rfl (rU _ _ r2 _ hr2 (hM8.ownSeg 0 3)) ?_
   rintro v11 w11 ⟨qv, rfl, hqv, hM11⟩
   have M11 : Mem _ _ ([_, _, _, _, _, _, _, _] ++ _) _ := Mem.front (L := [_, _, _, _, _, _, _]) (hM8.seg 0 3 hM11)
   refine dI rfl rfl (bY bJr rfl rfl (aEc _ _ _ _ _ (hqv.rd M11 (bB (i := 7) rfl)) _ _ _ _ (hv1.rd M11 (bB (i := 5) rfl))) ?_)
   rintro v12 w12 ⟨rfl, hb12⟩
   have M12 := M11.callB hb12
   refine kB 50 rfl rfl (wq (aI (.bool true) rfl) rfl (dI rfl rfl (bY bJf rfl rfl (aGy _ A n c l (hl.mem M12) hn2) ?_)))
   rintro v13 w13 ⟨q3, rfl, hq3, hM13⟩
   have M13 : Mem _ _ ([_, _, _, _, _, _, _, _, _] ++ _) _ := Mem.front (L := [_, _, _, _, _, _, _, _]) (M12.call0 hM13)
   have hq3n : (l).length = q3.n := by simpa using hq3.1
   refine bY bDm rfl rfl (rW _ (F.mem M13) (N.mem M13) q3.A q3.n q3.c l ⟨(hq3.rd M13 (bB (i := 8) rfl)), fun x hx => (hl.each x hx).mem M13⟩ hby2 (by omega)) ?_
   rintro v14 w14 ⟨wb2, r3, rfl, hr3, hM14⟩
   have M14 : Mem _ _ ([_, _, _, _, _, _, _, _, _, _, _, _] ++ _) _ := Mem.front (L := [_, _, _, _, _, _, _, _, _]) (M13.call0 hM14)
   refine bY aUi rfl rfl (rU _ _ r3 _ hr3 (M14.ownSeg 9 3)) ?_
   rintro v15 w15 ⟨qx, rfl, hqx, hM15⟩
   have M15 : Mem _ _ ([_, _, _, _, _, _, _, _, _, _, _, _, _] ++ _) _ := Mem.front (L := [_, _, _, _, _, _, _, _, _, _, _, _]) (M14.seg 9 3 hM15)
   refine dI rfl rfl (bY bJr rfl rfl (aEc _ _ _ _ _ (hqx.rd M15 (bB (i := 12) rfl)) _ _ _ _ (hv1.rd M15 (bB (i := 5) rfl))) ?_)
   rintro v16 w16 ⟨rfl, hb16⟩
   have M16 := M15.callB hb16
   refine kB 57 rfl rfl (wq (bR true (.bool true) rfl rfl) rfl (wq (aJ (.bool true) rfl) rfl (aB (aC (aO (cD (.bool true) rfl ?_))))))
   exact ⟨rfl, M16.below⟩
namespace scriptOutcomes
open Go.ChangeShapes Go.WideShapes Go.ChangeAt Go.RowKit
open Go.ChangeMaps (open_string shut_string)
theorem own : ownKnob Tryz.prog.godebug = none := by kernel_rfl
theorem laidOut : laidOutB Tryz.prog = true := by kernel_rfl
set_option maxRecDepth 100000 in
theorem lifted (os : Os) (started : os.Started) (H : Type) (enc : TypeId × Value → H) :
  ReturnsInHanded {} Tryz.checked os 6 .any (fun w args => (Rows.scriptOutcomesSpec.pre enc Tryz.prog Tryz.f6 [] false w args ∧ laidMet Tryz.prog aCr w) ∧ sizedMet enc Tryz.prog Tryz.f6 (OpenSpec.ofChange Rows.scriptOutcomesSpec) false w args) (Rows.scriptOutcomesSpec.post enc Tryz.prog Tryz.f6 false true false false) := by
 refine returnsInHanded_of_change_and (C := Tryz.checked) (X := fun w _ => laidMet Tryz.prog aCr w) (fun _ _ _ hh h => h.of_heap hh) own started (by kernel_rfl) Tryz.func6
  (ChangeSpec.witness_at (enc := enc) (C := Tryz.checked) (os := os) (X := fun w _ => laidMet Tryz.prog aCr w) false (aWh os) #[.slice none 0 0] 8 rfl (by kernel_rfl) (by kernel_rfl) (by kernel_rfl) (by kernel_rfl) (by kernel_rfl) (laidMet_of_run' 8 (by kernel_rfl) (by kernel_rfl))) ?_
 intro W base args ds gs before hval0 hW hcnd hsz0 hL _
 have hsz : (DataW.weightsEach Tryz.prog (Tryz.f6.params.toList ++ Rows.scriptOutcomesSpec.plain.varTypes Tryz.prog) (ds ++ gs)).all (· ≤ reachBytes) = true := hsz0
 have hval : ∀ (j : Nat) t v, Tryz.f6.params[j]? = some t → args[j]? = some v → Value.okWide Tryz.prog W .any base t v := hval0
 have hW' := hW
 obtain ⟨p, q, hA0, hV, rfl, hfz, hnd⟩ := hW
 have hA : DataW.TrodAll enc Tryz.prog W 0 (fun _ => true) true Tryz.f6.params.toList args.toList ds p := hA0
 rw [Tryz.params6] at hA hval hsz
 obtain ⟨v0, vs0, d0, ds0, p0, q0, hargs, rfl, rfl, h0, r0⟩ := trodAll_cons hA
 obtain ⟨rfl, rfl, rfl⟩ := trodAll_nil r0
 obtain rfl : args = #[v0] := by cases args; simp_all
 obtain ⟨rfl, rfl⟩ := trodVars_none hV
 have k0 := h0
 have lt0 : ∀ x ∈ p0, x.block < W.heap.size := by obtain ⟨m, hm⟩ := k0; exact DataW.trod_lt m _ _ _ hm
 obtain ⟨a0, len0, cap0, rfl⟩ := okWide_slice Tryz.underlying22 (hval 0 22 v0 rfl rfl)
 have y0 : ∀ n ∈ d0.weights Tryz.prog 22, n ≤ reachBytes := fun n hn => by simpa using List.all_eq_true.1 hsz _ (DataW.weights_mem_each (j := 0) rfl rfl n hn)
 obtain ⟨xs0, R0⟩ := bCe bAd bRe y0 h0
 clear hA0 hval0 hsz0 hsz
 refine (vS W (rdF hL) (rdN hL) _ _ _ xs0 R0).mono fun e W' ⟨v, he, hv, bel⟩ => ?_
 subst he
 subst hv
 exact ⟨_, rfl, _, _, _, [], _, [], hW', trodAll_mk1 (shut_bool Tryz.underlying4 _), (trodAll_cons_mk (Below.trod laidOut (by kernel_rfl) (of_decide_eq_true (by kernel_rfl)) k0 bel lt0) trodAll_mk0), rfl, bel.frame _, fun h => by cases h⟩
theorem andT {a b : Bool} (ha : a = true) (hb : b = true) : (a && b) = true := by rw [ha, hb]; rfl
set_option maxHeartbeats 16000000 in
theorem closed : joinedFacts Tryz.prog 6 Tryz.f6 Rows.scriptOutcomesSpec Rows.scriptOutcomesRow = true := by
 unfold joinedFacts
 repeat' (with_reducible refine andT ?_ ?_)
 all_goals (as_aux_lemma => kernel_rfl)
theorem over : Rows.scriptOutcomesRow.holds Tryz.pinned (OpenSpec.ofChange Rows.scriptOutcomesSpec) :=
 OpenClaim.holds_of_wide 6 Tryz.f6 rfl rfl rfl rfl rfl rfl rfl ⟨rfl, rfl, rfl, rfl, rfl⟩ rfl rfl rfl rfl rfl (by kernel_rfl) Tryz.func6 closed
  (of_decide_eq_true (by kernel_rfl)) (by unfold Func.isWrapper; first | (rw [if_pos (by decide +kernel)]; kernel_rfl) | (rw [if_neg (by decide +kernel)]; exact ⟨rfl, rfl⟩))
  (fun os started H enc _ => lifted os started H enc)
end scriptOutcomes
theorem scriptOutcomes_holds : Rows.ScriptOutcomesSaid := scriptOutcomes.over
#print axioms scriptOutcomes_holds
theorem scriptOutcomes_cw : Rows.scriptOutcomesRow.wfByText (OpenSpec.ofChange Rows.scriptOutcomesSpec) = true := by kernel_rfl
theorem scriptOutcomes_cl : false = Tryz.checked.prog.looks [] := by kernel_rfl
theorem scriptOutcomes_cg : false = Rows.scriptOutcomesRow.goesBy Tryz.pinned.checked.prog := by kernel_rfl
theorem scriptOutcomes_cm : Tryz.pinned.checked.prog.mainIs = some (true, "60fad30dfb67d9dd14e679b449d58df77fa72712b07425b57b34720f96154737".toList) := by kernel_rfl
theorem scriptOutcomes_cf : Tryz.prog.funcNamed "billiard/billiardlaw23.ScriptOutcomes" = some 6 := by kernel_rfl
theorem scriptOutcomes_card : Rows.ScriptOutcomesCardSaid :=
 Claim7.holds_tied_plain_at .later [] [.data, .data] true (true, "60fad30dfb67d9dd14e679b449d58df77fa72712b07425b57b34720f96154737") false
  scriptOutcomes_holds (fun _ h => by cases h) scriptOutcomes_cw (fun _ h => by cases h) scriptOutcomes_row_tie rfl ⟨rfl, rfl⟩ scriptOutcomes_cm rfl
  (fun f fn hf hfn => by
   obtain rfl : f = 6 := Option.some.inj (scriptOutcomes_cf.symm.trans hf) |>.symm
   obtain rfl : fn = Tryz.f6 := (Option.some.inj (Tryz.func6.symm.trans hfn)).symm
   exact ⟨scriptOutcomes_cl, fun j t ht => by
    rw [Tryz.params6] at ht
    have hm : t ∈ [22] := by simpa using Array.mem_of_getElem? ht
    have hall : ([22].all fun u => !Tryz.prog.wantsStandIn u) = true := by kernel_rfl
    exact (show Tryz.prog.wantsStandIn t = false by simpa using List.all_eq_true.1 hall t hm)⟩)
  scriptOutcomes_cg
#print axioms scriptOutcomes_card
end Go.Proofs.YtaoaknafiegfoaaGreatDoor
