import Derived.Test.YtaoaknafiegfoaaGreatDoorK2
import Derived.Test.YtaoaknafiegfoaaGreatDoorK5
import Derived.Test.YtaoaknafiegfoaaGreatDoorK35
import Derived.Test.YtaoaknafiegfoaaGreatDoorRows
import Derived.Test.YtaoaknafiegfoaaGreatDoorK36
import Derived.Test.YtaoaknafiegfoaaGreatDoorTie
import Derived.Test.YtaoaknafiegfoaaGreatDoorCards
import Derived.WalkKit
import Derived.ProofKit
import Derived.OpenShut
import Derived.ShutString
import Derived.ChangeOld
import Derived.Below
import Derived.SizedLaws
set_option linter.unusedVariables false
set_option linter.unusedSimpArgs false
set_option linter.unnecessarySimpa false
namespace Go.Proofs.YtaoaknafiegfoaaGreatDoor
open Go.Bil
open Go.RowKit (Below)
open Go.Proofs
set_option maxHeartbeats 32000000 in
theorem xC (w : World) (F : Rd w 2 (some ⟨0, 0, none⟩) 1 [[.int .u32 73856093, .int .u32 19349663]]) (N : Rd w 4 (some ⟨3, 0, none⟩) 1 [cX gL]) (A : Option Addr) (n c : Nat) (xs : List Body) (R : Rd w 10 A n (xs.map aF)) (f : Nat) (hf : f ≤ 255) :
  Calls Tryz.prog 5 #[.slice A n c, .int .u8 (f : Int)] w (fun ex w' => ∃ v, ex = .returned v ∧ (fun v w' => v = .bool true ∧ Below w.heap.size w w') v w') := by
 refine aH #[.tmp 4] 81 Tryz.func5 rfl Tryz.results5 Tryz.ntmps5 rfl ?_
 have M0 := Mem.refl w
 refine aD (aA (wq (aI (.bool false) rfl) rfl (aB (aC (aD (aA (dN rfl rfl (bZ bJz rfl rfl (aMt _ _ _ _ xs (R.mem M0)) ?_))))))))
 rintro v1 w1 ⟨r, rfl, hr, hM1⟩
 have M1 : Mem _ _ [_] _ := M0.call0 hM1
 refine wq (aG (.tuple (List.toArray _)) rfl) rfl (wq (bB (.slice _ _ _) rfl rfl) rfl (wq (bB (.bool (decide _)) rfl rfl) rfl (eG rfl rfl (wq (aI (.bool (decide _)) rfl) rfl (aB (aC (aD (aD (aA ?_)))))))))
 refine bZ bCv rfl rfl (bJq _ (F.mem M1) (N.mem M1)) ?_
 rintro v2 w2 ⟨rfl, hb2⟩
 have M2 := M1.callB hb2
 refine wq (fZ false rfl rfl) rfl (wq (aG (.bool false) rfl) rfl (wq (aG (.bool (decide _)) rfl) rfl (wq (lL rfl) rfl (wq (bS false (.bool (decide _)) rfl rfl) rfl (aB (aC ?_))))))
 refine aX rfl (fun h22 => ?_) (fun h22 => ?_)
 ·refine aD (aA (bZ bCv rfl rfl (bJq _ (F.mem M2) (N.mem M2)) ?_))
  rintro v3 w3 ⟨rfl, hb3⟩
  have M3 := M2.callB hb3
  refine wq (aI (.bool true) rfl) rfl (aB (aC (aL (cD (cA (.bool true) rfl ?_)))))
  exact ⟨rfl, M3.below⟩
 ·obtain ⟨hV, hve, hvk⟩ := bBt (Decidable.not_not.1 h22)
  have hvl := hV.len
  have hrn : (nD xs).length = r.n := by simpa using hr.1
  have hvs := hV.s
  have hvo := hV.okb
  obtain ⟨kk, hkk⟩ : ∃ kk : Nat, kk = f % 5 := ⟨_, rfl⟩
  have hkl : kk < 5 := by rw [hkk]; exact Nat.mod_lt _ (by decide)
  refine aK (aC (aD (aA (dN rfl rfl (aZ rfl rfl (wq (aNs rfl rfl (by decide)) rfl (aV 27 (.int .u8 (kk : Int)) (iE (aGg rfl hkk)) (wq (bY us5 Tryz.underlying3 rfl (kT _ (by omega) (by omega))) rfl ?_))))))))
  refine bZ bJr rfl rfl (aLi _ (F.mem M2) (N.mem M2) _ _ _ (nD xs) (hr.rd M2 (aS (i := 0) rfl)) hvo hvs (by omega) (kk : Int) kk (by omega) (by omega)) ?_
  rintro v4 w4 ⟨r2, ts, rfl, _, _, hr2, hM4⟩
  have M4 : Mem _ _ [_, _] _ := M2.call0 hM4
  have hr2n : (jM (nD xs) kk).length = r2.n := by simpa using hr2.1
  have hsl := (pE (nD xs) kk).len
  refine wq (aG (.tuple (List.toArray _)) rfl) rfl (wq (bB (.slice _ _ _) rfl rfl) rfl (wq (bB (.agg (List.toArray _)) rfl rfl) rfl (aP mE M4 rfl rfl (fun b5 w5 M5 => (eG rfl rfl (bA 2 _ kC M5 rfl rfl rfl rfl rfl (aQ rfl) rfl (fun w6 M6 => ?_)))))))
  refine aB (aC (aD (aD (aA (dN rfl rfl (wq (cT Tryz.underlying29 rfl) rfl (dN rfl rfl (wq (cT Tryz.underlying29 rfl) rfl (dB rfl rfl rfl rfl ?_)))))))))
  refine uN 36 rfl (by omega) (aB (aC (cC rfl (aK (aC (aD (aD (aA (bI rfl rfl (aB (aC (aT ?_))))))))))))
  refine dI (σ := Nat) [1, 5, 7] (fun i => [(9, .int .i64 (i : Int))]) (fun i w' => i ≤ r.n ∧ Mem w [] [r.e, r2.e] w') (fun i => r.n - i) 0 (bM rfl eP) (⟨by omega, M6.keep [true, true, false]⟩) ?_
  rintro i ρ7 w7 ⟨hi, hM7⟩
  refine aD (aD (aA (aZ rfl rfl (dN rfl rfl (wq (cT Tryz.underlying29 rfl) rfl (dB rfl rfl rfl rfl (aB (aC ?_))))))))
  refine aX rfl (fun h40 => ?_) (fun h40 => ?_)
  ·obtain ⟨xb, hxb⟩ := cM (xs := nD xs) (k := i) hrn (by omega)
   have hbo := hvo xb (List.mem_of_getElem? hxb)
   refine aK (aC (aD (aT (aD (aD (aA (dN rfl rfl (aZ rfl rfl (wq (bR (i) dF rfl rfl rfl ((hr.rd hM7 (aS (i := 0) rfl)).below_len (aJ aF hxb)) ((hr.rd hM7 (aS (i := 0) rfl)).someK (aJ aF hxb))) rfl (wq (bN 4 eQ (hr.rd hM7 (aS (i := 0) rfl)) (Nat.lt_of_le_of_lt (Nat.zero_le _) ((hr.rd hM7 (aS (i := 0) rfl)).below_len (aJ aF hxb))) rfl) rfl ?_))))))))))
   refine wq (eM (o := 4) (.int _ _) aW (hr.rd hM7 (aS (i := 0) rfl)) (aJ aF hxb) rfl rfl) rfl (dB rfl rfl rfl rfl (aB (aC ?_)))
   refine aX rfl (fun h48 => ?_) (fun h48 => ?_)
   ·refine cR (dC (eZ (aC (aA (aZ rfl rfl (wq (bP rfl rfl (by omega) (by omega)) rfl ?_))))))
    refine bI rfl rfl (aB ?_)
    refine cO (i + 1) (bM rfl eP) (cU rfl (cU rfl (cU rfl jT))) ?_ ?_
    ·exact ⟨by omega, hM7.keep [true, true]⟩
    ·omega
   ·have hm0 : xb.mass = 0 := by have := hbo.m; omega
    have hst := sW hbo hm0 hxb kk
    have hfs := pC hbo hm0
    refine aK (aC (aD (aA (dN rfl rfl (aZ rfl rfl (wq (bR (i) dF rfl rfl rfl ((hr.rd hM7 (aS (i := 0) rfl)).below_len (aJ aF hxb)) ((hr.rd hM7 (aS (i := 0) rfl)).someK (aJ aF hxb))) rfl (wq (dJ _ bJ (hr.rd hM7 (aS (i := 0) rfl)) (aJ aF hxb) rfl) rfl ?_)))))))
    refine aP gH hM7 rfl rfl (fun b8 w8 M8 => (bA 2 _ bJ M8 rfl rfl rfl rfl rfl (aQ rfl) rfl (fun w9 M9 => (aB (aC (aD (aD (aA (bI rfl rfl (aB (aC (aT (dI (σ := Nat) [1, 5, 7, 9, 10] (fun k => [(11, .int .i64 (k : Int))]) (fun k w' => k ≤ kk ∧ Mem w [] [r.e, r2.e, (some b8, bc (aF (pH xb k)) 39)] w') (fun k => kk - k) 0 (bM rfl eP) (⟨by omega, M9⟩) ?_)))))))))))))
    rintro k ρ10 w10 ⟨hk, hM10⟩
    refine aD (aD (aA (aZ rfl rfl (aZ rfl rfl (wq (aNs rfl rfl (by decide)) rfl (aV 55 (.int .u8 (kk : Int)) (iE (aGg rfl hkk)) (wq (bY us5 Tryz.underlying3 rfl (kT _ (by omega) (by omega))) rfl ?_)))))))
    refine dB rfl rfl rfl rfl (aB (aC ?_))
    refine aX rfl (fun h57 => ?_) (fun h57 => ?_)
    ·refine aK (aC (aD (aT (aA (wq (bC 2 bJ hM10 rfl rfl rfl) rfl (aV 60 ((.agg (aF (pH xb k)).toArray)) rfl (bZ bJi rfl rfl (aQv _ (pH xb k) (hfs k).2.2.2) ?_)))))))
     rintro v11 w11 ⟨rfl, hb11⟩
     have M11 := hM10.callB hb11
     refine bA 2 _ bJ M11 rfl rfl rfl rfl rfl (aQ rfl) rfl (fun w12 M12 => (aB (dD (aC (aA (aZ rfl rfl (wq (bP rfl rfl (by omega) (by omega)) rfl ?_)))))))
     refine bI rfl rfl (aB ?_)
     refine cO (k + 1) (bM rfl eP) (cU rfl (cU rfl (cU rfl (cU rfl (cU rfl jT))))) ?_ ?_
     ·exact ⟨by omega, M12⟩
     ·omega
    ·have hkk2 : k = kk := by omega
     rw [hkk2] at hM10
     refine cR (dC (dA (eZ (aC (aD (bO [(0, 0), (1, 0), (2, 1), (3, 1), (4, 1), (5, 0), (6, 0), (7, 0), (8, 0), (9, 1), (10, 1), (11, 1), (12, 0), (13, 0), (14, 1), (15, 1), (16, 1), (17, 0), (18, 0)] mixed rfl (by kernel_rfl) (fun w13 hb13 hh13 => ?_)))))))
     have M13 := hM10.drew hb13 hh13
     refine sQ rfl rfl rfl (gV rfl rfl rfl (bW rfl rfl rfl (bR (i) dF rfl rfl rfl ((hr2.rd M13 (aS (i := 1) rfl)).below_len (aJ aF hst)) ((hr2.rd M13 (aS (i := 1) rfl)).someK (aJ aF hst))) (bW rfl rfl rfl (dJ _ bJ (hr2.rd M13 (aS (i := 1) rfl)) (aJ aF hst) rfl) ?_)))
     refine bW rfl rfl rfl (bC 2 bJ M13 rfl rfl rfl) (fN 66 ((.agg (aF (pH xb kk)).toArray)) rfl (aY rfl rfl rfl (fun _ => aTo (aMl (pH xb kk) (pH xb kk)) rfl rfl) (fN 67 (.bool false) (bF (fun h => h rfl)).symm (aY rfl rfl rfl (fun _ => aG (.bool false) rfl) (sQ rfl rfl rfl ?_)))))
     refine gV rfl rfl rfl (bW rfl rfl rfl (bR (i) dF rfl rfl rfl ((hr2.rd M13 (aS (i := 1) rfl)).below_len (aJ aF hst)) ((hr2.rd M13 (aS (i := 1) rfl)).someK (aJ aF hst))) (bW rfl rfl rfl (bN 8 eK (hr2.rd M13 (aS (i := 1) rfl)) (Nat.lt_of_le_of_lt (Nat.zero_le _) ((hr2.rd M13 (aS (i := 1) rfl)).below_len (aJ aF hst))) rfl) ?_))
     refine bW rfl rfl rfl (oZ (o := 8) _ bK (hr2.rd M13 (aS (i := 1) rfl)) (aJ aF hst) rfl rfl rfl) (sQ rfl rfl rfl (gV rfl rfl rfl (bW rfl rfl rfl (bR (i) dF rfl rfl rfl ((hr.rd M13 (aS (i := 0) rfl)).below_len (aJ aF hxb)) ((hr.rd M13 (aS (i := 0) rfl)).someK (aJ aF hxb))) ?_)))
     refine bW rfl rfl rfl (bN 8 eK (hr.rd M13 (aS (i := 0) rfl)) (Nat.lt_of_le_of_lt (Nat.zero_le _) ((hr.rd M13 (aS (i := 0) rfl)).below_len (aJ aF hxb))) rfl) (bW rfl rfl rfl (oZ (o := 8) _ bK (hr.rd M13 (aS (i := 0) rfl)) (aJ aF hxb) rfl rfl rfl) (aY rfl rfl rfl (fun _ => aTo (aUs _ _ _ _) rfl rfl) ?_))
     refine fN 79 (.bool false) (bF (fun h => h ⟨(hfs kk).2.1, (hfs kk).2.2.1⟩)).symm (aY rfl rfl rfl (fun _ => bS false (.bool false) rfl rfl) (cB (aC (cC rfl (aK ?_)))))
     refine dD (aC (aA (aZ rfl rfl (wq (bP rfl rfl (by omega) (by omega)) rfl (bI rfl rfl (aB ?_))))))
     refine cO (i + 1) (bM rfl eP) (cU rfl (cU rfl (cU rfl jT))) ?_ ?_
     ·exact ⟨by omega, M13.keep [true, true, false]⟩
     ·omega
  ·refine cR (dC (dA (eZ (aC (aD (aA (wq (aI (.bool true) rfl) rfl ?_)))))))
   refine aB (aC (aL (cA (.bool true) rfl ?_)))
   exact ⟨rfl, hM7.below⟩
namespace wholeStatic
open Go.ChangeShapes Go.WideShapes Go.ChangeAt Go.RowKit
open Go.ChangeMaps (open_string shut_string)
theorem own : ownKnob Tryz.prog.godebug = none := by kernel_rfl
theorem laidOut : laidOutB Tryz.prog = true := by kernel_rfl
set_option maxRecDepth 100000 in
theorem lifted (os : Os) (started : os.Started) (H : Type) (enc : TypeId × Value → H) :
  ReturnsInHanded {} Tryz.checked os 5 .any (fun w args => (Rows.wholeStaticSpec.pre enc Tryz.prog Tryz.f5 [] false w args ∧ laidMet Tryz.prog aAo w) ∧ sizedMet enc Tryz.prog Tryz.f5 (OpenSpec.ofChange Rows.wholeStaticSpec) false w args) (Rows.wholeStaticSpec.post enc Tryz.prog Tryz.f5 false true false false) := by
 refine returnsInHanded_of_change_and (C := Tryz.checked) (X := fun w _ => laidMet Tryz.prog aAo w) (fun _ _ _ hh h => h.of_heap hh) own started (by kernel_rfl) Tryz.func5
  (ChangeSpec.witness_at (enc := enc) (C := Tryz.checked) (os := os) (X := fun w _ => laidMet Tryz.prog aAo w) false (aSv os) #[.slice none 0 0, .int .u8 0] 8 rfl (by kernel_rfl) (by kernel_rfl) (by kernel_rfl) (by kernel_rfl) (by kernel_rfl) (laidMet_of_run' 8 (by kernel_rfl) (by kernel_rfl))) ?_
 intro W base args ds gs before hval0 hW hcnd hsz0 hL _
 have hsz : (DataW.weightsEach Tryz.prog (Tryz.f5.params.toList ++ Rows.wholeStaticSpec.plain.varTypes Tryz.prog) (ds ++ gs)).all (· ≤ reachBytes) = true := hsz0
 have hval : ∀ (j : Nat) t v, Tryz.f5.params[j]? = some t → args[j]? = some v → Value.okWide Tryz.prog W .any base t v := hval0
 have hW' := hW
 obtain ⟨p, q, hA0, hV, rfl, hfz, hnd⟩ := hW
 have hA : DataW.TrodAll enc Tryz.prog W 0 (fun _ => true) true Tryz.f5.params.toList args.toList ds p := hA0
 rw [Tryz.params5] at hA hval hsz
 obtain ⟨v0, vs0, d0, ds0, p0, q0, hargs, rfl, rfl, h0, r0⟩ := trodAll_cons hA
 obtain ⟨v1, vs1, d1, ds1, p1, q1, rfl, rfl, rfl, h1, r1⟩ := trodAll_cons r0
 obtain ⟨rfl, rfl, rfl⟩ := trodAll_nil r1
 obtain rfl : args = #[v0, v1] := by cases args; simp_all
 obtain ⟨rfl, rfl⟩ := trodVars_none hV
 have k0 := h0
 have lt0 : ∀ x ∈ p0, x.block < W.heap.size := by obtain ⟨m, hm⟩ := k0; exact DataW.trod_lt m _ _ _ hm
 obtain ⟨a0, len0, cap0, rfl⟩ := okWide_slice Tryz.underlying29 (hval 0 29 v0 rfl rfl)
 have y0 := aLf hsz (j := 0) (t := 29) rfl rfl dF h0
 obtain ⟨ls0, R0, hi0⟩ := aPd dF aVs rfl y0 h0
 obtain ⟨xs0, rfl, hx0⟩ := aOb bDr ls0 hi0
 obtain ⟨a1, rfl, rfl, rfl, w1⟩ := open_int Tryz.underlying5 (hval 1 5 v1 rfl rfl) h1
 have b1 : 0 ≤ a1 ∧ a1 ≤ 255 := aWk w1
 clear hA0 hval0 hsz0 hsz
 obtain ⟨t1, rfl⟩ := Int.eq_ofNat_of_zero_le b1.1
 refine (xC W (rdF hL) (rdN hL) _ _ _ xs0 R0 t1 (by omega)).mono fun e W' ⟨v, he, hv, bel⟩ => ?_
 subst he
 subst hv
 exact ⟨_, rfl, _, _, _, [], _, [], hW', trodAll_mk1 (shut_bool Tryz.underlying4 _), (trodAll_cons_mk (Below.trod laidOut (by kernel_rfl) (of_decide_eq_true (by kernel_rfl)) k0 bel lt0) (trodAll_cons_mk (shut_int Tryz.underlying5 w1) trodAll_mk0)), rfl, bel.frame _, fun h => by cases h⟩
theorem andT {a b : Bool} (ha : a = true) (hb : b = true) : (a && b) = true := by rw [ha, hb]; rfl
set_option maxHeartbeats 16000000 in
theorem closed : joinedFacts Tryz.prog 5 Tryz.f5 Rows.wholeStaticSpec Rows.wholeStaticRow = true := by
 unfold joinedFacts
 repeat' (with_reducible refine andT ?_ ?_)
 all_goals (as_aux_lemma => kernel_rfl)
theorem over : Rows.wholeStaticRow.holds Tryz.pinned (OpenSpec.ofChange Rows.wholeStaticSpec) :=
 OpenClaim.holds_of_wide 5 Tryz.f5 rfl rfl rfl rfl rfl rfl rfl ⟨rfl, rfl, rfl, rfl, rfl⟩ rfl rfl rfl rfl rfl (by kernel_rfl) Tryz.func5 closed
  (of_decide_eq_true (by kernel_rfl)) (by unfold Func.isWrapper; first | (rw [if_pos (by decide +kernel)]; kernel_rfl) | (rw [if_neg (by decide +kernel)]; exact ⟨rfl, rfl⟩))
  (fun os started H enc _ => lifted os started H enc)
end wholeStatic
theorem wholeStatic_holds : Rows.WholeStaticSaid := wholeStatic.over
#print axioms wholeStatic_holds
theorem wholeStatic_cw : Rows.wholeStaticRow.wfByText (OpenSpec.ofChange Rows.wholeStaticSpec) = true := by kernel_rfl
theorem wholeStatic_cl : false = Tryz.checked.prog.looks [] := by kernel_rfl
theorem wholeStatic_cg : false = Rows.wholeStaticRow.goesBy Tryz.pinned.checked.prog := by kernel_rfl
theorem wholeStatic_cm : Tryz.pinned.checked.prog.mainIs = some (true, "60fad30dfb67d9dd14e679b449d58df77fa72712b07425b57b34720f96154737".toList) := by kernel_rfl
theorem wholeStatic_cf : Tryz.prog.funcNamed "billiard/billiardtop.WholeStatic" = some 5 := by kernel_rfl
theorem wholeStatic_card : Rows.WholeStaticCardSaid :=
 Claim7.holds_tied_plain_at .later [] [.data, .data] true (true, "60fad30dfb67d9dd14e679b449d58df77fa72712b07425b57b34720f96154737") false
  wholeStatic_holds (fun _ h => by cases h) wholeStatic_cw (fun _ h => by cases h) wholeStatic_row_tie rfl ⟨rfl, rfl⟩ wholeStatic_cm rfl
  (fun f fn hf hfn => by
   obtain rfl : f = 5 := Option.some.inj (wholeStatic_cf.symm.trans hf) |>.symm
   obtain rfl : fn = Tryz.f5 := (Option.some.inj (Tryz.func5.symm.trans hfn)).symm
   exact ⟨wholeStatic_cl, fun j t ht => by
    rw [Tryz.params5] at ht
    have hm : t ∈ [29, 5] := by simpa using Array.mem_of_getElem? ht
    have hall : ([29, 5].all fun u => !Tryz.prog.wantsStandIn u) = true := by kernel_rfl
    exact (show Tryz.prog.wantsStandIn t = false by simpa using List.all_eq_true.1 hall t hm)⟩)
  wholeStatic_cg
#print axioms wholeStatic_card
end Go.Proofs.YtaoaknafiegfoaaGreatDoor
