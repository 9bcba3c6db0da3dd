import Derived.Test.YtlmcphcgiclanaaGreatDoorK2
import Derived.Test.YtlmcphcgiclanaaGreatDoorK5
import Derived.Test.YtlmcphcgiclanaaGreatDoorK36
import Derived.Test.YtlmcphcgiclanaaGreatDoorRows
import Derived.Test.YtlmcphcgiclanaaGreatDoorK37
import Derived.Test.YtlmcphcgiclanaaGreatDoorTie
import Derived.Test.YtlmcphcgiclanaaGreatDoorCards
import Derived.WalkKit
import Derived.ProofKit
import Derived.OpenShut
import Derived.ShutString
import Derived.ChangeOld
import Derived.Below
import Derived.SizedLaws
set_option linter.unusedVariables false
set_option linter.unusedSimpArgs false
set_option linter.unnecessarySimpa false
namespace Go.Proofs.YtlmcphcgiclanaaGreatDoor
open Go.Bil
open Go.RowKit (Below)
open Go.Proofs
set_option maxHeartbeats 32000000 in
theorem aDi (w : World) (F : Rd w 2 (some ⟨0, 0, none⟩) 1 [[.int .u32 73856093, .int .u32 19349663]]) (N : Rd w 4 (some ⟨3, 0, none⟩) 1 [eQ lG]) (A : Option Addr) (n c : Nat) (l : List OpRow) (hl : OpsRd w A n l) :
  Calls Tryz.prog 8 #[.slice A n c] w (fun ex w' => ∃ v, ex = .returned v ∧ (fun v w' => v = .bool true ∧ Below w.heap.size w w') v w') := by
 have hlen : l.length = n := by simpa using hl.rd.len
 have hbd := hl.rd.bound
 refine aI #[.tmp 2] 56 Tryz.func8 rfl Tryz.results8 Tryz.ntmps8 rfl ?_
 have M0 := Mem.refl w
 refine aE (aA (wq (aJ (.bool false) rfl) rfl (aB (aC (aE (aE (aA (bZ bFf rfl rfl (bLs _ (F.mem M0) (N.mem M0)) ?_))))))))
 rintro v1 w1 ⟨rfl, hb1⟩
 have M1 := M0.callB hb1
 refine wq (iD false rfl rfl) rfl (wq (aH (.bool false) rfl) rfl (dN rfl rfl (bZ bKo rfl rfl (aSt _ A n c l (hl.mem M1)) ?_)))
 rintro v2 w2 ⟨⟨g, rfl, hg⟩, hb2⟩
 have M2 := M1.callB hb2
 refine wq (iD _ rfl rfl) rfl (wq (bM false (.bool _) rfl rfl) rfl (aB (aC ?_)))
 refine iB _ rfl (fun h14 => ?_) (fun h14 => ?_)
 ·refine aE (aA (bZ bFf rfl rfl (bLs _ (F.mem M2) (N.mem M2)) ?_))
  rintro v3 w3 ⟨rfl, hb3⟩
  have M3 := M2.callB hb3
  refine wq (aJ (.bool true) rfl) rfl (aB (aC (aP (cH (cE (.bool true) rfl ?_)))))
  exact ⟨rfl, M3.below⟩
 ·obtain ⟨hn40, hby⟩ := hg (by simpa using h14)
  refine aL (aC (aE (aA (aV aVm M2 rfl rfl (fun b4 w4 M4 => ?_)))))
  have M5 := (M4.dummy default).dummy default
  refine aB (aC (aE (aA (eN rfl rfl ?_))))
  have M6 := M5.dummy default
  refine aB (aC (aE (aE (aA (bC rfl rfl (aB (aC (aQ (dQ (σ := Nat × StV × Row × List Body) [0, 3] (fun (i, r, q, vs) => [(4, .slice q.A q.n q.c), (5, .int .i64 (i : Int))]) (fun (i, r, q, vs) w' => (i ≤ n ∧ fT 40 r vs ∧ bH 40 10 q.A q.n q.c ((vs).map aF) q.e) ∧ Mem w [] [(some b4, bc [.slice r.A r.n r.c, .map r.p] 56), r.er, r.em, q.e] w') (fun (i, r, q, vs) => n - i) (0, ⟨none, 0, 0, none, (none, default), (none, default)⟩, hJ, []) (bA rfl (bA rfl dX)) (⟨⟨by omega, (fT.new 40 default default), bH.nil _ _ _⟩, M6⟩) ?_)))))))))
  rintro ⟨i, r, q, vs⟩ ρ7 w7 ⟨⟨hi, hr, hq⟩, hM7⟩
  refine aE (aE (aA (aO rfl rfl (dN rfl rfl (wq (dB Tryz.underlying48 rfl) rfl (cX rfl rfl rfl rfl (aB (aC ?_))))))))
  refine aS rfl (fun h19 => ?_) (fun h19 => ?_)
  ·obtain ⟨x, hx⟩ := cT (xs := l) (k := i) hlen (by omega)
   have hP := hl.each x (List.mem_of_getElem? hx)
   have hxn := hby x (List.mem_of_getElem? hx)
   refine aL (aC (aE (aQ (aE (aE (aA (dN rfl rfl (aO rfl rfl (wq (bN (i) aKf rfl rfl rfl ((hl.rd.mem hM7).below_len (aG OpRow.cells hx)) ((hl.rd.mem hM7).someK (aG OpRow.cells hx))) rfl (wq (bE 0 aAk (hl.rd.mem hM7) (Nat.lt_of_le_of_lt (Nat.zero_le _) ((hl.rd.mem hM7).below_len (aG OpRow.cells hx))) rfl) rfl ?_))))))))))
   refine wq (dV (o := 0) (.int _ _) kK (hl.rd.mem hM7) (aG OpRow.cells hx) rfl rfl) rfl (cX rfl rfl rfl rfl (wq (aH (.bool (decide _)) rfl) rfl ?_))
   refine dI 28 rfl (fun g28 => ?_) (fun g28 => ?_)
   ·refine dN rfl rfl (bZ bLu rfl rfl (aLt _ q.A q.n q.c) ?_)
    rintro v8 w8 ⟨rfl, hb8⟩
    have M8 := hM7.callB hb8
    refine wq (nK rfl) rfl (wq (bM true (.bool (decide _)) rfl rfl) rfl (aB (aC ?_)))
    refine aS rfl (fun h32 => ?_) (fun h32 => ?_)
    ·refine aE (aA (wq (aJ (.bool true) rfl) rfl (aB (aC (aP (cH (jP (cH (pD ?_)))))))))
     refine jP (cH (cE (.bool true) rfl ?_))
     exact ⟨rfl, M8.below⟩
    ·refine aL (aC (aE (aA (dN rfl rfl (aO rfl rfl (wq (bN (i) aKf rfl rfl rfl ((hl.rd.mem M8).below_len (aG OpRow.cells hx)) ((hl.rd.mem M8).someK (aG OpRow.cells hx))) rfl (wq (dJ _ aQl (hl.rd.mem M8) (aG OpRow.cells hx) rfl) rfl (aK 36 (.agg (qQ x.o x.A x.n x.c).toArray) rfl ?_))))))))
     refine bZ bFj rfl rfl (aMd _ (F.mem M8) (N.mem M8) _ r _ hr (M8.ownSeg 0 3) (M8.away 0 3 F (by simp)) (M8.away 0 3 N (by simp)) x.o x.A x.n x.c (hP.mem M8) (by omega) (M8.away 0 3 hP.rd (by simp))) ?_
     rintro v9 w9 ⟨r2, p1, rfl, hr2, hp1, hM9⟩
     have M9 : Mem _ _ [_, _, _, _, _] _ := M8.seg 0 3 hM9
     refine aV sO M9 rfl rfl (fun b10 w10 M10 => (bG 5 _ dZ M10 rfl rfl rfl rfl rfl (aT rfl) rfl (fun w11 M11 => (aB (aC (aE (aA (dN rfl rfl (dN rfl rfl (aO rfl rfl ?_))))))))))
     refine wq (bN (i) aKf rfl rfl rfl ((hl.rd.mem M11).below_len (aG OpRow.cells hx)) ((hl.rd.mem M11).someK (aG OpRow.cells hx))) rfl (wq (dJ _ aQl (hl.rd.mem M11) (aG OpRow.cells hx) rfl) rfl (aK 42 (.agg (qQ x.o x.A x.n x.c).toArray) rfl (bZ bEu rfl rfl (aLo _ q vs hq hr.1 (M11.ownAt (i := 3) rfl) x.o x.A x.n x.c (hP.mem M11) (by omega) (M11.away 3 1 hP.rd (by simp))) ?_)))
     rintro v12 w12 ⟨q2, p2, rfl, hq2, hp2, hM12⟩
     have M12 : Mem _ _ [_, _, _, _, _, _, _] _ := M11.seg 3 1 hM12
     refine aV sO M12 rfl rfl (fun b13 w13 M13 => (bG 7 _ dZ M13 rfl rfl rfl rfl rfl (aT rfl) rfl (fun w14 M14 => (aB (aC (aE (aA (wq (aD 0 qI rfl) rfl (wq (aM 7 (.slice _ _ _) fQ M14 rfl rfl rfl) rfl (eN rfl rfl ?_))))))))))
     refine aB (aC (aE (aA (wq (aU 5 dZ M14 rfl rfl rfl) rfl (wq (aU 7 dZ M14 rfl rfl rfl) rfl (bZ bFv rfl rfl (aBm _ _ _ _ _ _ _ _ _ _ _ (hp1.rd M14 (bJ (i := 4) rfl)) _ _ _ (hp2.rd M14 (bJ (i := 6) rfl))) ?_))))))
     rintro v15 w15 ⟨rfl, hb15⟩
     have M15 := M14.callB hb15
     refine wq (iD false rfl rfl) rfl (wq (aH (.bool false) rfl) rfl (bZ aGv rfl rfl (oD _ _ r2 _ hr2 (M15.ownSeg 0 3)) ?_))
     rintro v16 w16 ⟨qv, rfl, hqv, hM16⟩
     have M16 : Mem _ _ [_, _, _, _, _, _, _, _, _] _ := M15.seg 0 3 hM16
     refine dN rfl rfl (bZ bEy rfl rfl (aDw _ _ _ _ _ (hqv.rd M16 (bJ (i := 8) rfl)) _ _ _ _ (hq2.rd M16 (bJ (i := 3) rfl))) ?_)
     rintro v17 w17 ⟨rfl, hb17⟩
     have M17 := M16.callB hb17
     refine jB 53 rfl rfl (wq (iD false rfl rfl) rfl (wq (bM false (.bool false) rfl rfl) rfl (aB (aC (cM rfl (aL ?_))))))
     refine cO (aC (aA (aO rfl rfl (wq (aY rfl rfl (by omega) (by omega)) rfl (bC rfl rfl (aB ?_))))))
     refine cD (i + 1, r2, q2, (doR vs x.o).1) (bA rfl (bA rfl dX)) (cL rfl (cL rfl gO)) ?_ ?_
     ·exact ⟨⟨by omega, hr2, hq2⟩, M17.keep [true, true, true, true, false, false, false, false, false]⟩
     ·(show n - (i + 1) < n - i; omega)
   ·refine aN rfl rfl (aN rfl rfl (aN rfl rfl (wq (bM false (.bool false) rfl rfl) rfl (aB (aC (cM rfl ?_))))))
    refine aL (aC (aE (aA (dN rfl rfl (aO rfl rfl (wq (bN (i) aKf rfl rfl rfl ((hl.rd.mem hM7).below_len (aG OpRow.cells hx)) ((hl.rd.mem hM7).someK (aG OpRow.cells hx))) rfl (wq (dJ _ aQl (hl.rd.mem hM7) (aG OpRow.cells hx) rfl) rfl (aK 36 (.agg (qQ x.o x.A x.n x.c).toArray) rfl ?_))))))))
    refine bZ bFj rfl rfl (aMd _ (F.mem hM7) (N.mem hM7) _ r _ hr (hM7.ownSeg 0 3) (hM7.away 0 3 F (by simp)) (hM7.away 0 3 N (by simp)) x.o x.A x.n x.c (hP.mem hM7) (by omega) (hM7.away 0 3 hP.rd (by simp))) ?_
    rintro v18 w18 ⟨r2, p1, rfl, hr2, hp1, hM18⟩
    have M18 : Mem _ _ [_, _, _, _, _] _ := hM7.seg 0 3 hM18
    refine aV sO M18 rfl rfl (fun b19 w19 M19 => (bG 5 _ dZ M19 rfl rfl rfl rfl rfl (aT rfl) rfl (fun w20 M20 => (aB (aC (aE (aA (dN rfl rfl (dN rfl rfl (aO rfl rfl ?_))))))))))
    refine wq (bN (i) aKf rfl rfl rfl ((hl.rd.mem M20).below_len (aG OpRow.cells hx)) ((hl.rd.mem M20).someK (aG OpRow.cells hx))) rfl (wq (dJ _ aQl (hl.rd.mem M20) (aG OpRow.cells hx) rfl) rfl (aK 42 (.agg (qQ x.o x.A x.n x.c).toArray) rfl (bZ bEu rfl rfl (aLo _ q vs hq hr.1 (M20.ownAt (i := 3) rfl) x.o x.A x.n x.c (hP.mem M20) (by omega) (M20.away 3 1 hP.rd (by simp))) ?_)))
    rintro v21 w21 ⟨q2, p2, rfl, hq2, hp2, hM21⟩
    have M21 : Mem _ _ [_, _, _, _, _, _, _] _ := M20.seg 3 1 hM21
    refine aV sO M21 rfl rfl (fun b22 w22 M22 => (bG 7 _ dZ M22 rfl rfl rfl rfl rfl (aT rfl) rfl (fun w23 M23 => (aB (aC (aE (aA (wq (aD 0 qI rfl) rfl (wq (aM 7 (.slice _ _ _) fQ M23 rfl rfl rfl) rfl (eN rfl rfl ?_))))))))))
    refine aB (aC (aE (aA (wq (aU 5 dZ M23 rfl rfl rfl) rfl (wq (aU 7 dZ M23 rfl rfl rfl) rfl (bZ bFv rfl rfl (aBm _ _ _ _ _ _ _ _ _ _ _ (hp1.rd M23 (bJ (i := 4) rfl)) _ _ _ (hp2.rd M23 (bJ (i := 6) rfl))) ?_))))))
    rintro v24 w24 ⟨rfl, hb24⟩
    have M24 := M23.callB hb24
    refine wq (iD false rfl rfl) rfl (wq (aH (.bool false) rfl) rfl (bZ aGv rfl rfl (oD _ _ r2 _ hr2 (M24.ownSeg 0 3)) ?_))
    rintro v25 w25 ⟨qv, rfl, hqv, hM25⟩
    have M25 : Mem _ _ [_, _, _, _, _, _, _, _, _] _ := M24.seg 0 3 hM25
    refine dN rfl rfl (bZ bEy rfl rfl (aDw _ _ _ _ _ (hqv.rd M25 (bJ (i := 8) rfl)) _ _ _ _ (hq2.rd M25 (bJ (i := 3) rfl))) ?_)
    rintro v26 w26 ⟨rfl, hb26⟩
    have M26 := M25.callB hb26
    refine jB 53 rfl rfl (wq (iD false rfl rfl) rfl (wq (bM false (.bool false) rfl rfl) rfl (aB (aC (cM rfl (aL ?_))))))
    refine cO (aC (aA (aO rfl rfl (wq (aY rfl rfl (by omega) (by omega)) rfl (bC rfl rfl (aB ?_))))))
    refine cD (i + 1, r2, q2, (doR vs x.o).1) (bA rfl (bA rfl dX)) (cL rfl (cL rfl gO)) ?_ ?_
    ·exact ⟨⟨by omega, hr2, hq2⟩, M26.keep [true, true, true, true, false, false, false, false, false]⟩
    ·(show n - (i + 1) < n - i; omega)
  ·refine cV (dD (dK (eO (aC (aE (aA (wq (aJ (.bool true) rfl) rfl ?_)))))))
   refine aB (aC (aP (cE (.bool true) rfl ?_)))
   exact ⟨rfl, hM7.below⟩
namespace worldModel
open Go.ChangeShapes Go.WideShapes Go.ChangeAt Go.RowKit
open Go.ChangeMaps (open_string shut_string)
theorem own : ownKnob Tryz.prog.godebug = none := by kernel_rfl
theorem laidOut : laidOutB Tryz.prog = true := by kernel_rfl
set_option maxRecDepth 100000 in
theorem lifted (os : Os) (started : os.Started) (H : Type) (enc : TypeId × Value → H) :
  ReturnsInHanded {} Tryz.checked os 8 .any (fun w args => (Rows.worldModelSpec.pre enc Tryz.prog Tryz.f8 [] false w args ∧ laidMet Tryz.prog aBl w) ∧ sizedMet enc Tryz.prog Tryz.f8 (OpenSpec.ofChange Rows.worldModelSpec) false w args) (Rows.worldModelSpec.post enc Tryz.prog Tryz.f8 false true false false) := by
 refine returnsInHanded_of_change_and (C := Tryz.checked) (X := fun w _ => laidMet Tryz.prog aBl w) (fun _ _ _ hh h => h.of_heap hh) own started (by kernel_rfl) Tryz.func8
  (ChangeSpec.witness_at (enc := enc) (C := Tryz.checked) (os := os) (X := fun w _ => laidMet Tryz.prog aBl w) false (aUs os) #[.slice none 0 0] 8 rfl (by kernel_rfl) (by kernel_rfl) (by kernel_rfl) (by kernel_rfl) (by kernel_rfl) (laidMet_of_run' 8 (by kernel_rfl) (by kernel_rfl))) ?_
 intro W base args ds gs before hval0 hW hcnd hsz0 hL _
 have hsz : (DataW.weightsEach Tryz.prog (Tryz.f8.params.toList ++ Rows.worldModelSpec.plain.varTypes Tryz.prog) (ds ++ gs)).all (· ≤ reachBytes) = true := hsz0
 have hval : ∀ (j : Nat) t v, Tryz.f8.params[j]? = some t → args[j]? = some v → Value.okWide Tryz.prog W .any base t v := hval0
 have hW' := hW
 obtain ⟨p, q, hA0, hV, rfl, hfz, hnd⟩ := hW
 have hA : DataW.TrodAll enc Tryz.prog W 0 (fun _ => true) true Tryz.f8.params.toList args.toList ds p := hA0
 rw [Tryz.params8] at hA hval hsz
 obtain ⟨v0, vs0, d0, ds0, p0, q0, hargs, rfl, rfl, h0, r0⟩ := trodAll_cons hA
 obtain ⟨rfl, rfl, rfl⟩ := trodAll_nil r0
 obtain rfl : args = #[v0] := by cases args; simp_all
 obtain ⟨rfl, rfl⟩ := trodVars_none hV
 have k0 := h0
 have lt0 : ∀ x ∈ p0, x.block < W.heap.size := by obtain ⟨m, hm⟩ := k0; exact DataW.trod_lt m _ _ _ hm
 obtain ⟨a0, len0, cap0, rfl⟩ := okWide_slice Tryz.underlying48 (hval 0 48 v0 rfl rfl)
 have y0 : ∀ n ∈ d0.weights Tryz.prog 48, n ≤ reachBytes := fun n hn => by simpa using List.all_eq_true.1 hsz _ (DataW.weights_mem_each (j := 0) rfl rfl n hn)
 obtain ⟨xs0, R0⟩ := bAo aKf opT y0 h0
 clear hA0 hval0 hsz0 hsz
 refine (aDi W (rdF hL) (rdN hL) _ _ _ xs0 R0).mono fun e W' ⟨v, he, hv, bel⟩ => ?_
 subst he
 subst hv
 exact ⟨_, rfl, _, _, _, [], _, [], hW', trodAll_mk1 (shut_bool Tryz.underlying4 _), (trodAll_cons_mk (Below.trod laidOut (by kernel_rfl) (of_decide_eq_true (by kernel_rfl)) k0 bel lt0) trodAll_mk0), rfl, bel.frame _, fun h => by cases h⟩
theorem andT {a b : Bool} (ha : a = true) (hb : b = true) : (a && b) = true := by rw [ha, hb]; rfl
set_option maxHeartbeats 16000000 in
theorem closed : joinedFacts Tryz.prog 8 Tryz.f8 Rows.worldModelSpec Rows.worldModelRow = true := by
 unfold joinedFacts
 repeat' (with_reducible refine andT ?_ ?_)
 all_goals (as_aux_lemma => kernel_rfl)
theorem over : Rows.worldModelRow.holds Tryz.pinned (OpenSpec.ofChange Rows.worldModelSpec) :=
 OpenClaim.holds_of_wide 8 Tryz.f8 rfl rfl rfl rfl rfl rfl rfl ⟨rfl, rfl, rfl, rfl, rfl⟩ rfl rfl rfl rfl rfl (by kernel_rfl) Tryz.func8 closed
  (of_decide_eq_true (by kernel_rfl)) (by unfold Func.isWrapper; first | (rw [if_pos (by decide +kernel)]; kernel_rfl) | (rw [if_neg (by decide +kernel)]; exact ⟨rfl, rfl⟩))
  (fun os started H enc _ => lifted os started H enc)
end worldModel
theorem worldModel_holds : Rows.WorldModelSaid := worldModel.over
#print axioms worldModel_holds
theorem worldModel_card : Rows.WorldModelCardSaid :=
 Claim7.holds_tied_plain_at .later [] [.data, .data] true (true, "efc75206f113ecd8e5cc872cd0b30c800981909977c6e963415616c654d1aab5") false
  worldModel_holds (fun _ h => by cases h) (by kernel_rfl) (fun _ h => by cases h) worldModel_row_tie rfl ⟨rfl, rfl⟩ (by kernel_rfl) rfl
  (fun f fn hf hfn => by
   obtain rfl : f = 8 := Option.some.inj ((show Tryz.prog.funcNamed "billiard/billiardlaw22.WorldModel" = some 8 by kernel_rfl).symm.trans hf) |>.symm
   obtain rfl : fn = Tryz.f8 := (Option.some.inj (Tryz.func8.symm.trans hfn)).symm
   exact ⟨by kernel_rfl, fun j t ht => by
    rw [Tryz.params8] at ht
    have hm : t ∈ [48] := by simpa using Array.mem_of_getElem? ht
    have hall : ([48].all fun u => !Tryz.prog.wantsStandIn u) = true := by kernel_rfl
    exact (show Tryz.prog.wantsStandIn t = false by simpa using List.all_eq_true.1 hall t hm)⟩)
  (by kernel_rfl)
#print axioms worldModel_card
end Go.Proofs.YtlmcphcgiclanaaGreatDoor
