import Derived.Test.YtaoaknafiegfoaaGreatDoorK2
import Derived.Test.YtaoaknafiegfoaaGreatDoorK5
import Derived.Test.YtaoaknafiegfoaaGreatDoorK35
import Derived.Test.YtaoaknafiegfoaaGreatDoorRows
import Derived.Test.YtaoaknafiegfoaaGreatDoorK36
import Derived.Test.YtaoaknafiegfoaaGreatDoorTie
import Derived.Test.YtaoaknafiegfoaaGreatDoorCards
import Derived.WalkKit
import Derived.ProofKit
import Derived.OpenShut
import Derived.ShutString
import Derived.ChangeOld
import Derived.Below
import Derived.SizedLaws
set_option linter.unusedVariables false
set_option linter.unusedSimpArgs false
set_option linter.unnecessarySimpa false
namespace Go.Proofs.YtaoaknafiegfoaaGreatDoor
open Go.Bil
open Go.RowKit (Below)
open Go.Proofs
set_option maxHeartbeats 64000000 in
theorem tL (w : World) (F : Rd w 2 (some ⟨0, 0, none⟩) 1 [[.int .u32 73856093, .int .u32 19349663]]) (N : Rd w 4 (some ⟨3, 0, none⟩) 1 [cU gP]) (A : Option Addr) (n c : Nat) (l : List OpRow) (hl : OpsRd w A n l) (x : OpRow) (hP : OpOk w x.o x.A x.n x.c) :
  Calls Tryz.prog 9 #[.slice A n c, .agg x.cells.toArray] w (fun ex w' => ∃ v, ex = .returned v ∧ (fun v w' => v = .bool true ∧ Below w.heap.size w w') v w') := by
 have hlen : l.length = n := by simpa using hl.rd.len
 have hbd := hl.rd.bound
 refine aH #[.tmp 4] 42 Tryz.func9 rfl Tryz.results9 Tryz.ntmps9 rfl ?_
 have M0 := Mem.refl w
 refine aD (aA (bC (.agg (List.toArray _)) M0 rfl rfl rfl (fun b1 w1 M1 => (wq (aI (.bool false) rfl) rfl (aB (aC (aD (aD (aA (bX aTf rfl rfl (bEa _ (F.mem M1) (N.mem M1)) ?_))))))))))
 rintro v2 w2 ⟨rfl, hb2⟩
 have M2 := M1.callB hb2
 refine wq (gE false rfl rfl) rfl (wq (aG (.bool false) rfl) rfl (eC rfl rfl (bX bHe rfl rfl (aPn _ A n c l (hl.mem M2)) ?_)))
 rintro v3 w3 ⟨⟨g, rfl, hg⟩, hb3⟩
 have M3 := M2.callB hb3
 refine wq (gE _ rfl rfl) rfl (wq (bW false (.bool _) rfl rfl) rfl (wq (aG (.bool _) rfl) rfl ?_))
 refine lQ 14 _ rfl (fun g14 => ?_) (fun g14 => ?_)
 ·refine aR rfl rfl (aR rfl rfl (aR rfl rfl (aR rfl rfl (aR rfl rfl (aR rfl rfl ?_)))))
  refine aR rfl rfl (aR rfl rfl (wq (bW true (.bool true) rfl rfl) rfl (aB (aC (cQ rfl (aD (aA ?_)))))))
  refine bX aTf rfl rfl (bEa _ (F.mem M3) (N.mem M3)) ?_
  rintro v4 w4 ⟨rfl, hb4⟩
  have M4 := M3.callB hb4
  refine wq (aI (.bool true) rfl) rfl (aB (aC (aN (cJ (cB (.bool true) rfl ?_)))))
  exact ⟨rfl, M4.below⟩
 ·obtain ⟨hn40, hby⟩ := hg (by simpa using g14)
  have hby2 : ∀ x ∈ l, x.n ≤ 1000000 := fun x hx => Nat.le_trans (hby x hx) (by decide)
  have hn2 : n ≤ 1000000 := by omega
  refine wq (aE 0 wM rfl) rfl (wq (aK 0 (.int _ _) iM M3 rfl rfl rfl) rfl (cY rfl rfl rfl rfl (wq (aG (.bool (decide _)) rfl) rfl ?_)))
  refine dK 18 rfl (fun g18 => ?_) (fun g18 => ?_)
  ·refine wq (aE 0 wM rfl) rfl (wq (aK 0 (.int _ _) iM M3 rfl rfl rfl) rfl (cY rfl rfl rfl rfl (wq (bW true (.bool (decide _)) rfl rfl) rfl (wq (bW false (.bool (decide _)) rfl rfl) rfl (aB (aC ?_))))))
   refine bE rfl (fun h23 => ?_) (fun h23 => ?_)
   ·refine aD (aA (bX aTf rfl rfl (bEa _ (F.mem M3) (N.mem M3)) ?_))
    rintro v5 w5 ⟨rfl, hb5⟩
    have M5 := M3.callB hb5
    refine wq (aI (.bool true) rfl) rfl (aB (aC (aN (cJ (cB (.bool true) rfl ?_)))))
    exact ⟨rfl, M5.below⟩
   ·refine aM (aC (aD (aA (eC rfl rfl (bX bBe rfl rfl (aBo _ A n c l (hl.mem M3) hn2) ?_)))))
    rintro v6 w6 ⟨q1, rfl, hq1, hM6⟩
    have M6 : Mem _ _ [_, _] _ := M3.call0 hM6
    have hq1n : (l).length = q1.n := by simpa using hq1.1
    refine bX aSu rfl rfl (nU _ (F.mem M6) (N.mem M6) q1.A q1.n q1.c l ⟨(hq1.rd M6 (aV (i := 1) rfl)), fun x hx => (hl.each x hx).mem M6⟩ hby2 (by omega)) ?_
    rintro v7 w7 ⟨wb, r0, rfl, hr0, hM7⟩
    have M7 : Mem _ _ [_, _, _, _, _] _ := M6.call0 hM7
    refine wq (aI (.pointer _) rfl) rfl (aB (aC (aD (aA (wq (aG (.pointer _) rfl) rfl (bX aCc rfl rfl (jR _ _ r0 _ hr0 (M7.ownSeg 2 3)) ?_))))))
    rintro v8 w8 ⟨qv, rfl, hqv, hM8⟩
    have M8 : Mem _ _ [_, _, _, _, _, _] _ := M7.seg 2 3 hM8
    refine fL rfl rfl (aB (aC (aD (aA (wq (aG (.pointer _) rfl) rfl (wq (bA 0 aVi M8 rfl rfl rfl) rfl (aS 31 (.agg (dV x.o x.A x.n x.c).toArray) rfl (bX aUt rfl rfl (mK _ x.o x.A x.n x.c) ?_))))))))
    rintro v9 w9 ⟨rfl, hb9⟩
    have M9 := M8.callB hb9
    have hun : ¬ (1 ≤ x.o.kind ∧ x.o.kind ≤ 6) := by omega
    refine bX aTq rfl rfl (rL _ _ r0 _ hr0 (M9.ownSeg 2 3) x.o x.A x.n x.c (hP.mem M9) (M9.away 2 3 hP.rd (by simp)) (by omega)) ?_
    rintro v10 w10 ⟨r2, p2, rfl, hr2, hp2, hM10⟩
    have M10 : Mem _ _ [_, _, _, _, _, _, _] _ := M9.seg 2 3 hM10
    rw [gY hun] at hr2 hp2
    refine aS 33 (.agg (cX { gB with err := 1 } p2).toArray) (congrArg (fun x : List Body × ResI => Value.agg (cX x.2 p2).toArray) (gY hun)) (wq (cD [(0, .int _ _)] _ sX rfl rfl) rfl (bX aRt rfl rfl (rP _ { gB with err := 1 } p2 fP (hp2.rd M10 (aV (i := 6) rfl)) (Rd.nil _ _ _)) ?_))
    rintro v11 w11 ⟨rfl, hb11⟩
    have M11 := M10.callB hb11
    refine wq (aG (.bool true) rfl) rfl (wq (aG (.pointer _) rfl) rfl (bX aCc rfl rfl (jR _ _ r2 _ hr2 (M11.ownSeg 2 3)) ?_))
    rintro v12 w12 ⟨qx, rfl, hqx, hM12⟩
    have M12 : Mem _ _ [_, _, _, _, _, _, _, _] _ := M11.seg 2 3 hM12
    refine eC rfl rfl (bX bAz rfl rfl (yI _ _ _ _ _ (hqx.rd M12 (aV (i := 7) rfl)) _ _ _ _ (hqv.rd M12 (aV (i := 5) rfl))) ?_)
    rintro v13 w13 ⟨rfl, hb13⟩
    have M13 := M12.callB hb13
    refine oG 40 rfl rfl (wq (bW true (.bool true) rfl rfl) rfl (wq (aI (.bool true) rfl) rfl (aB (aC (aN (cB (.bool true) rfl ?_))))))
    exact ⟨rfl, M13.below⟩
  ·refine aR rfl rfl (aR rfl rfl (aR rfl rfl (wq (bW false (.bool false) rfl rfl) rfl (wq (bW false (.bool false) rfl rfl) rfl (aB (aC ?_))))))
   refine cC rfl (aM (aC (aD (aA (eC rfl rfl (bX bBe rfl rfl (aBo _ A n c l (hl.mem M3) hn2) ?_))))))
   rintro v14 w14 ⟨q1, rfl, hq1, hM14⟩
   have M14 : Mem _ _ [_, _] _ := M3.call0 hM14
   have hq1n : (l).length = q1.n := by simpa using hq1.1
   refine bX aSu rfl rfl (nU _ (F.mem M14) (N.mem M14) q1.A q1.n q1.c l ⟨(hq1.rd M14 (aV (i := 1) rfl)), fun x hx => (hl.each x hx).mem M14⟩ hby2 (by omega)) ?_
   rintro v15 w15 ⟨wb, r0, rfl, hr0, hM15⟩
   have M15 : Mem _ _ [_, _, _, _, _] _ := M14.call0 hM15
   refine wq (aI (.pointer _) rfl) rfl (aB (aC (aD (aA (wq (aG (.pointer _) rfl) rfl (bX aCc rfl rfl (jR _ _ r0 _ hr0 (M15.ownSeg 2 3)) ?_))))))
   rintro v16 w16 ⟨qv, rfl, hqv, hM16⟩
   have M16 : Mem _ _ [_, _, _, _, _, _] _ := M15.seg 2 3 hM16
   refine fL rfl rfl (aB (aC (aD (aA (wq (aG (.pointer _) rfl) rfl (wq (bA 0 aVi M16 rfl rfl rfl) rfl (aS 31 (.agg (dV x.o x.A x.n x.c).toArray) rfl (bX aUt rfl rfl (mK _ x.o x.A x.n x.c) ?_))))))))
   rintro v17 w17 ⟨rfl, hb17⟩
   have M17 := M16.callB hb17
   have hun : ¬ (1 ≤ x.o.kind ∧ x.o.kind ≤ 6) := by omega
   refine bX aTq rfl rfl (rL _ _ r0 _ hr0 (M17.ownSeg 2 3) x.o x.A x.n x.c (hP.mem M17) (M17.away 2 3 hP.rd (by simp)) (by omega)) ?_
   rintro v18 w18 ⟨r2, p2, rfl, hr2, hp2, hM18⟩
   have M18 : Mem _ _ [_, _, _, _, _, _, _] _ := M17.seg 2 3 hM18
   rw [gY hun] at hr2 hp2
   refine aS 33 (.agg (cX { gB with err := 1 } p2).toArray) (congrArg (fun x : List Body × ResI => Value.agg (cX x.2 p2).toArray) (gY hun)) (wq (cD [(0, .int _ _)] _ sX rfl rfl) rfl (bX aRt rfl rfl (rP _ { gB with err := 1 } p2 fP (hp2.rd M18 (aV (i := 6) rfl)) (Rd.nil _ _ _)) ?_))
   rintro v19 w19 ⟨rfl, hb19⟩
   have M19 := M18.callB hb19
   refine wq (aG (.bool true) rfl) rfl (wq (aG (.pointer _) rfl) rfl (bX aCc rfl rfl (jR _ _ r2 _ hr2 (M19.ownSeg 2 3)) ?_))
   rintro v20 w20 ⟨qx, rfl, hqx, hM20⟩
   have M20 : Mem _ _ [_, _, _, _, _, _, _, _] _ := M19.seg 2 3 hM20
   refine eC rfl rfl (bX bAz rfl rfl (yI _ _ _ _ _ (hqx.rd M20 (aV (i := 7) rfl)) _ _ _ _ (hqv.rd M20 (aV (i := 5) rfl))) ?_)
   rintro v21 w21 ⟨rfl, hb21⟩
   have M21 := M20.callB hb21
   refine oG 40 rfl rfl (wq (bW true (.bool true) rfl rfl) rfl (wq (aI (.bool true) rfl) rfl (aB (aC (aN (cB (.bool true) rfl ?_))))))
   exact ⟨rfl, M21.below⟩
namespace scriptUnknown
open Go.ChangeShapes Go.WideShapes Go.ChangeAt Go.RowKit
open Go.ChangeMaps (open_string shut_string)
theorem own : ownKnob Tryz.prog.godebug = none := by kernel_rfl
theorem laidOut : laidOutB Tryz.prog = true := by kernel_rfl
set_option maxRecDepth 100000 in
theorem lifted (os : Os) (started : os.Started) (H : Type) (enc : TypeId × Value → H) :
  ReturnsInHanded {} Tryz.checked os 9 .any (fun w args => (Rows.scriptUnknownSpec.pre enc Tryz.prog Tryz.f9 [] false w args ∧ laidMet Tryz.prog wY w) ∧ sizedMet enc Tryz.prog Tryz.f9 (OpenSpec.ofChange Rows.scriptUnknownSpec) false w args) (Rows.scriptUnknownSpec.post enc Tryz.prog Tryz.f9 false true false false) := by
 refine returnsInHanded_of_change_and (C := Tryz.checked) (X := fun w _ => laidMet Tryz.prog wY w) (fun _ _ _ hh h => h.of_heap hh) own started (by kernel_rfl) Tryz.func9
  (ChangeSpec.witness_at (enc := enc) (C := Tryz.checked) (os := os) (X := fun w _ => laidMet Tryz.prog wY w) false (aNt os) #[.slice none 0 0, (.agg #[.int .i64 0, .int .u32 0, .int .i32 0, .int .i32 0, .int .i32 0, .int .i32 0, .int .i32 0, .int .i32 0, .int .i32 0, .int .i32 0, .int .i32 0, .int .u32 0, .int .i32 0, .int .i32 0, .slice none 0 0])] 8 rfl (by kernel_rfl) (by kernel_rfl) (by kernel_rfl) (by kernel_rfl) (by kernel_rfl) (laidMet_of_run' 8 (by kernel_rfl) (by kernel_rfl))) ?_
 intro W base args ds gs before hval0 hW hcnd hsz0 hL _
 have hsz : (DataW.weightsEach Tryz.prog (Tryz.f9.params.toList ++ Rows.scriptUnknownSpec.plain.varTypes Tryz.prog) (ds ++ gs)).all (· ≤ reachBytes) = true := hsz0
 have hval : ∀ (j : Nat) t v, Tryz.f9.params[j]? = some t → args[j]? = some v → Value.okWide Tryz.prog W .any base t v := hval0
 have hW' := hW
 obtain ⟨p, q, hA0, hV, rfl, hfz, hnd⟩ := hW
 have hA : DataW.TrodAll enc Tryz.prog W 0 (fun _ => true) true Tryz.f9.params.toList args.toList ds p := hA0
 rw [Tryz.params9] at hA hval hsz
 obtain ⟨v0, vs0, d0, ds0, p0, q0, hargs, rfl, rfl, h0, r0⟩ := trodAll_cons hA
 obtain ⟨v1, vs1, d1, ds1, p1, q1, rfl, rfl, rfl, h1, r1⟩ := trodAll_cons r0
 obtain ⟨rfl, rfl, rfl⟩ := trodAll_nil r1
 obtain rfl : args = #[v0, v1] := by cases args; simp_all
 obtain ⟨rfl, rfl⟩ := trodVars_none hV
 have k0 := h0
 have lt0 : ∀ x ∈ p0, x.block < W.heap.size := by obtain ⟨m, hm⟩ := k0; exact DataW.trod_lt m _ _ _ hm
 obtain ⟨a0, len0, cap0, rfl⟩ := okWide_slice Tryz.underlying22 (hval 0 22 v0 rfl rfl)
 have y0 : ∀ n ∈ d0.weights Tryz.prog 22, n ≤ reachBytes := fun n hn => by simpa using List.all_eq_true.1 hsz _ (DataW.weights_mem_each (j := 0) rfl rfl n hn)
 obtain ⟨xs0, R0⟩ := aWg aYi bAn y0 h0
 have k1 := h1
 have lt1 : ∀ x ∈ p1, x.block < W.heap.size := by obtain ⟨m, hm⟩ := k1; exact DataW.trod_lt m _ _ _ hm
 have y1 : ∀ n ∈ d1.weights Tryz.prog 46, n ≤ reachBytes := fun n hn => by simpa using List.all_eq_true.1 hsz _ (DataW.weights_mem_each (j := 1) rfl rfl n hn)
 obtain ⟨x1, rfl, X1⟩ := aXs bAn y1 h1
 clear hA0 hval0 hsz0 hsz
 refine (tL W (rdF hL) (rdN hL) _ _ _ xs0 R0 x1 X1).mono fun e W' ⟨v, he, hv, bel⟩ => ?_
 subst he
 subst hv
 exact ⟨_, rfl, _, _, _, [], _, [], hW', trodAll_mk1 (shut_bool Tryz.underlying4 _), (trodAll_cons_mk (Below.trod laidOut (by kernel_rfl) (of_decide_eq_true (by kernel_rfl)) k0 bel lt0) (trodAll_cons_mk (Below.trod laidOut (by kernel_rfl) (of_decide_eq_true (by kernel_rfl)) k1 bel lt1) trodAll_mk0)), rfl, bel.frame _, fun h => by cases h⟩
theorem andT {a b : Bool} (ha : a = true) (hb : b = true) : (a && b) = true := by rw [ha, hb]; rfl
set_option maxHeartbeats 16000000 in
theorem closed : joinedFacts Tryz.prog 9 Tryz.f9 Rows.scriptUnknownSpec Rows.scriptUnknownRow = true := by
 unfold joinedFacts
 repeat' (with_reducible refine andT ?_ ?_)
 all_goals (as_aux_lemma => kernel_rfl)
theorem over : Rows.scriptUnknownRow.holds Tryz.pinned (OpenSpec.ofChange Rows.scriptUnknownSpec) :=
 OpenClaim.holds_of_wide 9 Tryz.f9 rfl rfl rfl rfl rfl rfl rfl ⟨rfl, rfl, rfl, rfl, rfl⟩ rfl rfl rfl rfl rfl (by kernel_rfl) Tryz.func9 closed
  (of_decide_eq_true (by kernel_rfl)) (by unfold Func.isWrapper; first | (rw [if_pos (by decide +kernel)]; kernel_rfl) | (rw [if_neg (by decide +kernel)]; exact ⟨rfl, rfl⟩))
  (fun os started H enc _ => lifted os started H enc)
end scriptUnknown
theorem scriptUnknown_holds : Rows.ScriptUnknownSaid := scriptUnknown.over
#print axioms scriptUnknown_holds
theorem scriptUnknown_cw : Rows.scriptUnknownRow.wfByText (OpenSpec.ofChange Rows.scriptUnknownSpec) = true := by kernel_rfl
theorem scriptUnknown_cl : false = Tryz.checked.prog.looks [] := by kernel_rfl
theorem scriptUnknown_cg : false = Rows.scriptUnknownRow.goesBy Tryz.pinned.checked.prog := by kernel_rfl
theorem scriptUnknown_cm : Tryz.pinned.checked.prog.mainIs = some (true, "60fad30dfb67d9dd14e679b449d58df77fa72712b07425b57b34720f96154737".toList) := by kernel_rfl
theorem scriptUnknown_cf : Tryz.prog.funcNamed "billiard/billiardlaw23.ScriptUnknown" = some 9 := by kernel_rfl
theorem scriptUnknown_card : Rows.ScriptUnknownCardSaid :=
 Claim7.holds_tied_plain_at .later [] [.data, .data] true (true, "60fad30dfb67d9dd14e679b449d58df77fa72712b07425b57b34720f96154737") false
  scriptUnknown_holds (fun _ h => by cases h) scriptUnknown_cw (fun _ h => by cases h) scriptUnknown_row_tie rfl ⟨rfl, rfl⟩ scriptUnknown_cm rfl
  (fun f fn hf hfn => by
   obtain rfl : f = 9 := Option.some.inj (scriptUnknown_cf.symm.trans hf) |>.symm
   obtain rfl : fn = Tryz.f9 := (Option.some.inj (Tryz.func9.symm.trans hfn)).symm
   exact ⟨scriptUnknown_cl, fun j t ht => by
    rw [Tryz.params9] at ht
    have hm : t ∈ [22, 46] := by simpa using Array.mem_of_getElem? ht
    have hall : ([22, 46].all fun u => !Tryz.prog.wantsStandIn u) = true := by kernel_rfl
    exact (show Tryz.prog.wantsStandIn t = false by simpa using List.all_eq_true.1 hall t hm)⟩)
  scriptUnknown_cg
#print axioms scriptUnknown_card
end Go.Proofs.YtaoaknafiegfoaaGreatDoor
