import Derived.Test.YtlmcphcgiclanaaGreatDoorK2
import Derived.Test.YtlmcphcgiclanaaGreatDoorK5
import Derived.Test.YtlmcphcgiclanaaGreatDoorK35
import Derived.Test.YtlmcphcgiclanaaGreatDoorRows
import Derived.Test.YtlmcphcgiclanaaGreatDoorK36
import Derived.Test.YtlmcphcgiclanaaGreatDoorTie
import Derived.Test.YtlmcphcgiclanaaGreatDoorCards
import Derived.WalkKit
import Derived.ProofKit
import Derived.OpenShut
import Derived.ShutString
import Derived.ChangeOld
import Derived.Below
import Derived.SizedLaws
set_option linter.unusedVariables false
set_option linter.unusedSimpArgs false
set_option linter.unnecessarySimpa false
namespace Go.Proofs.YtlmcphcgiclanaaGreatDoor
open Go.Bil
open Go.RowKit (Below)
open Go.Proofs
set_option maxHeartbeats 32000000 in
theorem zQ (w : World) (F : Rd w 2 (some ⟨0, 0, none⟩) 1 [[.int .u32 73856093, .int .u32 19349663]]) (N : Rd w 4 (some ⟨3, 0, none⟩) 1 [dD iS]) (A : Option Addr) (n c : Nat) (l : List OpRow) (hl : OpsRd w A n l) (key : Int) (hkey : 0 ≤ key ∧ key ≤ 4294967295) :
  Calls Tryz.prog 13 #[.slice A n c, .int .u32 key] w (fun ex w' => ∃ v, ex = .returned v ∧ (fun v w' => v = .bool true ∧ Below w.heap.size w w') v w') := by
 have hlen : l.length = n := by simpa using hl.rd.len
 have hbd := hl.rd.bound
 refine aH #[.tmp 4] 94 Tryz.func13 rfl Tryz.results13 Tryz.ntmps13 rfl ?_
 have M0 := Mem.refl w
 refine aD (aA (wq (aI (.bool false) rfl) rfl (aB (aC (aD (aD (aA (bY aXx rfl rfl (bEm _ (F.mem M0) (N.mem M0)) ?_))))))))
 rintro v1 w1 ⟨rfl, hb1⟩
 have M1 := M0.callB hb1
 refine wq (jJ false rfl rfl) rfl (wq (aG (.bool false) rfl) rfl (eK rfl rfl (bY bEo rfl rfl (aNl _ A n c l (hl.mem M1)) ?_)))
 rintro v2 w2 ⟨⟨g, rfl, hg⟩, hb2⟩
 have M2 := M1.callB hb2
 refine wq (jJ _ rfl rfl) rfl (wq (bN false (.bool _) rfl rfl) rfl (aB (aC ?_)))
 refine gJ _ rfl (fun h19 => ?_) (fun h19 => ?_)
 ·refine aD (aA (bY aXx rfl rfl (bEm _ (F.mem M2) (N.mem M2)) ?_))
  rintro v3 w3 ⟨rfl, hb3⟩
  have M3 := M2.callB hb3
  refine wq (aI (.bool true) rfl) rfl (aB (aC (aN (cH (cA (.bool true) rfl ?_)))))
  exact ⟨rfl, M3.below⟩
 ·obtain ⟨hn40, hby⟩ := hg (by simpa using h19)
  refine aL (aC (aD (aA (aQ aRo M2 rfl rfl (fun b4 w4 M4 => ?_)))))
  have M5 := (M4.dummy default).dummy default
  refine aB (aC (aD (aD (aA (bI rfl rfl (aB (aC (aT (dN (σ := Nat × StV × List Body) [0, 1, 5] (fun (i, r, vs) => [(6, .int .i64 (i : Int))]) (fun (i, r, vs) w' => (i ≤ n ∧ dU 40 r vs) ∧ Mem w [] [(some b4, bc [.slice r.A r.n r.c, .map r.p] 56), r.er, r.em] w') (fun (i, r, vs) => n - i) (0, ⟨none, 0, 0, none, (none, default), (none, default)⟩, []) (bK rfl fC) (⟨⟨by omega, (dU.new 40 default default)⟩, M5⟩) ?_)))))))))
  rintro ⟨i, r, vs⟩ ρ6 w6 ⟨⟨hi, hr⟩, hM6⟩
  refine aD (aD (aA (aV rfl rfl (eK rfl rfl (wq (cR Tryz.underlying48 rfl) rfl (cS rfl rfl rfl rfl (aB (aC ?_))))))))
  refine aX rfl (fun h24 => ?_) (fun h24 => ?_)
  ·obtain ⟨x, hx⟩ := cL (xs := l) (k := i) hlen (by omega)
   have hP := hl.each x (List.mem_of_getElem? hx)
   have hxn := hby x (List.mem_of_getElem? hx)
   refine aL (aC (aD (aT (aD (aD (aA (eK rfl rfl (aV rfl rfl (wq (bX (i) aLt rfl rfl rfl ((hl.rd.mem hM6).below_len (aJ OpRow.cells hx)) ((hl.rd.mem hM6).someK (aJ OpRow.cells hx))) rfl (wq (bO 0 aDe (hl.rd.mem hM6) (Nat.lt_of_le_of_lt (Nat.zero_le _) ((hl.rd.mem hM6).below_len (aJ OpRow.cells hx))) rfl) rfl ?_))))))))))
   refine wq (eH (o := 0) (.int _ _) mA (hl.rd.mem hM6) (aJ OpRow.cells hx) rfl rfl) rfl (cS rfl rfl rfl rfl (wq (aG (.bool (decide _)) rfl) rfl ?_))
   refine dE 33 rfl (fun g33 => ?_) (fun g33 => ?_)
   ·refine bY aBe rfl rfl (kW _ _ r _ hr (hM6.ownSeg 0 3)) ?_
    rintro v7 w7 ⟨qs, rfl, hqs, hM7⟩
    have M7 : Mem _ _ [_, _, _, _] _ := hM6.seg 0 3 hM7
    refine bY bEj rfl rfl (aEn _ qs.A qs.n qs.c) ?_
    rintro v8 w8 ⟨rfl, hb8⟩
    have M8 := M7.callB hb8
    refine wq (qC rfl) rfl (wq (bN true (.bool (decide _)) rfl rfl) rfl (aB (aC ?_)))
    refine aX rfl (fun h37 => ?_) (fun h37 => ?_)
    ·refine aD (aA (wq (aI (.bool true) rfl) rfl (aB (aC (aN (cH (jC (cH (sQ ?_)))))))))
     refine jC (cH (cA (.bool true) rfl ?_))
     exact ⟨rfl, M8.below⟩
    ·refine aL (aC (aA (eK rfl rfl (aV rfl rfl (wq (bX (i) aLt rfl rfl rfl ((hl.rd.mem M8).below_len (aJ OpRow.cells hx)) ((hl.rd.mem M8).someK (aJ OpRow.cells hx))) rfl (wq (eB _ aXz (hl.rd.mem M8) (aJ OpRow.cells hx) rfl) rfl (aS 41 (.agg (vP x.o x.A x.n x.c).toArray) rfl ?_)))))))
     refine bY aYm rfl rfl (aFp _ (F.mem M8) (N.mem M8) _ r _ hr (M8.ownSeg 0 3) (M8.away 0 3 F (by simp)) (M8.away 0 3 N (by simp)) x.o x.A x.n x.c (hP.mem M8) (by omega) (M8.away 0 3 hP.rd (by simp))) ?_
     rintro v9 w9 ⟨r2, p1, rfl, hr2, hp1, hM9⟩
     have M9 : Mem _ _ [_, _, _, _, _] _ := M8.seg 0 3 hM9
     refine aB (cV (aC (aA (aV rfl rfl (wq (bM rfl rfl (by omega) (by omega)) rfl (bI rfl rfl ?_))))))
     refine aB ?_
     refine cQ (i + 1, r2, (zF vs x.o).1) (bK rfl fC) (cU rfl (cU rfl (cU rfl kE))) ?_ ?_
     ·exact ⟨⟨by omega, hr2⟩, M9.keep [true, true, true, false, false]⟩
     ·(show n - (i + 1) < n - i; omega)
   ·refine aR rfl rfl (aR rfl rfl (aR rfl rfl (wq (bN false (.bool false) rfl rfl) rfl (aB (aC (cC rfl ?_))))))
    refine aL (aC (aA (eK rfl rfl (aV rfl rfl (wq (bX (i) aLt rfl rfl rfl ((hl.rd.mem hM6).below_len (aJ OpRow.cells hx)) ((hl.rd.mem hM6).someK (aJ OpRow.cells hx))) rfl (wq (eB _ aXz (hl.rd.mem hM6) (aJ OpRow.cells hx) rfl) rfl (aS 41 (.agg (vP x.o x.A x.n x.c).toArray) rfl ?_)))))))
    refine bY aYm rfl rfl (aFp _ (F.mem hM6) (N.mem hM6) _ r _ hr (hM6.ownSeg 0 3) (hM6.away 0 3 F (by simp)) (hM6.away 0 3 N (by simp)) x.o x.A x.n x.c (hP.mem hM6) (by omega) (hM6.away 0 3 hP.rd (by simp))) ?_
    rintro v10 w10 ⟨r2, p1, rfl, hr2, hp1, hM10⟩
    have M10 : Mem _ _ [_, _, _, _] _ := hM6.seg 0 3 hM10
    refine aB (cV (aC (aA (aV rfl rfl (wq (bM rfl rfl (by omega) (by omega)) rfl (bI rfl rfl ?_))))))
    refine aB ?_
    refine cQ (i + 1, r2, (zF vs x.o).1) (bK rfl fC) (cU rfl (cU rfl (cU rfl kE))) ?_ ?_
    ·exact ⟨⟨by omega, hr2⟩, M10.keep [true, true, true, false]⟩
    ·(show n - (i + 1) < n - i; omega)
  ·refine cN (dB (cZ (eZ (aC (aD (aA (bY aBe rfl rfl (kW _ _ r _ hr (hM6.ownSeg 0 3)) ?_)))))))
   rintro v11 w11 ⟨q, rfl, hq, hM11⟩
   have M11 : Mem _ _ [_, _, _, _] _ := hM6.seg 0 3 hM11
   have hqn : vs.length = q.n := by simpa using hq.1
   have hkv := hr.1.s.keys
   have hvl := hr.1.len
   refine fZ rfl rfl (aB (aC (aD (aD (aA (bI rfl rfl (aB (aC (aT (dN (σ := Nat) [1, 5, 7] (fun k => [(8, .int .i64 (k : Int))]) (fun k w' => k ≤ q.n ∧ Mem w [] [(some b4, bc [.slice r.A r.n r.c, .map r.p] 56), r.er, r.em, q.e] w') (fun k => q.n - k) 0 (bK rfl fC) (⟨by omega, M11⟩) ?_))))))))))
   rintro k ρ12 w12 ⟨hk, hM12⟩
   refine aD (aD (aA (aV rfl rfl (eK rfl rfl (wq (cR Tryz.underlying22 rfl) rfl (cS rfl rfl rfl rfl (aB (aC ?_))))))))
   refine aX rfl (fun h47 => ?_) (fun h47 => ?_)
   ·obtain ⟨bb, hbb⟩ := cL (xs := vs) (k := k) hqn (by omega)
    have hge := aLm (aRr hkv hbb) hbb
    refine aL (aC (aD (aT (aD (aA (eK rfl rfl (aV rfl rfl (wq (bX (k) eX rfl rfl rfl ((hq.rd hM12 (bC (i := 3) rfl)).below_len (aJ aF hbb)) ((hq.rd hM12 (bC (i := 3) rfl)).someK (aJ aF hbb))) rfl (wq (bO 0 eJ (hq.rd hM12 (bC (i := 3) rfl)) (Nat.lt_of_le_of_lt (Nat.zero_le _) ((hq.rd hM12 (bC (i := 3) rfl)).below_len (aJ aF hbb))) rfl) rfl ?_)))))))))
    refine wq (eH (o := 0) (.int _ _) bU (hq.rd hM12 (bC (i := 3) rfl)) (aJ aF hbb) rfl rfl) rfl (bY aFs rfl rfl (mO _ _ r _ hr (hM12.ownSeg 0 3) bb.key) ?_)
    rintro v13 w13 ⟨rfl, hM13⟩
    have M13 : Mem _ _ [_, _, _, _] _ := hM12.seg 0 3 hM13
    refine wq (aG (.tuple (List.toArray _)) rfl) rfl (wq (bE (.agg (List.toArray _)) rfl rfl) rfl (aS 57 ((.agg (aF bb).toArray)) (congrArg (fun x : ResI => Value.agg (aF x.body).toArray) hge) (wq (bE (.int _ _) rfl rfl) rfl (aS 58 (.int .i64 0) (iE (by rw [hge]; rfl)) (aQ fQ M13 rfl rfl (fun b14 w14 M14 => ?_))))))
    refine bB 4 _ bL M14 rfl rfl rfl rfl rfl (aP rfl) rfl (fun w15 M15 => (bI rfl rfl (aB (aC (aD (bV [(0, 0), (1, 0), (2, 0), (3, 1), (4, 0), (5, 0), (6, 1), (7, 1), (8, 0), (9, 0)] mixed rfl (by kernel_rfl) (fun w16 hb16 hh16 => ?_)))))))
    have M16 := M15.drew hb16 hh16
    refine iB rfl rfl rfl (aZ rfl rfl rfl (fun _ => dT (.bool (decide _)) rfl rfl rfl) (aZ rfl rfl rfl (fun _ => aG (.bool false) rfl) (cB rfl rfl rfl (aY 4 bL M16 rfl rfl rfl) (DmS rfl rfl rfl (iB rfl rfl rfl ?_)))))
    refine cB rfl rfl rfl (bX (k) eX rfl rfl rfl ((hq.rd M16 (bC (i := 3) rfl)).below_len (aJ aF hbb)) ((hq.rd M16 (bC (i := 3) rfl)).someK (aJ aF hbb))) (cB rfl rfl rfl (eB _ bL (hq.rd M16 (bC (i := 3) rfl)) (aJ aF hbb) rfl) (aZ rfl rfl rfl (fun _ => bCy (aPh bb bb) rfl rfl) ?_))
    refine iH 67 (.bool false) (bF (fun h => h rfl)).symm (aZ rfl rfl rfl (fun _ => bN false (.bool false) rfl rfl) (cG (aC (cC rfl (aL ?_)))))
    refine cV (aC (aA (aV rfl rfl (wq (bM rfl rfl (by omega) (by omega)) rfl (bI rfl rfl (aB ?_))))))
    refine cQ (k + 1) (bK rfl fC) (cU rfl (cU rfl (cU rfl kE))) ?_ ?_
    ·exact ⟨by omega, M16.keep [true, true, true, true, false]⟩
    ·omega
   ·refine cN (dB (cZ (eZ (aC (aD (aA (aV rfl rfl ?_)))))))
    refine bY aFs rfl rfl (mO _ _ r _ hr (hM12.ownSeg 0 3) key) ?_
    rintro v17 w17 ⟨rfl, hM17⟩
    have M17 : Mem _ _ [_, _, _, _] _ := hM12.seg 0 3 hM17
    have hgk := aQq vs key
    refine wq (aG (.tuple (List.toArray _)) rfl) rfl (wq (bE (.agg (List.toArray _)) rfl rfl) rfl (wq (bE (.int _ _) rfl rfl) rfl (aQ fQ M17 rfl rfl (fun b18 w18 M18 => (bB 4 _ bL M18 rfl rfl rfl rfl rfl (aP rfl) rfl (fun w19 M19 => (bI rfl rfl ?_)))))))
    refine aB (aC (aD (aA (aV rfl rfl (cS rfl rfl rfl rfl (eK rfl rfl (aV rfl rfl (bY bDf rfl rfl (aHe _ key _ _ _ vs (hq.rd M19 (bC (i := 3) rfl))) ?_))))))))
    rintro v20 w20 ⟨rfl, hb20⟩
    have M20 := M19.callB hb20
    refine cS rfl rfl rfl rfl (wq (sN _ Tryz.underlying4 rfl rfl rfl) rfl (aS 80 (.bool true) (bv rfl (by simp only [beq_iff_eq, decide_eq_decide]; omega)) (wq (aG (.bool true) rfl) rfl (aV rfl rfl (cS rfl rfl rfl rfl ?_)))))
    refine wq (aG (.bool (decide _)) rfl) rfl ?_
    refine dE 84 rfl (fun g84 => ?_) (fun g84 => ?_)
    ·refine aR rfl rfl (aR rfl rfl (aR rfl rfl (aR rfl rfl (aR rfl rfl (aR rfl rfl ?_)))))
     refine aR rfl rfl (wq (bN true (.bool true) rfl rfl) rfl (wq (bN true (.bool true) rfl rfl) rfl (wq (aI (.bool true) rfl) rfl (aB (aC (aN (cA (.bool true) rfl ?_)))))))
     exact ⟨rfl, M20.below⟩
    ·refine aV rfl rfl (cS rfl rfl rfl rfl (lQ 86 rfl (by omega) (wq (aG (.bool true) rfl) rfl (wq (aY 4 bL M20 rfl rfl rfl) rfl (wq (cI [] _ mQ rfl rfl) rfl ?_)))))
     refine wq (aTf (aPh (iO vs key).body aJg) rfl rfl) rfl (lQ 90 rfl ((hgk.2.2) g84) (wq (bN true (.bool true) rfl rfl) rfl (wq (bN false (.bool true) rfl rfl) rfl (wq (bN true (.bool true) rfl rfl) rfl (wq (aI (.bool true) rfl) rfl ?_)))))
     refine aB (aC (aN (cA (.bool true) rfl ?_)))
     exact ⟨rfl, M20.below⟩
namespace worldGets
open Go.ChangeShapes Go.WideShapes Go.ChangeAt Go.RowKit
open Go.ChangeMaps (open_string shut_string)
theorem own : ownKnob Tryz.prog.godebug = none := by kernel_rfl
theorem laidOut : laidOutB Tryz.prog = true := by kernel_rfl
set_option maxRecDepth 100000 in
theorem lifted (os : Os) (started : os.Started) (H : Type) (enc : TypeId × Value → H) :
  ReturnsInHanded {} Tryz.checked os 13 .any (fun w args => (Rows.worldGetsSpec.pre enc Tryz.prog Tryz.f13 [] false w args ∧ laidMet Tryz.prog wA w) ∧ sizedMet enc Tryz.prog Tryz.f13 (OpenSpec.ofChange Rows.worldGetsSpec) false w args) (Rows.worldGetsSpec.post enc Tryz.prog Tryz.f13 false true false false) := by
 refine returnsInHanded_of_change_and (C := Tryz.checked) (X := fun w _ => laidMet Tryz.prog wA w) (fun _ _ _ hh h => h.of_heap hh) own started (by kernel_rfl) Tryz.func13
  (ChangeSpec.witness_at (enc := enc) (C := Tryz.checked) (os := os) (X := fun w _ => laidMet Tryz.prog wA w) false (aLx os) #[.slice none 0 0, .int .u32 0] 8 rfl (by kernel_rfl) (by kernel_rfl) (by kernel_rfl) (by kernel_rfl) (by kernel_rfl) (laidMet_of_run' 8 (by kernel_rfl) (by kernel_rfl))) ?_
 intro W base args ds gs before hval0 hW hcnd hsz0 hL _
 have hsz : (DataW.weightsEach Tryz.prog (Tryz.f13.params.toList ++ Rows.worldGetsSpec.plain.varTypes Tryz.prog) (ds ++ gs)).all (· ≤ reachBytes) = true := hsz0
 have hval : ∀ (j : Nat) t v, Tryz.f13.params[j]? = some t → args[j]? = some v → Value.okWide Tryz.prog W .any base t v := hval0
 have hW' := hW
 obtain ⟨p, q, hA0, hV, rfl, hfz, hnd⟩ := hW
 have hA : DataW.TrodAll enc Tryz.prog W 0 (fun _ => true) true Tryz.f13.params.toList args.toList ds p := hA0
 rw [Tryz.params13] at hA hval hsz
 obtain ⟨v0, vs0, d0, ds0, p0, q0, hargs, rfl, rfl, h0, r0⟩ := trodAll_cons hA
 obtain ⟨v1, vs1, d1, ds1, p1, q1, rfl, rfl, rfl, h1, r1⟩ := trodAll_cons r0
 obtain ⟨rfl, rfl, rfl⟩ := trodAll_nil r1
 obtain rfl : args = #[v0, v1] := by cases args; simp_all
 obtain ⟨rfl, rfl⟩ := trodVars_none hV
 have k0 := h0
 have lt0 : ∀ x ∈ p0, x.block < W.heap.size := by obtain ⟨m, hm⟩ := k0; exact DataW.trod_lt m _ _ _ hm
 obtain ⟨a0, len0, cap0, rfl⟩ := okWide_slice Tryz.underlying48 (hval 0 48 v0 rfl rfl)
 have y0 : ∀ n ∈ d0.weights Tryz.prog 48, n ≤ reachBytes := fun n hn => by simpa using List.all_eq_true.1 hsz _ (DataW.weights_mem_each (j := 0) rfl rfl n hn)
 obtain ⟨xs0, R0⟩ := aRs aLt opT y0 h0
 obtain ⟨a1, rfl, rfl, rfl, w1⟩ := open_int Tryz.underlying36 (hval 1 36 v1 rfl rfl) h1
 have b1 : 0 ≤ a1 ∧ a1 ≤ 4294967295 := aSs w1
 clear hA0 hval0 hsz0 hsz
 refine (zQ W (rdF hL) (rdN hL) _ _ _ xs0 R0 _ b1).mono fun e W' ⟨v, he, hv, bel⟩ => ?_
 subst he
 subst hv
 exact ⟨_, rfl, _, _, _, [], _, [], hW', trodAll_mk1 (shut_bool Tryz.underlying4 _), (trodAll_cons_mk (Below.trod laidOut (by kernel_rfl) (of_decide_eq_true (by kernel_rfl)) k0 bel lt0) (trodAll_cons_mk (shut_int Tryz.underlying36 w1) trodAll_mk0)), rfl, bel.frame _, fun h => by cases h⟩
theorem andT {a b : Bool} (ha : a = true) (hb : b = true) : (a && b) = true := by rw [ha, hb]; rfl
set_option maxHeartbeats 16000000 in
theorem closed : joinedFacts Tryz.prog 13 Tryz.f13 Rows.worldGetsSpec Rows.worldGetsRow = true := by
 unfold joinedFacts
 repeat' (with_reducible refine andT ?_ ?_)
 all_goals (as_aux_lemma => kernel_rfl)
theorem over : Rows.worldGetsRow.holds Tryz.pinned (OpenSpec.ofChange Rows.worldGetsSpec) :=
 OpenClaim.holds_of_wide 13 Tryz.f13 rfl rfl rfl rfl rfl rfl rfl ⟨rfl, rfl, rfl, rfl, rfl⟩ rfl rfl rfl rfl rfl (by kernel_rfl) Tryz.func13 closed
  (of_decide_eq_true (by kernel_rfl)) (by unfold Func.isWrapper; first | (rw [if_pos (by decide +kernel)]; kernel_rfl) | (rw [if_neg (by decide +kernel)]; exact ⟨rfl, rfl⟩))
  (fun os started H enc _ => lifted os started H enc)
end worldGets
theorem worldGets_holds : Rows.WorldGetsSaid := worldGets.over
#print axioms worldGets_holds
theorem worldGets_card : Rows.WorldGetsCardSaid :=
 Claim7.holds_tied_plain_at .later [] [.data, .data] true (true, "efc75206f113ecd8e5cc872cd0b30c800981909977c6e963415616c654d1aab5") false
  worldGets_holds (fun _ h => by cases h) (by kernel_rfl) (fun _ h => by cases h) worldGets_row_tie rfl ⟨rfl, rfl⟩ (by kernel_rfl) rfl
  (fun f fn hf hfn => by
   obtain rfl : f = 13 := Option.some.inj ((show Tryz.prog.funcNamed "billiard/billiardlaw22.WorldGets" = some 13 by kernel_rfl).symm.trans hf) |>.symm
   obtain rfl : fn = Tryz.f13 := (Option.some.inj (Tryz.func13.symm.trans hfn)).symm
   exact ⟨by kernel_rfl, fun j t ht => by
    rw [Tryz.params13] at ht
    have hm : t ∈ [48, 36] := by simpa using Array.mem_of_getElem? ht
    have hall : ([48, 36].all fun u => !Tryz.prog.wantsStandIn u) = true := by kernel_rfl
    exact (show Tryz.prog.wantsStandIn t = false by simpa using List.all_eq_true.1 hall t hm)⟩)
  (by kernel_rfl)
#print axioms worldGets_card
end Go.Proofs.YtlmcphcgiclanaaGreatDoor
