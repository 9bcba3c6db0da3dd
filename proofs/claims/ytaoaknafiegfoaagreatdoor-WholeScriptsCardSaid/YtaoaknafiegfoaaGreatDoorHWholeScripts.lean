import Derived.Test.YtaoaknafiegfoaaGreatDoorK2
import Derived.Test.YtaoaknafiegfoaaGreatDoorK5
import Derived.Test.YtaoaknafiegfoaaGreatDoorK36
import Derived.Test.YtaoaknafiegfoaaGreatDoorRows
import Derived.Test.YtaoaknafiegfoaaGreatDoorK37
import Derived.Test.YtaoaknafiegfoaaGreatDoorTie
import Derived.Test.YtaoaknafiegfoaaGreatDoorCards
import Derived.WalkKit
import Derived.ProofKit
import Derived.OpenShut
import Derived.ShutString
import Derived.ChangeOld
import Derived.Below
import Derived.SizedLaws
set_option linter.unusedVariables false
set_option linter.unusedSimpArgs false
set_option linter.unnecessarySimpa false
namespace Go.Proofs.YtaoaknafiegfoaaGreatDoor
open Go.Bil
open Go.RowKit (Below)
open Go.Proofs
set_option maxHeartbeats 64000000 in
theorem zB (w : World) (F : Rd w 2 (some ⟨0, 0, none⟩) 1 [[.int .u32 73856093, .int .u32 19349663]]) (N : Rd w 4 (some ⟨3, 0, none⟩) 1 [eI jO]) (A : Option Addr) (n c : Nat) (l : List OpRow) (hl : OpsRd w A n l) :
  Calls Tryz.prog 3 #[.slice A n c] w (fun ex w' => ∃ v, ex = .returned v ∧ (fun v w' => v = .bool true ∧ Below w.heap.size w w') v w') := by
 have hlen : l.length = n := by simpa using hl.rd.len
 have hbd := hl.rd.bound
 refine aI #[.tmp 2] 55 Tryz.func3 rfl Tryz.results3 Tryz.ntmps3 rfl ?_
 have M0 := Mem.refl w
 refine aE (aA (wq (aJ (.bool false) rfl) rfl (aB (aC (aE (aE (aA (bY bJt rfl rfl (bRr _ (F.mem M0) (N.mem M0)) ?_))))))))
 rintro v1 w1 ⟨rfl, hb1⟩
 have M1 := M0.callB hb1
 refine wq (gG false rfl rfl) rfl (wq (aH (.bool false) rfl) rfl (dO rfl rfl (bY bRz rfl rfl (aWs _ A n c l (hl.mem M1)) ?_)))
 rintro v2 w2 ⟨⟨g, rfl, hg⟩, hb2⟩
 have M2 := M1.callB hb2
 refine wq (gG _ rfl rfl) rfl (wq (bR false (.bool _) rfl rfl) rfl (aB (aC ?_)))
 refine iG _ rfl (fun h16 => ?_) (fun h16 => ?_)
 ·refine aE (aA (bY bJt rfl rfl (bRr _ (F.mem M2) (N.mem M2)) ?_))
  rintro v3 w3 ⟨rfl, hb3⟩
  have M3 := M2.callB hb3
  refine wq (aJ (.bool true) rfl) rfl (aB (aC (aO (cM (cD (.bool true) rfl ?_)))))
  exact ⟨rfl, M3.below⟩
 ·obtain ⟨hn40, hby⟩ := hg (by simpa using h16)
  have hby2 : ∀ x ∈ l, x.n ≤ 1000000 := fun x hx => Nat.le_trans (hby x hx) (by decide)
  have hn2 : n ≤ 1000000 := by omega
  have hlo : ∀ o ∈ oS l, OkO o := hl.okO hby2
  refine aL (aC (aE (aA (bY bJr rfl rfl (wM _ (F.mem M2) (N.mem M2) none 0 0 [] (OpsRd.none _) (by simp) (by decide)) ?_))))
  rintro v4 w4 ⟨wb, r0, rfl, hr0, hM4⟩
  have M4 : Mem _ _ [_, _, _] _ := M2.call0 hM4
  have hr0 : dB 39 r0 [] := hr0
  refine wq (aJ (.pointer _) rfl) rfl (aB (aC (aE (aA (dO rfl rfl (bY bQz rfl rfl (aNq _ A n c l (hl.mem M4) hn2) ?_))))))
  rintro v5 w5 ⟨q1, rfl, hq1, hM5⟩
  have M5 : Mem _ _ [_, _, _, _] _ := M4.call0 hM5
  have hq1n : (l).length = q1.n := by simpa using hq1.1
  refine eM rfl rfl (aB (aC (aE (aA (eM rfl rfl ?_)))))
  have M6 := M5.dummy default
  refine aB (aC (aE (aE (aA (bI rfl rfl (aB (aC (aQ (dS (σ := Nat × StV × Row) [0, 3, 4] (fun (i, r, q) => [(5, .slice q.A q.n q.c), (6, .int .i64 (i : Int))]) (fun (i, r, q) w' => (i ≤ n ∧ dB 39 r (oE [] ((oS l).take i)) ∧ bC 39 10 q.A q.n q.c (((oE [] ((oS l).take i))).map aF) q.e) ∧ Mem w [] [(some wb, bc [.slice r.A r.n r.c, .map r.p] 107), r.er, r.em, q1.e, q.e] w') (fun (i, r, q) => n - i) (0, r0, gT) (bA rfl (bA rfl eB)) (⟨⟨by omega, hr0, bC.nil _ _ _⟩, M6⟩) ?_)))))))))
  rintro ⟨i, r, q⟩ ρ7 w7 ⟨⟨hi, hr, hq⟩, hM7⟩
  refine aE (aE (aA (aP rfl rfl (dO rfl rfl (wq (dC Tryz.underlying27 rfl) rfl (cZ rfl rfl rfl rfl (aB (aC ?_))))))))
  refine aW rfl (fun h24 => ?_) (fun h24 => ?_)
  ·obtain ⟨x, hx⟩ := cS (xs := l) (k := i) hlen (by omega)
   have hxm := List.mem_of_getElem? hx
   have hP := hl.each x hxm
   have hxo := aSp hx
   have hGi : GoodV (oE [] ((oS l).take i)) := aVi hlo i
   have hGs : GoodV (jW (oE [] ((oS l).take i)) x.o).1 := aVa hGi (hlo x.o (List.mem_of_getElem? hxo))
   refine aL (aC (aE (aQ (aE (aA (wq (aH (.pointer _) rfl) rfl (dO rfl rfl (aP rfl rfl (wq (bP (i) bDe rfl rfl rfl ((hq1.rd hM7 (bH (i := 3) rfl)).below_len (aG OpRow.cells hx)) ((hq1.rd hM7 (bH (i := 3) rfl)).someK (aG OpRow.cells hx))) rfl (wq (dN _ qW (hq1.rd hM7 (bH (i := 3) rfl)) (aG OpRow.cells hx) rfl) rfl ?_))))))))))
   refine aK 31 (.agg (fP x.o x.A x.n x.c).toArray) rfl (bY bJc rfl rfl (aHv _ (F.mem hM7) (N.mem hM7) _ r _ hr (hM7.ownSeg 0 3) x.o x.A x.n x.c (hP.mem hM7) (hby2 x hxm) (hM7.away 0 3 hP.rd (by simp)) (hM7.away 0 3 F (by simp)) (hM7.away 0 3 N (by simp))) ?_)
   rintro v8 w8 ⟨r2, p1, rfl, hr2, hp1, hM8⟩
   have M8 : Mem _ _ [_, _, _, _, _, _] _ := hM7.seg 0 3 hM8
   refine aS mC M8 rfl rfl (fun b9 w9 M9 => (bG 6 _ jA M9 rfl rfl rfl rfl rfl (aR rfl) rfl (fun w10 M10 => (aB (aC (aE (aA (dO rfl rfl (dO rfl rfl (aP rfl rfl ?_))))))))))
   refine wq (bP (i) aKo rfl rfl rfl ((hl.rd.mem M10).below_len (aG OpRow.cells hx)) ((hl.rd.mem M10).someK (aG OpRow.cells hx))) rfl (wq (dN _ bQq (hl.rd.mem M10) (aG OpRow.cells hx) rfl) rfl (aK 38 (.agg (fP x.o x.A x.n x.c).toArray) rfl (bY bQb rfl rfl (aZs _ q _ hq hGi (M10.ownAt (i := 4) rfl) x.o x.A x.n x.c (hP.mem M10) (hby2 x hxm) (M10.away 4 1 hP.rd (by simp))) ?_)))
   rintro v11 w11 ⟨q2, p2, rfl, hq2, hp2, hM11⟩
   have M11 : Mem _ _ [_, _, _, _, _, _, _, _] _ := M10.seg 4 1 hM11
   refine wq (aH (.tuple (List.toArray _)) rfl) rfl (wq (bN (.slice _ _ _) rfl rfl) rfl (wq (bN (.agg (List.toArray _)) rfl rfl) rfl (aS bEm M11 rfl rfl (fun b12 w12 M12 => (eM rfl rfl (bG 8 _ xL M12 rfl rfl rfl rfl rfl (aR rfl) rfl (fun w13 M13 => ?_)))))))
   refine aB (aC (aE (aA (dO rfl rfl (eM rfl rfl (aB (aC (aE (aA (wq (aX 6 jA M13 rfl rfl rfl) rfl (aK 43 (.agg (fD (jW (oE [] ((oS l).take i)) x.o).2 p1).toArray) rfl ?_)))))))))))
   refine wq (aX 8 xL M13 rfl rfl rfl) rfl (aK 44 (.agg (fD (jW (oE [] ((oS l).take i)) x.o).2 p2).toArray) rfl (bY bQi rfl rfl (aZq _ _ p1 p2 (hp1.rd M13 (bH (i := 5) rfl)) (hp2.rd M13 (bH (i := 7) rfl))) ?_))
   rintro v14 w14 ⟨rfl, hb14⟩
   have M14 := M13.callB hb14
   refine wq (gG false rfl rfl) rfl (wq (aH (.bool false) rfl) rfl (wq (aH (.pointer _) rfl) rfl (bY bBa rfl rfl (pB _ _ r2 _ hr2 (M14.ownSeg 0 3)) ?_)))
   rintro v15 w15 ⟨s1, rfl, hs1, hM15⟩
   have M15 : Mem _ _ [_, _, _, _, _, _, _, _, _, _] _ := M14.seg 0 3 hM15
   refine dO rfl rfl (bY bJj rfl rfl (aAb _ _ _ _ (jW (oE [] ((oS l).take i)) x.o).1 (hq2.rd M15 (bH (i := 4) rfl)) (by have h := hq2.1; have g := hGs.len; rw [List.length_map] at h; omega) hGs.inb) ?_)
   rintro v16 w16 ⟨s2, rfl, hs2, hM16⟩
   have M16 : Mem _ _ [_, _, _, _, _, _, _, _, _, _, _] _ := M15.call0 hM16
   refine bY bJm rfl rfl (aEi _ _ _ _ _ (hs1.rd M16 (bH (i := 9) rfl)) _ _ _ _ (hs2.rd M16 (bH (i := 10) rfl))) ?_
   rintro v17 w17 ⟨rfl, hb17⟩
   have M17 := M16.callB hb17
   refine kZ 52 rfl rfl (wq (gG false rfl rfl) rfl (wq (bR false (.bool false) rfl rfl) rfl (aB (aC (cJ rfl (aL ?_))))))
   refine cV (aC (aA (aP rfl rfl (wq (aY rfl rfl (by omega) (by omega)) rfl (bI rfl rfl (aB ?_))))))
   refine cG (i + 1, r2, q2) (bA rfl (bA rfl eB)) (cN rfl (cN rfl (cN rfl gV))) ?_ ?_
   ·exact ⟨⟨by omega, by rw [yR hxo]; exact hr2, by rw [yR hxo]; exact hq2⟩, M17.keep [true, true, true, true, true, false, false, false, false, false, false]⟩
   ·(show n - (i + 1) < n - i; omega)
  ·refine cX (dF (dK (eS (aC (aE (aA (wq (aJ (.bool true) rfl) rfl ?_)))))))
   refine aB (aC (aO (cD (.bool true) rfl ?_)))
   exact ⟨rfl, hM7.below⟩
namespace wholeScripts
open Go.ChangeShapes Go.WideShapes Go.ChangeAt Go.RowKit
open Go.ChangeMaps (open_string shut_string)
theorem own : ownKnob Tryz.prog.godebug = none := by kernel_rfl
theorem laidOut : laidOutB Tryz.prog = true := by kernel_rfl
set_option maxRecDepth 100000 in
theorem lifted (os : Os) (started : os.Started) (H : Type) (enc : TypeId × Value → H) :
  ReturnsInHanded {} Tryz.checked os 3 .any (fun w args => (Rows.wholeScriptsSpec.pre enc Tryz.prog Tryz.f3 [] false w args ∧ laidMet Tryz.prog aCt w) ∧ sizedMet enc Tryz.prog Tryz.f3 (OpenSpec.ofChange Rows.wholeScriptsSpec) false w args) (Rows.wholeScriptsSpec.post enc Tryz.prog Tryz.f3 false true false false) := by
 refine returnsInHanded_of_change_and (C := Tryz.checked) (X := fun w _ => laidMet Tryz.prog aCt w) (fun _ _ _ hh h => h.of_heap hh) own started (by kernel_rfl) Tryz.func3
  (ChangeSpec.witness_at (enc := enc) (C := Tryz.checked) (os := os) (X := fun w _ => laidMet Tryz.prog aCt w) false (aWp os) #[.slice none 0 0] 8 rfl (by kernel_rfl) (by kernel_rfl) (by kernel_rfl) (by kernel_rfl) (by kernel_rfl) (laidMet_of_run' 8 (by kernel_rfl) (by kernel_rfl))) ?_
 intro W base args ds gs before hval0 hW hcnd hsz0 hL _
 have hsz : (DataW.weightsEach Tryz.prog (Tryz.f3.params.toList ++ Rows.wholeScriptsSpec.plain.varTypes Tryz.prog) (ds ++ gs)).all (· ≤ reachBytes) = true := hsz0
 have hval : ∀ (j : Nat) t v, Tryz.f3.params[j]? = some t → args[j]? = some v → Value.okWide Tryz.prog W .any base t v := hval0
 have hW' := hW
 obtain ⟨p, q, hA0, hV, rfl, hfz, hnd⟩ := hW
 have hA : DataW.TrodAll enc Tryz.prog W 0 (fun _ => true) true Tryz.f3.params.toList args.toList ds p := hA0
 rw [Tryz.params3] at hA hval hsz
 obtain ⟨v0, vs0, d0, ds0, p0, q0, hargs, rfl, rfl, h0, r0⟩ := trodAll_cons hA
 obtain ⟨rfl, rfl, rfl⟩ := trodAll_nil r0
 obtain rfl : args = #[v0] := by cases args; simp_all
 obtain ⟨rfl, rfl⟩ := trodVars_none hV
 have k0 := h0
 have lt0 : ∀ x ∈ p0, x.block < W.heap.size := by obtain ⟨m, hm⟩ := k0; exact DataW.trod_lt m _ _ _ hm
 obtain ⟨a0, len0, cap0, rfl⟩ := okWide_slice Tryz.underlying22 (hval 0 22 v0 rfl rfl)
 have y0 : ∀ n ∈ d0.weights Tryz.prog 22, n ≤ reachBytes := fun n hn => by simpa using List.all_eq_true.1 hsz _ (DataW.weights_mem_each (j := 0) rfl rfl n hn)
 obtain ⟨xs0, R0⟩ := bBu aKo bQs y0 h0
 clear hA0 hval0 hsz0 hsz
 refine (zB W (rdF hL) (rdN hL) _ _ _ xs0 R0).mono fun e W' ⟨v, he, hv, bel⟩ => ?_
 subst he
 subst hv
 exact ⟨_, rfl, _, _, _, [], _, [], hW', trodAll_mk1 (shut_bool Tryz.underlying4 _), (trodAll_cons_mk (Below.trod laidOut (by kernel_rfl) (of_decide_eq_true (by kernel_rfl)) k0 bel lt0) trodAll_mk0), rfl, bel.frame _, fun h => by cases h⟩
theorem andT {a b : Bool} (ha : a = true) (hb : b = true) : (a && b) = true := by rw [ha, hb]; rfl
set_option maxHeartbeats 16000000 in
theorem closed : joinedFacts Tryz.prog 3 Tryz.f3 Rows.wholeScriptsSpec Rows.wholeScriptsRow = true := by
 unfold joinedFacts
 repeat' (with_reducible refine andT ?_ ?_)
 all_goals (as_aux_lemma => kernel_rfl)
theorem over : Rows.wholeScriptsRow.holds Tryz.pinned (OpenSpec.ofChange Rows.wholeScriptsSpec) :=
 OpenClaim.holds_of_wide 3 Tryz.f3 rfl rfl rfl rfl rfl rfl rfl ⟨rfl, rfl, rfl, rfl, rfl⟩ rfl rfl rfl rfl rfl (by kernel_rfl) Tryz.func3 closed
  (of_decide_eq_true (by kernel_rfl)) (by unfold Func.isWrapper; first | (rw [if_pos (by decide +kernel)]; kernel_rfl) | (rw [if_neg (by decide +kernel)]; exact ⟨rfl, rfl⟩))
  (fun os started H enc _ => lifted os started H enc)
end wholeScripts
theorem wholeScripts_holds : Rows.WholeScriptsSaid := wholeScripts.over
#print axioms wholeScripts_holds
theorem wholeScripts_cw : Rows.wholeScriptsRow.wfByText (OpenSpec.ofChange Rows.wholeScriptsSpec) = true := by kernel_rfl
theorem wholeScripts_cl : false = Tryz.checked.prog.looks [] := by kernel_rfl
theorem wholeScripts_cg : false = Rows.wholeScriptsRow.goesBy Tryz.pinned.checked.prog := by kernel_rfl
theorem wholeScripts_cm : Tryz.pinned.checked.prog.mainIs = some (true, "60fad30dfb67d9dd14e679b449d58df77fa72712b07425b57b34720f96154737".toList) := by kernel_rfl
theorem wholeScripts_cf : Tryz.prog.funcNamed "billiard/billiardtop.WholeScripts" = some 3 := by kernel_rfl
theorem wholeScripts_card : Rows.WholeScriptsCardSaid :=
 Claim7.holds_tied_plain_at .later [] [.data, .data] true (true, "60fad30dfb67d9dd14e679b449d58df77fa72712b07425b57b34720f96154737") false
  wholeScripts_holds (fun _ h => by cases h) wholeScripts_cw (fun _ h => by cases h) wholeScripts_row_tie rfl ⟨rfl, rfl⟩ wholeScripts_cm rfl
  (fun f fn hf hfn => by
   obtain rfl : f = 3 := Option.some.inj (wholeScripts_cf.symm.trans hf) |>.symm
   obtain rfl : fn = Tryz.f3 := (Option.some.inj (Tryz.func3.symm.trans hfn)).symm
   exact ⟨wholeScripts_cl, fun j t ht => by
    rw [Tryz.params3] at ht
    have hm : t ∈ [22] := by simpa using Array.mem_of_getElem? ht
    have hall : ([22].all fun u => !Tryz.prog.wantsStandIn u) = true := by kernel_rfl
    exact (show Tryz.prog.wantsStandIn t = false by simpa using List.all_eq_true.1 hall t hm)⟩)
  wholeScripts_cg
#print axioms wholeScripts_card
end Go.Proofs.YtaoaknafiegfoaaGreatDoor
