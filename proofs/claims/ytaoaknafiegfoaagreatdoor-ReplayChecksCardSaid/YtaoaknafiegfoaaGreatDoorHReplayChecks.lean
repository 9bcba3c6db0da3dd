import Derived.Test.YtaoaknafiegfoaaGreatDoorK37
import Derived.Test.YtaoaknafiegfoaaGreatDoorK38
import Derived.Test.YtaoaknafiegfoaaGreatDoorTie
import Derived.Test.YtaoaknafiegfoaaGreatDoorCards
import Derived.OpenShut
import Derived.ShutString
import Derived.Below
set_option linter.unusedVariables false
set_option linter.unusedSimpArgs false
set_option linter.unnecessarySimpa false
set_option maxHeartbeats 100000000
namespace Go.Proofs.YtaoaknafiegfoaaGreatDoor
open Go.Bil
open Go.RowKit (Below)
open Go.Proofs
theorem bUx:∃ fs,LogT Tryz.prog 4 80 22 3 73 46 31 5 88 24 1 fs:=⟨_,Tryz.underlying80,by kernel_rfl,by kernel_rfl,by kernel_rfl,by kernel_rfl,by kernel_rfl,by kernel_rfl,by kernel_rfl,kU,nT,gI⟩
theorem bAa (w:World) (F:Rd w 2 (some ⟨0,0,none⟩) 1 [[.int .u32 73856093,.int .u32 19349663]]) (N:Rd w 4 (some ⟨3,0,none⟩) 1 [dY gZ]) (A:Option Addr) (n c:Nat) (l:List OpRow) (hl:OpsRd w A n l) (hby:∀ x∈l,x.n≤1000000) (hn:n≤1000000) (B:Option Addr) (m d:Nat) (rs:List Row) (bs:List (List Int)) (hB:BytRd w B m rs bs) (z:Int):Calls Tryz.prog 49 #[.agg [.slice A n c,.int .i64 z,.slice B m d].toArray] w (Rb w (.tuple #[.int .i64 (wT (opsO l) z bs m n).1,.int .i64 (wT (opsO l) z bs m n).2])):=by
 by_cases h:z < 1
 ·rw [aTr h]
  exact aPg w F N A n c l hl hby hn B m d rs bs hB z h
 ·obtain ⟨k,rfl⟩:=Int.eq_ofNat_of_zero_le (show 0≤z by omega)
  by_cases hm:m=n / k
  ·rw [aZz (by omega) hm]
   exact aPh w F N A n c l hl hby hn B m d rs bs hB k (by omega) hm
  ·rw [aTq (by omega) hm]
   exact bAb w F N A n c l hl hby hn B m d rs bs hB k (by omega) hm
theorem aTe (w:World) (A:Option Addr) (n c:Nat) (l:List OpRow) (hl:OpsRd w A n l) (hcap:n≤c) (hby:∀ x∈l,x.n≤1000000) (hn:n≤1000000) (B:Option Addr) (m d:Nat) (rs:List Row) (bs:List (List Int)) (hB:BytRd w B m rs bs) (z:Int):Calls Tryz.prog 50 #[.agg [.slice A n c,.int .i64 z,.slice B m d].toArray] w (Rb w (.tuple #[.int .i64 (wT (opsO l) z bs m n).1,.int .i64 (wT (opsO l) z bs m n).2])):=by
 by_cases h:z < 1
 ·rw [aTr h]
  exact bJu w A n c l hl hcap hby hn B m d rs bs hB z h
 ·obtain ⟨k,rfl⟩:=Int.eq_ofNat_of_zero_le (show 0≤z by omega)
  by_cases hm:m=n / k
  ·rw [aZz (by omega) hm]
   exact bNz w A n c l hl hcap hby hn B m d rs bs hB k (by omega) hm
  ·rw [aTq (by omega) hm]
   exact bJt w A n c l hl hcap hby hn B m d rs bs hB k (by omega) hm
theorem aCx (w:World) (F:Rd w 2 (some ⟨0,0,none⟩) 1 [[.int .u32 73856093,.int .u32 19349663]]) (N:Rd w 4 (some ⟨3,0,none⟩) 1 [dY gZ]) (A:Option Addr) (n c:Nat) (l:List OpRow) (hl:OpsRd w A n l) (hcap:n≤c) (z:Int) (B:Option Addr) (m d:Nat) (rs:List Row) (bs:List (List Int)) (hB:BytRd w B m rs bs) :
  Calls Tryz.prog 12 #[.agg [.slice A n c,.int .i64 z,.slice B m d].toArray] w (Rb w (.bool true)):=by
 have hlen:l.length=n:=by simpa using hl.rd.len
 have hbd:=hl.rd.bound
 have hbd2:=hB.rd.bound
 refine aI #[.tmp 2] 49 Tryz.func12 Z Tryz.results12 Tryz.ntmps12 Z ?_
 have M0:=Mem.refl w
 refine aE (aA (bO (.agg (.mk _)) M0 Z Z Z (fun b1 w1 M1=>(wq (aJ (.bool false) Z) Z (aB (aC (aE (aE (aA (dM rV Z Z M1 (aAe _ (F.mem M1) (N.mem M1)) (fun w2 M2=>(wq (fB false Z Z) Z (wq (aH (.bool false) Z) Z (wq (aD 0 rY Z) Z (wq (aK 0 (.slice _ _ _) yR M2 Z Z Z) Z (eJ aLa Z Z (qS _ A n c l (hl.mem M2)) ?_))))))))))))))))
 rintro v3 w3 ⟨⟨g,rfl,hg⟩,hb3⟩
 have M3:=M2.callB hb3
 refine wq (fB _ Z Z) Z (wq (bM false (.bool _) Z Z) Z (wq (aH (.bool _) Z) Z ?_))
 refine kH 16 _ Z (fun g16 => ?_) (fun g16 => ?_)
 ·refine aQ Z Z (aQ Z Z (aQ Z Z (aQ Z Z (wq (bM true (.bool true) Z Z) Z (aB (aC (cE Z (aE (aA (dM rV Z Z M3 (aAe _ (F.mem M3) (N.mem M3)) (fun w4 M4=>(wq (aJ (.bool true) Z) Z (aB (aC (aR (cK (cF (.bool true) Z ?_)))))))))))))))))
  exact ⟨Z,M4.below⟩
 ·refine wq (aD 2 jE Z) Z (wq (aK 0 (.slice _ _ _) eV M3 Z Z Z) Z (wq (bW Tryz.underlying73 Z) Z (cV Z Z Z Z (wq (bM false (.bool (decide _)) Z Z) Z (aB (aC ?_))))))
  refine aW Z (fun h21 => ?_) (fun h21 => ?_)
  ·refine aE (aA (dM rV Z Z M3 (aAe _ (F.mem M3) (N.mem M3)) (fun w5 M5=>(wq (aJ (.bool true) Z) Z (aB (aC (aR (cK (cF (.bool true) Z ?_)))))))))
   exact ⟨Z,M5.below⟩
  ·obtain ⟨hn16,hby⟩:=hg (by simpa using g16)
   have hby2:∀ x∈l,x.n≤1000000:=fun x hx=>Nat.le_trans (hby x hx) (by decide)
   have hn2:n≤1000000:=by omega
   have hgood:=hl.good hby2
   have hok:=hl.okO hby2
   refine aM (aC (aE (aGd [(0,0),(1,1),(3,0),(4,1),(5,0),(6,1)] 2 8 [(7,0),(8,2),(9,2)] [(2,2),(7,0),(9,2)] mixed Z (by kernel_rfl) (fun w6 hb6 hh6 => ?_))))
   have M6:=M3.drew hb6 hh6
   refine rP Z Z Z (fun _=>aD 0 rY Z) (yF Z Z Z (aK 0 (.slice _ _ _) yR M6 Z Z Z) (rP Z Z Z (fun _=>aD 1 oA Z) (yF Z Z Z (aK 0 (.int _ _) fE M6 Z Z Z) (rP Z Z Z (fun _=>aD 2 jE Z) (yF Z Z Z (aK 0 (.slice _ _ _) eV M6 Z Z Z) ?_)))))
   refine zZ ?_ ?_
   ·refine dO [false,false,true] Z (by kernel_rfl) (eJ aDu Z Z (jL _ A n c l (hl.mem M6) hby2 hn2) ?_)
    rintro v7 w7 ⟨qf,pf,rfl,hqf,hpf,hM7⟩
    have M7:Mem _ _ ([_,_]++_) _:=M6.call0 hM7
    have hplpf:pf.length=(opsO (l)).length:=by rw [hpf.len,List.length_map]
    have hnqf:((kN (opsO (l)) pf).map OpRow.cells).length=qf.n:=hqf.1
    rw [List.length_map,mV hplpf,dE] at hnqf
    refine aB (aC ⟨(dS (bH Z (aK 0 (.slice _ _ _) eV M7 Z Z Z)) (dS (bH Z (aK 0 (.int _ _) fE M7 Z Z Z)) dI)), ?_⟩)
    refine aX Z Z Z (fun _=>cI [(0,.slice _ _ _),(1,.int _ _),(2,.slice _ _ _)] _ wO Z Z) (dO [false,false] Z (by kernel_rfl) (aO jX M7 Z Z (fun b8 w8 M8 => ?_)))
    have M9:Mem _ _ ([_,_,_]++_) _:=Mem.front (L:=[_,_]) M8
    refine aB (aC ⟨(dS (bH Z (aK 0 (.slice _ _ _) eV M9 Z Z Z)) (dS (bH Z (aK 0 (.int _ _) fE M9 Z Z Z)) dI)), ?_⟩)
    refine dO [true,true] Z (by kernel_rfl) (bC 2 _ eK M9 Z Z Z Z Z (aP Z) Z (fun w10 M10 => ?_))
    refine aB (aC ⟨dI, ?_⟩)
    refine bS (aC (aE (aA ?_)))
    have M11:Mem _ _ ([_,_,_]++(pf.map Row.e)) _:=M10
    refine wq (aV 2 eK M11 Z Z Z) Z (dM aDv Z Z M11 (bAa _ (F.mem M11) (N.mem M11) qf.A qf.n qf.c (kN (opsO l) pf) (qO hpf hgood hqf M11 (aN (i:=1) Z) (dC fY)) (aBg hpf hgood) (by omega) B m d rs bs (hB.mem M11) z) (fun w12 M12 => ?_))
    have hva:wT (opsO (kN (opsO l) pf)) z bs m qf.n=(wT (opsO l) z bs m n):=by rw [oD hplpf,← hnqf,hlen]
    refine wq (aH (.tuple (List.toArray _)) Z) Z (wq (bJ (.int _ _) Z Z) Z (aL 34 (.int .i64 (wT (opsO l) z bs m n).1) (iE (congrArg Prod.fst hva)) (wq (bJ (.int _ _) Z Z) Z (aL 35 (.int .i64 (wT (opsO l) z bs m n).2) (iE (congrArg Prod.snd hva)) (bL Z Z (bL Z Z (aB (aC (aE (aA (wq (aV 0 rA M12 Z Z Z) Z (dM bPl Z Z M12 (aTe _ A n c l (hl.mem M12) hcap hby2 hn2 B m d rs bs (hB.mem M12) z) (fun w13 M13=>(wq (aH (.tuple (List.toArray _)) Z) Z (wq (bJ (.int _ _) Z Z) Z (wq (bJ (.int _ _) Z Z) Z ?_))))))))))))))))
    refine bL Z Z (bL Z Z (aB (aC (aE (aA (aT Z Z (aT Z Z (cV Z Z Z Z (jU 43 Z Z (wq (aH (.bool true) Z) Z (aT Z Z (aT Z Z (cV Z Z Z Z (jU 47 Z Z (wq (bM true (.bool true) Z Z) Z (wq (aJ (.bool true) Z) Z (aB (aC (aR (cF (.bool true) Z ?_))))))))))))))))))))
    exact ⟨Z,M13.below⟩
   ·refine dO [false,false,false] Z (by kernel_rfl) (aO jX M6 Z Z (fun b14 w14 M14 => ?_))
    refine aB (aC ⟨(dS (bH Z (aK 0 (.slice _ _ _) eV M14 Z Z Z)) (dS (bH Z (aK 0 (.int _ _) fE M14 Z Z Z)) (dS (bH Z (aK 0 (.slice _ _ _) yR M14 Z Z Z)) dI))), ?_⟩)
    refine dO [false,false,true] Z (by kernel_rfl) (eJ aDu Z Z (jL _ A n c l (hl.mem M14) hby2 hn2) ?_)
    rintro v15 w15 ⟨qf,pf,rfl,hqf,hpf,hM15⟩
    have M15:Mem _ _ ([_,_,_]++_) _:=M14.call0 hM15
    have hplpf:pf.length=(opsO (l)).length:=by rw [hpf.len,List.length_map]
    have hnqf:((kN (opsO (l)) pf).map OpRow.cells).length=qf.n:=hqf.1
    rw [List.length_map,mV hplpf,dE] at hnqf
    refine aB (aC ⟨(dS (bH Z (aK 0 (.slice _ _ _) eV M15 Z Z Z)) (dS (bH Z (aK 0 (.int _ _) fE M15 Z Z Z)) dI)), ?_⟩)
    refine aX Z Z Z (fun _=>cI [(0,.slice _ _ _),(1,.int _ _),(2,.slice _ _ _)] _ wO Z Z) (dO [true,true] Z (by kernel_rfl) (bC 1 _ eK M15 Z Z Z Z Z (aP Z) Z (fun w16 M16 => ?_)))
    refine aB (aC ⟨dI, ?_⟩)
    refine bS (aC (aE (aA ?_)))
    have M17:Mem _ _ ([_,_,_]++(pf.map Row.e)) _:=M16
    refine wq (aV 1 eK M17 Z Z Z) Z (dM aDv Z Z M17 (bAa _ (F.mem M17) (N.mem M17) qf.A qf.n qf.c (kN (opsO l) pf) (qO hpf hgood hqf M17 (aN (i:=2) Z) (dC fY)) (aBg hpf hgood) (by omega) B m d rs bs (hB.mem M17) z) (fun w18 M18 => ?_))
    have hva:wT (opsO (kN (opsO l) pf)) z bs m qf.n=(wT (opsO l) z bs m n):=by rw [oD hplpf,← hnqf,hlen]
    refine wq (aH (.tuple (List.toArray _)) Z) Z (wq (bJ (.int _ _) Z Z) Z (aL 34 (.int .i64 (wT (opsO l) z bs m n).1) (iE (congrArg Prod.fst hva)) (wq (bJ (.int _ _) Z Z) Z (aL 35 (.int .i64 (wT (opsO l) z bs m n).2) (iE (congrArg Prod.snd hva)) (bL Z Z (bL Z Z (aB (aC (aE (aA (wq (aV 0 rA M18 Z Z Z) Z (dM bPl Z Z M18 (aTe _ A n c l (hl.mem M18) hcap hby2 hn2 B m d rs bs (hB.mem M18) z) (fun w19 M19=>(wq (aH (.tuple (List.toArray _)) Z) Z (wq (bJ (.int _ _) Z Z) Z (wq (bJ (.int _ _) Z Z) Z ?_))))))))))))))))
    refine bL Z Z (bL Z Z (aB (aC (aE (aA (aT Z Z (aT Z Z (cV Z Z Z Z (jU 43 Z Z (wq (aH (.bool true) Z) Z (aT Z Z (aT Z Z (cV Z Z Z Z (jU 47 Z Z (wq (bM true (.bool true) Z Z) Z (wq (aJ (.bool true) Z) Z (aB (aC (aR (cF (.bool true) Z ?_))))))))))))))))))))
    exact ⟨Z,M19.below⟩
namespace replayChecks
open Go.ChangeShapes Go.WideShapes Go.ChangeAt Go.RowKit
open Go.ChangeMaps (open_string shut_string)
theorem own : ownKnob Tryz.prog.godebug = none := by kernel_rfl
theorem laidOut : laidOutB Tryz.prog = true := by kernel_rfl
set_option maxRecDepth 100000 in
theorem lifted (os : Os) (started : os.Started) (H : Type) (enc : TypeId × Value → H) :
  ReturnsInHanded {} Tryz.checked os 12 .any (fun w args => (Rows.replayChecksSpec.pre enc Tryz.prog Tryz.f12 [] false w args ∧ laidMet Tryz.prog oB w) ∧ sizedMet enc Tryz.prog Tryz.f12 (OpenSpec.ofChange Rows.replayChecksSpec) false w args) (Rows.replayChecksSpec.post enc Tryz.prog Tryz.f12 false true false false) := by
 refine returnsInHanded_of_change_and (C := Tryz.checked) (X := fun w _ => laidMet Tryz.prog oB w) (fun _ _ _ hh h => h.of_heap hh) own started (by kernel_rfl) Tryz.func12
  (ChangeSpec.witness_at (enc := enc) (C := Tryz.checked) (os := os) (X := fun w _ => laidMet Tryz.prog oB w) false (tU os) #[(.agg #[.slice none 0 0, .int .i64 0, .slice none 0 0])] 8 rfl (by kernel_rfl) (by kernel_rfl) (by kernel_rfl) (by kernel_rfl) (by kernel_rfl) (laidMet_of_run' 8 (by kernel_rfl) (by kernel_rfl))) ?_
 intro W base args ds gs before hval0 hW hcnd hsz0 hL _
 have hsz : (DataW.weightsEach Tryz.prog (Tryz.f12.params.toList ++ Rows.replayChecksSpec.plain.varTypes Tryz.prog) (ds ++ gs)).all (· ≤ reachBytes) = true := hsz0
 have hval : ∀ (j : Nat) t v, Tryz.f12.params[j]? = some t → args[j]? = some v → Value.okWide Tryz.prog W .any base t v := hval0
 have hW' := hW
 obtain ⟨p, q, hA0, hV, rfl, hfz, hnd⟩ := hW
 have hA : DataW.TrodAll enc Tryz.prog W 0 (fun _ => true) true Tryz.f12.params.toList args.toList ds p := hA0
 rw [Tryz.params12] at hA hval hsz
 obtain ⟨v0, vs0, d0, ds0, p0, q0, hargs, rfl, rfl, h0, r0⟩ := trodAll_cons hA
 obtain ⟨rfl, rfl, rfl⟩ := trodAll_nil r0
 obtain rfl : args = #[v0] := by cases args; simp_all
 obtain ⟨rfl, rfl⟩ := trodVars_none hV
 have k0 := h0
 have lt0 : ∀ x ∈ p0, x.block < W.heap.size := by obtain ⟨m, hm⟩ := k0; exact DataW.trod_lt m _ _ _ hm
 have y0 : ∀ n ∈ d0.weights Tryz.prog 80, n ≤ reachBytes := fun n hn => by simpa using List.all_eq_true.1 hsz _ (DataW.weights_mem_each (j := 0) rfl rfl n hn)
 obtain ⟨lA0, ln0, lc0, xs0, lz0, lB0, lm0, ld0, rs0, bs0, rfl, R0, cp0, B0⟩ := bIw bUx aSi y0 h0
 clear hA0 hval0 hsz0 hsz
 refine (aCx W (rdF hL) (rdN hL) lA0 ln0 lc0 xs0 R0 cp0 lz0 lB0 lm0 ld0 rs0 bs0 B0).mono fun e W' ⟨v, he, hv, bel⟩ => ?_
 subst he
 subst hv
 exact ⟨_, rfl, _, _, _, [], _, [], hW', trodAll_mk1 (shut_bool Tryz.underlying4 _), (trodAll_cons_mk (Below.trod laidOut (by kernel_rfl) (of_decide_eq_true (by kernel_rfl)) k0 bel lt0) trodAll_mk0), rfl, bel.frame _, fun h => by cases h⟩
theorem andT {a b : Bool} (ha : a = true) (hb : b = true) : (a && b) = true := by rw [ha, hb]; rfl
theorem closed : joinedFacts Tryz.prog 12 Tryz.f12 Rows.replayChecksSpec Rows.replayChecksRow = true := by
 unfold joinedFacts
 repeat' (with_reducible refine andT ?_ ?_)
 all_goals (as_aux_lemma => kernel_rfl)
theorem over : Rows.replayChecksRow.holds Tryz.pinned (OpenSpec.ofChange Rows.replayChecksSpec) :=
 OpenClaim.holds_of_wide 12 Tryz.f12 rfl rfl rfl rfl rfl rfl rfl ⟨rfl, rfl, rfl, rfl, rfl⟩ rfl rfl rfl rfl rfl (by kernel_rfl) Tryz.func12 closed
  (of_decide_eq_true (by kernel_rfl)) (by unfold Func.isWrapper; first | (rw [if_pos (by decide +kernel)]; kernel_rfl) | (rw [if_neg (by decide +kernel)]; exact ⟨rfl, rfl⟩))
  (fun os started H enc _ => lifted os started H enc)
end replayChecks
theorem replayChecks_holds : Rows.ReplayChecksSaid := replayChecks.over
#print axioms replayChecks_holds
theorem replayChecks_cw : Rows.replayChecksRow.wfByText (OpenSpec.ofChange Rows.replayChecksSpec) = true := by kernel_rfl
theorem replayChecks_cl : false = Tryz.checked.prog.looks [] := by kernel_rfl
theorem replayChecks_cg : false = Rows.replayChecksRow.goesBy Tryz.pinned.checked.prog := by kernel_rfl
theorem replayChecks_cm : Tryz.pinned.checked.prog.mainIs = some (true, "60fad30dfb67d9dd14e679b449d58df77fa72712b07425b57b34720f96154737".toList) := by kernel_rfl
theorem replayChecks_cf : Tryz.prog.funcNamed "billiard/billiardlaw28.ReplayChecks" = some 12 := by kernel_rfl
theorem replayChecks_card : Rows.ReplayChecksCardSaid :=
 Claim7.holds_tied_plain_at .later [] [.data, .data] true (true, "60fad30dfb67d9dd14e679b449d58df77fa72712b07425b57b34720f96154737") false
  replayChecks_holds (fun _ h => by cases h) replayChecks_cw (fun _ h => by cases h) replayChecks_row_tie rfl ⟨rfl, rfl⟩ replayChecks_cm rfl
  (fun f fn hf hfn => by
   obtain rfl : f = 12 := Option.some.inj (replayChecks_cf.symm.trans hf) |>.symm
   obtain rfl : fn = Tryz.f12 := (Option.some.inj (Tryz.func12.symm.trans hfn)).symm
   exact ⟨replayChecks_cl, fun j t ht => by
    rw [Tryz.params12] at ht
    have hm : t ∈ [80] := by simpa using Array.mem_of_getElem? ht
    have hall : ([80].all fun u => !Tryz.prog.wantsStandIn u) = true := by kernel_rfl
    exact (show Tryz.prog.wantsStandIn t = false by simpa using List.all_eq_true.1 hall t hm)⟩)
  replayChecks_cg
#print axioms replayChecks_card
end Go.Proofs.YtaoaknafiegfoaaGreatDoor
