import Derived.Test.YtaoaknafiegfoaaGreatDoorK35
import Derived.Test.YtaoaknafiegfoaaGreatDoorK36
import Derived.Test.YtaoaknafiegfoaaGreatDoorTie
import Derived.Test.YtaoaknafiegfoaaGreatDoorCards
import Derived.OpenShut
import Derived.ShutString
import Derived.Below
set_option linter.unusedVariables false
set_option linter.unusedSimpArgs false
set_option linter.unnecessarySimpa false
set_option maxHeartbeats 100000000
namespace Go.Proofs.YtaoaknafiegfoaaGreatDoor
open Go.Bil
open Go.RowKit (Below)
open Go.Proofs
theorem vR (w:World) (F:Rd w 2 (some ⟨0,0,none⟩) 1 [[.int .u32 73856093,.int .u32 19349663]]) (N:Rd w 4 (some ⟨3,0,none⟩) 1 [cS fU]) (A:Option Addr) (n c:Nat) (l:List OpRow) (hl:OpsRd w A n l) (hcap:n≤c) (f:Nat) (hf:f≤255) (u:Nat) (hu:u≤255) :
  Calls Tryz.prog 15 #[.slice A n c,.int .u8 (f:Int),.int .u8 (u:Int)] w (Rb w (.bool true)):=by
 have hlen:l.length=n:=by simpa using hl.rd.len
 have hbd:=hl.rd.bound
 refine aH #[.tmp 6] 106 Tryz.func15 Z Tryz.results15 Tryz.ntmps15 Z ?_
 have M0:=Mem.refl w
 refine aD (aA (wq (aI (.bool false) Z) Z (aB (aC (aD (aD (aA (dI bEi Z Z M0 (bMv _ (F.mem M0) (N.mem M0)) (fun w1 M1=>(wq (gE false Z Z) Z (wq (aG (.bool false) Z) Z (dZ Z Z (dU bMr Z Z (aSp _ A n c l (hl.mem M1)) ?_)))))))))))))
 rintro v2 w2 ⟨⟨g,rfl,hg⟩,hb2⟩
 have M2:=M1.callB hb2
 refine wq (gE _ Z Z) Z (wq (bX false (.bool _) Z Z) Z (aB (aC ?_)))
 refine iG _ Z (fun h23 => ?_) (fun h23 => ?_)
 ·refine aD (aA (dI bEi Z Z M2 (bMv _ (F.mem M2) (N.mem M2)) (fun w3 M3=>(wq (aI (.bool true) Z) Z (aB (aC (aP (cL (cB (.bool true) Z ?_)))))))))
  exact ⟨Z,M3.below⟩
 ·obtain ⟨hn16,hby⟩:=hg (by simpa using h23)
  have hby2:∀ x∈l,x.n≤1000000:=fun x hx=>Nat.le_trans (hby x hx) (by decide)
  have hn2:n≤1000000:=by omega
  have hgood:=hl.good hby2
  have hok:=hl.okO hby2
  obtain ⟨kk,hkk⟩:∃ kk:Nat,kk=f % 5:=⟨_,rfl⟩
  have hkl:kk < 5:=by rw [hkk];exact Nat.mod_lt _ (by decide)
  obtain ⟨k,hk⟩:∃ k:Nat,k=1+kk:=⟨_,rfl⟩
  have hkp:0 < k:=by omega
  obtain ⟨nn,hnn⟩:∃ nn:Nat,nn=u % (n+1):=⟨_,rfl⟩
  have hnl:nn < n+1:=by rw [hnn];exact Nat.mod_lt _ (by omega)
  refine aL (aC (aD (aA (dZ Z Z (dU bKp Z Z (aIp _ A n c l (hl.mem M2) hn2) ?_)))))
  rintro v4 w4 ⟨q1,rfl,hq1,hM4⟩
  have M4:Mem _ _ [_] _:=M2.call0 hM4
  have hq1n:(l).length=q1.n:=by simpa using hq1.1
  have hq1c:=hq1.slice
  refine eX Z Z (aB (aC (aD (aA (dZ Z Z (aX Z Z (wq (aDi Z Z (by decide)) Z (aS 30 (.int .u8 (kk:Int)) (iE (uS Z hkk)) (wq (bV us5 Tryz.underlying3 Z (kO _ (by omega) (by omega))) Z (wq (bM Z Z (by omega) (by omega)) Z (aS 32 (.int .i64 (k:Int)) (iE (by omega)) (dU bKr Z Z (aSi _ (F.mem M4) (N.mem M4) q1.A q1.n q1.c l ⟨(hq1.rd M4 (aV (i:=0) Z)),fun x hx=>(hl.each x hx).mem M4⟩ hby2 (by omega) (k:Int) k (by omega)) ?_))))))))))))
  rintro v5 w5 ⟨qo,qm,q,ps,ms,rs,rfl,hL,hq,hoR,hM5⟩
  have M5:Mem _ _ ([_,_,_,_]++_) _:=M4.call0 hM5
  have hon:=hL.on
  have hmn:=hL.mn
  have hqn:(jR _ rs).length=q.n:=hq.1
  rw [oE hoR.len,kY] at hqn
  rw [gB] at hon hqn hmn
  refine wq (aG (.tuple (List.toArray _)) Z) Z (wq (bE (.agg (.mk _)) Z Z) Z (wq (bE (.slice _ _ _) Z Z) Z (aM aNw M5 Z Z (fun b6 w6 M6 => ?_))))
  have M7:Mem _ _ ([_,_,_,_,_]++_) _:=Mem.front (L:=[_,_,_,_]) M6
  refine aZ 4 _ zL M7 Z Z Z Z Z (aQ Z) Z (fun w8 M8=>(eX Z Z (aB (aC (aD (aA ?_))))))
  have M9:Mem _ _ ([_,_,_,_,_]++(ps.map Row.e++(rs.map Row.e++ms.map Row.e))) _:=M8
  refine wq (bB 4 zL M9 Z Z Z) Z (dI bMt Z Z M9 (bHg _ (F.mem M9) (N.mem M9) qo.A qo.n qo.c (yN (opsO l) ps) (hL.opsRd M9 (aV (i:=1) Z) (uZ (bAq aIq))) hL.bn (by omega) qm.A qm.n qm.c ms _ (hL.bytRd M9 (aV (i:=2) Z) (uZ (uZ (uZ aIq)))) k hkp (by rw [hmn,hon])) (fun w10 M10 => ?_))
  have hver:aNy (opsO (yN (opsO l) ps)) k (fP (opsO l) k ((opsO l).length / k))=((qm.n:Int),0):=by rw [hL.opsO,aQy,hL.mn]
  refine wq (aG (.tuple (List.toArray _)) Z) Z (wq (bE (.int _ _) Z Z) Z (wq (bE (.int _ _) Z Z) Z (aS 40 (.int .i64 0) (iE (congrArg Prod.snd hver)) (bP Z Z (bP Z Z (aB (aC (aD (aA (aX Z Z (wq (bV us5 Tryz.underlying3 Z (kO _ (by omega) (by omega))) Z (dZ Z Z (wq (cG Tryz.underlying22 Z) Z (wq (bM Z Z (by omega) (by omega)) Z (aS 45 (.int .i64 ((n+1:Nat):Int)) (iE (by omega)) (wq (aDi Z Z (by omega)) Z (aS 46 (.int .i64 (nn:Int)) (iE (uS Z hnn)) (bP Z Z ?_))))))))))))))))))
  refine aB (aC (aD (aA (wq (bB 4 zL M10 Z Z Z) Z (aX Z Z (dU bKv Z Z (bCr _ (F.mem M10) (N.mem M10) qo.A qo.n qo.c (yN (opsO l) ps) (hL.opsRd M10 (aV (i:=1) Z) (uZ (bAq aIq))) hL.ops.slice hL.bn (by omega) qm.A qm.n qm.c ms _ (hL.bytRd M10 (aV (i:=2) Z) (uZ (uZ (uZ aIq)))) (aIl hL.okO) k hkp (by rw [hmn,hon];exact Nat.le_refl _) nn (by omega)) ?_))))))
  rintro v11 w11 ⟨wb,r,rfl,hr,hM11⟩
  have M11:Mem _ _ ([_,_,_,_,_,_,_,_]++_) _:=Mem.front (L:=[_,_,_,_,_]) (M10.call0 hM11)
  rw [hL.opsO,aLw hL.okO hkp (by rw [gB];omega)] at hr
  refine wq (aG (.tuple (List.toArray _)) Z) Z (wq (bE (.pointer _) Z Z) Z (wq (bE (.int _ _) Z Z) Z (wq (aI (.pointer _) Z) Z (bP Z Z (aB (aC (aD (aD (aA (wq (aG (.pointer _) Z) Z (wq (eK false Tryz.underlying25 Z Z) Z (wq (aG (.bool false) Z) Z (aX Z Z (dB Z Z Z Z (rP 57 Z (by first | decide | omega) (wq (bX false (.bool false) Z Z) Z (wq (aG (.bool false) Z) Z (aX Z Z (dB Z Z Z Z ?_)))))))))))))))))))
  refine rP 61 Z (by first | decide | omega) (wq (bX false (.bool false) Z Z) Z (wq (aG (.bool false) Z) Z (dZ Z Z (wq (cG Tryz.underlying63 Z) Z (dZ Z Z (wq (cG Tryz.underlying22 Z) Z (dB Z Z Z Z (rP 68 Z (by omega) (wq (bX false (.bool false) Z Z) Z (aB (aC (bW Z (aL (aC (aD (aA (wq (aG (.pointer _) Z) Z (dZ Z Z (aX Z Z ?_)))))))))))))))))))
  refine wq (fI ((nn:Int)) ((q1.n:Int)) xM rfl ⟨_,rfl⟩ rfl (by omega) (by omega) (by omega)) rfl (dU aQe rfl rfl (pH _ (F.mem M11) (N.mem M11) _ r _ hr (M11.ownSeg 5 3) (M11.away 5 3 F (by simp)) (M11.away 5 3 N (by simp)) _ (q1.n - nn) _ ((l.drop nn).take (q1.n - nn)) ((OpsRd.mk (hq1.rd M11 (aV (i:=0) rfl)) (fun x hx=>(hl.each x hx).mem M11):OpsRd _ q1.A q1.n l).sub nn q1.n (by omega) (Nat.le_refl _) hq1.slice) (fun x hx=>hby2 x (List.mem_of_mem_drop (List.mem_of_mem_take hx))) (by omega) (bAe hq1 (hq1.awayS M11 5 3 0 rfl rfl) (by omega)) (fun x hx=>M11.away 5 3 (hl.each x (List.mem_of_mem_drop (List.mem_of_mem_take hx))).rd (by simp))) ?_)
  rintro v12 w12 ⟨r2,q2,rs2,rfl,hr2,hq2,hoR2,hM12⟩
  have M12:Mem _ _ ([_,_,_,_,_,_,_,_,_]++_) _:=Mem.front (L:=[_,_,_,_,_,_,_,_]) (Mem.segU (L:=[_,_,_,_,_,_,_,_]) (B:=[_,_,_]) (A:=[_]) 5 3 M11 (Nat.le_of_ble_eq_true rfl) hM12)
  have hLe:((l.drop nn).take (q1.n - nn))=l.drop nn:=List.take_of_length_le (by rw [List.length_drop];omega)
  rw [hLe] at hr2 hq2 hoR2
  rw [aUi] at hr2
  have hq2n:(jF (fX [] ((opsO l).take nn)) (opsO ((l.drop nn)))).length=q2.n:=by have h:(jR _ rs2).length=q2.n:=hq2.1;rwa [oE hoR2.len] at h
  rw [kY,gB] at hq2n
  rw [List.length_drop] at hq2n
  refine eX Z Z (aB (aC (aD (aD (aA (dZ Z Z (wq (cG Tryz.underlying63 Z) Z (dZ Z Z (wq (cG Tryz.underlying22 Z) Z (aX Z Z (wq (lY Z Z (by omega) (by omega)) Z (dB Z Z Z Z (rP 81 Z (by omega) (aB (aC (bW Z (aL (aC (aD (aD (aA (bP Z Z (aB (aC (aT (dK (σ:=Nat) [7,9,12,13,15] (fun i=>[(16,.int .i64 (i:Int))]) (fun i w'=>i≤q2.n∧Mem w [] ([q1.e,qo.e,qm.e,q.e,(some b6,bc [.slice qo.A qo.n qo.c,.int .i64 (k:Int),.slice qm.A qm.n qm.c] 75),(some wb,bc [.slice r2.A r2.n r2.c,.map r2.p] 107),r2.er,r2.em,q2.e]++(ps.map Row.e++(rs.map Row.e++ms.map Row.e)++rs2.map Row.e)) w') (fun i=>q2.n - i) 0 (bN Z eZ) (⟨by omega,M12⟩) ?_))))))))))))))))))))))))))
  rintro i ρ13 w13 ⟨hi,hM13⟩
  refine aD (aD (aA (aX Z Z (dZ Z Z (wq (cG Tryz.underlying63 Z) Z (dB Z Z Z Z (aB (aC ?_))))))))
  refine bA Z (fun h85 => ?_) (fun h85 => ?_)
  ·obtain ⟨z,hz⟩:=cF (xs:=jF (fX [] ((opsO l).take nn)) (opsO (l.drop nn))) (k:=i) rfl (by rw [aQr,List.length_drop];omega)
   have hzq:=aVs (by omega) hz
   obtain ⟨pa,hpa1,hpa2⟩:=aOw (j:=i) hoR2.len hz
   obtain ⟨pb,hpb1,hpb2⟩:=aOw (j:=(nn+i)) hoR.len hzq
   refine aL (aC (aD (aT (aD (vB [(0,0),(1,0),(2,1),(3,1),(4,0),(5,0),(6,0),(7,0),(8,1),(9,1),(10,2),(11,0)] mixed Z (by kernel_rfl) (fun w14 hb14 hh14 => ?_))))))
   have M14:=hM13.drew hb14 hh14
   refine sH Z Z Z (gR Z Z Z (bS Z Z Z (bR (i) aIg Z Z Z ((hq2.rd M14 (aV (i:=8) Z)).below_len (hpa2)) ((hq2.rd M14 (aV (i:=8) Z)).someK (hpa2))) (bS Z Z Z (dT _ gG (hq2.rd M14 (aV (i:=8) Z)) (hpa2) Z) (fA 91 (.agg (dC z pa).toArray) Z (sH Z Z Z (gR Z Z Z (gR Z Z Z (aU Z Z Z (fun _=>bM Z Z (by omega) (by omega)) (fA 95 (.int .i64 ((nn+i:Nat):Int)) (iE (by omega)) (bS Z Z Z (bR ((nn+i)) aIg Z Z Z ((hq.rd M14 (aV (i:=3) Z)).below_len (hpb2)) ((hq.rd M14 (aV (i:=3) Z)).someK (hpb2))) ?_))))))))))
   refine bS Z Z Z (dT _ gG (hq.rd M14 (aV (i:=3) Z)) (hpb2) Z) (fA 97 (.agg (dC z pb).toArray) Z (dD [true,true,true,true] Z (by kernel_rfl) (dI bKg Z Z M14 (aSm _ z pa pb (hoR2.rd M14 (uZ (uZ aIq)) hpa1 hz) (hoR.rd M14 (uZ (bAq (uZ (bAq aIq)))) hpb1 hzq)) (fun w15 M15 => ?_))))
   refine aB (aC ⟨dE, ?_⟩)
   refine aU Z Z Z (fun _=>gE false Z Z) (bZ (aC (bW Z (aL (dF (aC (aA (aX Z Z (wq (bM Z Z (by omega) (by omega)) Z (bP Z Z (aB ?_)))))))))))
   refine cR (i+1) (bN Z eZ) (cT Z (cT Z (cT Z (cT Z (cT Z kB))))) ?_ ?_
   ·exact ⟨by omega,M15⟩
   ·omega
  ·refine cO (dA (cX (eV (aC (aD (aA (wq (aG (.pointer _) Z) Z (dU aEn Z Z (gM _ _ r2 _ hr2 (hM13.ownSeg 5 3)) ?_))))))))
   rintro v16 w16 ⟨s1,rfl,hs1,hM16⟩
   have M16:Mem _ _ ([_,_,_,_,_,_,_,_,_,_]++_) _:=Mem.front (L:=[_,_,_,_,_,_,_,_,_]) (hM13.seg 5 3 hM16)
   refine dZ Z Z (dU bFj Z Z (tZ _ (F.mem M16) (N.mem M16) q1.A q1.n q1.c l ⟨(hq1.rd M16 (aV (i:=0) Z)),fun x hx=>(hl.each x hx).mem M16⟩ hby2 (by omega)) ?_)
   rintro v17 w17 ⟨wb2,r3,rfl,hr3,hM17⟩
   have M17:Mem _ _ ([_,_,_,_,_,_,_,_,_,_,_,_,_]++_) _:=Mem.front (L:=[_,_,_,_,_,_,_,_,_,_]) (M16.call0 hM17)
   refine dU aEn Z Z (gM _ _ r3 _ hr3 (M17.ownSeg 10 3)) ?_
   rintro v18 w18 ⟨s2,rfl,hs2,hM18⟩
   have M18:Mem _ _ ([_,_,_,_,_,_,_,_,_,_,_,_,_,_]++_) _:=Mem.front (L:=[_,_,_,_,_,_,_,_,_,_,_,_,_]) (M17.seg 10 3 hM18)
   refine dI bEy Z Z M18 (aAe _ _ _ _ _ (hs1.rd M18 (aV (i:=9) Z)) _ _ _ _ (hs2.rd M18 (aV (i:=13) Z))) (fun w19 M19=>(rS 105 Z Z (wq (aI (.bool true) Z) Z (aB (aC (aP (cB (.bool true) Z ?_)))))))
   exact ⟨Z,M19.below⟩
namespace wholeReplays
open Go.ChangeShapes Go.WideShapes Go.ChangeAt Go.RowKit
open Go.ChangeMaps (open_string shut_string)
theorem own : ownKnob Tryz.prog.godebug = none := by kernel_rfl
theorem laidOut : laidOutB Tryz.prog = true := by kernel_rfl
set_option maxRecDepth 100000 in
theorem lifted (os : Os) (started : os.Started) (H : Type) (enc : TypeId × Value → H) :
  ReturnsInHanded {} Tryz.checked os 15 .any (fun w args => (Rows.wholeReplaysSpec.pre enc Tryz.prog Tryz.f15 [] false w args ∧ laidMet Tryz.prog zH w) ∧ sizedMet enc Tryz.prog Tryz.f15 (OpenSpec.ofChange Rows.wholeReplaysSpec) false w args) (Rows.wholeReplaysSpec.post enc Tryz.prog Tryz.f15 false true false false) := by
 refine returnsInHanded_of_change_and (C := Tryz.checked) (X := fun w _ => laidMet Tryz.prog zH w) (fun _ _ _ hh h => h.of_heap hh) own started (by kernel_rfl) Tryz.func15
  (ChangeSpec.witness_at (enc := enc) (C := Tryz.checked) (os := os) (X := fun w _ => laidMet Tryz.prog zH w) false (aRv os) #[.slice none 0 0, .int .u8 0, .int .u8 0] 8 rfl (by kernel_rfl) (by kernel_rfl) (by kernel_rfl) (by kernel_rfl) (by kernel_rfl) (laidMet_of_run' 8 (by kernel_rfl) (by kernel_rfl))) ?_
 intro W base args ds gs before hval0 hW hcnd hsz0 hL _
 have hsz : (DataW.weightsEach Tryz.prog (Tryz.f15.params.toList ++ Rows.wholeReplaysSpec.plain.varTypes Tryz.prog) (ds ++ gs)).all (· ≤ reachBytes) = true := hsz0
 have hval : ∀ (j : Nat) t v, Tryz.f15.params[j]? = some t → args[j]? = some v → Value.okWide Tryz.prog W .any base t v := hval0
 have hW' := hW
 obtain ⟨p, q, hA0, hV, rfl, hfz, hnd⟩ := hW
 have hA : DataW.TrodAll enc Tryz.prog W 0 (fun _ => true) true Tryz.f15.params.toList args.toList ds p := hA0
 rw [Tryz.params15] at hA hval hsz
 obtain ⟨v0, vs0, d0, ds0, p0, q0, hargs, rfl, rfl, h0, r0⟩ := trodAll_cons hA
 obtain ⟨v1, vs1, d1, ds1, p1, q1, rfl, rfl, rfl, h1, r1⟩ := trodAll_cons r0
 obtain ⟨v2, vs2, d2, ds2, p2, q2, rfl, rfl, rfl, h2, r2⟩ := trodAll_cons r1
 obtain ⟨rfl, rfl, rfl⟩ := trodAll_nil r2
 obtain rfl : args = #[v0, v1, v2] := by cases args; simp_all
 obtain ⟨rfl, rfl⟩ := trodVars_none hV
 have k0 := h0
 have lt0 : ∀ x ∈ p0, x.block < W.heap.size := by obtain ⟨m, hm⟩ := k0; exact DataW.trod_lt m _ _ _ hm
 obtain ⟨a0, len0, cap0, rfl⟩ := okWide_slice Tryz.underlying22 (hval 0 22 v0 rfl rfl)
 have y0 : ∀ n ∈ d0.weights Tryz.prog 22, n ≤ reachBytes := fun n hn => by simpa using List.all_eq_true.1 hsz _ (DataW.weights_mem_each (j := 0) rfl rfl n hn)
 obtain ⟨xs0, R0⟩ := aVw aHb bKo y0 h0
 have cp0 := aVx aHb h0
 obtain ⟨a1, rfl, rfl, rfl, w1⟩ := open_int Tryz.underlying5 (hval 1 5 v1 rfl rfl) h1
 have b1 : 0 ≤ a1 ∧ a1 ≤ 255 := aLp w1
 obtain ⟨a2, rfl, rfl, rfl, w2⟩ := open_int Tryz.underlying5 (hval 2 5 v2 rfl rfl) h2
 have b2 : 0 ≤ a2 ∧ a2 ≤ 255 := aLp w2
 clear hA0 hval0 hsz0 hsz
 obtain ⟨t1, rfl⟩ := Int.eq_ofNat_of_zero_le b1.1
 obtain ⟨t2, rfl⟩ := Int.eq_ofNat_of_zero_le b2.1
 refine (vR W (rdF hL) (rdN hL) _ _ _ xs0 R0 cp0 t1 (by omega) t2 (by omega)).mono fun e W' ⟨v, he, hv, bel⟩ => ?_
 subst he
 subst hv
 exact ⟨_, rfl, _, _, _, [], _, [], hW', trodAll_mk1 (shut_bool Tryz.underlying4 _), (trodAll_cons_mk (Below.trod laidOut (by kernel_rfl) (of_decide_eq_true (by kernel_rfl)) k0 bel lt0) (trodAll_cons_mk (shut_int Tryz.underlying5 w1) (trodAll_cons_mk (shut_int Tryz.underlying5 w2) trodAll_mk0))), rfl, bel.frame _, fun h => by cases h⟩
theorem andT {a b : Bool} (ha : a = true) (hb : b = true) : (a && b) = true := by rw [ha, hb]; rfl
theorem closed : joinedFacts Tryz.prog 15 Tryz.f15 Rows.wholeReplaysSpec Rows.wholeReplaysRow = true := by
 unfold joinedFacts
 repeat' (with_reducible refine andT ?_ ?_)
 all_goals (as_aux_lemma => kernel_rfl)
theorem over : Rows.wholeReplaysRow.holds Tryz.pinned (OpenSpec.ofChange Rows.wholeReplaysSpec) :=
 OpenClaim.holds_of_wide 15 Tryz.f15 rfl rfl rfl rfl rfl rfl rfl ⟨rfl, rfl, rfl, rfl, rfl⟩ rfl rfl rfl rfl rfl (by kernel_rfl) Tryz.func15 closed
  (of_decide_eq_true (by kernel_rfl)) (by unfold Func.isWrapper; first | (rw [if_pos (by decide +kernel)]; kernel_rfl) | (rw [if_neg (by decide +kernel)]; exact ⟨rfl, rfl⟩))
  (fun os started H enc _ => lifted os started H enc)
end wholeReplays
theorem wholeReplays_holds : Rows.WholeReplaysSaid := wholeReplays.over
#print axioms wholeReplays_holds
theorem wholeReplays_cw : Rows.wholeReplaysRow.wfByText (OpenSpec.ofChange Rows.wholeReplaysSpec) = true := by kernel_rfl
theorem wholeReplays_cl : false = Tryz.checked.prog.looks [] := by kernel_rfl
theorem wholeReplays_cg : false = Rows.wholeReplaysRow.goesBy Tryz.pinned.checked.prog := by kernel_rfl
theorem wholeReplays_cm : Tryz.pinned.checked.prog.mainIs = some (true, "60fad30dfb67d9dd14e679b449d58df77fa72712b07425b57b34720f96154737".toList) := by kernel_rfl
theorem wholeReplays_cf : Tryz.prog.funcNamed "billiard/billiardtop.WholeReplays" = some 15 := by kernel_rfl
theorem wholeReplays_card : Rows.WholeReplaysCardSaid :=
 Claim7.holds_tied_plain_at .later [] [.data, .data] true (true, "60fad30dfb67d9dd14e679b449d58df77fa72712b07425b57b34720f96154737") false
  wholeReplays_holds (fun _ h => by cases h) wholeReplays_cw (fun _ h => by cases h) wholeReplays_row_tie rfl ⟨rfl, rfl⟩ wholeReplays_cm rfl
  (fun f fn hf hfn => by
   obtain rfl : f = 15 := Option.some.inj (wholeReplays_cf.symm.trans hf) |>.symm
   obtain rfl : fn = Tryz.f15 := (Option.some.inj (Tryz.func15.symm.trans hfn)).symm
   exact ⟨wholeReplays_cl, fun j t ht => by
    rw [Tryz.params15] at ht
    have hm : t ∈ [22, 5, 5] := by simpa using Array.mem_of_getElem? ht
    have hall : ([22, 5, 5].all fun u => !Tryz.prog.wantsStandIn u) = true := by kernel_rfl
    exact (show Tryz.prog.wantsStandIn t = false by simpa using List.all_eq_true.1 hall t hm)⟩)
  wholeReplays_cg
#print axioms wholeReplays_card
end Go.Proofs.YtaoaknafiegfoaaGreatDoor
