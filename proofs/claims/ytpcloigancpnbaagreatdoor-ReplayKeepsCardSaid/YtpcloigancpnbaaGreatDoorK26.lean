/- Part of the proof of a law of this seat (6 texts). No conditions. -/
import Derived.Test.YtpcloigancpnbaaGreatDoorK25
import Derived.Test.YtpcloigancpnbaaGreatDoorK17
import Derived.Test.YtpcloigancpnbaaGreatDoorK24
set_option linter.unusedVariables false
set_option linter.unusedSimpArgs false
set_option linter.unnecessarySimpa false
set_option maxHeartbeats 100000000
namespace Go.Proofs.YtpcloigancpnbaaGreatDoor
open Go.Bil
open Go.RowKit (Below)
open Go.Proofs
open Go.Proofs.Tryz
theorem aZc (w:World) (a b:Int) :
  Calls prog 185 #[.int .u32 a,.int .u32 b] w (Rb w ((.agg (cQ (prI a b)).toArray))):=by
 refine aI #[.cell 4 173] 12 func185 Z results185 ntmps185 Z ?_
 have M0:=Mem.refl w
 refine aE (aA (aR wK M0 Z Z (fun b1 w1 M1=>(aB (aC (aE (aA (aQ Z Z (aQ Z Z (wq (aGt Z Z ) Z (aQ Z Z (aQ Z Z (wq (pB Z Z ) Z (wq (cB [(0,.int _ _),(1,.int _ _)] _ aBt Z Z) Z (bG 0 _ jU M1 Z Z Z Z Z (aS Z) Z (fun w2 M2=>(aB (aC (aO (eQ 0 jU M2 Z Z Z ?_))))))))))))))))))))
 exact ⟨Z,M2.below⟩
theorem bIs (w:World) (A:Option Addr) (x y:Int) (R:Rd w 1 A 2 [[.int .i64 x],[.int .i64 y]]) :
  Calls prog 213 #[.slice A 2 2] w (gH (fun v w'=>v=.int .i64 (if x=0 then y else x)∧w'=w)):=by
 refine aI #[.tmp 2] 18 func213 Z results213 ntmps213 Z ?_
 have M0:=Mem.refl w
 refine aE (aA (bK Z Z (aB (aC (aE (aA (bK Z Z (aB (aC (aE (aE (aA (dK Z Z (wq (cK underlying338 Z) Z (aL 7 (.int .i64 2) (iE Z) (aQ Z Z (aB (aC (aP (jH 3 (fO (aE (aA (cX Z Z Z Z (kR 9 Z (by first | decide | omega) (aB (aC (aE (cE Z ?_)))))))))))))))))))))))))))))
 refine aM (aC (aE (aP (aE (aA (wq (bJ (0) bHf Z Z Z (R.below_len ((Z:([[.int .i64 x],[.int .i64 y]]:List (List Value))[0]? = some [.int .i64 x]))) (R.someK ((Z:([[.int .i64 x],[.int .i64 y]]:List (List Value))[0]? = some [.int .i64 x])))) Z (wq (fU (.int _ _) fT R ((Z:([[.int .i64 x],[.int .i64 y]]:List (List Value))[0]? = some [.int .i64 x])) Z) Z (bK Z Z (aB (aC (aE (aA (aQ Z Z (aQ Z Z (cX Z Z Z Z (aB (aC ?_)))))))))))))))))
 refine aU Z (fun h14 => ?_) (fun h14 => ?_)
 ·refine aE (aA (aQ Z Z (bK Z Z (aB (aC (aO (lU (cO (cO (lU (cO (cI (.int _ _) Z ?_))))))))))))
  exact ⟨iE (by split <;> omega),Z⟩
 ·refine aM (cR (aC (aA (wq (bC Z Z (by first | decide | omega) (by first | decide | omega)) Z (aL 16 (.int .i64 1) (iE (by first | decide | omega)) (aQ Z Z (aB (aC (fO (aE (aA (cX Z Z Z Z (kR 9 Z (by first | decide | omega) (aB (aC (aE (cE Z (aM (aC (aE (aP (aE (aA (wq (bJ (1) bHf Z Z Z (R.below_len ((Z:([[.int .i64 x],[.int .i64 y]]:List (List Value))[1]? = some [.int .i64 y]))) (R.someK ((Z:([[.int .i64 x],[.int .i64 y]]:List (List Value))[1]? = some [.int .i64 y])))) Z ?_))))))))))))))))))))))))
  refine wq (fU (.int _ _) fT R ((Z:([[.int .i64 x],[.int .i64 y]]:List (List Value))[1]? = some [.int .i64 y])) Z) Z (bK Z Z (aB (aC (aE (aA (aQ Z Z (aQ Z Z (cX Z Z Z Z (aB (aC ?_))))))))))
  refine aU Z (fun h14 => ?_) (fun h14 => ?_)
  ·refine aE (aA (aQ Z Z (bK Z Z (aB (aC (aO (lU (cO (cO (lU (cO (cI (.int _ _) Z ?_))))))))))))
   exact ⟨iE (by split <;> omega),Z⟩
  ·refine aM (cR (aC (aA (wq (bC Z Z (by first | decide | omega) (by first | decide | omega)) Z (aL 16 (.int .i64 2) (iE (by first | decide | omega)) (aQ Z Z (aB (aC (fO (aE (aA (cX Z Z Z Z (pD 9 Z (by first | decide | omega) (aB (aC (aE (cG Z (cN (dC (dC (eJ ?_)))))))))))))))))))))
   refine aC (aE (aA (aQ Z Z (bK Z Z (aB (aC (aO (cI (.int _ _) Z ?_))))))))
   exact ⟨iE (by split <;> omega),Z⟩
theorem aMk (a b:Int × Int) (w:World) :
  Calls prog 188 #[(.agg (cQ a).toArray),(.agg (cQ b).toArray)] w (gH (fun v w'=>v=.int .i64 (aYm a b)∧∃ q os,w'=Go.Sort.grow (w.drewN q) os)):=by
 refine aI #[.tmp 4] 17 func188 Z results188 ntmps188 Z ?_
 have M0:=Mem.refl w
 refine aE (aA (aEe (.agg (.mk _)) M0 Z Z Z (fun M1=>(aEe (.agg (.mk _)) M1 Z Z Z (fun M2=>(bK Z Z (aB (aC (aE (bIj [(0,0),(1,1),(2,0),(3,1),(5,0),(6,1),(7,0),(8,1),(4,2),(9,2),(10,2),(11,2),(12,0)] mixed Z (by kernel_rfl) ?_))))))))))
 have M3:=M2.drewE
 refine aV Z Z Z (fun _=>aD 0 gU Z) (bP Z Z Z (aK 0 (.int _ _) bV M3 Z Z Z) (aV Z Z Z (fun _=>aD 0 gU Z) (bP Z Z Z (aK 1 (.int _ _) bV M3 Z Z Z) (aV Z Z Z (fun _=>aD 1 kJ Z) (bP Z Z Z (aK 0 (.int _ _) bV M3 Z Z Z) (aV Z Z Z (fun _=>aD 1 kJ Z) (bP Z Z Z (aK 1 (.int _ _) bV M3 Z Z Z) (dI [false,false,true,true] Z (by kernel_rfl) (eP aVo Z Z (nV _ _ _) ?_)))))))))
 rintro v4 w4 ⟨rfl,rfl⟩
 have M4:Mem _ _ [_,_] _:=M3
 refine aB (aC ⟨(dS (bI Z (aK 1 (.int _ _) bV M4 Z Z Z)) (dS (bI Z (aK 0 (.int _ _) bV M4 Z Z Z)) dJ)), ?_⟩)
 refine dI [true,true] Z (by kernel_rfl) (eP aVo Z Z (nV _ _ _) ?_)
 rintro v5 w5 ⟨rfl,rfl⟩
 have M5:Mem _ _ [_,_] _:=M4
 refine aB (aC ⟨dJ, ?_⟩)
 refine dI [] Z (by kernel_rfl) (aUr [.int _ _,.int _ _] [[.int .i64 (qE a.1 b.1)],[.int .i64 (qE a.2 b.2)]] Z bHf M5 Z Z Z Z (cU Z) (by decide) (fun M6 => ?_))
 refine aB (aC ⟨dJ, ?_⟩)
 refine dI [] rfl (by kernel_rfl) (eP bQp rfl rfl (bIs _ _ _ _ ((kZ (T:=3) [[.int .i64 (qE a.1 b.1)],[.int .i64 (qE a.2 b.2)]] (by simp) rfl (show 2≤281474976710656 by decide)).rd M6 (bA (i:=2) rfl))) ?_)
 rintro v7 w7 ⟨rfl,rfl⟩
 have M7:Mem _ _ [_,_,_] _:=M6
 refine aB (aC ⟨dJ, ?_⟩)
 refine mW Z Z Z (bS (aC (aO (cI (.int _ _) Z ?_))))
 exact ⟨iE Z,bVn _ _ _ _⟩
theorem bGa:aVc prog 188 cQ aYm:=fun x y w=>aMk x y w
theorem bFz:KeyT prog 275 173 276 cQ:=by
 refine ⟨underlying275,⟨_,underlying173⟩,fun a w => ?_,fun a b w => ?_,fun a=>by simp [cQ,Instr.sameBits]⟩
 ·have h42:=bW (w:=w) underlying173
  have hc:∀ x:Int,(Instr.checkKey false 9999 39 (.int .u32 x)).run prog w=.ok () w:=fun x=>MapKept.run_checkKey (d:=.int .u32) underlying39 (by simp [MapKept.IsKey]) false 9998
  have p0:(Go.part 39 #[.int .u32 a.1,.int .u32 a.2] 0).run prog w=.ok (.int .u32 a.1) w:=nD (l:=[.int .u32 a.1,.int .u32 a.2]) bV rfl
  have p1:(Go.part 39 #[.int .u32 a.1,.int .u32 a.2] 1).run prog w=.ok (.int .u32 a.2) w:=nD (l:=[.int .u32 a.1,.int .u32 a.2]) bV rfl
  show (Instr.checkKey false (9999+1) 173 _).run _ w=_
  unfold Instr.checkKey
  simp only [Sem.run_bind,h42,Result.andThen_ok,cQ]
  simp [p0,p1,hc,Sem.run_bind,Sem.run_pure]
 ·have h:=(bRh a.1 a.2 b.1 b.2).2 w
  have e:decide (a.1=b.1∧a.2=b.2)=decide (a=b):=decide_eq_decide.2 Prod.ext_iff.symm
  rw [e] at h
  exact h
theorem aHh (w:World) (A:Option Addr) (n c:Nat) (xs:List (Int × Int)) (e:eL) (hR:aZ 173 2 A n c (xs.map cQ) e) (hw:Own [e] w) (hn:n≤1099511627776) :
  Calls prog 211 #[.slice A n c,.func (.func 188) #[] #[]] w (fun ex w'=>∃ v,ex=.returned v∧v=.tuple #[]∧∃ (ys:List (Int × Int)) (e':eL),ys.Perm xs∧(ys.Pairwise fun a b=>¬ ltP b a)∧aZ 173 2 A n c (ys.map cQ) e'∧Mem w (bY [e]) [e'] w'):=by
 have h:=xD bAt (T:=173) jU cQ aIw (fun x v hv=>by simp only [cQ,List.mem_cons,List.not_mem_nil,or_false] at hv;rcases hv with h | h <;> subst h <;> rfl) _ bHl 188 bQd bGa w A xs e hR hw (by omega)
 refine Calls.mono h ?_
 rintro ex w' ⟨v,h1,h2,ys,e',h3,h4,h5,h6⟩
 refine ⟨v,h1,h2,ys,e',h3, ?_,h5,h6⟩
 refine List.pairwise_iff_getElem.2 fun i j hi hj hij => ?_
 have:=h4 i j _ _ hij (List.getElem?_eq_getElem hi) (List.getElem?_eq_getElem hj)
 have h:=of_decide_eq_false this
 rwa [aOs] at h
theorem aTf (w:World) (mb:Nat) :
  Calls prog 187 #[.map (some mb)] w (gH (fun v w'=>∃ bb,v=.func (.func 212) #[] #[.pointer (some ⟨bb,0,none⟩)]∧Mem w [] [(some bb,bc [.map (some mb)] 275)] w')):=by
 refine aI #[.tmp 2] 4 func187 Z results187 ntmps187 Z ?_
 have M0:=Mem.refl w
 refine aE (aA (bN (.map _) M0 Z Z Z (fun b1 w1 M1=>(wq (aJ (_) Z) Z (aB (aC (aE (aA (wq (dU [] [.pointer _] Z Z) Z (wq (aJ (.func _ _ _) Z) Z (aB (aC (aO (cI (.func _ _ _) Z ?_))))))))))))))
 exact ⟨b1,Z,M1⟩
theorem aPz (w:World) (bb:Nat) (mb clock:Nat) (L:List ((Int × Int) × Nat)) (hmb:w.heap[mb]? = some (lI cQ L clock)) (hml:mb < w.heap.size) (hS:SetOk L clock) (hLN:L.length < 1099511627776) (B1:Rd w 1 (some ⟨bb,0,none⟩) 1 [[.map (some mb)]]) (lp ob:Nat) (rec:Loop) (hY:yE prog lp ob rec 220 173 2 1099511627776 (fun x=>∃ a b,x=[.int .u32 a,.int .u32 b])) (r0:Row) (hr0:aZ 173 2 r0.A r0.n r0.c [] r0.e) (hO:Own [(some lp,.loop rec),(some ob,bc [.slice r0.A r0.n r0.c] 220),r0.e] w) (hd1:0 < 1→∀ q off,(some ⟨bb,0,none⟩:Option Addr)=some ⟨q,off,none⟩→q∉bY [(some lp,.loop rec),(some ob,bc [.slice r0.A r0.n r0.c] 220),r0.e]) (hmX:mb∉bY [(some lp,.loop rec),(some ob,bc [.slice r0.A r0.n r0.c] 220),r0.e]) :
  Calls prog 212 #[.func (.yield lp) #[] #[],.pointer (some ⟨bb,0,none⟩)] w (gH (fun v w'=>v=.tuple #[]∧∃ (r:Row) (T:List ((Int × Int) × Nat)),T.Perm L∧aZ 173 2 r.A r.n r.c ((T.map (fun z=>z.1)).map cQ) r.e∧Mem w (bY [(some lp,.loop rec),(some ob,bc [.slice r0.A r0.n r0.c] 220),r0.e]) [(some lp,.loop rec),(some ob,bc [.slice r.A r.n r.c] 220),r.e] w')):=by
 rw [← hJ bb]
 refine aI #[] 14 func212 Z results212 ntmps212 Z ?_
 have M0:=hO.mem
 refine aE (aA (wq (dM (o:=0) (.map _) bRz (B1.memY M0 hd1) (show ([[.map (some mb)]]:List (List Value))[0]? = some ([.map (some mb)]) from rfl) rfl rfl) rfl (bHy (α:=Int × Int) underlying275 M0 rfl rfl rfl ((M0.old mb hml hmX).trans hmb) (fun b1 w1 M1=>(aB (aC (aP (dG (σ:=List ((Int × Int) × Nat) × Row) [0,5] (fun (T,r)=>[]) (fun (T,r) w'=>((∀ p∈T,p∈L)∧(T.map (·.2)).Nodup∧aZ 173 2 r.A r.n r.c ((T.map (fun z=>z.1)).map cQ) r.e)∧Mem w (bY [(some lp,.loop rec),(some ob,bc [.slice r0.A r0.n r0.c] 220),r0.e]) [(some lp,.loop rec),(some ob,bc [.slice r.A r.n r.c] 220),r.e,(some b1,zF mb clock T)] w') (fun (T,r)=>L.length - T.length) ([],r0) dZ (⟨⟨(fun p hp=>nomatch hp),by simp,hr0⟩,M1⟩) ?_))))))))
 rintro ⟨T,r⟩ ρ2 w2 ⟨⟨hTs,hTn,hr⟩,hM2⟩
 have hrl:T.length=r.n:=by simpa using hr.1
 have hTl:=aOo hTn hTs
 refine aE (aA ?_)
 refine bLt (enc:=cQ) 3 hM2 Z Z Z Z ((hM2.old mb hml hmX).trans hmb) hS.lt (fun hover => ?_) (fun p3 w3 hp3 hnp3 M3 => ?_)
 ·refine wq (bM (.bool false) Z Z) Z (aB (aC (aE (cG Z (cN (dC (dE (eJ (kI ?_)))))))))
  exact ⟨Z,r,T,bDo hS.nd hTn hTs hover,hr,hM2.keep [true,true,true,false]⟩
 ·refine wq (bM (.bool true) Z Z) Z (aB (aC (aE (cE Z (aM (aC (aP (aE (aA (wq (bKw (enc:=cQ) 3 (p3) M3 Z Z ((M3.old mb hml hmX).trans hmb) hp3 hS.nd) Z (wq (bM (.agg (.mk _)) Z Z) Z (aR wK M3 Z Z (fun b4 w4 M4=>(bG 4 _ jU M4 Z Z Z Z Z (aS Z) Z (fun w5 M5=>(aB (aC (aE (aJl (aLg (aH (.func _ _ _) Z) Z Z (aLg (aX 4 jU M5 Z Z Z) Z Z ?_)))))))))))))))))))))
  obtain ⟨fy,ty,ay,by1,hy1,hy2⟩:=hY _ r ((T.map (fun z=>z.1)).map cQ) (cQ p3.1) ⟨_,_,rfl⟩ (by omega) hr (M5.ownSeg 0 3)
  refine aLh Z Z Z Z hy1 (hy2.mono ?_)
  rintro _ w6 ⟨rfl,q6,hqn6,hq6,hM6⟩
  have M6:Mem _ _ [_,_,_,_,_] _:=M5.seg 0 3 hM6
  refine ⟨_,Z, ?_⟩
  refine bHw Z (fun _ _ h=>h) (wq (gR false Z Z) Z (aB (aC (cG Z (aM (cR ?_))))))
  have hTs2:∀ p∈T++[p3],p∈L:=fun p hp=>(List.mem_append.1 hp).elim (hTs p) (fun h=>by rw [List.mem_singleton] at h;rw [h];exact hp3)
  have hTn2:=aYd hTn hnp3
  have hTl2:=aOo hTn2 hTs2
  rw [List.length_append,List.length_singleton] at hTl2
  refine bX (T++[p3],q6) dZ (bZ Z (bZ Z gK)) ?_ ?_
  ·exact ⟨⟨hTs2,hTn2,by rw [List.map_append,List.map_append];exact hq6⟩,M6.keep [true,true,true,true,false]⟩
  ·(show L.length - (T++[p3]).length < L.length - T.length;rw [List.length_append,List.length_singleton];omega)
theorem aAb (w:World) (bb:Nat) (mb clock:Nat) (L:List ((Int × Int) × Nat)) (hmb:w.heap[mb]? = some (lI cQ L clock)) (hml:mb < w.heap.size) (hS:SetOk L clock) (hLN:L.length < 1099511627776) (B1:Rd w 1 (some ⟨bb,0,none⟩) 1 [[.map (some mb)]]) :
  Calls prog 230 #[.slice none 0 0,.func (.func 212) #[] #[.pointer (some ⟨bb,0,none⟩)]] w (gH (fun v w'=>∃ (r:Row) (T:List ((Int × Int) × Nat)),T.Perm L∧v=.slice r.A r.n r.c∧aZ 173 2 r.A r.n r.c ((T.map (fun z=>z.1)).map cQ) r.e∧Mem w [] [r.e] w')):=by
 refine aBz #[.tmp 4] 13 func230 Z results230 ntmps230 Z ?_
 have M0:=Mem.refl w
 refine sJ (qB (bN (.slice _ _ _) M0 Z Z Z (fun b1 w1 M1=>(eH Z Z (aB (tB (sJ (sJ (qB (wq (aH (.func _ _ _) Z) Z (aB (tB (aNw ?_)))))))))))))
 have M2:Mem _ _ [_,_] _:=M1.dummy default
 refine aNx bQo M2 Z (fun fnn B lp tmps w1 hρ hn M1 => ?_)
 refine aHv (P:=prog) (ob:=b1) (Tsl:=220) (Te:=173) (sz:=2) (N:=1099511627776) (ok:=(fun x=>∃ a b,x=[.int .u32 a,.int .u32 b])) M1 ?_ (fun hY => ?_)
 ·intro wr r ls x hok hlt hrow hO
  obtain ⟨xa,xb,rfl⟩:=hok
  refine ⟨_,_,_,_,aQt hO Z Z Z hn (by decide) hρ ?_⟩
  have MR0:=hO.mem
  refine vE Z (fun _ _ h=>nomatch h.1) (aR wK MR0 Z Z (fun b3 w3 M3=>(bG 3 _ jU M3 Z Z Z Z Z (aS Z) Z (fun w4 M4=>(aB ?_)))))
  refine ⟨Z,_,M4,Z,fun w5 M5 => ?_⟩
  refine aNy (vE rfl (fun _ _ h=>nomatch h.1) (wq (aK 1 (.slice _ _ _) aTi M5 rfl rfl rfl) rfl (wq (aX 3 jU M5 rfl rfl rfl) rfl (cC [.agg (List.toArray _)] [[.int .u32 xa,.int .u32 xb]] rfl aAa M5 rfl rfl rfl rfl (cU rfl) (by decide) (fun b6 w6 M6=>(cW 2 [[.int .u32 xa,.int .u32 xb]] aAa M6 rfl rfl rfl rfl rfl hrow rfl (by simp [Go.Bil.one]) (dL.ofMem 4 M6 rfl) (by omega) (fun A7 c7 e7 w7 M7 hR7=>(dA 1 (.slice _ _ _) aTi M7 rfl rfl rfl rfl rfl rfl (fun w8 M8=>(aB (cR ?_)))))))))))
  refine ⟨Z,_,M8,Z,fun w9 M9 => ?_⟩
  exact ⟨⟨A7,r.n+1,c7,e7⟩,Z,hR7,M9.keep [true,true,true,false,false]⟩
 ·refine (aPz _ bb mb clock L ((M1.old mb hml List.not_mem_nil).trans hmb) (Nat.lt_of_lt_of_le hml M1.size) hS hLN (B1.mem M1) lp b1 _ hY ⟨none,0,0,(none,default)⟩ (aZ.nil _ _ _) (M1.ownSeg 0 3) (M1.away 0 3 B1 (fun _ q off _ h=>by simp at h)) (M1.notNew 3 hml)).mono ?_
  rintro _ w5 ⟨v5,rfl,rfl,r,T,hT,hr,hM⟩
  have M5:Mem _ _ (_::[_,_,_]) _:=M1.seg 0 3 hM
  refine ⟨_,Z,_,M5,fun w6 M6 => ?_⟩
  refine bMk (tB (sJ (aJk (aXn (aK 1 (.slice _ _ _) aTi M6 Z Z Z) Z Z (aXn (aJ (.slice _ _ _) Z) Z Z (aXm (tB (bBl (bNj (i:=3) (.slice _ _ _) Z M6 Z (fun w9 M9 => ?_))))))))))
  exact ⟨r,T,hT,Z,hr,M9.keep [false,false,true,false]⟩
theorem aDm (w:World) (bb:Nat) (mb clock:Nat) (L:List ((Int × Int) × Nat)) (hmb:w.heap[mb]? = some (lI cQ L clock)) (hml:mb < w.heap.size) (hS:SetOk L clock) (hLN:L.length < 1099511627776) (B1:Rd w 1 (some ⟨bb,0,none⟩) 1 [[.map (some mb)]]) :
  Calls prog 210 #[.func (.func 212) #[] #[.pointer (some ⟨bb,0,none⟩)]] w (gH (fun v w'=>∃ (r:Row) (T:List ((Int × Int) × Nat)),T.Perm L∧v=.slice r.A r.n r.c∧aZ 173 2 r.A r.n r.c ((T.map (fun z=>z.1)).map cQ) r.e∧Mem w [] [r.e] w')):=by
 refine aI #[.tmp 2] 5 func210 Z results210 ntmps210 Z ?_
 have M0:=Mem.refl w
 refine aE (aA (eH Z Z (aB (aC (aE (aA (wq (aH (.func _ _ _) Z) Z (eP bQy Z Z (aAb _ bb mb clock L ((M0.old mb hml List.not_mem_nil).trans hmb) (Nat.lt_of_lt_of_le hml M0.size) hS hLN (B1.mem M0)) ?_))))))))
 rintro v1 w1 ⟨r,T,hT,rfl,hr,hM1⟩
 have M1:Mem _ _ [_] _:=M0.call0 hM1
 refine eH Z Z (aB (aC (aO (cI (.slice _ _ _) Z ?_))))
 exact ⟨r,T,hT,Z,hr,M1⟩
theorem yC (w:World) (bb:Nat) (mb clock:Nat) (L:List ((Int × Int) × Nat)) (hmb:w.heap[mb]? = some (lI cQ L clock)) (hml:mb < w.heap.size) (hS:SetOk L clock) (hLN:L.length < 1099511627776) (B1:Rd w 1 (some ⟨bb,0,none⟩) 1 [[.map (some mb)]]) :
  Calls prog 186 #[.func (.func 212) #[] #[.pointer (some ⟨bb,0,none⟩)],.func (.func 188) #[] #[]] w (gH (fun v w'=>∃ (r:Row) (ys:List (Int × Int)),Asc ys∧(∀ z,z∈ys↔z∈L.map (·.1))∧v=.slice r.A r.n r.c∧aZ 173 2 r.A r.n r.c ((ys).map cQ) r.e∧Mem w [] [r.e] w')):=by
 refine aI #[.tmp 4] 12 func186 Z results186 ntmps186 Z ?_
 have M0:=Mem.refl w
 refine aE (aA (eH Z Z (aB (aC (aE (aA (wq (aH (.func _ _ _) Z) Z (eP bQm Z Z (aDm _ bb mb clock L ((M0.old mb hml List.not_mem_nil).trans hmb) (Nat.lt_of_lt_of_le hml M0.size) hS hLN (B1.mem M0)) ?_))))))))
 rintro v1 w1 ⟨r,T,hT,rfl,hr,hM1⟩
 have M1:Mem _ _ [_] _:=M0.call0 hM1
 have hrl:T.length=r.n:=by simpa using hr.1
 have hTL:=hT.length_eq
 refine eH Z Z (aB (aC (aE (aA (dK Z Z (wq (aH (.func _ _ _) Z) Z (eP bQn Z Z (aHh _ _ _ _ (T.map (fun z=>z.1)) _ hr (M1.ownAt (i:=0) Z) (by omega)) ?_)))))))
 rintro v2 w2 ⟨rfl,ys,e2,hpp,huu,hR2,hM2⟩
 have M2:Mem _ _ [_] _:=M1.seg 0 1 hM2
 refine aB (aC (aE (aA (dK Z Z (eH Z Z (aB (aC (aO (cI (.slice _ _ _) Z ?_)))))))))
 have hpl:ys.Perm (L.map (·.1)):=hpp.trans (hT.map _)
 exact ⟨⟨r.A,r.n,r.c,e2⟩,ys,bOe (hpl.nodup_iff.2 hS.keys) huu,fun z=>hpl.mem_iff,Z,hR2,M2⟩
theorem aDj (w:World) (b:Nat) (rs:List Row) (cnt:Int) (g:Nat→List Int) (hlen:rs.length=1024) (G:Rd w 1025 (some ⟨b,0,none⟩) 1 [fD rs cnt]) (hrow:∀ (j:Nat) (r:Row),rs[j]? = some r→Rd w 1 r.A r.n ((g j).map iM)∧r.n≤r.c) (ks:List Int) (hks:∀ j,j < 1024→∀ x∈g j,x∈ks) (hkl:ks.length≤65536) :
  Calls prog 168 #[.pointer (some ⟨b,0,none⟩)] w (gH (fun v w'=>∃ (r:Row) (ps:List (Int × Int)),Asc ps∧(∀ z,z∈ps↔z∈rQ g 1024)∧v=.slice r.A r.n r.c∧aZ 173 2 r.A r.n r.c ((ps).map cQ) r.e∧Mem w [] [r.e] w')):=by
 rw [← hJ b]
 refine aI #[.tmp 2] 49 func168 Z results168 ntmps168 Z ?_
 have M0:=Mem.refl w
 refine aE (aA (eH Z Z (aB (aC (aE (aE (aA (wq (aH (elt _ _) Z) Z (wq (aQh underlying267 (G.mem M0) (show ([fD rs cnt]:List (List Value))[0]? = some (fD rs cnt) from Z) Z) Z (aB (aC (cG Z (aM (aC (aE (aA (nS M0 Z Z (fun b1 w1 M1=>(wq (aJ (.map _) Z) Z (aB (aC (aE (aE (aA (wq (aH (elt _ _) Z) Z (wq (aQi (G.mem M1) (iR ((G.mem M1).below_len (show ([fD rs cnt]:List (List Value))[0]? = some (fD rs cnt) from Z))) Z) Z (wq (aT 0 aFm (G.mem M1) (iR ((G.mem M1).below_len (show ([fD rs cnt]:List (List Value))[0]? = some (fD rs cnt) from Z))) Z) Z ?_)))))))))))))))))))))))))))
 refine wq (kW (o:=0) (rs.map (fun r=>Value.slice r.A r.n r.c)) bOc (G.mem M1) (show ([fD rs cnt]:List (List Value))[0]? = some (fD rs cnt) from rfl) rfl (aPm hlen) (by simp [hlen])) rfl (aQ rfl rfl (aB (aC (aP (dG (σ:=Nat × Nat × List ((Int × Int) × Nat)) [2,3,16] (fun (i,c0,L0)=>[(17,.int .i64 (i:Int))]) (fun (i,c0,L0) w'=>i≤1024∧(SetOk L0 c0∧∀ z,z∈L0.map (fun z=>z.1)↔z∈rQ g i)∧Mem w [] [(some b1,lI cQ L0 c0)] w') (fun (i,c0,L0)=>1024 - i) (0,0,[]) (bE rfl dZ) (⟨by omega,⟨SetOk.nil,fun z=>by simp [rQ]⟩,M1⟩) ?_)))))
 rintro ⟨i,c0,L0⟩ ρ2 w2 ⟨hi,⟨hS0,hI0⟩,hM2⟩
 refine aE (aA (cX Z Z Z Z (aB (aC (aE ?_)))))
 refine aU Z (fun h18 => ?_) (fun h18 => ?_)
 ·obtain ⟨rj,hrj⟩:=cF (xs:=rs) (k:=i) hlen (by omega)
  obtain ⟨Rj,hcj⟩:=hrow i rj hrj
  have hlj:(g i).length=rj.n:=by simpa using Rj.len
  have hbj:=Rj.bound
  refine aM (aC (aE (aP (aE (aA (wq (aBn (i) (.slice rj.A rj.n rj.c) aRr aMy rfl rfl (by omega) (by omega) rfl (by rw [nQ];exact aG _ hrj)) rfl (eH rfl rfl (aB (aC (aE (aA (dK rfl rfl (wq (cK underlying242 rfl) rfl (aQ rfl rfl (aB (aC (aP (dG (σ:=Nat × Nat × List ((Int × Int) × Nat)) [2,3,5,16,17,20,21] (fun (p,c2,L2)=>[(22,.int .i64 (p:Int))]) (fun (p,c2,L2) w'=>p≤rj.n∧(SetOk L2 c2∧∀ z,z∈L2.map (fun z=>z.1)↔z∈rQ g i++aCr (g i) p)∧Mem w [] [(some b1,lI cQ L2 c2)] w') (fun (p,c2,L2)=>rj.n - p) (0,c0,L0) (bE rfl dZ) (⟨by omega,⟨hS0,fun z=>by rw [hI0 z];simp [aCr]⟩,hM2⟩) ?_))))))))))))))))))
  rintro ⟨p,c2,L2⟩ ρ3 w3 ⟨hp,⟨hS2,hI2⟩,hM3⟩
  refine aE (aA (cX Z Z Z Z (aB (aC (aE ?_)))))
  refine aU Z (fun h23 => ?_) (fun h23 => ?_)
  ·obtain ⟨xa,hxa⟩:=cF (xs:=g i) (k:=p) hlj (by omega)
   refine aM (aC (aE (aP (aE (aA (aQ rfl rfl (wq (bJ (p) aRe rfl rfl rfl ((Rj.mem hM3).below_len (aG iM hxa)) ((Rj.mem hM3).someK (aG iM hxa))) rfl (wq (fU (.int _ _) bV (Rj.mem hM3) (aG iM hxa) rfl) rfl (bK rfl rfl (bK rfl rfl (aB (aC (aE (aA (dK rfl rfl (aQ rfl rfl (wq (eS (0) ((p:Int)) aRe rfl rfl ⟨_,rfl⟩ (by decide) (by omega) (by omega)) rfl (wq (cK underlying242 rfl) rfl (aQ rfl rfl (aB (aC (aP (dG (σ:=Nat × Nat × List ((Int × Int) × Nat)) [2,3,5,7,16,17,20,21,22,29,30] (fun (q,c4,L4)=>[(31,.int .i64 (q:Int))]) (fun (q,c4,L4) w'=>q≤p∧(SetOk L4 c4∧∀ z,z∈L4.map (fun z=>z.1)↔z∈(rQ g i++aCr (g i) p)++aDl xa ((g i).take q))∧Mem w [] [(some b1,lI cQ L4 c4)] w') (fun (q,c4,L4)=>p - q) (0,c2,L2) (bE rfl dZ) (⟨by omega,⟨hS2,fun z=>by rw [hI2 z];simp [aDl]⟩,hM3⟩) ?_)))))))))))))))))))))))
   rintro ⟨q,c4,L4⟩ ρ4 w4 ⟨hq,⟨hS4,hI4⟩,hM4⟩
   refine aE (aA (cX Z Z Z Z (aB (aC (aE ?_)))))
   refine aU Z (fun h32 => ?_) (fun h32 => ?_)
   ·obtain ⟨xb,hxb⟩:=cF (xs:=g i) (k:=q) hlj (by omega)
    refine aM (aC (aE (aP (aE (aA (wq (bJ (q) aRe Z Z Z (((Rj.mem hM4).sub 0 p (by omega) (by omega) hcj).below_len (aHp hxb (by omega))) (((Rj.mem hM4).sub 0 p (by omega) (by omega) hcj).someK (aHp hxb (by omega)))) Z (wq (fU (.int _ _) bV ((Rj.mem hM4).sub 0 p (by omega) (by omega) hcj) (aHp hxb (by omega)) Z) Z (bK Z Z (aB (aC (aE (aA (aQ Z Z (aQ Z Z (cX Z Z Z Z (aB (aC ?_)))))))))))))))))
    refine aU Z (fun h37 => ?_) (fun h37 => ?_)
    ·refine aA (wq (aH (.map _) Z) Z (aQ Z Z (aQ Z Z (eP bQa Z Z (aZc _ xa xb) ?_))))
     rintro v5 w5 ⟨rfl,hb5⟩
     have M5:=hM4.callB hb5
     refine wq (cB [] _ bAx Z Z) Z (bBd (enc:=cQ) 0 (prI xa xb) bFz M5 Z Z hS4 Z Z Z (fun L6 c6 w6 hS6 hZ6 hN6 M6=>(aB (cR (aC (aA (wq (bC Z Z (by omega) (by omega)) Z (aQ Z Z (aB ?_)))))))))
     refine bX (q+1,c6,L6) (bE Z dZ) (bZ Z (bZ Z (bZ Z (bZ Z (bZ Z (bZ Z (bZ Z (bZ Z (bZ Z (bZ Z (bZ Z gK))))))))))) ?_ ?_
     ·exact ⟨by omega,⟨hS6,aYg hZ6 hI4 hxb h37⟩,M6⟩
     ·(show p - (q+1) < p - q;omega)
    ·refine aM (cR (aC (aA (wq (bC Z Z (by omega) (by omega)) Z (aQ Z Z (aB ?_))))))
     refine bX (q+1,c4,L4) (bE Z dZ) (bZ Z (bZ Z (bZ Z (bZ Z (bZ Z (bZ Z (bZ Z (bZ Z (bZ Z (bZ Z (bZ Z gK))))))))))) ?_ ?_
     ·exact ⟨by omega,⟨hS4,aYf hI4 hxb h37⟩,hM4⟩
     ·(show p - (q+1) < p - q;omega)
   ·have hqp:q=p:=by omega
    refine cN (dC (dE (eJ (cR (aC (aA (wq (bC Z Z (by omega) (by omega)) Z (aQ Z Z (aB ?_)))))))))
    refine bX (p+1,c4,L4) (bE Z dZ) (bZ Z (bZ Z (bZ Z (bZ Z (bZ Z (bZ Z (bZ Z gK))))))) ?_ ?_
    ·exact ⟨by omega,⟨hS4,fun z=>by rw [hI4 z,aTm hxa,← hqp,List.append_assoc]⟩,hM4⟩
    ·(show rj.n - (p+1) < rj.n - p;omega)
  ·have hpn:p=rj.n:=by omega
   refine cN (dC (dE (eJ (cR (aC (aA (wq (bC Z Z (by omega) (by omega)) Z (aQ Z Z (aB ?_)))))))))
   refine bX (i+1,c2,L2) (bE Z dZ) (bZ Z (bZ Z (bZ Z gK))) ?_ ?_
   ·exact ⟨by omega,⟨hS2,fun z=>by rw [hI2 z,aSd];unfold bGd;rw [hlj,← hpn]⟩,hM3⟩
   ·(show 1024 - (i+1) < 1024 - i;omega)
 ·have hi':i=1024:=by omega
  rw [hi'] at hI0
  have hLb:(L0.map (fun z=>z.1)).length≤(aGs ks).length:=aGl hS0.keys (fun z hz=>aYe hks ((hI0 z).1 hz))
  rw [List.length_map,aZy] at hLb
  have hkk:ks.length*ks.length≤65536*65536:=Nat.mul_le_mul hkl hkl
  refine cN (dC (dE (eJ (aC (aE (aA (wq (aH (.map _) Z) Z (eP bQc Z Z (aTf _ b1) ?_))))))))
  rintro v7 w7 ⟨bb,rfl,hM7⟩
  have M7:Mem _ _ [_,_] _:=hM2.call0 hM7
  refine eP bQb Z Z (yC _ bb b1 c0 L0 (M7.at_ (i:=0) Z) (M7.lt List.mem_cons_self) hS0 (by omega) (qP 1 M7 Z Z)) ?_
  rintro v8 w8 ⟨r,ys,hasc,hys,rfl,hr,hM8⟩
  have M8:Mem _ _ [_,_,_] _:=M7.call0 hM8
  refine eH Z Z (aB (aC (aO (cI (.slice _ _ _) Z ?_))))
  exact ⟨r,ys,hasc,fun z=>(hys z).trans (hI0 z),Z,hr,M8.keep [false,false,true]⟩
theorem aQe (w:World) (A:Option Addr) (n c:Nat) (xs:List Body) (R:Rd w 10 A n (xs.map aF)) (hb:∀ b∈xs,Okb b) :
  Calls prog 164 #[.slice A n c] w (gH (fun v w'=>∃ (pm:Nat) (em:eL),v=.map (some pm)∧kT .u32 wX (bxM xs) (some pm) em∧Mem w [] [em] w')):=by
 have hlen:xs.length=n:=by simpa using R.len
 have hbd:=R.bound
 refine aI #[.tmp 2] 20 func164 Z results164 ntmps164 Z ?_
 have M0:=Mem.refl w
 refine aE (aA (wq (aJ (.map _) Z) Z (aB (aC (aE (aA (nS M0 Z Z (fun b1 w1 M1=>(wq (aJ (.map _) Z) Z (aB (aC (aE (aE (aA (dK Z Z (wq (cK underlying46 Z) Z (aQ Z Z (aB (aC (aP (dG (σ:=Nat × eL) [2,3,7,8] (fun (k,em)=>[(9,.int .i64 (k:Int))]) (fun (k,em) w'=>(k≤n∧kT .u32 wX (bxM (xs.take k)) (some b1) em)∧Mem w [] [em] w') (fun (k,em)=>n - k) (0,(some b1,.map #[] 0)) (bE Z dZ) (⟨⟨by omega,(kT.empty _ _ b1).congr (fun q=>by rw [List.take_zero];exact bIm q)⟩,M1⟩) ?_)))))))))))))))))))))
 rintro ⟨k,em⟩ ρ2 w2 ⟨⟨hk,hme⟩,hM2⟩
 refine aE (aA (cX Z Z Z Z (aB (aC (aE ?_)))))
 refine aU Z (fun h10 => ?_) (fun h10 => ?_)
 ·obtain ⟨xb,hxb⟩:=cF (k:=k) hlen (by omega)
  refine aM (aC (aE (aP (aE (aA (wq (bJ (k) dP Z Z Z ((R.mem hM2).below_len (aG aF hxb)) ((R.mem hM2).someK (aG aF hxb))) Z (wq (dW _ bQ (R.mem hM2) (aG aF hxb) Z) Z (aR fV hM2 Z Z (fun b3 w3 M3=>(bG 1 _ bQ M3 Z Z Z Z Z (aS Z) Z (fun w4 M4=>(aB (aC (fW [(0,0),(1,0),(2,1),(3,1),(4,2),(5,2)] mixed M4 Z (by kernel_rfl) (fun w5 M5=>(aV Z Z Z (fun _=>aH (.map _) Z) (aV Z Z Z (fun _=>aD 0 dT Z) (bP Z Z Z (aK 1 (.int _ _) bV M5 Z Z Z) ?_))))))))))))))))))
  refine bP Z Z Z (aX 1 bQ M5 Z Z Z) (dI [true,false] Z (by kernel_rfl) (dN bPu Z Z M5 (bOh _ xb (hb xb (List.mem_of_getElem? hxb))) (fun w6 M6 => ?_)))
  refine aB (aC ⟨(dS (bI Z (aK 1 (.int _ _) bV M6 Z Z Z)) dJ), ?_⟩)
  refine dI [true] Z (by kernel_rfl) (lK (enc:=wX) 0 aMq M6 Z Z hme Z Z Z Z (fun e7 w7 hm7 M7 => ?_))
  refine aB (aC ⟨dJ, ?_⟩)
  refine bS (cR (aC (aA (wq (bC Z Z (by omega) (by omega)) Z (aQ Z Z (aB ?_))))))
  refine bX (k+1,e7) (bE Z dZ) (bZ Z (bZ Z (bZ Z (bZ Z gK)))) ?_ ?_
  ·exact ⟨⟨by omega,hm7.congr (fun q=>bCb hxb q)⟩,M7.keep [true,false]⟩
  ·(show n - (k+1) < n - k;omega)
 ·have hkn:k=n:=by omega
  rw [List.take_of_length_le (by omega)] at hme
  refine cN (dC (dE (eJ (aC (aE (aA (wq (aH (.map _) Z) Z (wq (aJ (.map _) Z) Z (aB (aC (aO (cI (.map _) Z ?_))))))))))))
  exact ⟨_,_,Z,hme,hM2⟩
theorem aGq (w:World) (pm:Nat) :
  Calls prog 166 #[.map (some pm)] w (gH (fun v w'=>∃ bm bn,v=.tuple #[.func (.func 181) #[] #[.pointer (some ⟨bn,0,none⟩),.pointer (some ⟨bm,0,none⟩)],.func (.func 183) #[] #[.pointer (some ⟨bn,0,none⟩)]]∧Mem w [] [(some bm,bc [.map (some pm)] 240),(some bn,bc [.int .i64 0] 3)] w')):=by
 refine aI #[.tmp 2,.tmp 3] 8 func166 Z results166 ntmps166 Z ?_
 have M0:=Mem.refl w
 refine aE (aA (bN (.map _) M0 Z Z Z (fun b1 w1 M1=>(wq (aJ (_) Z) Z (wq (aJ (_) Z) Z (aB (aC (aE (aA (aR bNv M1 Z Z (fun b2 w2 M2=>(dA 1 (.int _ _) fT M2 Z Z Z Z Z Z (fun w3 M3=>(aB (aC (aE (aA (wq (dU [] [.pointer _,.pointer _] Z Z) Z (wq (aJ (.func _ _ _) Z) Z (aB (aC (aE (aA (wq (aH (.func _ _ _) Z) Z (wq (dU [] [.pointer _] Z Z) Z (wq (aJ (.func _ _ _) Z) Z (wq (aJ (.func _ _ _) Z) Z (aB (aC (aO ?_))))))))))))))))))))))))))))))
 refine fX (.func _ _ _) (.func _ _ _) Z Z ?_
 exact ⟨b1,b2,Z,M3⟩
theorem aIx (w:World) (bn:Nat) (m:Int) (K:Rd w 1 (some ⟨bn,0,none⟩) 1 [[.int .i64 m]]) :
  Calls prog 183 #[.pointer (some ⟨bn,0,none⟩)] w (Rb w (.int .i64 m)):=by
 rw [← hJ bn]
 refine aI #[.tmp 1] 3 func183 Z results183 ntmps183 Z ?_
 have M0:=Mem.refl w
 refine aE (aA (bK Z Z (aB (aC (aE (aA (wq (dM (o:=0) (.int _ _) fT (K.mem M0) (show ([[.int .i64 m]]:List (List Value))[0]? = some [.int .i64 m] from Z) Z Z) Z (bK Z Z (aB (aC (aO (cI (.int _ _) Z ?_))))))))))))
 exact ⟨Z,M0.below⟩
theorem aCq (w:World) (z:Int × Int) (bn bm m:Nat) (f:Int→Option Bx) (pm:Nat) (em:eL) (hme:kT .u32 wX f (some pm) em) (B:Rd w 1 (some ⟨bm,0,none⟩) 1 [[.map (some pm)]]) (N:Rd w 4 (some ⟨3,0,none⟩) 1 [eC iU]) (hO:Own [(some bn,bc [.int .i64 (m:Int)] 3),em] w) (hdB:0 < 1→∀ q off,(some ⟨bm,0,none⟩:Option Addr)=some ⟨q,off,none⟩→q∉bY [(some bn,bc [.int .i64 (m:Int)] 3),em]) (hdN:0 < 1→∀ q off,(some ⟨3,0,none⟩:Option Addr)=some ⟨q,off,none⟩→q∉bY [(some bn,bc [.int .i64 (m:Int)] 3),em]) (hm:m≤1125899906842624) :
  Calls prog 181 #[(.agg (cQ z).toArray),.pointer (some ⟨bn,0,none⟩),.pointer (some ⟨bm,0,none⟩)] w (gH (fun v w'=>v=.bool (apB f z)∧Mem w (bY [(some bn,bc [.int .i64 (m:Int)] 3),em]) [(some bn,bc [.int .i64 ((m+1:Nat):Int)] 3),em] w')):=by
 rw [← hJ bm]
 refine aI #[.tmp 4] 17 func181 Z results181 ntmps181 Z ?_
 have M0:=hO.mem
 refine aE (aA (bN (.agg (.mk _)) M0 Z Z Z (fun b1 w1 M1=>(wq (aJ (.bool false) Z) Z (aB (aC (aE (aA (wq (aK 0 (.int _ _) fT M1 Z Z Z) Z (wq (bC Z Z (by omega) (by omega)) Z (aL 6 (.int .i64 ((m+1:Nat):Int)) (iE (by omega)) (dA 0 (.int _ _) fT M1 Z Z Z Z Z Z (fun w2 M2=>(aB (aC (aE (aA (wq (dM (o:=0) (.map _) bFv (B.memY M2 hdB) (show ([[.map (some pm)]]:List (List Value))[0]? = some ([.map (some pm)]) from Z) Z Z) Z (wq (aD 0 gU Z) Z (wq (aK 2 (.int _ _) bV M2 Z Z Z) Z ?_))))))))))))))))))))
 refine wq (mR (enc:=wX) z0B 1 aMq bId M2 Z hme Z Z) Z (wq (dM (o:=0) (.map _) bFv (B.memY M2 hdB) (show ([[.map (some pm)]]:List (List Value))[0]? = some ([.map (some pm)]) from Z) Z Z) Z (wq (aD 1 kJ Z) Z (wq (aK 2 (.int _ _) bV M2 Z Z Z) Z (wq (mR (enc:=wX) z0B 1 aMq bId M2 Z hme Z Z) Z (dN bPx Z Z M2 (aOl _ (N.memY M2 hdN) ((f z.1).getD z0B) ((f z.2).getD z0B)) (fun w3 M3=>(wq (pH Z) Z (wq (aJ (.bool (decide _)) Z) Z (aB (aC (aO (cI (.bool (decide _)) Z ?_))))))))))))
 exact ⟨Z,M3.keep [true,true,false]⟩
theorem aAc (w:World) (A:Option Addr) (n c:Nat) (zs:List (Int × Int)) (R:Rd w 2 A n (zs.map cQ)) (bn bm m:Nat) (f:Int→Option Bx) (pm:Nat) (em:eL) (hme:kT .u32 wX f (some pm) em) (B:Rd w 1 (some ⟨bm,0,none⟩) 1 [[.map (some pm)]]) (N:Rd w 4 (some ⟨3,0,none⟩) 1 [eC iU]) (hO:Own [(some bn,bc [.int .i64 (m:Int)] 3),em] w) (hdA:0 < n→∀ q off,A=some ⟨q,off,none⟩→q∉bY [(some bn,bc [.int .i64 (m:Int)] 3),em]) (hdB:0 < 1→∀ q off,(some ⟨bm,0,none⟩:Option Addr)=some ⟨q,off,none⟩→q∉bY [(some bn,bc [.int .i64 (m:Int)] 3),em]) (hdN:0 < 1→∀ q off,(some ⟨3,0,none⟩:Option Addr)=some ⟨q,off,none⟩→q∉bY [(some bn,bc [.int .i64 (m:Int)] 3),em]) (hm:m+n≤1125899906842624) (hn:n≤1099511627776) :
  Calls prog 184 #[.slice A n c,.func (.func 181) #[] #[.pointer (some ⟨bn,0,none⟩),.pointer (some ⟨bm,0,none⟩)]] w (gH (fun v w'=>v=.int .i64 (if zs.findIdx (apB f) < n then (zs.findIdx (apB f):Int) else -1)∧Mem w (bY [(some bn,bc [.int .i64 (m:Int)] 3),em]) [(some bn,bc [.int .i64 ((m+min n (zs.findIdx (apB f)+1):Nat):Int)] 3),em] w')):=by
 have hlen:zs.length=n:=by simpa using R.len
 refine aI #[.tmp 4] 19 func184 Z results184 ntmps184 Z ?_
 have M0:=hO.mem
 refine aE (aA (bK Z Z (aB (aC (aE (aE (aA (dK Z Z (wq (cK underlying220 Z) Z (aQ Z Z (aB (aC (aP (dG (σ:=Nat) [0,1,7] (fun k=>[(8,.int .i64 (k:Int))]) (fun k w'=>(k≤n∧∀ (j:Nat) (x:Int × Int),j < k→zs[j]? = some x→apB f x=false)∧Mem w (bY [(some bn,bc [.int .i64 (m:Int)] 3),em]) [(some bn,bc [.int .i64 ((m+k:Nat):Int)] 3),em] w') (fun k=>n - k) 0 (bE Z dZ) (⟨⟨by omega,fun j c hj=>by omega⟩,M0⟩) ?_))))))))))))))
 rintro k ρ1 w1 ⟨⟨hk,hno⟩,hM1⟩
 refine aE (aA (cX Z Z Z Z (aB (aC (aE ?_)))))
 refine aU Z (fun h9 => ?_) (fun h9 => ?_)
 ·obtain ⟨xz,hxz⟩:=cF (k:=k) hlen (by omega)
  refine aM (aC (aE (aP (aE (aA (aQ Z Z (bK Z Z (aB (aC (aE (aA (wq (aH (.func _ _ _) Z) Z (dK Z Z (aQ Z Z (wq (bJ (k) aAa Z Z Z ((R.memY hM1 hdA).below_len (aG cQ hxz)) ((R.memY hM1 hdA).someK (aG cQ hxz))) Z (wq (dW _ jU (R.memY hM1 hdA) (aG cQ hxz) Z) Z (eP bCr Z Z (aCq _ xz bn bm (m+k) f pm em hme (B.memY hM1 hdB) (N.memY hM1 hdN) (hM1.ownSeg 0 2) hdB hdN (by omega)) ?_)))))))))))))))))
  rintro v2 w2 ⟨rfl,hM2⟩
  have M2:Mem _ _ [_,_] _:=hM1.seg 0 2 hM2
  refine aB (aC ?_)
  refine iL _ Z (fun h16 => ?_) (fun h16 => ?_)
  ·refine aE (aA (aQ Z Z (bK Z Z (aB (aC (aO (lU (cO (uQ (lU (cO (cI (.int _ _) Z ?_))))))))))))
   have hfi:=aFf hxz h16 hno
   exact ⟨iE (by rw [hfi,if_pos (by omega)]),by rw [hfi,Nat.min_eq_right (by omega)];exact M2⟩
  ·refine aM (cR (aC (aA (wq (bC Z Z (by omega) (by omega)) Z (aQ Z Z (aB ?_))))))
   refine bX (k+1) (bE Z dZ) (bZ Z (bZ Z (bZ Z gK))) ?_ ?_
   ·exact ⟨⟨by omega,sK (p:=fun _ x=>apB f x=false) hno hxz h16⟩,M2⟩
   ·omega
 ·refine cN (dC (dE (eJ (aC (aE (aA (bK Z Z (aB (aC (aO (cI (.int _ _) Z ?_)))))))))))
  have hkn:k=n:=by omega
  have hfi:=aFg (p:=apB f) (l:=zs) (fun j y hy=>hno j y (by have:=(List.getElem?_eq_some_iff.1 hy).1;omega) hy)
  exact ⟨iE (by rw [hfi,if_neg (by omega)]),by rw [hfi,Nat.min_eq_left (by omega),← hkn];exact hM1⟩
theorem yB (w:World) (A:Option Addr) (n c:Nat) (zs:List (Int × Int)) (er:eL) (hr:aZ 173 2 A n c ((zs).map cQ) er) (bn bm m:Nat) (f:Int→Option Bx) (pm:Nat) (em:eL) (hme:kT .u32 wX f (some pm) em) (B:Rd w 1 (some ⟨bm,0,none⟩) 1 [[.map (some pm)]]) (N:Rd w 4 (some ⟨3,0,none⟩) 1 [eC iU]) (hO:Own [er,(some bn,bc [.int .i64 (m:Int)] 3),em] w) (hdB:0 < 1→∀ q off,(some ⟨bm,0,none⟩:Option Addr)=some ⟨q,off,none⟩→q∉bY [er,(some bn,bc [.int .i64 (m:Int)] 3),em]) (hdN:0 < 1→∀ q off,(some ⟨3,0,none⟩:Option Addr)=some ⟨q,off,none⟩→q∉bY [er,(some bn,bc [.int .i64 (m:Int)] 3),em]) (hm:m+n≤1125899906842624) (hn:n≤1099511627776) :
  Calls prog 167 #[.slice A n c,.func (.func 181) #[] #[.pointer (some ⟨bn,0,none⟩),.pointer (some ⟨bm,0,none⟩)]] w (gH (fun v w'=>∃ r:Row,v=.slice r.A r.n r.c∧aZ 173 2 r.A r.n r.c ((zs.filter (fun z => !apB f z)).map cQ) r.e∧Mem w (bY [er,(some bn,bc [.int .i64 (m:Int)] 3),em]) [r.e,(some bn,bc [.int .i64 ((m+n:Nat):Int)] 3),em] w')):=by
 have hlen:zs.length=n:=by simpa using hr.1
 have hcap:=hr.slice
 refine aI #[.tmp 4] 42 func167 Z results167 ntmps167 Z ?_
 have M0:=hO.mem
 refine aE (aA (eH Z Z (aB (aC (aE (aA (dK Z Z (wq (aH (.func _ _ _) Z) Z (eP bPz Z Z (aAc _ A n c zs (hr.rd M0 (bA (i:=0) Z)) bn bm m f pm em hme (B.memY M0 hdB) (N.memY M0 hdN) (M0.ownSeg 1 2) (hr.apartTail M0) (M0.away 1 2 B hdB) (M0.away 1 2 N hdN) hm hn) ?_)))))))))
 rintro v1 w1 ⟨rfl,hM1⟩
 have M1:Mem _ _ [_,_,_] _:=M0.seg 1 2 hM1
 refine bK Z Z (aB (aC (aE (aE (aA (aQ Z Z (cX Z Z Z Z (aB (aC ?_)))))))))
 refine aU Z (fun h12 => ?_) (fun h12 => ?_)
 ·have hge:¬ zs.findIdx (apB f) < n:=fun h=>by rw [if_pos h] at h12;omega
  refine aE (aA (dK Z Z (eH Z Z (aB (aC (aO (cO (cI (.slice _ _ _) Z ?_))))))))
  have e1:m+min n (zs.findIdx (apB f)+1)=m+n:=by omega
  rw [e1] at M1
  exact ⟨⟨A,n,c,er⟩,Z,by rw [aPe (by omega)];exact hr,M1⟩
 ·have hlt:zs.findIdx (apB f) < n:=Decidable.by_contra fun h=>h12 (if_neg h)
  refine aM (aC (aE (aE (aA (aQ Z Z (wq (bC Z Z (by omega) (by omega)) Z (aL 15 (.int .i64 ((zs.findIdx (apB f)+1:Nat):Int)) (iE (by rw [if_pos hlt];omega)) (bK Z Z (aB (aC (aP ?_)))))))))))
  refine dG (σ:=Nat × Nat × List (Int × Int) × eL) [0,1,4] (fun (j,k,zs2,en)=>[(5,.int .i64 (k:Int)),(6,.int .i64 (j:Int))]) (fun (j,k,zs2,en) w'=>(j≤n∧k < j∧zs2.take k=(zs.take j).filter (fun z => !apB f z)∧zs2.drop j=zs.drop j∧aZ 173 2 A n c ((zs2).map cQ) en)∧Mem w (bY [er,(some bn,bc [.int .i64 (m:Int)] 3),em]) [en,(some bn,bc [.int .i64 ((m+j:Nat):Int)] 3),em] w') (fun (j,k,zs2,en)=>n - j) (zs.findIdx (apB f)+1,zs.findIdx (apB f),zs,er) (bE (iv Z (if_pos hlt)) (bE Z dZ)) (⟨⟨by omega,by omega,aMg (by omega),Z,hr⟩,by
   have e1:min n (zs.findIdx (apB f)+1)=zs.findIdx (apB f)+1:=by omega
   rw [e1] at M1
   exact M1⟩) ?_
  rintro ⟨j,k,zs2,en⟩ ρ2 w2 ⟨⟨hj,hkj,hpre,hsuf,hz2⟩,hM2⟩
  have hl2:zs2.length=n:=by simpa using hz2.1
  refine aE (aE (aA (aQ Z Z (dK Z Z (wq (cK underlying220 Z) Z (cX Z Z Z Z (aB (aC ?_))))))))
  refine aU Z (fun h19 => ?_) (fun h19 => ?_)
  ·obtain ⟨xz,hxz⟩:=cF (k:=j) hlen (by omega)
   have hxz2:zs2[j]? = some xz:=(bEa hsuf).trans hxz
   obtain ⟨xk,hxk⟩:=cF (k:=k) hl2 (by omega)
   refine aM (aC (aE (aP (aE (aA (dK Z Z (aQ Z Z (wq (bJ (j) aAa Z Z Z ((hz2.rd hM2 (bA (i:=0) Z)).below_len (aG cQ hxz2)) ((hz2.rd hM2 (bA (i:=0) Z)).someK (aG cQ hxz2))) Z (wq (dW _ jU (hz2.rd hM2 (bA (i:=0) Z)) (aG cQ hxz2) Z) Z (aR wK hM2 Z Z (fun b3 w3 M3=>(bG 3 _ jU M3 Z Z Z Z Z (aS Z) Z (fun w4 M4=>(aB (aC (aE (aA (wq (aH (.func _ _ _) Z) Z (wq (aX 3 jU M4 Z Z Z) Z (eP bCr Z Z (aCq _ xz bn bm (m+j) f pm em hme (B.memY M4 hdB) (N.memY M4 hdN) (M4.ownSeg 1 2) (M4.away 1 2 B hdB) (M4.away 1 2 N hdN) (by omega)) ?_))))))))))))))))))))
   rintro v5 w5 ⟨rfl,hM5⟩
   have M5:Mem _ _ [_,_,_,_] _:=M4.seg 1 2 hM5
   refine wq (gR _ Z Z) Z (aB (aC ?_))
   refine iL _ Z (fun h29 => ?_) (fun h29 => ?_)
   ·refine aE (aA (dK Z Z (aQ Z Z (wq (aX 3 jU M5 Z Z Z) Z (wq (bJ (k) aAa Z Z Z ((hz2.rd M5 (bA (i:=0) Z)).below_len (aG cQ hxk)) ((hz2.rd M5 (bA (i:=0) Z)).someK (aG cQ hxk))) Z (aNo 0 _ jU M5 Z hz2 (aG cQ hxk) Z Z Z Z (aS Z) (fun e6 w6 hR6 M6 => ?_)))))))
    have hQ6:=hR6.mapSet (f:=cQ) (x:=xz) rfl
    refine aB (aC (aA (aQ Z Z (wq (bC Z Z (by omega) (by omega)) Z (bK Z Z (aB (cR (aC (aA (aQ Z Z (wq (bC Z Z (by omega) (by omega)) Z (bK Z Z (aB ?_)))))))))))))
    refine bX (j+1,k+1,zs2.set k xz,e6) (bE Z (bE Z dZ)) (bZ Z (bZ Z (bZ Z gK))) ?_ ?_
    ·exact ⟨⟨by omega,by omega,by rw [bHb (by omega),hpre,aCe hxz,if_neg (by simpa using h29)],by rw [bGz (by omega)];exact aJv hsuf,hQ6⟩,M6.keep [true,true,true,false]⟩
    ·(show n - (j+1) < n - j;omega)
   ·refine aM (cR (aC (aA (aQ Z Z (wq (bC Z Z (by omega) (by omega)) Z (bK Z Z (aB ?_)))))))
    refine bX (j+1,k,zs2,en) (bE Z (bE Z dZ)) (bZ Z (bZ Z (bZ Z gK))) ?_ ?_
    ·exact ⟨⟨by omega,by omega,by rw [hpre,aCe hxz,if_pos (by simpa using h29),List.append_nil],aJv hsuf,hz2⟩,M5.keep [true,true,true,false]⟩
    ·(show n - (j+1) < n - j;omega)
  ·have hjn:j=n:=by omega
   rw [hjn,show List.take n zs=zs from List.take_of_length_le (by omega)] at hpre
   refine cN (dC (dE (eJ (aC (aE (aA (dK rfl rfl (aQ rfl rfl (wq (eS ((k:Int)) ((n:Int)) aAa rfl ⟨_,rfl⟩ rfl (by omega) (by omega) (by omega)) rfl (bHx 0 (k) aAa (fun zv hz=>by rw [bWc] at hz;injection hz with hz;subst hz;simp [Go.Bil.one,Value.cells]) hM2 rfl rfl hz2 (by omega) rfl (fun e7 w7 hR7 M7=>(aB (aC (aE (aA (dK rfl rfl (aQ rfl rfl (wq (eS (0) ((k:Int)) aAa rfl rfl ⟨_,rfl⟩ (by decide) (by omega) (by omega)) rfl (eH rfl rfl (aB (aC (aO (cI (.slice _ _ _) rfl ?_)))))))))))))))))))))))
   rw [hjn] at M7
   have hpf:=hR7
   rw [← List.map_take,hpre] at hpf
   exact ⟨⟨_,_,_,e7⟩,Z,hpf,M7⟩
set_option maxRecDepth 100000 in
theorem bWb:gQ prog 245=some (fD (List.replicate 1024 fH) 0):=by kernel_rfl
theorem aTl (w:World) (F:Rd w 2 (some ⟨0,0,none⟩) 1 [[.int .u32 73856093,.int .u32 19349663]]) (N:Rd w 4 (some ⟨3,0,none⟩) 1 [eC iU]) (A:Option Addr) (n c:Nat) (xs:List Body) (R:Rd w 10 A n (xs.map aF)) (hb:∀ b∈xs,Okb b) (hs:cZ xs) (hn:n≤4096) :
  Calls prog 145 #[.slice A n c] w (gH (fun v w'=>∃ (r:Row) (m:Nat),v=.tuple #[.slice r.A r.n r.c,.int .i64 (m:Int)]∧(pF xs).length≤m∧2*m≤xs.length*(xs.length - 1)∧aZ 173 2 r.A r.n r.c ((pF xs).map cQ) r.e∧Mem w [] [r.e] w')):=by
 have hlen:xs.length=n:=by simpa using R.len
 have hbd:=R.bound
 refine aI #[.tmp 2,.tmp 3] 37 func145 Z results145 ntmps145 Z ?_
 have M0:=Mem.refl w
 refine aE (aA (eH Z Z (bK Z Z (aB (aC (aE (aA (dK Z Z (eP bPm Z Z (aQe _ _ _ _ xs (R.mem M0) hb) ?_)))))))))
 rintro v1 w1 ⟨pm,em,rfl,hme,hM1⟩
 have M1:Mem _ _ [_] _:=M0.call0 hM1
 refine wq (aJ (.map _) Z) Z (aB (aC (aE (aA (aR bWb M1 Z Z (fun b2 w2 M2 => ?_))))))
 have M3:=Mem.gridNew (L:=[_]) M2
 refine aB (aC (aE (aE (aA (dK Z Z (wq (cK underlying46 Z) Z (aQ Z Z (aB (aC (aP (dG (σ:=Nat × List Row) [2,3,4,5,12,13] (fun (k,rs)=>[(14,.int .i64 (k:Int))]) (fun (k,rs) w'=>(k≤n∧GridRows 39 rs (gOf (xs.take k)))∧Mem w [] ([em]++((some b2,bc (fD rs (k:Int)) 245)::rs.map Row.e)) w') (fun (k,rs)=>n - k) (0,List.replicate 1024 fH) (bE Z dZ) (⟨⟨by omega,by rw [List.take_zero];exact bEn _⟩,M3⟩) ?_)))))))))))
 rintro ⟨k,rs⟩ ρ4 w4 ⟨⟨hk,hrs⟩,hM4⟩
 refine aE (aA (cX Z Z Z Z (aB (aC (aE ?_)))))
 refine aU Z (fun h15 => ?_) (fun h15 => ?_)
 ·obtain ⟨xb,hxb⟩:=cF (k:=k) hlen (by omega)
  refine aM (aC (aE (aP (aE (aA (wq (bJ (k) dP Z Z Z ((R.mem hM4).below_len (aG aF hxb)) ((R.mem hM4).someK (aG aF hxb))) Z (wq (dW _ bQ (R.mem hM4) (aG aF hxb) Z) Z (aR fV hM4 Z Z (fun b5 w5 M5 => ?_)))))))))
  have M6:Mem _ _ ([_,_]++_) _:=Mem.front (L:=[_]) M5
  refine bG 1 _ bQ M6 rfl rfl rfl rfl rfl (aS rfl) rfl (fun w7 M7=>(aB (aC (aA (wq (aD 0 dT rfl) rfl (wq (aK 1 (.int _ _) bV M7 rfl rfl rfl) rfl (wq (aH (.map _) rfl) rfl (wq (aD 0 dT rfl) rfl (wq (aK 1 (.int _ _) bV M7 rfl rfl rfl) rfl (wq (mR (enc:=wX) z0B 0 aMq bId M7 rfl hme rfl rfl) rfl (aL 23 (.agg (eC (gZ xb)).toArray) (congrArg wX (by rw [sL hs (List.mem_of_getElem? hxb)];rfl)) (eP bPn rfl rfl (aPo _ (F.mem M7) b2 rs (k:Int) (gOf (xs.take k)) hrs ⟨by omega,by omega⟩ (fun j _=>Nat.le_trans (bJo _ _) (by simp;omega)) xb.key (gZ xb) (bOi (hb xb (List.mem_of_getElem? hxb))) (Mem.ownTail (L:=[_,_]) M7) (Mem.awayTail (L:=[_,_]) M7 F)) ?_))))))))))))
  rintro v8 w8 ⟨rfl,rs2,hrs2,hM8⟩
  have M8:Mem _ _ ([_,_]++_) _:=Mem.tail (L:=[_,_]) M7 hM8
  refine aB (cR (aC (aA (wq (bC Z Z (by omega) (by omega)) Z (aQ Z Z (aB ?_))))))
  refine bX (k+1,rs2) (bE Z dZ) (bZ Z (bZ Z (bZ Z (bZ Z (bZ Z (bZ Z gK)))))) ?_ ?_
  ·exact ⟨⟨by omega,by rw [bEl hxb];exact hrs2⟩,Mem.keepL (L:=[_,_]) [true,false] M8⟩
  ·(show n - (k+1) < n - k;omega)
 ·have hkn:k=n:=by omega
  rw [List.take_of_length_le (by omega)] at hrs
  refine cN (dC (dE (eJ (aC (aE (aA (wq (aH (.map _) Z) Z (eP bPo Z Z (aGq _ pm) ?_))))))))
  rintro v9 w9 ⟨bm,bn,rfl,hM9⟩
  have M9:Mem _ _ ([_,_,_]++_) _:=Mem.front (L:=[_]) (hM4.call0 hM9)
  refine wq (aH (.tuple (List.toArray _)) rfl) rfl (wq (bM (.func _ _ _) rfl rfl) rfl (wq (bM (.func _ _ _) rfl rfl) rfl (wq (aJ (.func _ _ _) rfl) rfl (wq (aJ (.func _ _ _) rfl) rfl (aB (aC (aE (aA (eP bPq rfl rfl (aDj _ b2 rs (k:Int) (gOf xs) hrs.len (Mem.gridRd (L:=[_,_,_]) M9 hrs.len) (fun j r hr=>Mem.rowRd (L:=[_,_,_]) M9 hrs j r hr) (xs.map (·.key)) (fun j _ x hx=>by obtain ⟨b,h1,_,rfl⟩:=sU.1 hx;exact List.mem_map.2 ⟨b,h1,rfl⟩) (by simp;omega)) ?_)))))))))
  rintro v10 w10 ⟨r,ps,hasc,hps,rfl,hr,hM10⟩
  have M10:Mem _ _ ([_,_,_,_]++_) _:=Mem.front (L:=[_,_,_]) (M9.call0 hM10)
  have hpl:=aYh hs hasc hps
  have hrl:ps.length=r.n:=by simpa using hr.1
  have hnn:xs.length*(xs.length - 1)≤4096*4096:=Nat.mul_le_mul (by omega) (by omega)
  refine wq (aH (.func _ _ _) Z) Z ?_
  have M11:Mem _ _ [_,_,_,_] _:=Mem.order4 M10
  refine eP bPp rfl rfl (yB _ r.A r.n r.c ps r.e hr bn bm 0 (bxM xs) pm em hme (qP 3 M11 rfl rfl) (N.mem M11) (M11.ownSeg 0 3) (M11.apartTake 3 3 rfl rfl) (M11.away 0 3 N (fun _ q off _ h=>by simp at h)) (by omega) (by omega)) ?_
  rintro v12 w12 ⟨r2,rfl,hr2,hM12⟩
  have M12:Mem _ _ [_,_,_,_] _:=M11.seg 0 3 hM12
  have hfl:(pF xs).length≤ps.length:=by rw [← aEt hs hasc hps];exact List.length_filter_le _ _
  rw [aEt hs hasc hps] at hr2
  refine eH Z Z (aB (aC (aE (aA (dK Z Z (wq (aH (.func _ _ _) Z) Z (dN bPy Z Z M12 (aIx _ bn _ (qP 1 M12 Z Z)) (fun w13 M13=>(eH Z Z (bK Z Z (aB (aC (aO (fX (.slice _ _ _) (.int _ _) Z Z ?_))))))))))))))
  exact ⟨r2,0+r.n,Z,by omega,by omega,hr2,M13.keep [true,false,false,false]⟩
end Go.Proofs.YtpcloigancpnbaaGreatDoor
