/- Part of the proof of a law of this seat (6 texts). No conditions. -/
import Derived.Test.YtaoaknafiegfoaaGreatDoorK25
import Derived.Test.YtaoaknafiegfoaaGreatDoorK17
import Derived.Test.YtaoaknafiegfoaaGreatDoorK24
set_option linter.unusedVariables false
set_option linter.unusedSimpArgs false
set_option linter.unnecessarySimpa false
set_option maxHeartbeats 100000000
namespace Go.Proofs.YtaoaknafiegfoaaGreatDoor
open Go.Bil
open Go.RowKit (Below)
open Go.Proofs
open Go.Proofs.Tryz
theorem bBu (w:World) (a b:Int) :
  Calls prog 210 #[.int .u32 a,.int .u32 b] w (Rb w ((.agg (cU (prI a b)).toArray))):=by
 refine aI #[.cell 4 209] 12 func210 Z results210 ntmps210 Z ?_
 have M0:=Mem.refl w
 refine aE (aA (aO yD M0 Z Z (fun b1 w1 M1=>(aB (aC (aE (aA (aT Z Z (aT Z Z (wq (aIm Z Z ) Z (aT Z Z (aT Z Z (wq (qF Z Z ) Z (wq (cI [(0,.int _ _),(1,.int _ _)] _ aDn Z Z) Z (bC 0 _ kR M1 Z Z Z Z Z (aP Z) Z (fun w2 M2=>(aB (aC (aR (fA 0 kR M2 Z Z Z ?_))))))))))))))))))))
 exact ⟨Z,M2.below⟩
theorem bLr (w:World) (A:Option Addr) (x y:Int) (R:Rd w 1 A 2 [[.int .i64 x],[.int .i64 y]]) :
  Calls prog 236 #[.slice A 2 2] w (gY (fun v w'=>v=.int .i64 (if x=0 then y else x)∧w'=w)):=by
 refine aI #[.tmp 2] 18 func236 Z results236 ntmps236 Z ?_
 have M0:=Mem.refl w
 refine aE (aA (bL Z Z (aB (aC (aE (aA (bL Z Z (aB (aC (aE (aE (aA (dJ Z Z (wq (bW underlying353 Z) Z (aL 7 (.int .i64 2) (iE Z) (aT Z Z (aB (aC (aS (kC 3 (gD (aE (aA (cV Z Z Z Z (jU 9 Z (by first | decide | omega) (aB (aC (aE (cE Z ?_)))))))))))))))))))))))))))))
 refine aM (aC (aE (aS (aE (aA (wq (bG (0) bKg Z Z Z (R.below_len ((Z:([[.int .i64 x],[.int .i64 y]]:List (List Value))[0]? = some [.int .i64 x]))) (R.someK ((Z:([[.int .i64 x],[.int .i64 y]]:List (List Value))[0]? = some [.int .i64 x])))) Z (wq (fG (.int _ _) fE R ((Z:([[.int .i64 x],[.int .i64 y]]:List (List Value))[0]? = some [.int .i64 x])) Z) Z (bL Z Z (aB (aC (aE (aA (aT Z Z (aT Z Z (cV Z Z Z Z (aB (aC ?_)))))))))))))))))
 refine aW Z (fun h14 => ?_) (fun h14 => ?_)
 ·refine aE (aA (aT Z Z (bL Z Z (aB (aC (aR (lP (cK (cK (lP (cK (cF (.int _ _) Z ?_))))))))))))
  exact ⟨iE (by split <;> omega),Z⟩
 ·refine aM (cS (aC (aA (wq (bE Z Z (by first | decide | omega) (by first | decide | omega)) Z (aL 16 (.int .i64 1) (iE (by first | decide | omega)) (aT Z Z (aB (aC (gD (aE (aA (cV Z Z Z Z (jU 9 Z (by first | decide | omega) (aB (aC (aE (cE Z (aM (aC (aE (aS (aE (aA (wq (bG (1) bKg Z Z Z (R.below_len ((Z:([[.int .i64 x],[.int .i64 y]]:List (List Value))[1]? = some [.int .i64 y]))) (R.someK ((Z:([[.int .i64 x],[.int .i64 y]]:List (List Value))[1]? = some [.int .i64 y])))) Z ?_))))))))))))))))))))))))
  refine wq (fG (.int _ _) fE R ((Z:([[.int .i64 x],[.int .i64 y]]:List (List Value))[1]? = some [.int .i64 y])) Z) Z (bL Z Z (aB (aC (aE (aA (aT Z Z (aT Z Z (cV Z Z Z Z (aB (aC ?_))))))))))
  refine aW Z (fun h14 => ?_) (fun h14 => ?_)
  ·refine aE (aA (aT Z Z (bL Z Z (aB (aC (aR (lP (cK (cK (lP (cK (cF (.int _ _) Z ?_))))))))))))
   exact ⟨iE (by split <;> omega),Z⟩
  ·refine aM (cS (aC (aA (wq (bE Z Z (by first | decide | omega) (by first | decide | omega)) Z (aL 16 (.int .i64 2) (iE (by first | decide | omega)) (aT Z Z (aB (aC (gD (aE (aA (cV Z Z Z Z (nP 9 Z (by first | decide | omega) (aB (aC (aE (cB Z (cM (cZ (cZ (eL ?_)))))))))))))))))))))
   refine aC (aE (aA (aT Z Z (bL Z Z (aB (aC (aR (cF (.int _ _) Z ?_))))))))
   exact ⟨iE (by split <;> omega),Z⟩
theorem aOb (a b:Int × Int) (w:World) :
  Calls prog 213 #[(.agg (cU a).toArray),(.agg (cU b).toArray)] w (gY (fun v w'=>v=.int .i64 (bBe a b)∧∃ q os,w'=Go.Sort.grow (w.drewN q) os)):=by
 refine aI #[.tmp 4] 17 func213 Z results213 ntmps213 Z ?_
 have M0:=Mem.refl w
 refine aE (aA (aFy (.agg (.mk _)) M0 Z Z Z (fun M1=>(aFy (.agg (.mk _)) M1 Z Z Z (fun M2=>(bL Z Z (aB (aC (aE (bLi [(0,0),(1,1),(2,0),(3,1),(5,0),(6,1),(7,0),(8,1),(4,2),(9,2),(10,2),(11,2),(12,0)] mixed Z (by kernel_rfl) ?_))))))))))
 have M3:=M2.drewE
 refine aX Z Z Z (fun _=>aD 0 iI Z) (bQ Z Z Z (aK 0 (.int _ _) bZ M3 Z Z Z) (aX Z Z Z (fun _=>aD 0 iI Z) (bQ Z Z Z (aK 1 (.int _ _) bZ M3 Z Z Z) (aX Z Z Z (fun _=>aD 1 lG Z) (bQ Z Z Z (aK 0 (.int _ _) bZ M3 Z Z Z) (aX Z Z Z (fun _=>aD 1 lG Z) (bQ Z Z Z (aK 1 (.int _ _) bZ M3 Z Z Z) (dO [false,false,true,true] Z (by kernel_rfl) (eJ aNe Z Z (pE _ _ _) ?_)))))))))
 rintro v4 w4 ⟨rfl,rfl⟩
 have M4:Mem _ _ [_,_] _:=M3
 refine aB (aC ⟨(dS (bH Z (aK 1 (.int _ _) bZ M4 Z Z Z)) (dS (bH Z (aK 0 (.int _ _) bZ M4 Z Z Z)) dI)), ?_⟩)
 refine dO [true,true] Z (by kernel_rfl) (eJ aNe Z Z (pE _ _ _) ?_)
 rintro v5 w5 ⟨rfl,rfl⟩
 have M5:Mem _ _ [_,_] _:=M4
 refine aB (aC ⟨dI, ?_⟩)
 refine dO [] Z (by kernel_rfl) (aXh [.int _ _,.int _ _] [[.int .i64 (rD a.1 b.1)],[.int .i64 (rD a.2 b.2)]] Z bKg M5 Z Z Z Z (cO Z) (by decide) (fun M6 => ?_))
 refine aB (aC ⟨dI, ?_⟩)
 refine dO [] rfl (by kernel_rfl) (eJ bTv rfl rfl (bLr _ _ _ _ ((lV (T:=3) [[.int .i64 (rD a.1 b.1)],[.int .i64 (rD a.2 b.2)]] (by simp) rfl (show 2≤281474976710656 by decide)).rd M6 (aN (i:=2) rfl))) ?_)
 rintro v7 w7 ⟨rfl,rfl⟩
 have M7:Mem _ _ [_,_,_] _:=M6
 refine aB (aC ⟨dI, ?_⟩)
 refine nV Z Z Z (bS (aC (aR (cF (.int _ _) Z ?_))))
 exact ⟨iE Z,bXw _ _ _ _⟩
theorem bIz:aXp prog 213 cU bBe:=fun x y w=>aOb x y w
theorem bIy:KeyT prog 287 209 288 cU:=by
 refine ⟨underlying287,⟨_,underlying209⟩,fun a w => ?_,fun a b w => ?_,fun a=>by simp [cU,Instr.sameBits]⟩
 ·have h42:=cA (w:=w) underlying209
  have hc:∀ x:Int,(Instr.checkKey false 9999 35 (.int .u32 x)).run prog w=.ok () w:=fun x=>MapKept.run_checkKey (d:=.int .u32) underlying35 (by simp [MapKept.IsKey]) false 9998
  have p0:(Go.part 35 #[.int .u32 a.1,.int .u32 a.2] 0).run prog w=.ok (.int .u32 a.1) w:=oF (l:=[.int .u32 a.1,.int .u32 a.2]) bZ rfl
  have p1:(Go.part 35 #[.int .u32 a.1,.int .u32 a.2] 1).run prog w=.ok (.int .u32 a.2) w:=oF (l:=[.int .u32 a.1,.int .u32 a.2]) bZ rfl
  show (Instr.checkKey false (9999+1) 209 _).run _ w=_
  unfold Instr.checkKey
  simp only [Sem.run_bind,h42,Result.andThen_ok,cU]
  simp [p0,p1,hc,Sem.run_bind,Sem.run_pure]
 ·have h:=(bUo a.1 a.2 b.1 b.2).2 w
  have e:decide (a.1=b.1∧a.2=b.2)=decide (a=b):=decide_eq_decide.2 Prod.ext_iff.symm
  rw [e] at h
  exact h
theorem aIz (w:World) (A:Option Addr) (n c:Nat) (xs:List (Int × Int)) (e:eQ) (hR:bA 209 2 A n c (xs.map cU) e) (hw:Own [e] w) (hn:n≤1099511627776) :
  Calls prog 234 #[.slice A n c,.func (.func 213) #[] #[]] w (fun ex w'=>∃ v,ex=.returned v∧v=.tuple #[]∧∃ (ys:List (Int × Int)) (e':eQ),ys.Perm xs∧(ys.Pairwise fun a b=>¬ ltP b a)∧bA 209 2 A n c (ys.map cU) e'∧Mem w (cD [e]) [e'] w'):=by
 have h:=yU bDg (T:=209) kR cU aKi (fun x v hv=>by simp only [cU,List.mem_cons,List.not_mem_nil,or_false] at hv;rcases hv with h | h <;> subst h <;> rfl) _ bKj 213 bTj bIz w A xs e hR hw (by omega)
 refine Calls.mono h ?_
 rintro ex w' ⟨v,h1,h2,ys,e',h3,h4,h5,h6⟩
 refine ⟨v,h1,h2,ys,e',h3, ?_,h5,h6⟩
 refine List.pairwise_iff_getElem.2 fun i j hi hj hij => ?_
 have:=h4 i j _ _ hij (List.getElem?_eq_getElem hi) (List.getElem?_eq_getElem hj)
 have h:=of_decide_eq_false this
 rwa [aQt] at h
theorem aVv (w:World) (mb:Nat) :
  Calls prog 212 #[.map (some mb)] w (gY (fun v w'=>∃ bb,v=.func (.func 235) #[] #[.pointer (some ⟨bb,0,none⟩)]∧Mem w [] [(some bb,bc [.map (some mb)] 287)] w')):=by
 refine aI #[.tmp 2] 4 func212 Z results212 ntmps212 Z ?_
 have M0:=Mem.refl w
 refine aE (aA (bO (.map _) M0 Z Z Z (fun b1 w1 M1=>(wq (aJ (_) Z) Z (aB (aC (aE (aA (wq (eB [] [.pointer _] Z Z) Z (wq (aJ (.func _ _ _) Z) Z (aB (aC (aR (cF (.func _ _ _) Z ?_))))))))))))))
 exact ⟨b1,Z,M1⟩
theorem aSd (w:World) (bb:Nat) (mb clock:Nat) (L:List ((Int × Int) × Nat)) (hmb:w.heap[mb]? = some (mD cU L clock)) (hml:mb < w.heap.size) (hS:SetOk L clock) (hLN:L.length < 1099511627776) (B1:Rd w 1 (some ⟨bb,0,none⟩) 1 [[.map (some mb)]]) (lp ob:Nat) (rec:Loop) (hY:aAa prog lp ob rec 220 209 2 1099511627776 (fun x=>∃ a b,x=[.int .u32 a,.int .u32 b])) (r0:Row) (hr0:bA 209 2 r0.A r0.n r0.c [] r0.e) (hO:Own [(some lp,.loop rec),(some ob,bc [.slice r0.A r0.n r0.c] 220),r0.e] w) (hd1:0 < 1→∀ q off,(some ⟨bb,0,none⟩:Option Addr)=some ⟨q,off,none⟩→q∉cD [(some lp,.loop rec),(some ob,bc [.slice r0.A r0.n r0.c] 220),r0.e]) (hmX:mb∉cD [(some lp,.loop rec),(some ob,bc [.slice r0.A r0.n r0.c] 220),r0.e]) :
  Calls prog 235 #[.func (.yield lp) #[] #[],.pointer (some ⟨bb,0,none⟩)] w (gY (fun v w'=>v=.tuple #[]∧∃ (r:Row) (T:List ((Int × Int) × Nat)),T.Perm L∧bA 209 2 r.A r.n r.c ((T.map (fun z=>z.1)).map cU) r.e∧Mem w (cD [(some lp,.loop rec),(some ob,bc [.slice r0.A r0.n r0.c] 220),r0.e]) [(some lp,.loop rec),(some ob,bc [.slice r.A r.n r.c] 220),r.e] w')):=by
 rw [← iP bb]
 refine aI #[] 14 func235 Z results235 ntmps235 Z ?_
 have M0:=hO.mem
 refine aE (aA (wq (dR (o:=0) (.map _) bVg (B1.memY M0 hd1) (show ([[.map (some mb)]]:List (List Value))[0]? = some ([.map (some mb)]) from rfl) rfl rfl) rfl (bKw (α:=Int × Int) underlying287 M0 rfl rfl rfl ((M0.old mb hml hmX).trans hmb) (fun b1 w1 M1=>(aB (aC (aS (dK (σ:=List ((Int × Int) × Nat) × Row) [0,5] (fun (T,r)=>[]) (fun (T,r) w'=>((∀ p∈T,p∈L)∧(T.map (·.2)).Nodup∧bA 209 2 r.A r.n r.c ((T.map (fun z=>z.1)).map cU) r.e)∧Mem w (cD [(some lp,.loop rec),(some ob,bc [.slice r0.A r0.n r0.c] 220),r0.e]) [(some lp,.loop rec),(some ob,bc [.slice r.A r.n r.c] 220),r.e,(some b1,aAy mb clock T)] w') (fun (T,r)=>L.length - T.length) ([],r0) eC (⟨⟨(fun p hp=>nomatch hp),by simp,hr0⟩,M1⟩) ?_))))))))
 rintro ⟨T,r⟩ ρ2 w2 ⟨⟨hTs,hTn,hr⟩,hM2⟩
 have hrl:T.length=r.n:=by simpa using hr.1
 have hTl:=aQp hTn hTs
 refine aE (aA ?_)
 refine bOp (enc:=cU) 3 hM2 Z Z Z Z ((hM2.old mb hml hmX).trans hmb) hS.lt (fun hover => ?_) (fun p3 w3 hp3 hnp3 M3 => ?_)
 ·refine wq (bJ (.bool false) Z Z) Z (aB (aC (aE (cB Z (cM (cZ (dF (eL (lF ?_)))))))))
  exact ⟨Z,r,T,bGi hS.nd hTn hTs hover,hr,hM2.keep [true,true,true,false]⟩
 ·refine wq (bJ (.bool true) Z Z) Z (aB (aC (aE (cE Z (aM (aC (aS (aE (aA (wq (bNs (enc:=cU) 3 (p3) M3 Z Z ((M3.old mb hml hmX).trans hmb) hp3 hS.nd) Z (wq (bJ (.agg (.mk _)) Z Z) Z (aO yD M3 Z Z (fun b4 w4 M4=>(bC 4 _ kR M4 Z Z Z Z Z (aP Z) Z (fun w5 M5=>(aB (aC (aE (aKy (aMw (aH (.func _ _ _) Z) Z Z (aMw (aV 4 kR M5 Z Z Z) Z Z ?_)))))))))))))))))))))
  obtain ⟨fy,ty,ay,by1,hy1,hy2⟩:=hY _ r ((T.map (fun z=>z.1)).map cU) (cU p3.1) ⟨_,_,rfl⟩ (by omega) hr (M5.ownSeg 0 3)
  refine aMx Z Z Z Z hy1 (hy2.mono ?_)
  rintro _ w6 ⟨rfl,q6,hqn6,hq6,hM6⟩
  have M6:Mem _ _ [_,_,_,_,_] _:=M5.seg 0 3 hM6
  refine ⟨_,Z, ?_⟩
  refine bKu Z (fun _ _ h=>h) (wq (fB false Z Z) Z (aB (aC (cB Z (aM (cS ?_))))))
  have hTs2:∀ p∈T++[p3],p∈L:=fun p hp=>(List.mem_append.1 hp).elim (hTs p) (fun h=>by rw [List.mem_singleton] at h;rw [h];exact hp3)
  have hTn2:=bAv hTn hnp3
  have hTl2:=aQp hTn2 hTs2
  rw [List.length_append,List.length_singleton] at hTl2
  refine bU (T++[p3],q6) eC (bX Z (bX Z gR)) ?_ ?_
  ·exact ⟨⟨hTs2,hTn2,by rw [List.map_append,List.map_append];exact hq6⟩,M6.keep [true,true,true,true,false]⟩
  ·(show L.length - (T++[p3]).length < L.length - T.length;rw [List.length_append,List.length_singleton];omega)
theorem aBv (w:World) (bb:Nat) (mb clock:Nat) (L:List ((Int × Int) × Nat)) (hmb:w.heap[mb]? = some (mD cU L clock)) (hml:mb < w.heap.size) (hS:SetOk L clock) (hLN:L.length < 1099511627776) (B1:Rd w 1 (some ⟨bb,0,none⟩) 1 [[.map (some mb)]]) :
  Calls prog 256 #[.slice none 0 0,.func (.func 235) #[] #[.pointer (some ⟨bb,0,none⟩)]] w (gY (fun v w'=>∃ (r:Row) (T:List ((Int × Int) × Nat)),T.Perm L∧v=.slice r.A r.n r.c∧bA 209 2 r.A r.n r.c ((T.map (fun z=>z.1)).map cU) r.e∧Mem w [] [r.e] w')):=by
 refine aDw #[.tmp 4] 13 func256 Z results256 ntmps256 Z ?_
 have M0:=Mem.refl w
 refine uB (qZ (bO (.slice _ _ _) M0 Z Z Z (fun b1 w1 M1=>(eI Z Z (aB (uW (uB (uB (qZ (wq (aH (.func _ _ _) Z) Z (aB (uW (aPv ?_)))))))))))))
 have M2:Mem _ _ [_,_] _:=M1.dummy default
 refine aPw bTu M2 Z (fun fnn B lp tmps w1 hρ hn M1 => ?_)
 refine aJk (P:=prog) (ob:=b1) (Tsl:=220) (Te:=209) (sz:=2) (N:=1099511627776) (ok:=(fun x=>∃ a b,x=[.int .u32 a,.int .u32 b])) M1 ?_ (fun hY => ?_)
 ·intro wr r ls x hok hlt hrow hO
  obtain ⟨xa,xb,rfl⟩:=hok
  refine ⟨_,_,_,_,aSy hO Z Z Z hn (by decide) hρ ?_⟩
  have MR0:=hO.mem
  refine wZ Z (fun _ _ h=>nomatch h.1) (aO yD MR0 Z Z (fun b3 w3 M3=>(bC 3 _ kR M3 Z Z Z Z Z (aP Z) Z (fun w4 M4=>(aB ?_)))))
  refine ⟨Z,_,M4,Z,fun w5 M5 => ?_⟩
  refine aPx (wZ rfl (fun _ _ h=>nomatch h.1) (wq (aK 1 (.slice _ _ _) aWa M5 rfl rfl rfl) rfl (wq (aV 3 kR M5 rfl rfl rfl) rfl (bV [.agg (List.toArray _)] [[.int .u32 xa,.int .u32 xb]] rfl aBu M5 rfl rfl rfl rfl (cO rfl) (by decide) (fun b6 w6 M6=>(cP 2 [[.int .u32 xa,.int .u32 xb]] aBu M6 rfl rfl rfl rfl rfl hrow rfl (by simp [Go.Bil.one]) (dN.ofMem 4 M6 rfl) (by omega) (fun A7 c7 e7 w7 M7 hR7=>(dA 1 (.slice _ _ _) aWa M7 rfl rfl rfl rfl rfl rfl (fun w8 M8=>(aB (cS ?_)))))))))))
  refine ⟨Z,_,M8,Z,fun w9 M9 => ?_⟩
  exact ⟨⟨A7,r.n+1,c7,e7⟩,Z,hR7,M9.keep [true,true,true,false,false]⟩
 ·refine (aSd _ bb mb clock L ((M1.old mb hml List.not_mem_nil).trans hmb) (Nat.lt_of_lt_of_le hml M1.size) hS hLN (B1.mem M1) lp b1 _ hY ⟨none,0,0,(none,default)⟩ (bA.nil _ _ _) (M1.ownSeg 0 3) (M1.away 0 3 B1 (fun _ q off _ h=>by simp at h)) (M1.notNew 3 hml)).mono ?_
  rintro _ w5 ⟨v5,rfl,rfl,r,T,hT,hr,hM⟩
  have M5:Mem _ _ (_::[_,_,_]) _:=M1.seg 0 3 hM
  refine ⟨_,Z,_,M5,fun w6 M6 => ?_⟩
  refine bPf (uW (uB (aKx (bAd (aK 1 (.slice _ _ _) aWa M6 Z Z Z) Z Z (bAd (aJ (.slice _ _ _) Z) Z Z (bAc (uW (bEc (bQa (i:=3) (.slice _ _ _) Z M6 Z (fun w9 M9 => ?_))))))))))
  exact ⟨r,T,hT,Z,hr,M9.keep [false,false,true,false]⟩
theorem aFi (w:World) (bb:Nat) (mb clock:Nat) (L:List ((Int × Int) × Nat)) (hmb:w.heap[mb]? = some (mD cU L clock)) (hml:mb < w.heap.size) (hS:SetOk L clock) (hLN:L.length < 1099511627776) (B1:Rd w 1 (some ⟨bb,0,none⟩) 1 [[.map (some mb)]]) :
  Calls prog 233 #[.func (.func 235) #[] #[.pointer (some ⟨bb,0,none⟩)]] w (gY (fun v w'=>∃ (r:Row) (T:List ((Int × Int) × Nat)),T.Perm L∧v=.slice r.A r.n r.c∧bA 209 2 r.A r.n r.c ((T.map (fun z=>z.1)).map cU) r.e∧Mem w [] [r.e] w')):=by
 refine aI #[.tmp 2] 5 func233 Z results233 ntmps233 Z ?_
 have M0:=Mem.refl w
 refine aE (aA (eI Z Z (aB (aC (aE (aA (wq (aH (.func _ _ _) Z) Z (eJ bUd Z Z (aBv _ bb mb clock L ((M0.old mb hml List.not_mem_nil).trans hmb) (Nat.lt_of_lt_of_le hml M0.size) hS hLN (B1.mem M0)) ?_))))))))
 rintro v1 w1 ⟨r,T,hT,rfl,hr,hM1⟩
 have M1:Mem _ _ [_] _:=M0.call0 hM1
 refine eI Z Z (aB (aC (aR (cF (.slice _ _ _) Z ?_))))
 exact ⟨r,T,hT,Z,hr,M1⟩
theorem zV (w:World) (bb:Nat) (mb clock:Nat) (L:List ((Int × Int) × Nat)) (hmb:w.heap[mb]? = some (mD cU L clock)) (hml:mb < w.heap.size) (hS:SetOk L clock) (hLN:L.length < 1099511627776) (B1:Rd w 1 (some ⟨bb,0,none⟩) 1 [[.map (some mb)]]) :
  Calls prog 211 #[.func (.func 235) #[] #[.pointer (some ⟨bb,0,none⟩)],.func (.func 213) #[] #[]] w (gY (fun v w'=>∃ (r:Row) (ys:List (Int × Int)),Asc ys∧(∀ z,z∈ys↔z∈L.map (·.1))∧v=.slice r.A r.n r.c∧bA 209 2 r.A r.n r.c ((ys).map cU) r.e∧Mem w [] [r.e] w')):=by
 refine aI #[.tmp 4] 12 func211 Z results211 ntmps211 Z ?_
 have M0:=Mem.refl w
 refine aE (aA (eI Z Z (aB (aC (aE (aA (wq (aH (.func _ _ _) Z) Z (eJ bTs Z Z (aFi _ bb mb clock L ((M0.old mb hml List.not_mem_nil).trans hmb) (Nat.lt_of_lt_of_le hml M0.size) hS hLN (B1.mem M0)) ?_))))))))
 rintro v1 w1 ⟨r,T,hT,rfl,hr,hM1⟩
 have M1:Mem _ _ [_] _:=M0.call0 hM1
 have hrl:T.length=r.n:=by simpa using hr.1
 have hTL:=hT.length_eq
 refine eI Z Z (aB (aC (aE (aA (dJ Z Z (wq (aH (.func _ _ _) Z) Z (eJ bTt Z Z (aIz _ _ _ _ (T.map (fun z=>z.1)) _ hr (M1.ownAt (i:=0) Z) (by omega)) ?_)))))))
 rintro v2 w2 ⟨rfl,ys,e2,hpp,huu,hR2,hM2⟩
 have M2:Mem _ _ [_] _:=M1.seg 0 1 hM2
 refine aB (aC (aE (aA (dJ Z Z (eI Z Z (aB (aC (aR (cF (.slice _ _ _) Z ?_)))))))))
 have hpl:ys.Perm (L.map (·.1)):=hpp.trans (hT.map _)
 exact ⟨⟨r.A,r.n,r.c,e2⟩,ys,bQw (hpl.nodup_iff.2 hS.keys) huu,fun z=>hpl.mem_iff,Z,hR2,M2⟩
theorem aFf (w:World) (b:Nat) (rs:List Row) (cnt:Int) (g:Nat→List Int) (hlen:rs.length=1024) (G:Rd w 1025 (some ⟨b,0,none⟩) 1 [fP rs cnt]) (hrow:∀ (j:Nat) (r:Row),rs[j]? = some r→Rd w 1 r.A r.n ((g j).map jF)∧r.n≤r.c) (ks:List Int) (hks:∀ j,j < 1024→∀ x∈g j,x∈ks) (hkl:ks.length≤65536) :
  Calls prog 184 #[.pointer (some ⟨b,0,none⟩)] w (gY (fun v w'=>∃ (r:Row) (ps:List (Int × Int)),Asc ps∧(∀ z,z∈ps↔z∈tF g 1024)∧v=.slice r.A r.n r.c∧bA 209 2 r.A r.n r.c ((ps).map cU) r.e∧Mem w [] [r.e] w')):=by
 rw [← iP b]
 refine aI #[.tmp 2] 49 func184 Z results184 ntmps184 Z ?_
 have M0:=Mem.refl w
 refine aE (aA (eI Z Z (aB (aC (aE (aE (aA (wq (aH (elt _ _) Z) Z (wq (aSn underlying279 (G.mem M0) (show ([fP rs cnt]:List (List Value))[0]? = some (fP rs cnt) from Z) Z) Z (aB (aC (cB Z (aM (aC (aE (aA (pB M0 Z Z (fun b1 w1 M1=>(wq (aJ (.map _) Z) Z (aB (aC (aE (aE (aA (wq (aH (elt _ _) Z) Z (wq (aSo (G.mem M1) (jD ((G.mem M1).below_len (show ([fP rs cnt]:List (List Value))[0]? = some (fP rs cnt) from Z))) Z) Z (wq (aU 0 aHj (G.mem M1) (jD ((G.mem M1).below_len (show ([fP rs cnt]:List (List Value))[0]? = some (fP rs cnt) from Z))) Z) Z ?_)))))))))))))))))))))))))))
 refine wq (lS (o:=0) (rs.map (fun r=>Value.slice r.A r.n r.c)) bQu (G.mem M1) (show ([fP rs cnt]:List (List Value))[0]? = some (fP rs cnt) from rfl) rfl (aRp hlen) (by simp [hlen])) rfl (aT rfl rfl (aB (aC (aS (dK (σ:=Nat × Nat × List ((Int × Int) × Nat)) [2,3,16] (fun (i,c0,L0)=>[(17,.int .i64 (i:Int))]) (fun (i,c0,L0) w'=>i≤1024∧(SetOk L0 c0∧∀ z,z∈L0.map (fun z=>z.1)↔z∈tF g i)∧Mem w [] [(some b1,mD cU L0 c0)] w') (fun (i,c0,L0)=>1024 - i) (0,0,[]) (bI rfl eC) (⟨by omega,⟨SetOk.nil,fun z=>by simp [tF]⟩,M1⟩) ?_)))))
 rintro ⟨i,c0,L0⟩ ρ2 w2 ⟨hi,⟨hS0,hI0⟩,hM2⟩
 refine aE (aA (cV Z Z Z Z (aB (aC (aE ?_)))))
 refine aW Z (fun h18 => ?_) (fun h18 => ?_)
 ·obtain ⟨rj,hrj⟩:=cG (xs:=rs) (k:=i) hlen (by omega)
  obtain ⟨Rj,hcj⟩:=hrow i rj hrj
  have hlj:(g i).length=rj.n:=by simpa using Rj.len
  have hbj:=Rj.bound
  refine aM (aC (aE (aS (aE (aA (wq (aDh (i) (.slice rj.A rj.n rj.c) aUd aOq rfl rfl (by omega) (by omega) rfl (by rw [oY];exact aG _ hrj)) rfl (eI rfl rfl (aB (aC (aE (aA (dJ rfl rfl (wq (bW underlying247 rfl) rfl (aT rfl rfl (aB (aC (aS (dK (σ:=Nat × Nat × List ((Int × Int) × Nat)) [2,3,5,16,17,20,21] (fun (p,c2,L2)=>[(22,.int .i64 (p:Int))]) (fun (p,c2,L2) w'=>p≤rj.n∧(SetOk L2 c2∧∀ z,z∈L2.map (fun z=>z.1)↔z∈tF g i++aEn (g i) p)∧Mem w [] [(some b1,mD cU L2 c2)] w') (fun (p,c2,L2)=>rj.n - p) (0,c0,L0) (bI rfl eC) (⟨by omega,⟨hS0,fun z=>by rw [hI0 z];simp [aEn]⟩,hM2⟩) ?_))))))))))))))))))
  rintro ⟨p,c2,L2⟩ ρ3 w3 ⟨hp,⟨hS2,hI2⟩,hM3⟩
  refine aE (aA (cV Z Z Z Z (aB (aC (aE ?_)))))
  refine aW Z (fun h23 => ?_) (fun h23 => ?_)
  ·obtain ⟨xa,hxa⟩:=cG (xs:=g i) (k:=p) hlj (by omega)
   refine aM (aC (aE (aS (aE (aA (aT rfl rfl (wq (bG (p) aTl rfl rfl rfl ((Rj.mem hM3).below_len (aG jF hxa)) ((Rj.mem hM3).someK (aG jF hxa))) rfl (wq (fG (.int _ _) bZ (Rj.mem hM3) (aG jF hxa) rfl) rfl (bL rfl rfl (bL rfl rfl (aB (aC (aE (aA (dJ rfl rfl (aT rfl rfl (wq (fF (0) ((p:Int)) aTl rfl rfl ⟨_,rfl⟩ (by decide) (by omega) (by omega)) rfl (wq (bW underlying247 rfl) rfl (aT rfl rfl (aB (aC (aS (dK (σ:=Nat × Nat × List ((Int × Int) × Nat)) [2,3,5,7,16,17,20,21,22,29,30] (fun (q,c4,L4)=>[(31,.int .i64 (q:Int))]) (fun (q,c4,L4) w'=>q≤p∧(SetOk L4 c4∧∀ z,z∈L4.map (fun z=>z.1)↔z∈(tF g i++aEn (g i) p)++aFh xa ((g i).take q))∧Mem w [] [(some b1,mD cU L4 c4)] w') (fun (q,c4,L4)=>p - q) (0,c2,L2) (bI rfl eC) (⟨by omega,⟨hS2,fun z=>by rw [hI2 z];simp [aFh]⟩,hM3⟩) ?_)))))))))))))))))))))))
   rintro ⟨q,c4,L4⟩ ρ4 w4 ⟨hq,⟨hS4,hI4⟩,hM4⟩
   refine aE (aA (cV Z Z Z Z (aB (aC (aE ?_)))))
   refine aW Z (fun h32 => ?_) (fun h32 => ?_)
   ·obtain ⟨xb,hxb⟩:=cG (xs:=g i) (k:=q) hlj (by omega)
    refine aM (aC (aE (aS (aE (aA (wq (bG (q) aTl Z Z Z (((Rj.mem hM4).sub 0 p (by omega) (by omega) hcj).below_len (aJe hxb (by omega))) (((Rj.mem hM4).sub 0 p (by omega) (by omega) hcj).someK (aJe hxb (by omega)))) Z (wq (fG (.int _ _) bZ ((Rj.mem hM4).sub 0 p (by omega) (by omega) hcj) (aJe hxb (by omega)) Z) Z (bL Z Z (aB (aC (aE (aA (aT Z Z (aT Z Z (cV Z Z Z Z (aB (aC ?_)))))))))))))))))
    refine aW Z (fun h37 => ?_) (fun h37 => ?_)
    ·refine aA (wq (aH (.map _) Z) Z (aT Z Z (aT Z Z (eJ bTg Z Z (bBu _ xa xb) ?_))))
     rintro v5 w5 ⟨rfl,hb5⟩
     have M5:=hM4.callB hb5
     refine wq (cI [] _ bDn Z Z) Z (bDs (enc:=cU) 0 (prI xa xb) bIy M5 Z Z hS4 Z Z Z (fun L6 c6 w6 hS6 hZ6 hN6 M6=>(aB (cS (aC (aA (wq (bE Z Z (by omega) (by omega)) Z (aT Z Z (aB ?_)))))))))
     refine bU (q+1,c6,L6) (bI Z eC) (bX Z (bX Z (bX Z (bX Z (bX Z (bX Z (bX Z (bX Z (bX Z (bX Z (bX Z gR))))))))))) ?_ ?_
     ·exact ⟨by omega,⟨hS6,bAy hZ6 hI4 hxb h37⟩,M6⟩
     ·(show p - (q+1) < p - q;omega)
    ·refine aM (cS (aC (aA (wq (bE Z Z (by omega) (by omega)) Z (aT Z Z (aB ?_))))))
     refine bU (q+1,c4,L4) (bI Z eC) (bX Z (bX Z (bX Z (bX Z (bX Z (bX Z (bX Z (bX Z (bX Z (bX Z (bX Z gR))))))))))) ?_ ?_
     ·exact ⟨by omega,⟨hS4,bAx hI4 hxb h37⟩,hM4⟩
     ·(show p - (q+1) < p - q;omega)
   ·have hqp:q=p:=by omega
    refine cM (cZ (dF (eL (cS (aC (aA (wq (bE Z Z (by omega) (by omega)) Z (aT Z Z (aB ?_)))))))))
    refine bU (p+1,c4,L4) (bI Z eC) (bX Z (bX Z (bX Z (bX Z (bX Z (bX Z (bX Z gR))))))) ?_ ?_
    ·exact ⟨by omega,⟨hS4,fun z=>by rw [hI4 z,aWe hxa,← hqp,List.append_assoc]⟩,hM4⟩
    ·(show rj.n - (p+1) < rj.n - p;omega)
  ·have hpn:p=rj.n:=by omega
   refine cM (cZ (dF (eL (cS (aC (aA (wq (bE Z Z (by omega) (by omega)) Z (aT Z Z (aB ?_)))))))))
   refine bU (i+1,c2,L2) (bI Z eC) (bX Z (bX Z (bX Z gR))) ?_ ?_
   ·exact ⟨by omega,⟨hS2,fun z=>by rw [hI2 z,aUs];unfold bJc;rw [hlj,← hpn]⟩,hM3⟩
   ·(show 1024 - (i+1) < 1024 - i;omega)
 ·have hi':i=1024:=by omega
  rw [hi'] at hI0
  have hLb:(L0.map (fun z=>z.1)).length≤(aIl ks).length:=aIf hS0.keys (fun z hz=>bAw hks ((hI0 z).1 hz))
  rw [List.length_map,bCn] at hLb
  have hkk:ks.length*ks.length≤65536*65536:=Nat.mul_le_mul hkl hkl
  refine cM (cZ (dF (eL (aC (aE (aA (wq (aH (.map _) Z) Z (eJ bTi Z Z (aVv _ b1) ?_))))))))
  rintro v7 w7 ⟨bb,rfl,hM7⟩
  have M7:Mem _ _ [_,_] _:=hM2.call0 hM7
  refine eJ bTh Z Z (zV _ bb b1 c0 L0 (M7.at_ (i:=0) Z) (M7.lt List.mem_cons_self) hS0 (by omega) (rS 1 M7 Z Z)) ?_
  rintro v8 w8 ⟨r,ys,hasc,hys,rfl,hr,hM8⟩
  have M8:Mem _ _ [_,_,_] _:=M7.call0 hM8
  refine eI Z Z (aB (aC (aR (cF (.slice _ _ _) Z ?_))))
  exact ⟨r,ys,hasc,fun z=>(hys z).trans (hI0 z),Z,hr,M8.keep [false,false,true]⟩
theorem aSk (w:World) (A:Option Addr) (n c:Nat) (xs:List Body) (R:Rd w 10 A n (xs.map aF)) (hb:∀ b∈xs,Okb b) :
  Calls prog 180 #[.slice A n c] w (gY (fun v w'=>∃ (pm:Nat) (em:eQ),v=.map (some pm)∧lQ .u32 yO (bxM xs) (some pm) em∧Mem w [] [em] w')):=by
 have hlen:xs.length=n:=by simpa using R.len
 have hbd:=R.bound
 refine aI #[.tmp 2] 20 func180 Z results180 ntmps180 Z ?_
 have M0:=Mem.refl w
 refine aE (aA (wq (aJ (.map _) Z) Z (aB (aC (aE (aA (pB M0 Z Z (fun b1 w1 M1=>(wq (aJ (.map _) Z) Z (aB (aC (aE (aE (aA (dJ Z Z (wq (bW underlying29 Z) Z (aT Z Z (aB (aC (aS (dK (σ:=Nat × eQ) [2,3,7,8] (fun (k,em)=>[(9,.int .i64 (k:Int))]) (fun (k,em) w'=>(k≤n∧lQ .u32 yO (bxM (xs.take k)) (some b1) em)∧Mem w [] [em] w') (fun (k,em)=>n - k) (0,(some b1,.map #[] 0)) (bI Z eC) (⟨⟨by omega,(lQ.empty _ _ b1).congr (fun q=>by rw [List.take_zero];exact bLl q)⟩,M1⟩) ?_)))))))))))))))))))))
 rintro ⟨k,em⟩ ρ2 w2 ⟨⟨hk,hme⟩,hM2⟩
 refine aE (aA (cV Z Z Z Z (aB (aC (aE ?_)))))
 refine aW Z (fun h10 => ?_) (fun h10 => ?_)
 ·obtain ⟨xb,hxb⟩:=cG (k:=k) hlen (by omega)
  refine aM (aC (aE (aS (aE (aA (wq (bG (k) dU Z Z Z ((R.mem hM2).below_len (aG aF hxb)) ((R.mem hM2).someK (aG aF hxb))) Z (wq (dQ _ bR (R.mem hM2) (aG aF hxb) Z) Z (aO gL hM2 Z Z (fun b3 w3 M3=>(bC 1 _ bR M3 Z Z Z Z Z (aP Z) Z (fun w4 M4=>(aB (aC (gJ [(0,0),(1,0),(2,1),(3,1),(4,2),(5,2)] mixed M4 Z (by kernel_rfl) (fun w5 M5=>(aX Z Z Z (fun _=>aH (.map _) Z) (aX Z Z Z (fun _=>aD 0 dZ Z) (bQ Z Z Z (aK 1 (.int _ _) bZ M5 Z Z Z) ?_))))))))))))))))))
  refine bQ Z Z Z (aV 1 bR M5 Z Z Z) (dO [true,false] Z (by kernel_rfl) (dM bTa Z Z M5 (bQz _ xb (hb xb (List.mem_of_getElem? hxb))) (fun w6 M6 => ?_)))
  refine aB (aC ⟨(dS (bH Z (aK 1 (.int _ _) bZ M6 Z Z Z)) dI), ?_⟩)
  refine dO [true] Z (by kernel_rfl) (mF (enc:=yO) 0 aOi M6 Z Z hme Z Z Z Z (fun e7 w7 hm7 M7 => ?_))
  refine aB (aC ⟨dI, ?_⟩)
  refine bS (cS (aC (aA (wq (bE Z Z (by omega) (by omega)) Z (aT Z Z (aB ?_))))))
  refine bU (k+1,e7) (bI Z eC) (bX Z (bX Z (bX Z (bX Z gR)))) ?_ ?_
  ·exact ⟨⟨by omega,hm7.congr (fun q=>bEu hxb q)⟩,M7.keep [true,false]⟩
  ·(show n - (k+1) < n - k;omega)
 ·have hkn:k=n:=by omega
  rw [List.take_of_length_le (by omega)] at hme
  refine cM (cZ (dF (eL (aC (aE (aA (wq (aH (.map _) Z) Z (wq (aJ (.map _) Z) Z (aB (aC (aR (cF (.map _) Z ?_))))))))))))
  exact ⟨_,_,Z,hme,hM2⟩
theorem aIj (w:World) (pm:Nat) :
  Calls prog 182 #[.map (some pm)] w (gY (fun v w'=>∃ bm bn,v=.tuple #[.func (.func 206) #[] #[.pointer (some ⟨bn,0,none⟩),.pointer (some ⟨bm,0,none⟩)],.func (.func 208) #[] #[.pointer (some ⟨bn,0,none⟩)]]∧Mem w [] [(some bm,bc [.map (some pm)] 245),(some bn,bc [.int .i64 0] 3)] w')):=by
 refine aI #[.tmp 2,.tmp 3] 8 func182 Z results182 ntmps182 Z ?_
 have M0:=Mem.refl w
 refine aE (aA (bO (.map _) M0 Z Z Z (fun b1 w1 M1=>(wq (aJ (_) Z) Z (wq (aJ (_) Z) Z (aB (aC (aE (aA (aO bQl M1 Z Z (fun b2 w2 M2=>(dA 1 (.int _ _) fE M2 Z Z Z Z Z Z (fun w3 M3=>(aB (aC (aE (aA (wq (eB [] [.pointer _,.pointer _] Z Z) Z (wq (aJ (.func _ _ _) Z) Z (aB (aC (aE (aA (wq (aH (.func _ _ _) Z) Z (wq (eB [] [.pointer _] Z Z) Z (wq (aJ (.func _ _ _) Z) Z (wq (aJ (.func _ _ _) Z) Z (aB (aC (aR ?_))))))))))))))))))))))))))))))
 refine gE (.func _ _ _) (.func _ _ _) Z Z ?_
 exact ⟨b1,b2,Z,M3⟩
theorem aKj (w:World) (bn:Nat) (m:Int) (K:Rd w 1 (some ⟨bn,0,none⟩) 1 [[.int .i64 m]]) :
  Calls prog 208 #[.pointer (some ⟨bn,0,none⟩)] w (Rb w (.int .i64 m)):=by
 rw [← iP bn]
 refine aI #[.tmp 1] 3 func208 Z results208 ntmps208 Z ?_
 have M0:=Mem.refl w
 refine aE (aA (bL Z Z (aB (aC (aE (aA (wq (dR (o:=0) (.int _ _) fE (K.mem M0) (show ([[.int .i64 m]]:List (List Value))[0]? = some [.int .i64 m] from Z) Z Z) Z (bL Z Z (aB (aC (aR (cF (.int _ _) Z ?_))))))))))))
 exact ⟨Z,M0.below⟩
theorem aEm (w:World) (z:Int × Int) (bn bm m:Nat) (f:Int→Option Bx) (pm:Nat) (em:eQ) (hme:lQ .u32 yO f (some pm) em) (B:Rd w 1 (some ⟨bm,0,none⟩) 1 [[.map (some pm)]]) (N:Rd w 4 (some ⟨3,0,none⟩) 1 [dY gZ]) (hO:Own [(some bn,bc [.int .i64 (m:Int)] 3),em] w) (hdB:0 < 1→∀ q off,(some ⟨bm,0,none⟩:Option Addr)=some ⟨q,off,none⟩→q∉cD [(some bn,bc [.int .i64 (m:Int)] 3),em]) (hdN:0 < 1→∀ q off,(some ⟨3,0,none⟩:Option Addr)=some ⟨q,off,none⟩→q∉cD [(some bn,bc [.int .i64 (m:Int)] 3),em]) (hm:m≤1125899906842624) :
  Calls prog 206 #[(.agg (cU z).toArray),.pointer (some ⟨bn,0,none⟩),.pointer (some ⟨bm,0,none⟩)] w (gY (fun v w'=>v=.bool (apB f z)∧Mem w (cD [(some bn,bc [.int .i64 (m:Int)] 3),em]) [(some bn,bc [.int .i64 ((m+1:Nat):Int)] 3),em] w')):=by
 rw [← iP bm]
 refine aI #[.tmp 4] 17 func206 Z results206 ntmps206 Z ?_
 have M0:=hO.mem
 refine aE (aA (bO (.agg (.mk _)) M0 Z Z Z (fun b1 w1 M1=>(wq (aJ (.bool false) Z) Z (aB (aC (aE (aA (wq (aK 0 (.int _ _) fE M1 Z Z Z) Z (wq (bE Z Z (by omega) (by omega)) Z (aL 6 (.int .i64 ((m+1:Nat):Int)) (iE (by omega)) (dA 0 (.int _ _) fE M1 Z Z Z Z Z Z (fun w2 M2=>(aB (aC (aE (aA (wq (dR (o:=0) (.map _) bIu (B.memY M2 hdB) (show ([[.map (some pm)]]:List (List Value))[0]? = some ([.map (some pm)]) from Z) Z Z) Z (wq (aD 0 iI Z) Z (wq (aK 2 (.int _ _) bZ M2 Z Z Z) Z ?_))))))))))))))))))))
 refine wq (nL (enc:=yO) z0B 1 aOi bLb M2 Z hme Z Z) Z (wq (dR (o:=0) (.map _) bIu (B.memY M2 hdB) (show ([[.map (some pm)]]:List (List Value))[0]? = some ([.map (some pm)]) from Z) Z Z) Z (wq (aD 1 lG Z) Z (wq (aK 2 (.int _ _) bZ M2 Z Z Z) Z (wq (nL (enc:=yO) z0B 1 aOi bLb M2 Z hme Z Z) Z (dM bTd Z Z M2 (aQk _ (N.memY M2 hdN) ((f z.1).getD z0B) ((f z.2).getD z0B)) (fun w3 M3=>(wq (pT Z) Z (wq (aJ (.bool (decide _)) Z) Z (aB (aC (aR (cF (.bool (decide _)) Z ?_))))))))))))
 exact ⟨Z,M3.keep [true,true,false]⟩
theorem aBw (w:World) (A:Option Addr) (n c:Nat) (zs:List (Int × Int)) (R:Rd w 2 A n (zs.map cU)) (bn bm m:Nat) (f:Int→Option Bx) (pm:Nat) (em:eQ) (hme:lQ .u32 yO f (some pm) em) (B:Rd w 1 (some ⟨bm,0,none⟩) 1 [[.map (some pm)]]) (N:Rd w 4 (some ⟨3,0,none⟩) 1 [dY gZ]) (hO:Own [(some bn,bc [.int .i64 (m:Int)] 3),em] w) (hdA:0 < n→∀ q off,A=some ⟨q,off,none⟩→q∉cD [(some bn,bc [.int .i64 (m:Int)] 3),em]) (hdB:0 < 1→∀ q off,(some ⟨bm,0,none⟩:Option Addr)=some ⟨q,off,none⟩→q∉cD [(some bn,bc [.int .i64 (m:Int)] 3),em]) (hdN:0 < 1→∀ q off,(some ⟨3,0,none⟩:Option Addr)=some ⟨q,off,none⟩→q∉cD [(some bn,bc [.int .i64 (m:Int)] 3),em]) (hm:m+n≤1125899906842624) (hn:n≤1099511627776) :
  Calls prog 209 #[.slice A n c,.func (.func 206) #[] #[.pointer (some ⟨bn,0,none⟩),.pointer (some ⟨bm,0,none⟩)]] w (gY (fun v w'=>v=.int .i64 (if zs.findIdx (apB f) < n then (zs.findIdx (apB f):Int) else -1)∧Mem w (cD [(some bn,bc [.int .i64 (m:Int)] 3),em]) [(some bn,bc [.int .i64 ((m+min n (zs.findIdx (apB f)+1):Nat):Int)] 3),em] w')):=by
 have hlen:zs.length=n:=by simpa using R.len
 refine aI #[.tmp 4] 19 func209 Z results209 ntmps209 Z ?_
 have M0:=hO.mem
 refine aE (aA (bL Z Z (aB (aC (aE (aE (aA (dJ Z Z (wq (bW underlying220 Z) Z (aT Z Z (aB (aC (aS (dK (σ:=Nat) [0,1,7] (fun k=>[(8,.int .i64 (k:Int))]) (fun k w'=>(k≤n∧∀ (j:Nat) (x:Int × Int),j < k→zs[j]? = some x→apB f x=false)∧Mem w (cD [(some bn,bc [.int .i64 (m:Int)] 3),em]) [(some bn,bc [.int .i64 ((m+k:Nat):Int)] 3),em] w') (fun k=>n - k) 0 (bI Z eC) (⟨⟨by omega,fun j c hj=>by omega⟩,M0⟩) ?_))))))))))))))
 rintro k ρ1 w1 ⟨⟨hk,hno⟩,hM1⟩
 refine aE (aA (cV Z Z Z Z (aB (aC (aE ?_)))))
 refine aW Z (fun h9 => ?_) (fun h9 => ?_)
 ·obtain ⟨xz,hxz⟩:=cG (k:=k) hlen (by omega)
  refine aM (aC (aE (aS (aE (aA (aT Z Z (bL Z Z (aB (aC (aE (aA (wq (aH (.func _ _ _) Z) Z (dJ Z Z (aT Z Z (wq (bG (k) aBu Z Z Z ((R.memY hM1 hdA).below_len (aG cU hxz)) ((R.memY hM1 hdA).someK (aG cU hxz))) Z (wq (dQ _ kR (R.memY hM1 hdA) (aG cU hxz) Z) Z (eJ bFl Z Z (aEm _ xz bn bm (m+k) f pm em hme (B.memY hM1 hdB) (N.memY hM1 hdN) (hM1.ownSeg 0 2) hdB hdN (by omega)) ?_)))))))))))))))))
  rintro v2 w2 ⟨rfl,hM2⟩
  have M2:Mem _ _ [_,_] _:=hM1.seg 0 2 hM2
  refine aB (aC ?_)
  refine iN _ Z (fun h16 => ?_) (fun h16 => ?_)
  ·refine aE (aA (aT Z Z (bL Z Z (aB (aC (aR (lP (cK (sY (lP (cK (cF (.int _ _) Z ?_))))))))))))
   have hfi:=aHb hxz h16 hno
   exact ⟨iE (by rw [hfi,if_pos (by omega)]),by rw [hfi,Nat.min_eq_right (by omega)];exact M2⟩
  ·refine aM (cS (aC (aA (wq (bE Z Z (by omega) (by omega)) Z (aT Z Z (aB ?_))))))
   refine bU (k+1) (bI Z eC) (bX Z (bX Z (bX Z gR))) ?_ ?_
   ·exact ⟨⟨by omega,rU (p:=fun _ x=>apB f x=false) hno hxz h16⟩,M2⟩
   ·omega
 ·refine cM (cZ (dF (eL (aC (aE (aA (bL Z Z (aB (aC (aR (cF (.int _ _) Z ?_)))))))))))
  have hkn:k=n:=by omega
  have hfi:=aHc (p:=apB f) (l:=zs) (fun j y hy=>hno j y (by have:=(List.getElem?_eq_some_iff.1 hy).1;omega) hy)
  exact ⟨iE (by rw [hfi,if_neg (by omega)]),by rw [hfi,Nat.min_eq_left (by omega),← hkn];exact hM1⟩
theorem zU (w:World) (A:Option Addr) (n c:Nat) (zs:List (Int × Int)) (er:eQ) (hr:bA 209 2 A n c ((zs).map cU) er) (bn bm m:Nat) (f:Int→Option Bx) (pm:Nat) (em:eQ) (hme:lQ .u32 yO f (some pm) em) (B:Rd w 1 (some ⟨bm,0,none⟩) 1 [[.map (some pm)]]) (N:Rd w 4 (some ⟨3,0,none⟩) 1 [dY gZ]) (hO:Own [er,(some bn,bc [.int .i64 (m:Int)] 3),em] w) (hdB:0 < 1→∀ q off,(some ⟨bm,0,none⟩:Option Addr)=some ⟨q,off,none⟩→q∉cD [er,(some bn,bc [.int .i64 (m:Int)] 3),em]) (hdN:0 < 1→∀ q off,(some ⟨3,0,none⟩:Option Addr)=some ⟨q,off,none⟩→q∉cD [er,(some bn,bc [.int .i64 (m:Int)] 3),em]) (hm:m+n≤1125899906842624) (hn:n≤1099511627776) :
  Calls prog 183 #[.slice A n c,.func (.func 206) #[] #[.pointer (some ⟨bn,0,none⟩),.pointer (some ⟨bm,0,none⟩)]] w (gY (fun v w'=>∃ r:Row,v=.slice r.A r.n r.c∧bA 209 2 r.A r.n r.c ((zs.filter (fun z => !apB f z)).map cU) r.e∧Mem w (cD [er,(some bn,bc [.int .i64 (m:Int)] 3),em]) [r.e,(some bn,bc [.int .i64 ((m+n:Nat):Int)] 3),em] w')):=by
 have hlen:zs.length=n:=by simpa using hr.1
 have hcap:=hr.slice
 refine aI #[.tmp 4] 42 func183 Z results183 ntmps183 Z ?_
 have M0:=hO.mem
 refine aE (aA (eI Z Z (aB (aC (aE (aA (dJ Z Z (wq (aH (.func _ _ _) Z) Z (eJ bTf Z Z (aBw _ A n c zs (hr.rd M0 (aN (i:=0) Z)) bn bm m f pm em hme (B.memY M0 hdB) (N.memY M0 hdN) (M0.ownSeg 1 2) (hr.apartTail M0) (M0.away 1 2 B hdB) (M0.away 1 2 N hdN) hm hn) ?_)))))))))
 rintro v1 w1 ⟨rfl,hM1⟩
 have M1:Mem _ _ [_,_,_] _:=M0.seg 1 2 hM1
 refine bL Z Z (aB (aC (aE (aE (aA (aT Z Z (cV Z Z Z Z (aB (aC ?_)))))))))
 refine aW Z (fun h12 => ?_) (fun h12 => ?_)
 ·have hge:¬ zs.findIdx (apB f) < n:=fun h=>by rw [if_pos h] at h12;omega
  refine aE (aA (dJ Z Z (eI Z Z (aB (aC (aR (cK (cF (.slice _ _ _) Z ?_))))))))
  have e1:m+min n (zs.findIdx (apB f)+1)=m+n:=by omega
  rw [e1] at M1
  exact ⟨⟨A,n,c,er⟩,Z,by rw [aRf (by omega)];exact hr,M1⟩
 ·have hlt:zs.findIdx (apB f) < n:=Decidable.by_contra fun h=>h12 (if_neg h)
  refine aM (aC (aE (aE (aA (aT Z Z (wq (bE Z Z (by omega) (by omega)) Z (aL 15 (.int .i64 ((zs.findIdx (apB f)+1:Nat):Int)) (iE (by rw [if_pos hlt];omega)) (bL Z Z (aB (aC (aS ?_)))))))))))
  refine dK (σ:=Nat × Nat × List (Int × Int) × eQ) [0,1,4] (fun (j,k,zs2,en)=>[(5,.int .i64 (k:Int)),(6,.int .i64 (j:Int))]) (fun (j,k,zs2,en) w'=>(j≤n∧k < j∧zs2.take k=(zs.take j).filter (fun z => !apB f z)∧zs2.drop j=zs.drop j∧bA 209 2 A n c ((zs2).map cU) en)∧Mem w (cD [er,(some bn,bc [.int .i64 (m:Int)] 3),em]) [en,(some bn,bc [.int .i64 ((m+j:Nat):Int)] 3),em] w') (fun (j,k,zs2,en)=>n - j) (zs.findIdx (apB f)+1,zs.findIdx (apB f),zs,er) (bI (iv Z (if_pos hlt)) (bI Z eC)) (⟨⟨by omega,by omega,aNy (by omega),Z,hr⟩,by
   have e1:min n (zs.findIdx (apB f)+1)=zs.findIdx (apB f)+1:=by omega
   rw [e1] at M1
   exact M1⟩) ?_
  rintro ⟨j,k,zs2,en⟩ ρ2 w2 ⟨⟨hj,hkj,hpre,hsuf,hz2⟩,hM2⟩
  have hl2:zs2.length=n:=by simpa using hz2.1
  refine aE (aE (aA (aT Z Z (dJ Z Z (wq (bW underlying220 Z) Z (cV Z Z Z Z (aB (aC ?_))))))))
  refine aW Z (fun h19 => ?_) (fun h19 => ?_)
  ·obtain ⟨xz,hxz⟩:=cG (k:=j) hlen (by omega)
   have hxz2:zs2[j]? = some xz:=(bGu hsuf).trans hxz
   obtain ⟨xk,hxk⟩:=cG (k:=k) hl2 (by omega)
   refine aM (aC (aE (aS (aE (aA (dJ Z Z (aT Z Z (wq (bG (j) aBu Z Z Z ((hz2.rd hM2 (aN (i:=0) Z)).below_len (aG cU hxz2)) ((hz2.rd hM2 (aN (i:=0) Z)).someK (aG cU hxz2))) Z (wq (dQ _ kR (hz2.rd hM2 (aN (i:=0) Z)) (aG cU hxz2) Z) Z (aO yD hM2 Z Z (fun b3 w3 M3=>(bC 3 _ kR M3 Z Z Z Z Z (aP Z) Z (fun w4 M4=>(aB (aC (aE (aA (wq (aH (.func _ _ _) Z) Z (wq (aV 3 kR M4 Z Z Z) Z (eJ bFl Z Z (aEm _ xz bn bm (m+j) f pm em hme (B.memY M4 hdB) (N.memY M4 hdN) (M4.ownSeg 1 2) (M4.away 1 2 B hdB) (M4.away 1 2 N hdN) (by omega)) ?_))))))))))))))))))))
   rintro v5 w5 ⟨rfl,hM5⟩
   have M5:Mem _ _ [_,_,_,_] _:=M4.seg 1 2 hM5
   refine wq (fB _ Z Z) Z (aB (aC ?_))
   refine iN _ Z (fun h29 => ?_) (fun h29 => ?_)
   ·refine aE (aA (dJ Z Z (aT Z Z (wq (aV 3 kR M5 Z Z Z) Z (wq (bG (k) aBu Z Z Z ((hz2.rd M5 (aN (i:=0) Z)).below_len (aG cU hxk)) ((hz2.rd M5 (aN (i:=0) Z)).someK (aG cU hxk))) Z (aPi 0 _ kR M5 Z hz2 (aG cU hxk) Z Z Z Z (aP Z) (fun e6 w6 hR6 M6 => ?_)))))))
    have hQ6:=hR6.mapSet (f:=cU) (x:=xz) rfl
    refine aB (aC (aA (aT Z Z (wq (bE Z Z (by omega) (by omega)) Z (bL Z Z (aB (cS (aC (aA (aT Z Z (wq (bE Z Z (by omega) (by omega)) Z (bL Z Z (aB ?_)))))))))))))
    refine bU (j+1,k+1,zs2.set k xz,e6) (bI Z (bI Z eC)) (bX Z (bX Z (bX Z gR))) ?_ ?_
    ·exact ⟨⟨by omega,by omega,by rw [bKc (by omega),hpre,aEb hxz,if_neg (by simpa using h29)],by rw [bKa (by omega)];exact aLl hsuf,hQ6⟩,M6.keep [true,true,true,false]⟩
    ·(show n - (j+1) < n - j;omega)
   ·refine aM (cS (aC (aA (aT Z Z (wq (bE Z Z (by omega) (by omega)) Z (bL Z Z (aB ?_)))))))
    refine bU (j+1,k,zs2,en) (bI Z (bI Z eC)) (bX Z (bX Z (bX Z gR))) ?_ ?_
    ·exact ⟨⟨by omega,by omega,by rw [hpre,aEb hxz,if_pos (by simpa using h29),List.append_nil],aLl hsuf,hz2⟩,M5.keep [true,true,true,false]⟩
    ·(show n - (j+1) < n - j;omega)
  ·have hjn:j=n:=by omega
   rw [hjn,show List.take n zs=zs from List.take_of_length_le (by omega)] at hpre
   refine cM (cZ (dF (eL (aC (aE (aA (dJ rfl rfl (aT rfl rfl (wq (fF ((k:Int)) ((n:Int)) aBu rfl ⟨_,rfl⟩ rfl (by omega) (by omega) (by omega)) rfl (bKv 0 (k) aBu (fun zv hz=>by rw [bYl] at hz;injection hz with hz;subst hz;simp [Go.Bil.one,Value.cells]) hM2 rfl rfl hz2 (by omega) rfl (fun e7 w7 hR7 M7=>(aB (aC (aE (aA (dJ rfl rfl (aT rfl rfl (wq (fF (0) ((k:Int)) aBu rfl rfl ⟨_,rfl⟩ (by decide) (by omega) (by omega)) rfl (eI rfl rfl (aB (aC (aR (cF (.slice _ _ _) rfl ?_)))))))))))))))))))))))
   rw [hjn] at M7
   have hpf:=hR7
   rw [← List.map_take,hpre] at hpf
   exact ⟨⟨_,_,_,e7⟩,Z,hpf,M7⟩
set_option maxRecDepth 100000 in
theorem bYk:iG prog 250=some (fP (List.replicate 1024 eN) 0):=by kernel_rfl
theorem aWd (w:World) (F:Rd w 2 (some ⟨0,0,none⟩) 1 [[.int .u32 73856093,.int .u32 19349663]]) (N:Rd w 4 (some ⟨3,0,none⟩) 1 [dY gZ]) (A:Option Addr) (n c:Nat) (xs:List Body) (R:Rd w 10 A n (xs.map aF)) (hb:∀ b∈xs,Okb b) (hs:dD xs) (hn:n≤4096) :
  Calls prog 157 #[.slice A n c] w (gY (fun v w'=>∃ (r:Row) (m:Nat),v=.tuple #[.slice r.A r.n r.c,.int .i64 (m:Int)]∧(qH xs).length≤m∧2*m≤xs.length*(xs.length - 1)∧bA 209 2 r.A r.n r.c ((qH xs).map cU) r.e∧Mem w [] [r.e] w')):=by
 have hlen:xs.length=n:=by simpa using R.len
 have hbd:=R.bound
 refine aI #[.tmp 2,.tmp 3] 37 func157 Z results157 ntmps157 Z ?_
 have M0:=Mem.refl w
 refine aE (aA (eI Z Z (bL Z Z (aB (aC (aE (aA (dJ Z Z (eJ bSr Z Z (aSk _ _ _ _ xs (R.mem M0) hb) ?_)))))))))
 rintro v1 w1 ⟨pm,em,rfl,hme,hM1⟩
 have M1:Mem _ _ [_] _:=M0.call0 hM1
 refine wq (aJ (.map _) Z) Z (aB (aC (aE (aA (aO bYk M1 Z Z (fun b2 w2 M2 => ?_))))))
 have M3:=Mem.gridNew (L:=[_]) M2
 refine aB (aC (aE (aE (aA (dJ Z Z (wq (bW underlying29 Z) Z (aT Z Z (aB (aC (aS (dK (σ:=Nat × List Row) [2,3,4,5,12,13] (fun (k,rs)=>[(14,.int .i64 (k:Int))]) (fun (k,rs) w'=>(k≤n∧GridRows 35 rs (gOf (xs.take k)))∧Mem w [] ([em]++((some b2,bc (fP rs (k:Int)) 250)::rs.map Row.e)) w') (fun (k,rs)=>n - k) (0,List.replicate 1024 eN) (bI Z eC) (⟨⟨by omega,by rw [List.take_zero];exact bHm _⟩,M3⟩) ?_)))))))))))
 rintro ⟨k,rs⟩ ρ4 w4 ⟨⟨hk,hrs⟩,hM4⟩
 refine aE (aA (cV Z Z Z Z (aB (aC (aE ?_)))))
 refine aW Z (fun h15 => ?_) (fun h15 => ?_)
 ·obtain ⟨xb,hxb⟩:=cG (k:=k) hlen (by omega)
  refine aM (aC (aE (aS (aE (aA (wq (bG (k) dU Z Z Z ((R.mem hM4).below_len (aG aF hxb)) ((R.mem hM4).someK (aG aF hxb))) Z (wq (dQ _ bR (R.mem hM4) (aG aF hxb) Z) Z (aO gL hM4 Z Z (fun b5 w5 M5 => ?_)))))))))
  have M6:Mem _ _ ([_,_]++_) _:=Mem.front (L:=[_]) M5
  refine bC 1 _ bR M6 rfl rfl rfl rfl rfl (aP rfl) rfl (fun w7 M7=>(aB (aC (aA (wq (aD 0 dZ rfl) rfl (wq (aK 1 (.int _ _) bZ M7 rfl rfl rfl) rfl (wq (aH (.map _) rfl) rfl (wq (aD 0 dZ rfl) rfl (wq (aK 1 (.int _ _) bZ M7 rfl rfl rfl) rfl (wq (nL (enc:=yO) z0B 0 aOi bLb M7 rfl hme rfl rfl) rfl (aL 23 (.agg (dY (iO xb)).toArray) (congrArg yO (by rw [uC hs (List.mem_of_getElem? hxb)];rfl)) (eJ bSs rfl rfl (aRr _ (F.mem M7) b2 rs (k:Int) (gOf (xs.take k)) hrs ⟨by omega,by omega⟩ (fun j _=>Nat.le_trans (bMl _ _) (by simp;omega)) xb.key (iO xb) (bRa (hb xb (List.mem_of_getElem? hxb))) (Mem.ownTail (L:=[_,_]) M7) (Mem.awayTail (L:=[_,_]) M7 F)) ?_))))))))))))
  rintro v8 w8 ⟨rfl,rs2,hrs2,hM8⟩
  have M8:Mem _ _ ([_,_]++_) _:=Mem.tail (L:=[_,_]) M7 hM8
  refine aB (cS (aC (aA (wq (bE Z Z (by omega) (by omega)) Z (aT Z Z (aB ?_))))))
  refine bU (k+1,rs2) (bI Z eC) (bX Z (bX Z (bX Z (bX Z (bX Z (bX Z gR)))))) ?_ ?_
  ·exact ⟨⟨by omega,by rw [bHk hxb];exact hrs2⟩,Mem.keepL (L:=[_,_]) [true,false] M8⟩
  ·(show n - (k+1) < n - k;omega)
 ·have hkn:k=n:=by omega
  rw [List.take_of_length_le (by omega)] at hrs
  refine cM (cZ (dF (eL (aC (aE (aA (wq (aH (.map _) Z) Z (eJ bSt Z Z (aIj _ pm) ?_))))))))
  rintro v9 w9 ⟨bm,bn,rfl,hM9⟩
  have M9:Mem _ _ ([_,_,_]++_) _:=Mem.front (L:=[_]) (hM4.call0 hM9)
  refine wq (aH (.tuple (List.toArray _)) rfl) rfl (wq (bJ (.func _ _ _) rfl rfl) rfl (wq (bJ (.func _ _ _) rfl rfl) rfl (wq (aJ (.func _ _ _) rfl) rfl (wq (aJ (.func _ _ _) rfl) rfl (aB (aC (aE (aA (eJ bSv rfl rfl (aFf _ b2 rs (k:Int) (gOf xs) hrs.len (Mem.gridRd (L:=[_,_,_]) M9 hrs.len) (fun j r hr=>Mem.rowRd (L:=[_,_,_]) M9 hrs j r hr) (xs.map (·.key)) (fun j _ x hx=>by obtain ⟨b,h1,_,rfl⟩:=uM.1 hx;exact List.mem_map.2 ⟨b,h1,rfl⟩) (by simp;omega)) ?_)))))))))
  rintro v10 w10 ⟨r,ps,hasc,hps,rfl,hr,hM10⟩
  have M10:Mem _ _ ([_,_,_,_]++_) _:=Mem.front (L:=[_,_,_]) (M9.call0 hM10)
  have hpl:=bAz hs hasc hps
  have hrl:ps.length=r.n:=by simpa using hr.1
  have hnn:xs.length*(xs.length - 1)≤4096*4096:=Nat.mul_le_mul (by omega) (by omega)
  refine wq (aH (.func _ _ _) Z) Z ?_
  have M11:Mem _ _ [_,_,_,_] _:=Mem.order4 M10
  refine eJ bSu rfl rfl (zU _ r.A r.n r.c ps r.e hr bn bm 0 (bxM xs) pm em hme (rS 3 M11 rfl rfl) (N.mem M11) (M11.ownSeg 0 3) (M11.apartTake 3 3 rfl rfl) (M11.away 0 3 N (fun _ q off _ h=>by simp at h)) (by omega) (by omega)) ?_
  rintro v12 w12 ⟨r2,rfl,hr2,hM12⟩
  have M12:Mem _ _ [_,_,_,_] _:=M11.seg 0 3 hM12
  have hfl:(qH xs).length≤ps.length:=by rw [← aGp hs hasc hps];exact List.length_filter_le _ _
  rw [aGp hs hasc hps] at hr2
  refine eI Z Z (aB (aC (aE (aA (dJ Z Z (wq (aH (.func _ _ _) Z) Z (dM bTe Z Z M12 (aKj _ bn _ (rS 1 M12 Z Z)) (fun w13 M13=>(eI Z Z (bL Z Z (aB (aC (aR (gE (.slice _ _ _) (.int _ _) Z Z ?_))))))))))))))
  exact ⟨r2,0+r.n,Z,by omega,by omega,hr2,M13.keep [true,false,false,false]⟩
end Go.Proofs.YtaoaknafiegfoaaGreatDoor
