/- Part of the proof of a law of this seat (6 texts). No conditions. -/
import Derived.Test.YtaoaknafiegfoaaGreatDoorK25
import Derived.Test.YtaoaknafiegfoaaGreatDoorK17
import Derived.Test.YtaoaknafiegfoaaGreatDoorK24
set_option linter.unusedVariables false
set_option linter.unusedSimpArgs false
set_option linter.unnecessarySimpa false
set_option maxHeartbeats 100000000
namespace Go.Proofs.YtaoaknafiegfoaaGreatDoor
open Go.Bil
open Go.RowKit (Below)
open Go.Proofs
open Go.Proofs.Tryz
theorem aRi (w:World) (a b:Int) :
  Calls prog 210 #[.int .u32 a,.int .u32 b] w (Rb w ((.agg (bK (prI a b)).toArray))):=by
 refine aH #[.cell 4 209] 12 func210 Z results210 ntmps210 Z ?_
 have M0:=Mem.refl w
 refine aD (aA (aM qY M0 Z Z (fun b1 w1 M1=>(aB (aC (aD (aA (aX Z Z (aX Z Z (wq (aAn Z Z ) Z (aX Z Z (aX Z Z (wq (nN Z Z ) Z (wq (cE [(0,.int _ _),(1,.int _ _)] _ aEh Z Z) Z (aZ 0 _ gO M1 Z Z Z Z Z (aQ Z) Z (fun w2 M2=>(aB (aC (aP (eO 0 gO M2 Z Z Z ?_))))))))))))))))))))
 exact ⟨Z,M2.below⟩
theorem bDw (w:World) (A:Option Addr) (x y:Int) (R:Rd w 1 A 2 [[.int .i64 x],[.int .i64 y]]) :
  Calls prog 236 #[.slice A 2 2] w (fE (fun v w'=>v=.int .i64 (if x=0 then y else x)∧w'=w)):=by
 refine aH #[.tmp 2] 18 func236 Z results236 ntmps236 Z ?_
 have M0:=Mem.refl w
 refine aD (aA (bP Z Z (aB (aC (aD (aA (bP Z Z (aB (aC (aD (aD (aA (dZ Z Z (wq (cG underlying353 Z) Z (aS 7 (.int .i64 2) (iE Z) (aX Z Z (aB (aC (aT (mN 3 (iO (aD (aA (dB Z Z Z Z (rS 9 Z (by first | decide | omega) (aB (aC (aD (cU Z ?_)))))))))))))))))))))))))))))
 refine aL (aC (aD (aT (aD (aA (wq (bR (0) aXy Z Z Z (R.below_len ((Z:([[.int .i64 x],[.int .i64 y]]:List (List Value))[0]? = some [.int .i64 x]))) (R.someK ((Z:([[.int .i64 x],[.int .i64 y]]:List (List Value))[0]? = some [.int .i64 x])))) Z (wq (gL (.int _ _) fZ R ((Z:([[.int .i64 x],[.int .i64 y]]:List (List Value))[0]? = some [.int .i64 x])) Z) Z (bP Z Z (aB (aC (aD (aA (aX Z Z (aX Z Z (dB Z Z Z Z (aB (aC ?_)))))))))))))))))
 refine bA Z (fun h14 => ?_) (fun h14 => ?_)
 ·refine aD (aA (aX Z Z (bP Z Z (aB (aC (aP (kA (cL (cL (kA (cL (cB (.int _ _) Z ?_))))))))))))
  exact ⟨iE (by split <;> omega),Z⟩
 ·refine aL (dF (aC (aA (wq (bM Z Z (by first | decide | omega) (by first | decide | omega)) Z (aS 16 (.int .i64 1) (iE (by first | decide | omega)) (aX Z Z (aB (aC (iO (aD (aA (dB Z Z Z Z (rS 9 Z (by first | decide | omega) (aB (aC (aD (cU Z (aL (aC (aD (aT (aD (aA (wq (bR (1) aXy Z Z Z (R.below_len ((Z:([[.int .i64 x],[.int .i64 y]]:List (List Value))[1]? = some [.int .i64 y]))) (R.someK ((Z:([[.int .i64 x],[.int .i64 y]]:List (List Value))[1]? = some [.int .i64 y])))) Z ?_))))))))))))))))))))))))
  refine wq (gL (.int _ _) fZ R ((Z:([[.int .i64 x],[.int .i64 y]]:List (List Value))[1]? = some [.int .i64 y])) Z) Z (bP Z Z (aB (aC (aD (aA (aX Z Z (aX Z Z (dB Z Z Z Z (aB (aC ?_))))))))))
  refine bA Z (fun h14 => ?_) (fun h14 => ?_)
  ·refine aD (aA (aX Z Z (bP Z Z (aB (aC (aP (kA (cL (cL (kA (cL (cB (.int _ _) Z ?_))))))))))))
   exact ⟨iE (by split <;> omega),Z⟩
  ·refine aL (dF (aC (aA (wq (bM Z Z (by first | decide | omega) (by first | decide | omega)) Z (aS 16 (.int .i64 2) (iE (by first | decide | omega)) (aX Z Z (aB (aC (iO (aD (aA (dB Z Z Z Z (rP 9 Z (by first | decide | omega) (aB (aC (aD (bW Z (cO (dA (dA (eV ?_)))))))))))))))))))))
   refine aC (aD (aA (aX Z Z (bP Z Z (aB (aC (aP (cB (.int _ _) Z ?_))))))))
   exact ⟨iE (by split <;> omega),Z⟩
theorem aFp (a b:Int × Int) (w:World) :
  Calls prog 213 #[(.agg (bK a).toArray),(.agg (bK b).toArray)] w (fE (fun v w'=>v=.int .i64 (aRg a b)∧∃ q os,w'=Go.Sort.grow (w.drewN q) os)):=by
 refine aH #[.tmp 4] 17 func213 Z results213 ntmps213 Z ?_
 have M0:=Mem.refl w
 refine aD (aA (yF (.agg (.mk _)) M0 Z Z Z (fun M1=>(yF (.agg (.mk _)) M1 Z Z Z (fun M2=>(bP Z Z (aB (aC (aD (bDs [(0,0),(1,1),(2,0),(3,1),(5,0),(6,1),(7,0),(8,1),(4,2),(9,2),(10,2),(11,2),(12,0)] mixed Z (by kernel_rfl) ?_))))))))))
 have M3:=M2.drewE
 refine aU Z Z Z (fun _=>aE 0 oL Z) (bS Z Z Z (aK 0 (.int _ _) cA M3 Z Z Z) (aU Z Z Z (fun _=>aE 0 oL Z) (bS Z Z Z (aK 1 (.int _ _) cA M3 Z Z Z) (aU Z Z Z (fun _=>aE 1 nV Z) (bS Z Z Z (aK 0 (.int _ _) cA M3 Z Z Z) (aU Z Z Z (fun _=>aE 1 nV Z) (bS Z Z Z (aK 1 (.int _ _) cA M3 Z Z Z) (dD [false,false,true,true] Z (by kernel_rfl) (dU aEz Z Z (kN _ _ _) ?_)))))))))
 rintro v4 w4 ⟨rfl,rfl⟩
 have M4:Mem _ _ [_,_] _:=M3
 refine aB (aC ⟨(eH (bJ Z (aK 1 (.int _ _) cA M4 Z Z Z)) (eH (bJ Z (aK 0 (.int _ _) cA M4 Z Z Z)) dE)), ?_⟩)
 refine dD [true,true] Z (by kernel_rfl) (dU aEz Z Z (kN _ _ _) ?_)
 rintro v5 w5 ⟨rfl,rfl⟩
 have M5:Mem _ _ [_,_] _:=M4
 refine aB (aC ⟨dE, ?_⟩)
 refine dD [] Z (by kernel_rfl) (aLj [.int _ _,.int _ _] [[.int .i64 (mJ a.1 b.1)],[.int .i64 (mJ a.2 b.2)]] Z aXy M5 Z Z Z Z (cW Z) (by decide) (fun M6 => ?_))
 refine aB (aC ⟨dE, ?_⟩)
 refine dD [] rfl (by kernel_rfl) (dU bHm rfl rfl (bDw _ _ _ _ ((kC (T:=3) [[.int .i64 (mJ a.1 b.1)],[.int .i64 (mJ a.2 b.2)]] (by simp) rfl (show 2≤281474976710656 by decide)).rd M6 (aV (i:=2) rfl))) ?_)
 rintro v7 w7 ⟨rfl,rfl⟩
 have M7:Mem _ _ [_,_,_] _:=M6
 refine aB (aC ⟨dE, ?_⟩)
 refine qB Z Z Z (bZ (aC (aP (cB (.int _ _) Z ?_))))
 exact ⟨iE Z,bMm _ _ _ _⟩
theorem aXi:aPo prog 213 bK aRg:=fun x y w=>aFp x y w
theorem aWu:KeyT prog 287 209 288 bK:=by
 refine ⟨underlying287,⟨_,underlying209⟩,fun a w => ?_,fun a b w => ?_,fun a=>by simp [bK,Instr.sameBits]⟩
 ·have h42:=bC (w:=w) underlying209
  have hc:∀ x:Int,(Instr.checkKey false 9999 35 (.int .u32 x)).run prog w=.ok () w:=fun x=>MapKept.run_checkKey (d:=.int .u32) underlying35 (by simp [MapKept.IsKey]) false 9998
  have p0:(Go.part 35 #[.int .u32 a.1,.int .u32 a.2] 0).run prog w=.ok (.int .u32 a.1) w:=jZ (l:=[.int .u32 a.1,.int .u32 a.2]) cA rfl
  have p1:(Go.part 35 #[.int .u32 a.1,.int .u32 a.2] 1).run prog w=.ok (.int .u32 a.2) w:=jZ (l:=[.int .u32 a.1,.int .u32 a.2]) cA rfl
  show (Instr.checkKey false (9999+1) 209 _).run _ w=_
  unfold Instr.checkKey
  simp only [Sem.run_bind,h42,Result.andThen_ok,bK]
  simp [p0,p1,hc,Sem.run_bind,Sem.run_pure]
 ·have h:=(bJp a.1 a.2 b.1 b.2).2 w
  have e:decide (a.1=b.1∧a.2=b.2)=decide (a=b):=decide_eq_decide.2 Prod.ext_iff.symm
  rw [e] at h
  exact h
theorem zO (w:World) (A:Option Addr) (n c:Nat) (xs:List (Int × Int)) (e:cY) (hR:aR 209 2 A n c (xs.map bK) e) (hw:Own [e] w) (hn:n≤1099511627776) :
  Calls prog 234 #[.slice A n c,.func (.func 213) #[] #[]] w (fun ex w'=>∃ v,ex=.returned v∧v=.tuple #[]∧∃ (ys:List (Int × Int)) (e':cY),ys.Perm xs∧(ys.Pairwise fun a b=>¬ ltP b a)∧aR 209 2 A n c (ys.map bK) e'∧Mem w (bI [e]) [e'] w'):=by
 have h:=rY aTj (T:=209) gO bK aCr (fun x v hv=>by simp only [bK,List.mem_cons,List.not_mem_nil,or_false] at hv;rcases hv with h | h <;> subst h <;> rfl) _ aZn 213 bHo aXi w A xs e hR hw (by omega)
 refine Calls.mono h ?_
 rintro ex w' ⟨v,h1,h2,ys,e',h3,h4,h5,h6⟩
 refine ⟨v,h1,h2,ys,e',h3, ?_,h5,h6⟩
 refine List.pairwise_iff_getElem.2 fun i j hi hj hij => ?_
 have:=h4 i j _ _ hij (List.getElem?_eq_getElem hi) (List.getElem?_eq_getElem hj)
 have h:=of_decide_eq_false this
 rwa [aKo] at h
theorem aKv (w:World) (mb:Nat) :
  Calls prog 212 #[.map (some mb)] w (fE (fun v w'=>∃ bb,v=.func (.func 235) #[] #[.pointer (some ⟨bb,0,none⟩)]∧Mem w [] [(some bb,bc [.map (some mb)] 287)] w')):=by
 refine aH #[.tmp 2] 4 func212 Z results212 ntmps212 Z ?_
 have M0:=Mem.refl w
 refine aD (aA (bH (.map _) M0 Z Z Z (fun b1 w1 M1=>(wq (aI (_) Z) Z (aB (aC (aD (aA (wq (cH [] [.pointer _] Z Z) Z (wq (aI (.func _ _ _) Z) Z (aB (aC (aP (cB (.func _ _ _) Z ?_))))))))))))))
 exact ⟨b1,Z,M1⟩
theorem aId (w:World) (bb:Nat) (mb clock:Nat) (L:List ((Int × Int) × Nat)) (hmb:w.heap[mb]? = some (iW bK L clock)) (hml:mb < w.heap.size) (hS:SetOk L clock) (hLN:L.length < 1099511627776) (B1:Rd w 1 (some ⟨bb,0,none⟩) 1 [[.map (some mb)]]) (lp ob:Nat) (rec:Loop) (hY:tJ prog lp ob rec 220 209 2 1099511627776 (fun x=>∃ a b,x=[.int .u32 a,.int .u32 b])) (r0:Row) (hr0:aR 209 2 r0.A r0.n r0.c [] r0.e) (hO:Own [(some lp,.loop rec),(some ob,bc [.slice r0.A r0.n r0.c] 220),r0.e] w) (hd1:0 < 1→∀ q off,(some ⟨bb,0,none⟩:Option Addr)=some ⟨q,off,none⟩→q∉bI [(some lp,.loop rec),(some ob,bc [.slice r0.A r0.n r0.c] 220),r0.e]) (hmX:mb∉bI [(some lp,.loop rec),(some ob,bc [.slice r0.A r0.n r0.c] 220),r0.e]) :
  Calls prog 235 #[.func (.yield lp) #[] #[],.pointer (some ⟨bb,0,none⟩)] w (fE (fun v w'=>v=.tuple #[]∧∃ (r:Row) (T:List ((Int × Int) × Nat)),T.Perm L∧aR 209 2 r.A r.n r.c ((T.map (fun z=>z.1)).map bK) r.e∧Mem w (bI [(some lp,.loop rec),(some ob,bc [.slice r0.A r0.n r0.c] 220),r0.e]) [(some lp,.loop rec),(some ob,bc [.slice r.A r.n r.c] 220),r.e] w')):=by
 rw [← eT bb]
 refine aH #[] 14 func235 Z results235 ntmps235 Z ?_
 have M0:=hO.mem
 refine aD (aA (wq (eP (o:=0) (.map _) bHd (B1.memY M0 hd1) (show ([[.map (some mb)]]:List (List Value))[0]? = some ([.map (some mb)]) from rfl) rfl rfl) rfl (aVe (α:=Int × Int) underlying287 M0 rfl rfl rfl ((M0.old mb hml hmX).trans hmb) (fun b1 w1 M1=>(aB (aC (aT (dK (σ:=List ((Int × Int) × Nat) × Row) [0,5] (fun (T,r)=>[]) (fun (T,r) w'=>((∀ p∈T,p∈L)∧(T.map (·.2)).Nodup∧aR 209 2 r.A r.n r.c ((T.map (fun z=>z.1)).map bK) r.e)∧Mem w (bI [(some lp,.loop rec),(some ob,bc [.slice r0.A r0.n r0.c] 220),r0.e]) [(some lp,.loop rec),(some ob,bc [.slice r.A r.n r.c] 220),r.e,(some b1,tO mb clock T)] w') (fun (T,r)=>L.length - T.length) ([],r0) eZ (⟨⟨(fun p hp=>nomatch hp),by simp,hr0⟩,M1⟩) ?_))))))))
 rintro ⟨T,r⟩ ρ2 w2 ⟨⟨hTs,hTn,hr⟩,hM2⟩
 have hrl:T.length=r.n:=by simpa using hr.1
 have hTl:=aIm hTn hTs
 refine aD (aA ?_)
 refine bCx (enc:=bK) 3 hM2 Z Z Z Z ((hM2.old mb hml hmX).trans hmb) hS.lt (fun hover => ?_) (fun p3 w3 hp3 hnp3 M3 => ?_)
 ·refine wq (bE (.bool false) Z Z) Z (aB (aC (aD (bW Z (cO (dA (cX (eV (gZ ?_)))))))))
  exact ⟨Z,r,T,aWg hS.nd hTn hTs hover,hr,hM2.keep [true,true,true,false]⟩
 ·refine wq (bE (.bool true) Z Z) Z (aB (aC (aD (cU Z (aL (aC (aT (aD (aA (wq (bBm (enc:=bK) 3 (p3) M3 Z Z ((M3.old mb hml hmX).trans hmb) hp3 hS.nd) Z (wq (bE (.agg (.mk _)) Z Z) Z (aM qY M3 Z Z (fun b4 w4 M4=>(aZ 4 _ gO M4 Z Z Z Z Z (aQ Z) Z (fun w5 M5=>(aB (aC (aD (aDo (aEa (aG (.func _ _ _) Z) Z Z (aEa (bB 4 gO M5 Z Z Z) Z Z ?_)))))))))))))))))))))
  obtain ⟨fy,ty,ay,by1,hy1,hy2⟩:=hY _ r ((T.map (fun z=>z.1)).map bK) (bK p3.1) ⟨_,_,rfl⟩ (by omega) hr (M5.ownSeg 0 3)
  refine aEu Z Z Z Z hy1 (hy2.mono ?_)
  rintro _ w6 ⟨rfl,q6,hqn6,hq6,hM6⟩
  have M6:Mem _ _ [_,_,_,_,_] _:=M5.seg 0 3 hM6
  refine ⟨_,Z, ?_⟩
  refine aYf Z (fun _ _ h=>h) (wq (gE false Z Z) Z (aB (aC (bW Z (aL (dF ?_))))))
  have hTs2:∀ p∈T++[p3],p∈L:=fun p hp=>(List.mem_append.1 hp).elim (hTs p) (fun h=>by rw [List.mem_singleton] at h;rw [h];exact hp3)
  have hTn2:=aSc hTn hnp3
  have hTl2:=aIm hTn2 hTs2
  rw [List.length_append,List.length_singleton] at hTl2
  refine cR (T++[p3],q6) eZ (cT Z (cT Z kB)) ?_ ?_
  ·exact ⟨⟨hTs2,hTn2,by rw [List.map_append,List.map_append];exact hq6⟩,M6.keep [true,true,true,true,false]⟩
  ·(show L.length - (T++[p3]).length < L.length - T.length;rw [List.length_append,List.length_singleton];omega)
theorem tB (w:World) (bb:Nat) (mb clock:Nat) (L:List ((Int × Int) × Nat)) (hmb:w.heap[mb]? = some (iW bK L clock)) (hml:mb < w.heap.size) (hS:SetOk L clock) (hLN:L.length < 1099511627776) (B1:Rd w 1 (some ⟨bb,0,none⟩) 1 [[.map (some mb)]]) :
  Calls prog 256 #[.slice none 0 0,.func (.func 235) #[] #[.pointer (some ⟨bb,0,none⟩)]] w (fE (fun v w'=>∃ (r:Row) (T:List ((Int × Int) × Nat)),T.Perm L∧v=.slice r.A r.n r.c∧aR 209 2 r.A r.n r.c ((T.map (fun z=>z.1)).map bK) r.e∧Mem w [] [r.e] w')):=by
 refine wU #[.tmp 4] 13 func256 Z results256 ntmps256 Z ?_
 have M0:=Mem.refl w
 refine oW (mM (bH (.slice _ _ _) M0 Z Z Z (fun b1 w1 M1=>(eX Z Z (aB (pI (oW (oW (mM (wq (aG (.func _ _ _) Z) Z (aB (pI (aIh ?_)))))))))))))
 have M2:Mem _ _ [_,_] _:=M1.dummy default
 refine aIb bIy M2 Z (fun fnn B lp tmps w1 hρ hn M1 => ?_)
 refine aBg (P:=prog) (ob:=b1) (Tsl:=220) (Te:=209) (sz:=2) (N:=1099511627776) (ok:=(fun x=>∃ a b,x=[.int .u32 a,.int .u32 b])) M1 ?_ (fun hY => ?_)
 ·intro wr r ls x hok hlt hrow hO
  obtain ⟨xa,xb,rfl⟩:=hok
  refine ⟨_,_,_,_,aIw hO Z Z Z hn (by decide) hρ ?_⟩
  have MR0:=hO.mem
  refine rK Z (fun _ _ h=>nomatch h.1) (aM qY MR0 Z Z (fun b3 w3 M3=>(aZ 3 _ gO M3 Z Z Z Z Z (aQ Z) Z (fun w4 M4=>(aB ?_)))))
  refine ⟨Z,_,M4,Z,fun w5 M5 => ?_⟩
  refine aJs (rK rfl (fun _ _ h=>nomatch h.1) (wq (aK 1 (.slice _ _ _) aNb M5 rfl rfl rfl) rfl (wq (bB 3 gO M5 rfl rfl rfl) rfl (cP [.agg (List.toArray _)] [[.int .u32 xa,.int .u32 xb]] rfl tM M5 rfl rfl rfl rfl (cW rfl) (by decide) (fun b6 w6 M6=>(dL 2 [[.int .u32 xa,.int .u32 xb]] tM M6 rfl rfl rfl rfl rfl hrow rfl (by simp [Go.Bil.one]) (cZ.ofMem 4 M6 rfl) (by omega) (fun A7 c7 e7 w7 M7 hR7=>(dN 1 (.slice _ _ _) aNb M7 rfl rfl rfl rfl rfl rfl (fun w8 M8=>(aB (dF ?_)))))))))))
  refine ⟨Z,_,M8,Z,fun w9 M9 => ?_⟩
  exact ⟨⟨A7,r.n+1,c7,e7⟩,Z,hR7,M9.keep [true,true,true,false,false]⟩
 ·refine (aId _ bb mb clock L ((M1.old mb hml List.not_mem_nil).trans hmb) (Nat.lt_of_lt_of_le hml M1.size) hS hLN (B1.mem M1) lp b1 _ hY ⟨none,0,0,(none,default)⟩ (aR.nil _ _ _) (M1.ownSeg 0 3) (M1.away 0 3 B1 (fun _ q off _ h=>by simp at h)) (M1.notNew 3 hml)).mono ?_
  rintro _ w5 ⟨v5,rfl,rfl,r,T,hT,hr,hM⟩
  have M5:Mem _ _ (_::[_,_,_]) _:=M1.seg 0 3 hM
  refine ⟨_,Z,_,M5,fun w6 M6 => ?_⟩
  refine bEn (pI (oW (aEc (aPe (aK 1 (.slice _ _ _) aNb M6 Z Z Z) Z Z (aPe (aI (.slice _ _ _) Z) Z Z (aQk (pI (aZo (bEt (i:=3) (.slice _ _ _) Z M6 Z (fun w9 M9 => ?_))))))))))
  exact ⟨r,T,hT,Z,hr,M9.keep [false,false,true,false]⟩
theorem xO (w:World) (bb:Nat) (mb clock:Nat) (L:List ((Int × Int) × Nat)) (hmb:w.heap[mb]? = some (iW bK L clock)) (hml:mb < w.heap.size) (hS:SetOk L clock) (hLN:L.length < 1099511627776) (B1:Rd w 1 (some ⟨bb,0,none⟩) 1 [[.map (some mb)]]) :
  Calls prog 233 #[.func (.func 235) #[] #[.pointer (some ⟨bb,0,none⟩)]] w (fE (fun v w'=>∃ (r:Row) (T:List ((Int × Int) × Nat)),T.Perm L∧v=.slice r.A r.n r.c∧aR 209 2 r.A r.n r.c ((T.map (fun z=>z.1)).map bK) r.e∧Mem w [] [r.e] w')):=by
 refine aH #[.tmp 2] 5 func233 Z results233 ntmps233 Z ?_
 have M0:=Mem.refl w
 refine aD (aA (eX Z Z (aB (aC (aD (aA (wq (aG (.func _ _ _) Z) Z (dU bHn Z Z (tB _ bb mb clock L ((M0.old mb hml List.not_mem_nil).trans hmb) (Nat.lt_of_lt_of_le hml M0.size) hS hLN (B1.mem M0)) ?_))))))))
 rintro v1 w1 ⟨r,T,hT,rfl,hr,hM1⟩
 have M1:Mem _ _ [_] _:=M0.call0 hM1
 refine eX Z Z (aB (aC (aP (cB (.slice _ _ _) Z ?_))))
 exact ⟨r,T,hT,Z,hr,M1⟩
theorem sL (w:World) (bb:Nat) (mb clock:Nat) (L:List ((Int × Int) × Nat)) (hmb:w.heap[mb]? = some (iW bK L clock)) (hml:mb < w.heap.size) (hS:SetOk L clock) (hLN:L.length < 1099511627776) (B1:Rd w 1 (some ⟨bb,0,none⟩) 1 [[.map (some mb)]]) :
  Calls prog 211 #[.func (.func 235) #[] #[.pointer (some ⟨bb,0,none⟩)],.func (.func 213) #[] #[]] w (fE (fun v w'=>∃ (r:Row) (ys:List (Int × Int)),Asc ys∧(∀ z,z∈ys↔z∈L.map (·.1))∧v=.slice r.A r.n r.c∧aR 209 2 r.A r.n r.c ((ys).map bK) r.e∧Mem w [] [r.e] w')):=by
 refine aH #[.tmp 4] 12 func211 Z results211 ntmps211 Z ?_
 have M0:=Mem.refl w
 refine aD (aA (eX Z Z (aB (aC (aD (aA (wq (aG (.func _ _ _) Z) Z (dU bFv Z Z (xO _ bb mb clock L ((M0.old mb hml List.not_mem_nil).trans hmb) (Nat.lt_of_lt_of_le hml M0.size) hS hLN (B1.mem M0)) ?_))))))))
 rintro v1 w1 ⟨r,T,hT,rfl,hr,hM1⟩
 have M1:Mem _ _ [_] _:=M0.call0 hM1
 have hrl:T.length=r.n:=by simpa using hr.1
 have hTL:=hT.length_eq
 refine eX Z Z (aB (aC (aD (aA (dZ Z Z (wq (aG (.func _ _ _) Z) Z (dU bGr Z Z (zO _ _ _ _ (T.map (fun z=>z.1)) _ hr (M1.ownAt (i:=0) Z) (by omega)) ?_)))))))
 rintro v2 w2 ⟨rfl,ys,e2,hpp,huu,hR2,hM2⟩
 have M2:Mem _ _ [_] _:=M1.seg 0 1 hM2
 refine aB (aC (aD (aA (dZ Z Z (eX Z Z (aB (aC (aP (cB (.slice _ _ _) Z ?_)))))))))
 have hpl:ys.Perm (L.map (·.1)):=hpp.trans (hT.map _)
 exact ⟨⟨r.A,r.n,r.c,e2⟩,ys,bFr (hpl.nodup_iff.2 hS.keys) huu,fun z=>hpl.mem_iff,Z,hR2,M2⟩
theorem xN (w:World) (b:Nat) (rs:List Row) (cnt:Int) (g:Nat→List Int) (hlen:rs.length=1024) (G:Rd w 1025 (some ⟨b,0,none⟩) 1 [dJ rs cnt]) (hrow:∀ (j:Nat) (r:Row),rs[j]? = some r→Rd w 1 r.A r.n ((g j).map fG)∧r.n≤r.c) (ks:List Int) (hks:∀ j,j < 1024→∀ x∈g j,x∈ks) (hkl:ks.length≤65536) :
  Calls prog 184 #[.pointer (some ⟨b,0,none⟩)] w (fE (fun v w'=>∃ (r:Row) (ps:List (Int × Int)),Asc ps∧(∀ z,z∈ps↔z∈oB g 1024)∧v=.slice r.A r.n r.c∧aR 209 2 r.A r.n r.c ((ps).map bK) r.e∧Mem w [] [r.e] w')):=by
 rw [← eT b]
 refine aH #[.tmp 2] 49 func184 Z results184 ntmps184 Z ?_
 have M0:=Mem.refl w
 refine aD (aA (eX Z Z (aB (aC (aD (aD (aA (wq (aG (uU _ _) Z) Z (wq (aHv underlying279 (G.mem M0) (show ([dJ rs cnt]:List (List Value))[0]? = some (dJ rs cnt) from Z) Z) Z (aB (aC (bW Z (aL (aC (aD (aA (kF M0 Z Z (fun b1 w1 M1=>(wq (aI (.map _) Z) Z (aB (aC (aD (aD (aA (wq (aG (uU _ _) Z) Z (wq (aJk (G.mem M1) (qR ((G.mem M1).below_len (show ([dJ rs cnt]:List (List Value))[0]? = some (dJ rs cnt) from Z))) Z) Z (wq (bO 0 aAb (G.mem M1) (qR ((G.mem M1).below_len (show ([dJ rs cnt]:List (List Value))[0]? = some (dJ rs cnt) from Z))) Z) Z ?_)))))))))))))))))))))))))))
 refine wq (pA (o:=0) (rs.map (fun r=>Value.slice r.A r.n r.c)) bJo (G.mem M1) (show ([dJ rs cnt]:List (List Value))[0]? = some (dJ rs cnt) from rfl) rfl (aJc hlen) (by simp [hlen])) rfl (aX rfl rfl (aB (aC (aT (dK (σ:=Nat × Nat × List ((Int × Int) × Nat)) [2,3,16] (fun (i,c0,L0)=>[(17,.int .i64 (i:Int))]) (fun (i,c0,L0) w'=>i≤1024∧(SetOk L0 c0∧∀ z,z∈L0.map (fun z=>z.1)↔z∈oB g i)∧Mem w [] [(some b1,iW bK L0 c0)] w') (fun (i,c0,L0)=>1024 - i) (0,0,[]) (bN rfl eZ) (⟨by omega,⟨SetOk.nil,fun z=>by simp [oB]⟩,M1⟩) ?_)))))
 rintro ⟨i,c0,L0⟩ ρ2 w2 ⟨hi,⟨hS0,hI0⟩,hM2⟩
 refine aD (aA (dB Z Z Z Z (aB (aC (aD ?_)))))
 refine bA Z (fun h18 => ?_) (fun h18 => ?_)
 ·obtain ⟨rj,hrj⟩:=cF (xs:=rs) (k:=i) hlen (by omega)
  obtain ⟨Rj,hcj⟩:=hrow i rj hrj
  have hlj:(g i).length=rj.n:=by simpa using Rj.len
  have hbj:=Rj.bound
  refine aL (aC (aD (aT (aD (aA (wq (wD (i) (.slice rj.A rj.n rj.c) aLu aFc rfl rfl (by omega) (by omega) rfl (by rw [lK];exact aJ _ hrj)) rfl (eX rfl rfl (aB (aC (aD (aA (dZ rfl rfl (wq (cG underlying247 rfl) rfl (aX rfl rfl (aB (aC (aT (dK (σ:=Nat × Nat × List ((Int × Int) × Nat)) [2,3,5,16,17,20,21] (fun (p,c2,L2)=>[(22,.int .i64 (p:Int))]) (fun (p,c2,L2) w'=>p≤rj.n∧(SetOk L2 c2∧∀ z,z∈L2.map (fun z=>z.1)↔z∈oB g i++xH (g i) p)∧Mem w [] [(some b1,iW bK L2 c2)] w') (fun (p,c2,L2)=>rj.n - p) (0,c0,L0) (bN rfl eZ) (⟨by omega,⟨hS0,fun z=>by rw [hI0 z];simp [xH]⟩,hM2⟩) ?_))))))))))))))))))
  rintro ⟨p,c2,L2⟩ ρ3 w3 ⟨hp,⟨hS2,hI2⟩,hM3⟩
  refine aD (aA (dB Z Z Z Z (aB (aC (aD ?_)))))
  refine bA Z (fun h23 => ?_) (fun h23 => ?_)
  ·obtain ⟨xa,hxa⟩:=cF (xs:=g i) (k:=p) hlj (by omega)
   refine aL (aC (aD (aT (aD (aA (aX rfl rfl (wq (bR (p) aIk rfl rfl rfl ((Rj.mem hM3).below_len (aJ fG hxa)) ((Rj.mem hM3).someK (aJ fG hxa))) rfl (wq (gL (.int _ _) cA (Rj.mem hM3) (aJ fG hxa) rfl) rfl (bP rfl rfl (bP rfl rfl (aB (aC (aD (aA (dZ rfl rfl (aX rfl rfl (wq (fI (0) ((p:Int)) aIk rfl rfl ⟨_,rfl⟩ (by decide) (by omega) (by omega)) rfl (wq (cG underlying247 rfl) rfl (aX rfl rfl (aB (aC (aT (dK (σ:=Nat × Nat × List ((Int × Int) × Nat)) [2,3,5,7,16,17,20,21,22,29,30] (fun (q,c4,L4)=>[(31,.int .i64 (q:Int))]) (fun (q,c4,L4) w'=>q≤p∧(SetOk L4 c4∧∀ z,z∈L4.map (fun z=>z.1)↔z∈(oB g i++xH (g i) p)++xK xa ((g i).take q))∧Mem w [] [(some b1,iW bK L4 c4)] w') (fun (q,c4,L4)=>p - q) (0,c2,L2) (bN rfl eZ) (⟨by omega,⟨hS2,fun z=>by rw [hI2 z];simp [xK]⟩,hM3⟩) ?_)))))))))))))))))))))))
   rintro ⟨q,c4,L4⟩ ρ4 w4 ⟨hq,⟨hS4,hI4⟩,hM4⟩
   refine aD (aA (dB Z Z Z Z (aB (aC (aD ?_)))))
   refine bA Z (fun h32 => ?_) (fun h32 => ?_)
   ·obtain ⟨xb,hxb⟩:=cF (xs:=g i) (k:=q) hlj (by omega)
    refine aL (aC (aD (aT (aD (aA (wq (bR (q) aIk Z Z Z (((Rj.mem hM4).sub 0 p (by omega) (by omega) hcj).below_len (aBu hxb (by omega))) (((Rj.mem hM4).sub 0 p (by omega) (by omega) hcj).someK (aBu hxb (by omega)))) Z (wq (gL (.int _ _) cA ((Rj.mem hM4).sub 0 p (by omega) (by omega) hcj) (aBu hxb (by omega)) Z) Z (bP Z Z (aB (aC (aD (aA (aX Z Z (aX Z Z (dB Z Z Z Z (aB (aC ?_)))))))))))))))))
    refine bA Z (fun h37 => ?_) (fun h37 => ?_)
    ·refine aA (wq (aG (.map _) Z) Z (aX Z Z (aX Z Z (dU bHc Z Z (aRi _ xa xb) ?_))))
     rintro v5 w5 ⟨rfl,hb5⟩
     have M5:=hM4.callB hb5
     refine wq (cE [] _ aRt Z Z) Z (aSj (enc:=bK) 0 (prI xa xb) aWu M5 Z Z hS4 Z Z Z (fun L6 c6 w6 hS6 hZ6 hN6 M6=>(aB (dF (aC (aA (wq (bM Z Z (by omega) (by omega)) Z (aX Z Z (aB ?_)))))))))
     refine cR (q+1,c6,L6) (bN Z eZ) (cT Z (cT Z (cT Z (cT Z (cT Z (cT Z (cT Z (cT Z (cT Z (cT Z (cT Z kB))))))))))) ?_ ?_
     ·exact ⟨by omega,⟨hS6,aSq hZ6 hI4 hxb h37⟩,M6⟩
     ·(show p - (q+1) < p - q;omega)
    ·refine aL (dF (aC (aA (wq (bM Z Z (by omega) (by omega)) Z (aX Z Z (aB ?_))))))
     refine cR (q+1,c4,L4) (bN Z eZ) (cT Z (cT Z (cT Z (cT Z (cT Z (cT Z (cT Z (cT Z (cT Z (cT Z (cT Z kB))))))))))) ?_ ?_
     ·exact ⟨by omega,⟨hS4,aSe hI4 hxb h37⟩,hM4⟩
     ·(show p - (q+1) < p - q;omega)
   ·have hqp:q=p:=by omega
    refine cO (dA (cX (eV (dF (aC (aA (wq (bM Z Z (by omega) (by omega)) Z (aX Z Z (aB ?_)))))))))
    refine cR (p+1,c4,L4) (bN Z eZ) (cT Z (cT Z (cT Z (cT Z (cT Z (cT Z (cT Z kB))))))) ?_ ?_
    ·exact ⟨by omega,⟨hS4,fun z=>by rw [hI4 z,aMs hxa,← hqp,List.append_assoc]⟩,hM4⟩
    ·(show rj.n - (p+1) < rj.n - p;omega)
  ·have hpn:p=rj.n:=by omega
   refine cO (dA (cX (eV (dF (aC (aA (wq (bM Z Z (by omega) (by omega)) Z (aX Z Z (aB ?_)))))))))
   refine cR (i+1,c2,L2) (bN Z eZ) (cT Z (cT Z (cT Z kB))) ?_ ?_
   ·exact ⟨by omega,⟨hS2,fun z=>by rw [hI2 z,aMv];unfold aXx;rw [hlj,← hpn]⟩,hM3⟩
   ·(show 1024 - (i+1) < 1024 - i;omega)
 ·have hi':i=1024:=by omega
  rw [hi'] at hI0
  have hLb:(L0.map (fun z=>z.1)).length≤(zW ks).length:=aAd hS0.keys (fun z hz=>aUb hks ((hI0 z).1 hz))
  rw [List.length_map,aUe] at hLb
  have hkk:ks.length*ks.length≤65536*65536:=Nat.mul_le_mul hkl hkl
  refine cO (dA (cX (eV (aC (aD (aA (wq (aG (.map _) Z) Z (dU bGb Z Z (aKv _ b1) ?_))))))))
  rintro v7 w7 ⟨bb,rfl,hM7⟩
  have M7:Mem _ _ [_,_] _:=hM2.call0 hM7
  refine dU bIt Z Z (sL _ bb b1 c0 L0 (M7.at_ (i:=0) Z) (M7.lt List.mem_cons_self) hS0 (by omega) (mS 1 M7 Z Z)) ?_
  rintro v8 w8 ⟨r,ys,hasc,hys,rfl,hr,hM8⟩
  have M8:Mem _ _ [_,_,_] _:=M7.call0 hM8
  refine eX Z Z (aB (aC (aP (cB (.slice _ _ _) Z ?_))))
  exact ⟨r,ys,hasc,fun z=>(hys z).trans (hI0 z),Z,hr,M8.keep [false,false,true]⟩
theorem aJi (w:World) (A:Option Addr) (n c:Nat) (xs:List Body) (R:Rd w 10 A n (xs.map aF)) (hb:∀ b∈xs,Okb b) :
  Calls prog 180 #[.slice A n c] w (fE (fun v w'=>∃ (pm:Nat) (em:cY),v=.map (some pm)∧iT .u32 sG (bxM xs) (some pm) em∧Mem w [] [em] w')):=by
 have hlen:xs.length=n:=by simpa using R.len
 have hbd:=R.bound
 refine aH #[.tmp 2] 20 func180 Z results180 ntmps180 Z ?_
 have M0:=Mem.refl w
 refine aD (aA (wq (aI (.map _) Z) Z (aB (aC (aD (aA (kF M0 Z Z (fun b1 w1 M1=>(wq (aI (.map _) Z) Z (aB (aC (aD (aD (aA (dZ Z Z (wq (cG underlying29 Z) Z (aX Z Z (aB (aC (aT (dK (σ:=Nat × cY) [2,3,7,8] (fun (k,em)=>[(9,.int .i64 (k:Int))]) (fun (k,em) w'=>(k≤n∧iT .u32 sG (bxM (xs.take k)) (some b1) em)∧Mem w [] [em] w') (fun (k,em)=>n - k) (0,(some b1,.map #[] 0)) (bN Z eZ) (⟨⟨by omega,(iT.empty _ _ b1).congr (fun q=>by rw [List.take_zero];exact bBc q)⟩,M1⟩) ?_)))))))))))))))))))))
 rintro ⟨k,em⟩ ρ2 w2 ⟨⟨hk,hme⟩,hM2⟩
 refine aD (aA (dB Z Z Z Z (aB (aC (aD ?_)))))
 refine bA Z (fun h10 => ?_) (fun h10 => ?_)
 ·obtain ⟨xb,hxb⟩:=cF (k:=k) hlen (by omega)
  refine aL (aC (aD (aT (aD (aA (wq (bR (k) fC Z Z Z ((R.mem hM2).below_len (aJ aF hxb)) ((R.mem hM2).someK (aJ aF hxb))) Z (wq (dT _ bU (R.mem hM2) (aJ aF hxb) Z) Z (aM iD hM2 Z Z (fun b3 w3 M3=>(aZ 1 _ bU M3 Z Z Z Z Z (aQ Z) Z (fun w4 M4=>(aB (aC (gJ [(0,0),(1,0),(2,1),(3,1),(4,2),(5,2)] mixed M4 Z (by kernel_rfl) (fun w5 M5=>(aU Z Z Z (fun _=>aG (.map _) Z) (aU Z Z Z (fun _=>aE 0 fH Z) (bS Z Z Z (aK 1 (.int _ _) cA M5 Z Z Z) ?_))))))))))))))))))
  refine bS Z Z Z (bB 1 bU M5 Z Z Z) (dD [true,false] Z (by kernel_rfl) (dI bHq Z Z M5 (bGc _ xb (hb xb (List.mem_of_getElem? hxb))) (fun w6 M6 => ?_)))
  refine aB (aC ⟨(eH (bJ Z (aK 1 (.int _ _) cA M6 Z Z Z)) dE), ?_⟩)
  refine dD [true] Z (by kernel_rfl) (iV (enc:=sG) 0 aHc M6 Z Z hme Z Z Z Z (fun e7 w7 hm7 M7 => ?_))
  refine aB (aC ⟨dE, ?_⟩)
  refine bZ (dF (aC (aA (wq (bM Z Z (by omega) (by omega)) Z (aX Z Z (aB ?_))))))
  refine cR (k+1,e7) (bN Z eZ) (cT Z (cT Z (cT Z (cT Z kB)))) ?_ ?_
  ·exact ⟨⟨by omega,hm7.congr (fun q=>aZh hxb q)⟩,M7.keep [true,false]⟩
  ·(show n - (k+1) < n - k;omega)
 ·have hkn:k=n:=by omega
  rw [List.take_of_length_le (by omega)] at hme
  refine cO (dA (cX (eV (aC (aD (aA (wq (aG (.map _) Z) Z (wq (aI (.map _) Z) Z (aB (aC (aP (cB (.map _) Z ?_))))))))))))
  exact ⟨_,_,Z,hme,hM2⟩
theorem yW (w:World) (pm:Nat) :
  Calls prog 182 #[.map (some pm)] w (fE (fun v w'=>∃ bm bn,v=.tuple #[.func (.func 206) #[] #[.pointer (some ⟨bn,0,none⟩),.pointer (some ⟨bm,0,none⟩)],.func (.func 208) #[] #[.pointer (some ⟨bn,0,none⟩)]]∧Mem w [] [(some bm,bc [.map (some pm)] 245),(some bn,bc [.int .i64 0] 3)] w')):=by
 refine aH #[.tmp 2,.tmp 3] 8 func182 Z results182 ntmps182 Z ?_
 have M0:=Mem.refl w
 refine aD (aA (bH (.map _) M0 Z Z Z (fun b1 w1 M1=>(wq (aI (_) Z) Z (wq (aI (_) Z) Z (aB (aC (aD (aA (aM bEl M1 Z Z (fun b2 w2 M2=>(dN 1 (.int _ _) fZ M2 Z Z Z Z Z Z (fun w3 M3=>(aB (aC (aD (aA (wq (cH [] [.pointer _,.pointer _] Z Z) Z (wq (aI (.func _ _ _) Z) Z (aB (aC (aD (aA (wq (aG (.func _ _ _) Z) Z (wq (cH [] [.pointer _] Z Z) Z (wq (aI (.func _ _ _) Z) Z (wq (aI (.func _ _ _) Z) Z (aB (aC (aP ?_))))))))))))))))))))))))))))))
 refine gY (.func _ _ _) (.func _ _ _) Z Z ?_
 exact ⟨b1,b2,Z,M3⟩
theorem aCg (w:World) (bn:Nat) (m:Int) (K:Rd w 1 (some ⟨bn,0,none⟩) 1 [[.int .i64 m]]) :
  Calls prog 208 #[.pointer (some ⟨bn,0,none⟩)] w (Rb w (.int .i64 m)):=by
 rw [← eT bn]
 refine aH #[.tmp 1] 3 func208 Z results208 ntmps208 Z ?_
 have M0:=Mem.refl w
 refine aD (aA (bP Z Z (aB (aC (aD (aA (wq (eP (o:=0) (.int _ _) fZ (K.mem M0) (show ([[.int .i64 m]]:List (List Value))[0]? = some [.int .i64 m] from Z) Z Z) Z (bP Z Z (aB (aC (aP (cB (.int _ _) Z ?_))))))))))))
 exact ⟨Z,M0.below⟩
theorem xB (w:World) (z:Int × Int) (bn bm m:Nat) (f:Int→Option Bx) (pm:Nat) (em:cY) (hme:iT .u32 sG f (some pm) em) (B:Rd w 1 (some ⟨bm,0,none⟩) 1 [[.map (some pm)]]) (N:Rd w 4 (some ⟨3,0,none⟩) 1 [cS fU]) (hO:Own [(some bn,bc [.int .i64 (m:Int)] 3),em] w) (hdB:0 < 1→∀ q off,(some ⟨bm,0,none⟩:Option Addr)=some ⟨q,off,none⟩→q∉bI [(some bn,bc [.int .i64 (m:Int)] 3),em]) (hdN:0 < 1→∀ q off,(some ⟨3,0,none⟩:Option Addr)=some ⟨q,off,none⟩→q∉bI [(some bn,bc [.int .i64 (m:Int)] 3),em]) (hm:m≤1125899906842624) :
  Calls prog 206 #[(.agg (bK z).toArray),.pointer (some ⟨bn,0,none⟩),.pointer (some ⟨bm,0,none⟩)] w (fE (fun v w'=>v=.bool (apB f z)∧Mem w (bI [(some bn,bc [.int .i64 (m:Int)] 3),em]) [(some bn,bc [.int .i64 ((m+1:Nat):Int)] 3),em] w')):=by
 rw [← eT bm]
 refine aH #[.tmp 4] 17 func206 Z results206 ntmps206 Z ?_
 have M0:=hO.mem
 refine aD (aA (bH (.agg (.mk _)) M0 Z Z Z (fun b1 w1 M1=>(wq (aI (.bool false) Z) Z (aB (aC (aD (aA (wq (aK 0 (.int _ _) fZ M1 Z Z Z) Z (wq (bM Z Z (by omega) (by omega)) Z (aS 6 (.int .i64 ((m+1:Nat):Int)) (iE (by omega)) (dN 0 (.int _ _) fZ M1 Z Z Z Z Z Z (fun w2 M2=>(aB (aC (aD (aA (wq (eP (o:=0) (.map _) aWd (B.memY M2 hdB) (show ([[.map (some pm)]]:List (List Value))[0]? = some ([.map (some pm)]) from Z) Z Z) Z (wq (aE 0 oL Z) Z (wq (aK 2 (.int _ _) cA M2 Z Z Z) Z ?_))))))))))))))))))))
 refine wq (jN (enc:=sG) z0B 1 aHc aVy M2 Z hme Z Z) Z (wq (eP (o:=0) (.map _) aWd (B.memY M2 hdB) (show ([[.map (some pm)]]:List (List Value))[0]? = some ([.map (some pm)]) from Z) Z Z) Z (wq (aE 1 nV Z) Z (wq (aK 2 (.int _ _) cA M2 Z Z Z) Z (wq (jN (enc:=sG) z0B 1 aHc aVy M2 Z hme Z Z) Z (dI bIs Z Z M2 (aKn _ (N.memY M2 hdN) ((f z.1).getD z0B) ((f z.2).getD z0B)) (fun w3 M3=>(wq (rX Z) Z (wq (aI (.bool (decide _)) Z) Z (aB (aC (aP (cB (.bool (decide _)) Z ?_))))))))))))
 exact ⟨Z,M3.keep [true,true,false]⟩
theorem uR (w:World) (A:Option Addr) (n c:Nat) (zs:List (Int × Int)) (R:Rd w 2 A n (zs.map bK)) (bn bm m:Nat) (f:Int→Option Bx) (pm:Nat) (em:cY) (hme:iT .u32 sG f (some pm) em) (B:Rd w 1 (some ⟨bm,0,none⟩) 1 [[.map (some pm)]]) (N:Rd w 4 (some ⟨3,0,none⟩) 1 [cS fU]) (hO:Own [(some bn,bc [.int .i64 (m:Int)] 3),em] w) (hdA:0 < n→∀ q off,A=some ⟨q,off,none⟩→q∉bI [(some bn,bc [.int .i64 (m:Int)] 3),em]) (hdB:0 < 1→∀ q off,(some ⟨bm,0,none⟩:Option Addr)=some ⟨q,off,none⟩→q∉bI [(some bn,bc [.int .i64 (m:Int)] 3),em]) (hdN:0 < 1→∀ q off,(some ⟨3,0,none⟩:Option Addr)=some ⟨q,off,none⟩→q∉bI [(some bn,bc [.int .i64 (m:Int)] 3),em]) (hm:m+n≤1125899906842624) (hn:n≤1099511627776) :
  Calls prog 209 #[.slice A n c,.func (.func 206) #[] #[.pointer (some ⟨bn,0,none⟩),.pointer (some ⟨bm,0,none⟩)]] w (fE (fun v w'=>v=.int .i64 (if zs.findIdx (apB f) < n then (zs.findIdx (apB f):Int) else -1)∧Mem w (bI [(some bn,bc [.int .i64 (m:Int)] 3),em]) [(some bn,bc [.int .i64 ((m+min n (zs.findIdx (apB f)+1):Nat):Int)] 3),em] w')):=by
 have hlen:zs.length=n:=by simpa using R.len
 refine aH #[.tmp 4] 19 func209 Z results209 ntmps209 Z ?_
 have M0:=hO.mem
 refine aD (aA (bP Z Z (aB (aC (aD (aD (aA (dZ Z Z (wq (cG underlying220 Z) Z (aX Z Z (aB (aC (aT (dK (σ:=Nat) [0,1,7] (fun k=>[(8,.int .i64 (k:Int))]) (fun k w'=>(k≤n∧∀ (j:Nat) (x:Int × Int),j < k→zs[j]? = some x→apB f x=false)∧Mem w (bI [(some bn,bc [.int .i64 (m:Int)] 3),em]) [(some bn,bc [.int .i64 ((m+k:Nat):Int)] 3),em] w') (fun k=>n - k) 0 (bN Z eZ) (⟨⟨by omega,fun j c hj=>by omega⟩,M0⟩) ?_))))))))))))))
 rintro k ρ1 w1 ⟨⟨hk,hno⟩,hM1⟩
 refine aD (aA (dB Z Z Z Z (aB (aC (aD ?_)))))
 refine bA Z (fun h9 => ?_) (fun h9 => ?_)
 ·obtain ⟨xz,hxz⟩:=cF (k:=k) hlen (by omega)
  refine aL (aC (aD (aT (aD (aA (aX Z Z (bP Z Z (aB (aC (aD (aA (wq (aG (.func _ _ _) Z) Z (dZ Z Z (aX Z Z (wq (bR (k) tM Z Z Z ((R.memY hM1 hdA).below_len (aJ bK hxz)) ((R.memY hM1 hdA).someK (aJ bK hxz))) Z (wq (dT _ gO (R.memY hM1 hdA) (aJ bK hxz) Z) Z (dU bAh Z Z (xB _ xz bn bm (m+k) f pm em hme (B.memY hM1 hdB) (N.memY hM1 hdN) (hM1.ownSeg 0 2) hdB hdN (by omega)) ?_)))))))))))))))))
  rintro v2 w2 ⟨rfl,hM2⟩
  have M2:Mem _ _ [_,_] _:=hM1.seg 0 2 hM2
  refine aB (aC ?_)
  refine iG _ Z (fun h16 => ?_) (fun h16 => ?_)
  ·refine aD (aA (aX Z Z (bP Z Z (aB (aC (aP (kA (cL (vX (kA (cL (cB (.int _ _) Z ?_))))))))))))
   have hfi:=aBk hxz h16 hno
   exact ⟨iE (by rw [hfi,if_pos (by omega)]),by rw [hfi,Nat.min_eq_right (by omega)];exact M2⟩
  ·refine aL (dF (aC (aA (wq (bM Z Z (by omega) (by omega)) Z (aX Z Z (aB ?_))))))
   refine cR (k+1) (bN Z eZ) (cT Z (cT Z (cT Z kB))) ?_ ?_
   ·exact ⟨⟨by omega,rJ (p:=fun _ x=>apB f x=false) hno hxz h16⟩,M2⟩
   ·omega
 ·refine cO (dA (cX (eV (aC (aD (aA (bP Z Z (aB (aC (aP (cB (.int _ _) Z ?_)))))))))))
  have hkn:k=n:=by omega
  have hfi:=aAs (p:=apB f) (l:=zs) (fun j y hy=>hno j y (by have:=(List.getElem?_eq_some_iff.1 hy).1;omega) hy)
  exact ⟨iE (by rw [hfi,if_neg (by omega)]),by rw [hfi,Nat.min_eq_left (by omega),← hkn];exact hM1⟩
theorem sV (w:World) (A:Option Addr) (n c:Nat) (zs:List (Int × Int)) (er:cY) (hr:aR 209 2 A n c ((zs).map bK) er) (bn bm m:Nat) (f:Int→Option Bx) (pm:Nat) (em:cY) (hme:iT .u32 sG f (some pm) em) (B:Rd w 1 (some ⟨bm,0,none⟩) 1 [[.map (some pm)]]) (N:Rd w 4 (some ⟨3,0,none⟩) 1 [cS fU]) (hO:Own [er,(some bn,bc [.int .i64 (m:Int)] 3),em] w) (hdB:0 < 1→∀ q off,(some ⟨bm,0,none⟩:Option Addr)=some ⟨q,off,none⟩→q∉bI [er,(some bn,bc [.int .i64 (m:Int)] 3),em]) (hdN:0 < 1→∀ q off,(some ⟨3,0,none⟩:Option Addr)=some ⟨q,off,none⟩→q∉bI [er,(some bn,bc [.int .i64 (m:Int)] 3),em]) (hm:m+n≤1125899906842624) (hn:n≤1099511627776) :
  Calls prog 183 #[.slice A n c,.func (.func 206) #[] #[.pointer (some ⟨bn,0,none⟩),.pointer (some ⟨bm,0,none⟩)]] w (fE (fun v w'=>∃ r:Row,v=.slice r.A r.n r.c∧aR 209 2 r.A r.n r.c ((zs.filter (fun z => !apB f z)).map bK) r.e∧Mem w (bI [er,(some bn,bc [.int .i64 (m:Int)] 3),em]) [r.e,(some bn,bc [.int .i64 ((m+n:Nat):Int)] 3),em] w')):=by
 have hlen:zs.length=n:=by simpa using hr.1
 have hcap:=hr.slice
 refine aH #[.tmp 4] 42 func183 Z results183 ntmps183 Z ?_
 have M0:=hO.mem
 refine aD (aA (eX Z Z (aB (aC (aD (aA (dZ Z Z (wq (aG (.func _ _ _) Z) Z (dU bFt Z Z (uR _ A n c zs (hr.rd M0 (aV (i:=0) Z)) bn bm m f pm em hme (B.memY M0 hdB) (N.memY M0 hdN) (M0.ownSeg 1 2) (hr.apartTail M0) (M0.away 1 2 B hdB) (M0.away 1 2 N hdN) hm hn) ?_)))))))))
 rintro v1 w1 ⟨rfl,hM1⟩
 have M1:Mem _ _ [_,_,_] _:=M0.seg 1 2 hM1
 refine bP Z Z (aB (aC (aD (aD (aA (aX Z Z (dB Z Z Z Z (aB (aC ?_)))))))))
 refine bA Z (fun h12 => ?_) (fun h12 => ?_)
 ·have hge:¬ zs.findIdx (apB f) < n:=fun h=>by rw [if_pos h] at h12;omega
  refine aD (aA (dZ Z Z (eX Z Z (aB (aC (aP (cL (cB (.slice _ _ _) Z ?_))))))))
  have e1:m+min n (zs.findIdx (apB f)+1)=m+n:=by omega
  rw [e1] at M1
  exact ⟨⟨A,n,c,er⟩,Z,by rw [aJt (by omega)];exact hr,M1⟩
 ·have hlt:zs.findIdx (apB f) < n:=Decidable.by_contra fun h=>h12 (if_neg h)
  refine aL (aC (aD (aD (aA (aX Z Z (wq (bM Z Z (by omega) (by omega)) Z (aS 15 (.int .i64 ((zs.findIdx (apB f)+1:Nat):Int)) (iE (by rw [if_pos hlt];omega)) (bP Z Z (aB (aC (aT ?_)))))))))))
  refine dK (σ:=Nat × Nat × List (Int × Int) × cY) [0,1,4] (fun (j,k,zs2,en)=>[(5,.int .i64 (k:Int)),(6,.int .i64 (j:Int))]) (fun (j,k,zs2,en) w'=>(j≤n∧k < j∧zs2.take k=(zs.take j).filter (fun z => !apB f z)∧zs2.drop j=zs.drop j∧aR 209 2 A n c ((zs2).map bK) en)∧Mem w (bI [er,(some bn,bc [.int .i64 (m:Int)] 3),em]) [en,(some bn,bc [.int .i64 ((m+j:Nat):Int)] 3),em] w') (fun (j,k,zs2,en)=>n - j) (zs.findIdx (apB f)+1,zs.findIdx (apB f),zs,er) (bN (iv Z (if_pos hlt)) (bN Z eZ)) (⟨⟨by omega,by omega,aFq (by omega),Z,hr⟩,by
   have e1:min n (zs.findIdx (apB f)+1)=zs.findIdx (apB f)+1:=by omega
   rw [e1] at M1
   exact M1⟩) ?_
  rintro ⟨j,k,zs2,en⟩ ρ2 w2 ⟨⟨hj,hkj,hpre,hsuf,hz2⟩,hM2⟩
  have hl2:zs2.length=n:=by simpa using hz2.1
  refine aD (aD (aA (aX Z Z (dZ Z Z (wq (cG underlying220 Z) Z (dB Z Z Z Z (aB (aC ?_))))))))
  refine bA Z (fun h19 => ?_) (fun h19 => ?_)
  ·obtain ⟨xz,hxz⟩:=cF (k:=j) hlen (by omega)
   have hxz2:zs2[j]? = some xz:=(aWl hsuf).trans hxz
   obtain ⟨xk,hxk⟩:=cF (k:=k) hl2 (by omega)
   refine aL (aC (aD (aT (aD (aA (dZ Z Z (aX Z Z (wq (bR (j) tM Z Z Z ((hz2.rd hM2 (aV (i:=0) Z)).below_len (aJ bK hxz2)) ((hz2.rd hM2 (aV (i:=0) Z)).someK (aJ bK hxz2))) Z (wq (dT _ gO (hz2.rd hM2 (aV (i:=0) Z)) (aJ bK hxz2) Z) Z (aM qY hM2 Z Z (fun b3 w3 M3=>(aZ 3 _ gO M3 Z Z Z Z Z (aQ Z) Z (fun w4 M4=>(aB (aC (aD (aA (wq (aG (.func _ _ _) Z) Z (wq (bB 3 gO M4 Z Z Z) Z (dU bAh Z Z (xB _ xz bn bm (m+j) f pm em hme (B.memY M4 hdB) (N.memY M4 hdN) (M4.ownSeg 1 2) (M4.away 1 2 B hdB) (M4.away 1 2 N hdN) (by omega)) ?_))))))))))))))))))))
   rintro v5 w5 ⟨rfl,hM5⟩
   have M5:Mem _ _ [_,_,_,_] _:=M4.seg 1 2 hM5
   refine wq (gE _ Z Z) Z (aB (aC ?_))
   refine iG _ Z (fun h29 => ?_) (fun h29 => ?_)
   ·refine aD (aA (dZ Z Z (aX Z Z (wq (bB 3 gO M5 Z Z Z) Z (wq (bR (k) tM Z Z Z ((hz2.rd M5 (aV (i:=0) Z)).below_len (aJ bK hxk)) ((hz2.rd M5 (aV (i:=0) Z)).someK (aJ bK hxk))) Z (aFb 0 _ gO M5 Z hz2 (aJ bK hxk) Z Z Z Z (aQ Z) (fun e6 w6 hR6 M6 => ?_)))))))
    have hQ6:=hR6.mapSet (f:=bK) (x:=xz) rfl
    refine aB (aC (aA (aX Z Z (wq (bM Z Z (by omega) (by omega)) Z (bP Z Z (aB (dF (aC (aA (aX Z Z (wq (bM Z Z (by omega) (by omega)) Z (bP Z Z (aB ?_)))))))))))))
    refine cR (j+1,k+1,zs2.set k xz,e6) (bN Z (bN Z eZ)) (cT Z (cT Z (cT Z kB))) ?_ ?_
    ·exact ⟨⟨by omega,by omega,by rw [aVq (by omega),hpre,xG hxz,if_neg (by simpa using h29)],by rw [aUz (by omega)];exact aDx hsuf,hQ6⟩,M6.keep [true,true,true,false]⟩
    ·(show n - (j+1) < n - j;omega)
   ·refine aL (dF (aC (aA (aX Z Z (wq (bM Z Z (by omega) (by omega)) Z (bP Z Z (aB ?_)))))))
    refine cR (j+1,k,zs2,en) (bN Z (bN Z eZ)) (cT Z (cT Z (cT Z kB))) ?_ ?_
    ·exact ⟨⟨by omega,by omega,by rw [hpre,xG hxz,if_pos (by simpa using h29),List.append_nil],aDx hsuf,hz2⟩,M5.keep [true,true,true,false]⟩
    ·(show n - (j+1) < n - j;omega)
  ·have hjn:j=n:=by omega
   rw [hjn,show List.take n zs=zs from List.take_of_length_le (by omega)] at hpre
   refine cO (dA (cX (eV (aC (aD (aA (dZ rfl rfl (aX rfl rfl (wq (fI ((k:Int)) ((n:Int)) tM rfl ⟨_,rfl⟩ rfl (by omega) (by omega) (by omega)) rfl (aWm 0 (k) tM (fun zv hz=>by rw [bMn] at hz;injection hz with hz;subst hz;simp [Go.Bil.one,Value.cells]) hM2 rfl rfl hz2 (by omega) rfl (fun e7 w7 hR7 M7=>(aB (aC (aD (aA (dZ rfl rfl (aX rfl rfl (wq (fI (0) ((k:Int)) tM rfl rfl ⟨_,rfl⟩ (by decide) (by omega) (by omega)) rfl (eX rfl rfl (aB (aC (aP (cB (.slice _ _ _) rfl ?_)))))))))))))))))))))))
   rw [hjn] at M7
   have hpf:=hR7
   rw [← List.map_take,hpre] at hpf
   exact ⟨⟨_,_,_,e7⟩,Z,hpf,M7⟩
set_option maxRecDepth 100000 in
theorem bLd:fK prog 250=some (dJ (List.replicate 1024 fM) 0):=by kernel_rfl
theorem aMl (w:World) (F:Rd w 2 (some ⟨0,0,none⟩) 1 [[.int .u32 73856093,.int .u32 19349663]]) (N:Rd w 4 (some ⟨3,0,none⟩) 1 [cS fU]) (A:Option Addr) (n c:Nat) (xs:List Body) (R:Rd w 10 A n (xs.map aF)) (hb:∀ b∈xs,Okb b) (hs:bY xs) (hn:n≤4096) :
  Calls prog 157 #[.slice A n c] w (fE (fun v w'=>∃ (r:Row) (m:Nat),v=.tuple #[.slice r.A r.n r.c,.int .i64 (m:Int)]∧(lM xs).length≤m∧2*m≤xs.length*(xs.length - 1)∧aR 209 2 r.A r.n r.c ((lM xs).map bK) r.e∧Mem w [] [r.e] w')):=by
 have hlen:xs.length=n:=by simpa using R.len
 have hbd:=R.bound
 refine aH #[.tmp 2,.tmp 3] 37 func157 Z results157 ntmps157 Z ?_
 have M0:=Mem.refl w
 refine aD (aA (eX Z Z (bP Z Z (aB (aC (aD (aA (dZ Z Z (dU bJv Z Z (aJi _ _ _ _ xs (R.mem M0) hb) ?_)))))))))
 rintro v1 w1 ⟨pm,em,rfl,hme,hM1⟩
 have M1:Mem _ _ [_] _:=M0.call0 hM1
 refine wq (aI (.map _) Z) Z (aB (aC (aD (aA (aM bLd M1 Z Z (fun b2 w2 M2 => ?_))))))
 have M3:=Mem.gridNew (L:=[_]) M2
 refine aB (aC (aD (aD (aA (dZ Z Z (wq (cG underlying29 Z) Z (aX Z Z (aB (aC (aT (dK (σ:=Nat × List Row) [2,3,4,5,12,13] (fun (k,rs)=>[(14,.int .i64 (k:Int))]) (fun (k,rs) w'=>(k≤n∧GridRows 35 rs (gOf (xs.take k)))∧Mem w [] ([em]++((some b2,bc (dJ rs (k:Int)) 250)::rs.map Row.e)) w') (fun (k,rs)=>n - k) (0,List.replicate 1024 fM) (bN Z eZ) (⟨⟨by omega,by rw [List.take_zero];exact aXm _⟩,M3⟩) ?_)))))))))))
 rintro ⟨k,rs⟩ ρ4 w4 ⟨⟨hk,hrs⟩,hM4⟩
 refine aD (aA (dB Z Z Z Z (aB (aC (aD ?_)))))
 refine bA Z (fun h15 => ?_) (fun h15 => ?_)
 ·obtain ⟨xb,hxb⟩:=cF (k:=k) hlen (by omega)
  refine aL (aC (aD (aT (aD (aA (wq (bR (k) fC Z Z Z ((R.mem hM4).below_len (aJ aF hxb)) ((R.mem hM4).someK (aJ aF hxb))) Z (wq (dT _ bU (R.mem hM4) (aJ aF hxb) Z) Z (aM iD hM4 Z Z (fun b5 w5 M5 => ?_)))))))))
  have M6:Mem _ _ ([_,_]++_) _:=Mem.front (L:=[_]) M5
  refine aZ 1 _ bU M6 rfl rfl rfl rfl rfl (aQ rfl) rfl (fun w7 M7=>(aB (aC (aA (wq (aE 0 fH rfl) rfl (wq (aK 1 (.int _ _) cA M7 rfl rfl rfl) rfl (wq (aG (.map _) rfl) rfl (wq (aE 0 fH rfl) rfl (wq (aK 1 (.int _ _) cA M7 rfl rfl rfl) rfl (wq (jN (enc:=sG) z0B 0 aHc aVy M7 rfl hme rfl rfl) rfl (aS 23 (.agg (cS (jB xb)).toArray) (congrArg sG (by rw [oZ hs (List.mem_of_getElem? hxb)];rfl)) (dU bGq rfl rfl (aIn _ (F.mem M7) b2 rs (k:Int) (gOf (xs.take k)) hrs ⟨by omega,by omega⟩ (fun j _=>Nat.le_trans (bCe _ _) (by simp;omega)) xb.key (jB xb) (bFu (hb xb (List.mem_of_getElem? hxb))) (Mem.ownTail (L:=[_,_]) M7) (Mem.awayTail (L:=[_,_]) M7 F)) ?_))))))))))))
  rintro v8 w8 ⟨rfl,rs2,hrs2,hM8⟩
  have M8:Mem _ _ ([_,_]++_) _:=Mem.tail (L:=[_,_]) M7 hM8
  refine aB (dF (aC (aA (wq (bM Z Z (by omega) (by omega)) Z (aX Z Z (aB ?_))))))
  refine cR (k+1,rs2) (bN Z eZ) (cT Z (cT Z (cT Z (cT Z (cT Z (cT Z kB)))))) ?_ ?_
  ·exact ⟨⟨by omega,by rw [aUo hxb];exact hrs2⟩,Mem.keepL (L:=[_,_]) [true,false] M8⟩
  ·(show n - (k+1) < n - k;omega)
 ·have hkn:k=n:=by omega
  rw [List.take_of_length_le (by omega)] at hrs
  refine cO (dA (cX (eV (aC (aD (aA (wq (aG (.map _) Z) Z (dU bGd Z Z (yW _ pm) ?_))))))))
  rintro v9 w9 ⟨bm,bn,rfl,hM9⟩
  have M9:Mem _ _ ([_,_,_]++_) _:=Mem.front (L:=[_]) (hM4.call0 hM9)
  refine wq (aG (.tuple (List.toArray _)) rfl) rfl (wq (bE (.func _ _ _) rfl rfl) rfl (wq (bE (.func _ _ _) rfl rfl) rfl (wq (aI (.func _ _ _) rfl) rfl (wq (aI (.func _ _ _) rfl) rfl (aB (aC (aD (aA (dU bHz rfl rfl (xN _ b2 rs (k:Int) (gOf xs) hrs.len (Mem.gridRd (L:=[_,_,_]) M9 hrs.len) (fun j r hr=>Mem.rowRd (L:=[_,_,_]) M9 hrs j r hr) (xs.map (·.key)) (fun j _ x hx=>by obtain ⟨b,h1,_,rfl⟩:=pJ.1 hx;exact List.mem_map.2 ⟨b,h1,rfl⟩) (by simp;omega)) ?_)))))))))
  rintro v10 w10 ⟨r,ps,hasc,hps,rfl,hr,hM10⟩
  have M10:Mem _ _ ([_,_,_,_]++_) _:=Mem.front (L:=[_,_,_]) (M9.call0 hM10)
  have hpl:=aQt hs hasc hps
  have hrl:ps.length=r.n:=by simpa using hr.1
  have hnn:xs.length*(xs.length - 1)≤4096*4096:=Nat.mul_le_mul (by omega) (by omega)
  refine wq (aG (.func _ _ _) Z) Z ?_
  have M11:Mem _ _ [_,_,_,_] _:=Mem.order4 M10
  refine dU bIb rfl rfl (sV _ r.A r.n r.c ps r.e hr bn bm 0 (bxM xs) pm em hme (mS 3 M11 rfl rfl) (N.mem M11) (M11.ownSeg 0 3) (M11.apartTake 3 3 rfl rfl) (M11.away 0 3 N (fun _ q off _ h=>by simp at h)) (by omega) (by omega)) ?_
  rintro v12 w12 ⟨r2,rfl,hr2,hM12⟩
  have M12:Mem _ _ [_,_,_,_] _:=M11.seg 0 3 hM12
  have hfl:(lM xs).length≤ps.length:=by rw [← aBi hs hasc hps];exact List.length_filter_le _ _
  rw [aBi hs hasc hps] at hr2
  refine eX Z Z (aB (aC (aD (aA (dZ Z Z (wq (aG (.func _ _ _) Z) Z (dI bFp Z Z M12 (aCg _ bn _ (mS 1 M12 Z Z)) (fun w13 M13=>(eX Z Z (bP Z Z (aB (aC (aP (gY (.slice _ _ _) (.int _ _) Z Z ?_))))))))))))))
  exact ⟨r2,0+r.n,Z,by omega,by omega,hr2,M13.keep [true,false,false,false]⟩
end Go.Proofs.YtaoaknafiegfoaaGreatDoor
