/- Part of the proof of a law of this seat (3 texts). No conditions. -/
import Derived.Test.YtaoaknafiegfoaaGreatDoorK5
import Derived.Test.YtaoaknafiegfoaaGreatDoorK15
set_option linter.unusedVariables false
set_option linter.unusedSimpArgs false
set_option linter.unnecessarySimpa false
set_option maxHeartbeats 100000000
namespace Go.Proofs.YtaoaknafiegfoaaGreatDoor
open Go.Bil
open Go.RowKit (Below)
open Go.Proofs
open Go.Proofs.Tryz
theorem aHo (w:World) (x:Int) (h0 : -2147483647≤x) (h1:x≤2147483647) :
  Calls prog 253 #[.int .i32 x] w (Rb w (.int .i32 (max x (-x)))):=by
 refine aH #[.tmp 2] 7 func253 Z results253 ntmps253 Z ?_
 have M0:=Mem.refl w
 refine aD (aA (bP Z Z (aB (aC (aD (aA (aX Z Z (aX Z Z (wq (aMf Z (mT _ (by omega) (by omega))) Z (wq (nN Z Z ) Z (bP Z Z (aB (aC (aP (cB (.int _ _) Z ?_)))))))))))))))
 exact ⟨iE (by omega),M0.below⟩
theorem aKd (w:World) (b:Body) (hb:Okb b) :
  Calls prog 229 #[(.agg (aF b).toArray)] w (Rb w (.tuple #[.int .i32 (aRd b),.int .i32 (aTy b)])):=by
 have hr:=hb.r
 have ha:=hb.a
 have hp:=hb.p
 refine aH #[.tmp 2,.tmp 3] 18 func229 Z results229 ntmps229 Z ?_
 have M0:=Mem.refl w
 refine aD (aA (bH (.agg (.mk _)) M0 Z Z Z (fun b1 w1 M1=>(bP Z Z (bP Z Z (aB (aC (aD (gJ [(0,0),(1,0),(2,1),(4,0),(5,1),(7,0),(8,0),(9,1),(11,0),(12,1),(3,2),(6,0),(10,2),(13,0),(14,0),(15,0)] mixed M1 Z (by kernel_rfl) (fun w2 M2=>(aU Z Z Z (fun _=>aE 2 lP Z) (aU Z Z Z (fun _=>aE 0 eB Z) (bS Z Z Z (aK 0 (.int _ _) aY M2 Z Z Z) (aU Z Z Z (fun _=>aE 1 oT Z) (bS Z Z Z (aK 0 (.int _ _) aY M2 Z Z Z) (aU Z Z Z (fun _=>aE 2 lP Z) ?_))))))))))))))))
 refine aU Z Z Z (fun _=>aE 1 dQ Z) (bS Z Z Z (aK 0 (.int _ _) aY M2 Z Z Z) (aU Z Z Z (fun _=>aE 1 oT Z) (bS Z Z Z (aK 0 (.int _ _) aY M2 Z Z Z) (dD [false,false,false,true] Z (by kernel_rfl) (dI aUu Z Z M2 (aHo _ _ (by omega) (by omega)) (fun w3 M3 => ?_))))))
 refine aB (aC ⟨(eH (bJ Z (aK 0 (.int _ _) aY M3 Z Z Z)) (eH (bJ Z (aK 0 (.int _ _) aY M3 Z Z Z)) (eH (bJ Z (aK 0 (.int _ _) aY M3 Z Z Z)) dE))), ?_⟩)
 refine aU Z Z Z (fun _=>jD Z Z (mT _ (by omega) (by omega))) (dD [false,true,false] Z (by kernel_rfl) (dI aUu Z Z M3 (aHo _ _ (by omega) (by omega)) (fun w4 M4 => ?_)))
 refine aB (aC ⟨(eH (bJ Z (aK 0 (.int _ _) aY M4 Z Z Z)) (eH (bJ Z (aK 0 (.int _ _) aY M4 Z Z Z)) dE)), ?_⟩)
 refine aU Z Z Z (fun _=>jD Z Z (mT _ (by omega) (by omega))) (qB Z Z Z (qB Z Z Z (bZ (aC (aP (gY (.int _ _) (.int _ _) Z Z ?_))))))
 exact ⟨Z,M4.below⟩
theorem bGc (w:World) (b:Body) (hb:Okb b) :
  Calls prog 203 #[(.agg (aF b).toArray)] w (Rb w ((.agg (cS (jB b)).toArray))):=by
 have hr:=hb.r
 have ha:=hb.a
 have hp:=hb.p
 have he:=aUs hb
 refine aH #[.cell 2 253] 31 func203 Z results203 ntmps203 Z ?_
 have M0:=Mem.refl w
 refine aD (aA (bH (.agg (.mk _)) M0 Z Z Z (fun b1 w1 M1=>(aM aGv M1 Z Z (fun b2 w2 M2=>(aB (aC (aD (aA (wq (bB 0 bU M2 Z Z Z) Z (dI bGu Z Z M2 (aKd _ b hb) (fun w3 M3=>(wq (aG (.tuple (List.toArray _)) Z) Z (wq (bE (.int _ _) Z Z) Z (wq (bE (.int _ _) Z Z) Z (bP Z Z (bP Z Z (aB (aC (aD (aA (wq (aE 6 gX Z) Z (wq (aE 0 eB Z) Z (wq (aK 0 (.int _ _) aY M3 Z Z Z) Z (aX Z Z ?_)))))))))))))))))))))))))
 refine wq (mH Z Z (mT _ (by omega) (by omega))) Z (wq (aE 6 gX Z) Z (wq (aE 1 dQ Z) Z (wq (aK 0 (.int _ _) aY M3 Z Z Z) Z (aX Z Z (wq (mH Z Z (mT _ (by omega) (by omega))) Z (wq (aE 6 gX Z) Z (wq (aE 0 eB Z) Z (wq (aK 0 (.int _ _) aY M3 Z Z Z) Z (aX Z Z (wq (jD Z Z (mT _ (by omega) (by omega))) Z (wq (aE 6 gX Z) Z (wq (aE 1 dQ Z) Z (wq (aK 0 (.int _ _) aY M3 Z Z Z) Z (aX Z Z (wq (jD Z Z (mT _ (by omega) (by omega))) Z ?_)))))))))))))))
 refine wq (cE [(0,.int _ _),(1,.int _ _),(2,.int _ _),(3,.int _ _)] _ aEe Z Z) Z (aZ 1 _ jE M3 Z Z Z Z Z (aQ Z) Z (fun w4 M4=>(aB (aC (aP (eO 1 jE M4 Z Z Z ?_))))))
 exact ⟨Z,M4.below⟩
theorem vM (w:World) (a:Bx) :
  Calls prog 231 #[(.agg (cS a).toArray)] w (Rb w (.bool (decide (iF a)))):=by
 refine aH #[.tmp 2] 15 func231 Z results231 ntmps231 Z ?_
 have M0:=Mem.refl w
 refine aD (aA (bH (.agg (.mk _)) M0 Z Z Z (fun b1 w1 M1=>(wq (aI (.bool false) Z) Z (aB (aC (aD (aA (wq (aE 0 sZ Z) Z (wq (aK 0 (.int _ _) aY M1 Z Z Z) Z (wq (aE 2 tF Z) Z (wq (aK 0 (.int _ _) aY M1 Z Z Z) Z (dB Z Z Z Z (wq (aG (.bool (decide _)) Z) Z ?_))))))))))))))
 refine dV 8 Z (fun g8 => ?_) (fun g8 => ?_)
 ·refine aW Z Z (aW Z Z (aW Z Z (aW Z Z (aW Z Z (wq (bX true (.bool true) Z Z) Z (wq (aI (.bool true) Z) Z (aB (aC (aP (cB (.bool true) Z ?_))))))))))
  exact ⟨by unfold iF;first | exact bT (by omega) | exact bD (by omega),M1.below⟩
 ·refine wq (aE 1 uO Z) Z (wq (aK 0 (.int _ _) aY M1 Z Z Z) Z (wq (aE 3 uL Z) Z (wq (aK 0 (.int _ _) aY M1 Z Z Z) Z (dB Z Z Z Z (wq (bX false (.bool (decide _)) Z Z) Z (wq (aI (.bool (decide _)) Z) Z (aB (aC (aP (cB (.bool (decide _)) Z ?_))))))))))
  exact ⟨by unfold iF;first | exact bT (by omega) | exact bD (by omega),M1.below⟩
theorem aVo (w:World) (N:Rd w 4 (some ⟨3,0,none⟩) 1 [cS fU]) (a b:Bx) :
  Calls prog 232 #[(.agg (cS a).toArray),(.agg (cS b).toArray)] w (Rb w ((.agg (cS (aEp a b)).toArray))):=by
 refine aH #[.cell 4 253] 31 func232 Z results232 ntmps232 Z ?_
 have M0:=Mem.refl w
 refine aD (aA (bH (.agg (.mk _)) M0 Z Z Z (fun b1 w1 M1=>(bH (.agg (.mk _)) M1 Z Z Z (fun b2 w2 M2=>(aM aGv M2 Z Z (fun b3 w3 M3=>(aB (aC (aD (aA (wq (aE 0 sZ Z) Z (wq (aK 0 (.int _ _) aY M3 Z Z Z) Z (wq (aE 0 sZ Z) Z (wq (aK 1 (.int _ _) aY M3 Z Z Z) Z (wq (nN Z Z ) Z (wq (aE 1 uO Z) Z (wq (aK 0 (.int _ _) aY M3 Z Z Z) Z (wq (aE 1 uO Z) Z (wq (aK 1 (.int _ _) aY M3 Z Z Z) Z (wq (nN Z Z ) Z ?_)))))))))))))))))))))
 refine wq (aE 2 tF Z) Z (wq (aK 0 (.int _ _) aY M3 Z Z Z) Z (wq (aE 2 tF Z) Z (wq (aK 1 (.int _ _) aY M3 Z Z Z) Z (wq (aAn Z Z ) Z (wq (aE 3 uL Z) Z (wq (aK 0 (.int _ _) aY M3 Z Z Z) Z (wq (aE 3 uL Z) Z (wq (aK 1 (.int _ _) aY M3 Z Z Z) Z (wq (aAn Z Z ) Z (wq (cE [(0,.int _ _),(1,.int _ _),(2,.int _ _),(3,.int _ _)] _ aEe Z Z) Z (aM aGv M3 Z Z (fun b4 w4 M4=>(aZ 3 _ jE M4 Z Z Z Z Z (aQ Z) Z (fun w5 M5 => ?_))))))))))))))
 refine aB (aC (aD (aD (aA (wq (bB 3 jE M5 Z Z Z) Z (dI aMy Z Z M5 (vM _ ⟨max a.x0 b.x0,max a.y0 b.y0,min a.x1 b.x1,min a.y1 b.y1⟩) (fun w6 M6=>(aB (aC ?_)))))))))
 refine bA Z (fun h28 => ?_) (fun h28 => ?_)
 ·refine aD (aA (wq (pA (k:=0) (o:=0) _ jE (N.mem M6) (show ([cS fU]:List (List Value))[0]? = some (cS fU) from Z) Z Z Z) Z (aZ 2 _ jE M6 Z Z Z Z Z (aQ Z) Z (fun w7 M7=>(aB (aC (aP (cL (eO 2 jE M7 Z Z Z ?_)))))))))
  exact ⟨by unfold aEp;rw [if_pos h28];rfl,M7.below⟩
 ·refine aL (aC (aD (aA (wq (bB 3 jE M6 Z Z Z) Z (aZ 2 _ jE M6 Z Z Z Z Z (aQ Z) Z (fun w8 M8=>(aB (aC (aP (eO 2 jE M8 Z Z Z ?_))))))))))
  exact ⟨by unfold aEp;rw [if_neg h28];rfl,M8.below⟩
theorem aKn (w:World) (N:Rd w 4 (some ⟨3,0,none⟩) 1 [cS fU]) (a b:Bx) :
  Calls prog 207 #[(.agg (cS a).toArray),(.agg (cS b).toArray)] w (Rb w (.bool (decide (ovl a b)))):=by
 refine aH #[.tmp 4] 10 func207 Z results207 ntmps207 Z ?_
 have M0:=Mem.refl w
 refine aD (aA (bH (.agg (.mk _)) M0 Z Z Z (fun b1 w1 M1=>(bH (.agg (.mk _)) M1 Z Z Z (fun b2 w2 M2=>(wq (aI (.bool false) Z) Z (aB (aC (aD (aA (wq (bB 0 jE M2 Z Z Z) Z (wq (bB 1 jE M2 Z Z Z) Z (dI bIh Z Z M2 (aVo _ (N.mem M2) a b) (fun w3 M3=>(dI aMy Z Z M3 (vM _ (aEp a b)) (fun w4 M4=>(wq (rX Z) Z (wq (aI (.bool (decide _)) Z) Z (aB (aC (aP (cB (.bool (decide _)) Z ?_))))))))))))))))))))))
 exact ⟨bD (aXk a b),M4.below⟩
theorem aOh (w:World) (x y:Int) :
  Calls prog 267 #[.agg [.int .i32 x,.int .i32 y].toArray] w (Rb w ((.agg (cJ (mC x,mC y)).toArray))):=by
 refine aH #[.cell 2 283] 10 func267 Z results267 ntmps267 Z ?_
 have M0:=Mem.refl w
 refine aD (aA (bH (.agg (.mk _)) M0 Z Z Z (fun b1 w1 M1=>(aM oV M1 Z Z (fun b2 w2 M2=>(aB (aC (aD (aA (wq (aE 0 eB Z) Z (wq (aK 0 (.int _ _) aY M2 Z Z Z) Z (wq (hJ Z Z (by decide)) Z (aS 5 (.int .i32 (mC x)) (iE (bEv x)) (wq (aE 1 dQ Z) Z (wq (aK 0 (.int _ _) aY M2 Z Z Z) Z (wq (hJ Z Z (by decide)) Z (aS 8 (.int .i32 (mC y)) (iE (bEv y)) (wq (cE [(0,.int _ _),(1,.int _ _)] _ aEj Z Z) Z (aZ 1 _ iC M2 Z Z Z Z Z (aQ Z) Z (fun w3 M3 => ?_))))))))))))))))))))
 refine aB (aC (aP (eO 1 iC M3 Z Z Z ?_)))
 exact ⟨Z,M3.below⟩
theorem aSb (w:World) (a:Bx) :
  Calls prog 254 #[(.agg (cS a).toArray)] w (Rb w (.tuple #[(.agg (cJ (loC a)).toArray),(.agg (cJ (hiC a)).toArray),.bool (decide (¬ iF a))])):=by
 refine aH #[.cell 2 283,.cell 3 283,.tmp 4] 21 func254 Z results254 ntmps254 Z ?_
 have M0:=Mem.refl w
 refine aD (aA (bH (.agg (.mk _)) M0 Z Z Z (fun b1 w1 M1=>(aM oV M1 Z Z (fun b2 w2 M2=>(aM oV M2 Z Z (fun b3 w3 M3=>(wq (aI (.bool false) Z) Z (aB (aC (aD (aD (aA (wq (bB 0 jE M3 Z Z Z) Z (dI aMy Z Z M3 (vM _ a) (fun w4 M4=>(aB (aC ?_))))))))))))))))))
 refine bA Z (fun h6 => ?_) (fun h6 => ?_)
 ·refine aD (gJ [(0,1),(1,1),(2,2),(3,2),(4,0)] mixed M4 Z (by kernel_rfl) (fun w5 M5=>(bS Z Z Z (bB 1 iC M5 Z Z Z) (bS Z Z Z (bB 2 iC M5 Z Z Z) (dD [false,true] Z (by kernel_rfl) (aZ 1 _ iC M5 Z Z Z Z Z (aQ Z) Z (fun w6 M6 => ?_)))))))
  refine aB (aC ⟨(eH (bJ Z (bB 2 iC M6 Z Z Z)) dE), ?_⟩)
  refine dD [true] Z (by kernel_rfl) (aZ 2 _ iC M6 Z Z Z Z Z (aQ Z) Z (fun w7 M7 => ?_))
  refine aB (aC ⟨dE, ?_⟩)
  refine aU Z Z Z (fun _=>aI (.bool false) Z) (bZ (aC (aP (cL (bEu (v3:=.bool false) 1 2 iC M7 Z Z Z Z Z Z Z ?_)))))
  exact ⟨by unfold loC hiC;rw [if_pos h6,if_pos h6,decide_eq_false (fun h=>h h6)];rfl,M7.below⟩
 ·refine aL (aC (aD (gJ [(0,0),(1,1),(2,0),(3,1),(4,0),(6,0),(7,1),(8,0),(9,1),(10,0),(5,2),(11,2),(12,2),(13,2),(14,0)] mixed M4 Z (by kernel_rfl) (fun w8 M8=>(aU Z Z Z (fun _=>aE 0 sZ Z) (bS Z Z Z (aK 0 (.int _ _) aY M8 Z Z Z) (aU Z Z Z (fun _=>aE 1 uO Z) (bS Z Z Z (aK 0 (.int _ _) aY M8 Z Z Z) (aU Z Z Z (fun _=>cE [(0,.int _ _),(1,.int _ _)] _ fD Z Z) (aU Z Z Z (fun _=>aE 2 tF Z) (bS Z Z Z (aK 0 (.int _ _) aY M8 Z Z Z) ?_)))))))))))
  refine aU Z Z Z (fun _=>aE 3 uL Z) (bS Z Z Z (aK 0 (.int _ _) aY M8 Z Z Z) (aU Z Z Z (fun _=>cE [(0,.int _ _),(1,.int _ _)] _ fD Z Z) (dD [false,false,true,true] Z (by kernel_rfl) (dI aVv Z Z M8 (aOh _ a.x0 a.y0) (fun w9 M9 => ?_)))))
  refine aB (aC ⟨(eH (bJ Z (aK 0 (.int _ _) aY M9 Z Z Z)) (eH (bJ Z (aK 0 (.int _ _) aY M9 Z Z Z)) dE)), ?_⟩)
  refine dD [true,true] Z (by kernel_rfl) (dI aVv Z Z M9 (aOh _ a.x1 a.y1) (fun w10 M10 => ?_))
  refine aB (aC ⟨dE, ?_⟩)
  refine dD [] Z (by kernel_rfl) (aZ 1 _ iC M10 Z Z Z Z Z (aQ Z) Z (fun w11 M11 => ?_))
  refine aB (aC ⟨dE, ?_⟩)
  refine dD [] Z (by kernel_rfl) (aZ 2 _ iC M11 Z Z Z Z Z (aQ Z) Z (fun w12 M12 => ?_))
  refine aB (aC ⟨dE, ?_⟩)
  refine aU Z Z Z (fun _=>aI (.bool true) Z) (bZ (aC (aP (bEu (v3:=.bool true) 1 2 iC M12 Z Z Z Z Z Z Z ?_))))
  exact ⟨by unfold loC hiC;rw [if_neg h6,if_neg h6,decide_eq_true h6],M12.below⟩
theorem aNj (w:World) (a:Bx) :
  Calls prog 230 #[(.agg (cS a).toArray)] w (fE (fun v w'=>∃ b1 b2 b3,v=.func (.func 255) #[] #[.pointer (some ⟨b1,0,none⟩),.pointer (some ⟨b2,0,none⟩),.pointer (some ⟨b3,0,none⟩)]∧Mem w [] [(some b1,bc (cJ (loC a)) 283),(some b3,bc (cJ (hiC a)) 283),(some b2,bc [.bool (decide (¬ iF a))] 4)] w')):=by
 refine aH #[.tmp 2] 13 func230 Z results230 ntmps230 Z ?_
 have M0:=Mem.refl w
 refine aD (aA (bH (.agg (.mk _)) M0 Z Z Z (fun b1 w1 M1=>(wq (aI (_) Z) Z (aB (aC (aD (aA (wq (bB 0 jE M1 Z Z Z) Z (dI bIe Z Z M1 (aSb _ a) (fun w2 M2=>(wq (aG (.tuple (List.toArray _)) Z) Z (wq (bE (.agg (.mk _)) Z Z) Z (wq (bE (.agg (.mk _)) Z Z) Z (wq (bE (.bool (decide _)) Z Z) Z (aM oV M2 Z Z (fun b3 w3 M3=>(aM oV M3 Z Z (fun b4 w4 M4=>(aM aOp M4 Z Z (fun b5 w5 M5=>(aZ 1 _ iC M5 Z Z Z Z Z (aQ Z) Z (fun w6 M6 => ?_)))))))))))))))))))))))
 refine aZ 2 _ iC M6 Z Z Z Z Z (aQ Z) Z (fun w7 M7=>(dN 3 (.bool (decide _)) oG M7 Z Z Z Z Z Z (fun w8 M8=>(aB (aC (aD (aA (wq (cH [] [.pointer _,.pointer _,.pointer _] Z Z) Z (wq (aI (.func _ _ _) Z) Z (aB (aC (aP (cB (.func _ _ _) Z ?_)))))))))))))
 exact ⟨b3,b5,b4,Z,M8.keep [false,true,true,true]⟩
theorem aIt (w:World) (lo hi:Int × Int) (ok:Bool) (b1 b2 b3:Nat) (L1:Rd w 2 (some ⟨b1,0,none⟩) 1 [cJ lo]) (L2:Rd w 1 (some ⟨b2,0,none⟩) 1 [[.bool ok]]) (L3:Rd w 2 (some ⟨b3,0,none⟩) 1 [cJ hi]) (hlo:Okc lo) (hhi:Okc hi) (lp ob:Nat) (rec:Loop) (hY:tJ prog lp ob rec 281 283 2 1048576 (fun x=>∃ a b,x=[.int .i32 a,.int .i32 b])) (r0:Row) (hr0:aR 283 2 r0.A r0.n r0.c [] r0.e) (hO:Own [(some lp,.loop rec),(some ob,bc [.slice r0.A r0.n r0.c] 281),r0.e] w) (hd1:0 < 1→∀ q off,(some ⟨b1,0,none⟩:Option Addr)=some ⟨q,off,none⟩→q∉bI [(some lp,.loop rec),(some ob,bc [.slice r0.A r0.n r0.c] 281),r0.e]) (hd2:0 < 1→∀ q off,(some ⟨b2,0,none⟩:Option Addr)=some ⟨q,off,none⟩→q∉bI [(some lp,.loop rec),(some ob,bc [.slice r0.A r0.n r0.c] 281),r0.e]) (hd3:0 < 1→∀ q off,(some ⟨b3,0,none⟩:Option Addr)=some ⟨q,off,none⟩→q∉bI [(some lp,.loop rec),(some ob,bc [.slice r0.A r0.n r0.c] 281),r0.e]) :
  Calls prog 255 #[.func (.yield lp) #[] #[],.pointer (some ⟨b1,0,none⟩),.pointer (some ⟨b2,0,none⟩),.pointer (some ⟨b3,0,none⟩)] w (fE (fun v w'=>v=.tuple #[]∧∃ r:Row,aR 283 2 r.A r.n r.c ((vK ok lo hi).map cJ) r.e∧Mem w (bI [(some lp,.loop rec),(some ob,bc [.slice r0.A r0.n r0.c] 281),r0.e]) [(some lp,.loop rec),(some ob,bc [.slice r.A r.n r.c] 281),r.e] w')):=by
 rw [← eT b1,← eT b2,← eT b3]
 have hxd:nX lo hi=(hi.1 - lo.1+1).toNat:=rfl
 have hyd:nY lo hi=(hi.2 - lo.2+1).toNat:=rfl
 have hlx:=hlo.x
 have hly:=hlo.y
 have hhx:=hhi.x
 have hhy:=hhi.y
 have hnx:=bFg hlo hhi
 have hny:=bEs hlo hhi
 refine aH #[] 32 func255 Z results255 ntmps255 Z ?_
 have M0:=hO.mem
 refine aD (aA (wq (bO 1 aAi (L1.memY M0 hd1) (qR ((L1.memY M0 hd1).below_len (show ([cJ lo]:List (List Value))[0]? = some (cJ lo) from rfl))) rfl) rfl (wq (eP (o:=1) (.int _ _) aY (L1.memY M0 hd1) (show ([cJ lo]:List (List Value))[0]? = some (cJ lo) from rfl) rfl rfl) rfl (bP rfl rfl (aB (aC (aT (dK (σ:=Nat × Row) [0,1,2,3] (fun (j,r)=>[(5,.int .i32 (lo.2+(j:Int)))]) (fun (j,r) w'=>(j≤nY lo hi∧(ok=false→j=0)∧aR 283 2 r.A r.n r.c ((nE lo hi j).map cJ) r.e)∧Mem w (bI [(some lp,.loop rec),(some ob,bc [.slice r0.A r0.n r0.c] 281),r0.e]) [(some lp,.loop rec),(some ob,bc [.slice r.A r.n r.c] 281),r.e] w') (fun (j,r)=>nY lo hi - j) (0,r0) (bN (iv rfl (by simp)) eZ) (⟨⟨by omega,fun _=>rfl,hr0⟩,M0⟩) ?_))))))))
 rintro ⟨j,r⟩ ρ1 w1 ⟨⟨hj,hjz,hr⟩,hM1⟩
 refine aD (aD (aA (wq (eP (o:=0) (.bool _) oG (L2.memY hM1 hd2) (show ([[.bool ok]]:List (List Value))[0]? = some ([.bool ok]) from Z) Z Z) Z (wq (aG (.bool _) Z) Z ?_))))
 refine oO 10 _ Z (fun g10 => ?_) (fun g10 => ?_)
 ·refine aX Z Z (wq (bO 1 aAi (L3.memY hM1 hd3) (qR ((L3.memY hM1 hd3).below_len (show ([cJ hi]:List (List Value))[0]? = some (cJ hi) from Z))) Z) Z (wq (eP (o:=1) (.int _ _) aY (L3.memY hM1 hd3) (show ([cJ hi]:List (List Value))[0]? = some (cJ hi) from Z) Z Z) Z (dB Z Z Z Z (wq (bX true (.bool (decide _)) Z Z) Z (aB (aC ?_))))))
  refine bA Z (fun h15 => ?_) (fun h15 => ?_)
  ·refine aL (aC (aD (aT (aD (aA (wq (bO 0 aAk (L1.memY hM1 hd1) (qR ((L1.memY hM1 hd1).below_len (show ([cJ lo]:List (List Value))[0]? = some (cJ lo) from rfl))) rfl) rfl (wq (eP (o:=0) (.int _ _) aY (L1.memY hM1 hd1) (show ([cJ lo]:List (List Value))[0]? = some (cJ lo) from rfl) rfl rfl) rfl (bP rfl rfl (aB (aC (aT (dK (σ:=Nat × Row) [0,1,2,3,5] (fun (i,q0)=>[(6,.int .i32 (lo.1+(i:Int)))]) (fun (i,q0) w'=>(i≤nX lo hi∧aR 283 2 q0.A q0.n q0.c ((nE lo hi j++zD lo i j).map cJ) q0.e)∧Mem w (bI [(some lp,.loop rec),(some ob,bc [.slice r0.A r0.n r0.c] 281),r0.e]) [(some lp,.loop rec),(some ob,bc [.slice q0.A q0.n q0.c] 281),q0.e] w') (fun (i,q0)=>nX lo hi - i) (0,r) (bN (iv rfl (by simp)) eZ) (⟨⟨by omega,by simpa [zD] using hr⟩,hM1⟩) ?_))))))))))))
   rintro ⟨i,q0⟩ ρ2 w2 ⟨⟨hi2,hq0⟩,hM2⟩
   have hql:(nE lo hi j).length+i=q0.n:=by simpa [aJr] using hq0.1
   refine aD (aD (aA (aX Z Z (wq (bO 0 aAk (L3.memY hM2 hd3) (qR ((L3.memY hM2 hd3).below_len (show ([cJ hi]:List (List Value))[0]? = some (cJ hi) from Z))) Z) Z (wq (eP (o:=0) (.int _ _) aY (L3.memY hM2 hd3) (show ([cJ hi]:List (List Value))[0]? = some (cJ hi) from Z) Z Z) Z (dB Z Z Z Z (aB (aC ?_))))))))
   refine bA Z (fun h23 => ?_) (fun h23 => ?_)
   ·have hlt6:=aVp (lo:=lo) (hi:=hi) (i:=i) (j:=j) hnx (by omega) (by omega)
    refine aL (aC (aD (aT (aD (aDo (aEa (aG (.func _ _ _) Z) Z Z (aEa (aG (.int _ _) Z) Z Z (aEa (aG (.int _ _) Z) Z Z (aEa (cE [(0,.int _ _),(1,.int _ _)] _ aEj Z Z) Z Z ?_)))))))))
    obtain ⟨fy,ty,ay,by1,hy1,hy2⟩:=hY _ q0 ((nE lo hi j++zD lo i j).map cJ) (cJ (lo.1+(i:Int),lo.2+(j:Int))) ⟨_,_,rfl⟩ (by omega) hq0 (hM2.ownSeg 0 3)
    refine aEu Z Z Z Z hy1 (hy2.mono ?_)
    rintro _ w3 ⟨rfl,q3,hqn3,hq3,hM3⟩
    have M3:Mem _ _ [_,_,_] _:=hM2.seg 0 3 hM3
    refine ⟨_,Z, ?_⟩
    refine aYf Z (fun _ _ h=>h) (wq (gE false Z Z) Z (aB (aC (bW Z (aL (dF (aC (aA (aX Z Z (wq (jD Z Z (mT _ (by omega) (by omega))) Z (bP Z Z (aB ?_))))))))))))
    refine cR (i+1,q3) (bN (iv Z (by omega)) eZ) (cT Z (cT Z (cT Z (cT Z (cT Z kB))))) ?_ ?_
    ·exact ⟨⟨by omega,by rw [aUk,← List.append_assoc,List.map_append];exact hq3⟩,M3⟩
    ·(show nX lo hi - (i+1) < nX lo hi - i;omega)
   ·have hix:i=nX lo hi:=by omega
    refine cO (dA (cX (eV (dF (aC (aA (aX Z Z (wq (jD Z Z (mT _ (by omega) (by omega))) Z (bP Z Z (aB ?_))))))))))
    refine cR (j+1,q0) (bN (iv Z (by omega)) eZ) (cT Z (cT Z (cT Z (cT Z kB)))) ?_ ?_
    ·exact ⟨⟨by omega,fun h=>(by rw [g10] at h;cases h),by rw [zP,← hix];exact hq0⟩,hM2⟩
    ·(show nY lo hi - (j+1) < nY lo hi - j;omega)
  ·refine cO (dA (cX (eV (gZ ?_))))
   exact ⟨Z,r,by unfold vK;first | (rw [if_pos g10,show nY lo hi=j by omega];exact hr) | (rw [if_neg (by rw [g10];decide)];rw [hjz g10] at hr;exact hr),hM1⟩
 ·refine aW Z Z (aW Z Z (aW Z Z (aW Z Z (wq (bX false (.bool false) Z Z) Z (aB (aC (bW Z (cO (dA (cX (eV (gZ ?_))))))))))))
  exact ⟨Z,r,by unfold vK;first | (rw [if_pos g10,show nY lo hi=j by omega];exact hr) | (rw [if_neg (by rw [g10];decide)];rw [hjz g10] at hr;exact hr),hM1⟩
theorem aVa (w:World) (a:Bx) (ha:Okx a) :
  Calls prog 204 #[(.agg (cS a).toArray)] w (fE (fun v w'=>∃ r:Row,v=.slice r.A r.n r.c∧aR 283 2 r.A r.n r.c ((gP a).map cJ) r.e∧Mem w [] [r.e] w')):=by
 refine wU #[.tmp 2] 13 func204 Z results204 ntmps204 Z ?_
 have M0:=Mem.refl w
 refine oW (mM (bH (.agg (.mk _)) M0 Z Z Z (fun b1 w1 M1=>(eX Z Z (aB (pI (oW (mM (aM bBw M1 Z Z (fun b2 w2 M2=>(aB (pI (oW (oW (mM (wq (bB 0 jE M2 Z Z Z) Z (dU bIi Z Z (aNj _ a) ?_)))))))))))))))))
 rintro v3 w3 ⟨bl,bk,bh,rfl,hM3⟩
 have M3:Mem _ _ [_,_,_,_,_] _:=M2.call0 hM3
 refine aB (pI (aIh ?_))
 have M4:Mem _ _ [_,_,_,_,_] _:=((M3.keep [false,true,true,true,true]).dummy default).perm (List.Perm.cons _ (List.perm_append_comm (l₁:=[_,_,_]) (l₂:=[_])))
 refine aIb bIp M4 Z (fun fnn B lp tmps w1 hρ hn M1 => ?_)
 refine aBg (P:=prog) (ob:=b2) (Tsl:=281) (Te:=283) (sz:=2) (N:=1048576) (ok:=(fun x=>∃ a b,x=[.int .i32 a,.int .i32 b])) M1 ?_ (fun hY => ?_)
 ·intro wr r ls x hok hlt hrow hO
  obtain ⟨xa,xb,rfl⟩:=hok
  refine ⟨_,_,_,_,aIw hO Z Z Z hn (by decide) hρ ?_⟩
  have MR0:=hO.mem
  refine rK Z (fun _ _ h=>nomatch h.1) (aM oV MR0 Z Z (fun b5 w5 M5=>(aZ 3 _ iC M5 Z Z Z Z Z (aQ Z) Z (fun w6 M6=>(aB ?_)))))
  refine ⟨Z,_,M6,Z,fun w7 M7 => ?_⟩
  refine aJs (rK rfl (fun _ _ h=>nomatch h.1) (wq (aK 1 (.slice _ _ _) aMe M7 rfl rfl rfl) rfl (wq (bB 3 iC M7 rfl rfl rfl) rfl (cP [.agg (List.toArray _)] [[.int .i32 xa,.int .i32 xb]] rfl aXo M7 rfl rfl rfl rfl (cW rfl) (by decide) (fun b8 w8 M8=>(dL 2 [[.int .i32 xa,.int .i32 xb]] aXo M8 rfl rfl rfl rfl rfl hrow rfl (by simp [Go.Bil.one]) (cZ.ofMem 4 M8 rfl) (by omega) (fun A9 c9 e9 w9 M9 hR9=>(dN 1 (.slice _ _ _) aMe M9 rfl rfl rfl rfl rfl rfl (fun w10 M10=>(aB (dF ?_)))))))))))
  refine ⟨Z,_,M10,Z,fun w11 M11 => ?_⟩
  exact ⟨⟨A9,r.n+1,c9,e9⟩,Z,hR9,M11.keep [true,true,true,false,false]⟩
 ·refine (aIt _ (loC a) (hiC a) _ bl bk bh (mS 3 M1 Z Z) (mS 5 M1 Z Z) (mS 4 M1 Z Z) (aNf ha) (aLz ha) lp b2 _ hY ⟨none,0,0,(none,default)⟩ (aR.nil _ _ _) (M1.ownSeg 0 3) (M1.apartTake 3 3 Z Z) (M1.apartTake 3 5 Z Z) (M1.apartTake 3 4 Z Z)).mono ?_
  rintro _ w5 ⟨v5,rfl,rfl,r,hr,hM⟩
  have M5:Mem _ _ (_::[_,_,_,_,_,_]) _:=M1.seg 0 3 hM
  refine ⟨_,Z,_,M5,fun w6 M6 => ?_⟩
  refine bEn (pI (oW (aEc (aPe (aK 1 (.slice _ _ _) aMe M6 Z Z Z) Z Z (aPe (aI (.slice _ _ _) Z) Z Z (aQk (pI (aZo (bEt (i:=6) (.slice _ _ _) Z M6 Z (fun w9 M9 => ?_))))))))))
  exact ⟨r,Z,hr,M9.keep [false,false,true,false,false,false,false]⟩
theorem aKl (w:World) (F:Rd w 2 (some ⟨0,0,none⟩) 1 [[.int .u32 73856093,.int .u32 19349663]]) (c:Int × Int) :
  Calls prog 205 #[(.agg (cJ c).toArray)] w (Rb w (.int .i64 (dO c:Int))):=by
 refine aH #[.tmp 2] 20 func205 Z results205 ntmps205 Z ?_
 have M0:=Mem.refl w
 refine aD (aA (bH (.agg (.mk _)) M0 Z Z Z (fun b1 w1 M1=>(bP Z Z (aB (aC (aD (aA (wq (aE 0 aAk Z) Z (wq (aK 0 (.int _ _) aY M1 Z Z Z) Z (wq (dX gI underlying35 Z) Z (wq (fJ (0) aWy Z Z Z (by decide)) Z (wq (eP (k:=0) (o:=0) (.int _ _) cA (F.mem M1) (show ([[.int .u32 73856093,.int .u32 19349663]]:List (List Value))[0]? = some [.int .u32 73856093,.int .u32 19349663] from Z) Z Z) Z (wq (dP (.int _ _) Z Z Z) Z (wq (aE 1 aAi Z) Z (wq (aK 0 (.int _ _) aY M1 Z Z Z) Z ?_))))))))))))))))
 refine wq (dX gI underlying35 Z) Z (wq (fJ (1) aWy Z Z Z (by decide)) Z (wq (eP (k:=0) (o:=1) (.int _ _) cA (F.mem M1) (show ([[.int .u32 73856093,.int .u32 19349663]]:List (List Value))[0]? = some [.int .u32 73856093,.int .u32 19349663] from Z) Z Z) Z (wq (dP (.int _ _) Z Z Z) Z (wq (dP (.int _ _) Z Z Z) Z (bP Z Z (aB (aC (aD (aA (aX Z Z (wq (dP (.int _ _) Z Z Z) Z (aS 18 (.int .u32 (qZ c)) Z (wq (bV sK underlying3 Z (kO _ (by have:=kQ c;omega) (by have:=kQ c;omega))) Z ?_)))))))))))))
 refine bP Z Z (aB (aC (aP (cB (.int _ _) Z ?_))))
 exact ⟨iE (aRu c),M1.below⟩
theorem aIn (w:World) (F:Rd w 2 (some ⟨0,0,none⟩) 1 [[.int .u32 73856093,.int .u32 19349663]]) (b:Nat) (rs:List Row) (cnt:Int) (g:Nat→List Int) (hG:GridRows 35 rs g) (hcnt:0≤cnt∧cnt≤1048576) (hgl:∀ j,j < 1024→(g j).length≤1048576) (key:Int) (a:Bx) (ha:Okx a) (hO:Own ((some b,bc (dJ rs cnt) 250)::rs.map Row.e) w) (hdF:0 < 1→∀ q off,(some ⟨0,0,none⟩:Option Addr)=some ⟨q,off,none⟩→q∉bI ((some b,bc (dJ rs cnt) 250)::rs.map Row.e)) :
  Calls prog 181 #[.pointer (some ⟨b,0,none⟩),.int .u32 key,(.agg (cS a).toArray)] w (fE (fun v w'=>v=.tuple #[]∧∃ rs':List Row,GridRows 35 rs' (rR g key ((gP a).map dO))∧Mem w (bI ((some b,bc (dJ rs cnt) 250)::rs.map Row.e)) ((some b,bc (dJ rs' (cnt+1)) 250)::rs'.map Row.e) w')):=by
 refine aH #[] 49 func181 Z results181 ntmps181 Z ?_
 have M0:=hO.mem
 refine aD (aA (bH (.agg (.mk _)) M0 Z Z Z (fun b1 w1 M1 => ?_)))
 have M2:Mem _ _ ([_,_]++_) _:=Mem.front (L:=[_]) M1
 refine aB (aC (aD (aD (aA (wq (aG (.pointer _) Z) Z (wq (eK false underlying279 Z Z) Z (aB (aC (bW Z (aL (aC (aD (aA (wq (aG (.pointer _) Z) Z (wq (aO Z) Z (wq (aE 1024 aHj Z) Z (wq (aK 0 (.int .i64 cnt) fZ M2 Z Z (aAr hG.len)) Z (wq (bM Z Z (by omega) (by omega)) Z (wq (aO Z) Z (wq (aE 1024 aHj Z) Z (dN 0 (.int _ _) fZ M2 Z Z Z Z Z (by rw [aAr hG.len];rfl) (fun w3 M3 => ?_))))))))))))))))))))))
 have M3b:Mem _ _ ([(some b,bc (dJ rs (cnt+1)) 250),_]++rs.map Row.e) _:=Mem.cells0 M3 (aCx hG.len)
 refine aB (aC (aD (aA (kF M3b Z Z (fun b4 w4 M4 => ?_)))))
 have M5:Mem _ _ ([_,_,_]++_) _:=Mem.front (L:=[_,_]) M4
 refine wq (aI (.map _) Z) Z (aB (aC (aD (aA (wq (bB 1 jE M5 Z Z Z) Z (dU bJc Z Z (aVa _ a ha) ?_))))))
 rintro v6 w6 ⟨r0,rfl,hR0,hM6⟩
 have M6:Mem _ _ ([_,_,_,_]++_) _:=Mem.front (L:=[_,_,_]) (M5.call0 hM6)
 have hcl:(gP a).length=r0.n:=by simpa using hR0.1
 have hcb:=aNp ha
 refine wq (cG underlying281 Z) Z (aX Z Z (aB (aC (aT (dK (σ:=Nat × List Row × cY) [0,1,6,21,22] (fun (i,rs1,em)=>[(23,.int .i64 (i:Int))]) (fun (i,rs1,em) w'=>(i≤r0.n∧GridRows 35 rs1 (rR g key (((gP a).map dO).take i))∧iT .i64 Value.bool (qH (((gP a).map dO).take i)) (some b4) em)∧Mem w (bI ((some b,bc (dJ rs cnt) 250)::rs.map Row.e)) ([(some b,bc (dJ rs1 (cnt+1)) 250),(some b1,bc (cS a) 253),em,r0.e]++rs1.map Row.e) w') (fun (i,rs1,em)=>r0.n - i) (0,rs,(some b4,.map #[] 0)) (bN Z eZ) (⟨⟨by omega,by rw [List.take_zero,aYs];exact hG,(iT.empty _ _ b4).congr (fun q=>by rw [List.take_zero];exact aRl q)⟩,M6⟩) ?_)))))
 rintro ⟨i,rs1,em⟩ ρ7 w7 ⟨⟨hi,hrs,hme⟩,hM7⟩
 refine aD (aA (dB Z Z Z Z (aB (aC (aD ?_)))))
 refine bA Z (fun h24 => ?_) (fun h24 => ?_)
 ·obtain ⟨xc,hxc⟩:=cF (xs:=gP a) (k:=i) hcl (by omega)
  have hbb:((gP a).map dO)[i]? = some (dO xc):=by rw [List.getElem?_map,hxc];rfl
  refine aL (aC (aD (aT (aD (aA (wq (bR (i) aXo Z Z Z ((hR0.rd hM7 (aV (i:=3) Z)).below_len (aJ cJ hxc)) ((hR0.rd hM7 (aV (i:=3) Z)).someK (aJ cJ hxc))) Z (wq (dT _ iC (hR0.rd hM7 (aV (i:=3) Z)) (aJ cJ hxc) Z) Z (aM oV hM7 Z Z (fun b8 w8 M8 => ?_)))))))))
  have M9:Mem _ _ ([_,_,_,_,_]++_) _:=Mem.front (L:=[_,_,_,_]) M8
  refine aZ 4 _ iC M9 Z Z Z Z Z (aQ Z) Z (fun w10 M10=>(aB (aC (aD (aA (wq (bB 4 iC M10 Z Z Z) Z (dI bHk Z Z M10 (aKl _ (F.memY M10 hdF) xc) (fun w11 M11=>(bP Z Z (aB (aC (aD (aD (aA (wq (aG (.map _) Z) Z (aX Z Z (wq (jN (enc:=Value.bool) false 2 aVz zv4 M11 Z hme Z Z) Z (aB (aC ?_)))))))))))))))))))
  refine iG _ Z (fun h31 => ?_) (fun h31 => ?_)
  ·refine cO (dA (eV (aC (aA (wq (bM Z Z (by omega) (by omega)) Z (aX Z Z (aB ?_)))))))
   refine cR (i+1,rs1,em) (bN Z eZ) (cT Z (cT Z (cT Z (cT Z (cT Z kB))))) ?_ ?_
   ·exact ⟨⟨by omega,by rw [aZq hbb (vA.1 h31)];exact hrs,by rw [aSa hbb (vA.1 h31)];exact hme⟩,Mem.keepL (L:=[_,_,_,_,_]) [true,true,true,true,false] M11⟩
   ·(show r0.n - (i+1) < r0.n - i;omega)
  ·have hnb:dO xc∉((gP a).map dO).take i:=fun h=>by have h2:=vA.2 h;rw [h2] at h31;cases h31
   refine aL (aC (aD (aA (wq (aG (.map _) Z) Z (aX Z Z (iV (enc:=Value.bool) 2 aVz M11 Z Z hme Z Z Z Z (fun e12 w12 hm12 M12=>(aB (aC (gJ [(0,0),(1,0),(2,0),(3,0),(4,0),(5,0),(6,0),(7,1),(8,0),(11,0),(12,0),(9,2),(10,2),(13,0),(14,2)] mixed M12 Z (by kernel_rfl) (fun w13 M13=>(aU Z Z Z (fun _=>aG (.pointer _) Z) (gR Z Z Z (aU Z Z Z (fun _=>aG (.pointer _) Z) (gR Z Z Z (aU Z Z Z (fun _=>aO Z) (aU Z Z Z (fun _=>aE 0 aAb Z) ?_)))))))))))))))))
   refine aU Z Z Z (fun _=>fJ (dO xc) aLu Z Z Z (jS xc)) ?_
   obtain ⟨rb,hrb⟩:=hrs.get (jS xc)
   have hrowb:=hrs.row _ _ hrb
   have hgb:rR g key (((gP a).map dO).take i) (dO xc)=g (dO xc):=by unfold rR;rw [if_neg hnb]
   have hrn:(rR g key (((gP a).map dO).take i) (dO xc)).length=rb.n:=by simpa using hrowb.1
   have hgl:=hgl (dO xc) (jS xc)
   rw [hgb] at hrn
   have M14:Mem _ _ ([_,_,_,_,_,_]++(rs1.eraseIdx (dO xc)).map Row.e) _:=Mem.pull (L:=[_,_,_,_,_]) (rs:=rs1) M13 hrb
   refine bS Z Z Z (aK 0 (.slice _ _ _) aFc M14 Z Z (sM hrb)) (gR Z Z Z (aU Z Z Z (fun _=>aO Z) (aU Z Z Z (fun _=>aE 0 aAb Z) (dD [false] Z (by kernel_rfl) (cP [.int _ _] [fG key] Z aIk M14 Z Z Z Z (cW Z) (by decide) (fun b15 w15 M15 => ?_))))))
   have M16:Mem _ _ ([_,_,_,_,_,_,_]++_) _:=Mem.front (L:=[_,_,_,_,_,_]) M15
   refine aB (aC ⟨(eH (bJ Z (aK 0 (.slice _ _ _) aFc M16 Z Z (sM hrb))) dE), ?_⟩)
   refine dD [true] Z (by kernel_rfl) (dL 5 [fG key] aIk M16 Z Z Z Z Z hrowb Z (aKx _) (cZ.ofMem 6 M16 Z) (by omega) (fun A17 c17 e17 w17 M17 hR17 => ?_))
   refine aB (aC ⟨dE, ?_⟩)
   refine aU Z Z Z (fun _=>fJ (dO xc) aLu Z Z Z (jS xc)) (dD [] Z (by kernel_rfl) (dN 0 (.slice _ _ _) aFc M17 Z Z Z Z Z (by rw [sM hrb];rfl) (fun w18 M18 => ?_)))
   have M18b:Mem _ _ ([(some b,bc (dJ (rs1.set (dO xc) (⟨A17,rb.n+1,c17,e17⟩:Row)) (cnt+1)) 250),_,_,_,_,_,_]++(rs1.eraseIdx (dO xc)).map Row.e) _:=Mem.cells0 M18 (aCj (⟨A17,rb.n+1,c17,e17⟩:Row) (by rw [hrs.len];exact jS xc))
   refine aB (aC ⟨dE, ?_⟩)
   refine bZ (dF (aC (aA (wq (bM Z Z (by omega) (by omega)) Z (aX Z Z (aB ?_))))))
   refine cR (i+1,rs1.set (dO xc) (⟨A17,rb.n+1,c17,e17⟩:Row),e12) (bN Z eZ) (cT Z (cT Z (cT Z (cT Z (cT Z kB))))) ?_ ?_
   ·exact ⟨⟨by omega,by rw [aZm hbb hnb];exact hrs.put (r:=(⟨A17,rb.n+1,c17,e17⟩:Row)) (jS xc) (by simpa using hR17),hm12.congr (fun q=>aDq hbb q)⟩,Mem.push (L:=[_,_,_,_]) (rs:=rs1) (⟨A17,rb.n+1,c17,e17⟩:Row) (Mem.keepL (L:=[_,_,_,_,_,_,_]) [true,true,true,true,false,true,false] M18b) (by rw [hrs.len];exact jS xc)⟩
   ·(show r0.n - (i+1) < r0.n - i;omega)
 ·have hin:i=r0.n:=by omega
  rw [List.take_of_length_le (by simp;omega)] at hrs
  refine cO (dA (cX (eV (gZ ?_))))
  exact ⟨Z,rs1,hrs,Mem.keepL (L:=[_,_,_,_]) [true,false,false,false] hM7⟩
end Go.Proofs.YtaoaknafiegfoaaGreatDoor
