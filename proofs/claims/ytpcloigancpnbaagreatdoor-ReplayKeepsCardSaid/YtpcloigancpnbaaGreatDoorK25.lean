/- Part of the proof of a law of this seat (3 texts). No conditions. -/
import Derived.Test.YtpcloigancpnbaaGreatDoorK5
import Derived.Test.YtpcloigancpnbaaGreatDoorK15
set_option linter.unusedVariables false
set_option linter.unusedSimpArgs false
set_option linter.unnecessarySimpa false
set_option maxHeartbeats 100000000
namespace Go.Proofs.YtpcloigancpnbaaGreatDoor
open Go.Bil
open Go.RowKit (Below)
open Go.Proofs
open Go.Proofs.Tryz
theorem aOk (w:World) (x:Int) (h0 : -2147483647≤x) (h1:x≤2147483647) :
  Calls prog 227 #[.int .i32 x] w (Rb w (.int .i32 (max x (-x)))):=by
 refine aI #[.tmp 2] 7 func227 Z results227 ntmps227 Z ?_
 have M0:=Mem.refl w
 refine aE (aA (bK Z Z (aB (aC (aE (aA (aQ Z Z (aQ Z Z (wq (rK Z (jQ _ (by omega) (by omega))) Z (wq (pB Z Z ) Z (bK Z Z (aB (aC (aO (cI (.int _ _) Z ?_)))))))))))))))
 exact ⟨iE (by omega),M0.below⟩
theorem aOj (w:World) (b:Body) (hb:Okb b) :
  Calls prog 206 #[(.agg (aF b).toArray)] w (Rb w (.tuple #[.int .i32 (aSr b),.int .i32 (aSs b)])):=by
 have hr:=hb.r
 have ha:=hb.a
 have hp:=hb.p
 refine aI #[.tmp 2,.tmp 3] 18 func206 Z results206 ntmps206 Z ?_
 have M0:=Mem.refl w
 refine aE (aA (bN (.agg (.mk _)) M0 Z Z Z (fun b1 w1 M1=>(bK Z Z (bK Z Z (aB (aC (aE (fW [(0,0),(1,0),(2,1),(4,0),(5,1),(7,0),(8,0),(9,1),(11,0),(12,1),(3,2),(6,0),(10,2),(13,0),(14,0),(15,0)] mixed M1 Z (by kernel_rfl) (fun w2 M2=>(aV Z Z Z (fun _=>aD 2 jJ Z) (aV Z Z Z (fun _=>aD 0 cV Z) (bP Z Z Z (aK 0 (.int _ _) aY M2 Z Z Z) (aV Z Z Z (fun _=>aD 1 mA Z) (bP Z Z Z (aK 0 (.int _ _) aY M2 Z Z Z) (aV Z Z Z (fun _=>aD 2 jJ Z) ?_))))))))))))))))
 refine aV Z Z Z (fun _=>aD 1 cS Z) (bP Z Z Z (aK 0 (.int _ _) aY M2 Z Z Z) (aV Z Z Z (fun _=>aD 1 mA Z) (bP Z Z Z (aK 0 (.int _ _) aY M2 Z Z Z) (dI [false,false,false,true] Z (by kernel_rfl) (dN bDf Z Z M2 (aOk _ _ (by omega) (by omega)) (fun w3 M3 => ?_))))))
 refine aB (aC ⟨(dS (bI Z (aK 0 (.int _ _) aY M3 Z Z Z)) (dS (bI Z (aK 0 (.int _ _) aY M3 Z Z Z)) (dS (bI Z (aK 0 (.int _ _) aY M3 Z Z Z)) dJ))), ?_⟩)
 refine aV Z Z Z (fun _=>jN Z Z (jQ _ (by omega) (by omega))) (dI [false,true,false] Z (by kernel_rfl) (dN bDf Z Z M3 (aOk _ _ (by omega) (by omega)) (fun w4 M4 => ?_)))
 refine aB (aC ⟨(dS (bI Z (aK 0 (.int _ _) aY M4 Z Z Z)) (dS (bI Z (aK 0 (.int _ _) aY M4 Z Z Z)) dJ)), ?_⟩)
 refine aV Z Z Z (fun _=>jN Z Z (jQ _ (by omega) (by omega))) (mW Z Z Z (mW Z Z Z (bS (aC (aO (fX (.int _ _) (.int _ _) Z Z ?_))))))
 exact ⟨Z,M4.below⟩
theorem bOh (w:World) (b:Body) (hb:Okb b) :
  Calls prog 178 #[(.agg (aF b).toArray)] w (Rb w ((.agg (eC (gZ b)).toArray))):=by
 have hr:=hb.r
 have ha:=hb.a
 have hp:=hb.p
 have he:=bEf hb
 refine aI #[.cell 2 248] 31 func178 Z results178 ntmps178 Z ?_
 have M0:=Mem.refl w
 refine aE (aA (bN (.agg (.mk _)) M0 Z Z Z (fun b1 w1 M1=>(aR aNs M1 Z Z (fun b2 w2 M2=>(aB (aC (aE (aA (wq (aX 0 bQ M2 Z Z Z) Z (dN bQj Z Z M2 (aOj _ b hb) (fun w3 M3=>(wq (aH (.tuple (List.toArray _)) Z) Z (wq (bM (.int _ _) Z Z) Z (wq (bM (.int _ _) Z Z) Z (bK Z Z (bK Z Z (aB (aC (aE (aA (wq (aD 6 fL Z) Z (wq (aD 0 cV Z) Z (wq (aK 0 (.int _ _) aY M3 Z Z Z) Z (aQ Z Z ?_)))))))))))))))))))))))))
 refine wq (nR Z Z (jQ _ (by omega) (by omega))) Z (wq (aD 6 fL Z) Z (wq (aD 1 cS Z) Z (wq (aK 0 (.int _ _) aY M3 Z Z Z) Z (aQ Z Z (wq (nR Z Z (jQ _ (by omega) (by omega))) Z (wq (aD 6 fL Z) Z (wq (aD 0 cV Z) Z (wq (aK 0 (.int _ _) aY M3 Z Z Z) Z (aQ Z Z (wq (jN Z Z (jQ _ (by omega) (by omega))) Z (wq (aD 6 fL Z) Z (wq (aD 1 cS Z) Z (wq (aK 0 (.int _ _) aY M3 Z Z Z) Z (aQ Z Z (wq (jN Z Z (jQ _ (by omega) (by omega))) Z ?_)))))))))))))))
 refine wq (cB [(0,.int _ _),(1,.int _ _),(2,.int _ _),(3,.int _ _)] _ aKz Z Z) Z (bG 1 _ lP M3 Z Z Z Z Z (aS Z) Z (fun w4 M4=>(aB (aC (aO (eQ 1 lP M4 Z Z Z ?_))))))
 exact ⟨Z,M4.below⟩
theorem aAm (w:World) (a:Bx) :
  Calls prog 208 #[(.agg (eC a).toArray)] w (Rb w (.bool (decide (kD a)))):=by
 refine aI #[.tmp 2] 15 func208 Z results208 ntmps208 Z ?_
 have M0:=Mem.refl w
 refine aE (aA (bN (.agg (.mk _)) M0 Z Z Z (fun b1 w1 M1=>(wq (aJ (.bool false) Z) Z (aB (aC (aE (aA (wq (aD 0 yV Z) Z (wq (aK 0 (.int _ _) aY M1 Z Z Z) Z (wq (aD 2 yX Z) Z (wq (aK 0 (.int _ _) aY M1 Z Z Z) Z (cX Z Z Z Z (wq (aH (.bool (decide _)) Z) Z ?_))))))))))))))
 refine dQ 8 Z (fun g8 => ?_) (fun g8 => ?_)
 ·refine aN Z Z (aN Z Z (aN Z Z (aN Z Z (aN Z Z (wq (bR true (.bool true) Z Z) Z (wq (aJ (.bool true) Z) Z (aB (aC (aO (cI (.bool true) Z ?_))))))))))
  exact ⟨by unfold kD;first | exact bT (by omega) | exact bD (by omega),M1.below⟩
 ·refine wq (aD 1 yW Z) Z (wq (aK 0 (.int _ _) aY M1 Z Z Z) Z (wq (aD 3 yY Z) Z (wq (aK 0 (.int _ _) aY M1 Z Z Z) Z (cX Z Z Z Z (wq (bR false (.bool (decide _)) Z Z) Z (wq (aJ (.bool (decide _)) Z) Z (aB (aC (aO (cI (.bool (decide _)) Z ?_))))))))))
  exact ⟨by unfold kD;first | exact bT (by omega) | exact bD (by omega),M1.below⟩
theorem bCa (w:World) (N:Rd w 4 (some ⟨3,0,none⟩) 1 [eC iU]) (a b:Bx) :
  Calls prog 209 #[(.agg (eC a).toArray),(.agg (eC b).toArray)] w (Rb w ((.agg (eC (aKg a b)).toArray))):=by
 refine aI #[.cell 4 248] 31 func209 Z results209 ntmps209 Z ?_
 have M0:=Mem.refl w
 refine aE (aA (bN (.agg (.mk _)) M0 Z Z Z (fun b1 w1 M1=>(bN (.agg (.mk _)) M1 Z Z Z (fun b2 w2 M2=>(aR aNs M2 Z Z (fun b3 w3 M3=>(aB (aC (aE (aA (wq (aD 0 yV Z) Z (wq (aK 0 (.int _ _) aY M3 Z Z Z) Z (wq (aD 0 yV Z) Z (wq (aK 1 (.int _ _) aY M3 Z Z Z) Z (wq (pB Z Z ) Z (wq (aD 1 yW Z) Z (wq (aK 0 (.int _ _) aY M3 Z Z Z) Z (wq (aD 1 yW Z) Z (wq (aK 1 (.int _ _) aY M3 Z Z Z) Z (wq (pB Z Z ) Z ?_)))))))))))))))))))))
 refine wq (aD 2 yX Z) Z (wq (aK 0 (.int _ _) aY M3 Z Z Z) Z (wq (aD 2 yX Z) Z (wq (aK 1 (.int _ _) aY M3 Z Z Z) Z (wq (aGt Z Z ) Z (wq (aD 3 yY Z) Z (wq (aK 0 (.int _ _) aY M3 Z Z Z) Z (wq (aD 3 yY Z) Z (wq (aK 1 (.int _ _) aY M3 Z Z Z) Z (wq (aGt Z Z ) Z (wq (cB [(0,.int _ _),(1,.int _ _),(2,.int _ _),(3,.int _ _)] _ aKz Z Z) Z (aR aNs M3 Z Z (fun b4 w4 M4=>(bG 3 _ lP M4 Z Z Z Z Z (aS Z) Z (fun w5 M5 => ?_))))))))))))))
 refine aB (aC (aE (aE (aA (wq (aX 3 lP M5 Z Z Z) Z (dN aSc Z Z M5 (aAm _ ⟨max a.x0 b.x0,max a.y0 b.y0,min a.x1 b.x1,min a.y1 b.y1⟩) (fun w6 M6=>(aB (aC ?_)))))))))
 refine aU Z (fun h28 => ?_) (fun h28 => ?_)
 ·refine aE (aA (wq (kW (k:=0) (o:=0) _ lP (N.mem M6) (show ([eC iU]:List (List Value))[0]? = some (eC iU) from Z) Z Z Z) Z (bG 2 _ lP M6 Z Z Z Z Z (aS Z) Z (fun w7 M7=>(aB (aC (aO (cO (eQ 2 lP M7 Z Z Z ?_)))))))))
  exact ⟨by unfold aKg;rw [if_pos h28];rfl,M7.below⟩
 ·refine aM (aC (aE (aA (wq (aX 3 lP M6 Z Z Z) Z (bG 2 _ lP M6 Z Z Z Z Z (aS Z) Z (fun w8 M8=>(aB (aC (aO (eQ 2 lP M8 Z Z Z ?_))))))))))
  exact ⟨by unfold aKg;rw [if_neg h28];rfl,M8.below⟩
theorem aOl (w:World) (N:Rd w 4 (some ⟨3,0,none⟩) 1 [eC iU]) (a b:Bx) :
  Calls prog 182 #[(.agg (eC a).toArray),(.agg (eC b).toArray)] w (Rb w (.bool (decide (ovl a b)))):=by
 refine aI #[.tmp 4] 10 func182 Z results182 ntmps182 Z ?_
 have M0:=Mem.refl w
 refine aE (aA (bN (.agg (.mk _)) M0 Z Z Z (fun b1 w1 M1=>(bN (.agg (.mk _)) M1 Z Z Z (fun b2 w2 M2=>(wq (aJ (.bool false) Z) Z (aB (aC (aE (aA (wq (aX 0 lP M2 Z Z Z) Z (wq (aX 1 lP M2 Z Z Z) Z (dN bQl Z Z M2 (bCa _ (N.mem M2) a b) (fun w3 M3=>(dN aSc Z Z M3 (aAm _ (aKg a b)) (fun w4 M4=>(wq (pH Z) Z (wq (aJ (.bool (decide _)) Z) Z (aB (aC (aO (cI (.bool (decide _)) Z ?_))))))))))))))))))))))
 exact ⟨bD (bFm a b),M4.below⟩
theorem aVq (w:World) (x y:Int) :
  Calls prog 238 #[.agg [.int .i32 x,.int .i32 y].toArray] w (Rb w ((.agg (dX (qD x,qD y)).toArray))):=by
 refine aI #[.cell 2 271] 10 func238 Z results238 ntmps238 Z ?_
 have M0:=Mem.refl w
 refine aE (aA (bN (.agg (.mk _)) M0 Z Z Z (fun b1 w1 M1=>(aR tF M1 Z Z (fun b2 w2 M2=>(aB (aC (aE (aA (wq (aD 0 cV Z) Z (wq (aK 0 (.int _ _) aY M2 Z Z Z) Z (wq (kK Z Z (by decide)) Z (aL 5 (.int .i32 (qD x)) (iE (bNu x)) (wq (aD 1 cS Z) Z (wq (aK 0 (.int _ _) aY M2 Z Z Z) Z (wq (kK Z Z (by decide)) Z (aL 8 (.int .i32 (qD y)) (iE (bNu y)) (wq (cB [(0,.int _ _),(1,.int _ _)] _ aLa Z Z) Z (bG 1 _ kO M2 Z Z Z Z Z (aS Z) Z (fun w3 M3 => ?_))))))))))))))))))))
 refine aB (aC (aO (eQ 1 kO M3 Z Z Z ?_)))
 exact ⟨Z,M3.below⟩
theorem aYi (w:World) (a:Bx) :
  Calls prog 228 #[(.agg (eC a).toArray)] w (Rb w (.tuple #[(.agg (dX (loC a)).toArray),(.agg (dX (hiC a)).toArray),.bool (decide (¬ kD a))])):=by
 refine aI #[.cell 2 271,.cell 3 271,.tmp 4] 21 func228 Z results228 ntmps228 Z ?_
 have M0:=Mem.refl w
 refine aE (aA (bN (.agg (.mk _)) M0 Z Z Z (fun b1 w1 M1=>(aR tF M1 Z Z (fun b2 w2 M2=>(aR tF M2 Z Z (fun b3 w3 M3=>(wq (aJ (.bool false) Z) Z (aB (aC (aE (aE (aA (wq (aX 0 lP M3 Z Z Z) Z (dN aSc Z Z M3 (aAm _ a) (fun w4 M4=>(aB (aC ?_))))))))))))))))))
 refine aU Z (fun h6 => ?_) (fun h6 => ?_)
 ·refine aE (fW [(0,1),(1,1),(2,2),(3,2),(4,0)] mixed M4 Z (by kernel_rfl) (fun w5 M5=>(bP Z Z Z (aX 1 kO M5 Z Z Z) (bP Z Z Z (aX 2 kO M5 Z Z Z) (dI [false,true] Z (by kernel_rfl) (bG 1 _ kO M5 Z Z Z Z Z (aS Z) Z (fun w6 M6 => ?_)))))))
  refine aB (aC ⟨(dS (bI Z (aX 2 kO M6 Z Z Z)) dJ), ?_⟩)
  refine dI [true] Z (by kernel_rfl) (bG 2 _ kO M6 Z Z Z Z Z (aS Z) Z (fun w7 M7 => ?_))
  refine aB (aC ⟨dJ, ?_⟩)
  refine aV Z Z Z (fun _=>aJ (.bool false) Z) (bS (aC (aO (cO (bNl (v3:=.bool false) 1 2 kO M7 Z Z Z Z Z Z Z ?_)))))
  exact ⟨by unfold loC hiC;rw [if_pos h6,if_pos h6,decide_eq_false (fun h=>h h6)];rfl,M7.below⟩
 ·refine aM (aC (aE (fW [(0,0),(1,1),(2,0),(3,1),(4,0),(6,0),(7,1),(8,0),(9,1),(10,0),(5,2),(11,2),(12,2),(13,2),(14,0)] mixed M4 Z (by kernel_rfl) (fun w8 M8=>(aV Z Z Z (fun _=>aD 0 yV Z) (bP Z Z Z (aK 0 (.int _ _) aY M8 Z Z Z) (aV Z Z Z (fun _=>aD 1 yW Z) (bP Z Z Z (aK 0 (.int _ _) aY M8 Z Z Z) (aV Z Z Z (fun _=>cB [(0,.int _ _),(1,.int _ _)] _ eZ Z Z) (aV Z Z Z (fun _=>aD 2 yX Z) (bP Z Z Z (aK 0 (.int _ _) aY M8 Z Z Z) ?_)))))))))))
  refine aV Z Z Z (fun _=>aD 3 yY Z) (bP Z Z Z (aK 0 (.int _ _) aY M8 Z Z Z) (aV Z Z Z (fun _=>cB [(0,.int _ _),(1,.int _ _)] _ eZ Z Z) (dI [false,false,true,true] Z (by kernel_rfl) (dN bDi Z Z M8 (aVq _ a.x0 a.y0) (fun w9 M9 => ?_)))))
  refine aB (aC ⟨(dS (bI Z (aK 0 (.int _ _) aY M9 Z Z Z)) (dS (bI Z (aK 0 (.int _ _) aY M9 Z Z Z)) dJ)), ?_⟩)
  refine dI [true,true] Z (by kernel_rfl) (dN bDi Z Z M9 (aVq _ a.x1 a.y1) (fun w10 M10 => ?_))
  refine aB (aC ⟨dJ, ?_⟩)
  refine dI [] Z (by kernel_rfl) (bG 1 _ kO M10 Z Z Z Z Z (aS Z) Z (fun w11 M11 => ?_))
  refine aB (aC ⟨dJ, ?_⟩)
  refine dI [] Z (by kernel_rfl) (bG 2 _ kO M11 Z Z Z Z Z (aS Z) Z (fun w12 M12 => ?_))
  refine aB (aC ⟨dJ, ?_⟩)
  refine aV Z Z Z (fun _=>aJ (.bool true) Z) (bS (aC (aO (bNl (v3:=.bool true) 1 2 kO M12 Z Z Z Z Z Z Z ?_))))
  exact ⟨by unfold loC hiC;rw [if_neg h6,if_neg h6,decide_eq_true h6],M12.below⟩
theorem aSe (w:World) (a:Bx) :
  Calls prog 207 #[(.agg (eC a).toArray)] w (gH (fun v w'=>∃ b1 b2 b3,v=.func (.func 229) #[] #[.pointer (some ⟨b1,0,none⟩),.pointer (some ⟨b2,0,none⟩),.pointer (some ⟨b3,0,none⟩)]∧Mem w [] [(some b1,bc (dX (loC a)) 271),(some b3,bc (dX (hiC a)) 271),(some b2,bc [.bool (decide (¬ kD a))] 4)] w')):=by
 refine aI #[.tmp 2] 13 func207 Z results207 ntmps207 Z ?_
 have M0:=Mem.refl w
 refine aE (aA (bN (.agg (.mk _)) M0 Z Z Z (fun b1 w1 M1=>(wq (aJ (_) Z) Z (aB (aC (aE (aA (wq (aX 0 lP M1 Z Z Z) Z (dN bQw Z Z M1 (aYi _ a) (fun w2 M2=>(wq (aH (.tuple (List.toArray _)) Z) Z (wq (bM (.agg (.mk _)) Z Z) Z (wq (bM (.agg (.mk _)) Z Z) Z (wq (bM (.bool (decide _)) Z Z) Z (aR tF M2 Z Z (fun b3 w3 M3=>(aR tF M3 Z Z (fun b4 w4 M4=>(aR aXs M4 Z Z (fun b5 w5 M5=>(bG 1 _ kO M5 Z Z Z Z Z (aS Z) Z (fun w6 M6 => ?_)))))))))))))))))))))))
 refine bG 2 _ kO M6 Z Z Z Z Z (aS Z) Z (fun w7 M7=>(dA 3 (.bool (decide _)) sV M7 Z Z Z Z Z Z (fun w8 M8=>(aB (aC (aE (aA (wq (dU [] [.pointer _,.pointer _,.pointer _] Z Z) Z (wq (aJ (.func _ _ _) Z) Z (aB (aC (aO (cI (.func _ _ _) Z ?_)))))))))))))
 exact ⟨b3,b5,b4,Z,M8.keep [false,true,true,true]⟩
theorem aOq (w:World) (lo hi:Int × Int) (ok:Bool) (b1 b2 b3:Nat) (L1:Rd w 2 (some ⟨b1,0,none⟩) 1 [dX lo]) (L2:Rd w 1 (some ⟨b2,0,none⟩) 1 [[.bool ok]]) (L3:Rd w 2 (some ⟨b3,0,none⟩) 1 [dX hi]) (hlo:Okc lo) (hhi:Okc hi) (lp ob:Nat) (rec:Loop) (hY:yE prog lp ob rec 269 271 2 1048576 (fun x=>∃ a b,x=[.int .i32 a,.int .i32 b])) (r0:Row) (hr0:aZ 271 2 r0.A r0.n r0.c [] r0.e) (hO:Own [(some lp,.loop rec),(some ob,bc [.slice r0.A r0.n r0.c] 269),r0.e] w) (hd1:0 < 1→∀ q off,(some ⟨b1,0,none⟩:Option Addr)=some ⟨q,off,none⟩→q∉bY [(some lp,.loop rec),(some ob,bc [.slice r0.A r0.n r0.c] 269),r0.e]) (hd2:0 < 1→∀ q off,(some ⟨b2,0,none⟩:Option Addr)=some ⟨q,off,none⟩→q∉bY [(some lp,.loop rec),(some ob,bc [.slice r0.A r0.n r0.c] 269),r0.e]) (hd3:0 < 1→∀ q off,(some ⟨b3,0,none⟩:Option Addr)=some ⟨q,off,none⟩→q∉bY [(some lp,.loop rec),(some ob,bc [.slice r0.A r0.n r0.c] 269),r0.e]) :
  Calls prog 229 #[.func (.yield lp) #[] #[],.pointer (some ⟨b1,0,none⟩),.pointer (some ⟨b2,0,none⟩),.pointer (some ⟨b3,0,none⟩)] w (gH (fun v w'=>v=.tuple #[]∧∃ r:Row,aZ 271 2 r.A r.n r.c ((aAo ok lo hi).map dX) r.e∧Mem w (bY [(some lp,.loop rec),(some ob,bc [.slice r0.A r0.n r0.c] 269),r0.e]) [(some lp,.loop rec),(some ob,bc [.slice r.A r.n r.c] 269),r.e] w')):=by
 rw [← hJ b1,← hJ b2,← hJ b3]
 have hxd:nX lo hi=(hi.1 - lo.1+1).toNat:=rfl
 have hyd:nY lo hi=(hi.2 - lo.2+1).toNat:=rfl
 have hlx:=hlo.x
 have hly:=hlo.y
 have hhx:=hhi.x
 have hhy:=hhi.y
 have hnx:=bNr hlo hhi
 have hny:=bNs hlo hhi
 refine aI #[] 32 func229 Z results229 ntmps229 Z ?_
 have M0:=hO.mem
 refine aE (aA (wq (aT 1 aFo (L1.memY M0 hd1) (iR ((L1.memY M0 hd1).below_len (show ([dX lo]:List (List Value))[0]? = some (dX lo) from rfl))) rfl) rfl (wq (dM (o:=1) (.int _ _) aY (L1.memY M0 hd1) (show ([dX lo]:List (List Value))[0]? = some (dX lo) from rfl) rfl rfl) rfl (bK rfl rfl (aB (aC (aP (dG (σ:=Nat × Row) [0,1,2,3] (fun (j,r)=>[(5,.int .i32 (lo.2+(j:Int)))]) (fun (j,r) w'=>(j≤nY lo hi∧(ok=false→j=0)∧aZ 271 2 r.A r.n r.c ((rA lo hi j).map dX) r.e)∧Mem w (bY [(some lp,.loop rec),(some ob,bc [.slice r0.A r0.n r0.c] 269),r0.e]) [(some lp,.loop rec),(some ob,bc [.slice r.A r.n r.c] 269),r.e] w') (fun (j,r)=>nY lo hi - j) (0,r0) (bE (iv rfl (by simp)) dZ) (⟨⟨by omega,fun _=>rfl,hr0⟩,M0⟩) ?_))))))))
 rintro ⟨j,r⟩ ρ1 w1 ⟨⟨hj,hjz,hr⟩,hM1⟩
 refine aE (aE (aA (wq (dM (o:=0) (.bool _) sV (L2.memY hM1 hd2) (show ([[.bool ok]]:List (List Value))[0]? = some ([.bool ok]) from Z) Z Z) Z (wq (aH (.bool _) Z) Z ?_))))
 refine kM 10 _ Z (fun g10 => ?_) (fun g10 => ?_)
 ·refine aQ Z Z (wq (aT 1 aFo (L3.memY hM1 hd3) (iR ((L3.memY hM1 hd3).below_len (show ([dX hi]:List (List Value))[0]? = some (dX hi) from Z))) Z) Z (wq (dM (o:=1) (.int _ _) aY (L3.memY hM1 hd3) (show ([dX hi]:List (List Value))[0]? = some (dX hi) from Z) Z Z) Z (cX Z Z Z Z (wq (bR true (.bool (decide _)) Z Z) Z (aB (aC ?_))))))
  refine aU Z (fun h15 => ?_) (fun h15 => ?_)
  ·refine aM (aC (aE (aP (aE (aA (wq (aT 0 aFn (L1.memY hM1 hd1) (iR ((L1.memY hM1 hd1).below_len (show ([dX lo]:List (List Value))[0]? = some (dX lo) from rfl))) rfl) rfl (wq (dM (o:=0) (.int _ _) aY (L1.memY hM1 hd1) (show ([dX lo]:List (List Value))[0]? = some (dX lo) from rfl) rfl rfl) rfl (bK rfl rfl (aB (aC (aP (dG (σ:=Nat × Row) [0,1,2,3,5] (fun (i,q0)=>[(6,.int .i32 (lo.1+(i:Int)))]) (fun (i,q0) w'=>(i≤nX lo hi∧aZ 271 2 q0.A q0.n q0.c ((rA lo hi j++aGy lo i j).map dX) q0.e)∧Mem w (bY [(some lp,.loop rec),(some ob,bc [.slice r0.A r0.n r0.c] 269),r0.e]) [(some lp,.loop rec),(some ob,bc [.slice q0.A q0.n q0.c] 269),q0.e] w') (fun (i,q0)=>nX lo hi - i) (0,r) (bE (iv rfl (by simp)) dZ) (⟨⟨by omega,by simpa [aGy] using hr⟩,hM1⟩) ?_))))))))))))
   rintro ⟨i,q0⟩ ρ2 w2 ⟨⟨hi2,hq0⟩,hM2⟩
   have hql:(rA lo hi j).length+i=q0.n:=by simpa [aQu] using hq0.1
   refine aE (aE (aA (aQ Z Z (wq (aT 0 aFn (L3.memY hM2 hd3) (iR ((L3.memY hM2 hd3).below_len (show ([dX hi]:List (List Value))[0]? = some (dX hi) from Z))) Z) Z (wq (dM (o:=0) (.int _ _) aY (L3.memY hM2 hd3) (show ([dX hi]:List (List Value))[0]? = some (dX hi) from Z) Z Z) Z (cX Z Z Z Z (aB (aC ?_))))))))
   refine aU Z (fun h23 => ?_) (fun h23 => ?_)
   ·have hlt6:=bGq (lo:=lo) (hi:=hi) (i:=i) (j:=j) hnx (by omega) (by omega)
    refine aM (aC (aE (aP (aE (aJl (aLg (aH (.func _ _ _) Z) Z Z (aLg (aH (.int _ _) Z) Z Z (aLg (aH (.int _ _) Z) Z Z (aLg (cB [(0,.int _ _),(1,.int _ _)] _ aLa Z Z) Z Z ?_)))))))))
    obtain ⟨fy,ty,ay,by1,hy1,hy2⟩:=hY _ q0 ((rA lo hi j++aGy lo i j).map dX) (dX (lo.1+(i:Int),lo.2+(j:Int))) ⟨_,_,rfl⟩ (by omega) hq0 (hM2.ownSeg 0 3)
    refine aLh Z Z Z Z hy1 (hy2.mono ?_)
    rintro _ w3 ⟨rfl,q3,hqn3,hq3,hM3⟩
    have M3:Mem _ _ [_,_,_] _:=hM2.seg 0 3 hM3
    refine ⟨_,Z, ?_⟩
    refine bHw Z (fun _ _ h=>h) (wq (gR false Z Z) Z (aB (aC (cG Z (aM (cR (aC (aA (aQ Z Z (wq (jN Z Z (jQ _ (by omega) (by omega))) Z (bK Z Z (aB ?_))))))))))))
    refine bX (i+1,q3) (bE (iv Z (by omega)) dZ) (bZ Z (bZ Z (bZ Z (bZ Z (bZ Z gK))))) ?_ ?_
    ·exact ⟨⟨by omega,by rw [bAj,← List.append_assoc,List.map_append];exact hq3⟩,M3⟩
    ·(show nX lo hi - (i+1) < nX lo hi - i;omega)
   ·have hix:i=nX lo hi:=by omega
    refine cN (dC (dE (eJ (cR (aC (aA (aQ Z Z (wq (jN Z Z (jQ _ (by omega) (by omega))) Z (bK Z Z (aB ?_))))))))))
    refine bX (j+1,q0) (bE (iv Z (by omega)) dZ) (bZ Z (bZ Z (bZ Z (bZ Z gK)))) ?_ ?_
    ·exact ⟨⟨by omega,fun h=>(by rw [g10] at h;cases h),by rw [aGz,← hix];exact hq0⟩,hM2⟩
    ·(show nY lo hi - (j+1) < nY lo hi - j;omega)
  ·refine cN (dC (dE (eJ (kI ?_))))
   exact ⟨Z,r,by unfold aAo;first | (rw [if_pos g10,show nY lo hi=j by omega];exact hr) | (rw [if_neg (by rw [g10];decide)];rw [hjz g10] at hr;exact hr),hM1⟩
 ·refine aN Z Z (aN Z Z (aN Z Z (aN Z Z (wq (bR false (.bool false) Z Z) Z (aB (aC (cG Z (cN (dC (dE (eJ (kI ?_))))))))))))
  exact ⟨Z,r,by unfold aAo;first | (rw [if_pos g10,show nY lo hi=j by omega];exact hr) | (rw [if_neg (by rw [g10];decide)];rw [hjz g10] at hr;exact hr),hM1⟩
theorem bDp (w:World) (a:Bx) (ha:Okx a) :
  Calls prog 179 #[(.agg (eC a).toArray)] w (gH (fun v w'=>∃ r:Row,v=.slice r.A r.n r.c∧aZ 271 2 r.A r.n r.c ((jX a).map dX) r.e∧Mem w [] [r.e] w')):=by
 refine aBz #[.tmp 2] 13 func179 Z results179 ntmps179 Z ?_
 have M0:=Mem.refl w
 refine sJ (qB (bN (.agg (.mk _)) M0 Z Z Z (fun b1 w1 M1=>(eH Z Z (aB (tB (sJ (qB (aR bMd M1 Z Z (fun b2 w2 M2=>(aB (tB (sJ (sJ (qB (wq (aX 0 lP M2 Z Z Z) Z (eP bQk Z Z (aSe _ a) ?_)))))))))))))))))
 rintro v3 w3 ⟨bl,bk,bh,rfl,hM3⟩
 have M3:Mem _ _ [_,_,_,_,_] _:=M2.call0 hM3
 refine aB (tB (aNw ?_))
 have M4:Mem _ _ [_,_,_,_,_] _:=((M3.keep [false,true,true,true,true]).dummy default).perm (List.Perm.cons _ (List.perm_append_comm (l₁:=[_,_,_]) (l₂:=[_])))
 refine aNx bQx M4 Z (fun fnn B lp tmps w1 hρ hn M1 => ?_)
 refine aHv (P:=prog) (ob:=b2) (Tsl:=269) (Te:=271) (sz:=2) (N:=1048576) (ok:=(fun x=>∃ a b,x=[.int .i32 a,.int .i32 b])) M1 ?_ (fun hY => ?_)
 ·intro wr r ls x hok hlt hrow hO
  obtain ⟨xa,xb,rfl⟩:=hok
  refine ⟨_,_,_,_,aQt hO Z Z Z hn (by decide) hρ ?_⟩
  have MR0:=hO.mem
  refine vE Z (fun _ _ h=>nomatch h.1) (aR tF MR0 Z Z (fun b5 w5 M5=>(bG 3 _ kO M5 Z Z Z Z Z (aS Z) Z (fun w6 M6=>(aB ?_)))))
  refine ⟨Z,_,M6,Z,fun w7 M7 => ?_⟩
  refine aNy (vE rfl (fun _ _ h=>nomatch h.1) (wq (aK 1 (.slice _ _ _) aTj M7 rfl rfl rfl) rfl (wq (aX 3 kO M7 rfl rfl rfl) rfl (cC [.agg (List.toArray _)] [[.int .i32 xa,.int .i32 xb]] rfl bHe M7 rfl rfl rfl rfl (cU rfl) (by decide) (fun b8 w8 M8=>(cW 2 [[.int .i32 xa,.int .i32 xb]] bHe M8 rfl rfl rfl rfl rfl hrow rfl (by simp [Go.Bil.one]) (dL.ofMem 4 M8 rfl) (by omega) (fun A9 c9 e9 w9 M9 hR9=>(dA 1 (.slice _ _ _) aTj M9 rfl rfl rfl rfl rfl rfl (fun w10 M10=>(aB (cR ?_)))))))))))
  refine ⟨Z,_,M10,Z,fun w11 M11 => ?_⟩
  exact ⟨⟨A9,r.n+1,c9,e9⟩,Z,hR9,M11.keep [true,true,true,false,false]⟩
 ·refine (aOq _ (loC a) (hiC a) _ bl bk bh (qP 3 M1 Z Z) (qP 5 M1 Z Z) (qP 4 M1 Z Z) (aTe ha) (aSx ha) lp b2 _ hY ⟨none,0,0,(none,default)⟩ (aZ.nil _ _ _) (M1.ownSeg 0 3) (M1.apartTake 3 3 Z Z) (M1.apartTake 3 5 Z Z) (M1.apartTake 3 4 Z Z)).mono ?_
  rintro _ w5 ⟨v5,rfl,rfl,r,hr,hM⟩
  have M5:Mem _ _ (_::[_,_,_,_,_,_]) _:=M1.seg 0 3 hM
  refine ⟨_,Z,_,M5,fun w6 M6 => ?_⟩
  refine bMk (tB (sJ (aJk (aXn (aK 1 (.slice _ _ _) aTj M6 Z Z Z) Z Z (aXn (aJ (.slice _ _ _) Z) Z Z (aXm (tB (bBl (bNj (i:=6) (.slice _ _ _) Z M6 Z (fun w9 M9 => ?_))))))))))
  exact ⟨r,Z,hr,M9.keep [false,false,true,false,false,false,false]⟩
theorem aOp (w:World) (F:Rd w 2 (some ⟨0,0,none⟩) 1 [[.int .u32 73856093,.int .u32 19349663]]) (c:Int × Int) :
  Calls prog 180 #[(.agg (dX c).toArray)] w (Rb w (.int .i64 (fI c:Int))):=by
 refine aI #[.tmp 2] 20 func180 Z results180 ntmps180 Z ?_
 have M0:=Mem.refl w
 refine aE (aA (bN (.agg (.mk _)) M0 Z Z Z (fun b1 w1 M1=>(bK Z Z (aB (aC (aE (aA (wq (aD 0 aFn Z) Z (wq (aK 0 (.int _ _) aY M1 Z Z Z) Z (wq (dF dY underlying39 Z) Z (wq (cD (0) bBt Z Z Z (by decide)) Z (wq (dM (k:=0) (o:=0) (.int _ _) bV (F.mem M1) (show ([[.int .u32 73856093,.int .u32 19349663]]:List (List Value))[0]? = some [.int .u32 73856093,.int .u32 19349663] from Z) Z Z) Z (wq (cA (.int _ _) Z Z Z) Z (wq (aD 1 aFo Z) Z (wq (aK 0 (.int _ _) aY M1 Z Z Z) Z ?_))))))))))))))))
 refine wq (dF dY underlying39 Z) Z (wq (cD (1) bBt Z Z Z (by decide)) Z (wq (dM (k:=0) (o:=1) (.int _ _) bV (F.mem M1) (show ([[.int .u32 73856093,.int .u32 19349663]]:List (List Value))[0]? = some [.int .u32 73856093,.int .u32 19349663] from Z) Z Z) Z (wq (cA (.int _ _) Z Z Z) Z (wq (cA (.int _ _) Z Z Z) Z (bK Z Z (aB (aC (aE (aA (aQ Z Z (wq (cA (.int _ _) Z Z Z) Z (aL 18 (.int .u32 (vH c)) Z (wq (bH wU underlying3 Z (fJ _ (by have:=nU c;omega) (by have:=nU c;omega))) Z ?_)))))))))))))
 refine bK Z Z (aB (aC (aO (cI (.int _ _) Z ?_))))
 exact ⟨iE (aYc c),M1.below⟩
theorem aPo (w:World) (F:Rd w 2 (some ⟨0,0,none⟩) 1 [[.int .u32 73856093,.int .u32 19349663]]) (b:Nat) (rs:List Row) (cnt:Int) (g:Nat→List Int) (hG:GridRows 39 rs g) (hcnt:0≤cnt∧cnt≤1048576) (hgl:∀ j,j < 1024→(g j).length≤1048576) (key:Int) (a:Bx) (ha:Okx a) (hO:Own ((some b,bc (fD rs cnt) 245)::rs.map Row.e) w) (hdF:0 < 1→∀ q off,(some ⟨0,0,none⟩:Option Addr)=some ⟨q,off,none⟩→q∉bY ((some b,bc (fD rs cnt) 245)::rs.map Row.e)) :
  Calls prog 165 #[.pointer (some ⟨b,0,none⟩),.int .u32 key,(.agg (eC a).toArray)] w (gH (fun v w'=>v=.tuple #[]∧∃ rs':List Row,GridRows 39 rs' (wN g key ((jX a).map fI))∧Mem w (bY ((some b,bc (fD rs cnt) 245)::rs.map Row.e)) ((some b,bc (fD rs' (cnt+1)) 245)::rs'.map Row.e) w')):=by
 refine aI #[] 49 func165 Z results165 ntmps165 Z ?_
 have M0:=hO.mem
 refine aE (aA (bN (.agg (.mk _)) M0 Z Z Z (fun b1 w1 M1 => ?_)))
 have M2:Mem _ _ ([_,_]++_) _:=Mem.front (L:=[_]) M1
 refine aB (aC (aE (aE (aA (wq (aH (.pointer _) Z) Z (wq (gX false underlying267 Z Z) Z (aB (aC (cG Z (aM (aC (aE (aA (wq (aH (.pointer _) Z) Z (wq (bL Z) Z (wq (aD 1024 aPj Z) Z (wq (aK 0 (.int .i64 cnt) fT M2 Z Z (aFs hG.len)) Z (wq (bC Z Z (by omega) (by omega)) Z (wq (bL Z) Z (wq (aD 1024 aPj Z) Z (dA 0 (.int _ _) fT M2 Z Z Z Z Z (by rw [aFs hG.len];rfl) (fun w3 M3 => ?_))))))))))))))))))))))
 have M3b:Mem _ _ ([(some b,bc (fD rs (cnt+1)) 245),_]++rs.map Row.e) _:=Mem.cells0 M3 (aIo hG.len)
 refine aB (aC (aE (aA (nS M3b Z Z (fun b4 w4 M4 => ?_)))))
 have M5:Mem _ _ ([_,_,_]++_) _:=Mem.front (L:=[_,_]) M4
 refine wq (aJ (.map _) Z) Z (aB (aC (aE (aA (wq (aX 1 lP M5 Z Z Z) Z (eP bPv Z Z (bDp _ a ha) ?_))))))
 rintro v6 w6 ⟨r0,rfl,hR0,hM6⟩
 have M6:Mem _ _ ([_,_,_,_]++_) _:=Mem.front (L:=[_,_,_]) (M5.call0 hM6)
 have hcl:(jX a).length=r0.n:=by simpa using hR0.1
 have hcb:=aSf ha
 refine wq (cK underlying269 Z) Z (aQ Z Z (aB (aC (aP (dG (σ:=Nat × List Row × eL) [0,1,6,21,22] (fun (i,rs1,em)=>[(23,.int .i64 (i:Int))]) (fun (i,rs1,em) w'=>(i≤r0.n∧GridRows 39 rs1 (wN g key (((jX a).map fI).take i))∧kT .i64 Value.bool (tX (((jX a).map fI).take i)) (some b4) em)∧Mem w (bY ((some b,bc (fD rs cnt) 245)::rs.map Row.e)) ([(some b,bc (fD rs1 (cnt+1)) 245),(some b1,bc (eC a) 248),em,r0.e]++rs1.map Row.e) w') (fun (i,rs1,em)=>r0.n - i) (0,rs,(some b4,.map #[] 0)) (bE Z dZ) (⟨⟨by omega,by rw [List.take_zero,bBo];exact hG,(kT.empty _ _ b4).congr (fun q=>by rw [List.take_zero];exact aYt q)⟩,M6⟩) ?_)))))
 rintro ⟨i,rs1,em⟩ ρ7 w7 ⟨⟨hi,hrs,hme⟩,hM7⟩
 refine aE (aA (cX Z Z Z Z (aB (aC (aE ?_)))))
 refine aU Z (fun h24 => ?_) (fun h24 => ?_)
 ·obtain ⟨xc,hxc⟩:=cF (xs:=jX a) (k:=i) hcl (by omega)
  have hbb:((jX a).map fI)[i]? = some (fI xc):=by rw [List.getElem?_map,hxc];rfl
  refine aM (aC (aE (aP (aE (aA (wq (bJ (i) bHe Z Z Z ((hR0.rd hM7 (bA (i:=3) Z)).below_len (aG dX hxc)) ((hR0.rd hM7 (bA (i:=3) Z)).someK (aG dX hxc))) Z (wq (dW _ kO (hR0.rd hM7 (bA (i:=3) Z)) (aG dX hxc) Z) Z (aR tF hM7 Z Z (fun b8 w8 M8 => ?_)))))))))
  have M9:Mem _ _ ([_,_,_,_,_]++_) _:=Mem.front (L:=[_,_,_,_]) M8
  refine bG 4 _ kO M9 Z Z Z Z Z (aS Z) Z (fun w10 M10=>(aB (aC (aE (aA (wq (aX 4 kO M10 Z Z Z) Z (dN bPw Z Z M10 (aOp _ (F.memY M10 hdF) xc) (fun w11 M11=>(bK Z Z (aB (aC (aE (aE (aA (wq (aH (.map _) Z) Z (aQ Z Z (wq (mR (enc:=Value.bool) false 2 bFk zv4 M11 Z hme Z Z) Z (aB (aC ?_)))))))))))))))))))
  refine iL _ Z (fun h31 => ?_) (fun h31 => ?_)
  ·refine cN (dC (eJ (aC (aA (wq (bC Z Z (by omega) (by omega)) Z (aQ Z Z (aB ?_)))))))
   refine bX (i+1,rs1,em) (bE Z dZ) (bZ Z (bZ Z (bZ Z (bZ Z (bZ Z gK))))) ?_ ?_
   ·exact ⟨⟨by omega,by rw [bBp hbb (aAs.1 h31)];exact hrs,by rw [aYu hbb (aAs.1 h31)];exact hme⟩,Mem.keepL (L:=[_,_,_,_,_]) [true,true,true,true,false] M11⟩
   ·(show r0.n - (i+1) < r0.n - i;omega)
  ·have hnb:fI xc∉((jX a).map fI).take i:=fun h=>by have h2:=aAs.2 h;rw [h2] at h31;cases h31
   refine aM (aC (aE (aA (wq (aH (.map _) Z) Z (aQ Z Z (lK (enc:=Value.bool) 2 bFk M11 Z Z hme Z Z Z Z (fun e12 w12 hm12 M12=>(aB (aC (fW [(0,0),(1,0),(2,0),(3,0),(4,0),(5,0),(6,0),(7,1),(8,0),(11,0),(12,0),(9,2),(10,2),(13,0),(14,2)] mixed M12 Z (by kernel_rfl) (fun w13 M13=>(aV Z Z Z (fun _=>aH (.pointer _) Z) (eD Z Z Z (aV Z Z Z (fun _=>aH (.pointer _) Z) (eD Z Z Z (aV Z Z Z (fun _=>bL Z) (aV Z Z Z (fun _=>aD 0 aFm Z) ?_)))))))))))))))))
   refine aV Z Z Z (fun _=>cD (fI xc) aRr Z Z Z (mK xc)) ?_
   obtain ⟨rb,hrb⟩:=hrs.get (mK xc)
   have hrowb:=hrs.row _ _ hrb
   have hgb:wN g key (((jX a).map fI).take i) (fI xc)=g (fI xc):=by unfold wN;rw [if_neg hnb]
   have hrn:(wN g key (((jX a).map fI).take i) (fI xc)).length=rb.n:=by simpa using hrowb.1
   have hgl:=hgl (fI xc) (mK xc)
   rw [hgb] at hrn
   have M14:Mem _ _ ([_,_,_,_,_,_]++(rs1.eraseIdx (fI xc)).map Row.e) _:=Mem.pull (L:=[_,_,_,_,_]) (rs:=rs1) M13 hrb
   refine bP Z Z Z (aK 0 (.slice _ _ _) aMy M14 Z Z (xQ hrb)) (eD Z Z Z (aV Z Z Z (fun _=>bL Z) (aV Z Z Z (fun _=>aD 0 aFm Z) (dI [false] Z (by kernel_rfl) (cC [.int _ _] [iM key] Z aRe M14 Z Z Z Z (cU Z) (by decide) (fun b15 w15 M15 => ?_))))))
   have M16:Mem _ _ ([_,_,_,_,_,_,_]++_) _:=Mem.front (L:=[_,_,_,_,_,_]) M15
   refine aB (aC ⟨(dS (bI Z (aK 0 (.slice _ _ _) aMy M16 Z Z (xQ hrb))) dJ), ?_⟩)
   refine dI [true] Z (by kernel_rfl) (cW 5 [iM key] aRe M16 Z Z Z Z Z hrowb Z (aTc _) (dL.ofMem 6 M16 Z) (by omega) (fun A17 c17 e17 w17 M17 hR17 => ?_))
   refine aB (aC ⟨dJ, ?_⟩)
   refine aV Z Z Z (fun _=>cD (fI xc) aRr Z Z Z (mK xc)) (dI [] Z (by kernel_rfl) (dA 0 (.slice _ _ _) aMy M17 Z Z Z Z Z (by rw [xQ hrb];rfl) (fun w18 M18 => ?_)))
   have M18b:Mem _ _ ([(some b,bc (fD (rs1.set (fI xc) (⟨A17,rb.n+1,c17,e17⟩:Row)) (cnt+1)) 245),_,_,_,_,_,_]++(rs1.eraseIdx (fI xc)).map Row.e) _:=Mem.cells0 M18 (aIp (⟨A17,rb.n+1,c17,e17⟩:Row) (by rw [hrs.len];exact mK xc))
   refine aB (aC ⟨dJ, ?_⟩)
   refine bS (cR (aC (aA (wq (bC Z Z (by omega) (by omega)) Z (aQ Z Z (aB ?_))))))
   refine bX (i+1,rs1.set (fI xc) (⟨A17,rb.n+1,c17,e17⟩:Row),e12) (bE Z dZ) (bZ Z (bZ Z (bZ Z (bZ Z (bZ Z gK))))) ?_ ?_
   ·exact ⟨⟨by omega,by rw [bBn hbb hnb];exact hrs.put (r:=(⟨A17,rb.n+1,c17,e17⟩:Row)) (mK xc) (by simpa using hR17),hm12.congr (fun q=>aJt hbb q)⟩,Mem.push (L:=[_,_,_,_]) (rs:=rs1) (⟨A17,rb.n+1,c17,e17⟩:Row) (Mem.keepL (L:=[_,_,_,_,_,_,_]) [true,true,true,true,false,true,false] M18b) (by rw [hrs.len];exact mK xc)⟩
   ·(show r0.n - (i+1) < r0.n - i;omega)
 ·have hin:i=r0.n:=by omega
  rw [List.take_of_length_le (by simp;omega)] at hrs
  refine cN (dC (dE (eJ (kI ?_))))
  exact ⟨Z,rs1,hrs,Mem.keepL (L:=[_,_,_,_]) [true,false,false,false] hM7⟩
end Go.Proofs.YtpcloigancpnbaaGreatDoor
