/- Part of the proof of a law of this seat (3 texts). No conditions. -/
import Derived.Test.YtpcloigancpnbaaGreatDoorK5
import Derived.Test.YtpcloigancpnbaaGreatDoorK15
set_option linter.unusedVariables false
set_option linter.unusedSimpArgs false
set_option linter.unnecessarySimpa false
set_option maxHeartbeats 100000000
namespace Go.Proofs.YtpcloigancpnbaaGreatDoor
open Go.Bil
open Go.RowKit (Below)
open Go.Proofs
open Go.Proofs.Tryz
theorem aOn (w:World) (x:Int) (h0 : -2147483647≤x) (h1:x≤2147483647) :
  Calls prog 227 #[.int .i32 x] w (Rb w (.int .i32 (max x (-x)))):=by
 refine aI #[.tmp 2] 7 func227 Z results227 ntmps227 Z ?_
 have M0:=Mem.refl w
 refine aE (aA (bJ Z Z (aB (aC (aE (aA (aR Z Z (aR Z Z (wq (rR Z (jU _ (by omega) (by omega))) Z (wq (pK Z Z ) Z (bJ Z Z (aB (aC (aP (cI (.int _ _) Z ?_)))))))))))))))
 exact ⟨iE (by omega),M0.below⟩
theorem aOm (w:World) (b:Body) (hb:Okb b) :
  Calls prog 206 #[(.agg (aF b).toArray)] w (Rb w (.tuple #[.int .i32 (aSy b),.int .i32 (aSz b)])):=by
 have hr:=hb.r
 have ha:=hb.a
 have hp:=hb.p
 refine aI #[.tmp 2,.tmp 3] 18 func206 Z results206 ntmps206 Z ?_
 have M0:=Mem.refl w
 refine aE (aA (bN (.agg (.mk _)) M0 Z Z Z (fun b1 w1 M1=>(bJ Z Z (bJ Z Z (aB (aC (aE (fY [(0,0),(1,0),(2,1),(4,0),(5,1),(7,0),(8,0),(9,1),(11,0),(12,1),(3,2),(6,0),(10,2),(13,0),(14,0),(15,0)] mixed M1 Z (by kernel_rfl) (fun w2 M2=>(aX Z Z Z (fun _=>aD 2 jN Z) (aX Z Z Z (fun _=>aD 0 cX Z) (bP Z Z Z (aK 0 (.int _ _) aY M2 Z Z Z) (aX Z Z Z (fun _=>aD 1 mI Z) (bP Z Z Z (aK 0 (.int _ _) aY M2 Z Z Z) (aX Z Z Z (fun _=>aD 2 jN Z) ?_))))))))))))))))
 refine aX Z Z Z (fun _=>aD 1 cV Z) (bP Z Z Z (aK 0 (.int _ _) aY M2 Z Z Z) (aX Z Z Z (fun _=>aD 1 mI Z) (bP Z Z Z (aK 0 (.int _ _) aY M2 Z Z Z) (dL [false,false,false,true] Z (by kernel_rfl) (dO bDs Z Z M2 (aOn _ _ (by omega) (by omega)) (fun w3 M3 => ?_))))))
 refine aB (aC ⟨(dQ (bC Z (aK 0 (.int _ _) aY M3 Z Z Z)) (dQ (bC Z (aK 0 (.int _ _) aY M3 Z Z Z)) (dQ (bC Z (aK 0 (.int _ _) aY M3 Z Z Z)) dG))), ?_⟩)
 refine aX Z Z Z (fun _=>jR Z Z (jU _ (by omega) (by omega))) (dL [false,true,false] Z (by kernel_rfl) (dO bDs Z Z M3 (aOn _ _ (by omega) (by omega)) (fun w4 M4 => ?_)))
 refine aB (aC ⟨(dQ (bC Z (aK 0 (.int _ _) aY M4 Z Z Z)) (dQ (bC Z (aK 0 (.int _ _) aY M4 Z Z Z)) dG)), ?_⟩)
 refine aX Z Z Z (fun _=>jR Z Z (jU _ (by omega) (by omega))) (nF Z Z Z (nF Z Z Z (bS (aC (aP (gA (.int _ _) (.int _ _) Z Z ?_))))))
 exact ⟨Z,M4.below⟩
theorem bOy (w:World) (b:Body) (hb:Okb b) :
  Calls prog 178 #[(.agg (aF b).toArray)] w (Rb w ((.agg (eF (iD b)).toArray))):=by
 have hr:=hb.r
 have ha:=hb.a
 have hp:=hb.p
 have he:=bEs hb
 refine aI #[.cell 2 248] 31 func178 Z results178 ntmps178 Z ?_
 have M0:=Mem.refl w
 refine aE (aA (bN (.agg (.mk _)) M0 Z Z Z (fun b1 w1 M1=>(aQ aNs M1 Z Z (fun b2 w2 M2=>(aB (aC (aE (aA (wq (aU 0 bR M2 Z Z Z) Z (dO bRa Z Z M2 (aOm _ b hb) (fun w3 M3=>(wq (aH (.tuple (List.toArray _)) Z) Z (wq (bM (.int _ _) Z Z) Z (wq (bM (.int _ _) Z Z) Z (bJ Z Z (bJ Z Z (aB (aC (aE (aA (wq (aD 6 fO Z) Z (wq (aD 0 cX Z) Z (wq (aK 0 (.int _ _) aY M3 Z Z Z) Z (aR Z Z ?_)))))))))))))))))))))))))
 refine wq (oF Z Z (jU _ (by omega) (by omega))) Z (wq (aD 6 fO Z) Z (wq (aD 1 cV Z) Z (wq (aK 0 (.int _ _) aY M3 Z Z Z) Z (aR Z Z (wq (oF Z Z (jU _ (by omega) (by omega))) Z (wq (aD 6 fO Z) Z (wq (aD 0 cX Z) Z (wq (aK 0 (.int _ _) aY M3 Z Z Z) Z (aR Z Z (wq (jR Z Z (jU _ (by omega) (by omega))) Z (wq (aD 6 fO Z) Z (wq (aD 1 cV Z) Z (wq (aK 0 (.int _ _) aY M3 Z Z Z) Z (aR Z Z (wq (jR Z Z (jU _ (by omega) (by omega))) Z ?_)))))))))))))))
 refine wq (cD [(0,.int _ _),(1,.int _ _),(2,.int _ _),(3,.int _ _)] _ aKy Z Z) Z (bB 1 _ lU M3 Z Z Z Z Z (aO Z) Z (fun w4 M4=>(aB (aC (aP (eS 1 lU M4 Z Z Z ?_))))))
 exact ⟨Z,M4.below⟩
theorem aAs (w:World) (a:Bx) :
  Calls prog 208 #[(.agg (eF a).toArray)] w (Rb w (.bool (decide (kI a)))):=by
 refine aI #[.tmp 2] 15 func208 Z results208 ntmps208 Z ?_
 have M0:=Mem.refl w
 refine aE (aA (bN (.agg (.mk _)) M0 Z Z Z (fun b1 w1 M1=>(wq (aJ (.bool false) Z) Z (aB (aC (aE (aA (wq (aD 0 zA Z) Z (wq (aK 0 (.int _ _) aY M1 Z Z Z) Z (wq (aD 2 zC Z) Z (wq (aK 0 (.int _ _) aY M1 Z Z Z) Z (cY Z Z Z Z (wq (aH (.bool (decide _)) Z) Z ?_))))))))))))))
 refine dT 8 Z (fun g8 => ?_) (fun g8 => ?_)
 ·refine aN Z Z (aN Z Z (aN Z Z (aN Z Z (aN Z Z (wq (bQ true (.bool true) Z Z) Z (wq (aJ (.bool true) Z) Z (aB (aC (aP (cI (.bool true) Z ?_))))))))))
  exact ⟨by unfold kI;first | exact bT (by omega) | exact bD (by omega),M1.below⟩
 ·refine wq (aD 1 zB Z) Z (wq (aK 0 (.int _ _) aY M1 Z Z Z) Z (wq (aD 3 zD Z) Z (wq (aK 0 (.int _ _) aY M1 Z Z Z) Z (cY Z Z Z Z (wq (bQ false (.bool (decide _)) Z Z) Z (wq (aJ (.bool (decide _)) Z) Z (aB (aC (aP (cI (.bool (decide _)) Z ?_))))))))))
  exact ⟨by unfold kI;first | exact bT (by omega) | exact bD (by omega),M1.below⟩
theorem bCn (w:World) (N:Rd w 4 (some ⟨3,0,none⟩) 1 [eF iY]) (a b:Bx) :
  Calls prog 209 #[(.agg (eF a).toArray),(.agg (eF b).toArray)] w (Rb w ((.agg (eF (aKg a b)).toArray))):=by
 refine aI #[.cell 4 248] 31 func209 Z results209 ntmps209 Z ?_
 have M0:=Mem.refl w
 refine aE (aA (bN (.agg (.mk _)) M0 Z Z Z (fun b1 w1 M1=>(bN (.agg (.mk _)) M1 Z Z Z (fun b2 w2 M2=>(aQ aNs M2 Z Z (fun b3 w3 M3=>(aB (aC (aE (aA (wq (aD 0 zA Z) Z (wq (aK 0 (.int _ _) aY M3 Z Z Z) Z (wq (aD 0 zA Z) Z (wq (aK 1 (.int _ _) aY M3 Z Z Z) Z (wq (pK Z Z ) Z (wq (aD 1 zB Z) Z (wq (aK 0 (.int _ _) aY M3 Z Z Z) Z (wq (aD 1 zB Z) Z (wq (aK 1 (.int _ _) aY M3 Z Z Z) Z (wq (pK Z Z ) Z ?_)))))))))))))))))))))
 refine wq (aD 2 zC Z) Z (wq (aK 0 (.int _ _) aY M3 Z Z Z) Z (wq (aD 2 zC Z) Z (wq (aK 1 (.int _ _) aY M3 Z Z Z) Z (wq (aGv Z Z ) Z (wq (aD 3 zD Z) Z (wq (aK 0 (.int _ _) aY M3 Z Z Z) Z (wq (aD 3 zD Z) Z (wq (aK 1 (.int _ _) aY M3 Z Z Z) Z (wq (aGv Z Z ) Z (wq (cD [(0,.int _ _),(1,.int _ _),(2,.int _ _),(3,.int _ _)] _ aKy Z Z) Z (aQ aNs M3 Z Z (fun b4 w4 M4=>(bB 3 _ lU M4 Z Z Z Z Z (aO Z) Z (fun w5 M5 => ?_))))))))))))))
 refine aB (aC (aE (aE (aA (wq (aU 3 lU M5 Z Z Z) Z (dO aSj Z Z M5 (aAs _ ⟨max a.x0 b.x0,max a.y0 b.y0,min a.x1 b.x1,min a.y1 b.y1⟩) (fun w6 M6=>(aB (aC ?_)))))))))
 refine aW Z (fun h28 => ?_) (fun h28 => ?_)
 ·refine aE (aA (wq (lB (k:=0) (o:=0) _ lU (N.mem M6) (show ([eF iY]:List (List Value))[0]? = some (eF iY) from Z) Z Z Z) Z (bB 2 _ lU M6 Z Z Z Z Z (aO Z) Z (fun w7 M7=>(aB (aC (aP (cN (eS 2 lU M7 Z Z Z ?_)))))))))
  exact ⟨by unfold aKg;rw [if_pos h28];rfl,M7.below⟩
 ·refine aM (aC (aE (aA (wq (aU 3 lU M6 Z Z Z) Z (bB 2 _ lU M6 Z Z Z Z Z (aO Z) Z (fun w8 M8=>(aB (aC (aP (eS 2 lU M8 Z Z Z ?_))))))))))
  exact ⟨by unfold aKg;rw [if_neg h28];rfl,M8.below⟩
theorem aOo (w:World) (N:Rd w 4 (some ⟨3,0,none⟩) 1 [eF iY]) (a b:Bx) :
  Calls prog 182 #[(.agg (eF a).toArray),(.agg (eF b).toArray)] w (Rb w (.bool (decide (ovl a b)))):=by
 refine aI #[.tmp 4] 10 func182 Z results182 ntmps182 Z ?_
 have M0:=Mem.refl w
 refine aE (aA (bN (.agg (.mk _)) M0 Z Z Z (fun b1 w1 M1=>(bN (.agg (.mk _)) M1 Z Z Z (fun b2 w2 M2=>(wq (aJ (.bool false) Z) Z (aB (aC (aE (aA (wq (aU 0 lU M2 Z Z Z) Z (wq (aU 1 lU M2 Z Z Z) Z (dO bRc Z Z M2 (bCn _ (N.mem M2) a b) (fun w3 M3=>(dO aSj Z Z M3 (aAs _ (aKg a b)) (fun w4 M4=>(wq (pQ Z) Z (wq (aJ (.bool (decide _)) Z) Z (aB (aC (aP (cI (.bool (decide _)) Z ?_))))))))))))))))))))))
 exact ⟨bD (bGa a b),M4.below⟩
theorem aVx (w:World) (x y:Int) :
  Calls prog 238 #[.agg [.int .i32 x,.int .i32 y].toArray] w (Rb w ((.agg (dY (qH x,qH y)).toArray))):=by
 refine aI #[.cell 2 271] 10 func238 Z results238 ntmps238 Z ?_
 have M0:=Mem.refl w
 refine aE (aA (bN (.agg (.mk _)) M0 Z Z Z (fun b1 w1 M1=>(aQ tM M1 Z Z (fun b2 w2 M2=>(aB (aC (aE (aA (wq (aD 0 cX Z) Z (wq (aK 0 (.int _ _) aY M2 Z Z Z) Z (wq (kQ Z Z (by decide)) Z (aL 5 (.int .i32 (qH x)) (iE (bOj x)) (wq (aD 1 cV Z) Z (wq (aK 0 (.int _ _) aY M2 Z Z Z) Z (wq (kQ Z Z (by decide)) Z (aL 8 (.int .i32 (qH y)) (iE (bOj y)) (wq (cD [(0,.int _ _),(1,.int _ _)] _ aKz Z Z) Z (bB 1 _ kU M2 Z Z Z Z Z (aO Z) Z (fun w3 M3 => ?_))))))))))))))))))))
 refine aB (aC (aP (eS 1 kU M3 Z Z Z ?_)))
 exact ⟨Z,M3.below⟩
theorem aYu (w:World) (a:Bx) :
  Calls prog 228 #[(.agg (eF a).toArray)] w (Rb w (.tuple #[(.agg (dY (loC a)).toArray),(.agg (dY (hiC a)).toArray),.bool (decide (¬ kI a))])):=by
 refine aI #[.cell 2 271,.cell 3 271,.tmp 4] 21 func228 Z results228 ntmps228 Z ?_
 have M0:=Mem.refl w
 refine aE (aA (bN (.agg (.mk _)) M0 Z Z Z (fun b1 w1 M1=>(aQ tM M1 Z Z (fun b2 w2 M2=>(aQ tM M2 Z Z (fun b3 w3 M3=>(wq (aJ (.bool false) Z) Z (aB (aC (aE (aE (aA (wq (aU 0 lU M3 Z Z Z) Z (dO aSj Z Z M3 (aAs _ a) (fun w4 M4=>(aB (aC ?_))))))))))))))))))
 refine aW Z (fun h6 => ?_) (fun h6 => ?_)
 ·refine aE (fY [(0,1),(1,1),(2,2),(3,2),(4,0)] mixed M4 Z (by kernel_rfl) (fun w5 M5=>(bP Z Z Z (aU 1 kU M5 Z Z Z) (bP Z Z Z (aU 2 kU M5 Z Z Z) (dL [false,true] Z (by kernel_rfl) (bB 1 _ kU M5 Z Z Z Z Z (aO Z) Z (fun w6 M6 => ?_)))))))
  refine aB (aC ⟨(dQ (bC Z (aU 2 kU M6 Z Z Z)) dG), ?_⟩)
  refine dL [true] Z (by kernel_rfl) (bB 2 _ kU M6 Z Z Z Z Z (aO Z) Z (fun w7 M7 => ?_))
  refine aB (aC ⟨dG, ?_⟩)
  refine aX Z Z Z (fun _=>aJ (.bool false) Z) (bS (aC (aP (cN (bOa (v3:=.bool false) 1 2 kU M7 Z Z Z Z Z Z Z ?_)))))
  exact ⟨by unfold loC hiC;rw [if_pos h6,if_pos h6,decide_eq_false (fun h=>h h6)];rfl,M7.below⟩
 ·refine aM (aC (aE (fY [(0,0),(1,1),(2,0),(3,1),(4,0),(6,0),(7,1),(8,0),(9,1),(10,0),(5,2),(11,2),(12,2),(13,2),(14,0)] mixed M4 Z (by kernel_rfl) (fun w8 M8=>(aX Z Z Z (fun _=>aD 0 zA Z) (bP Z Z Z (aK 0 (.int _ _) aY M8 Z Z Z) (aX Z Z Z (fun _=>aD 1 zB Z) (bP Z Z Z (aK 0 (.int _ _) aY M8 Z Z Z) (aX Z Z Z (fun _=>cD [(0,.int _ _),(1,.int _ _)] _ fB Z Z) (aX Z Z Z (fun _=>aD 2 zC Z) (bP Z Z Z (aK 0 (.int _ _) aY M8 Z Z Z) ?_)))))))))))
  refine aX Z Z Z (fun _=>aD 3 zD Z) (bP Z Z Z (aK 0 (.int _ _) aY M8 Z Z Z) (aX Z Z Z (fun _=>cD [(0,.int _ _),(1,.int _ _)] _ fB Z Z) (dL [false,false,true,true] Z (by kernel_rfl) (dO bDv Z Z M8 (aVx _ a.x0 a.y0) (fun w9 M9 => ?_)))))
  refine aB (aC ⟨(dQ (bC Z (aK 0 (.int _ _) aY M9 Z Z Z)) (dQ (bC Z (aK 0 (.int _ _) aY M9 Z Z Z)) dG)), ?_⟩)
  refine dL [true,true] Z (by kernel_rfl) (dO bDv Z Z M9 (aVx _ a.x1 a.y1) (fun w10 M10 => ?_))
  refine aB (aC ⟨dG, ?_⟩)
  refine dL [] Z (by kernel_rfl) (bB 1 _ kU M10 Z Z Z Z Z (aO Z) Z (fun w11 M11 => ?_))
  refine aB (aC ⟨dG, ?_⟩)
  refine dL [] Z (by kernel_rfl) (bB 2 _ kU M11 Z Z Z Z Z (aO Z) Z (fun w12 M12 => ?_))
  refine aB (aC ⟨dG, ?_⟩)
  refine aX Z Z Z (fun _=>aJ (.bool true) Z) (bS (aC (aP (bOa (v3:=.bool true) 1 2 kU M12 Z Z Z Z Z Z Z ?_))))
  exact ⟨by unfold loC hiC;rw [if_neg h6,if_neg h6,decide_eq_true h6],M12.below⟩
theorem aSl (w:World) (a:Bx) :
  Calls prog 207 #[(.agg (eF a).toArray)] w (gK (fun v w'=>∃ b1 b2 b3,v=.func (.func 229) #[] #[.pointer (some ⟨b1,0,none⟩),.pointer (some ⟨b2,0,none⟩),.pointer (some ⟨b3,0,none⟩)]∧Mem w [] [(some b1,bc (dY (loC a)) 271),(some b3,bc (dY (hiC a)) 271),(some b2,bc [.bool (decide (¬ kI a))] 4)] w')):=by
 refine aI #[.tmp 2] 13 func207 Z results207 ntmps207 Z ?_
 have M0:=Mem.refl w
 refine aE (aA (bN (.agg (.mk _)) M0 Z Z Z (fun b1 w1 M1=>(wq (aJ (_) Z) Z (aB (aC (aE (aA (wq (aU 0 lU M1 Z Z Z) Z (dO bRn Z Z M1 (aYu _ a) (fun w2 M2=>(wq (aH (.tuple (List.toArray _)) Z) Z (wq (bM (.agg (.mk _)) Z Z) Z (wq (bM (.agg (.mk _)) Z Z) Z (wq (bM (.bool (decide _)) Z Z) Z (aQ tM M2 Z Z (fun b3 w3 M3=>(aQ tM M3 Z Z (fun b4 w4 M4=>(aQ aYc M4 Z Z (fun b5 w5 M5=>(bB 1 _ kU M5 Z Z Z Z Z (aO Z) Z (fun w6 M6 => ?_)))))))))))))))))))))))
 refine bB 2 _ kU M6 Z Z Z Z Z (aO Z) Z (fun w7 M7=>(dB 3 (.bool (decide _)) qS M7 Z Z Z Z Z Z (fun w8 M8=>(aB (aC (aE (aA (wq (dW [] [.pointer _,.pointer _,.pointer _] Z Z) Z (wq (aJ (.func _ _ _) Z) Z (aB (aC (aP (cI (.func _ _ _) Z ?_)))))))))))))
 exact ⟨b3,b5,b4,Z,M8.keep [false,true,true,true]⟩
theorem aOt (w:World) (lo hi:Int × Int) (ok:Bool) (b1 b2 b3:Nat) (L1:Rd w 2 (some ⟨b1,0,none⟩) 1 [dY lo]) (L2:Rd w 1 (some ⟨b2,0,none⟩) 1 [[.bool ok]]) (L3:Rd w 2 (some ⟨b3,0,none⟩) 1 [dY hi]) (hlo:Okc lo) (hhi:Okc hi) (lp ob:Nat) (rec:Loop) (hY:yI prog lp ob rec 269 271 2 1048576 (fun x=>∃ a b,x=[.int .i32 a,.int .i32 b])) (r0:Row) (hr0:aZ 271 2 r0.A r0.n r0.c [] r0.e) (hO:Own [(some lp,.loop rec),(some ob,bc [.slice r0.A r0.n r0.c] 269),r0.e] w) (hd1:0 < 1→∀ q off,(some ⟨b1,0,none⟩:Option Addr)=some ⟨q,off,none⟩→q∉bZ [(some lp,.loop rec),(some ob,bc [.slice r0.A r0.n r0.c] 269),r0.e]) (hd2:0 < 1→∀ q off,(some ⟨b2,0,none⟩:Option Addr)=some ⟨q,off,none⟩→q∉bZ [(some lp,.loop rec),(some ob,bc [.slice r0.A r0.n r0.c] 269),r0.e]) (hd3:0 < 1→∀ q off,(some ⟨b3,0,none⟩:Option Addr)=some ⟨q,off,none⟩→q∉bZ [(some lp,.loop rec),(some ob,bc [.slice r0.A r0.n r0.c] 269),r0.e]) :
  Calls prog 229 #[.func (.yield lp) #[] #[],.pointer (some ⟨b1,0,none⟩),.pointer (some ⟨b2,0,none⟩),.pointer (some ⟨b3,0,none⟩)] w (gK (fun v w'=>v=.tuple #[]∧∃ r:Row,aZ 271 2 r.A r.n r.c ((aAu ok lo hi).map dY) r.e∧Mem w (bZ [(some lp,.loop rec),(some ob,bc [.slice r0.A r0.n r0.c] 269),r0.e]) [(some lp,.loop rec),(some ob,bc [.slice r.A r.n r.c] 269),r.e] w')):=by
 rw [← iF b1,← iF b2,← iF b3]
 have hxd:nX lo hi=(hi.1 - lo.1+1).toNat:=rfl
 have hyd:nY lo hi=(hi.2 - lo.2+1).toNat:=rfl
 have hlx:=hlo.x
 have hly:=hlo.y
 have hhx:=hhi.x
 have hhy:=hhi.y
 have hnx:=bOg hlo hhi
 have hny:=bOh hlo hhi
 refine aI #[] 32 func229 Z results229 ntmps229 Z ?_
 have M0:=hO.mem
 refine aE (aA (wq (aT 1 aFs (L1.memY M0 hd1) (iU ((L1.memY M0 hd1).below_len (show ([dY lo]:List (List Value))[0]? = some (dY lo) from rfl))) rfl) rfl (wq (dP (o:=1) (.int _ _) aY (L1.memY M0 hd1) (show ([dY lo]:List (List Value))[0]? = some (dY lo) from rfl) rfl rfl) rfl (bJ rfl rfl (aB (aC (aS (dM (σ:=Nat × Row) [0,1,2,3] (fun (j,r)=>[(5,.int .i32 (lo.2+(j:Int)))]) (fun (j,r) w'=>(j≤nY lo hi∧(ok=false→j=0)∧aZ 271 2 r.A r.n r.c ((rH lo hi j).map dY) r.e)∧Mem w (bZ [(some lp,.loop rec),(some ob,bc [.slice r0.A r0.n r0.c] 269),r0.e]) [(some lp,.loop rec),(some ob,bc [.slice r.A r.n r.c] 269),r.e] w') (fun (j,r)=>nY lo hi - j) (0,r0) (bE (iv rfl (by simp)) eB) (⟨⟨by omega,fun _=>rfl,hr0⟩,M0⟩) ?_))))))))
 rintro ⟨j,r⟩ ρ1 w1 ⟨⟨hj,hjz,hr⟩,hM1⟩
 refine aE (aE (aA (wq (dP (o:=0) (.bool _) qS (L2.memY hM1 hd2) (show ([[.bool ok]]:List (List Value))[0]? = some ([.bool ok]) from Z) Z Z) Z (wq (aH (.bool _) Z) Z ?_))))
 refine kG 10 _ Z (fun g10 => ?_) (fun g10 => ?_)
 ·refine aR Z Z (wq (aT 1 aFs (L3.memY hM1 hd3) (iU ((L3.memY hM1 hd3).below_len (show ([dY hi]:List (List Value))[0]? = some (dY hi) from Z))) Z) Z (wq (dP (o:=1) (.int _ _) aY (L3.memY hM1 hd3) (show ([dY hi]:List (List Value))[0]? = some (dY hi) from Z) Z Z) Z (cY Z Z Z Z (wq (bQ true (.bool (decide _)) Z Z) Z (aB (aC ?_))))))
  refine aW Z (fun h15 => ?_) (fun h15 => ?_)
  ·refine aM (aC (aE (aS (aE (aA (wq (aT 0 aFr (L1.memY hM1 hd1) (iU ((L1.memY hM1 hd1).below_len (show ([dY lo]:List (List Value))[0]? = some (dY lo) from rfl))) rfl) rfl (wq (dP (o:=0) (.int _ _) aY (L1.memY hM1 hd1) (show ([dY lo]:List (List Value))[0]? = some (dY lo) from rfl) rfl rfl) rfl (bJ rfl rfl (aB (aC (aS (dM (σ:=Nat × Row) [0,1,2,3,5] (fun (i,q0)=>[(6,.int .i32 (lo.1+(i:Int)))]) (fun (i,q0) w'=>(i≤nX lo hi∧aZ 271 2 q0.A q0.n q0.c ((rH lo hi j++aHb lo i j).map dY) q0.e)∧Mem w (bZ [(some lp,.loop rec),(some ob,bc [.slice r0.A r0.n r0.c] 269),r0.e]) [(some lp,.loop rec),(some ob,bc [.slice q0.A q0.n q0.c] 269),q0.e] w') (fun (i,q0)=>nX lo hi - i) (0,r) (bE (iv rfl (by simp)) eB) (⟨⟨by omega,by simpa [aHb] using hr⟩,hM1⟩) ?_))))))))))))
   rintro ⟨i,q0⟩ ρ2 w2 ⟨⟨hi2,hq0⟩,hM2⟩
   have hql:(rH lo hi j).length+i=q0.n:=by simpa [aRa] using hq0.1
   refine aE (aE (aA (aR Z Z (wq (aT 0 aFr (L3.memY hM2 hd3) (iU ((L3.memY hM2 hd3).below_len (show ([dY hi]:List (List Value))[0]? = some (dY hi) from Z))) Z) Z (wq (dP (o:=0) (.int _ _) aY (L3.memY hM2 hd3) (show ([dY hi]:List (List Value))[0]? = some (dY hi) from Z) Z Z) Z (cY Z Z Z Z (aB (aC ?_))))))))
   refine aW Z (fun h23 => ?_) (fun h23 => ?_)
   ·have hlt6:=bHe (lo:=lo) (hi:=hi) (i:=i) (j:=j) hnx (by omega) (by omega)
    refine aM (aC (aE (aS (aE (aJm (aLf (aH (.func _ _ _) Z) Z Z (aLf (aH (.int _ _) Z) Z Z (aLf (aH (.int _ _) Z) Z Z (aLf (cD [(0,.int _ _),(1,.int _ _)] _ aKz Z Z) Z Z ?_)))))))))
    obtain ⟨fy,ty,ay,by1,hy1,hy2⟩:=hY _ q0 ((rH lo hi j++aHb lo i j).map dY) (dY (lo.1+(i:Int),lo.2+(j:Int))) ⟨_,_,rfl⟩ (by omega) hq0 (hM2.ownSeg 0 3)
    refine aLg Z Z Z Z hy1 (hy2.mono ?_)
    rintro _ w3 ⟨rfl,q3,hqn3,hq3,hM3⟩
    have M3:Mem _ _ [_,_,_] _:=hM2.seg 0 3 hM3
    refine ⟨_,Z, ?_⟩
    refine bIk Z (fun _ _ h=>h) (wq (gV false Z Z) Z (aB (aC (cF Z (aM (cU (aC (aA (aR Z Z (wq (jR Z Z (jU _ (by omega) (by omega))) Z (bJ Z Z (aB ?_))))))))))))
    refine bX (i+1,q3) (bE (iv Z (by omega)) eB) (cA Z (cA Z (cA Z (cA Z (cA Z gL))))) ?_ ?_
    ·exact ⟨⟨by omega,by rw [bAu,← List.append_assoc,List.map_append];exact hq3⟩,M3⟩
    ·(show nX lo hi - (i+1) < nX lo hi - i;omega)
   ·have hix:i=nX lo hi:=by omega
    refine cS (dE (dH (eO (cU (aC (aA (aR Z Z (wq (jR Z Z (jU _ (by omega) (by omega))) Z (bJ Z Z (aB ?_))))))))))
    refine bX (j+1,q0) (bE (iv Z (by omega)) eB) (cA Z (cA Z (cA Z (cA Z gL)))) ?_ ?_
    ·exact ⟨⟨by omega,fun h=>(by rw [g10] at h;cases h),by rw [aHc,← hix];exact hq0⟩,hM2⟩
    ·(show nY lo hi - (j+1) < nY lo hi - j;omega)
  ·refine cS (dE (dH (eO (kO ?_))))
   exact ⟨Z,r,by unfold aAu;first | (rw [if_pos g10,show nY lo hi=j by omega];exact hr) | (rw [if_neg (by rw [g10];decide)];rw [hjz g10] at hr;exact hr),hM1⟩
 ·refine aN Z Z (aN Z Z (aN Z Z (aN Z Z (wq (bQ false (.bool false) Z Z) Z (aB (aC (cF Z (cS (dE (dH (eO (kO ?_))))))))))))
  exact ⟨Z,r,by unfold aAu;first | (rw [if_pos g10,show nY lo hi=j by omega];exact hr) | (rw [if_neg (by rw [g10];decide)];rw [hjz g10] at hr;exact hr),hM1⟩
theorem bEc (w:World) (a:Bx) (ha:Okx a) :
  Calls prog 179 #[(.agg (eF a).toArray)] w (gK (fun v w'=>∃ r:Row,v=.slice r.A r.n r.c∧aZ 271 2 r.A r.n r.c ((kD a).map dY) r.e∧Mem w [] [r.e] w')):=by
 refine aCe #[.tmp 2] 13 func179 Z results179 ntmps179 Z ?_
 have M0:=Mem.refl w
 refine sR (qF (bN (.agg (.mk _)) M0 Z Z Z (fun b1 w1 M1=>(eG Z Z (aB (tK (sR (qF (aQ bMs M1 Z Z (fun b2 w2 M2=>(aB (tK (sR (sR (qF (wq (aU 0 lU M2 Z Z Z) Z (eL bRb Z Z (aSl _ a) ?_)))))))))))))))))
 rintro v3 w3 ⟨bl,bk,bh,rfl,hM3⟩
 have M3:Mem _ _ [_,_,_,_,_] _:=M2.call0 hM3
 refine aB (tK (aNz ?_))
 have M4:Mem _ _ [_,_,_,_,_] _:=((M3.keep [false,true,true,true,true]).dummy default).perm (List.Perm.cons _ (List.perm_append_comm (l₁:=[_,_,_]) (l₂:=[_])))
 refine aOa bRo M4 Z (fun fnn B lp tmps w1 hρ hn M1 => ?_)
 refine aHv (P:=prog) (ob:=b2) (Tsl:=269) (Te:=271) (sz:=2) (N:=1048576) (ok:=(fun x=>∃ a b,x=[.int .i32 a,.int .i32 b])) M1 ?_ (fun hY => ?_)
 ·intro wr r ls x hok hlt hrow hO
  obtain ⟨xa,xb,rfl⟩:=hok
  refine ⟨_,_,_,_,aQz hO Z Z Z hn (by decide) hρ ?_⟩
  have MR0:=hO.mem
  refine vG Z (fun _ _ h=>nomatch h.1) (aQ tM MR0 Z Z (fun b5 w5 M5=>(bB 3 _ kU M5 Z Z Z Z Z (aO Z) Z (fun w6 M6=>(aB ?_)))))
  refine ⟨Z,_,M6,Z,fun w7 M7 => ?_⟩
  refine aOb (vG rfl (fun _ _ h=>nomatch h.1) (wq (aK 1 (.slice _ _ _) aTr M7 rfl rfl rfl) rfl (wq (aU 3 kU M7 rfl rfl rfl) rfl (bW [.agg (List.toArray _)] [[.int .i32 xa,.int .i32 xb]] rfl bHs M7 rfl rfl rfl rfl (cQ rfl) (by decide) (fun b8 w8 M8=>(cO 2 [[.int .i32 xa,.int .i32 xb]] bHs M8 rfl rfl rfl rfl rfl hrow rfl (by simp [Go.Bil.one]) (dI.ofMem 4 M8 rfl) (by omega) (fun A9 c9 e9 w9 M9 hR9=>(dB 1 (.slice _ _ _) aTr M9 rfl rfl rfl rfl rfl rfl (fun w10 M10=>(aB (cU ?_)))))))))))
  refine ⟨Z,_,M10,Z,fun w11 M11 => ?_⟩
  exact ⟨⟨A9,r.n+1,c9,e9⟩,Z,hR9,M11.keep [true,true,true,false,false]⟩
 ·refine (aOt _ (loC a) (hiC a) _ bl bk bh (qT 3 M1 Z Z) (qT 5 M1 Z Z) (qT 4 M1 Z Z) (aTm ha) (aTe ha) lp b2 _ hY ⟨none,0,0,(none,default)⟩ (aZ.nil _ _ _) (M1.ownSeg 0 3) (M1.apartTake 3 3 Z Z) (M1.apartTake 3 5 Z Z) (M1.apartTake 3 4 Z Z)).mono ?_
  rintro _ w5 ⟨v5,rfl,rfl,r,hr,hM⟩
  have M5:Mem _ _ (_::[_,_,_,_,_,_]) _:=M1.seg 0 3 hM
  refine ⟨_,Z,_,M5,fun w6 M6 => ?_⟩
  refine bMy (tK (sR (aJl (aXx (aK 1 (.slice _ _ _) aTr M6 Z Z Z) Z Z (aXx (aJ (.slice _ _ _) Z) Z Z (aXw (tK (bBx (bNy (i:=6) (.slice _ _ _) Z M6 Z (fun w9 M9 => ?_))))))))))
  exact ⟨r,Z,hr,M9.keep [false,false,true,false,false,false,false]⟩
theorem aOs (w:World) (F:Rd w 2 (some ⟨0,0,none⟩) 1 [[.int .u32 73856093,.int .u32 19349663]]) (c:Int × Int) :
  Calls prog 180 #[(.agg (dY c).toArray)] w (Rb w (.int .i64 (fK c:Int))):=by
 refine aI #[.tmp 2] 20 func180 Z results180 ntmps180 Z ?_
 have M0:=Mem.refl w
 refine aE (aA (bN (.agg (.mk _)) M0 Z Z Z (fun b1 w1 M1=>(bJ Z Z (aB (aC (aE (aA (wq (aD 0 aFr Z) Z (wq (aK 0 (.int _ _) aY M1 Z Z Z) Z (wq (dF dZ underlying39 Z) Z (wq (cH (0) bCg Z Z Z (by decide)) Z (wq (dP (k:=0) (o:=0) (.int _ _) bV (F.mem M1) (show ([[.int .u32 73856093,.int .u32 19349663]]:List (List Value))[0]? = some [.int .u32 73856093,.int .u32 19349663] from Z) Z Z) Z (wq (cE (.int _ _) Z Z Z) Z (wq (aD 1 aFs Z) Z (wq (aK 0 (.int _ _) aY M1 Z Z Z) Z ?_))))))))))))))))
 refine wq (dF dZ underlying39 Z) Z (wq (cH (1) bCg Z Z Z (by decide)) Z (wq (dP (k:=0) (o:=1) (.int _ _) bV (F.mem M1) (show ([[.int .u32 73856093,.int .u32 19349663]]:List (List Value))[0]? = some [.int .u32 73856093,.int .u32 19349663] from Z) Z Z) Z (wq (cE (.int _ _) Z Z Z) Z (wq (cE (.int _ _) Z Z Z) Z (bJ Z Z (aB (aC (aE (aA (aR Z Z (wq (cE (.int _ _) Z Z Z) Z (aL 18 (.int .u32 (vK c)) Z (wq (bG wV underlying3 Z (fL _ (by have:=oI c;omega) (by have:=oI c;omega))) Z ?_)))))))))))))
 refine bJ Z Z (aB (aC (aP (cI (.int _ _) Z ?_))))
 exact ⟨iE (aYn c),M1.below⟩
theorem aPs (w:World) (F:Rd w 2 (some ⟨0,0,none⟩) 1 [[.int .u32 73856093,.int .u32 19349663]]) (b:Nat) (rs:List Row) (cnt:Int) (g:Nat→List Int) (hG:GridRows 39 rs g) (hcnt:0≤cnt∧cnt≤1048576) (hgl:∀ j,j < 1024→(g j).length≤1048576) (key:Int) (a:Bx) (ha:Okx a) (hO:Own ((some b,bc (fG rs cnt) 245)::rs.map Row.e) w) (hdF:0 < 1→∀ q off,(some ⟨0,0,none⟩:Option Addr)=some ⟨q,off,none⟩→q∉bZ ((some b,bc (fG rs cnt) 245)::rs.map Row.e)) :
  Calls prog 165 #[.pointer (some ⟨b,0,none⟩),.int .u32 key,(.agg (eF a).toArray)] w (gK (fun v w'=>v=.tuple #[]∧∃ rs':List Row,GridRows 39 rs' (wP g key ((kD a).map fK))∧Mem w (bZ ((some b,bc (fG rs cnt) 245)::rs.map Row.e)) ((some b,bc (fG rs' (cnt+1)) 245)::rs'.map Row.e) w')):=by
 refine aI #[] 49 func165 Z results165 ntmps165 Z ?_
 have M0:=hO.mem
 refine aE (aA (bN (.agg (.mk _)) M0 Z Z Z (fun b1 w1 M1 => ?_)))
 have M2:Mem _ _ ([_,_]++_) _:=Mem.front (L:=[_]) M1
 refine aB (aC (aE (aE (aA (wq (aH (.pointer _) Z) Z (wq (iB false underlying267 Z Z) Z (aB (aC (cF Z (aM (aC (aE (aA (wq (aH (.pointer _) Z) Z (wq (bK Z) Z (wq (aD 1024 aPn Z) Z (wq (aK 0 (.int .i64 cnt) fQ M2 Z Z (aFw hG.len)) Z (wq (bA Z Z (by omega) (by omega)) Z (wq (bK Z) Z (wq (aD 1024 aPn Z) Z (dB 0 (.int _ _) fQ M2 Z Z Z Z Z (by rw [aFw hG.len];rfl) (fun w3 M3 => ?_))))))))))))))))))))))
 have M3b:Mem _ _ ([(some b,bc (fG rs (cnt+1)) 245),_]++rs.map Row.e) _:=Mem.cells0 M3 (aIn hG.len)
 refine aB (aC (aE (aA (oG M3b Z Z (fun b4 w4 M4 => ?_)))))
 have M5:Mem _ _ ([_,_,_]++_) _:=Mem.front (L:=[_,_]) M4
 refine wq (aJ (.map _) Z) Z (aB (aC (aE (aA (wq (aU 1 lU M5 Z Z Z) Z (eL bQm Z Z (bEc _ a ha) ?_))))))
 rintro v6 w6 ⟨r0,rfl,hR0,hM6⟩
 have M6:Mem _ _ ([_,_,_,_]++_) _:=Mem.front (L:=[_,_,_]) (M5.call0 hM6)
 have hcl:(kD a).length=r0.n:=by simpa using hR0.1
 have hcb:=aSm ha
 refine wq (cK underlying269 Z) Z (aR Z Z (aB (aC (aS (dM (σ:=Nat × List Row × eN) [0,1,6,21,22] (fun (i,rs1,em)=>[(23,.int .i64 (i:Int))]) (fun (i,rs1,em) w'=>(i≤r0.n∧GridRows 39 rs1 (wP g key (((kD a).map fK).take i))∧kZ .i64 Value.bool (uC (((kD a).map fK).take i)) (some b4) em)∧Mem w (bZ ((some b,bc (fG rs cnt) 245)::rs.map Row.e)) ([(some b,bc (fG rs1 (cnt+1)) 245),(some b1,bc (eF a) 248),em,r0.e]++rs1.map Row.e) w') (fun (i,rs1,em)=>r0.n - i) (0,rs,(some b4,.map #[] 0)) (bE Z eB) (⟨⟨by omega,by rw [List.take_zero,bCb];exact hG,(kZ.empty _ _ b4).congr (fun q=>by rw [List.take_zero];exact aZf q)⟩,M6⟩) ?_)))))
 rintro ⟨i,rs1,em⟩ ρ7 w7 ⟨⟨hi,hrs,hme⟩,hM7⟩
 refine aE (aA (cY Z Z Z Z (aB (aC (aE ?_)))))
 refine aW Z (fun h24 => ?_) (fun h24 => ?_)
 ·obtain ⟨xc,hxc⟩:=cT (xs:=kD a) (k:=i) hcl (by omega)
  have hbb:((kD a).map fK)[i]? = some (fK xc):=by rw [List.getElem?_map,hxc];rfl
  refine aM (aC (aE (aS (aE (aA (wq (bI (i) bHs Z Z Z ((hR0.rd hM7 (bH (i:=3) Z)).below_len (aG dY hxc)) ((hR0.rd hM7 (bH (i:=3) Z)).someK (aG dY hxc))) Z (wq (dN _ kU (hR0.rd hM7 (bH (i:=3) Z)) (aG dY hxc) Z) Z (aQ tM hM7 Z Z (fun b8 w8 M8 => ?_)))))))))
  have M9:Mem _ _ ([_,_,_,_,_]++_) _:=Mem.front (L:=[_,_,_,_]) M8
  refine bB 4 _ kU M9 Z Z Z Z Z (aO Z) Z (fun w10 M10=>(aB (aC (aE (aA (wq (aU 4 kU M10 Z Z Z) Z (dO bQn Z Z M10 (aOs _ (F.memY M10 hdF) xc) (fun w11 M11=>(bJ Z Z (aB (aC (aE (aE (aA (wq (aH (.map _) Z) Z (aR Z Z (wq (mX (enc:=Value.bool) false 2 bFy zv4 M11 Z hme Z Z) Z (aB (aC ?_)))))))))))))))))))
  refine iV _ Z (fun h31 => ?_) (fun h31 => ?_)
  ·refine cS (dE (eO (aC (aA (wq (bA Z Z (by omega) (by omega)) Z (aR Z Z (aB ?_)))))))
   refine bX (i+1,rs1,em) (bE Z eB) (cA Z (cA Z (cA Z (cA Z (cA Z gL))))) ?_ ?_
   ·exact ⟨⟨by omega,by rw [bCc hbb (aAy.1 h31)];exact hrs,by rw [aZg hbb (aAy.1 h31)];exact hme⟩,Mem.keepL (L:=[_,_,_,_,_]) [true,true,true,true,false] M11⟩
   ·(show r0.n - (i+1) < r0.n - i;omega)
  ·have hnb:fK xc∉((kD a).map fK).take i:=fun h=>by have h2:=aAy.2 h;rw [h2] at h31;cases h31
   refine aM (aC (aE (aA (wq (aH (.map _) Z) Z (aR Z Z (lO (enc:=Value.bool) 2 bFy M11 Z Z hme Z Z Z Z (fun e12 w12 hm12 M12=>(aB (aC (fY [(0,0),(1,0),(2,0),(3,0),(4,0),(5,0),(6,0),(7,1),(8,0),(11,0),(12,0),(9,2),(10,2),(13,0),(14,2)] mixed M12 Z (by kernel_rfl) (fun w13 M13=>(aX Z Z Z (fun _=>aH (.pointer _) Z) (eD Z Z Z (aX Z Z Z (fun _=>aH (.pointer _) Z) (eD Z Z Z (aX Z Z Z (fun _=>bK Z) (aX Z Z Z (fun _=>aD 0 aFq Z) ?_)))))))))))))))))
   refine aX Z Z Z (fun _=>cH (fK xc) aRy Z Z Z (mR xc)) ?_
   obtain ⟨rb,hrb⟩:=hrs.get (mR xc)
   have hrowb:=hrs.row _ _ hrb
   have hgb:wP g key (((kD a).map fK).take i) (fK xc)=g (fK xc):=by unfold wP;rw [if_neg hnb]
   have hrn:(wP g key (((kD a).map fK).take i) (fK xc)).length=rb.n:=by simpa using hrowb.1
   have hgl:=hgl (fK xc) (mR xc)
   rw [hgb] at hrn
   have M14:Mem _ _ ([_,_,_,_,_,_]++(rs1.eraseIdx (fK xc)).map Row.e) _:=Mem.pull (L:=[_,_,_,_,_]) (rs:=rs1) M13 hrb
   refine bP Z Z Z (aK 0 (.slice _ _ _) aMz M14 Z Z (xR hrb)) (eD Z Z Z (aX Z Z Z (fun _=>bK Z) (aX Z Z Z (fun _=>aD 0 aFq Z) (dL [false] Z (by kernel_rfl) (bW [.int _ _] [iO key] Z aRk M14 Z Z Z Z (cQ Z) (by decide) (fun b15 w15 M15 => ?_))))))
   have M16:Mem _ _ ([_,_,_,_,_,_,_]++_) _:=Mem.front (L:=[_,_,_,_,_,_]) M15
   refine aB (aC ⟨(dQ (bC Z (aK 0 (.slice _ _ _) aMz M16 Z Z (xR hrb))) dG), ?_⟩)
   refine dL [true] Z (by kernel_rfl) (cO 5 [iO key] aRk M16 Z Z Z Z Z hrowb Z (aTj _) (dI.ofMem 6 M16 Z) (by omega) (fun A17 c17 e17 w17 M17 hR17 => ?_))
   refine aB (aC ⟨dG, ?_⟩)
   refine aX Z Z Z (fun _=>cH (fK xc) aRy Z Z Z (mR xc)) (dL [] Z (by kernel_rfl) (dB 0 (.slice _ _ _) aMz M17 Z Z Z Z Z (by rw [xR hrb];rfl) (fun w18 M18 => ?_)))
   have M18b:Mem _ _ ([(some b,bc (fG (rs1.set (fK xc) (⟨A17,rb.n+1,c17,e17⟩:Row)) (cnt+1)) 245),_,_,_,_,_,_]++(rs1.eraseIdx (fK xc)).map Row.e) _:=Mem.cells0 M18 (aIo (⟨A17,rb.n+1,c17,e17⟩:Row) (by rw [hrs.len];exact mR xc))
   refine aB (aC ⟨dG, ?_⟩)
   refine bS (cU (aC (aA (wq (bA Z Z (by omega) (by omega)) Z (aR Z Z (aB ?_))))))
   refine bX (i+1,rs1.set (fK xc) (⟨A17,rb.n+1,c17,e17⟩:Row),e12) (bE Z eB) (cA Z (cA Z (cA Z (cA Z (cA Z gL))))) ?_ ?_
   ·exact ⟨⟨by omega,by rw [bCa hbb hnb];exact hrs.put (r:=(⟨A17,rb.n+1,c17,e17⟩:Row)) (mR xc) (by simpa using hR17),hm12.congr (fun q=>aJu hbb q)⟩,Mem.push (L:=[_,_,_,_]) (rs:=rs1) (⟨A17,rb.n+1,c17,e17⟩:Row) (Mem.keepL (L:=[_,_,_,_,_,_,_]) [true,true,true,true,false,true,false] M18b) (by rw [hrs.len];exact mR xc)⟩
   ·(show r0.n - (i+1) < r0.n - i;omega)
 ·have hin:i=r0.n:=by omega
  rw [List.take_of_length_le (by simp;omega)] at hrs
  refine cS (dE (dH (eO (kO ?_))))
  exact ⟨Z,rs1,hrs,Mem.keepL (L:=[_,_,_,_]) [true,false,false,false] hM7⟩
end Go.Proofs.YtpcloigancpnbaaGreatDoor
