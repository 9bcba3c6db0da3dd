/- Part of the proof of a law of this seat (3 texts). No conditions. -/
import Derived.Test.YtaoaknafiegfoaaGreatDoorK5
import Derived.Test.YtaoaknafiegfoaaGreatDoorK15
set_option linter.unusedVariables false
set_option linter.unusedSimpArgs false
set_option linter.unnecessarySimpa false
set_option maxHeartbeats 100000000
namespace Go.Proofs.YtaoaknafiegfoaaGreatDoor
open Go.Bil
open Go.RowKit (Below)
open Go.Proofs
open Go.Proofs.Tryz
theorem aQj (w:World) (x:Int) (h0 : -2147483647≤x) (h1:x≤2147483647) :
  Calls prog 253 #[.int .i32 x] w (Rb w (.int .i32 (max x (-x)))):=by
 refine aI #[.tmp 2] 7 func253 Z results253 ntmps253 Z ?_
 have M0:=Mem.refl w
 refine aE (aA (bL Z Z (aB (aC (aE (aA (aT Z Z (aT Z Z (wq (sX Z (kM _ (by omega) (by omega))) Z (wq (qF Z Z ) Z (bL Z Z (aB (aC (aR (cF (.int _ _) Z ?_)))))))))))))))
 exact ⟨iE (by omega),M0.below⟩
theorem aQi (w:World) (b:Body) (hb:Okb b) :
  Calls prog 229 #[(.agg (aF b).toArray)] w (Rb w (.tuple #[.int .i32 (aVg b),.int .i32 (aVh b)])):=by
 have hr:=hb.r
 have ha:=hb.a
 have hp:=hb.p
 refine aI #[.tmp 2,.tmp 3] 18 func229 Z results229 ntmps229 Z ?_
 have M0:=Mem.refl w
 refine aE (aA (bO (.agg (.mk _)) M0 Z Z Z (fun b1 w1 M1=>(bL Z Z (bL Z Z (aB (aC (aE (gJ [(0,0),(1,0),(2,1),(4,0),(5,1),(7,0),(8,0),(9,1),(11,0),(12,1),(3,2),(6,0),(10,2),(13,0),(14,0),(15,0)] mixed M1 Z (by kernel_rfl) (fun w2 M2=>(aX Z Z Z (fun _=>aD 2 kE Z) (aX Z Z Z (fun _=>aD 0 cY Z) (bQ Z Z Z (aK 0 (.int _ _) bB M2 Z Z Z) (aX Z Z Z (fun _=>aD 1 mU Z) (bQ Z Z Z (aK 0 (.int _ _) bB M2 Z Z Z) (aX Z Z Z (fun _=>aD 2 kE Z) ?_))))))))))))))))
 refine aX Z Z Z (fun _=>aD 1 cW Z) (bQ Z Z Z (aK 0 (.int _ _) bB M2 Z Z Z) (aX Z Z Z (fun _=>aD 1 mU Z) (bQ Z Z Z (aK 0 (.int _ _) bB M2 Z Z Z) (dO [false,false,false,true] Z (by kernel_rfl) (dM bFy Z Z M2 (aQj _ _ (by omega) (by omega)) (fun w3 M3 => ?_))))))
 refine aB (aC ⟨(dS (bH Z (aK 0 (.int _ _) bB M3 Z Z Z)) (dS (bH Z (aK 0 (.int _ _) bB M3 Z Z Z)) (dS (bH Z (aK 0 (.int _ _) bB M3 Z Z Z)) dI))), ?_⟩)
 refine aX Z Z Z (fun _=>kJ Z Z (kM _ (by omega) (by omega))) (dO [false,true,false] Z (by kernel_rfl) (dM bFy Z Z M3 (aQj _ _ (by omega) (by omega)) (fun w4 M4 => ?_)))
 refine aB (aC ⟨(dS (bH Z (aK 0 (.int _ _) bB M4 Z Z Z)) (dS (bH Z (aK 0 (.int _ _) bB M4 Z Z Z)) dI)), ?_⟩)
 refine aX Z Z Z (fun _=>kJ Z Z (kM _ (by omega) (by omega))) (nV Z Z Z (nV Z Z Z (bS (aC (aR (gE (.int _ _) (.int _ _) Z Z ?_))))))
 exact ⟨Z,M4.below⟩
theorem bQz (w:World) (b:Body) (hb:Okb b) :
  Calls prog 203 #[(.agg (aF b).toArray)] w (Rb w ((.agg (dY (iO b)).toArray))):=by
 have hr:=hb.r
 have ha:=hb.a
 have hp:=hb.p
 have he:=bHa hb
 refine aI #[.cell 2 253] 31 func203 Z results203 ntmps203 Z ?_
 have M0:=Mem.refl w
 refine aE (aA (bO (.agg (.mk _)) M0 Z Z Z (fun b1 w1 M1=>(aO aPo M1 Z Z (fun b2 w2 M2=>(aB (aC (aE (aA (wq (aV 0 bR M2 Z Z Z) Z (dM bTp Z Z M2 (aQi _ b hb) (fun w3 M3=>(wq (aH (.tuple (List.toArray _)) Z) Z (wq (bJ (.int _ _) Z Z) Z (wq (bJ (.int _ _) Z Z) Z (bL Z Z (bL Z Z (aB (aC (aE (aA (wq (aD 6 fZ Z) Z (wq (aD 0 cY Z) Z (wq (aK 0 (.int _ _) bB M3 Z Z Z) Z (aT Z Z ?_)))))))))))))))))))))))))
 refine wq (oZ Z Z (kM _ (by omega) (by omega))) Z (wq (aD 6 fZ Z) Z (wq (aD 1 cW Z) Z (wq (aK 0 (.int _ _) bB M3 Z Z Z) Z (aT Z Z (wq (oZ Z Z (kM _ (by omega) (by omega))) Z (wq (aD 6 fZ Z) Z (wq (aD 0 cY Z) Z (wq (aK 0 (.int _ _) bB M3 Z Z Z) Z (aT Z Z (wq (kJ Z Z (kM _ (by omega) (by omega))) Z (wq (aD 6 fZ Z) Z (wq (aD 1 cW Z) Z (wq (aK 0 (.int _ _) bB M3 Z Z Z) Z (aT Z Z (wq (kJ Z Z (kM _ (by omega) (by omega))) Z ?_)))))))))))))))
 refine wq (cI [(0,.int _ _),(1,.int _ _),(2,.int _ _),(3,.int _ _)] _ aMo Z Z) Z (bC 1 _ mJ M3 Z Z Z Z Z (aP Z) Z (fun w4 M4=>(aB (aC (aR (fA 1 mJ M4 Z Z Z ?_))))))
 exact ⟨Z,M4.below⟩
theorem aCg (w:World) (a:Bx) :
  Calls prog 231 #[(.agg (dY a).toArray)] w (Rb w (.bool (decide (kZ a)))):=by
 refine aI #[.tmp 2] 15 func231 Z results231 ntmps231 Z ?_
 have M0:=Mem.refl w
 refine aE (aA (bO (.agg (.mk _)) M0 Z Z Z (fun b1 w1 M1=>(wq (aJ (.bool false) Z) Z (aB (aC (aE (aA (wq (aD 0 aAq Z) Z (wq (aK 0 (.int _ _) bB M1 Z Z Z) Z (wq (aD 2 aAs Z) Z (wq (aK 0 (.int _ _) bB M1 Z Z Z) Z (cV Z Z Z Z (wq (aH (.bool (decide _)) Z) Z ?_))))))))))))))
 refine dT 8 Z (fun g8 => ?_) (fun g8 => ?_)
 ·refine aQ Z Z (aQ Z Z (aQ Z Z (aQ Z Z (aQ Z Z (wq (bM true (.bool true) Z Z) Z (wq (aJ (.bool true) Z) Z (aB (aC (aR (cF (.bool true) Z ?_))))))))))
  exact ⟨by unfold kZ;first | exact bT (by omega) | exact bD (by omega),M1.below⟩
 ·refine wq (aD 1 aAr Z) Z (wq (aK 0 (.int _ _) bB M1 Z Z Z) Z (wq (aD 3 aAt Z) Z (wq (aK 0 (.int _ _) bB M1 Z Z Z) Z (cV Z Z Z Z (wq (bM false (.bool (decide _)) Z Z) Z (wq (aJ (.bool (decide _)) Z) Z (aB (aC (aR (cF (.bool (decide _)) Z ?_))))))))))
  exact ⟨by unfold kZ;first | exact bT (by omega) | exact bD (by omega),M1.below⟩
theorem bEt (w:World) (N:Rd w 4 (some ⟨3,0,none⟩) 1 [dY gZ]) (a b:Bx) :
  Calls prog 232 #[(.agg (dY a).toArray),(.agg (dY b).toArray)] w (Rb w ((.agg (dY (aLw a b)).toArray))):=by
 refine aI #[.cell 4 253] 31 func232 Z results232 ntmps232 Z ?_
 have M0:=Mem.refl w
 refine aE (aA (bO (.agg (.mk _)) M0 Z Z Z (fun b1 w1 M1=>(bO (.agg (.mk _)) M1 Z Z Z (fun b2 w2 M2=>(aO aPo M2 Z Z (fun b3 w3 M3=>(aB (aC (aE (aA (wq (aD 0 aAq Z) Z (wq (aK 0 (.int _ _) bB M3 Z Z Z) Z (wq (aD 0 aAq Z) Z (wq (aK 1 (.int _ _) bB M3 Z Z Z) Z (wq (qF Z Z ) Z (wq (aD 1 aAr Z) Z (wq (aK 0 (.int _ _) bB M3 Z Z Z) Z (wq (aD 1 aAr Z) Z (wq (aK 1 (.int _ _) bB M3 Z Z Z) Z (wq (qF Z Z ) Z ?_)))))))))))))))))))))
 refine wq (aD 2 aAs Z) Z (wq (aK 0 (.int _ _) bB M3 Z Z Z) Z (wq (aD 2 aAs Z) Z (wq (aK 1 (.int _ _) bB M3 Z Z Z) Z (wq (aIm Z Z ) Z (wq (aD 3 aAt Z) Z (wq (aK 0 (.int _ _) bB M3 Z Z Z) Z (wq (aD 3 aAt Z) Z (wq (aK 1 (.int _ _) bB M3 Z Z Z) Z (wq (aIm Z Z ) Z (wq (cI [(0,.int _ _),(1,.int _ _),(2,.int _ _),(3,.int _ _)] _ aMo Z Z) Z (aO aPo M3 Z Z (fun b4 w4 M4=>(bC 3 _ mJ M4 Z Z Z Z Z (aP Z) Z (fun w5 M5 => ?_))))))))))))))
 refine aB (aC (aE (aE (aA (wq (aV 3 mJ M5 Z Z Z) Z (dM aUr Z Z M5 (aCg _ ⟨max a.x0 b.x0,max a.y0 b.y0,min a.x1 b.x1,min a.y1 b.y1⟩) (fun w6 M6=>(aB (aC ?_)))))))))
 refine aW Z (fun h28 => ?_) (fun h28 => ?_)
 ·refine aE (aA (wq (lS (k:=0) (o:=0) _ mJ (N.mem M6) (show ([dY gZ]:List (List Value))[0]? = some (dY gZ) from Z) Z Z Z) Z (bC 2 _ mJ M6 Z Z Z Z Z (aP Z) Z (fun w7 M7=>(aB (aC (aR (cK (fA 2 mJ M7 Z Z Z ?_)))))))))
  exact ⟨by unfold aLw;rw [if_pos h28];rfl,M7.below⟩
 ·refine aM (aC (aE (aA (wq (aV 3 mJ M6 Z Z Z) Z (bC 2 _ mJ M6 Z Z Z Z Z (aP Z) Z (fun w8 M8=>(aB (aC (aR (fA 2 mJ M8 Z Z Z ?_))))))))))
  exact ⟨by unfold aLw;rw [if_neg h28];rfl,M8.below⟩
theorem aQk (w:World) (N:Rd w 4 (some ⟨3,0,none⟩) 1 [dY gZ]) (a b:Bx) :
  Calls prog 207 #[(.agg (dY a).toArray),(.agg (dY b).toArray)] w (Rb w (.bool (decide (ovl a b)))):=by
 refine aI #[.tmp 4] 10 func207 Z results207 ntmps207 Z ?_
 have M0:=Mem.refl w
 refine aE (aA (bO (.agg (.mk _)) M0 Z Z Z (fun b1 w1 M1=>(bO (.agg (.mk _)) M1 Z Z Z (fun b2 w2 M2=>(wq (aJ (.bool false) Z) Z (aB (aC (aE (aA (wq (aV 0 mJ M2 Z Z Z) Z (wq (aV 1 mJ M2 Z Z Z) Z (dM bTr Z Z M2 (bEt _ (N.mem M2) a b) (fun w3 M3=>(dM aUr Z Z M3 (aCg _ (aLw a b)) (fun w4 M4=>(wq (pT Z) Z (wq (aJ (.bool (decide _)) Z) Z (aB (aC (aR (cF (.bool (decide _)) Z ?_))))))))))))))))))))))
 exact ⟨bD (bIm a b),M4.below⟩
theorem aYc (w:World) (x y:Int) :
  Calls prog 267 #[.agg [.int .i32 x,.int .i32 y].toArray] w (Rb w ((.agg (eD (rC x,rC y)).toArray))):=by
 refine aI #[.cell 2 283] 10 func267 Z results267 ntmps267 Z ?_
 have M0:=Mem.refl w
 refine aE (aA (bO (.agg (.mk _)) M0 Z Z Z (fun b1 w1 M1=>(aO uZ M1 Z Z (fun b2 w2 M2=>(aB (aC (aE (aA (wq (aD 0 cY Z) Z (wq (aK 0 (.int _ _) bB M2 Z Z Z) Z (wq (lH Z Z (by decide)) Z (aL 5 (.int .i32 (rC x)) (iE (bQk x)) (wq (aD 1 cW Z) Z (wq (aK 0 (.int _ _) bB M2 Z Z Z) Z (wq (lH Z Z (by decide)) Z (aL 8 (.int .i32 (rC y)) (iE (bQk y)) (wq (cI [(0,.int _ _),(1,.int _ _)] _ aMp Z Z) Z (bC 1 _ lK M2 Z Z Z Z Z (aP Z) Z (fun w3 M3 => ?_))))))))))))))))))))
 refine aB (aC (aR (fA 1 lK M3 Z Z Z ?_)))
 exact ⟨Z,M3.below⟩
theorem bBa (w:World) (a:Bx) :
  Calls prog 254 #[(.agg (dY a).toArray)] w (Rb w (.tuple #[(.agg (eD (loC a)).toArray),(.agg (eD (hiC a)).toArray),.bool (decide (¬ kZ a))])):=by
 refine aI #[.cell 2 283,.cell 3 283,.tmp 4] 21 func254 Z results254 ntmps254 Z ?_
 have M0:=Mem.refl w
 refine aE (aA (bO (.agg (.mk _)) M0 Z Z Z (fun b1 w1 M1=>(aO uZ M1 Z Z (fun b2 w2 M2=>(aO uZ M2 Z Z (fun b3 w3 M3=>(wq (aJ (.bool false) Z) Z (aB (aC (aE (aE (aA (wq (aV 0 mJ M3 Z Z Z) Z (dM aUr Z Z M3 (aCg _ a) (fun w4 M4=>(aB (aC ?_))))))))))))))))))
 refine aW Z (fun h6 => ?_) (fun h6 => ?_)
 ·refine aE (gJ [(0,1),(1,1),(2,2),(3,2),(4,0)] mixed M4 Z (by kernel_rfl) (fun w5 M5=>(bQ Z Z Z (aV 1 lK M5 Z Z Z) (bQ Z Z Z (aV 2 lK M5 Z Z Z) (dO [false,true] Z (by kernel_rfl) (bC 1 _ lK M5 Z Z Z Z Z (aP Z) Z (fun w6 M6 => ?_)))))))
  refine aB (aC ⟨(dS (bH Z (aV 2 lK M6 Z Z Z)) dI), ?_⟩)
  refine dO [true] Z (by kernel_rfl) (bC 2 _ lK M6 Z Z Z Z Z (aP Z) Z (fun w7 M7 => ?_))
  refine aB (aC ⟨dI, ?_⟩)
  refine aX Z Z Z (fun _=>aJ (.bool false) Z) (bS (aC (aR (cK (bQc (v3:=.bool false) 1 2 lK M7 Z Z Z Z Z Z Z ?_)))))
  exact ⟨by unfold loC hiC;rw [if_pos h6,if_pos h6,decide_eq_false (fun h=>h h6)];rfl,M7.below⟩
 ·refine aM (aC (aE (gJ [(0,0),(1,1),(2,0),(3,1),(4,0),(6,0),(7,1),(8,0),(9,1),(10,0),(5,2),(11,2),(12,2),(13,2),(14,0)] mixed M4 Z (by kernel_rfl) (fun w8 M8=>(aX Z Z Z (fun _=>aD 0 aAq Z) (bQ Z Z Z (aK 0 (.int _ _) bB M8 Z Z Z) (aX Z Z Z (fun _=>aD 1 aAr Z) (bQ Z Z Z (aK 0 (.int _ _) bB M8 Z Z Z) (aX Z Z Z (fun _=>cI [(0,.int _ _),(1,.int _ _)] _ fK Z Z) (aX Z Z Z (fun _=>aD 2 aAs Z) (bQ Z Z Z (aK 0 (.int _ _) bB M8 Z Z Z) ?_)))))))))))
  refine aX Z Z Z (fun _=>aD 3 aAt Z) (bQ Z Z Z (aK 0 (.int _ _) bB M8 Z Z Z) (aX Z Z Z (fun _=>cI [(0,.int _ _),(1,.int _ _)] _ fK Z Z) (dO [false,false,true,true] Z (by kernel_rfl) (dM bGc Z Z M8 (aYc _ a.x0 a.y0) (fun w9 M9 => ?_)))))
  refine aB (aC ⟨(dS (bH Z (aK 0 (.int _ _) bB M9 Z Z Z)) (dS (bH Z (aK 0 (.int _ _) bB M9 Z Z Z)) dI)), ?_⟩)
  refine dO [true,true] Z (by kernel_rfl) (dM bGc Z Z M9 (aYc _ a.x1 a.y1) (fun w10 M10 => ?_))
  refine aB (aC ⟨dI, ?_⟩)
  refine dO [] Z (by kernel_rfl) (bC 1 _ lK M10 Z Z Z Z Z (aP Z) Z (fun w11 M11 => ?_))
  refine aB (aC ⟨dI, ?_⟩)
  refine dO [] Z (by kernel_rfl) (bC 2 _ lK M11 Z Z Z Z Z (aP Z) Z (fun w12 M12 => ?_))
  refine aB (aC ⟨dI, ?_⟩)
  refine aX Z Z Z (fun _=>aJ (.bool true) Z) (bS (aC (aR (bQc (v3:=.bool true) 1 2 lK M12 Z Z Z Z Z Z Z ?_))))
  exact ⟨by unfold loC hiC;rw [if_neg h6,if_neg h6,decide_eq_true h6],M12.below⟩
theorem aUt (w:World) (a:Bx) :
  Calls prog 230 #[(.agg (dY a).toArray)] w (gY (fun v w'=>∃ b1 b2 b3,v=.func (.func 255) #[] #[.pointer (some ⟨b1,0,none⟩),.pointer (some ⟨b2,0,none⟩),.pointer (some ⟨b3,0,none⟩)]∧Mem w [] [(some b1,bc (eD (loC a)) 283),(some b3,bc (eD (hiC a)) 283),(some b2,bc [.bool (decide (¬ kZ a))] 4)] w')):=by
 refine aI #[.tmp 2] 13 func230 Z results230 ntmps230 Z ?_
 have M0:=Mem.refl w
 refine aE (aA (bO (.agg (.mk _)) M0 Z Z Z (fun b1 w1 M1=>(wq (aJ (_) Z) Z (aB (aC (aE (aA (wq (aV 0 mJ M1 Z Z Z) Z (dM bUb Z Z M1 (bBa _ a) (fun w2 M2=>(wq (aH (.tuple (List.toArray _)) Z) Z (wq (bJ (.agg (.mk _)) Z Z) Z (wq (bJ (.agg (.mk _)) Z Z) Z (wq (bJ (.bool (decide _)) Z Z) Z (aO uZ M2 Z Z (fun b3 w3 M3=>(aO uZ M3 Z Z (fun b4 w4 M4=>(aO bAi M4 Z Z (fun b5 w5 M5=>(bC 1 _ lK M5 Z Z Z Z Z (aP Z) Z (fun w6 M6 => ?_)))))))))))))))))))))))
 refine bC 2 _ lK M6 Z Z Z Z Z (aP Z) Z (fun w7 M7=>(dA 3 (.bool (decide _)) rR M7 Z Z Z Z Z Z (fun w8 M8=>(aB (aC (aE (aA (wq (eB [] [.pointer _,.pointer _,.pointer _] Z Z) Z (wq (aJ (.func _ _ _) Z) Z (aB (aC (aR (cF (.func _ _ _) Z ?_)))))))))))))
 exact ⟨b3,b5,b4,Z,M8.keep [false,true,true,true]⟩
theorem aQr (w:World) (lo hi:Int × Int) (ok:Bool) (b1 b2 b3:Nat) (L1:Rd w 2 (some ⟨b1,0,none⟩) 1 [eD lo]) (L2:Rd w 1 (some ⟨b2,0,none⟩) 1 [[.bool ok]]) (L3:Rd w 2 (some ⟨b3,0,none⟩) 1 [eD hi]) (hlo:Okc lo) (hhi:Okc hi) (lp ob:Nat) (rec:Loop) (hY:aAa prog lp ob rec 281 283 2 1048576 (fun x=>∃ a b,x=[.int .i32 a,.int .i32 b])) (r0:Row) (hr0:bA 283 2 r0.A r0.n r0.c [] r0.e) (hO:Own [(some lp,.loop rec),(some ob,bc [.slice r0.A r0.n r0.c] 281),r0.e] w) (hd1:0 < 1→∀ q off,(some ⟨b1,0,none⟩:Option Addr)=some ⟨q,off,none⟩→q∉cD [(some lp,.loop rec),(some ob,bc [.slice r0.A r0.n r0.c] 281),r0.e]) (hd2:0 < 1→∀ q off,(some ⟨b2,0,none⟩:Option Addr)=some ⟨q,off,none⟩→q∉cD [(some lp,.loop rec),(some ob,bc [.slice r0.A r0.n r0.c] 281),r0.e]) (hd3:0 < 1→∀ q off,(some ⟨b3,0,none⟩:Option Addr)=some ⟨q,off,none⟩→q∉cD [(some lp,.loop rec),(some ob,bc [.slice r0.A r0.n r0.c] 281),r0.e]) :
  Calls prog 255 #[.func (.yield lp) #[] #[],.pointer (some ⟨b1,0,none⟩),.pointer (some ⟨b2,0,none⟩),.pointer (some ⟨b3,0,none⟩)] w (gY (fun v w'=>v=.tuple #[]∧∃ r:Row,bA 283 2 r.A r.n r.c ((aCi ok lo hi).map eD) r.e∧Mem w (cD [(some lp,.loop rec),(some ob,bc [.slice r0.A r0.n r0.c] 281),r0.e]) [(some lp,.loop rec),(some ob,bc [.slice r.A r.n r.c] 281),r.e] w')):=by
 rw [← iP b1,← iP b2,← iP b3]
 have hxd:nX lo hi=(hi.1 - lo.1+1).toNat:=rfl
 have hyd:nY lo hi=(hi.2 - lo.2+1).toNat:=rfl
 have hlx:=hlo.x
 have hly:=hlo.y
 have hhx:=hhi.x
 have hhy:=hhi.y
 have hnx:=bQi hlo hhi
 have hny:=bQj hlo hhi
 refine aI #[] 32 func255 Z results255 ntmps255 Z ?_
 have M0:=hO.mem
 refine aE (aA (wq (aU 1 aHl (L1.memY M0 hd1) (jD ((L1.memY M0 hd1).below_len (show ([eD lo]:List (List Value))[0]? = some (eD lo) from rfl))) rfl) rfl (wq (dR (o:=1) (.int _ _) bB (L1.memY M0 hd1) (show ([eD lo]:List (List Value))[0]? = some (eD lo) from rfl) rfl rfl) rfl (bL rfl rfl (aB (aC (aS (dK (σ:=Nat × Row) [0,1,2,3] (fun (j,r)=>[(5,.int .i32 (lo.2+(j:Int)))]) (fun (j,r) w'=>(j≤nY lo hi∧(ok=false→j=0)∧bA 283 2 r.A r.n r.c ((sK lo hi j).map eD) r.e)∧Mem w (cD [(some lp,.loop rec),(some ob,bc [.slice r0.A r0.n r0.c] 281),r0.e]) [(some lp,.loop rec),(some ob,bc [.slice r.A r.n r.c] 281),r.e] w') (fun (j,r)=>nY lo hi - j) (0,r0) (bI (iv rfl (by simp)) eC) (⟨⟨by omega,fun _=>rfl,hr0⟩,M0⟩) ?_))))))))
 rintro ⟨j,r⟩ ρ1 w1 ⟨⟨hj,hjz,hr⟩,hM1⟩
 refine aE (aE (aA (wq (dR (o:=0) (.bool _) rR (L2.memY hM1 hd2) (show ([[.bool ok]]:List (List Value))[0]? = some ([.bool ok]) from Z) Z Z) Z (wq (aH (.bool _) Z) Z ?_))))
 refine kH 10 _ Z (fun g10 => ?_) (fun g10 => ?_)
 ·refine aT Z Z (wq (aU 1 aHl (L3.memY hM1 hd3) (jD ((L3.memY hM1 hd3).below_len (show ([eD hi]:List (List Value))[0]? = some (eD hi) from Z))) Z) Z (wq (dR (o:=1) (.int _ _) bB (L3.memY hM1 hd3) (show ([eD hi]:List (List Value))[0]? = some (eD hi) from Z) Z Z) Z (cV Z Z Z Z (wq (bM true (.bool (decide _)) Z Z) Z (aB (aC ?_))))))
  refine aW Z (fun h15 => ?_) (fun h15 => ?_)
  ·refine aM (aC (aE (aS (aE (aA (wq (aU 0 aHk (L1.memY hM1 hd1) (jD ((L1.memY hM1 hd1).below_len (show ([eD lo]:List (List Value))[0]? = some (eD lo) from rfl))) rfl) rfl (wq (dR (o:=0) (.int _ _) bB (L1.memY hM1 hd1) (show ([eD lo]:List (List Value))[0]? = some (eD lo) from rfl) rfl rfl) rfl (bL rfl rfl (aB (aC (aS (dK (σ:=Nat × Row) [0,1,2,3,5] (fun (i,q0)=>[(6,.int .i32 (lo.1+(i:Int)))]) (fun (i,q0) w'=>(i≤nX lo hi∧bA 283 2 q0.A q0.n q0.c ((sK lo hi j++aIr lo i j).map eD) q0.e)∧Mem w (cD [(some lp,.loop rec),(some ob,bc [.slice r0.A r0.n r0.c] 281),r0.e]) [(some lp,.loop rec),(some ob,bc [.slice q0.A q0.n q0.c] 281),q0.e] w') (fun (i,q0)=>nX lo hi - i) (0,r) (bI (iv rfl (by simp)) eC) (⟨⟨by omega,by simpa [aIr] using hr⟩,hM1⟩) ?_))))))))))))
   rintro ⟨i,q0⟩ ρ2 w2 ⟨⟨hi2,hq0⟩,hM2⟩
   have hql:(sK lo hi j).length+i=q0.n:=by simpa [aSz] using hq0.1
   refine aE (aE (aA (aT Z Z (wq (aU 0 aHk (L3.memY hM2 hd3) (jD ((L3.memY hM2 hd3).below_len (show ([eD hi]:List (List Value))[0]? = some (eD hi) from Z))) Z) Z (wq (dR (o:=0) (.int _ _) bB (L3.memY hM2 hd3) (show ([eD hi]:List (List Value))[0]? = some (eD hi) from Z) Z Z) Z (cV Z Z Z Z (aB (aC ?_))))))))
   refine aW Z (fun h23 => ?_) (fun h23 => ?_)
   ·have hlt6:=bJr (lo:=lo) (hi:=hi) (i:=i) (j:=j) hnx (by omega) (by omega)
    refine aM (aC (aE (aS (aE (aKy (aMw (aH (.func _ _ _) Z) Z Z (aMw (aH (.int _ _) Z) Z Z (aMw (aH (.int _ _) Z) Z Z (aMw (cI [(0,.int _ _),(1,.int _ _)] _ aMp Z Z) Z Z ?_)))))))))
    obtain ⟨fy,ty,ay,by1,hy1,hy2⟩:=hY _ q0 ((sK lo hi j++aIr lo i j).map eD) (eD (lo.1+(i:Int),lo.2+(j:Int))) ⟨_,_,rfl⟩ (by omega) hq0 (hM2.ownSeg 0 3)
    refine aMx Z Z Z Z hy1 (hy2.mono ?_)
    rintro _ w3 ⟨rfl,q3,hqn3,hq3,hM3⟩
    have M3:Mem _ _ [_,_,_] _:=hM2.seg 0 3 hM3
    refine ⟨_,Z, ?_⟩
    refine bKu Z (fun _ _ h=>h) (wq (fB false Z Z) Z (aB (aC (cB Z (aM (cS (aC (aA (aT Z Z (wq (kJ Z Z (kM _ (by omega) (by omega))) Z (bL Z Z (aB ?_))))))))))))
    refine bU (i+1,q3) (bI (iv Z (by omega)) eC) (bX Z (bX Z (bX Z (bX Z (bX Z gR))))) ?_ ?_
    ·exact ⟨⟨by omega,by rw [bCx,← List.append_assoc,List.map_append];exact hq3⟩,M3⟩
    ·(show nX lo hi - (i+1) < nX lo hi - i;omega)
   ·have hix:i=nX lo hi:=by omega
    refine cM (cZ (dF (eL (cS (aC (aA (aT Z Z (wq (kJ Z Z (kM _ (by omega) (by omega))) Z (bL Z Z (aB ?_))))))))))
    refine bU (j+1,q0) (bI (iv Z (by omega)) eC) (bX Z (bX Z (bX Z (bX Z gR)))) ?_ ?_
    ·exact ⟨⟨by omega,fun h=>(by rw [g10] at h;cases h),by rw [aIs,← hix];exact hq0⟩,hM2⟩
    ·(show nY lo hi - (j+1) < nY lo hi - j;omega)
  ·refine cM (cZ (dF (eL (lF ?_))))
   exact ⟨Z,r,by unfold aCi;first | (rw [if_pos g10,show nY lo hi=j by omega];exact hr) | (rw [if_neg (by rw [g10];decide)];rw [hjz g10] at hr;exact hr),hM1⟩
 ·refine aQ Z Z (aQ Z Z (aQ Z Z (aQ Z Z (wq (bM false (.bool false) Z Z) Z (aB (aC (cB Z (cM (cZ (dF (eL (lF ?_))))))))))))
  exact ⟨Z,r,by unfold aCi;first | (rw [if_pos g10,show nY lo hi=j by omega];exact hr) | (rw [if_neg (by rw [g10];decide)];rw [hjz g10] at hr;exact hr),hM1⟩
theorem bGj (w:World) (a:Bx) (ha:Okx a) :
  Calls prog 204 #[(.agg (dY a).toArray)] w (gY (fun v w'=>∃ r:Row,v=.slice r.A r.n r.c∧bA 283 2 r.A r.n r.c ((kS a).map eD) r.e∧Mem w [] [r.e] w')):=by
 refine aDw #[.tmp 2] 13 func204 Z results204 ntmps204 Z ?_
 have M0:=Mem.refl w
 refine uB (qZ (bO (.agg (.mk _)) M0 Z Z Z (fun b1 w1 M1=>(eI Z Z (aB (uW (uB (qZ (aO bOz M1 Z Z (fun b2 w2 M2=>(aB (uW (uB (uB (qZ (wq (aV 0 mJ M2 Z Z Z) Z (eJ bTq Z Z (aUt _ a) ?_)))))))))))))))))
 rintro v3 w3 ⟨bl,bk,bh,rfl,hM3⟩
 have M3:Mem _ _ [_,_,_,_,_] _:=M2.call0 hM3
 refine aB (uW (aPv ?_))
 have M4:Mem _ _ [_,_,_,_,_] _:=((M3.keep [false,true,true,true,true]).dummy default).perm (List.Perm.cons _ (List.perm_append_comm (l₁:=[_,_,_]) (l₂:=[_])))
 refine aPw bUc M4 Z (fun fnn B lp tmps w1 hρ hn M1 => ?_)
 refine aJk (P:=prog) (ob:=b2) (Tsl:=281) (Te:=283) (sz:=2) (N:=1048576) (ok:=(fun x=>∃ a b,x=[.int .i32 a,.int .i32 b])) M1 ?_ (fun hY => ?_)
 ·intro wr r ls x hok hlt hrow hO
  obtain ⟨xa,xb,rfl⟩:=hok
  refine ⟨_,_,_,_,aSy hO Z Z Z hn (by decide) hρ ?_⟩
  have MR0:=hO.mem
  refine wZ Z (fun _ _ h=>nomatch h.1) (aO uZ MR0 Z Z (fun b5 w5 M5=>(bC 3 _ lK M5 Z Z Z Z Z (aP Z) Z (fun w6 M6=>(aB ?_)))))
  refine ⟨Z,_,M6,Z,fun w7 M7 => ?_⟩
  refine aPx (wZ rfl (fun _ _ h=>nomatch h.1) (wq (aK 1 (.slice _ _ _) aWb M7 rfl rfl rfl) rfl (wq (aV 3 lK M7 rfl rfl rfl) rfl (bV [.agg (List.toArray _)] [[.int .i32 xa,.int .i32 xb]] rfl bKf M7 rfl rfl rfl rfl (cO rfl) (by decide) (fun b8 w8 M8=>(cP 2 [[.int .i32 xa,.int .i32 xb]] bKf M8 rfl rfl rfl rfl rfl hrow rfl (by simp [Go.Bil.one]) (dN.ofMem 4 M8 rfl) (by omega) (fun A9 c9 e9 w9 M9 hR9=>(dA 1 (.slice _ _ _) aWb M9 rfl rfl rfl rfl rfl rfl (fun w10 M10=>(aB (cS ?_)))))))))))
  refine ⟨Z,_,M10,Z,fun w11 M11 => ?_⟩
  exact ⟨⟨A9,r.n+1,c9,e9⟩,Z,hR9,M11.keep [true,true,true,false,false]⟩
 ·refine (aQr _ (loC a) (hiC a) _ bl bk bh (rS 3 M1 Z Z) (rS 5 M1 Z Z) (rS 4 M1 Z Z) (aVu ha) (aVm ha) lp b2 _ hY ⟨none,0,0,(none,default)⟩ (bA.nil _ _ _) (M1.ownSeg 0 3) (M1.apartTake 3 3 Z Z) (M1.apartTake 3 5 Z Z) (M1.apartTake 3 4 Z Z)).mono ?_
  rintro _ w5 ⟨v5,rfl,rfl,r,hr,hM⟩
  have M5:Mem _ _ (_::[_,_,_,_,_,_]) _:=M1.seg 0 3 hM
  refine ⟨_,Z,_,M5,fun w6 M6 => ?_⟩
  refine bPf (uW (uB (aKx (bAd (aK 1 (.slice _ _ _) aWb M6 Z Z Z) Z Z (bAd (aJ (.slice _ _ _) Z) Z Z (bAc (uW (bEc (bQa (i:=6) (.slice _ _ _) Z M6 Z (fun w9 M9 => ?_))))))))))
  exact ⟨r,Z,hr,M9.keep [false,false,true,false,false,false,false]⟩
theorem aQq (w:World) (F:Rd w 2 (some ⟨0,0,none⟩) 1 [[.int .u32 73856093,.int .u32 19349663]]) (c:Int × Int) :
  Calls prog 205 #[(.agg (eD c).toArray)] w (Rb w (.int .i64 (fW c:Int))):=by
 refine aI #[.tmp 2] 20 func205 Z results205 ntmps205 Z ?_
 have M0:=Mem.refl w
 refine aE (aA (bO (.agg (.mk _)) M0 Z Z Z (fun b1 w1 M1=>(bL Z Z (aB (aC (aE (aA (wq (aD 0 aHk Z) Z (wq (aK 0 (.int _ _) bB M1 Z Z Z) Z (wq (dL eF underlying35 Z) Z (wq (cL (0) bEm Z Z Z (by decide)) Z (wq (dR (k:=0) (o:=0) (.int _ _) bZ (F.mem M1) (show ([[.int .u32 73856093,.int .u32 19349663]]:List (List Value))[0]? = some [.int .u32 73856093,.int .u32 19349663] from Z) Z Z) Z (wq (cH (.int _ _) Z Z Z) Z (wq (aD 1 aHl Z) Z (wq (aK 0 (.int _ _) bB M1 Z Z Z) Z ?_))))))))))))))))
 refine wq (dL eF underlying35 Z) Z (wq (cL (1) bEm Z Z Z (by decide)) Z (wq (dR (k:=0) (o:=1) (.int _ _) bZ (F.mem M1) (show ([[.int .u32 73856093,.int .u32 19349663]]:List (List Value))[0]? = some [.int .u32 73856093,.int .u32 19349663] from Z) Z Z) Z (wq (cH (.int _ _) Z Z Z) Z (wq (cH (.int _ _) Z Z Z) Z (bL Z Z (aB (aC (aE (aA (aT Z Z (wq (cH (.int _ _) Z Z Z) Z (aL 18 (.int .u32 (xD c)) Z (wq (bK yL underlying3 Z (fU _ (by have:=pD c;omega) (by have:=pD c;omega))) Z ?_)))))))))))))
 refine bL Z Z (aB (aC (aR (cF (.int _ _) Z ?_))))
 exact ⟨iE (bAt c),M1.below⟩
theorem aRr (w:World) (F:Rd w 2 (some ⟨0,0,none⟩) 1 [[.int .u32 73856093,.int .u32 19349663]]) (b:Nat) (rs:List Row) (cnt:Int) (g:Nat→List Int) (hG:GridRows 35 rs g) (hcnt:0≤cnt∧cnt≤1048576) (hgl:∀ j,j < 1024→(g j).length≤1048576) (key:Int) (a:Bx) (ha:Okx a) (hO:Own ((some b,bc (fP rs cnt) 250)::rs.map Row.e) w) (hdF:0 < 1→∀ q off,(some ⟨0,0,none⟩:Option Addr)=some ⟨q,off,none⟩→q∉cD ((some b,bc (fP rs cnt) 250)::rs.map Row.e)) :
  Calls prog 181 #[.pointer (some ⟨b,0,none⟩),.int .u32 key,(.agg (dY a).toArray)] w (gY (fun v w'=>v=.tuple #[]∧∃ rs':List Row,GridRows 35 rs' (yG g key ((kS a).map fW))∧Mem w (cD ((some b,bc (fP rs cnt) 250)::rs.map Row.e)) ((some b,bc (fP rs' (cnt+1)) 250)::rs'.map Row.e) w')):=by
 refine aI #[] 49 func181 Z results181 ntmps181 Z ?_
 have M0:=hO.mem
 refine aE (aA (bO (.agg (.mk _)) M0 Z Z Z (fun b1 w1 M1 => ?_)))
 have M2:Mem _ _ ([_,_]++_) _:=Mem.front (L:=[_]) M1
 refine aB (aC (aE (aE (aA (wq (aH (.pointer _) Z) Z (wq (gT false underlying279 Z Z) Z (aB (aC (cB Z (aM (aC (aE (aA (wq (aH (.pointer _) Z) Z (wq (bN Z) Z (wq (aD 1024 aRm Z) Z (wq (aK 0 (.int .i64 cnt) fE M2 Z Z (aHp hG.len)) Z (wq (bE Z Z (by omega) (by omega)) Z (wq (bN Z) Z (wq (aD 1024 aRm Z) Z (dA 0 (.int _ _) fE M2 Z Z Z Z Z (by rw [aHp hG.len];rfl) (fun w3 M3 => ?_))))))))))))))))))))))
 have M3b:Mem _ _ ([(some b,bc (fP rs (cnt+1)) 250),_]++rs.map Row.e) _:=Mem.cells0 M3 (aKa hG.len)
 refine aB (aC (aE (aA (pB M3b Z Z (fun b4 w4 M4 => ?_)))))
 have M5:Mem _ _ ([_,_,_]++_) _:=Mem.front (L:=[_,_]) M4
 refine wq (aJ (.map _) Z) Z (aB (aC (aE (aA (wq (aV 1 mJ M5 Z Z Z) Z (eJ bTb Z Z (bGj _ a ha) ?_))))))
 rintro v6 w6 ⟨r0,rfl,hR0,hM6⟩
 have M6:Mem _ _ ([_,_,_,_]++_) _:=Mem.front (L:=[_,_,_]) (M5.call0 hM6)
 have hcl:(kS a).length=r0.n:=by simpa using hR0.1
 have hcb:=aUu ha
 refine wq (bW underlying281 Z) Z (aT Z Z (aB (aC (aS (dK (σ:=Nat × List Row × eQ) [0,1,6,21,22] (fun (i,rs1,em)=>[(23,.int .i64 (i:Int))]) (fun (i,rs1,em) w'=>(i≤r0.n∧GridRows 35 rs1 (yG g key (((kS a).map fW).take i))∧lQ .i64 Value.bool (vR (((kS a).map fW).take i)) (some b4) em)∧Mem w (cD ((some b,bc (fP rs cnt) 250)::rs.map Row.e)) ([(some b,bc (fP rs1 (cnt+1)) 250),(some b1,bc (dY a) 253),em,r0.e]++rs1.map Row.e) w') (fun (i,rs1,em)=>r0.n - i) (0,rs,(some b4,.map #[] 0)) (bI Z eC) (⟨⟨by omega,by rw [List.take_zero,bEg];exact hG,(lQ.empty _ _ b4).congr (fun q=>by rw [List.take_zero];exact bBl q)⟩,M6⟩) ?_)))))
 rintro ⟨i,rs1,em⟩ ρ7 w7 ⟨⟨hi,hrs,hme⟩,hM7⟩
 refine aE (aA (cV Z Z Z Z (aB (aC (aE ?_)))))
 refine aW Z (fun h24 => ?_) (fun h24 => ?_)
 ·obtain ⟨xc,hxc⟩:=cG (xs:=kS a) (k:=i) hcl (by omega)
  have hbb:((kS a).map fW)[i]? = some (fW xc):=by rw [List.getElem?_map,hxc];rfl
  refine aM (aC (aE (aS (aE (aA (wq (bG (i) bKf Z Z Z ((hR0.rd hM7 (aN (i:=3) Z)).below_len (aG eD hxc)) ((hR0.rd hM7 (aN (i:=3) Z)).someK (aG eD hxc))) Z (wq (dQ _ lK (hR0.rd hM7 (aN (i:=3) Z)) (aG eD hxc) Z) Z (aO uZ hM7 Z Z (fun b8 w8 M8 => ?_)))))))))
  have M9:Mem _ _ ([_,_,_,_,_]++_) _:=Mem.front (L:=[_,_,_,_]) M8
  refine bC 4 _ lK M9 Z Z Z Z Z (aP Z) Z (fun w10 M10=>(aB (aC (aE (aA (wq (aV 4 lK M10 Z Z Z) Z (dM bTc Z Z M10 (aQq _ (F.memY M10 hdF) xc) (fun w11 M11=>(bL Z Z (aB (aC (aE (aE (aA (wq (aH (.map _) Z) Z (aT Z Z (wq (nL (enc:=Value.bool) false 2 bIk zv4 M11 Z hme Z Z) Z (aB (aC ?_)))))))))))))))))))
  refine iN _ Z (fun h31 => ?_) (fun h31 => ?_)
  ·refine cM (cZ (eL (aC (aA (wq (bE Z Z (by omega) (by omega)) Z (aT Z Z (aB ?_)))))))
   refine bU (i+1,rs1,em) (bI Z eC) (bX Z (bX Z (bX Z (bX Z (bX Z gR))))) ?_ ?_
   ·exact ⟨⟨by omega,by rw [bEh hbb (aCm.1 h31)];exact hrs,by rw [bBm hbb (aCm.1 h31)];exact hme⟩,Mem.keepL (L:=[_,_,_,_,_]) [true,true,true,true,false] M11⟩
   ·(show r0.n - (i+1) < r0.n - i;omega)
  ·have hnb:fW xc∉((kS a).map fW).take i:=fun h=>by have h2:=aCm.2 h;rw [h2] at h31;cases h31
   refine aM (aC (aE (aA (wq (aH (.map _) Z) Z (aT Z Z (mF (enc:=Value.bool) 2 bIk M11 Z Z hme Z Z Z Z (fun e12 w12 hm12 M12=>(aB (aC (gJ [(0,0),(1,0),(2,0),(3,0),(4,0),(5,0),(6,0),(7,1),(8,0),(11,0),(12,0),(9,2),(10,2),(13,0),(14,2)] mixed M12 Z (by kernel_rfl) (fun w13 M13=>(aX Z Z Z (fun _=>aH (.pointer _) Z) (eG Z Z Z (aX Z Z Z (fun _=>aH (.pointer _) Z) (eG Z Z Z (aX Z Z Z (fun _=>bN Z) (aX Z Z Z (fun _=>aD 0 aHj Z) ?_)))))))))))))))))
   refine aX Z Z Z (fun _=>cL (fW xc) aUd Z Z Z (nF xc)) ?_
   obtain ⟨rb,hrb⟩:=hrs.get (nF xc)
   have hrowb:=hrs.row _ _ hrb
   have hgb:yG g key (((kS a).map fW).take i) (fW xc)=g (fW xc):=by unfold yG;rw [if_neg hnb]
   have hrn:(yG g key (((kS a).map fW).take i) (fW xc)).length=rb.n:=by simpa using hrowb.1
   have hgl:=hgl (fW xc) (nF xc)
   rw [hgb] at hrn
   have M14:Mem _ _ ([_,_,_,_,_,_]++(rs1.eraseIdx (fW xc)).map Row.e) _:=Mem.pull (L:=[_,_,_,_,_]) (rs:=rs1) M13 hrb
   refine bQ Z Z Z (aK 0 (.slice _ _ _) aOq M14 Z Z (zH hrb)) (eG Z Z Z (aX Z Z Z (fun _=>bN Z) (aX Z Z Z (fun _=>aD 0 aHj Z) (dO [false] Z (by kernel_rfl) (bV [.int _ _] [jF key] Z aTl M14 Z Z Z Z (cO Z) (by decide) (fun b15 w15 M15 => ?_))))))
   have M16:Mem _ _ ([_,_,_,_,_,_,_]++_) _:=Mem.front (L:=[_,_,_,_,_,_]) M15
   refine aB (aC ⟨(dS (bH Z (aK 0 (.slice _ _ _) aOq M16 Z Z (zH hrb))) dI), ?_⟩)
   refine dO [true] Z (by kernel_rfl) (cP 5 [jF key] aTl M16 Z Z Z Z Z hrowb Z (aVr _) (dN.ofMem 6 M16 Z) (by omega) (fun A17 c17 e17 w17 M17 hR17 => ?_))
   refine aB (aC ⟨dI, ?_⟩)
   refine aX Z Z Z (fun _=>cL (fW xc) aUd Z Z Z (nF xc)) (dO [] Z (by kernel_rfl) (dA 0 (.slice _ _ _) aOq M17 Z Z Z Z Z (by rw [zH hrb];rfl) (fun w18 M18 => ?_)))
   have M18b:Mem _ _ ([(some b,bc (fP (rs1.set (fW xc) (⟨A17,rb.n+1,c17,e17⟩:Row)) (cnt+1)) 250),_,_,_,_,_,_]++(rs1.eraseIdx (fW xc)).map Row.e) _:=Mem.cells0 M18 (aKb (⟨A17,rb.n+1,c17,e17⟩:Row) (by rw [hrs.len];exact nF xc))
   refine aB (aC ⟨dI, ?_⟩)
   refine bS (cS (aC (aA (wq (bE Z Z (by omega) (by omega)) Z (aT Z Z (aB ?_))))))
   refine bU (i+1,rs1.set (fW xc) (⟨A17,rb.n+1,c17,e17⟩:Row),e12) (bI Z eC) (bX Z (bX Z (bX Z (bX Z (bX Z gR))))) ?_ ?_
   ·exact ⟨⟨by omega,by rw [bEf hbb hnb];exact hrs.put (r:=(⟨A17,rb.n+1,c17,e17⟩:Row)) (nF xc) (by simpa using hR17),hm12.congr (fun q=>aLk hbb q)⟩,Mem.push (L:=[_,_,_,_]) (rs:=rs1) (⟨A17,rb.n+1,c17,e17⟩:Row) (Mem.keepL (L:=[_,_,_,_,_,_,_]) [true,true,true,true,false,true,false] M18b) (by rw [hrs.len];exact nF xc)⟩
   ·(show r0.n - (i+1) < r0.n - i;omega)
 ·have hin:i=r0.n:=by omega
  rw [List.take_of_length_le (by simp;omega)] at hrs
  refine cM (cZ (dF (eL (lF ?_))))
  exact ⟨Z,rs1,hrs,Mem.keepL (L:=[_,_,_,_]) [true,false,false,false] hM7⟩
end Go.Proofs.YtaoaknafiegfoaaGreatDoor
