/- Part of the proof of a law of this seat (11 texts). No conditions. -/
import Derived.Test.YtaoaknafiegfoaaGreatDoorK12
import Derived.Test.YtaoaknafiegfoaaGreatDoorK18
set_option linter.unusedVariables false
set_option linter.unusedSimpArgs false
set_option linter.unnecessarySimpa false
set_option maxHeartbeats 100000000
namespace Go.Proofs.YtaoaknafiegfoaaGreatDoor
open Go.Bil
open Go.RowKit (Below)
open Go.Proofs
open Go.Proofs.Tryz
theorem bKw (w:World) (n:Nat) (hn:n < 18446744073709551616) :
  Calls prog 242 #[.int .u64 (n:Int)] w (Rb w (.int .u64 ((vN n:Nat):Int))):=by
 refine aH #[.tmp 2] 32 func242 Z results242 ntmps242 Z ?_
 have M0:=Mem.refl w
 refine aD (aA (bP rfl rfl (aB (aC (aD (aA (aX rfl rfl (bP rfl rfl (bP rfl rfl (aB (aC (aD (aD (aA (aX rfl rfl (aB (aC (aT (dK (σ:=Nat × Nat × Nat) [2] (fun (i,R,e)=>[(8,.int .i64 (i:Int)),(3,.int .u64 ((n - R*R:Nat):Int)),(4,.int .u64 ((R*e:Nat):Int))]) (fun (i,R,e) w'=>Iq n i R e∧Mem w [] [] w') (fun (i,R,e)=>32 - i) (0,0,4294967296) (bN rfl (bN (iv rfl (by simp)) (bN (iv rfl (by simp)) eZ))) (⟨bAl hn,M0⟩) ?_)))))))))))))))))))
 rintro ⟨i,R,e⟩ ρ1 w1 ⟨I,hM1⟩
 have hile:=I.ile
 have hle:=I.le
 refine aD (aA (dB Z Z Z Z (aB (aC (aD ?_)))))
 refine bA Z (fun h9 => ?_) (fun h9 => ?_)
 ·obtain ⟨f,hf1,hf2,hf3,hf4,hf5,hf6,hf7,hf8,hfy,hfn⟩:=bAn (by omega) I
  refine aL (aC (aD (aT (aD (aA (aX Z Z (bP Z Z (aB (aC (aD (aA (aX Z Z (wq (fY Z Z (by omega) (by omega)) Z (wq (hJ Z Z (by omega)) Z (aS 13 (.int .u64 ((f*f:Nat):Int)) (iE ((bAo (2*i) _ (by omega) (by omega)).trans (congrArg _ hf4))) (bP Z Z (aB (aC (aD (aA (aX Z Z (aX Z Z (aX Z Z (wq (dP (.int _ _) Z Z Z) Z (aS 17 (.int .u64 ((R*e+f*f:Nat):Int)) (iE (by rw [sQ];omega)) (dB Z Z Z Z ?_))))))))))))))))))))))))))
  refine aB (aC ?_)
  refine bA Z (fun h18 => ?_) (fun h18 => ?_)
  ·have h18':R*e+f*f≤n - R*R:=by omega
   refine aD (aA (aX Z Z (aX Z Z (aX Z Z (wq (dP (.int _ _) Z Z Z) Z (aS 22 (.int .u64 ((R*e+f*f:Nat):Int)) (iE (by rw [sQ];omega)) (wq (dP (.int _ _) Z Z Z) Z (aS 23 (.int .u64 ((n - (R+f)*(R+f):Nat):Int)) (iE (by rw [sQ];omega)) (bP Z Z (aB (aC (aA (aX Z Z (wq (hJ Z Z (by decide)) Z (aS 25 (.int .u64 ((R*f:Nat):Int)) (iE ((aZf (R*e)).trans (congrArg _ hf5))) (aX Z Z (wq (dP (.int _ _) Z Z Z) Z (aS 27 (.int .u64 (((R+f)*f:Nat):Int)) (iE (by rw [sQ];omega)) ?_))))))))))))))))))
   refine bP Z Z (aB (dF (aC (aA (wq (bM Z Z (by omega) (by omega)) Z (aX Z Z (aB ?_)))))))
   refine cR (i+1,R+f,f) (bN Z (bN Z (bN Z eZ))) (cT Z kB) ?_ ?_
   ·exact ⟨hfy h18',hM1⟩
   ·(show 32 - (i+1) < 32 - i;omega)
  ·have h18':¬ (R*e+f*f≤n - R*R):=by omega
   refine aA (aX Z Z (wq (hJ Z Z (by decide)) Z (aS 29 (.int .u64 ((R*f:Nat):Int)) (iE ((aZf (R*e)).trans (congrArg _ hf5))) (bP Z Z (aB (dF (aC (aA (wq (bM Z Z (by omega) (by omega)) Z (aX Z Z (aB ?_)))))))))))
   refine cR (i+1,R,f) (bN Z (bN Z (bN Z eZ))) (cT Z kB) ?_ ?_
   ·exact ⟨hfn h18',hM1⟩
   ·(show 32 - (i+1) < 32 - i;omega)
 ·obtain rfl:i=32:=by omega
  refine cO (dA (cX (eV (aC (aD (aA (aX Z Z (bP Z Z (aB (aC (aP (cB (.int _ _) Z ?_))))))))))))
  exact ⟨iE (by rw [bCa I]),hM1.below⟩
theorem qU (w:World) (a b:Int × Int) (ha:I32 a) (hb:I32 b) :
  Calls prog 239 #[(.agg (cN a).toArray),(.agg (cN b).toArray)] w (Rb w (.tuple #[.int .i64 (b.1 - a.1),.int .i64 (b.2 - a.2)])):=by
 have hax:=ha.x
 have hay:=ha.y
 have hbx:=hb.x
 have hby:=hb.y
 refine aH #[.tmp 4,.tmp 5] 20 func239 Z results239 ntmps239 Z ?_
 have M0:=Mem.refl w
 refine aD (aA (bH (.agg (.mk _)) M0 Z Z Z (fun b1 w1 M1=>(bH (.agg (.mk _)) M1 Z Z Z (fun b2 w2 M2=>(bP Z Z (bP Z Z (aB (aC (aD (gJ [(0,0),(1,1),(2,0),(3,0),(4,1),(5,0),(6,0),(7,0),(8,1),(9,0),(10,0),(11,1),(12,0),(13,0),(14,0),(15,0)] mixed M2 Z (by kernel_rfl) (fun w3 M3=>(aU Z Z Z (fun _=>aE 0 eB Z) (bS Z Z Z (aK 1 (.int _ _) aY M3 Z Z Z) (aU Z Z Z (fun _=>bV gI underlying2 Z (kO _ (by omega) (by omega))) (aU Z Z Z (fun _=>aE 0 eB Z) ?_))))))))))))))))
 refine bS Z Z Z (aK 0 (.int _ _) aY M3 Z Z Z) (aU Z Z Z (fun _=>bV gI underlying2 Z (kO _ (by omega) (by omega))) (aU Z Z Z (fun _=>lY Z Z (by omega) (by omega)) (aU Z Z Z (fun _=>aE 1 dQ Z) (bS Z Z Z (aK 1 (.int _ _) aY M3 Z Z Z) (aU Z Z Z (fun _=>bV gI underlying2 Z (kO _ (by omega) (by omega))) (aU Z Z Z (fun _=>aE 1 dQ Z) (bS Z Z Z (aK 0 (.int _ _) aY M3 Z Z Z) (aU Z Z Z (fun _=>bV gI underlying2 Z (kO _ (by omega) (by omega))) ?_))))))))
 refine aU Z Z Z (fun _=>lY Z Z (by omega) (by omega)) (qB Z Z Z (qB Z Z Z (bZ (aC (aP (gY (.int _ _) (.int _ _) Z Z ?_))))))
 exact ⟨Z,M3.below⟩
theorem zQ (w:World) (n:Int) (hn:yK n) :
  Calls prog 240 #[.int .i64 n] w (Rb w (.int .u64 ((n.natAbs*n.natAbs:Nat):Int))):=by
 have hlt:=(zT hn hn).2.1
 unfold yK at hn
 refine aH #[.tmp 2] 12 func240 Z results240 ntmps240 Z ?_
 have M0:=Mem.refl w
 refine aD (aA (bP Z Z (aB (aC (aD (aD (aA (aX Z Z (dB Z Z Z Z (aB (aC ?_)))))))))))
 refine bA Z (fun h4 => ?_) (fun h4 => ?_)
 ·refine aA (aX Z Z (wq (aDw Z) Z (aS 6 (.int .i64 (-n)) (iE (kO _ (by omega) (by omega))) (bP Z Z (aB (aC (aD (aA (aX Z Z (wq (dX us2 underlying237 Z) Z (aS 8 (.int .u64 ((n.natAbs:Nat):Int)) (iE (by rw [sQ];omega)) (aX Z Z (wq (dX us2 underlying237 Z) Z (aS 10 (.int .u64 ((n.natAbs:Nat):Int)) (iE (by rw [sQ];omega)) (wq (dP (.int _ _) Z Z Z) Z (aS 11 (.int .u64 ((n.natAbs*n.natAbs:Nat):Int)) (iE (aTf _ _ (by omega))) (bP Z Z (aB (aC (aP ?_))))))))))))))))))))
  refine cB (.int _ _) Z ?_
  exact ⟨Z,M0.below⟩
 ·refine aL (aC (aD (aA (aX Z Z (wq (dX us2 underlying237 Z) Z (aS 8 (.int .u64 ((n.natAbs:Nat):Int)) (iE (by rw [sQ];omega)) (aX Z Z (wq (dX us2 underlying237 Z) Z (aS 10 (.int .u64 ((n.natAbs:Nat):Int)) (iE (by rw [sQ];omega)) (wq (dP (.int _ _) Z Z Z) Z (aS 11 (.int .u64 ((n.natAbs*n.natAbs:Nat):Int)) (iE (aTf _ _ (by omega))) (bP Z Z (aB (aC (aP (cB (.int _ _) Z ?_))))))))))))))))
  exact ⟨Z,M0.below⟩
theorem pC (w:World) (dx dy:Int) (hx:yK dx) (hy:yK dy) :
  Calls prog 216 #[.int .i64 dx,.int .i64 dy] w (Rb w (.int .u64 ((lsq dx dy:Nat):Int))):=by
 have hl:=zT hx hy
 refine aH #[.tmp 4] 10 func216 Z results216 ntmps216 Z ?_
 have M0:=Mem.refl w
 refine aD (aA (bP Z Z (aB (aC (aD (aA (aX Z Z (dI aVm Z Z M0 (zQ _ dx hx) (fun w1 M1=>(aX Z Z (dI aVm Z Z M1 (zQ _ dy hy) (fun w2 M2=>(wq (dP (.int _ _) Z Z Z) Z (aS 9 (.int .u64 ((lsq dx dy:Nat):Int)) (iE (by rw [sQ];unfold lsq at *;omega)) (bP Z Z (aB (aC (aP (cB (.int _ _) Z ?_)))))))))))))))))))
 exact ⟨Z,M2.below⟩
theorem yM (w:World) (dx dy:Int) (hx:yK dx) (hy:yK dy) :
  Calls prog 218 #[.int .i64 dx,.int .i64 dy] w (Rb w (.int .i64 (len dx dy))):=by
 have hl:=aFd hx hy
 refine aH #[.tmp 4] 10 func218 Z results218 ntmps218 Z ?_
 have M0:=Mem.refl w
 refine aD (aA (bP Z Z (aB (aC (aD (aA (aX Z Z (aX Z Z (dI aLf Z Z M0 (pC _ dx dy hx hy) (fun w1 M1=>(dI bGy Z Z M1 (bKw _ (lsq dx dy) (zT hx hy).1) (fun w2 M2=>(wq (dX aDy underlying2 Z) Z (aS 9 (.int .i64 (len dx dy)) (iE (kO (len dx dy) (by omega) (by omega))) (bP Z Z (aB (aC (aP (cB (.int _ _) Z ?_)))))))))))))))))))
 exact ⟨Z,M2.below⟩
theorem aEx (w:World) (a b:Int) (hb:0 < b) (h0 : -1000000000000000000≤a) (h1:a≤1000000000000000000) :
  Calls prog 241 #[.int .i64 a,.int .i64 b] w (Rb w (.int .i64 (a / b))):=by
 have hf:=aIi (a:=a) hb
 have hb1:=aLr a b
 refine aH #[.tmp 4] 16 func241 Z results241 ntmps241 Z ?_
 have M0:=Mem.refl w
 refine aD (aA (bP Z Z (aB (aC (aD (aA (aX Z Z (aX Z Z (wq (wQ Z Z (by omega)) Z (aS 8 (.int .i64 (a.tdiv b)) (iE (kO _ (by omega) (by omega))) (bP Z Z (aB (aC (aD (aD (aA (aX Z Z (aX Z Z (wq (aDi Z Z (by omega)) Z (dB Z Z Z Z (aB (aC ?_))))))))))))))))))))))
 refine bA Z (fun h12 => ?_) (fun h12 => ?_)
 ·refine aA (aX Z Z (wq (lY Z Z (by omega) (by omega)) Z (bP Z Z (aB (aC (aD (aA (aX Z Z (bP Z Z (aB (aC (aP (cB (.int _ _) Z ?_)))))))))))))
  exact ⟨iE (by first | exact hf.1 (by omega) | exact hf.2 (by omega)),M0.below⟩
 ·refine aL (aC (aD (aA (aX Z Z (bP Z Z (aB (aC (aP (cB (.int _ _) Z ?_)))))))))
  exact ⟨iE (by first | exact hf.1 (by omega) | exact hf.2 (by omega)),M0.below⟩
theorem aYa (w:World) (dx dy:Int) (hx:yK dx) (hy:yK dy) :
  Calls prog 217 #[.int .i64 dx,.int .i64 dy] w (Rb w ((.agg (cN (mG dx dy)).toArray))):=by
 have hl:=aFd hx hy
 have hxx:=hx
 have hyy:=hy
 unfold yK at hxx hyy
 refine aH #[.cell 4 37] 23 func217 Z results217 ntmps217 Z ?_
 have M0:=Mem.refl w
 refine aD (aA (aM gW M0 Z Z (fun b1 w1 M1=>(aB (aC (aD (aA (aX Z Z (aX Z Z (dI aZr Z Z M1 (yM _ dx dy hx hy) (fun w2 M2=>(bP Z Z (aB (aC (aD (aD (aA (aX Z Z (dB Z Z Z Z (aB (aC ?_)))))))))))))))))))))
 refine bA Z (fun h10 => ?_) (fun h10 => ?_)
 ·refine aD (aA (wq (cE [(0,.int _ _)] _ fD Z Z) Z (aZ 0 _ bL M2 Z Z Z Z Z (aQ Z) Z (fun w3 M3=>(aB (aC (aP (cL (eO 0 bL M3 Z Z Z ?_)))))))))
  exact ⟨by unfold mG;first | (rw [if_pos (by omega)];rfl) | (rw [if_neg (by omega)];rfl),M3.below⟩
 ·refine aL (aC (aD (aA (aX Z Z (wq (tA Z Z (by decide)) Z (aS 13 (.int .i64 (dx*65536)) (iE (aDz dx hx)) (aX Z Z (dI aXt Z Z M2 (aEx _ (dx*65536) (len dx dy) (by omega) (by omega) (by omega)) (fun w4 M4=>(wq (dX us2 underlying21 Z) Z (aX Z Z (wq (tA Z Z (by decide)) Z (aS 18 (.int .i64 (dy*65536)) (iE (aDz dy hy)) (aX Z Z (dI aXt Z Z M4 (aEx _ (dy*65536) (len dx dy) (by omega) (by omega) (by omega)) (fun w5 M5=>(wq (dX us2 underlying21 Z) Z (wq (cE [(0,.int _ _),(1,.int _ _)] _ fD Z Z) Z ?_))))))))))))))))))
  refine aZ 0 _ bL M5 Z Z Z Z Z (aQ Z) Z (fun w6 M6=>(aB (aC (aP (eO 0 bL M6 Z Z Z ?_)))))
  exact ⟨by unfold mG;first | (rw [if_pos (by omega)];rfl) | (rw [if_neg (by omega)];rfl),M6.below⟩
theorem aQu (w:World) (b:Body) (hb:Okb b) :
  Calls prog 258 #[(.agg (aF b).toArray)] w (Rb w (.tuple #[(.agg (cN (aKc b)).toArray),(.agg (cN (aKe b)).toArray)])):=by
 have ha:=hb.a
 have hp:=hb.p
 refine aH #[.cell 2 37,.cell 3 37] 36 func258 Z results258 ntmps258 Z ?_
 have M0:=Mem.refl w
 refine aD (aA (bH (.agg (.mk _)) M0 Z Z Z (fun b1 w1 M1=>(aM gW M1 Z Z (fun b2 w2 M2=>(aM gW M2 Z Z (fun b3 w3 M3=>(aB (aC (aD (aA (wq (aE 6 gX Z) Z (wq (aE 0 eB Z) Z (wq (aK 0 (.int _ _) aY M3 Z Z Z) Z (wq (aE 2 lP Z) Z (wq (aE 0 eB Z) Z (wq (aK 0 (.int _ _) aY M3 Z Z Z) Z (wq (mH Z Z (mT _ (by omega) (by omega))) Z (wq (aE 6 gX Z) Z (wq (aE 1 dQ Z) Z (wq (aK 0 (.int _ _) aY M3 Z Z Z) Z ?_)))))))))))))))))))))
 refine wq (aE 2 lP Z) Z (wq (aE 1 dQ Z) Z (wq (aK 0 (.int _ _) aY M3 Z Z Z) Z (wq (mH Z Z (mT _ (by omega) (by omega))) Z (wq (cE [(0,.int _ _),(1,.int _ _)] _ fD Z Z) Z (aZ 1 _ bL M3 Z Z Z Z Z (aQ Z) Z (fun w4 M4=>(aB (aC (aD (aA (wq (aE 6 gX Z) Z (wq (aE 0 eB Z) Z (wq (aK 0 (.int _ _) aY M4 Z Z Z) Z (wq (aE 2 lP Z) Z (wq (aE 0 eB Z) Z (wq (aK 0 (.int _ _) aY M4 Z Z Z) Z (wq (jD Z Z (mT _ (by omega) (by omega))) Z ?_)))))))))))))))))
 refine wq (aE 6 gX Z) Z (wq (aE 1 dQ Z) Z (wq (aK 0 (.int _ _) aY M4 Z Z Z) Z (wq (aE 2 lP Z) Z (wq (aE 1 dQ Z) Z (wq (aK 0 (.int _ _) aY M4 Z Z Z) Z (wq (jD Z Z (mT _ (by omega) (by omega))) Z (wq (cE [(0,.int _ _),(1,.int _ _)] _ fD Z Z) Z (aZ 2 _ bL M4 Z Z Z Z Z (aQ Z) Z (fun w5 M5=>(aB (aC (aD (gJ [(0,1),(1,1),(2,2),(3,2)] mixed M5 Z (by kernel_rfl) (fun w6 M6=>(bS Z Z Z (bB 1 bL M6 Z Z Z) (bS Z Z Z (bB 2 bL M6 Z Z Z) ?_))))))))))))))))
 refine dD [false,true] Z (by kernel_rfl) (aZ 1 _ bL M6 Z Z Z Z Z (aQ Z) Z (fun w7 M7 => ?_))
 refine aB (aC ⟨(eH (bJ Z (bB 2 bL M7 Z Z Z)) dE), ?_⟩)
 refine dD [true] Z (by kernel_rfl) (aZ 2 _ bL M7 Z Z Z Z Z (aQ Z) Z (fun w8 M8 => ?_))
 refine aB (aC ⟨dE, ?_⟩)
 refine bZ (aC (aP (aQl 1 2 bL M8 Z Z Z Z Z Z ?_)))
 exact ⟨Z,M8.below⟩
theorem aKi (w:World) (p q c:Pt) (h:SgI p q) (hc:PtI c) :
  Calls prog 282 #[(.agg (cN p).toArray),(.agg (cN q).toArray),(.agg (cN c).toArray)] w (Rb w (.tuple #[.int .i64 (pQ p q c),.int .i64 (mE p q)])):=by
 have hD:=uB h
 have hx:=aSz h hc
 refine aH #[.tmp 6,.tmp 7] 42 func282 Z results282 ntmps282 Z ?_
 have M0:=Mem.refl w
 refine aD (aA (bH (.agg (.mk _)) M0 Z Z Z (fun b1 w1 M1=>(bH (.agg (.mk _)) M1 Z Z Z (fun b2 w2 M2=>(bH (.agg (.mk _)) M2 Z Z Z (fun b3 w3 M3=>(bP Z Z (bP Z Z (aB (aC (aD (aA (wq (bB 0 bL M3 Z Z Z) Z (wq (bB 1 bL M3 Z Z Z) Z (dI aAg Z Z M3 (qU _ p q h.hp.i32 h.hq.i32) (fun w4 M4=>(wq (aG (.tuple (List.toArray _)) Z) Z (wq (bE (.int _ _) Z Z) Z (wq (bE (.int _ _) Z Z) Z (bP Z Z (bP Z Z (aB (aC (aD (aA ?_))))))))))))))))))))))))))
 refine wq (bB 0 bL M4 Z Z Z) Z (wq (bB 2 bL M4 Z Z Z) Z (dI aAg Z Z M4 (qU _ p c h.hp.i32 hc.i32) (fun w5 M5=>(wq (aG (.tuple (List.toArray _)) Z) Z (wq (bE (.int _ _) Z Z) Z (wq (bE (.int _ _) Z Z) Z (bP Z Z (bP Z Z (aB (aC (aD (aA (aX Z Z (aX Z Z (wq (fY Z Z (by omega) (by omega)) Z (aX Z Z (aX Z Z (wq (fY Z Z (by omega) (by omega)) Z (wq (bM Z Z (by omega) (by omega)) Z ?_)))))))))))))))))))
 refine aS 30 (.int .i64 (mE p q)) Z (bP Z Z (aB (aC (aD (aA (aX Z Z (aX Z Z (wq (fY Z Z (by omega) (by omega)) Z (aX Z Z (aX Z Z (wq (fY Z Z (by omega) (by omega)) Z (wq (bM Z Z (by omega) (by omega)) Z (aX Z Z (wq (aAn Z Z ) Z (wq (nN Z Z ) Z (aX Z Z (bP Z Z (bP Z Z ?_))))))))))))))))))
 refine aB (aC (aP (gY (.int _ _) (.int _ _) Z Z ?_)))
 exact ⟨Z,M5.below⟩
theorem aDu (w:World) (f a n d:Int) (bn bd:Nat) (ha : -16777216≤a∧a≤16777216) (hn:0≤n) (hnd:n≤d) (hd0:0 < d) (hd:d≤562949953421312) (h1 : -16777216≤a*n / d∧a*n / d≤16777216) (h2 : -1082130432≤f+a*n / d∧f+a*n / d≤1082130432) (K1:Rd w 1 (some ⟨bn,0,none⟩) 1 [[.int .i64 n]]) (K2:Rd w 1 (some ⟨bd,0,none⟩) 1 [[.int .i64 d]]) :
  Calls prog 283 #[.int .i32 f,.int .i64 a,.pointer (some ⟨bn,0,none⟩),.pointer (some ⟨bd,0,none⟩)] w (Rb w (.int .i32 (f+a*n / d))):=by
 rw [← eT bn,← eT bd]
 refine aH #[.tmp 6] 20 func283 Z results283 ntmps283 Z ?_
 have M0:=Mem.refl w
 refine aD (aA (bP Z Z (aB (aC (aD (aA (aX Z Z (wq (eP (o:=0) (.int _ _) mI (K1.mem M0) (show ([[.int .i64 n]]:List (List Value))[0]? = some [.int .i64 n] from Z) Z Z) Z (wq (eP (o:=0) (.int _ _) mI (K2.mem M0) (show ([[.int .i64 d]]:List (List Value))[0]? = some [.int .i64 d] from Z) Z Z) Z (dI aGy Z Z M0 (bId _ a n d (by omega) hn hnd hd0 (by omega)) (fun w1 M1=>(wq (aG (.tuple (List.toArray _)) Z) Z (wq (bE (.int _ _) Z Z) Z (wq (bE (.int _ _) Z Z) Z (bP Z Z (bP Z Z (aB (aC (aD (aA ?_))))))))))))))))))))
 refine aX Z Z (aX Z Z (wq (bV us2 underlying21 Z (mT _ (by omega) (by omega))) Z (wq (jD Z Z (mT _ (by omega) (by omega))) Z (bP Z Z (aB (aC (aP (cB (.int _ _) Z ?_))))))))
 exact ⟨Z,M1.below⟩
theorem kP (w:World) (p q c:Pt) (h:SgI p q) (hc:PtI c) :
  Calls prog 277 #[(.agg (cN p).toArray),(.agg (cN q).toArray),(.agg (cN c).toArray)] w (Rb w ((.agg (cN (eD p q c)).toArray))):=by
 have hD:=uB h
 have hn:=aHs (c:=c) h
 have hx:=h.x
 have hy:=h.y
 refine aH #[.cell 6 37] 40 func277 Z results277 ntmps277 Z ?_
 have M0:=Mem.refl w
 refine aD (aA (bH (.agg (.mk _)) M0 Z Z Z (fun b1 w1 M1=>(bH (.agg (.mk _)) M1 Z Z Z (fun b2 w2 M2=>(bH (.agg (.mk _)) M2 Z Z Z (fun b3 w3 M3=>(aM gW M3 Z Z (fun b4 w4 M4=>(aB (aC (aD (aA (wq (bB 0 bL M4 Z Z Z) Z (wq (bB 1 bL M4 Z Z Z) Z (wq (bB 2 bL M4 Z Z Z) Z (dI bIo Z Z M4 (aKi _ p q c h hc) (fun w5 M5=>(wq (aG (.tuple (List.toArray _)) Z) Z (wq (bE (.int _ _) Z Z) Z (wq (bE (.int _ _) Z Z) Z (aM zI M5 Z Z (fun b6 w6 M6 => ?_)))))))))))))))))))))))
 refine aM zI M6 Z Z (fun b7 w7 M7=>(dN 4 (.int _ _) mI M7 Z Z Z Z Z Z (fun w8 M8=>(dN 5 (.int _ _) mI M8 Z Z Z Z Z Z (fun w9 M9=>(aB (aC (aD (aD (aA (wq (aK 5 (.int _ _) mI M9 Z Z Z) Z (dB Z Z Z Z (aB (aC ?_))))))))))))))
 refine bA Z (fun h20 => ?_) (fun h20 => ?_)
 ·refine aD (aA (wq (bB 0 bL M9 Z Z Z) Z (aZ 3 _ bL M9 Z Z Z Z Z (aQ Z) Z (fun w10 M10=>(aB (aC (aP (cL (eO 3 bL M10 Z Z Z ?_)))))))))
  exact ⟨by unfold eD;first | (rw [if_pos h20];rfl) | (rw [if_neg h20];rfl),M10.below⟩
 ·have hnr:=aIc (c:=c) h h20
  refine aL (aC (aD (aA (wq (cH [] [.pointer _,.pointer _] Z Z) Z (wq (aI (.func _ _ _) Z) Z (aB (aC (aD (aA (wq (bB 0 bL M9 Z Z Z) Z (wq (bB 1 bL M9 Z Z Z) Z (dI aAg Z Z M9 (qU _ p q h.hp.i32 h.hq.i32) (fun w11 M11=>(wq (aG (.tuple (List.toArray _)) Z) Z (wq (bE (.int _ _) Z Z) Z (wq (bE (.int _ _) Z Z) Z (bP Z Z (bP Z Z (aB (aC (aD (gJ [(0,0),(1,0),(2,1),(3,0),(5,0),(6,0),(7,1),(8,0),(4,2),(9,2),(10,0),(11,2)] mixed M11 Z (by kernel_rfl) (fun w12 M12 => ?_)))))))))))))))))))))))
  refine aU Z Z Z (fun _=>aG (.func _ _ _) Z) (aU Z Z Z (fun _=>aE 0 eB Z) (bS Z Z Z (aK 0 (.int _ _) aY M12 Z Z Z) (gR Z Z Z (aU Z Z Z (fun _=>aG (.func _ _ _) Z) (aU Z Z Z (fun _=>aE 1 dQ Z) (bS Z Z Z (aK 0 (.int _ _) aY M12 Z Z Z) (gR Z Z Z (dD [false,true] Z (by kernel_rfl) (dI aXs Z Z M12 (aDu _ p.1 (q.1 - p.1) (pQ p q c) (mE p q) b6 b7 (by omega) hn.1 hn.2 (by omega) (by omega) hnr.1.1 hnr.1.2 (mS 4 M12 Z Z) (mS 5 M12 Z Z)) (fun w13 M13 => ?_))))))))))
  refine aB (aC ⟨(eH (bJ Z (aK 0 (.int _ _) aY M13 Z Z Z)) dE), ?_⟩)
  refine dD [true] Z (by kernel_rfl) (dI aXs Z Z M13 (aDu _ p.2 (q.2 - p.2) (pQ p q c) (mE p q) b6 b7 (by omega) hn.1 hn.2 (by omega) (by omega) hnr.2.1 hnr.2.2 (mS 4 M13 Z Z) (mS 5 M13 Z Z)) (fun w14 M14 => ?_))
  refine aB (aC ⟨dE, ?_⟩)
  refine aU Z Z Z (fun _=>cE [(0,.int _ _),(1,.int _ _)] _ fD Z Z) (dD [] Z (by kernel_rfl) (aZ 3 _ bL M14 Z Z Z Z Z (aQ Z) Z (fun w15 M15 => ?_)))
  refine aB (aC ⟨dE, ?_⟩)
  refine bZ (aC (aP (eO 3 bL M15 Z Z Z ?_)))
  exact ⟨by unfold eD;first | (rw [if_pos h20];rfl) | (rw [if_neg h20];rfl),M15.below⟩
theorem yH (w:World) (s:Ch) (x y:Pt) (ba bb bl:Nat) (hx:PtI x) (hy:PtI y) (hO:Own [(some ba,bc (cN s.1) 37),(some bb,bc (cN s.2.1) 37),(some bl,bc [.int .u64 (s.2.2:Int)] 237)] w) :
  Calls prog 276 #[(.agg (cN x).toArray),(.agg (cN y).toArray),.pointer (some ⟨bl,0,none⟩),.pointer (some ⟨ba,0,none⟩),.pointer (some ⟨bb,0,none⟩)] w (fE (fun v w'=>v=.tuple #[]∧Mem w (bI [(some ba,bc (cN s.1) 37),(some bb,bc (cN s.2.1) 37),(some bl,bc [.int .u64 (s.2.2:Int)] 237)]) [(some ba,bc (cN (gD s x y).1) 37),(some bb,bc (cN (gD s x y).2.1) 37),(some bl,bc [.int .u64 ((gD s x y).2.2:Int)] 237)] w')):=by
 refine aH #[] 20 func276 Z results276 ntmps276 Z ?_
 have M0:=hO.mem
 refine aD (aA (bH (.agg (.mk _)) M0 Z Z Z (fun b1 w1 M1=>(bH (.agg (.mk _)) M1 Z Z Z (fun b2 w2 M2=>(aB (aC (aD (aA (wq (bB 3 bL M2 Z Z Z) Z (wq (bB 4 bL M2 Z Z Z) Z (dI aAg Z Z M2 (qU _ x y hx.i32 hy.i32) (fun w3 M3=>(wq (bE (.int _ _) Z Z) Z (wq (bE (.int _ _) Z Z) Z (dI aLf Z Z M3 (pC _ (y.1 - x.1) (y.2 - x.2) (hx.inX hy) (hx.inY hy)) (fun w4 M4=>(bP Z Z (aB (aC (aD (aA (aX Z Z (wq (aK 2 (.int _ _) pR M4 Z Z Z) Z (dB Z Z Z Z ?_)))))))))))))))))))))))))
 refine aB (aC ?_)
 refine bA Z (fun h16 => ?_) (fun h16 => ?_)
 ·refine gJ [(0,1),(1,1),(2,0),(3,2),(4,2),(5,2)] mixed M4 Z (by kernel_rfl) (fun w5 M5=>(bS Z Z Z (bB 3 bL M5 Z Z Z) (bS Z Z Z (bB 4 bL M5 Z Z Z) (gR Z Z Z (dD [false,true] Z (by kernel_rfl) (aZ 0 _ bL M5 Z Z Z Z Z (aQ Z) Z (fun w6 M6 => ?_)))))))
  refine aB (aC ⟨(eH (bJ Z (bB 4 bL M6 Z Z Z)) dE), ?_⟩)
  refine dD [true] Z (by kernel_rfl) (aZ 1 _ bL M6 Z Z Z Z Z (aQ Z) Z (fun w7 M7 => ?_))
  refine aB (aC ⟨dE, ?_⟩)
  refine dD [] Z (by kernel_rfl) (dN 2 (.int _ _) pR M7 Z Z Z Z Z Z (fun w8 M8 => ?_))
  refine aB (aC ⟨dE, ?_⟩)
  refine bZ (gZ ?_)
  exact ⟨Z,by unfold gD;first | (rw [if_pos (by omega)];exact M8.keep [true,true,true,false,false]) | (rw [if_neg (by omega)];exact M8.keep [true,true,true,false,false])⟩
 ·refine aL (gZ ?_)
  exact ⟨Z,by unfold gD;first | (rw [if_pos (by omega)];exact M4.keep [true,true,true,false,false]) | (rw [if_neg (by omega)];exact M4.keep [true,true,true,false,false])⟩
theorem aMt (w:World) (ap aq bp bq:Pt) (h1:SgI ap aq) (h2:SgI bp bq) :
  Calls prog 259 #[(.agg (cN ap).toArray),(.agg (cN aq).toArray),(.agg (cN bp).toArray),(.agg (cN bq).toArray)] w (Rb w (.tuple #[(.agg (cN (qF ap aq bp bq).1).toArray),(.agg (cN (qF ap aq bp bq).2.1).toArray),.int .u64 ((qF ap aq bp bq).2.2:Int)])):=by
 refine aH #[.cell 8 37,.cell 9 37,.cell 10 237] 48 func259 Z results259 ntmps259 Z ?_
 have M0:=Mem.refl w
 refine aD (aA (bH (.agg (.mk _)) M0 Z Z Z (fun b1 w1 M1=>(bH (.agg (.mk _)) M1 Z Z Z (fun b2 w2 M2=>(bH (.agg (.mk _)) M2 Z Z Z (fun b3 w3 M3=>(bH (.agg (.mk _)) M3 Z Z Z (fun b4 w4 M4=>(aM gW M4 Z Z (fun b5 w5 M5=>(aM gW M5 Z Z (fun b6 w6 M6=>(aM bDd M6 Z Z (fun b7 w7 M7=>(aB (aC (aD (aA (dN 6 (.int _ _) pR M7 Z Z Z Z Z Z (fun w8 M8=>(aB (aC (aD (aA ?_)))))))))))))))))))))))))
 obtain ⟨s,hS⟩:∃ z,z=ch0:=⟨_,rfl⟩
 have hC:ChI s:=by rw [hS];exact aYw
 have M9:Mem _ _ [_,_,_,_,(some b5,bc (cN ch0.1) 37),(some b6,bc (cN ch0.2.1) 37),(some b7,bc [.int .u64 (ch0.2.2:Int)] 237)] _:=M8
 rw [← hS] at M9
 refine wq (cH [] [.pointer _,.pointer _,.pointer _] Z Z) Z (wq (aI (.func _ _ _) Z) Z (aB (aC (aD (aD (aA (wq (bB 0 bL M9 Z Z Z) Z (wq (bB 1 bL M9 Z Z Z) Z (wq (qJ [.agg (List.toArray _),.agg (List.toArray _)] vP aOk Z Z (cW Z)) Z (aX Z Z (aB (aC (aT (mN 3 (iO (aD (aA (dB Z Z Z Z (rS 21 Z (by first | decide | omega) (aB (aC (aD (cU Z (aL (aC (aD (aT (aD (aA (wq (nP 0 _ vP bL Z Z (by decide) (by decide) Z Z) Z ?_))))))))))))))))))))))))))))))
 refine aM gW M9 Z Z (fun b10 w10 M10=>(aZ 7 _ bL M10 Z Z Z Z Z (aQ Z) Z (fun w11 M11=>(aB (aC (gJ [(0,0),(1,1),(2,1),(3,1),(4,1),(5,2),(6,2)] mixed M11 Z (by kernel_rfl) (fun w12 M12=>(aU Z Z Z (fun _=>aG (.func _ _ _) Z) (bS Z Z Z (bB 7 bL M12 Z Z Z) (bS Z Z Z (bB 2 bL M12 Z Z Z) (bS Z Z Z (bB 3 bL M12 Z Z Z) (bS Z Z Z (bB 7 bL M12 Z Z Z) (dD [true,true,true,false] Z (by kernel_rfl) (dI aFe Z Z M12 (kP _ bp bq ap h2 h1.hp) (fun w13 M13 => ?_)))))))))))))))
 refine aB (aC ⟨(eH (bJ Z (bB 7 bL M13 Z Z Z)) dE), ?_⟩)
 refine dD [true] Z (by kernel_rfl) (dU aFh Z Z (yH _ s ap (eD bp bq ap) _ _ _ h1.hp (fB h2) (M13.ownSeg 4 3)) ?_)
 rintro v14 w14 ⟨rfl,hM14⟩
 have M14:Mem _ _ [_,_,_,_,_,_,_,_] _:=M13.seg 4 3 hM14
 obtain ⟨s,hs⟩:∃ z,z=gD s ap (eD bp bq ap):=⟨_,rfl⟩
 rw [← hs] at M14
 replace hC:=hC.step (x:=ap) (y:=(eD bp bq ap)) h1.hp (fB h2)
 rw [← hs] at hC
 replace hS:=hs.trans (congrArg (fun z=>gD z ap (eD bp bq ap)) hS)
 refine aB (aC ⟨dE, ?_⟩)
 refine bZ (dF (aC (aA (wq (bM Z Z (by first | decide | omega) (by first | decide | omega)) Z (aS 30 (.int .i64 1) (iE (by first | decide | omega)) (aX Z Z (aB (aC (iO (aD (aA (dB Z Z Z Z (rS 21 Z (by first | decide | omega) (aB (aC (aD (cU Z (aL (aC (aD (aT (aD (aA (wq (nP 1 _ vP bL Z Z (by decide) (by decide) Z Z) Z (aM gW M14 Z Z (fun b15 w15 M15 => ?_))))))))))))))))))))))))))
 refine aZ 8 _ bL M15 Z Z Z Z Z (aQ Z) Z (fun w16 M16=>(aB (aC (gJ [(0,0),(1,1),(2,1),(3,1),(4,1),(5,2),(6,2)] mixed M16 Z (by kernel_rfl) (fun w17 M17=>(aU Z Z Z (fun _=>aG (.func _ _ _) Z) (bS Z Z Z (bB 8 bL M17 Z Z Z) (bS Z Z Z (bB 2 bL M17 Z Z Z) (bS Z Z Z (bB 3 bL M17 Z Z Z) (bS Z Z Z (bB 8 bL M17 Z Z Z) (dD [true,true,true,false] Z (by kernel_rfl) (dI aFe Z Z M17 (kP _ bp bq aq h2 h1.hq) (fun w18 M18 => ?_)))))))))))))
 refine aB (aC ⟨(eH (bJ Z (bB 8 bL M18 Z Z Z)) dE), ?_⟩)
 refine dD [true] Z (by kernel_rfl) (dU aFh Z Z (yH _ s aq (eD bp bq aq) _ _ _ h1.hq (fB h2) (M18.ownSeg 4 3)) ?_)
 rintro v19 w19 ⟨rfl,hM19⟩
 have M19:Mem _ _ [_,_,_,_,_,_,_,_,_] _:=M18.seg 4 3 hM19
 obtain ⟨s,hs⟩:∃ z,z=gD s aq (eD bp bq aq):=⟨_,rfl⟩
 rw [← hs] at M19
 replace hC:=hC.step (x:=aq) (y:=(eD bp bq aq)) h1.hq (fB h2)
 rw [← hs] at hC
 replace hS:=hs.trans (congrArg (fun z=>gD z aq (eD bp bq aq)) hS)
 refine aB (aC ⟨dE, ?_⟩)
 refine bZ (dF (aC (aA (wq (bM Z Z (by first | decide | omega) (by first | decide | omega)) Z (aS 30 (.int .i64 2) (iE (by first | decide | omega)) (aX Z Z (aB (aC (iO (aD (aA (dB Z Z Z Z (rP 21 Z (by first | decide | omega) (aB (aC (aD (bW Z (cO (dA (dA (eV ?_)))))))))))))))))))))
 refine aC (aD (aD (aA (wq (bB 2 bL M19 Z Z Z) Z (wq (bB 3 bL M19 Z Z Z) Z (wq (qJ [.agg (List.toArray _),.agg (List.toArray _)] vP aOk Z Z (cW Z)) Z (aX Z Z (aB (aC (aT (mN 3 (iO (aD (aA (dB Z Z Z Z (rS 35 Z (by first | decide | omega) (aB (aC (aD (cU Z (aL (aC (aD (aT (aD (aA (wq (nP 0 _ vP bL Z Z (by decide) (by decide) Z Z) Z (aM gW M19 Z Z (fun b20 w20 M20=>(aZ 9 _ bL M20 Z Z Z Z Z (aQ Z) Z (fun w21 M21 => ?_)))))))))))))))))))))))))))))))
 refine aB (aC (gJ [(0,0),(1,1),(2,1),(3,1),(5,1),(4,2),(6,2)] mixed M21 Z (by kernel_rfl) (fun w22 M22=>(aU Z Z Z (fun _=>aG (.func _ _ _) Z) (bS Z Z Z (bB 0 bL M22 Z Z Z) (bS Z Z Z (bB 1 bL M22 Z Z Z) (bS Z Z Z (bB 9 bL M22 Z Z Z) (bS Z Z Z (bB 9 bL M22 Z Z Z) (dD [false,true,true,true] Z (by kernel_rfl) (dI aFe Z Z M22 (kP _ ap aq bp h1 h2.hp) (fun w23 M23 => ?_)))))))))))
 refine aB (aC ⟨(eH (bJ Z (bB 9 bL M23 Z Z Z)) dE), ?_⟩)
 refine dD [true] Z (by kernel_rfl) (dU aFh Z Z (yH _ s (eD ap aq bp) bp _ _ _ (fB h1) h2.hp (M23.ownSeg 4 3)) ?_)
 rintro v24 w24 ⟨rfl,hM24⟩
 have M24:Mem _ _ [_,_,_,_,_,_,_,_,_,_] _:=M23.seg 4 3 hM24
 obtain ⟨s,hs⟩:∃ z,z=gD s (eD ap aq bp) bp:=⟨_,rfl⟩
 rw [← hs] at M24
 replace hC:=hC.step (x:=(eD ap aq bp)) (y:=bp) (fB h1) h2.hp
 rw [← hs] at hC
 replace hS:=hs.trans (congrArg (fun z=>gD z (eD ap aq bp) bp) hS)
 refine aB (aC ⟨dE, ?_⟩)
 refine bZ (dF (aC (aA (wq (bM Z Z (by first | decide | omega) (by first | decide | omega)) Z (aS 44 (.int .i64 1) (iE (by first | decide | omega)) (aX Z Z (aB (aC (iO (aD (aA (dB Z Z Z Z (rS 35 Z (by first | decide | omega) (aB (aC (aD (cU Z (aL (aC (aD (aT (aD (aA (wq (nP 1 _ vP bL Z Z (by decide) (by decide) Z Z) Z (aM gW M24 Z Z (fun b25 w25 M25 => ?_))))))))))))))))))))))))))
 refine aZ 10 _ bL M25 Z Z Z Z Z (aQ Z) Z (fun w26 M26=>(aB (aC (gJ [(0,0),(1,1),(2,1),(3,1),(5,1),(4,2),(6,2)] mixed M26 Z (by kernel_rfl) (fun w27 M27=>(aU Z Z Z (fun _=>aG (.func _ _ _) Z) (bS Z Z Z (bB 0 bL M27 Z Z Z) (bS Z Z Z (bB 1 bL M27 Z Z Z) (bS Z Z Z (bB 10 bL M27 Z Z Z) (bS Z Z Z (bB 10 bL M27 Z Z Z) (dD [false,true,true,true] Z (by kernel_rfl) (dI aFe Z Z M27 (kP _ ap aq bq h1 h2.hq) (fun w28 M28 => ?_)))))))))))))
 refine aB (aC ⟨(eH (bJ Z (bB 10 bL M28 Z Z Z)) dE), ?_⟩)
 refine dD [true] Z (by kernel_rfl) (dU aFh Z Z (yH _ s (eD ap aq bq) bq _ _ _ (fB h1) h2.hq (M28.ownSeg 4 3)) ?_)
 rintro v29 w29 ⟨rfl,hM29⟩
 have M29:Mem _ _ [_,_,_,_,_,_,_,_,_,_,_] _:=M28.seg 4 3 hM29
 obtain ⟨s,hs⟩:∃ z,z=gD s (eD ap aq bq) bq:=⟨_,rfl⟩
 rw [← hs] at M29
 replace hC:=hC.step (x:=(eD ap aq bq)) (y:=bq) (fB h1) h2.hq
 rw [← hs] at hC
 replace hS:=hs.trans (congrArg (fun z=>gD z (eD ap aq bq) bq) hS)
 refine aB (aC ⟨dE, ?_⟩)
 refine bZ (dF (aC (aA (wq (bM Z Z (by first | decide | omega) (by first | decide | omega)) Z (aS 44 (.int .i64 2) (iE (by first | decide | omega)) (aX Z Z (aB (aC (iO (aD (aA (dB Z Z Z Z (rP 35 Z (by first | decide | omega) (aB (aC (aD (bW Z (cO (dA (dA (eV ?_)))))))))))))))))))))
 refine aC (aD (gJ [(0,1),(1,1),(2,1),(3,2),(4,2),(5,2)] mixed M29 Z (by kernel_rfl) (fun w30 M30=>(bS Z Z Z (bB 4 bL M30 Z Z Z) (bS Z Z Z (bB 5 bL M30 Z Z Z) (bS Z Z Z (aK 6 (.int _ _) pR M30 Z Z Z) (dD [false,false,true] Z (by kernel_rfl) (aZ 4 _ bL M30 Z Z Z Z Z (aQ Z) Z (fun w31 M31 => ?_)))))))))
 refine aB (aC ⟨(eH (bJ Z (aK 6 (.int _ _) pR M31 Z Z Z)) (eH (bJ Z (bB 5 bL M31 Z Z Z)) dE)), ?_⟩)
 refine dD [false,true] Z (by kernel_rfl) (aZ 5 _ bL M31 Z Z Z Z Z (aQ Z) Z (fun w32 M32 => ?_))
 refine aB (aC ⟨(eH (bJ Z (aK 6 (.int _ _) pR M32 Z Z Z)) dE), ?_⟩)
 refine dD [true] Z (by kernel_rfl) (dN 6 (.int _ _) pR M32 Z Z Z Z Z Z (fun w33 M33 => ?_))
 refine aB (aC ⟨dE, ?_⟩)
 refine bZ (aC (aP (bJx 4 5 6 bL pR M33 Z Z Z Z Z Z Z Z ?_)))
 exact ⟨by rw [show s=qF ap aq bp bq from hS],M33.below⟩
theorem aMz (w:World) (ap aq bp bq:Pt) (h1:SgI ap aq) (h2:SgI bp bq) :
  Calls prog 238 #[(.agg (cN ap).toArray),(.agg (cN aq).toArray),(.agg (cN bp).toArray),(.agg (cN bq).toArray)] w (Rb w (.tuple #[(.agg (cN (qF ap aq bp bq).1).toArray),(.agg (cN (qF ap aq bp bq).2.1).toArray)])):=by
 refine aH #[.cell 8 37,.cell 9 37] 21 func238 Z results238 ntmps238 Z ?_
 have M0:=Mem.refl w
 refine aD (aA (bH (.agg (.mk _)) M0 Z Z Z (fun b1 w1 M1=>(bH (.agg (.mk _)) M1 Z Z Z (fun b2 w2 M2=>(bH (.agg (.mk _)) M2 Z Z Z (fun b3 w3 M3=>(bH (.agg (.mk _)) M3 Z Z Z (fun b4 w4 M4=>(aM gW M4 Z Z (fun b5 w5 M5=>(aM gW M5 Z Z (fun b6 w6 M6=>(aB (aC (aD (aA (wq (bB 0 bL M6 Z Z Z) Z (wq (bB 1 bL M6 Z Z Z) Z (wq (bB 2 bL M6 Z Z Z) Z (wq (bB 3 bL M6 Z Z Z) Z (dI bJy Z Z M6 (aMt _ ap aq bp bq h1 h2) (fun w7 M7=>(wq (aG (.tuple (List.toArray _)) Z) Z ?_))))))))))))))))))))))))
 refine wq (bE (.agg (.mk _)) Z Z) Z (wq (bE (.agg (.mk _)) Z Z) Z (wq (bE (.int _ _) Z Z) Z (aZ 4 _ bL M7 Z Z Z Z Z (aQ Z) Z (fun w8 M8=>(aZ 5 _ bL M8 Z Z Z Z Z (aQ Z) Z (fun w9 M9=>(aB (aC (aD (gJ [(0,1),(1,1),(2,2),(3,2)] mixed M9 Z (by kernel_rfl) (fun w10 M10=>(bS Z Z Z (bB 4 bL M10 Z Z Z) (bS Z Z Z (bB 5 bL M10 Z Z Z) (dD [false,true] Z (by kernel_rfl) (aZ 4 _ bL M10 Z Z Z Z Z (aQ Z) Z (fun w11 M11 => ?_))))))))))))))))
 refine aB (aC ⟨(eH (bJ Z (bB 5 bL M11 Z Z Z)) dE), ?_⟩)
 refine dD [true] Z (by kernel_rfl) (aZ 5 _ bL M11 Z Z Z Z Z (aQ Z) Z (fun w12 M12 => ?_))
 refine aB (aC ⟨dE, ?_⟩)
 refine bZ (aC (aP (aQl 4 5 bL M12 Z Z Z Z Z Z ?_)))
 exact ⟨Z,M12.below⟩
theorem xW (w:World) (b:Body) (hb:Okb b) :
  Calls prog 237 #[(.agg (aF b).toArray)] w (Rb w ((.agg (mF b).toArray))):=by
 refine aH #[.cell 2 296] 14 func237 Z results237 ntmps237 Z ?_
 have M0:=Mem.refl w
 refine aD (aA (bH (.agg (.mk _)) M0 Z Z Z (fun b1 w1 M1=>(aM tS M1 Z Z (fun b2 w2 M2=>(aB (aC (aD (aA (wq (bB 0 bU M2 Z Z Z) Z (dI bHx Z Z M2 (aQu _ b hb) (fun w3 M3=>(wq (aG (.tuple (List.toArray _)) Z) Z (wq (bE (.agg (.mk _)) Z Z) Z (wq (bE (.agg (.mk _)) Z Z) Z (aM gW M3 Z Z (fun b4 w4 M4=>(aM gW M4 Z Z (fun b5 w5 M5=>(aZ 2 _ bL M5 Z Z Z Z Z (aQ Z) Z (fun w6 M6=>(aZ 3 _ bL M6 Z Z Z Z Z (aQ Z) Z (fun w7 M7 => ?_)))))))))))))))))))))))
 refine aB (aC (aD (aA (wq (bB 0 bU M7 Z Z Z) Z (wq (bB 2 bL M7 Z Z Z) Z (wq (bB 3 bL M7 Z Z Z) Z (wq (cE [(0,.agg (List.toArray _)),(1,.agg (List.toArray _)),(2,.agg (List.toArray _))] _ aSf Z Z) Z (aZ 1 _ lE M7 Z Z Z Z Z (aQ Z) Z (fun w8 M8=>(aB (aC (aP (eO 1 lE M8 Z Z Z ?_)))))))))))))
 exact ⟨Z,M8.below⟩
theorem bDg (w:World) (a b:Body) (ha:Okb a) (hb:Okb b) :
  Calls prog 214 #[(.agg (aF a).toArray),(.agg (aF b).toArray)] w (Rb w (.tuple #[(.agg (mF (loB a b)).toArray),(.agg (mF (hiB a b)).toArray)])):=by
 refine aH #[.cell 4 296,.cell 5 296] 17 func214 Z results214 ntmps214 Z ?_
 have M0:=Mem.refl w
 refine aD (aA (bH (.agg (.mk _)) M0 Z Z Z (fun b1 w1 M1=>(bH (.agg (.mk _)) M1 Z Z Z (fun b2 w2 M2=>(aM tS M2 Z Z (fun b3 w3 M3=>(aM tS M3 Z Z (fun b4 w4 M4=>(aB (aC (aD (aD (aA (wq (aE 0 fH Z) Z (wq (aK 0 (.int _ _) cA M4 Z Z Z) Z (wq (aE 0 fH Z) Z (wq (aK 1 (.int _ _) cA M4 Z Z Z) Z (dB Z Z Z Z (aB (aC ?_)))))))))))))))))))))
 refine bA Z (fun h10 => ?_) (fun h10 => ?_)
 ·refine aA (wq (bB 1 bU M4 Z Z Z) Z (wq (bB 0 bU M4 Z Z Z) Z (aZ 0 _ bU M4 Z Z Z Z Z (aQ Z) Z (fun w5 M5=>(aZ 1 _ bU M5 Z Z Z Z Z (aQ Z) Z (fun w6 M6=>(aB (aC (aD (gJ [(0,1),(2,1),(1,2),(3,2),(4,2),(5,2)] mixed M6 Z (by kernel_rfl) (fun w7 M7=>(bS Z Z Z (bB 0 bU M7 Z Z Z) (bS Z Z Z (bB 1 bU M7 Z Z Z) (dD [false,true] Z (by kernel_rfl) (dI aFx Z Z M7 (xW _ b hb) (fun w8 M8 => ?_))))))))))))))))
  refine aB (aC ⟨(eH (bJ Z (bB 1 bU M8 Z Z Z)) dE), ?_⟩)
  refine dD [true] Z (by kernel_rfl) (dI aFx Z Z M8 (xW _ a ha) (fun w9 M9 => ?_))
  refine aB (aC ⟨dE, ?_⟩)
  refine dD [] Z (by kernel_rfl) (aZ 2 _ lE M9 Z Z Z Z Z (aQ Z) Z (fun w10 M10 => ?_))
  refine aB (aC ⟨dE, ?_⟩)
  refine dD [] Z (by kernel_rfl) (aZ 3 _ lE M10 Z Z Z Z Z (aQ Z) Z (fun w11 M11 => ?_))
  refine aB (aC ⟨dE, ?_⟩)
  refine bZ (aC (aP (aQl 2 3 lE M11 Z Z Z Z Z Z ?_)))
  exact ⟨by unfold loB hiB;first | rw [if_pos (by omega),if_pos (by omega)] | rw [if_neg (by omega),if_neg (by omega)],M11.below⟩
 ·refine aL (aC (aD (gJ [(0,1),(2,1),(1,2),(3,2),(4,2),(5,2)] mixed M4 Z (by kernel_rfl) (fun w12 M12=>(bS Z Z Z (bB 0 bU M12 Z Z Z) (bS Z Z Z (bB 1 bU M12 Z Z Z) (dD [false,true] Z (by kernel_rfl) (dI aFx Z Z M12 (xW _ a ha) (fun w13 M13 => ?_)))))))))
  refine aB (aC ⟨(eH (bJ Z (bB 1 bU M13 Z Z Z)) dE), ?_⟩)
  refine dD [true] Z (by kernel_rfl) (dI aFx Z Z M13 (xW _ b hb) (fun w14 M14 => ?_))
  refine aB (aC ⟨dE, ?_⟩)
  refine dD [] Z (by kernel_rfl) (aZ 2 _ lE M14 Z Z Z Z Z (aQ Z) Z (fun w15 M15 => ?_))
  refine aB (aC ⟨dE, ?_⟩)
  refine dD [] Z (by kernel_rfl) (aZ 3 _ lE M15 Z Z Z Z Z (aQ Z) Z (fun w16 M16 => ?_))
  refine aB (aC ⟨dE, ?_⟩)
  refine bZ (aC (aP (aQl 2 3 lE M16 Z Z Z Z Z Z ?_)))
  exact ⟨by unfold loB hiB;first | rw [if_pos (by omega),if_pos (by omega)] | rw [if_neg (by omega),if_neg (by omega)],M16.below⟩
theorem bCj (w:World) (a b:Body) (ha:Okb a) (hb:Okb b) :
  Calls prog 215 #[(.agg (mF a).toArray),(.agg (mF b).toArray)] w (Rb w (.tuple #[.int .i64 (yZ (wK a b)),.int .i64 (aBl (wK a b)),.int .i64 (a.radius+b.radius)])):=by
 have hra:=ha.r
 have hrb:=hb.r
 have hch:=aAq ha hb
 refine aH #[.tmp 4,.tmp 5,.tmp 6] 38 func215 Z results215 ntmps215 Z ?_
 have M0:=Mem.refl w
 refine aD (aA (bH (.agg (.mk _)) M0 Z Z Z (fun b1 w1 M1=>(bH (.agg (.mk _)) M1 Z Z Z (fun b2 w2 M2=>(bP Z Z (bP Z Z (bP Z Z (aB (aC (aD (aA (wq (aE 10 aIx Z) Z (wq (uQ 0 _ bL M2 Z Z Z Z) Z (wq (aE 12 aJa Z) Z (wq (uQ 0 _ bL M2 Z Z Z Z) Z (wq (aE 10 aIx Z) Z (wq (uQ 1 _ bL M2 Z Z Z Z) Z (wq (aE 12 aJa Z) Z (wq (uQ 1 _ bL M2 Z Z Z Z) Z (dI bIg Z Z M2 (aMz _ (aKc a) (aKe a) (aKc b) (aKe b) (xV ha) (xV hb)) (fun w3 M3 => ?_))))))))))))))))))))))
 refine wq (aG (.tuple (List.toArray _)) Z) Z (wq (bE (.agg (.mk _)) Z Z) Z (wq (bE (.agg (.mk _)) Z Z) Z (aM gW M3 Z Z (fun b4 w4 M4=>(aM gW M4 Z Z (fun b5 w5 M5=>(aZ 2 _ bL M5 Z Z Z Z Z (aQ Z) Z (fun w6 M6=>(aZ 3 _ bL M6 Z Z Z Z Z (aQ Z) Z (fun w7 M7=>(aB (aC (aD (aA (wq (bB 2 bL M7 Z Z Z) Z (wq (bB 3 bL M7 Z Z Z) Z (dI aAg Z Z M7 (qU _ (wK a b).1 (wK a b).2.1 hch.a.i32 hch.b.i32) (fun w8 M8=>(wq (aG (.tuple (List.toArray _)) Z) Z ?_)))))))))))))))))))
 refine wq (bE (.int _ _) Z Z) Z (wq (bE (.int _ _) Z Z) Z (bP Z Z (bP Z Z (aB (aC (aD (gJ [(0,0),(1,0),(2,0),(3,0),(4,1),(5,0),(6,0),(7,0),(8,1),(9,0),(10,0),(11,0),(12,0),(13,0)] mixed M8 Z (by kernel_rfl) (fun w9 M9=>(gR Z Z Z (gR Z Z Z (aU Z Z Z (fun _=>aE 0 tW Z) (aU Z Z Z (fun _=>aE 1 oT Z) (bS Z Z Z (aK 0 (.int _ _) aY M9 Z Z Z) (aU Z Z Z (fun _=>bV gI underlying2 Z (kO _ (by omega) (by omega))) (aU Z Z Z (fun _=>aE 0 tW Z) ?_)))))))))))))))
 refine aU Z Z Z (fun _=>aE 1 oT Z) (bS Z Z Z (aK 1 (.int _ _) aY M9 Z Z Z) (aU Z Z Z (fun _=>bV gI underlying2 Z (kO _ (by omega) (by omega))) (aU Z Z Z (fun _=>bM Z Z (by omega) (by omega)) (qB Z Z Z (qB Z Z Z (qB Z Z Z (bZ (aC (aP (bNf (.int _ _) (.int _ _) (.int _ _) Z Z Z ?_))))))))))
 exact ⟨Z,M9.below⟩
theorem yP (w:World) (a b:Body) (ha:Okb a) (hb:Okb b) :
  Calls prog 185 #[(.agg (aF a).toArray),(.agg (aF b).toArray)] w (Rb w (.tuple #[.agg (bIm (mV a b)).toArray,.bool (mV a b).isSome])):=by
 obtain ⟨hlo,hhi⟩:=bGp ha hb
 have hd:=bEq hlo hhi
 have hl:=aFd hd.1 hd.2
 have hss:=bIv hlo hhi
 have hr1:=hlo.r
 have hr2:=hhi.r
 refine aH #[.cell 4 211,.tmp 5] 52 func185 Z results185 ntmps185 Z ?_
 have M0:=Mem.refl w
 refine aD (aA (bH (.agg (.mk _)) M0 Z Z Z (fun b1 w1 M1=>(bH (.agg (.mk _)) M1 Z Z Z (fun b2 w2 M2=>(aM tU M2 Z Z (fun b3 w3 M3=>(wq (aI (.bool false) Z) Z (aB (aC (aD (aA (wq (bB 0 bU M3 Z Z Z) Z (wq (bB 1 bU M3 Z Z Z) Z (dI bHl Z Z M3 (bDg _ a b ha hb) (fun w4 M4=>(wq (aG (.tuple (List.toArray _)) Z) Z (wq (bE (.agg (.mk _)) Z Z) Z (wq (bE (.agg (.mk _)) Z Z) Z (aM tS M4 Z Z (fun b5 w5 M5=>(aM tS M5 Z Z (fun b6 w6 M6=>(aZ 3 _ lE M6 Z Z Z Z Z (aQ Z) Z (fun w7 M7 => ?_)))))))))))))))))))))))))
 refine aZ 4 _ lE M7 Z Z Z Z Z (aQ Z) Z (fun w8 M8=>(aB (aC (aD (aA (wq (bB 3 lE M8 Z Z Z) Z (wq (bB 4 lE M8 Z Z Z) Z (dI bIu Z Z M8 (bCj _ (loB a b) (hiB a b) hlo hhi) (fun w9 M9=>(wq (aG (.tuple (List.toArray _)) Z) Z (wq (bE (.int _ _) Z Z) Z (wq (bE (.int _ _) Z Z) Z (wq (bE (.int _ _) Z Z) Z (bP Z Z (bP Z Z (bP Z Z (aB (aC (aD (aD (aA (aX Z Z (aX Z Z (dI aLf Z Z M9 (pC _ (yZ (wK (loB a b) (hiB a b))) (aBl (wK (loB a b) (hiB a b))) hd.1 hd.2) (fun w10 M10 => ?_)))))))))))))))))))))))))
 refine aX Z Z (aX Z Z (wq (fY Z Z (by omega) (by omega)) Z (wq (dX us2 underlying237 Z) Z (aS 31 (.int .u64 ((((loB a b).radius+(hiB a b).radius).natAbs*((loB a b).radius+(hiB a b).radius).natAbs:Nat):Int)) (iE (bBe _ hss)) (dB Z Z Z Z (aB (aC ?_)))))))
 refine bA Z (fun h32 => ?_) (fun h32 => ?_)
 ·refine aD (aA (wq (cE [] _ aDk Z Z) Z (aZ 2 _ gT M10 Z Z Z Z Z (aQ Z) Z (fun w11 M11=>(wq (aI (.bool false) Z) Z (aB (aC (aP (cL (zZ (v2:=.bool false) 2 gT M11 Z Z Z Z ?_))))))))))
  exact ⟨by rw [aKa];unfold nK;first | (rw [if_pos (by omega)];rfl) | (rw [if_neg (by omega)];rfl),M11.below⟩
 ·refine aL (aC (aD (aA (wq (aE 0 tW Z) Z (wq (aE 0 fH Z) Z (wq (aK 3 (.int _ _) cA M10 Z Z Z) Z (wq (aE 0 tW Z) Z (wq (aE 0 fH Z) Z (wq (aK 4 (.int _ _) cA M10 Z Z Z) Z (wq (cE [(0,.int _ _),(1,.int _ _)] _ aEh Z Z) Z (aM qY M10 Z Z (fun b12 w12 M12=>(aZ 5 _ gO M12 Z Z Z Z Z (aQ Z) Z (fun w13 M13=>(aB (aC (aD (gJ [(0,1),(1,0),(2,0),(4,0),(5,0),(6,0),(3,2),(7,2),(8,0),(9,0),(10,0),(11,2),(12,0)] mixed M13 Z (by kernel_rfl) (fun w14 M14 => ?_)))))))))))))))))))
  refine bS Z Z Z (bB 5 gO M14 Z Z Z) (gR Z Z Z (gR Z Z Z (gR Z Z Z (gR Z Z Z (gR Z Z Z (dD [false] Z (by kernel_rfl) (dI bJw Z Z M14 (aYa _ (yZ (wK (loB a b) (hiB a b))) (aBl (wK (loB a b) (hiB a b))) hd.1 hd.2) (fun w15 M15 => ?_))))))))
  refine aB (aC ⟨(eH (bJ Z (bB 5 gO M15 Z Z Z)) dE), ?_⟩)
  refine dD [false] Z (by kernel_rfl) (dI aZr Z Z M15 (yM _ (yZ (wK (loB a b) (hiB a b))) (aBl (wK (loB a b) (hiB a b))) hd.1 hd.2) (fun w16 M16 => ?_))
  refine aB (aC ⟨(eH (bJ Z (bB 5 gO M16 Z Z Z)) dE), ?_⟩)
  refine aU Z Z Z (fun _=>lY Z Z (by omega) (by omega)) (aU Z Z Z (fun _=>dX us2 underlying21 Z) (aU Z Z Z (fun _=>cE [(0,.agg (List.toArray _)),(1,.agg (List.toArray _)),(2,.int _ _)] _ aDk Z Z) (dD [true] Z (by kernel_rfl) (aZ 2 _ gT M16 Z Z Z Z Z (aQ Z) Z (fun w17 M17 => ?_)))))
  refine aB (aC ⟨dE, ?_⟩)
  refine aU Z Z Z (fun _=>aI (.bool true) Z) (bZ (aC (aP (zZ (v2:=.bool true) 2 gT M17 Z Z Z Z ?_))))
  exact ⟨by rw [aKa];unfold nK;first | (rw [if_pos (by omega)];rfl) | (rw [if_neg (by omega)];rfl),M17.below⟩
end Go.Proofs.YtaoaknafiegfoaaGreatDoor
