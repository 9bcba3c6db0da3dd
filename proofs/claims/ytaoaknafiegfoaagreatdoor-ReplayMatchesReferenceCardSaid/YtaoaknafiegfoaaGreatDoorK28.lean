/- Part of the proof of a law of this seat (10 texts). No conditions. -/
import Derived.Test.YtaoaknafiegfoaaGreatDoorK12
import Derived.Test.YtaoaknafiegfoaaGreatDoorK18
set_option linter.unusedVariables false
set_option linter.unusedSimpArgs false
set_option linter.unnecessarySimpa false
set_option maxHeartbeats 100000000
namespace Go.Proofs.YtaoaknafiegfoaaGreatDoor
open Go.Bil
open Go.RowKit (Below)
open Go.Proofs
open Go.Proofs.Tryz
theorem aBm (w:World) (a:Int) (h0 : -9223372036854775808≤a) (h1:a≤9223372036854775807) :
  Calls prog 266 #[.int .i64 a] w (Rb w ((.agg ((bXr a.natAbs).map mZ).toArray))):=by
 obtain ⟨m,hm⟩:∃ m,m=a.natAbs:=⟨_,rfl⟩
 refine aI #[.cell 2 344] 24 func266 Z results266 ntmps266 Z ?_
 have M0:=Mem.refl w
 refine aE (aA (aO yE M0 Z Z (fun b1 w1 M1=>(aB (aC (aE (aA (aO yE M1 Z Z (fun b2 w2 M2=>(aB (aC (aE (aA (aT Z Z (wq (dL nU underlying237 Z) Z (bL Z Z (aB (aC (aE (aE (aA (aT Z Z (cV Z Z Z Z (aB (aC ?_)))))))))))))))))))))))))
 refine aW Z (fun h9 => ?_) (fun h9 => ?_)
 ·refine aA (aT Z Z (wq (tX Z) Z (aL 11 (.int .u64 ((m:Nat):Int)) (iE (by rw [iH,iH];omega)) (bL Z Z (aB (aC (aE (aE (aA (bL Z Z (aB (aC (aS (kC 5 (gD (aE (aE (aA (aT Z Z (cV Z Z Z Z (jU 13 Z (by first | decide | omega) (aB (aC (cE Z (aM (aC (aE (aS (aE (aA ?_))))))))))))))))))))))))))))))
  refine aT Z Z (aT Z Z (aL 17 (.int .u64 ((m:Nat):Int)) (iE (by first | rfl | (rw [iH];omega) | (rw [iH,iH];omega))) (wq (iL Z Z (by decide)) Z (aL 18 (.int .u64 ((m % 65536:Nat):Int)) (iE (kV (m) 65536)) (wq (aD 0 bY Z) Z (wq (cL (0) dH Z Z Z (by decide)) Z (dA 1 (.int _ _) cX M2 Z Z Z Z Z Z (fun w3 M3=>(aB (aC (aA (aT Z Z (aL 21 (.int .u64 ((m:Nat):Int)) (iE (by first | rfl | (rw [iH];omega) | (rw [iH,iH];omega))) (wq (gO Z Z (by decide)) Z (aL 22 (.int .u64 ((m / 65536:Nat):Int)) (iE (kG (m) 65536 (by omega))) ?_)))))))))))))))
  refine bL Z Z (aB (cS (aC (aA (aT Z Z (wq (bE Z Z (by first | decide | omega) (by first | decide | omega)) Z (aL 15 (.int .i64 1) (iE (by first | decide | omega)) (bL Z Z (aB (aC (gD (eM (fr:=[(2,.pointer _),(3,.pointer _),(4,.int _ _),(5,.int .i64 1)]) (bI Z (bI Z (bI Z (bI Z eC)))) (fun ρ4=>(aE (aE (aA (aT Z Z (cV Z Z Z Z (jU 13 Z (by first | decide | omega) (aB (aC ?_)))))))))))))))))))))
  refine cE Z (aM (aC (aE (aS (aE (aA (aT Z Z (aT Z Z (aL 17 (.int .u64 ((m / 65536:Nat):Int)) (iE (by first | rfl | (rw [iH];omega) | (rw [iH,iH];omega))) (wq (iL Z Z (by decide)) Z (aL 18 (.int .u64 ((m / 65536 % 65536:Nat):Int)) (iE (kV (m / 65536) 65536)) (wq (aD 0 bY Z) Z (wq (cL (1) dH Z Z Z (by decide)) Z (dA 1 (.int _ _) cX M3 Z Z Z Z Z Z (fun w5 M5=>(aB (aC (aA (aT Z Z (aL 21 (.int .u64 ((m / 65536:Nat):Int)) (iE (by first | rfl | (rw [iH];omega) | (rw [iH,iH];omega))) ?_))))))))))))))))))))
  refine wq (gO Z Z (by decide)) Z (aL 22 (.int .u64 ((m / 65536 / 65536:Nat):Int)) (iE (kG (m / 65536) 65536 (by omega))) (bL Z Z (aB (cS (aC (aA (aT Z Z (wq (bE Z Z (by first | decide | omega) (by first | decide | omega)) Z (aL 15 (.int .i64 2) (iE (by first | decide | omega)) (bL Z Z (aB (aC (gD (eM (fr:=[(2,.pointer _),(3,.pointer _),(4,.int _ _),(5,.int .i64 2)]) (bI Z (bI Z (bI Z (bI Z eC)))) (fun ρ6=>(aE (aE (aA (aT Z Z (cV Z Z Z Z ?_))))))))))))))))))))
  refine jU 13 Z (by first | decide | omega) (aB (aC (cE Z (aM (aC (aE (aS (aE (aA (aT Z Z (aT Z Z (aL 17 (.int .u64 ((m / 65536 / 65536:Nat):Int)) (iE (by first | rfl | (rw [iH];omega) | (rw [iH,iH];omega))) (wq (iL Z Z (by decide)) Z (aL 18 (.int .u64 ((m / 65536 / 65536 % 65536:Nat):Int)) (iE (kV (m / 65536 / 65536) 65536)) (wq (aD 0 bY Z) Z (wq (cL (2) dH Z Z Z (by decide)) Z (dA 1 (.int _ _) cX M5 Z Z Z Z Z Z (fun w7 M7=>(aB (aC (aA (aT Z Z (aL 21 (.int .u64 ((m / 65536 / 65536:Nat):Int)) (iE (by first | rfl | (rw [iH];omega) | (rw [iH,iH];omega))) ?_)))))))))))))))))))))))
  refine wq (gO Z Z (by decide)) Z (aL 22 (.int .u64 ((m / 65536 / 65536 / 65536:Nat):Int)) (iE (kG (m / 65536 / 65536) 65536 (by omega))) (bL Z Z (aB (cS (aC (aA (aT Z Z (wq (bE Z Z (by first | decide | omega) (by first | decide | omega)) Z (aL 15 (.int .i64 3) (iE (by first | decide | omega)) (bL Z Z (aB (aC (gD (eM (fr:=[(2,.pointer _),(3,.pointer _),(4,.int _ _),(5,.int .i64 3)]) (bI Z (bI Z (bI Z (bI Z eC)))) (fun ρ8=>(aE (aE (aA (aT Z Z (cV Z Z Z Z ?_))))))))))))))))))))
  refine jU 13 Z (by first | decide | omega) (aB (aC (cE Z (aM (aC (aE (aS (aE (aA (aT Z Z (aT Z Z (aL 17 (.int .u64 ((m / 65536 / 65536 / 65536:Nat):Int)) (iE (by first | rfl | (rw [iH];omega) | (rw [iH,iH];omega))) (wq (iL Z Z (by decide)) Z (aL 18 (.int .u64 ((m / 65536 / 65536 / 65536 % 65536:Nat):Int)) (iE (kV (m / 65536 / 65536 / 65536) 65536)) (wq (aD 0 bY Z) Z (wq (cL (3) dH Z Z Z (by decide)) Z (dA 1 (.int _ _) cX M7 Z Z Z Z Z Z (fun w9 M9=>(aB (aC (aA ?_)))))))))))))))))))))
  refine aT Z Z (aL 21 (.int .u64 ((m / 65536 / 65536 / 65536:Nat):Int)) (iE (by first | rfl | (rw [iH];omega) | (rw [iH,iH];omega))) (wq (gO Z Z (by decide)) Z (aL 22 (.int .u64 ((m / 65536 / 65536 / 65536 / 65536:Nat):Int)) (iE (kG (m / 65536 / 65536 / 65536) 65536 (by omega))) (bL Z Z (aB (cS (aC (aA (aT Z Z (wq (bE Z Z (by first | decide | omega) (by first | decide | omega)) Z (aL 15 (.int .i64 4) (iE (by first | decide | omega)) (bL Z Z (aB (aC (gD (eM (fr:=[(2,.pointer _),(3,.pointer _),(4,.int _ _),(5,.int .i64 4)]) (bI Z (bI Z (bI Z (bI Z eC)))) (fun ρ10 => ?_)))))))))))))))))
  refine aE (aE (aA (aT Z Z (cV Z Z Z Z (nP 13 Z (by first | decide | omega) (aB (aC (cB Z (cM (cZ (cZ (eL (aC (aE (aA (wq (aV 1 qC M9 Z Z Z) Z (bC 0 _ qC M9 Z Z Z Z Z (aP Z) Z (fun w11 M11=>(aB (aC (aR (fA 0 qC M11 Z Z Z ?_))))))))))))))))))))))
  exact ⟨by rw [← hm];rfl,M11.below⟩
 ·refine aM (aC (aE (aE (aA (bL Z Z (aB (aC (aS (kC 5 (gD (aE (aE (aA (aT Z Z (cV Z Z Z Z (jU 13 Z (by first | decide | omega) (aB (aC (cE Z (aM (aC (aE (aS (aE (aA (aT Z Z (aT Z Z (aL 17 (.int .u64 ((m:Nat):Int)) (iE (by first | rfl | (rw [iH];omega) | (rw [iH,iH];omega))) (wq (iL Z Z (by decide)) Z (aL 18 (.int .u64 ((m % 65536:Nat):Int)) (iE (kV (m) 65536)) ?_))))))))))))))))))))))))))))))
  refine wq (aD 0 bY Z) Z (wq (cL (0) dH Z Z Z (by decide)) Z (dA 1 (.int _ _) cX M2 Z Z Z Z Z Z (fun w12 M12=>(aB (aC (aA (aT Z Z (aL 21 (.int .u64 ((m:Nat):Int)) (iE (by first | rfl | (rw [iH];omega) | (rw [iH,iH];omega))) (wq (gO Z Z (by decide)) Z (aL 22 (.int .u64 ((m / 65536:Nat):Int)) (iE (kG (m) 65536 (by omega))) (bL Z Z (aB (cS (aC (aA (aT Z Z (wq (bE Z Z (by first | decide | omega) (by first | decide | omega)) Z (aL 15 (.int .i64 1) (iE (by first | decide | omega)) ?_))))))))))))))))))
  refine bL Z Z (aB (aC (gD (eM (fr:=[(2,.pointer _),(3,.pointer _),(4,.int _ _),(5,.int .i64 1)]) (bI Z (bI Z (bI Z (bI Z eC)))) (fun ρ13=>(aE (aE (aA (aT Z Z (cV Z Z Z Z (jU 13 Z (by first | decide | omega) (aB (aC (cE Z (aM (aC (aE (aS (aE (aA (aT Z Z (aT Z Z (aL 17 (.int .u64 ((m / 65536:Nat):Int)) (iE (by first | rfl | (rw [iH];omega) | (rw [iH,iH];omega))) (wq (iL Z Z (by decide)) Z (aL 18 (.int .u64 ((m / 65536 % 65536:Nat):Int)) (iE (kV (m / 65536) 65536)) ?_)))))))))))))))))))))))))
  refine wq (aD 0 bY Z) Z (wq (cL (1) dH Z Z Z (by decide)) Z (dA 1 (.int _ _) cX M12 Z Z Z Z Z Z (fun w14 M14=>(aB (aC (aA (aT Z Z (aL 21 (.int .u64 ((m / 65536:Nat):Int)) (iE (by first | rfl | (rw [iH];omega) | (rw [iH,iH];omega))) (wq (gO Z Z (by decide)) Z (aL 22 (.int .u64 ((m / 65536 / 65536:Nat):Int)) (iE (kG (m / 65536) 65536 (by omega))) (bL Z Z (aB (cS (aC (aA (aT Z Z (wq (bE Z Z (by first | decide | omega) (by first | decide | omega)) Z (aL 15 (.int .i64 2) (iE (by first | decide | omega)) ?_))))))))))))))))))
  refine bL Z Z (aB (aC (gD (eM (fr:=[(2,.pointer _),(3,.pointer _),(4,.int _ _),(5,.int .i64 2)]) (bI Z (bI Z (bI Z (bI Z eC)))) (fun ρ15=>(aE (aE (aA (aT Z Z (cV Z Z Z Z (jU 13 Z (by first | decide | omega) (aB (aC (cE Z (aM (aC (aE (aS (aE (aA (aT Z Z (aT Z Z (aL 17 (.int .u64 ((m / 65536 / 65536:Nat):Int)) (iE (by first | rfl | (rw [iH];omega) | (rw [iH,iH];omega))) (wq (iL Z Z (by decide)) Z (aL 18 (.int .u64 ((m / 65536 / 65536 % 65536:Nat):Int)) (iE (kV (m / 65536 / 65536) 65536)) ?_)))))))))))))))))))))))))
  refine wq (aD 0 bY Z) Z (wq (cL (2) dH Z Z Z (by decide)) Z (dA 1 (.int _ _) cX M14 Z Z Z Z Z Z (fun w16 M16=>(aB (aC (aA (aT Z Z (aL 21 (.int .u64 ((m / 65536 / 65536:Nat):Int)) (iE (by first | rfl | (rw [iH];omega) | (rw [iH,iH];omega))) (wq (gO Z Z (by decide)) Z (aL 22 (.int .u64 ((m / 65536 / 65536 / 65536:Nat):Int)) (iE (kG (m / 65536 / 65536) 65536 (by omega))) (bL Z Z (aB (cS (aC (aA (aT Z Z (wq (bE Z Z (by first | decide | omega) (by first | decide | omega)) Z ?_)))))))))))))))))
  refine aL 15 (.int .i64 3) (iE (by first | decide | omega)) (bL Z Z (aB (aC (gD (eM (fr:=[(2,.pointer _),(3,.pointer _),(4,.int _ _),(5,.int .i64 3)]) (bI Z (bI Z (bI Z (bI Z eC)))) (fun ρ17=>(aE (aE (aA (aT Z Z (cV Z Z Z Z (jU 13 Z (by first | decide | omega) (aB (aC (cE Z (aM (aC (aE (aS (aE (aA (aT Z Z (aT Z Z (aL 17 (.int .u64 ((m / 65536 / 65536 / 65536:Nat):Int)) (iE (by first | rfl | (rw [iH];omega) | (rw [iH,iH];omega))) (wq (iL Z Z (by decide)) Z ?_)))))))))))))))))))))))))
  refine aL 18 (.int .u64 ((m / 65536 / 65536 / 65536 % 65536:Nat):Int)) (iE (kV (m / 65536 / 65536 / 65536) 65536)) (wq (aD 0 bY Z) Z (wq (cL (3) dH Z Z Z (by decide)) Z (dA 1 (.int _ _) cX M16 Z Z Z Z Z Z (fun w18 M18=>(aB (aC (aA (aT Z Z (aL 21 (.int .u64 ((m / 65536 / 65536 / 65536:Nat):Int)) (iE (by first | rfl | (rw [iH];omega) | (rw [iH,iH];omega))) (wq (gO Z Z (by decide)) Z (aL 22 (.int .u64 ((m / 65536 / 65536 / 65536 / 65536:Nat):Int)) (iE (kG (m / 65536 / 65536 / 65536) 65536 (by omega))) ?_)))))))))))
  refine bL Z Z (aB (cS (aC (aA (aT Z Z (wq (bE Z Z (by first | decide | omega) (by first | decide | omega)) Z (aL 15 (.int .i64 4) (iE (by first | decide | omega)) (bL Z Z (aB (aC (gD (eM (fr:=[(2,.pointer _),(3,.pointer _),(4,.int _ _),(5,.int .i64 4)]) (bI Z (bI Z (bI Z (bI Z eC)))) (fun ρ19=>(aE (aE (aA (aT Z Z (cV Z Z Z Z (nP 13 Z (by first | decide | omega) (aB (aC ?_)))))))))))))))))))))
  refine cB Z (cM (cZ (cZ (eL (aC (aE (aA (wq (aV 1 qC M18 Z Z Z) Z (bC 0 _ qC M18 Z Z Z Z Z (aP Z) Z (fun w20 M20=>(aB (aC (aR (fA 0 qC M20 Z Z Z ?_))))))))))))))
  exact ⟨by rw [← hm];rfl,M20.below⟩
set_option maxRecDepth 10000 in
theorem yS (w:World) (a b:Int) (ha0 : -9223372036854775808≤a) (ha1:a≤9223372036854775807) (hb0 : -9223372036854775808≤b) (hb1:b≤9223372036854775807) :
  Calls prog 251 #[.int .i64 a,.int .i64 b] w (gY (fun v w'=>∃ D:List Nat,v=(.agg ((D).map mZ).toArray)∧D.length=8∧(∀ x∈D,x < 65536)∧wR D=a.natAbs*b.natAbs∧Below w.heap.size w w')):=by
 obtain ⟨x0,x1,x2,x3,hx,hx0,hx1,hx2,hx3,hX⟩:=bPw (m:=a.natAbs) (by omega)
 obtain ⟨y0,y1,y2,y3,hy,hy0,hy1,hy2,hy3,hY⟩:=bPw (m:=b.natAbs) (by omega)
 refine aI #[.cell 4 344] 57 func251 Z results251 ntmps251 Z ?_
 have M0:=Mem.refl w
 refine aE (aA (aO yE M0 Z Z (fun b1 w1 M1=>(aB (aC (aE (aA (aT Z Z (dM bGb Z Z M1 (aBm _ a ha0 ha1) (fun w2 M2=>(aL 13 (.agg (List.map mZ [x0,x1,x2,x3,0,0,0,0]).toArray) (congrArg (fun l=>Value.agg (List.map mZ l).toArray) hx) (aO yE M2 Z Z (fun b3 w3 M3=>(bC 1 _ qC M3 Z Z Z Z Z (aP Z) Z (fun w4 M4=>(aB (aC (aE (aA (aT Z Z (dM bGb Z Z M4 (aBm _ b hb0 hb1) (fun w5 M5=>(aL 15 (.agg (List.map mZ [y0,y1,y2,y3,0,0,0,0]).toArray) (congrArg (fun l=>Value.agg (List.map mZ l).toArray) hy) ?_)))))))))))))))))))))))
 refine aO yE M5 Z Z (fun b6 w6 M6=>(bC 2 _ qC M6 Z Z Z Z Z (aP Z) Z (fun w7 M7=>(aB (aC (aE (aA (aO yE M7 Z Z (fun b8 w8 M8=>(aB (aC (aE (aE (aA (bL Z Z (aB (aC (aS (kC 5 (gD (aE (aE (aA (aT Z Z (cV Z Z Z Z (jU 17 Z (by first | decide | omega) (aB (aC (cE Z (aM (aC (aE (aS (aE (aA (bL Z Z ?_))))))))))))))))))))))))))))))))))))
 refine aB (aC (aE (aE (aA (bL Z Z (aB (aC (aS (kC 5 (gD (aE (aE (aA (aT Z Z (cV Z Z Z Z (jU 21 Z (by first | decide | omega) (aB (aC (cE Z (aM (aC (aE (aS (aE (gJ [(0,0),(1,0),(2,0),(3,0),(4,0),(5,1),(6,0),(7,0),(8,0),(9,1),(10,0),(11,0),(12,0),(13,1),(14,0),(15,0),(16,0),(17,0),(18,0)] mixed M8 Z (by kernel_rfl) (fun w9 M9 => ?_))))))))))))))))))))))))))
 obtain ⟨t00,ht00,ba00,bb00,bc00,bd00,be00⟩:=iB (z:=0) (c:=0) (x:=x0) (y:=y0) (by decide) (by decide) hx0 hy0
 refine eG Z Z Z (eG Z Z Z (aX Z Z Z (fun _=>bE Z Z (by first | decide | omega) (by first | decide | omega)) (aX Z Z Z (fun _=>aD 0 bY Z) (aX Z Z Z (fun _=>cL (0) dH Z Z Z (by decide)) (bQ Z Z Z (aK 3 (.int _ _) cX M9 Z Z Z) (eG Z Z Z (aX Z Z Z (fun _=>aD 0 bY Z) (aX Z Z Z (fun _=>cL (0) dH Z Z Z (by decide)) (bQ Z Z Z (aK 1 (.int _ _) cX M9 Z Z Z) (eG Z Z Z (aX Z Z Z (fun _=>aD 0 bY Z) (aX Z Z Z (fun _=>cL (0) dH Z Z Z (by decide)) ?_))))))))))))
 refine bQ Z Z Z (aK 2 (.int _ _) cX M9 Z Z Z) (aX Z Z Z (fun _=>cH (.int _ _) Z Z Z) (dX 38 (.int .u64 ((x0*y0:Nat):Int)) (iE (mS x0 y0 ba00)) (aX Z Z Z (fun _=>cH (.int _ _) Z Z Z) (dX 39 (.int .u64 ((0+x0*y0:Nat):Int)) (iE (mL (0) (x0*y0) bb00)) (eG Z Z Z (aX Z Z Z (fun _=>cH (.int _ _) Z Z Z) (dX 41 (.int .u64 (t00:Int)) (iE ((mL (0+x0*y0) (0) bc00).trans (congrArg _ ht00.symm))) (nV Z Z Z (bS (aC (aE (aA (aT Z Z (aT Z Z (wq (bE Z Z (by first | decide | omega) (by first | decide | omega)) Z ?_)))))))))))))))
 refine aL 44 (.int .i64 0) (iE (by first | decide | omega)) (aT Z Z (wq (iL Z Z (by decide)) Z (aL 46 (.int .u64 ((t00 % 65536:Nat):Int)) (iE (kV t00 65536)) (wq (aD 0 bY Z) Z (wq (cL (0) dH Z Z Z (by decide)) Z (dA 3 (.int _ _) cX M9 Z Z Z Z Z Z (fun w10 M10=>(aB (aC (aA (aT Z Z (wq (gO Z Z (by decide)) Z (aL 50 (.int .u64 ((t00 / 65536:Nat):Int)) (iE (kG t00 65536 bd00)) (bL Z Z (aB (cS (aC (aA (aT Z Z ?_)))))))))))))))))))
 refine wq (bE Z Z (by first | decide | omega) (by first | decide | omega)) Z (aL 23 (.int .i64 1) (iE (by first | decide | omega)) (bL Z Z (aB (aC (gD (eM (fr:=[(4,.pointer _),(5,.pointer _),(6,.pointer _),(7,.pointer _),(8,.int .i64 0),(9,.int _ _),(10,.int .i64 1),(11,.int _ _),(16,.int .i64 0),(17,.bool true)]) (bI Z (bI Z (bI Z (bI Z (bI Z (bI Z (bI Z (bI Z (bI Z (bI Z eC)))))))))) (fun ρ11 => ?_)))))))
 have M12:Mem _ _ [_,_,_,(some _,bc [.int .u64 ((t00 % 65536:Nat):Int),.int .u64 0,.int .u64 0,.int .u64 0,.int .u64 0,.int .u64 0,.int .u64 0,.int .u64 0] 344)] _:=M10
 refine aE (aE (aA (aT Z Z (cV Z Z Z Z (jU 21 Z (by first | decide | omega) (aB (aC (cE Z (aM (aC (aE (aS (aE (gJ [(0,0),(1,0),(2,0),(3,0),(4,0),(5,1),(6,0),(7,0),(8,0),(9,1),(10,0),(11,0),(12,0),(13,1),(14,0),(15,0),(16,0),(17,0),(18,0)] mixed M12 Z (by kernel_rfl) (fun w13 M13 => ?_)))))))))))))))
 obtain ⟨t01,ht01,ba01,bb01,bc01,bd01,be01⟩:=iB (z:=0) (c:=t00 / 65536) (x:=x0) (y:=y1) (by decide) be00 hx0 hy1
 refine eG Z Z Z (eG Z Z Z (aX Z Z Z (fun _=>bE Z Z (by first | decide | omega) (by first | decide | omega)) (aX Z Z Z (fun _=>aD 0 bY Z) (aX Z Z Z (fun _=>cL (1) dH Z Z Z (by decide)) (bQ Z Z Z (aK 3 (.int _ _) cX M13 Z Z Z) (eG Z Z Z (aX Z Z Z (fun _=>aD 0 bY Z) (aX Z Z Z (fun _=>cL (0) dH Z Z Z (by decide)) (bQ Z Z Z (aK 1 (.int _ _) cX M13 Z Z Z) (eG Z Z Z (aX Z Z Z (fun _=>aD 0 bY Z) (aX Z Z Z (fun _=>cL (1) dH Z Z Z (by decide)) ?_))))))))))))
 refine bQ Z Z Z (aK 2 (.int _ _) cX M13 Z Z Z) (aX Z Z Z (fun _=>cH (.int _ _) Z Z Z) (dX 38 (.int .u64 ((x0*y1:Nat):Int)) (iE (mS x0 y1 ba01)) (aX Z Z Z (fun _=>cH (.int _ _) Z Z Z) (dX 39 (.int .u64 ((0+x0*y1:Nat):Int)) (iE (mL (0) (x0*y1) bb01)) (eG Z Z Z (aX Z Z Z (fun _=>cH (.int _ _) Z Z Z) (dX 41 (.int .u64 (t01:Int)) (iE ((mL (0+x0*y1) (t00 / 65536) bc01).trans (congrArg _ ht01.symm))) (nV Z Z Z (bS (aC (aE (aA (aT Z Z (aT Z Z (wq (bE Z Z (by first | decide | omega) (by first | decide | omega)) Z ?_)))))))))))))))
 refine aL 44 (.int .i64 1) (iE (by first | decide | omega)) (aT Z Z (wq (iL Z Z (by decide)) Z (aL 46 (.int .u64 ((t01 % 65536:Nat):Int)) (iE (kV t01 65536)) (wq (aD 0 bY Z) Z (wq (cL (1) dH Z Z Z (by decide)) Z (dA 3 (.int _ _) cX M13 Z Z Z Z Z Z (fun w14 M14=>(aB (aC (aA (aT Z Z (wq (gO Z Z (by decide)) Z (aL 50 (.int .u64 ((t01 / 65536:Nat):Int)) (iE (kG t01 65536 bd01)) (bL Z Z (aB (cS (aC (aA (aT Z Z ?_)))))))))))))))))))
 refine wq (bE Z Z (by first | decide | omega) (by first | decide | omega)) Z (aL 23 (.int .i64 2) (iE (by first | decide | omega)) (bL Z Z (aB (aC (gD (eM (fr:=[(4,.pointer _),(5,.pointer _),(6,.pointer _),(7,.pointer _),(8,.int .i64 0),(9,.int _ _),(10,.int .i64 2),(11,.int _ _),(16,.int .i64 0),(17,.bool true)]) (bI Z (bI Z (bI Z (bI Z (bI Z (bI Z (bI Z (bI Z (bI Z (bI Z eC)))))))))) (fun ρ15 => ?_)))))))
 have M16:Mem _ _ [_,_,_,(some _,bc [.int .u64 ((t00 % 65536:Nat):Int),.int .u64 ((t01 % 65536:Nat):Int),.int .u64 0,.int .u64 0,.int .u64 0,.int .u64 0,.int .u64 0,.int .u64 0] 344)] _:=M14
 refine aE (aE (aA (aT Z Z (cV Z Z Z Z (jU 21 Z (by first | decide | omega) (aB (aC (cE Z (aM (aC (aE (aS (aE (gJ [(0,0),(1,0),(2,0),(3,0),(4,0),(5,1),(6,0),(7,0),(8,0),(9,1),(10,0),(11,0),(12,0),(13,1),(14,0),(15,0),(16,0),(17,0),(18,0)] mixed M16 Z (by kernel_rfl) (fun w17 M17 => ?_)))))))))))))))
 obtain ⟨t02,ht02,ba02,bb02,bc02,bd02,be02⟩:=iB (z:=0) (c:=t01 / 65536) (x:=x0) (y:=y2) (by decide) be01 hx0 hy2
 refine eG Z Z Z (eG Z Z Z (aX Z Z Z (fun _=>bE Z Z (by first | decide | omega) (by first | decide | omega)) (aX Z Z Z (fun _=>aD 0 bY Z) (aX Z Z Z (fun _=>cL (2) dH Z Z Z (by decide)) (bQ Z Z Z (aK 3 (.int _ _) cX M17 Z Z Z) (eG Z Z Z (aX Z Z Z (fun _=>aD 0 bY Z) (aX Z Z Z (fun _=>cL (0) dH Z Z Z (by decide)) (bQ Z Z Z (aK 1 (.int _ _) cX M17 Z Z Z) (eG Z Z Z (aX Z Z Z (fun _=>aD 0 bY Z) (aX Z Z Z (fun _=>cL (2) dH Z Z Z (by decide)) ?_))))))))))))
 refine bQ Z Z Z (aK 2 (.int _ _) cX M17 Z Z Z) (aX Z Z Z (fun _=>cH (.int _ _) Z Z Z) (dX 38 (.int .u64 ((x0*y2:Nat):Int)) (iE (mS x0 y2 ba02)) (aX Z Z Z (fun _=>cH (.int _ _) Z Z Z) (dX 39 (.int .u64 ((0+x0*y2:Nat):Int)) (iE (mL (0) (x0*y2) bb02)) (eG Z Z Z (aX Z Z Z (fun _=>cH (.int _ _) Z Z Z) (dX 41 (.int .u64 (t02:Int)) (iE ((mL (0+x0*y2) (t01 / 65536) bc02).trans (congrArg _ ht02.symm))) (nV Z Z Z (bS (aC (aE (aA (aT Z Z (aT Z Z (wq (bE Z Z (by first | decide | omega) (by first | decide | omega)) Z ?_)))))))))))))))
 refine aL 44 (.int .i64 2) (iE (by first | decide | omega)) (aT Z Z (wq (iL Z Z (by decide)) Z (aL 46 (.int .u64 ((t02 % 65536:Nat):Int)) (iE (kV t02 65536)) (wq (aD 0 bY Z) Z (wq (cL (2) dH Z Z Z (by decide)) Z (dA 3 (.int _ _) cX M17 Z Z Z Z Z Z (fun w18 M18=>(aB (aC (aA (aT Z Z (wq (gO Z Z (by decide)) Z (aL 50 (.int .u64 ((t02 / 65536:Nat):Int)) (iE (kG t02 65536 bd02)) (bL Z Z (aB (cS (aC (aA (aT Z Z ?_)))))))))))))))))))
 refine wq (bE Z Z (by first | decide | omega) (by first | decide | omega)) Z (aL 23 (.int .i64 3) (iE (by first | decide | omega)) (bL Z Z (aB (aC (gD (eM (fr:=[(4,.pointer _),(5,.pointer _),(6,.pointer _),(7,.pointer _),(8,.int .i64 0),(9,.int _ _),(10,.int .i64 3),(11,.int _ _),(16,.int .i64 0),(17,.bool true)]) (bI Z (bI Z (bI Z (bI Z (bI Z (bI Z (bI Z (bI Z (bI Z (bI Z eC)))))))))) (fun ρ19 => ?_)))))))
 have M20:Mem _ _ [_,_,_,(some _,bc [.int .u64 ((t00 % 65536:Nat):Int),.int .u64 ((t01 % 65536:Nat):Int),.int .u64 ((t02 % 65536:Nat):Int),.int .u64 0,.int .u64 0,.int .u64 0,.int .u64 0,.int .u64 0] 344)] _:=M18
 refine aE (aE (aA (aT Z Z (cV Z Z Z Z (jU 21 Z (by first | decide | omega) (aB (aC (cE Z (aM (aC (aE (aS (aE (gJ [(0,0),(1,0),(2,0),(3,0),(4,0),(5,1),(6,0),(7,0),(8,0),(9,1),(10,0),(11,0),(12,0),(13,1),(14,0),(15,0),(16,0),(17,0),(18,0)] mixed M20 Z (by kernel_rfl) (fun w21 M21 => ?_)))))))))))))))
 obtain ⟨t03,ht03,ba03,bb03,bc03,bd03,be03⟩:=iB (z:=0) (c:=t02 / 65536) (x:=x0) (y:=y3) (by decide) be02 hx0 hy3
 refine eG Z Z Z (eG Z Z Z (aX Z Z Z (fun _=>bE Z Z (by first | decide | omega) (by first | decide | omega)) (aX Z Z Z (fun _=>aD 0 bY Z) (aX Z Z Z (fun _=>cL (3) dH Z Z Z (by decide)) (bQ Z Z Z (aK 3 (.int _ _) cX M21 Z Z Z) (eG Z Z Z (aX Z Z Z (fun _=>aD 0 bY Z) (aX Z Z Z (fun _=>cL (0) dH Z Z Z (by decide)) (bQ Z Z Z (aK 1 (.int _ _) cX M21 Z Z Z) (eG Z Z Z (aX Z Z Z (fun _=>aD 0 bY Z) (aX Z Z Z (fun _=>cL (3) dH Z Z Z (by decide)) ?_))))))))))))
 refine bQ Z Z Z (aK 2 (.int _ _) cX M21 Z Z Z) (aX Z Z Z (fun _=>cH (.int _ _) Z Z Z) (dX 38 (.int .u64 ((x0*y3:Nat):Int)) (iE (mS x0 y3 ba03)) (aX Z Z Z (fun _=>cH (.int _ _) Z Z Z) (dX 39 (.int .u64 ((0+x0*y3:Nat):Int)) (iE (mL (0) (x0*y3) bb03)) (eG Z Z Z (aX Z Z Z (fun _=>cH (.int _ _) Z Z Z) (dX 41 (.int .u64 (t03:Int)) (iE ((mL (0+x0*y3) (t02 / 65536) bc03).trans (congrArg _ ht03.symm))) (nV Z Z Z (bS (aC (aE (aA (aT Z Z (aT Z Z (wq (bE Z Z (by first | decide | omega) (by first | decide | omega)) Z ?_)))))))))))))))
 refine aL 44 (.int .i64 3) (iE (by first | decide | omega)) (aT Z Z (wq (iL Z Z (by decide)) Z (aL 46 (.int .u64 ((t03 % 65536:Nat):Int)) (iE (kV t03 65536)) (wq (aD 0 bY Z) Z (wq (cL (3) dH Z Z Z (by decide)) Z (dA 3 (.int _ _) cX M21 Z Z Z Z Z Z (fun w22 M22=>(aB (aC (aA (aT Z Z (wq (gO Z Z (by decide)) Z (aL 50 (.int .u64 ((t03 / 65536:Nat):Int)) (iE (kG t03 65536 bd03)) (bL Z Z (aB (cS (aC (aA (aT Z Z ?_)))))))))))))))))))
 refine wq (bE Z Z (by first | decide | omega) (by first | decide | omega)) Z (aL 23 (.int .i64 4) (iE (by first | decide | omega)) (bL Z Z (aB (aC (gD (eM (fr:=[(4,.pointer _),(5,.pointer _),(6,.pointer _),(7,.pointer _),(8,.int .i64 0),(9,.int _ _),(10,.int .i64 4),(11,.int _ _),(16,.int .i64 0),(17,.bool true)]) (bI Z (bI Z (bI Z (bI Z (bI Z (bI Z (bI Z (bI Z (bI Z (bI Z eC)))))))))) (fun ρ23 => ?_)))))))
 have M24:Mem _ _ [_,_,_,(some _,bc [.int .u64 ((t00 % 65536:Nat):Int),.int .u64 ((t01 % 65536:Nat):Int),.int .u64 ((t02 % 65536:Nat):Int),.int .u64 ((t03 % 65536:Nat):Int),.int .u64 0,.int .u64 0,.int .u64 0,.int .u64 0] 344)] _:=M22
 refine aE (aE (aA (aT Z Z (cV Z Z Z Z (nP 21 Z (by first | decide | omega) (aB (aC (cB Z (cM (cZ (cZ (eL (aC (aA (aT Z Z (wq (bE Z Z (by first | decide | omega) (by first | decide | omega)) Z (aL 52 (.int .i64 4) (iE (by first | decide | omega)) (aT Z Z (wq (aD 0 bY Z) Z (wq (cL (4) dH Z Z Z (by decide)) Z ?_))))))))))))))))))))
 refine dA 3 (.int _ _) cX M24 Z Z Z Z Z Z (fun w25 M25=>(aB (cS (aC (aA (aT Z Z (wq (bE Z Z (by first | decide | omega) (by first | decide | omega)) Z (aL 19 (.int .i64 1) (iE (by first | decide | omega)) (bL Z Z (aB (aC (gD (eM (fr:=[(4,.pointer _),(5,.pointer _),(6,.pointer _),(7,.pointer _),(8,.int .i64 1),(9,.int _ _),(10,.int .i64 4),(11,.int _ _)]) (bI Z (bI Z (bI Z (bI Z (bI Z (bI Z (bI Z (bI Z eC)))))))) (fun ρ26 => ?_))))))))))))))
 have M27:Mem _ _ [_,_,_,(some _,bc [.int .u64 ((t00 % 65536:Nat):Int),.int .u64 ((t01 % 65536:Nat):Int),.int .u64 ((t02 % 65536:Nat):Int),.int .u64 ((t03 % 65536:Nat):Int),.int .u64 ((t03 / 65536:Nat):Int),.int .u64 0,.int .u64 0,.int .u64 0] 344)] _:=M25
 refine aE (aE (aA (aT Z Z (cV Z Z Z Z (jU 17 Z (by first | decide | omega) (aB (aC (cE Z (aM (aC (aE (aS (aE (aA (bL Z Z (aB (aC (aE (aE (aA (bL Z Z (aB (aC (aS (kC 5 (gD (aE (aE (aA (aT Z Z (cV Z Z Z Z (jU 21 Z (by first | decide | omega) ?_))))))))))))))))))))))))))))))))
 refine aB (aC (cE Z (aM (aC (aE (aS (aE (gJ [(0,0),(1,0),(2,0),(3,0),(4,0),(5,1),(6,0),(7,0),(8,0),(9,1),(10,0),(11,0),(12,0),(13,1),(14,0),(15,0),(16,0),(17,0),(18,0)] mixed M27 Z (by kernel_rfl) (fun w28 M28 => ?_)))))))))
 obtain ⟨t10,ht10,ba10,bb10,bc10,bd10,be10⟩:=iB (z:=t01 % 65536) (c:=0) (x:=x1) (y:=y0) (Nat.mod_lt _ (by decide)) (by decide) hx1 hy0
 refine eG Z Z Z (eG Z Z Z (aX Z Z Z (fun _=>bE Z Z (by first | decide | omega) (by first | decide | omega)) (aX Z Z Z (fun _=>aD 0 bY Z) (aX Z Z Z (fun _=>cL (1) dH Z Z Z (by decide)) (bQ Z Z Z (aK 3 (.int _ _) cX M28 Z Z Z) (eG Z Z Z (aX Z Z Z (fun _=>aD 0 bY Z) (aX Z Z Z (fun _=>cL (1) dH Z Z Z (by decide)) (bQ Z Z Z (aK 1 (.int _ _) cX M28 Z Z Z) (eG Z Z Z (aX Z Z Z (fun _=>aD 0 bY Z) (aX Z Z Z (fun _=>cL (0) dH Z Z Z (by decide)) ?_))))))))))))
 refine bQ Z Z Z (aK 2 (.int _ _) cX M28 Z Z Z) (aX Z Z Z (fun _=>cH (.int _ _) Z Z Z) (dX 38 (.int .u64 ((x1*y0:Nat):Int)) (iE (mS x1 y0 ba10)) (aX Z Z Z (fun _=>cH (.int _ _) Z Z Z) (dX 39 (.int .u64 ((t01 % 65536+x1*y0:Nat):Int)) (iE (mL (t01 % 65536) (x1*y0) bb10)) (eG Z Z Z (aX Z Z Z (fun _=>cH (.int _ _) Z Z Z) (dX 41 (.int .u64 (t10:Int)) (iE ((mL (t01 % 65536+x1*y0) (0) bc10).trans (congrArg _ ht10.symm))) (nV Z Z Z (bS (aC (aE (aA (aT Z Z (aT Z Z (wq (bE Z Z (by first | decide | omega) (by first | decide | omega)) Z ?_)))))))))))))))
 refine aL 44 (.int .i64 1) (iE (by first | decide | omega)) (aT Z Z (wq (iL Z Z (by decide)) Z (aL 46 (.int .u64 ((t10 % 65536:Nat):Int)) (iE (kV t10 65536)) (wq (aD 0 bY Z) Z (wq (cL (1) dH Z Z Z (by decide)) Z (dA 3 (.int _ _) cX M28 Z Z Z Z Z Z (fun w29 M29=>(aB (aC (aA (aT Z Z (wq (gO Z Z (by decide)) Z (aL 50 (.int .u64 ((t10 / 65536:Nat):Int)) (iE (kG t10 65536 bd10)) (bL Z Z (aB (cS (aC (aA (aT Z Z ?_)))))))))))))))))))
 refine wq (bE Z Z (by first | decide | omega) (by first | decide | omega)) Z (aL 23 (.int .i64 1) (iE (by first | decide | omega)) (bL Z Z (aB (aC (gD (eM (fr:=[(4,.pointer _),(5,.pointer _),(6,.pointer _),(7,.pointer _),(8,.int .i64 1),(9,.int _ _),(10,.int .i64 1),(11,.int _ _),(16,.int .i64 1),(17,.bool true)]) (bI Z (bI Z (bI Z (bI Z (bI Z (bI Z (bI Z (bI Z (bI Z (bI Z eC)))))))))) (fun ρ30 => ?_)))))))
 have M31:Mem _ _ [_,_,_,(some _,bc [.int .u64 ((t00 % 65536:Nat):Int),.int .u64 ((t10 % 65536:Nat):Int),.int .u64 ((t02 % 65536:Nat):Int),.int .u64 ((t03 % 65536:Nat):Int),.int .u64 ((t03 / 65536:Nat):Int),.int .u64 0,.int .u64 0,.int .u64 0] 344)] _:=M29
 refine aE (aE (aA (aT Z Z (cV Z Z Z Z (jU 21 Z (by first | decide | omega) (aB (aC (cE Z (aM (aC (aE (aS (aE (gJ [(0,0),(1,0),(2,0),(3,0),(4,0),(5,1),(6,0),(7,0),(8,0),(9,1),(10,0),(11,0),(12,0),(13,1),(14,0),(15,0),(16,0),(17,0),(18,0)] mixed M31 Z (by kernel_rfl) (fun w32 M32 => ?_)))))))))))))))
 obtain ⟨t11,ht11,ba11,bb11,bc11,bd11,be11⟩:=iB (z:=t02 % 65536) (c:=t10 / 65536) (x:=x1) (y:=y1) (Nat.mod_lt _ (by decide)) be10 hx1 hy1
 refine eG Z Z Z (eG Z Z Z (aX Z Z Z (fun _=>bE Z Z (by first | decide | omega) (by first | decide | omega)) (aX Z Z Z (fun _=>aD 0 bY Z) (aX Z Z Z (fun _=>cL (2) dH Z Z Z (by decide)) (bQ Z Z Z (aK 3 (.int _ _) cX M32 Z Z Z) (eG Z Z Z (aX Z Z Z (fun _=>aD 0 bY Z) (aX Z Z Z (fun _=>cL (1) dH Z Z Z (by decide)) (bQ Z Z Z (aK 1 (.int _ _) cX M32 Z Z Z) (eG Z Z Z (aX Z Z Z (fun _=>aD 0 bY Z) (aX Z Z Z (fun _=>cL (1) dH Z Z Z (by decide)) ?_))))))))))))
 refine bQ Z Z Z (aK 2 (.int _ _) cX M32 Z Z Z) (aX Z Z Z (fun _=>cH (.int _ _) Z Z Z) (dX 38 (.int .u64 ((x1*y1:Nat):Int)) (iE (mS x1 y1 ba11)) (aX Z Z Z (fun _=>cH (.int _ _) Z Z Z) (dX 39 (.int .u64 ((t02 % 65536+x1*y1:Nat):Int)) (iE (mL (t02 % 65536) (x1*y1) bb11)) (eG Z Z Z (aX Z Z Z (fun _=>cH (.int _ _) Z Z Z) (dX 41 (.int .u64 (t11:Int)) (iE ((mL (t02 % 65536+x1*y1) (t10 / 65536) bc11).trans (congrArg _ ht11.symm))) (nV Z Z Z (bS (aC (aE (aA (aT Z Z (aT Z Z ?_))))))))))))))
 refine wq (bE Z Z (by first | decide | omega) (by first | decide | omega)) Z (aL 44 (.int .i64 2) (iE (by first | decide | omega)) (aT Z Z (wq (iL Z Z (by decide)) Z (aL 46 (.int .u64 ((t11 % 65536:Nat):Int)) (iE (kV t11 65536)) (wq (aD 0 bY Z) Z (wq (cL (2) dH Z Z Z (by decide)) Z (dA 3 (.int _ _) cX M32 Z Z Z Z Z Z (fun w33 M33=>(aB (aC (aA (aT Z Z (wq (gO Z Z (by decide)) Z (aL 50 (.int .u64 ((t11 / 65536:Nat):Int)) (iE (kG t11 65536 bd11)) (bL Z Z (aB (cS (aC (aA ?_)))))))))))))))))))
 refine aT Z Z (wq (bE Z Z (by first | decide | omega) (by first | decide | omega)) Z (aL 23 (.int .i64 2) (iE (by first | decide | omega)) (bL Z Z (aB (aC (gD (eM (fr:=[(4,.pointer _),(5,.pointer _),(6,.pointer _),(7,.pointer _),(8,.int .i64 1),(9,.int _ _),(10,.int .i64 2),(11,.int _ _),(16,.int .i64 1),(17,.bool true)]) (bI Z (bI Z (bI Z (bI Z (bI Z (bI Z (bI Z (bI Z (bI Z (bI Z eC)))))))))) (fun ρ34 => ?_))))))))
 have M35:Mem _ _ [_,_,_,(some _,bc [.int .u64 ((t00 % 65536:Nat):Int),.int .u64 ((t10 % 65536:Nat):Int),.int .u64 ((t11 % 65536:Nat):Int),.int .u64 ((t03 % 65536:Nat):Int),.int .u64 ((t03 / 65536:Nat):Int),.int .u64 0,.int .u64 0,.int .u64 0] 344)] _:=M33
 refine aE (aE (aA (aT Z Z (cV Z Z Z Z (jU 21 Z (by first | decide | omega) (aB (aC (cE Z (aM (aC (aE (aS (aE (gJ [(0,0),(1,0),(2,0),(3,0),(4,0),(5,1),(6,0),(7,0),(8,0),(9,1),(10,0),(11,0),(12,0),(13,1),(14,0),(15,0),(16,0),(17,0),(18,0)] mixed M35 Z (by kernel_rfl) (fun w36 M36 => ?_)))))))))))))))
 obtain ⟨t12,ht12,ba12,bb12,bc12,bd12,be12⟩:=iB (z:=t03 % 65536) (c:=t11 / 65536) (x:=x1) (y:=y2) (Nat.mod_lt _ (by decide)) be11 hx1 hy2
 refine eG Z Z Z (eG Z Z Z (aX Z Z Z (fun _=>bE Z Z (by first | decide | omega) (by first | decide | omega)) (aX Z Z Z (fun _=>aD 0 bY Z) (aX Z Z Z (fun _=>cL (3) dH Z Z Z (by decide)) (bQ Z Z Z (aK 3 (.int _ _) cX M36 Z Z Z) (eG Z Z Z (aX Z Z Z (fun _=>aD 0 bY Z) (aX Z Z Z (fun _=>cL (1) dH Z Z Z (by decide)) (bQ Z Z Z (aK 1 (.int _ _) cX M36 Z Z Z) (eG Z Z Z (aX Z Z Z (fun _=>aD 0 bY Z) (aX Z Z Z (fun _=>cL (2) dH Z Z Z (by decide)) ?_))))))))))))
 refine bQ Z Z Z (aK 2 (.int _ _) cX M36 Z Z Z) (aX Z Z Z (fun _=>cH (.int _ _) Z Z Z) (dX 38 (.int .u64 ((x1*y2:Nat):Int)) (iE (mS x1 y2 ba12)) (aX Z Z Z (fun _=>cH (.int _ _) Z Z Z) (dX 39 (.int .u64 ((t03 % 65536+x1*y2:Nat):Int)) (iE (mL (t03 % 65536) (x1*y2) bb12)) (eG Z Z Z (aX Z Z Z (fun _=>cH (.int _ _) Z Z Z) (dX 41 (.int .u64 (t12:Int)) (iE ((mL (t03 % 65536+x1*y2) (t11 / 65536) bc12).trans (congrArg _ ht12.symm))) (nV Z Z Z (bS (aC (aE (aA (aT Z Z (aT Z Z ?_))))))))))))))
 refine wq (bE Z Z (by first | decide | omega) (by first | decide | omega)) Z (aL 44 (.int .i64 3) (iE (by first | decide | omega)) (aT Z Z (wq (iL Z Z (by decide)) Z (aL 46 (.int .u64 ((t12 % 65536:Nat):Int)) (iE (kV t12 65536)) (wq (aD 0 bY Z) Z (wq (cL (3) dH Z Z Z (by decide)) Z (dA 3 (.int _ _) cX M36 Z Z Z Z Z Z (fun w37 M37=>(aB (aC (aA (aT Z Z (wq (gO Z Z (by decide)) Z (aL 50 (.int .u64 ((t12 / 65536:Nat):Int)) (iE (kG t12 65536 bd12)) (bL Z Z (aB (cS (aC (aA ?_)))))))))))))))))))
 refine aT Z Z (wq (bE Z Z (by first | decide | omega) (by first | decide | omega)) Z (aL 23 (.int .i64 3) (iE (by first | decide | omega)) (bL Z Z (aB (aC (gD (eM (fr:=[(4,.pointer _),(5,.pointer _),(6,.pointer _),(7,.pointer _),(8,.int .i64 1),(9,.int _ _),(10,.int .i64 3),(11,.int _ _),(16,.int .i64 1),(17,.bool true)]) (bI Z (bI Z (bI Z (bI Z (bI Z (bI Z (bI Z (bI Z (bI Z (bI Z eC)))))))))) (fun ρ38 => ?_))))))))
 have M39:Mem _ _ [_,_,_,(some _,bc [.int .u64 ((t00 % 65536:Nat):Int),.int .u64 ((t10 % 65536:Nat):Int),.int .u64 ((t11 % 65536:Nat):Int),.int .u64 ((t12 % 65536:Nat):Int),.int .u64 ((t03 / 65536:Nat):Int),.int .u64 0,.int .u64 0,.int .u64 0] 344)] _:=M37
 refine aE (aE (aA (aT Z Z (cV Z Z Z Z (jU 21 Z (by first | decide | omega) (aB (aC (cE Z (aM (aC (aE (aS (aE (gJ [(0,0),(1,0),(2,0),(3,0),(4,0),(5,1),(6,0),(7,0),(8,0),(9,1),(10,0),(11,0),(12,0),(13,1),(14,0),(15,0),(16,0),(17,0),(18,0)] mixed M39 Z (by kernel_rfl) (fun w40 M40 => ?_)))))))))))))))
 obtain ⟨t13,ht13,ba13,bb13,bc13,bd13,be13⟩:=iB (z:=t03 / 65536) (c:=t12 / 65536) (x:=x1) (y:=y3) be03 be12 hx1 hy3
 refine eG Z Z Z (eG Z Z Z (aX Z Z Z (fun _=>bE Z Z (by first | decide | omega) (by first | decide | omega)) (aX Z Z Z (fun _=>aD 0 bY Z) (aX Z Z Z (fun _=>cL (4) dH Z Z Z (by decide)) (bQ Z Z Z (aK 3 (.int _ _) cX M40 Z Z Z) (eG Z Z Z (aX Z Z Z (fun _=>aD 0 bY Z) (aX Z Z Z (fun _=>cL (1) dH Z Z Z (by decide)) (bQ Z Z Z (aK 1 (.int _ _) cX M40 Z Z Z) (eG Z Z Z (aX Z Z Z (fun _=>aD 0 bY Z) (aX Z Z Z (fun _=>cL (3) dH Z Z Z (by decide)) ?_))))))))))))
 refine bQ Z Z Z (aK 2 (.int _ _) cX M40 Z Z Z) (aX Z Z Z (fun _=>cH (.int _ _) Z Z Z) (dX 38 (.int .u64 ((x1*y3:Nat):Int)) (iE (mS x1 y3 ba13)) (aX Z Z Z (fun _=>cH (.int _ _) Z Z Z) (dX 39 (.int .u64 ((t03 / 65536+x1*y3:Nat):Int)) (iE (mL (t03 / 65536) (x1*y3) bb13)) (eG Z Z Z (aX Z Z Z (fun _=>cH (.int _ _) Z Z Z) (dX 41 (.int .u64 (t13:Int)) (iE ((mL (t03 / 65536+x1*y3) (t12 / 65536) bc13).trans (congrArg _ ht13.symm))) (nV Z Z Z (bS (aC (aE (aA (aT Z Z (aT Z Z ?_))))))))))))))
 refine wq (bE Z Z (by first | decide | omega) (by first | decide | omega)) Z (aL 44 (.int .i64 4) (iE (by first | decide | omega)) (aT Z Z (wq (iL Z Z (by decide)) Z (aL 46 (.int .u64 ((t13 % 65536:Nat):Int)) (iE (kV t13 65536)) (wq (aD 0 bY Z) Z (wq (cL (4) dH Z Z Z (by decide)) Z (dA 3 (.int _ _) cX M40 Z Z Z Z Z Z (fun w41 M41=>(aB (aC (aA (aT Z Z (wq (gO Z Z (by decide)) Z (aL 50 (.int .u64 ((t13 / 65536:Nat):Int)) (iE (kG t13 65536 bd13)) (bL Z Z (aB (cS (aC (aA ?_)))))))))))))))))))
 refine aT Z Z (wq (bE Z Z (by first | decide | omega) (by first | decide | omega)) Z (aL 23 (.int .i64 4) (iE (by first | decide | omega)) (bL Z Z (aB (aC (gD (eM (fr:=[(4,.pointer _),(5,.pointer _),(6,.pointer _),(7,.pointer _),(8,.int .i64 1),(9,.int _ _),(10,.int .i64 4),(11,.int _ _),(16,.int .i64 1),(17,.bool true)]) (bI Z (bI Z (bI Z (bI Z (bI Z (bI Z (bI Z (bI Z (bI Z (bI Z eC)))))))))) (fun ρ42 => ?_))))))))
 have M43:Mem _ _ [_,_,_,(some _,bc [.int .u64 ((t00 % 65536:Nat):Int),.int .u64 ((t10 % 65536:Nat):Int),.int .u64 ((t11 % 65536:Nat):Int),.int .u64 ((t12 % 65536:Nat):Int),.int .u64 ((t13 % 65536:Nat):Int),.int .u64 0,.int .u64 0,.int .u64 0] 344)] _:=M41
 refine aE (aE (aA (aT Z Z (cV Z Z Z Z (nP 21 Z (by first | decide | omega) (aB (aC (cB Z (cM (cZ (cZ (eL (aC (aA (aT Z Z (wq (bE Z Z (by first | decide | omega) (by first | decide | omega)) Z (aL 52 (.int .i64 5) (iE (by first | decide | omega)) (aT Z Z (wq (aD 0 bY Z) Z (wq (cL (5) dH Z Z Z (by decide)) Z ?_))))))))))))))))))))
 refine dA 3 (.int _ _) cX M43 Z Z Z Z Z Z (fun w44 M44=>(aB (cS (aC (aA (aT Z Z (wq (bE Z Z (by first | decide | omega) (by first | decide | omega)) Z (aL 19 (.int .i64 2) (iE (by first | decide | omega)) (bL Z Z (aB (aC (gD (eM (fr:=[(4,.pointer _),(5,.pointer _),(6,.pointer _),(7,.pointer _),(8,.int .i64 2),(9,.int _ _),(10,.int .i64 4),(11,.int _ _)]) (bI Z (bI Z (bI Z (bI Z (bI Z (bI Z (bI Z (bI Z eC)))))))) (fun ρ45 => ?_))))))))))))))
 have M46:Mem _ _ [_,_,_,(some _,bc [.int .u64 ((t00 % 65536:Nat):Int),.int .u64 ((t10 % 65536:Nat):Int),.int .u64 ((t11 % 65536:Nat):Int),.int .u64 ((t12 % 65536:Nat):Int),.int .u64 ((t13 % 65536:Nat):Int),.int .u64 ((t13 / 65536:Nat):Int),.int .u64 0,.int .u64 0] 344)] _:=M44
 refine aE (aE (aA (aT Z Z (cV Z Z Z Z (jU 17 Z (by first | decide | omega) (aB (aC (cE Z (aM (aC (aE (aS (aE (aA (bL Z Z (aB (aC (aE (aE (aA (bL Z Z (aB (aC (aS (kC 5 (gD (aE (aE (aA (aT Z Z (cV Z Z Z Z (jU 21 Z (by first | decide | omega) ?_))))))))))))))))))))))))))))))))
 refine aB (aC (cE Z (aM (aC (aE (aS (aE (gJ [(0,0),(1,0),(2,0),(3,0),(4,0),(5,1),(6,0),(7,0),(8,0),(9,1),(10,0),(11,0),(12,0),(13,1),(14,0),(15,0),(16,0),(17,0),(18,0)] mixed M46 Z (by kernel_rfl) (fun w47 M47 => ?_)))))))))
 obtain ⟨t20,ht20,ba20,bb20,bc20,bd20,be20⟩:=iB (z:=t11 % 65536) (c:=0) (x:=x2) (y:=y0) (Nat.mod_lt _ (by decide)) (by decide) hx2 hy0
 refine eG Z Z Z (eG Z Z Z (aX Z Z Z (fun _=>bE Z Z (by first | decide | omega) (by first | decide | omega)) (aX Z Z Z (fun _=>aD 0 bY Z) (aX Z Z Z (fun _=>cL (2) dH Z Z Z (by decide)) (bQ Z Z Z (aK 3 (.int _ _) cX M47 Z Z Z) (eG Z Z Z (aX Z Z Z (fun _=>aD 0 bY Z) (aX Z Z Z (fun _=>cL (2) dH Z Z Z (by decide)) (bQ Z Z Z (aK 1 (.int _ _) cX M47 Z Z Z) (eG Z Z Z (aX Z Z Z (fun _=>aD 0 bY Z) (aX Z Z Z (fun _=>cL (0) dH Z Z Z (by decide)) ?_))))))))))))
 refine bQ Z Z Z (aK 2 (.int _ _) cX M47 Z Z Z) (aX Z Z Z (fun _=>cH (.int _ _) Z Z Z) (dX 38 (.int .u64 ((x2*y0:Nat):Int)) (iE (mS x2 y0 ba20)) (aX Z Z Z (fun _=>cH (.int _ _) Z Z Z) (dX 39 (.int .u64 ((t11 % 65536+x2*y0:Nat):Int)) (iE (mL (t11 % 65536) (x2*y0) bb20)) (eG Z Z Z (aX Z Z Z (fun _=>cH (.int _ _) Z Z Z) (dX 41 (.int .u64 (t20:Int)) (iE ((mL (t11 % 65536+x2*y0) (0) bc20).trans (congrArg _ ht20.symm))) (nV Z Z Z (bS (aC (aE (aA (aT Z Z (aT Z Z (wq (bE Z Z (by first | decide | omega) (by first | decide | omega)) Z ?_)))))))))))))))
 refine aL 44 (.int .i64 2) (iE (by first | decide | omega)) (aT Z Z (wq (iL Z Z (by decide)) Z (aL 46 (.int .u64 ((t20 % 65536:Nat):Int)) (iE (kV t20 65536)) (wq (aD 0 bY Z) Z (wq (cL (2) dH Z Z Z (by decide)) Z (dA 3 (.int _ _) cX M47 Z Z Z Z Z Z (fun w48 M48=>(aB (aC (aA (aT Z Z (wq (gO Z Z (by decide)) Z (aL 50 (.int .u64 ((t20 / 65536:Nat):Int)) (iE (kG t20 65536 bd20)) (bL Z Z (aB (cS (aC (aA (aT Z Z ?_)))))))))))))))))))
 refine wq (bE Z Z (by first | decide | omega) (by first | decide | omega)) Z (aL 23 (.int .i64 1) (iE (by first | decide | omega)) (bL Z Z (aB (aC (gD (eM (fr:=[(4,.pointer _),(5,.pointer _),(6,.pointer _),(7,.pointer _),(8,.int .i64 2),(9,.int _ _),(10,.int .i64 1),(11,.int _ _),(16,.int .i64 2),(17,.bool true)]) (bI Z (bI Z (bI Z (bI Z (bI Z (bI Z (bI Z (bI Z (bI Z (bI Z eC)))))))))) (fun ρ49 => ?_)))))))
 have M50:Mem _ _ [_,_,_,(some _,bc [.int .u64 ((t00 % 65536:Nat):Int),.int .u64 ((t10 % 65536:Nat):Int),.int .u64 ((t20 % 65536:Nat):Int),.int .u64 ((t12 % 65536:Nat):Int),.int .u64 ((t13 % 65536:Nat):Int),.int .u64 ((t13 / 65536:Nat):Int),.int .u64 0,.int .u64 0] 344)] _:=M48
 refine aE (aE (aA (aT Z Z (cV Z Z Z Z (jU 21 Z (by first | decide | omega) (aB (aC (cE Z (aM (aC (aE (aS (aE (gJ [(0,0),(1,0),(2,0),(3,0),(4,0),(5,1),(6,0),(7,0),(8,0),(9,1),(10,0),(11,0),(12,0),(13,1),(14,0),(15,0),(16,0),(17,0),(18,0)] mixed M50 Z (by kernel_rfl) (fun w51 M51 => ?_)))))))))))))))
 obtain ⟨t21,ht21,ba21,bb21,bc21,bd21,be21⟩:=iB (z:=t12 % 65536) (c:=t20 / 65536) (x:=x2) (y:=y1) (Nat.mod_lt _ (by decide)) be20 hx2 hy1
 refine eG Z Z Z (eG Z Z Z (aX Z Z Z (fun _=>bE Z Z (by first | decide | omega) (by first | decide | omega)) (aX Z Z Z (fun _=>aD 0 bY Z) (aX Z Z Z (fun _=>cL (3) dH Z Z Z (by decide)) (bQ Z Z Z (aK 3 (.int _ _) cX M51 Z Z Z) (eG Z Z Z (aX Z Z Z (fun _=>aD 0 bY Z) (aX Z Z Z (fun _=>cL (2) dH Z Z Z (by decide)) (bQ Z Z Z (aK 1 (.int _ _) cX M51 Z Z Z) (eG Z Z Z (aX Z Z Z (fun _=>aD 0 bY Z) (aX Z Z Z (fun _=>cL (1) dH Z Z Z (by decide)) ?_))))))))))))
 refine bQ Z Z Z (aK 2 (.int _ _) cX M51 Z Z Z) (aX Z Z Z (fun _=>cH (.int _ _) Z Z Z) (dX 38 (.int .u64 ((x2*y1:Nat):Int)) (iE (mS x2 y1 ba21)) (aX Z Z Z (fun _=>cH (.int _ _) Z Z Z) (dX 39 (.int .u64 ((t12 % 65536+x2*y1:Nat):Int)) (iE (mL (t12 % 65536) (x2*y1) bb21)) (eG Z Z Z (aX Z Z Z (fun _=>cH (.int _ _) Z Z Z) (dX 41 (.int .u64 (t21:Int)) (iE ((mL (t12 % 65536+x2*y1) (t20 / 65536) bc21).trans (congrArg _ ht21.symm))) (nV Z Z Z (bS (aC (aE (aA (aT Z Z (aT Z Z ?_))))))))))))))
 refine wq (bE Z Z (by first | decide | omega) (by first | decide | omega)) Z (aL 44 (.int .i64 3) (iE (by first | decide | omega)) (aT Z Z (wq (iL Z Z (by decide)) Z (aL 46 (.int .u64 ((t21 % 65536:Nat):Int)) (iE (kV t21 65536)) (wq (aD 0 bY Z) Z (wq (cL (3) dH Z Z Z (by decide)) Z (dA 3 (.int _ _) cX M51 Z Z Z Z Z Z (fun w52 M52=>(aB (aC (aA (aT Z Z (wq (gO Z Z (by decide)) Z (aL 50 (.int .u64 ((t21 / 65536:Nat):Int)) (iE (kG t21 65536 bd21)) (bL Z Z (aB (cS (aC (aA ?_)))))))))))))))))))
 refine aT Z Z (wq (bE Z Z (by first | decide | omega) (by first | decide | omega)) Z (aL 23 (.int .i64 2) (iE (by first | decide | omega)) (bL Z Z (aB (aC (gD (eM (fr:=[(4,.pointer _),(5,.pointer _),(6,.pointer _),(7,.pointer _),(8,.int .i64 2),(9,.int _ _),(10,.int .i64 2),(11,.int _ _),(16,.int .i64 2),(17,.bool true)]) (bI Z (bI Z (bI Z (bI Z (bI Z (bI Z (bI Z (bI Z (bI Z (bI Z eC)))))))))) (fun ρ53 => ?_))))))))
 have M54:Mem _ _ [_,_,_,(some _,bc [.int .u64 ((t00 % 65536:Nat):Int),.int .u64 ((t10 % 65536:Nat):Int),.int .u64 ((t20 % 65536:Nat):Int),.int .u64 ((t21 % 65536:Nat):Int),.int .u64 ((t13 % 65536:Nat):Int),.int .u64 ((t13 / 65536:Nat):Int),.int .u64 0,.int .u64 0] 344)] _:=M52
 refine aE (aE (aA (aT Z Z (cV Z Z Z Z (jU 21 Z (by first | decide | omega) (aB (aC (cE Z (aM (aC (aE (aS (aE (gJ [(0,0),(1,0),(2,0),(3,0),(4,0),(5,1),(6,0),(7,0),(8,0),(9,1),(10,0),(11,0),(12,0),(13,1),(14,0),(15,0),(16,0),(17,0),(18,0)] mixed M54 Z (by kernel_rfl) (fun w55 M55 => ?_)))))))))))))))
 obtain ⟨t22,ht22,ba22,bb22,bc22,bd22,be22⟩:=iB (z:=t13 % 65536) (c:=t21 / 65536) (x:=x2) (y:=y2) (Nat.mod_lt _ (by decide)) be21 hx2 hy2
 refine eG Z Z Z (eG Z Z Z (aX Z Z Z (fun _=>bE Z Z (by first | decide | omega) (by first | decide | omega)) (aX Z Z Z (fun _=>aD 0 bY Z) (aX Z Z Z (fun _=>cL (4) dH Z Z Z (by decide)) (bQ Z Z Z (aK 3 (.int _ _) cX M55 Z Z Z) (eG Z Z Z (aX Z Z Z (fun _=>aD 0 bY Z) (aX Z Z Z (fun _=>cL (2) dH Z Z Z (by decide)) (bQ Z Z Z (aK 1 (.int _ _) cX M55 Z Z Z) (eG Z Z Z (aX Z Z Z (fun _=>aD 0 bY Z) (aX Z Z Z (fun _=>cL (2) dH Z Z Z (by decide)) ?_))))))))))))
 refine bQ Z Z Z (aK 2 (.int _ _) cX M55 Z Z Z) (aX Z Z Z (fun _=>cH (.int _ _) Z Z Z) (dX 38 (.int .u64 ((x2*y2:Nat):Int)) (iE (mS x2 y2 ba22)) (aX Z Z Z (fun _=>cH (.int _ _) Z Z Z) (dX 39 (.int .u64 ((t13 % 65536+x2*y2:Nat):Int)) (iE (mL (t13 % 65536) (x2*y2) bb22)) (eG Z Z Z (aX Z Z Z (fun _=>cH (.int _ _) Z Z Z) (dX 41 (.int .u64 (t22:Int)) (iE ((mL (t13 % 65536+x2*y2) (t21 / 65536) bc22).trans (congrArg _ ht22.symm))) (nV Z Z Z (bS (aC (aE (aA (aT Z Z (aT Z Z ?_))))))))))))))
 refine wq (bE Z Z (by first | decide | omega) (by first | decide | omega)) Z (aL 44 (.int .i64 4) (iE (by first | decide | omega)) (aT Z Z (wq (iL Z Z (by decide)) Z (aL 46 (.int .u64 ((t22 % 65536:Nat):Int)) (iE (kV t22 65536)) (wq (aD 0 bY Z) Z (wq (cL (4) dH Z Z Z (by decide)) Z (dA 3 (.int _ _) cX M55 Z Z Z Z Z Z (fun w56 M56=>(aB (aC (aA (aT Z Z (wq (gO Z Z (by decide)) Z (aL 50 (.int .u64 ((t22 / 65536:Nat):Int)) (iE (kG t22 65536 bd22)) (bL Z Z (aB (cS (aC (aA ?_)))))))))))))))))))
 refine aT Z Z (wq (bE Z Z (by first | decide | omega) (by first | decide | omega)) Z (aL 23 (.int .i64 3) (iE (by first | decide | omega)) (bL Z Z (aB (aC (gD (eM (fr:=[(4,.pointer _),(5,.pointer _),(6,.pointer _),(7,.pointer _),(8,.int .i64 2),(9,.int _ _),(10,.int .i64 3),(11,.int _ _),(16,.int .i64 2),(17,.bool true)]) (bI Z (bI Z (bI Z (bI Z (bI Z (bI Z (bI Z (bI Z (bI Z (bI Z eC)))))))))) (fun ρ57 => ?_))))))))
 have M58:Mem _ _ [_,_,_,(some _,bc [.int .u64 ((t00 % 65536:Nat):Int),.int .u64 ((t10 % 65536:Nat):Int),.int .u64 ((t20 % 65536:Nat):Int),.int .u64 ((t21 % 65536:Nat):Int),.int .u64 ((t22 % 65536:Nat):Int),.int .u64 ((t13 / 65536:Nat):Int),.int .u64 0,.int .u64 0] 344)] _:=M56
 refine aE (aE (aA (aT Z Z (cV Z Z Z Z (jU 21 Z (by first | decide | omega) (aB (aC (cE Z (aM (aC (aE (aS (aE (gJ [(0,0),(1,0),(2,0),(3,0),(4,0),(5,1),(6,0),(7,0),(8,0),(9,1),(10,0),(11,0),(12,0),(13,1),(14,0),(15,0),(16,0),(17,0),(18,0)] mixed M58 Z (by kernel_rfl) (fun w59 M59 => ?_)))))))))))))))
 obtain ⟨t23,ht23,ba23,bb23,bc23,bd23,be23⟩:=iB (z:=t13 / 65536) (c:=t22 / 65536) (x:=x2) (y:=y3) be13 be22 hx2 hy3
 refine eG Z Z Z (eG Z Z Z (aX Z Z Z (fun _=>bE Z Z (by first | decide | omega) (by first | decide | omega)) (aX Z Z Z (fun _=>aD 0 bY Z) (aX Z Z Z (fun _=>cL (5) dH Z Z Z (by decide)) (bQ Z Z Z (aK 3 (.int _ _) cX M59 Z Z Z) (eG Z Z Z (aX Z Z Z (fun _=>aD 0 bY Z) (aX Z Z Z (fun _=>cL (2) dH Z Z Z (by decide)) (bQ Z Z Z (aK 1 (.int _ _) cX M59 Z Z Z) (eG Z Z Z (aX Z Z Z (fun _=>aD 0 bY Z) (aX Z Z Z (fun _=>cL (3) dH Z Z Z (by decide)) ?_))))))))))))
 refine bQ Z Z Z (aK 2 (.int _ _) cX M59 Z Z Z) (aX Z Z Z (fun _=>cH (.int _ _) Z Z Z) (dX 38 (.int .u64 ((x2*y3:Nat):Int)) (iE (mS x2 y3 ba23)) (aX Z Z Z (fun _=>cH (.int _ _) Z Z Z) (dX 39 (.int .u64 ((t13 / 65536+x2*y3:Nat):Int)) (iE (mL (t13 / 65536) (x2*y3) bb23)) (eG Z Z Z (aX Z Z Z (fun _=>cH (.int _ _) Z Z Z) (dX 41 (.int .u64 (t23:Int)) (iE ((mL (t13 / 65536+x2*y3) (t22 / 65536) bc23).trans (congrArg _ ht23.symm))) (nV Z Z Z (bS (aC (aE (aA (aT Z Z (aT Z Z ?_))))))))))))))
 refine wq (bE Z Z (by first | decide | omega) (by first | decide | omega)) Z (aL 44 (.int .i64 5) (iE (by first | decide | omega)) (aT Z Z (wq (iL Z Z (by decide)) Z (aL 46 (.int .u64 ((t23 % 65536:Nat):Int)) (iE (kV t23 65536)) (wq (aD 0 bY Z) Z (wq (cL (5) dH Z Z Z (by decide)) Z (dA 3 (.int _ _) cX M59 Z Z Z Z Z Z (fun w60 M60=>(aB (aC (aA (aT Z Z (wq (gO Z Z (by decide)) Z (aL 50 (.int .u64 ((t23 / 65536:Nat):Int)) (iE (kG t23 65536 bd23)) (bL Z Z (aB (cS (aC (aA ?_)))))))))))))))))))
 refine aT Z Z (wq (bE Z Z (by first | decide | omega) (by first | decide | omega)) Z (aL 23 (.int .i64 4) (iE (by first | decide | omega)) (bL Z Z (aB (aC (gD (eM (fr:=[(4,.pointer _),(5,.pointer _),(6,.pointer _),(7,.pointer _),(8,.int .i64 2),(9,.int _ _),(10,.int .i64 4),(11,.int _ _),(16,.int .i64 2),(17,.bool true)]) (bI Z (bI Z (bI Z (bI Z (bI Z (bI Z (bI Z (bI Z (bI Z (bI Z eC)))))))))) (fun ρ61 => ?_))))))))
 have M62:Mem _ _ [_,_,_,(some _,bc [.int .u64 ((t00 % 65536:Nat):Int),.int .u64 ((t10 % 65536:Nat):Int),.int .u64 ((t20 % 65536:Nat):Int),.int .u64 ((t21 % 65536:Nat):Int),.int .u64 ((t22 % 65536:Nat):Int),.int .u64 ((t23 % 65536:Nat):Int),.int .u64 0,.int .u64 0] 344)] _:=M60
 refine aE (aE (aA (aT Z Z (cV Z Z Z Z (nP 21 Z (by first | decide | omega) (aB (aC (cB Z (cM (cZ (cZ (eL (aC (aA (aT Z Z (wq (bE Z Z (by first | decide | omega) (by first | decide | omega)) Z (aL 52 (.int .i64 6) (iE (by first | decide | omega)) (aT Z Z (wq (aD 0 bY Z) Z (wq (cL (6) dH Z Z Z (by decide)) Z ?_))))))))))))))))))))
 refine dA 3 (.int _ _) cX M62 Z Z Z Z Z Z (fun w63 M63=>(aB (cS (aC (aA (aT Z Z (wq (bE Z Z (by first | decide | omega) (by first | decide | omega)) Z (aL 19 (.int .i64 3) (iE (by first | decide | omega)) (bL Z Z (aB (aC (gD (eM (fr:=[(4,.pointer _),(5,.pointer _),(6,.pointer _),(7,.pointer _),(8,.int .i64 3),(9,.int _ _),(10,.int .i64 4),(11,.int _ _)]) (bI Z (bI Z (bI Z (bI Z (bI Z (bI Z (bI Z (bI Z eC)))))))) (fun ρ64 => ?_))))))))))))))
 have M65:Mem _ _ [_,_,_,(some _,bc [.int .u64 ((t00 % 65536:Nat):Int),.int .u64 ((t10 % 65536:Nat):Int),.int .u64 ((t20 % 65536:Nat):Int),.int .u64 ((t21 % 65536:Nat):Int),.int .u64 ((t22 % 65536:Nat):Int),.int .u64 ((t23 % 65536:Nat):Int),.int .u64 ((t23 / 65536:Nat):Int),.int .u64 0] 344)] _:=M63
 refine aE (aE (aA (aT Z Z (cV Z Z Z Z (jU 17 Z (by first | decide | omega) (aB (aC (cE Z (aM (aC (aE (aS (aE (aA (bL Z Z (aB (aC (aE (aE (aA (bL Z Z (aB (aC (aS (kC 5 (gD (aE (aE (aA (aT Z Z (cV Z Z Z Z (jU 21 Z (by first | decide | omega) ?_))))))))))))))))))))))))))))))))
 refine aB (aC (cE Z (aM (aC (aE (aS (aE (gJ [(0,0),(1,0),(2,0),(3,0),(4,0),(5,1),(6,0),(7,0),(8,0),(9,1),(10,0),(11,0),(12,0),(13,1),(14,0),(15,0),(16,0),(17,0),(18,0)] mixed M65 Z (by kernel_rfl) (fun w66 M66 => ?_)))))))))
 obtain ⟨t30,ht30,ba30,bb30,bc30,bd30,be30⟩:=iB (z:=t21 % 65536) (c:=0) (x:=x3) (y:=y0) (Nat.mod_lt _ (by decide)) (by decide) hx3 hy0
 refine eG Z Z Z (eG Z Z Z (aX Z Z Z (fun _=>bE Z Z (by first | decide | omega) (by first | decide | omega)) (aX Z Z Z (fun _=>aD 0 bY Z) (aX Z Z Z (fun _=>cL (3) dH Z Z Z (by decide)) (bQ Z Z Z (aK 3 (.int _ _) cX M66 Z Z Z) (eG Z Z Z (aX Z Z Z (fun _=>aD 0 bY Z) (aX Z Z Z (fun _=>cL (3) dH Z Z Z (by decide)) (bQ Z Z Z (aK 1 (.int _ _) cX M66 Z Z Z) (eG Z Z Z (aX Z Z Z (fun _=>aD 0 bY Z) (aX Z Z Z (fun _=>cL (0) dH Z Z Z (by decide)) ?_))))))))))))
 refine bQ Z Z Z (aK 2 (.int _ _) cX M66 Z Z Z) (aX Z Z Z (fun _=>cH (.int _ _) Z Z Z) (dX 38 (.int .u64 ((x3*y0:Nat):Int)) (iE (mS x3 y0 ba30)) (aX Z Z Z (fun _=>cH (.int _ _) Z Z Z) (dX 39 (.int .u64 ((t21 % 65536+x3*y0:Nat):Int)) (iE (mL (t21 % 65536) (x3*y0) bb30)) (eG Z Z Z (aX Z Z Z (fun _=>cH (.int _ _) Z Z Z) (dX 41 (.int .u64 (t30:Int)) (iE ((mL (t21 % 65536+x3*y0) (0) bc30).trans (congrArg _ ht30.symm))) (nV Z Z Z (bS (aC (aE (aA (aT Z Z (aT Z Z (wq (bE Z Z (by first | decide | omega) (by first | decide | omega)) Z ?_)))))))))))))))
 refine aL 44 (.int .i64 3) (iE (by first | decide | omega)) (aT Z Z (wq (iL Z Z (by decide)) Z (aL 46 (.int .u64 ((t30 % 65536:Nat):Int)) (iE (kV t30 65536)) (wq (aD 0 bY Z) Z (wq (cL (3) dH Z Z Z (by decide)) Z (dA 3 (.int _ _) cX M66 Z Z Z Z Z Z (fun w67 M67=>(aB (aC (aA (aT Z Z (wq (gO Z Z (by decide)) Z (aL 50 (.int .u64 ((t30 / 65536:Nat):Int)) (iE (kG t30 65536 bd30)) (bL Z Z (aB (cS (aC (aA (aT Z Z ?_)))))))))))))))))))
 refine wq (bE Z Z (by first | decide | omega) (by first | decide | omega)) Z (aL 23 (.int .i64 1) (iE (by first | decide | omega)) (bL Z Z (aB (aC (gD (eM (fr:=[(4,.pointer _),(5,.pointer _),(6,.pointer _),(7,.pointer _),(8,.int .i64 3),(9,.int _ _),(10,.int .i64 1),(11,.int _ _),(16,.int .i64 3),(17,.bool true)]) (bI Z (bI Z (bI Z (bI Z (bI Z (bI Z (bI Z (bI Z (bI Z (bI Z eC)))))))))) (fun ρ68 => ?_)))))))
 have M69:Mem _ _ [_,_,_,(some _,bc [.int .u64 ((t00 % 65536:Nat):Int),.int .u64 ((t10 % 65536:Nat):Int),.int .u64 ((t20 % 65536:Nat):Int),.int .u64 ((t30 % 65536:Nat):Int),.int .u64 ((t22 % 65536:Nat):Int),.int .u64 ((t23 % 65536:Nat):Int),.int .u64 ((t23 / 65536:Nat):Int),.int .u64 0] 344)] _:=M67
 refine aE (aE (aA (aT Z Z (cV Z Z Z Z (jU 21 Z (by first | decide | omega) (aB (aC (cE Z (aM (aC (aE (aS (aE (gJ [(0,0),(1,0),(2,0),(3,0),(4,0),(5,1),(6,0),(7,0),(8,0),(9,1),(10,0),(11,0),(12,0),(13,1),(14,0),(15,0),(16,0),(17,0),(18,0)] mixed M69 Z (by kernel_rfl) (fun w70 M70 => ?_)))))))))))))))
 obtain ⟨t31,ht31,ba31,bb31,bc31,bd31,be31⟩:=iB (z:=t22 % 65536) (c:=t30 / 65536) (x:=x3) (y:=y1) (Nat.mod_lt _ (by decide)) be30 hx3 hy1
 refine eG Z Z Z (eG Z Z Z (aX Z Z Z (fun _=>bE Z Z (by first | decide | omega) (by first | decide | omega)) (aX Z Z Z (fun _=>aD 0 bY Z) (aX Z Z Z (fun _=>cL (4) dH Z Z Z (by decide)) (bQ Z Z Z (aK 3 (.int _ _) cX M70 Z Z Z) (eG Z Z Z (aX Z Z Z (fun _=>aD 0 bY Z) (aX Z Z Z (fun _=>cL (3) dH Z Z Z (by decide)) (bQ Z Z Z (aK 1 (.int _ _) cX M70 Z Z Z) (eG Z Z Z (aX Z Z Z (fun _=>aD 0 bY Z) (aX Z Z Z (fun _=>cL (1) dH Z Z Z (by decide)) ?_))))))))))))
 refine bQ Z Z Z (aK 2 (.int _ _) cX M70 Z Z Z) (aX Z Z Z (fun _=>cH (.int _ _) Z Z Z) (dX 38 (.int .u64 ((x3*y1:Nat):Int)) (iE (mS x3 y1 ba31)) (aX Z Z Z (fun _=>cH (.int _ _) Z Z Z) (dX 39 (.int .u64 ((t22 % 65536+x3*y1:Nat):Int)) (iE (mL (t22 % 65536) (x3*y1) bb31)) (eG Z Z Z (aX Z Z Z (fun _=>cH (.int _ _) Z Z Z) (dX 41 (.int .u64 (t31:Int)) (iE ((mL (t22 % 65536+x3*y1) (t30 / 65536) bc31).trans (congrArg _ ht31.symm))) (nV Z Z Z (bS (aC (aE (aA (aT Z Z (aT Z Z ?_))))))))))))))
 refine wq (bE Z Z (by first | decide | omega) (by first | decide | omega)) Z (aL 44 (.int .i64 4) (iE (by first | decide | omega)) (aT Z Z (wq (iL Z Z (by decide)) Z (aL 46 (.int .u64 ((t31 % 65536:Nat):Int)) (iE (kV t31 65536)) (wq (aD 0 bY Z) Z (wq (cL (4) dH Z Z Z (by decide)) Z (dA 3 (.int _ _) cX M70 Z Z Z Z Z Z (fun w71 M71=>(aB (aC (aA (aT Z Z (wq (gO Z Z (by decide)) Z (aL 50 (.int .u64 ((t31 / 65536:Nat):Int)) (iE (kG t31 65536 bd31)) (bL Z Z (aB (cS (aC (aA ?_)))))))))))))))))))
 refine aT Z Z (wq (bE Z Z (by first | decide | omega) (by first | decide | omega)) Z (aL 23 (.int .i64 2) (iE (by first | decide | omega)) (bL Z Z (aB (aC (gD (eM (fr:=[(4,.pointer _),(5,.pointer _),(6,.pointer _),(7,.pointer _),(8,.int .i64 3),(9,.int _ _),(10,.int .i64 2),(11,.int _ _),(16,.int .i64 3),(17,.bool true)]) (bI Z (bI Z (bI Z (bI Z (bI Z (bI Z (bI Z (bI Z (bI Z (bI Z eC)))))))))) (fun ρ72 => ?_))))))))
 have M73:Mem _ _ [_,_,_,(some _,bc [.int .u64 ((t00 % 65536:Nat):Int),.int .u64 ((t10 % 65536:Nat):Int),.int .u64 ((t20 % 65536:Nat):Int),.int .u64 ((t30 % 65536:Nat):Int),.int .u64 ((t31 % 65536:Nat):Int),.int .u64 ((t23 % 65536:Nat):Int),.int .u64 ((t23 / 65536:Nat):Int),.int .u64 0] 344)] _:=M71
 refine aE (aE (aA (aT Z Z (cV Z Z Z Z (jU 21 Z (by first | decide | omega) (aB (aC (cE Z (aM (aC (aE (aS (aE (gJ [(0,0),(1,0),(2,0),(3,0),(4,0),(5,1),(6,0),(7,0),(8,0),(9,1),(10,0),(11,0),(12,0),(13,1),(14,0),(15,0),(16,0),(17,0),(18,0)] mixed M73 Z (by kernel_rfl) (fun w74 M74 => ?_)))))))))))))))
 obtain ⟨t32,ht32,ba32,bb32,bc32,bd32,be32⟩:=iB (z:=t23 % 65536) (c:=t31 / 65536) (x:=x3) (y:=y2) (Nat.mod_lt _ (by decide)) be31 hx3 hy2
 refine eG Z Z Z (eG Z Z Z (aX Z Z Z (fun _=>bE Z Z (by first | decide | omega) (by first | decide | omega)) (aX Z Z Z (fun _=>aD 0 bY Z) (aX Z Z Z (fun _=>cL (5) dH Z Z Z (by decide)) (bQ Z Z Z (aK 3 (.int _ _) cX M74 Z Z Z) (eG Z Z Z (aX Z Z Z (fun _=>aD 0 bY Z) (aX Z Z Z (fun _=>cL (3) dH Z Z Z (by decide)) (bQ Z Z Z (aK 1 (.int _ _) cX M74 Z Z Z) (eG Z Z Z (aX Z Z Z (fun _=>aD 0 bY Z) (aX Z Z Z (fun _=>cL (2) dH Z Z Z (by decide)) ?_))))))))))))
 refine bQ Z Z Z (aK 2 (.int _ _) cX M74 Z Z Z) (aX Z Z Z (fun _=>cH (.int _ _) Z Z Z) (dX 38 (.int .u64 ((x3*y2:Nat):Int)) (iE (mS x3 y2 ba32)) (aX Z Z Z (fun _=>cH (.int _ _) Z Z Z) (dX 39 (.int .u64 ((t23 % 65536+x3*y2:Nat):Int)) (iE (mL (t23 % 65536) (x3*y2) bb32)) (eG Z Z Z (aX Z Z Z (fun _=>cH (.int _ _) Z Z Z) (dX 41 (.int .u64 (t32:Int)) (iE ((mL (t23 % 65536+x3*y2) (t31 / 65536) bc32).trans (congrArg _ ht32.symm))) (nV Z Z Z (bS (aC (aE (aA (aT Z Z (aT Z Z ?_))))))))))))))
 refine wq (bE Z Z (by first | decide | omega) (by first | decide | omega)) Z (aL 44 (.int .i64 5) (iE (by first | decide | omega)) (aT Z Z (wq (iL Z Z (by decide)) Z (aL 46 (.int .u64 ((t32 % 65536:Nat):Int)) (iE (kV t32 65536)) (wq (aD 0 bY Z) Z (wq (cL (5) dH Z Z Z (by decide)) Z (dA 3 (.int _ _) cX M74 Z Z Z Z Z Z (fun w75 M75=>(aB (aC (aA (aT Z Z (wq (gO Z Z (by decide)) Z (aL 50 (.int .u64 ((t32 / 65536:Nat):Int)) (iE (kG t32 65536 bd32)) (bL Z Z (aB (cS (aC (aA ?_)))))))))))))))))))
 refine aT Z Z (wq (bE Z Z (by first | decide | omega) (by first | decide | omega)) Z (aL 23 (.int .i64 3) (iE (by first | decide | omega)) (bL Z Z (aB (aC (gD (eM (fr:=[(4,.pointer _),(5,.pointer _),(6,.pointer _),(7,.pointer _),(8,.int .i64 3),(9,.int _ _),(10,.int .i64 3),(11,.int _ _),(16,.int .i64 3),(17,.bool true)]) (bI Z (bI Z (bI Z (bI Z (bI Z (bI Z (bI Z (bI Z (bI Z (bI Z eC)))))))))) (fun ρ76 => ?_))))))))
 have M77:Mem _ _ [_,_,_,(some _,bc [.int .u64 ((t00 % 65536:Nat):Int),.int .u64 ((t10 % 65536:Nat):Int),.int .u64 ((t20 % 65536:Nat):Int),.int .u64 ((t30 % 65536:Nat):Int),.int .u64 ((t31 % 65536:Nat):Int),.int .u64 ((t32 % 65536:Nat):Int),.int .u64 ((t23 / 65536:Nat):Int),.int .u64 0] 344)] _:=M75
 refine aE (aE (aA (aT Z Z (cV Z Z Z Z (jU 21 Z (by first | decide | omega) (aB (aC (cE Z (aM (aC (aE (aS (aE (gJ [(0,0),(1,0),(2,0),(3,0),(4,0),(5,1),(6,0),(7,0),(8,0),(9,1),(10,0),(11,0),(12,0),(13,1),(14,0),(15,0),(16,0),(17,0),(18,0)] mixed M77 Z (by kernel_rfl) (fun w78 M78 => ?_)))))))))))))))
 obtain ⟨t33,ht33,ba33,bb33,bc33,bd33,be33⟩:=iB (z:=t23 / 65536) (c:=t32 / 65536) (x:=x3) (y:=y3) be23 be32 hx3 hy3
 refine eG Z Z Z (eG Z Z Z (aX Z Z Z (fun _=>bE Z Z (by first | decide | omega) (by first | decide | omega)) (aX Z Z Z (fun _=>aD 0 bY Z) (aX Z Z Z (fun _=>cL (6) dH Z Z Z (by decide)) (bQ Z Z Z (aK 3 (.int _ _) cX M78 Z Z Z) (eG Z Z Z (aX Z Z Z (fun _=>aD 0 bY Z) (aX Z Z Z (fun _=>cL (3) dH Z Z Z (by decide)) (bQ Z Z Z (aK 1 (.int _ _) cX M78 Z Z Z) (eG Z Z Z (aX Z Z Z (fun _=>aD 0 bY Z) (aX Z Z Z (fun _=>cL (3) dH Z Z Z (by decide)) ?_))))))))))))
 refine bQ Z Z Z (aK 2 (.int _ _) cX M78 Z Z Z) (aX Z Z Z (fun _=>cH (.int _ _) Z Z Z) (dX 38 (.int .u64 ((x3*y3:Nat):Int)) (iE (mS x3 y3 ba33)) (aX Z Z Z (fun _=>cH (.int _ _) Z Z Z) (dX 39 (.int .u64 ((t23 / 65536+x3*y3:Nat):Int)) (iE (mL (t23 / 65536) (x3*y3) bb33)) (eG Z Z Z (aX Z Z Z (fun _=>cH (.int _ _) Z Z Z) (dX 41 (.int .u64 (t33:Int)) (iE ((mL (t23 / 65536+x3*y3) (t32 / 65536) bc33).trans (congrArg _ ht33.symm))) (nV Z Z Z (bS (aC (aE (aA (aT Z Z (aT Z Z ?_))))))))))))))
 refine wq (bE Z Z (by first | decide | omega) (by first | decide | omega)) Z (aL 44 (.int .i64 6) (iE (by first | decide | omega)) (aT Z Z (wq (iL Z Z (by decide)) Z (aL 46 (.int .u64 ((t33 % 65536:Nat):Int)) (iE (kV t33 65536)) (wq (aD 0 bY Z) Z (wq (cL (6) dH Z Z Z (by decide)) Z (dA 3 (.int _ _) cX M78 Z Z Z Z Z Z (fun w79 M79=>(aB (aC (aA (aT Z Z (wq (gO Z Z (by decide)) Z (aL 50 (.int .u64 ((t33 / 65536:Nat):Int)) (iE (kG t33 65536 bd33)) (bL Z Z (aB (cS (aC (aA ?_)))))))))))))))))))
 refine aT Z Z (wq (bE Z Z (by first | decide | omega) (by first | decide | omega)) Z (aL 23 (.int .i64 4) (iE (by first | decide | omega)) (bL Z Z (aB (aC (gD (eM (fr:=[(4,.pointer _),(5,.pointer _),(6,.pointer _),(7,.pointer _),(8,.int .i64 3),(9,.int _ _),(10,.int .i64 4),(11,.int _ _),(16,.int .i64 3),(17,.bool true)]) (bI Z (bI Z (bI Z (bI Z (bI Z (bI Z (bI Z (bI Z (bI Z (bI Z eC)))))))))) (fun ρ80 => ?_))))))))
 have M81:Mem _ _ [_,_,_,(some _,bc [.int .u64 ((t00 % 65536:Nat):Int),.int .u64 ((t10 % 65536:Nat):Int),.int .u64 ((t20 % 65536:Nat):Int),.int .u64 ((t30 % 65536:Nat):Int),.int .u64 ((t31 % 65536:Nat):Int),.int .u64 ((t32 % 65536:Nat):Int),.int .u64 ((t33 % 65536:Nat):Int),.int .u64 0] 344)] _:=M79
 refine aE (aE (aA (aT Z Z (cV Z Z Z Z (nP 21 Z (by first | decide | omega) (aB (aC (cB Z (cM (cZ (cZ (eL (aC (aA (aT Z Z (wq (bE Z Z (by first | decide | omega) (by first | decide | omega)) Z (aL 52 (.int .i64 7) (iE (by first | decide | omega)) (aT Z Z (wq (aD 0 bY Z) Z (wq (cL (7) dH Z Z Z (by decide)) Z ?_))))))))))))))))))))
 refine dA 3 (.int _ _) cX M81 Z Z Z Z Z Z (fun w82 M82=>(aB (cS (aC (aA (aT Z Z (wq (bE Z Z (by first | decide | omega) (by first | decide | omega)) Z (aL 19 (.int .i64 4) (iE (by first | decide | omega)) (bL Z Z (aB (aC (gD (eM (fr:=[(4,.pointer _),(5,.pointer _),(6,.pointer _),(7,.pointer _),(8,.int .i64 4),(9,.int _ _),(10,.int .i64 4),(11,.int _ _)]) (bI Z (bI Z (bI Z (bI Z (bI Z (bI Z (bI Z (bI Z eC)))))))) (fun ρ83 => ?_))))))))))))))
 have M84:Mem _ _ [_,_,_,(some _,bc [.int .u64 ((t00 % 65536:Nat):Int),.int .u64 ((t10 % 65536:Nat):Int),.int .u64 ((t20 % 65536:Nat):Int),.int .u64 ((t30 % 65536:Nat):Int),.int .u64 ((t31 % 65536:Nat):Int),.int .u64 ((t32 % 65536:Nat):Int),.int .u64 ((t33 % 65536:Nat):Int),.int .u64 ((t33 / 65536:Nat):Int)] 344)] _:=M82
 refine aE (aE (aA (aT Z Z (cV Z Z Z Z (nP 17 Z (by first | decide | omega) (aB (aC (cB Z (cM (cZ (cZ (eL (aC (aE (aA (wq (aV 3 qC M84 Z Z Z) Z (bC 0 _ qC M84 Z Z Z Z Z (aP Z) Z (fun w85 M85=>(aB (aC (aR (fA 0 qC M85 Z Z Z ?_))))))))))))))))))))))
 have hall:=bNi ht00 ht01 ht02 ht03 ht10 ht11 ht12 ht13 ht20 ht21 ht22 ht23 ht30 ht31 ht32 ht33
 rw [hX,hY] at hall
 exact ⟨[t00 % 65536,t10 % 65536,t20 % 65536,t30 % 65536,t31 % 65536,t32 % 65536,t33 % 65536,t33 / 65536],Z,Z,bYp (Nat.mod_lt _ (by decide)) (Nat.mod_lt _ (by decide)) (Nat.mod_lt _ (by decide)) (Nat.mod_lt _ (by decide)) (Nat.mod_lt _ (by decide)) (Nat.mod_lt _ (by decide)) (Nat.mod_lt _ (by decide)) be33,hall,M85.below⟩
theorem bCp (w:World) (d0 d1 d2 d3 d4 d5 d6 d7:Nat) (hd:∀ x∈([d0,d1,d2,d3,d4,d5,d6,d7]:List Nat),x < 65536) (i:Nat) (hi:i < 128) :
  Calls prog 265 #[(.agg (([d0,d1,d2,d3,d4,d5,d6,d7]:List Nat).map mZ).toArray),.int .i64 (i:Int)] w (Rb w (.int .u64 ((wR [d0,d1,d2,d3,d4,d5,d6,d7] / 2 ^ i % 2:Nat):Int))):=by
 obtain ⟨d,hdj⟩:=cG (xs:=([d0,d1,d2,d3,d4,d5,d6,d7]:List Nat)) (k:=i / 16) (n:=8) rfl (by omega)
 have hdl:=hd d (List.mem_of_getElem? hdj)
 refine aI #[.tmp 4] 22 func265 Z results265 ntmps265 Z ?_
 have M0:=Mem.refl w
 refine aE (aA (bO (.agg (.mk _)) M0 rfl rfl rfl (fun b1 w1 M1=>(bL rfl rfl (aB (aC (aE (aA (aT rfl rfl (wq (gO rfl rfl (by decide)) rfl (aL 8 (.int .i64 ((i / 16:Nat):Int)) (iE (bYr i 16 (by omega))) (wq (aD 0 bY rfl) rfl (wq (cL ((i / 16)) dH rfl rfl rfl (by omega)) rfl (wq (aK 0 (.int _ _) cX M1 rfl rfl (bOj hdj)) rfl (bL rfl rfl (aB (aC (aE (aE (aA (bL rfl rfl (aB (aC (aS (dK (σ:=Nat) [1,4] (fun k=>[(5,.int .u64 ((d / 2 ^ k:Nat):Int)),(6,.int .i64 (k:Int))]) (fun k w'=>k≤i % 16∧Mem w [] [(some b1,bc (([d0,d1,d2,d3,d4,d5,d6,d7]:List Nat).map mZ) 344)] w') (fun k=>i % 16 - k) 0 (bI (iv rfl (by simp)) (bI rfl eC)) (⟨by omega,M1⟩) ?_)))))))))))))))))))))))))
 rintro k ρ2 w2 ⟨hk,hM2⟩
 refine aE (aE (aA (aT Z Z (aT Z Z (wq (iL Z Z (by decide)) Z (aL 14 (.int .i64 ((i % 16:Nat):Int)) (iE (kV i 16)) (cV Z Z Z Z (aB (aC ?_)))))))))
 refine aW Z (fun h15 => ?_) (fun h15 => ?_)
 ·refine aM (aC (aE (aS (aA (aT Z Z (wq (gO Z Z (by decide)) Z (aL 19 (.int .u64 ((d / 2 ^ (k+1):Nat):Int)) (iE ((kG (d / 2 ^ k) 2 (Nat.lt_of_le_of_lt (Nat.div_le_self _ _) (by omega))).trans (congrArg _ (by rw [Nat.pow_succ,Nat.div_div_eq_div_mul])))) (bL Z Z (aB (cS (aC (aA (aT Z Z (wq (bE Z Z (by omega) (by omega)) Z (bL Z Z (aB ?_))))))))))))))))
  refine bU (k+1) (bI Z (bI Z eC)) (bX Z (bX Z gR)) ?_ ?_
  ·exact ⟨by omega,hM2⟩
  ·omega
 ·have hks:k=i % 16:=by omega
  refine cM (cZ (dF (eL (aC (aE (aA (aT Z Z (wq (iL Z Z (by decide)) Z (aL 21 (.int .u64 ((d / 2 ^ k % 2:Nat):Int)) (iE (kV (d / 2 ^ k) 2)) (bL Z Z (aB (aC (aR (cF (.int _ _) Z ?_))))))))))))))
  exact ⟨iE (congrArg _ (by rw [hks];exact bQx (wR [d0,d1,d2,d3,d4,d5,d6,d7]) i (i / 16) (i % 16) d (by omega) (by omega) (aTp [d0,d1,d2,d3,d4,d5,d6,d7] (i / 16) d hd hdj))),hM2.below⟩
theorem aBn (w:World) (d0 d1 d2 d3 d4 d5 d6 d7:Nat) (hd:∀ x∈([d0,d1,d2,d3,d4,d5,d6,d7]:List Nat),x < 65536) (z:Nat) (hz:0 < z) (hz1:z≤9223372036854775807) (hX:wR [d0,d1,d2,d3,d4,d5,d6,d7] / z≤4611686018427387904) (hX2:wR [d0,d1,d2,d3,d4,d5,d6,d7] < 340282366920938463463374607431768211456) :
  Calls prog 250 #[(.agg (([d0,d1,d2,d3,d4,d5,d6,d7]:List Nat).map mZ).toArray),.int .u64 (z:Int)] w (Rb w (.tuple #[.int .u64 ((wR [d0,d1,d2,d3,d4,d5,d6,d7] / z:Nat):Int),.int .u64 ((wR [d0,d1,d2,d3,d4,d5,d6,d7] % z:Nat):Int),.bool true])):=by
 refine aI #[.tmp 4,.tmp 5,.tmp 6] 42 func250 Z results250 ntmps250 Z ?_
 have M0:=Mem.refl w
 refine aE (aA (bO (.agg (.mk _)) M0 Z Z Z (fun b1 w1 M1=>(bL Z Z (bL Z Z (wq (aJ (.bool false) Z) Z (aB (aC (aE (aA (bL Z Z (aB (aC (aE (aA (bL Z Z (aB (aC (aE (aA (wq (aJ (.bool true) Z) Z (aB (aC (aE (aE (aA (bL Z Z (aB (aC (aS (dK (σ:=Nat × Nat × Nat) [1,2,4,5,6] (fun (p,q,r)=>[(7,.int .u64 (q:Int)),(8,.int .u64 (r:Int)),(9,.bool true),(10,.int .i64 ((p:Int) - 1))]) (fun (p,q,r) w'=>(p≤128∧Lb (wR [d0,d1,d2,d3,d4,d5,d6,d7]) z p q r)∧Mem w [] [(some b1,bc (([d0,d1,d2,d3,d4,d5,d6,d7]:List Nat).map mZ) 344)] w') (fun (p,q,r)=>p) (128,0,0) (bI Z (bI Z (bI Z (bI (iv Z (by decide)) eC)))) (⟨⟨by omega,bMz hz hX2⟩,M1⟩) ?_)))))))))))))))))))))))))))))))
 rintro ⟨p,q,r⟩ ρ2 w2 ⟨⟨hp,hlb⟩,hM2⟩
 refine aE (aE (aA (aT Z Z (cV Z Z Z Z (aB (aC ?_))))))
 refine aW Z (fun h13 => ?_) (fun h13 => ?_)
 ·obtain ⟨s,rfl⟩:∃ s,p=s+1:=⟨p - 1,by omega⟩
  obtain ⟨b,hb⟩:∃ b,wR [d0,d1,d2,d3,d4,d5,d6,d7] / 2 ^ s % 2=b:=⟨_,rfl⟩
  obtain ⟨hr,hb2,hq2,hyes,hno⟩:=bNa hz hlb hb
  have hsm:=bId (i:=s) hX
  refine aM (aC (aE (aS (aE (aA (aT Z Z (cV Z Z Z Z (nP 17 Z (by omega) (wq (aJ (.bool false) Z) Z (aB (aC (aE (aA (aT Z Z (wq (cH (.int _ _) Z Z Z) Z (aL 19 (.int .u64 ((2*r:Nat):Int)) (iE (by rw [iH];omega)) (wq (aV 0 qC hM2 Z Z Z) Z (aT Z Z (aL 21 (.int .i64 (s:Int)) (iE (by omega)) (eJ bUj Z Z (bCp _ d0 d1 d2 d3 d4 d5 d6 d7 hd s (by omega)) ?_))))))))))))))))))))
  rintro v3 w3 ⟨rfl,hb3⟩
  have M3:=hM2.callB hb3
  refine aL 22 (.int .u64 (b:Int)) (iE (congrArg _ hb)) (wq (cH (.int _ _) Z Z Z) Z (aL 23 (.int .u64 ((2*r+b:Nat):Int)) (iE (by rw [iH];omega)) (bL Z Z (aB (aC (aE (aE (aA (aT Z Z (cV Z Z Z Z (nP 25 Z (by omega) (aB (aC (cB Z (aM (aC (aE (aA (aT Z Z (wq (cH (.int _ _) Z Z Z) Z (aL 27 (.int .u64 ((2*q:Nat):Int)) (iE (by rw [iH];omega)) (bL Z Z (aB (aC (aE (aA ?_))))))))))))))))))))))))))
  refine wq (aH (.bool false) Z) Z (wq (aH (.bool false) Z) Z (aT Z Z (aT Z Z (cV Z Z Z Z (wq (bM false (.bool (decide _)) Z Z) Z (aB (aC ?_)))))))
  refine aW Z (fun h33 => ?_) (fun h33 => ?_)
  ·refine aE (aA (aT Z Z (aT Z Z (wq (cH (.int _ _) Z Z Z) Z (aL 36 (.int .u64 ((2*r+b - z:Nat):Int)) (iE (by rw [iH];omega)) (bL Z Z (aB (aC (aA (aT Z Z (wq (cH (.int _ _) Z Z Z) Z (aL 38 (.int .u64 ((2*q+1:Nat):Int)) (iE (by rw [iH];omega)) (bL Z Z (aB (cS (aC (aA (aT Z Z (wq (gX Z Z (by omega) (by omega)) Z ?_)))))))))))))))))))
   refine bL Z Z (aB ?_)
   refine bU (s,2*q+1,2*r+b - z) (bI Z (bI Z (bI Z (bI (iv Z (by omega)) eC)))) (bX Z (bX Z (bX Z (bX Z (bX Z gR))))) ?_ ?_
   ·exact ⟨⟨by omega,hyes (by omega)⟩,M3⟩
   ·(show s < s+1;omega)
  ·refine aM (cS (aC (aA (aT Z Z (wq (gX Z Z (by omega) (by omega)) Z (bL Z Z (aB ?_)))))))
   refine bU (s,2*q,2*r+b) (bI Z (bI Z (bI Z (bI (iv Z (by omega)) eC)))) (bX Z (bX Z (bX Z (bX Z (bX Z gR))))) ?_ ?_
   ·exact ⟨⟨by omega,hno (by omega)⟩,M3⟩
   ·(show s < s+1;omega)
 ·obtain rfl:p=0:=by omega
  obtain ⟨hq,hr⟩:=bMy hlb
  refine cM (cZ (dF (eL (aC (aE (aA (aT Z Z (aT Z Z (wq (aH (.bool true) Z) Z (bL Z Z (bL Z Z (wq (aJ (.bool true) Z) Z (aB (aC (aR (bHc (.int _ _) (.int _ _) (.bool true) Z Z Z ?_))))))))))))))))
  exact ⟨by rw [hq,hr],hM2.below⟩
theorem aEq (w:World) (q r:Nat) (neg:Bool) (hq:q≤4294967296) :
  Calls prog 252 #[.int .u64 (q:Int),.int .u64 (r:Int),.bool true,.bool neg] w (Rb w (.tuple #[.int .i64 (if neg=true then (if 0 < r then -(q:Int) - 1 else -(q:Int)) else (q:Int)),.bool true])):=by
 refine aI #[.tmp 8,.tmp 9] 33 func252 Z results252 ntmps252 Z ?_
 have M0:=Mem.refl w
 refine aE (aA (bL Z Z (wq (aJ (.bool false) Z) Z (aB (aC (aE (aE (aA (wq (aH (.bool _) Z) Z (wq (fB _ Z Z) Z (aB (aC ?_))))))))))))
 refine iN _ Z (fun h11 => ?_) (fun h11 => ?_)
 ·have hn:neg=false:=by simpa using h11
  refine aE (aA (aT Z Z (wq (bK yV underlying2 Z (fU _ (by omega) (by omega))) Z (wq (aH (.bool true) Z) Z (wq (aH (.bool true) Z) Z (aT Z Z (cV Z Z Z Z (jU 17 Z (by omega) (wq (bM true (.bool true) Z Z) Z (bL Z Z (wq (aJ (.bool true) Z) Z (aB (aC (aR (cK (gE (.int _ _) (.bool true) Z Z ?_))))))))))))))))
  exact ⟨by rw [hn];rfl,M0.below⟩
 ·have hn:neg=true:=by simpa using h11
  refine aM (aC (aE (aE (aA (aT Z Z (cV Z Z Z Z (aB (aC ?_))))))))
  refine aW Z (fun h20 => ?_) (fun h20 => ?_)
  ·refine aE (aE (aA (aT Z Z (cV Z Z Z Z (nP 22 Z (by omega) (aB (aC (cB Z (aM (aC (aA (aT Z Z (wq (cH (.int _ _) Z Z Z) Z (aL 24 (.int .u64 ((q+1:Nat):Int)) (iE (by rw [iH];omega)) (bL Z Z (aB (aC (aE (aA (aT Z Z (wq (tX Z) Z (wq (dL yV underlying2 Z) Z (aL 27 (.int .i64 (-((q+1:Nat):Int))) (iE (aPk (q+1) (by omega))) ?_)))))))))))))))))))))))
   refine wq (aH (.bool true) Z) Z (wq (aH (.bool true) Z) Z (aT Z Z (cV Z Z Z Z (jU 31 Z (by omega) (wq (bM true (.bool true) Z Z) Z (bL Z Z (wq (aJ (.bool true) Z) Z (aB (aC (aR (gE (.int _ _) (.bool true) Z Z ?_)))))))))))
   exact ⟨by rw [if_pos hn,if_pos (by omega)];exact wQ (iE (by omega)) Z,M0.below⟩
  ·refine aM (aC (aE (aA (aT Z Z (wq (tX Z) Z (wq (dL yV underlying2 Z) Z (aL 27 (.int .i64 (-((q:Nat):Int))) (iE (aPk (q) (by omega))) (wq (aH (.bool true) Z) Z (wq (aH (.bool true) Z) Z (aT Z Z (cV Z Z Z Z (jU 31 Z (by omega) (wq (bM true (.bool true) Z Z) Z (bL Z Z (wq (aJ (.bool true) Z) Z (aB (aC (aR (gE (.int _ _) (.bool true) Z Z ?_)))))))))))))))))))
   exact ⟨by rw [if_pos hn,if_neg (by omega)],M0.below⟩
theorem aBl (w:World) (a n d:Int) (ha : -4294967296≤a∧a≤4294967296) (hn:0≤n) (hnd:n≤d) (hd0:0 < d) (hd:d≤9223372036854775807) :
  Calls prog 249 #[.int .i64 a,.int .i64 n,.int .i64 d] w (Rb w (.tuple #[.int .i64 (a*n / d),.int .i64 0])):=by
 obtain ⟨m,rfl⟩:=Int.eq_ofNat_of_zero_le hn
 obtain ⟨z,rfl⟩:=Int.eq_ofNat_of_zero_le (Int.le_of_lt hd0)
 have hmd:=aSf (a:=a) (m:=m) (z:=z) ha (by omega) (by omega) (by omega)
 obtain ⟨q,hq⟩:∃ q,a.natAbs*m / z=q:=⟨_,rfl⟩
 obtain ⟨r,hr⟩:∃ r,a.natAbs*m % z=r:=⟨_,rfl⟩
 have hql:q≤4294967296:=by rw [← hq];exact hmd.2.2.2
 have hbig:a.natAbs*m≤4294967296*9223372036854775807:=Nat.mul_le_mul (by omega) (by omega)
 refine aI #[.tmp 6,.tmp 7] 49 func249 Z results249 ntmps249 Z ?_
 have M0:=Mem.refl w
 refine aE (aA (bL Z Z (bL Z Z (aB (aC (aE (aE (aA (aT Z Z (cV Z Z Z Z (nP 15 Z (by omega) (aB (aC (cB Z (aM (aC (aE (aA (aT Z Z (wq (dL nU underlying237 Z) Z (aL 17 (.int .u64 (z:Int)) (iE (by rw [iH];omega)) (bL Z Z (aB (aC (aE (aE (aA (aT Z Z ?_))))))))))))))))))))))))))))
 refine cV Z Z Z Z (nP 19 Z (by omega) (aB (aC (cB Z (aM (aC (aE (aA (aT Z Z (aT Z Z (eJ bFw Z Z (yS _ a (m:Int) (by omega) (by omega) (by omega) (by omega)) ?_)))))))))))
 rintro v1 w1 ⟨D,rfl,hD8,hDd,hDv,hb1⟩
 have M1:=M0.callB hb1
 obtain ⟨d0,d1,d2,d3,d4,d5,d6,d7,rfl⟩:=bPy hD8
 rw [Int.natAbs_natCast] at hDv
 refine aT Z Z (dM bFv Z Z M1 (aBn _ d0 d1 d2 d3 d4 d5 d6 d7 hDd z (by omega) (by omega) (by rw [hDv];omega) (by rw [hDv];omega)) (fun w2 M2=>(wq (aH (.tuple (List.toArray _)) Z) Z (wq (bJ (.int _ _) Z Z) Z (aL 28 (.int .u64 (q:Int)) (iE (by rw [hDv,hq])) (wq (bJ (.int _ _) Z Z) Z (aL 29 (.int .u64 (r:Int)) (iE (by rw [hDv,hr])) (wq (bJ (.bool true) Z Z) Z (bL Z Z (bL Z Z (wq (aJ (.bool true) Z) Z (aB (aC (aE (aA (aT Z Z (aT Z Z (wq (aH (.bool true) Z) Z (aT Z Z ?_)))))))))))))))))))
 refine cV rfl rfl rfl rfl (aT rfl rfl (cV rfl rfl rfl rfl (nP 38 rfl (by omega) (wq (uO _ underlying4 rfl rfl rfl) rfl (aL 39 (.bool (decide (a < 0))) (bv rfl (by simp)) (aT rfl rfl (cV rfl rfl rfl rfl (nP 41 rfl (by omega) (wq (uO _ underlying4 rfl rfl rfl) rfl (aL 42 (.bool (decide (a < 0))) (bv rfl (by simp)) (dM bFx rfl rfl M2 (aEq _ q r (decide (a < 0)) hql) (fun w3 M3=>(wq (aH (.tuple (List.toArray _)) rfl) rfl (wq (bJ (.int _ _) rfl rfl) rfl (wq (bJ (.bool true) rfl rfl) rfl (bL rfl rfl ?_))))))))))))))))
 refine wq (aJ (.bool true) Z) Z (aB (aC (aE (aE (aA (wq (aH (.bool true) Z) Z (wq (fB false Z Z) Z (aB (aC (cB Z (aM (aC (aE (aA (aT Z Z (bL Z Z (bL Z Z (aB (aC (aR (gE (.int _ _) (.int _ _) Z Z ?_)))))))))))))))))))))
 have hval:(if decide (a < 0)=true then (if 0 < r then -(q:Int) - 1 else -(q:Int)) else (q:Int))=a*(m:Int) / (z:Int):=bIl hq hr hd0
 exact ⟨wQ (iE hval) Z,M3.below⟩
theorem bXx (w:World) (n:Nat) (hn:n < 18446744073709551616) :
  Calls prog 242 #[.int .u64 (n:Int)] w (Rb w (.int .u64 ((yQ n:Nat):Int))):=by
 refine aI #[.tmp 2] 32 func242 Z results242 ntmps242 Z ?_
 have M0:=Mem.refl w
 refine aE (aA (bL rfl rfl (aB (aC (aE (aA (aT rfl rfl (bL rfl rfl (bL rfl rfl (aB (aC (aE (aE (aA (aT rfl rfl (aB (aC (aS (dK (σ:=Nat × Nat × Nat) [2] (fun (i,R,e)=>[(8,.int .i64 (i:Int)),(3,.int .u64 ((n - R*R:Nat):Int)),(4,.int .u64 ((R*e:Nat):Int))]) (fun (i,R,e) w'=>Iq n i R e∧Mem w [] [] w') (fun (i,R,e)=>32 - i) (0,0,4294967296) (bI rfl (bI (iv rfl (by simp)) (bI (iv rfl (by simp)) eC))) (⟨bMu hn,M0⟩) ?_)))))))))))))))))))
 rintro ⟨i,R,e⟩ ρ1 w1 ⟨I,hM1⟩
 have hile:=I.ile
 have hle:=I.le
 refine aE (aA (cV Z Z Z Z (aB (aC (aE ?_)))))
 refine aW Z (fun h9 => ?_) (fun h9 => ?_)
 ·obtain ⟨f,hf1,hf2,hf3,hf4,hf5,hf6,hf7,hf8,hfy,hfn⟩:=bMv (by omega) I
  refine aM (aC (aE (aS (aE (aA (aT Z Z (bL Z Z (aB (aC (aE (aA (aT Z Z (wq (fO Z Z (by omega) (by omega)) Z (wq (lH Z Z (by omega)) Z (aL 13 (.int .u64 ((f*f:Nat):Int)) (iE ((bOk (2*i) _ (by omega) (by omega)).trans (congrArg _ hf4))) (bL Z Z (aB (aC (aE (aA (aT Z Z (aT Z Z (aT Z Z (wq (cH (.int _ _) Z Z Z) Z (aL 17 (.int .u64 ((R*e+f*f:Nat):Int)) (iE (by rw [iH];omega)) (cV Z Z Z Z ?_))))))))))))))))))))))))))
  refine aB (aC ?_)
  refine aW Z (fun h18 => ?_) (fun h18 => ?_)
  ·have h18':R*e+f*f≤n - R*R:=by omega
   refine aE (aA (aT Z Z (aT Z Z (aT Z Z (wq (cH (.int _ _) Z Z Z) Z (aL 22 (.int .u64 ((R*e+f*f:Nat):Int)) (iE (by rw [iH];omega)) (wq (cH (.int _ _) Z Z Z) Z (aL 23 (.int .u64 ((n - (R+f)*(R+f):Nat):Int)) (iE (by rw [iH];omega)) (bL Z Z (aB (aC (aA (aT Z Z (wq (lH Z Z (by decide)) Z (aL 25 (.int .u64 ((R*f:Nat):Int)) (iE ((bKo (R*e)).trans (congrArg _ hf5))) (aT Z Z (wq (cH (.int _ _) Z Z Z) Z (aL 27 (.int .u64 (((R+f)*f:Nat):Int)) (iE (by rw [iH];omega)) ?_))))))))))))))))))
   refine bL Z Z (aB (cS (aC (aA (wq (bE Z Z (by omega) (by omega)) Z (aT Z Z (aB ?_)))))))
   refine bU (i+1,R+f,f) (bI Z (bI Z (bI Z eC))) (bX Z gR) ?_ ?_
   ·exact ⟨hfy h18',hM1⟩
   ·(show 32 - (i+1) < 32 - i;omega)
  ·have h18':¬ (R*e+f*f≤n - R*R):=by omega
   refine aA (aT Z Z (wq (lH Z Z (by decide)) Z (aL 29 (.int .u64 ((R*f:Nat):Int)) (iE ((bKo (R*e)).trans (congrArg _ hf5))) (bL Z Z (aB (cS (aC (aA (wq (bE Z Z (by omega) (by omega)) Z (aT Z Z (aB ?_)))))))))))
   refine bU (i+1,R,f) (bI Z (bI Z (bI Z eC))) (bX Z gR) ?_ ?_
   ·exact ⟨hfn h18',hM1⟩
   ·(show 32 - (i+1) < 32 - i;omega)
 ·obtain rfl:i=32:=by omega
  refine cM (cZ (dF (eL (aC (aE (aA (aT Z Z (bL Z Z (aB (aC (aR (cF (.int _ _) Z ?_))))))))))))
  exact ⟨iE (by rw [bMt I]),hM1.below⟩
theorem wS (w:World) (a b:Int × Int) (ha:I32 a) (hb:I32 b) :
  Calls prog 239 #[(.agg (cR a).toArray),(.agg (cR b).toArray)] w (Rb w (.tuple #[.int .i64 (b.1 - a.1),.int .i64 (b.2 - a.2)])):=by
 have hax:=ha.x
 have hay:=ha.y
 have hbx:=hb.x
 have hby:=hb.y
 refine aI #[.tmp 4,.tmp 5] 20 func239 Z results239 ntmps239 Z ?_
 have M0:=Mem.refl w
 refine aE (aA (bO (.agg (.mk _)) M0 Z Z Z (fun b1 w1 M1=>(bO (.agg (.mk _)) M1 Z Z Z (fun b2 w2 M2=>(bL Z Z (bL Z Z (aB (aC (aE (gJ [(0,0),(1,1),(2,0),(3,0),(4,1),(5,0),(6,0),(7,0),(8,1),(9,0),(10,0),(11,1),(12,0),(13,0),(14,0),(15,0)] mixed M2 Z (by kernel_rfl) (fun w3 M3=>(aX Z Z Z (fun _=>aD 0 cY Z) (bQ Z Z Z (aK 1 (.int _ _) bB M3 Z Z Z) (aX Z Z Z (fun _=>bK eF underlying2 Z (fU _ (by omega) (by omega))) (aX Z Z Z (fun _=>aD 0 cY Z) ?_))))))))))))))))
 refine bQ Z Z Z (aK 0 (.int _ _) bB M3 Z Z Z) (aX Z Z Z (fun _=>bK eF underlying2 Z (fU _ (by omega) (by omega))) (aX Z Z Z (fun _=>gX Z Z (by omega) (by omega)) (aX Z Z Z (fun _=>aD 1 cW Z) (bQ Z Z Z (aK 1 (.int _ _) bB M3 Z Z Z) (aX Z Z Z (fun _=>bK eF underlying2 Z (fU _ (by omega) (by omega))) (aX Z Z Z (fun _=>aD 1 cW Z) (bQ Z Z Z (aK 0 (.int _ _) bB M3 Z Z Z) (aX Z Z Z (fun _=>bK eF underlying2 Z (fU _ (by omega) (by omega))) ?_))))))))
 refine aX Z Z Z (fun _=>gX Z Z (by omega) (by omega)) (nV Z Z Z (nV Z Z Z (bS (aC (aR (gE (.int _ _) (.int _ _) Z Z ?_))))))
 exact ⟨Z,M3.below⟩
theorem aJh (w:World) (n:Int) (hn:yM n) :
  Calls prog 240 #[.int .i64 n] w (Rb w (.int .u64 ((n.natAbs*n.natAbs:Nat):Int))):=by
 have hlt:=(uL hn hn).2.1
 unfold yM at hn
 refine aI #[.tmp 2] 12 func240 Z results240 ntmps240 Z ?_
 have M0:=Mem.refl w
 refine aE (aA (bL Z Z (aB (aC (aE (aE (aA (aT Z Z (cV Z Z Z Z (aB (aC ?_)))))))))))
 refine aW Z (fun h4 => ?_) (fun h4 => ?_)
 ·refine aA (aT Z Z (wq (tX Z) Z (aL 6 (.int .i64 (-n)) (iE (fU _ (by omega) (by omega))) (bL Z Z (aB (aC (aE (aA (aT Z Z (wq (dL nU underlying237 Z) Z (aL 8 (.int .u64 ((n.natAbs:Nat):Int)) (iE (by rw [iH];omega)) (aT Z Z (wq (dL nU underlying237 Z) Z (aL 10 (.int .u64 ((n.natAbs:Nat):Int)) (iE (by rw [iH];omega)) (wq (cH (.int _ _) Z Z Z) Z (aL 11 (.int .u64 ((n.natAbs*n.natAbs:Nat):Int)) (iE (mS _ _ (by omega))) (bL Z Z (aB (aC (aR ?_))))))))))))))))))))
  refine cF (.int _ _) Z ?_
  exact ⟨Z,M0.below⟩
 ·refine aM (aC (aE (aA (aT Z Z (wq (dL nU underlying237 Z) Z (aL 8 (.int .u64 ((n.natAbs:Nat):Int)) (iE (by rw [iH];omega)) (aT Z Z (wq (dL nU underlying237 Z) Z (aL 10 (.int .u64 ((n.natAbs:Nat):Int)) (iE (by rw [iH];omega)) (wq (cH (.int _ _) Z Z Z) Z (aL 11 (.int .u64 ((n.natAbs*n.natAbs:Nat):Int)) (iE (mS _ _ (by omega))) (bL Z Z (aB (aC (aR (cF (.int _ _) Z ?_))))))))))))))))
  exact ⟨Z,M0.below⟩
theorem uX (w:World) (dx dy:Int) (hx:yM dx) (hy:yM dy) :
  Calls prog 216 #[.int .i64 dx,.int .i64 dy] w (Rb w (.int .u64 ((tB dx dy:Nat):Int))):=by
 have hl:=uL hx hy
 refine aI #[.tmp 4] 10 func216 Z results216 ntmps216 Z ?_
 have M0:=Mem.refl w
 refine aE (aA (bL Z Z (aB (aC (aE (aA (aT Z Z (dM bFq Z Z M0 (aJh _ dx hx) (fun w1 M1=>(aT Z Z (dM bFq Z Z M1 (aJh _ dy hy) (fun w2 M2=>(wq (cH (.int _ _) Z Z Z) Z (aL 9 (.int .u64 ((tB dx dy:Nat):Int)) (iE (by rw [iH];unfold tB at *;omega)) (bL Z Z (aB (aC (aR (cF (.int _ _) Z ?_)))))))))))))))))))
 exact ⟨Z,M2.below⟩
theorem aJg (w:World) (dx dy:Int) (hx:yM dx) (hy:yM dy) :
  Calls prog 218 #[.int .i64 dx,.int .i64 dy] w (Rb w (.int .i64 (len dx dy))):=by
 have hl:=zN hx hy
 refine aI #[.tmp 4] 10 func218 Z results218 ntmps218 Z ?_
 have M0:=Mem.refl w
 refine aE (aA (bL Z Z (aB (aC (aE (aA (aT Z Z (aT Z Z (dM aUp Z Z M0 (uX _ dx dy hx hy) (fun w1 M1=>(dM bTx Z Z M1 (bXx _ (tB dx dy) (uL hx hy).1) (fun w2 M2=>(wq (dL yV underlying2 Z) Z (aL 9 (.int .i64 (len dx dy)) (iE (fU (len dx dy) (by omega) (by omega))) (bL Z Z (aB (aC (aR (cF (.int _ _) Z ?_)))))))))))))))))))
 exact ⟨Z,M2.below⟩
theorem aMu (w:World) (a b:Int) (hb:0 < b) (h0 : -1000000000000000000≤a) (h1:a≤1000000000000000000) :
  Calls prog 241 #[.int .i64 a,.int .i64 b] w (Rb w (.int .i64 (a / b))):=by
 have hf:=aEc (a:=a) hb
 have hb1:=aJf a b
 refine aI #[.tmp 4] 16 func241 Z results241 ntmps241 Z ?_
 have M0:=Mem.refl w
 refine aE (aA (bL Z Z (aB (aC (aE (aA (aT Z Z (aT Z Z (wq (gO Z Z (by omega)) Z (aL 8 (.int .i64 (a.tdiv b)) (iE (fU _ (by omega) (by omega))) (bL Z Z (aB (aC (aE (aE (aA (aT Z Z (aT Z Z (wq (iL Z Z (by omega)) Z (cV Z Z Z Z (aB (aC ?_))))))))))))))))))))))
 refine aW Z (fun h12 => ?_) (fun h12 => ?_)
 ·refine aA (aT Z Z (wq (gX Z Z (by omega) (by omega)) Z (bL Z Z (aB (aC (aE (aA (aT Z Z (bL Z Z (aB (aC (aR (cF (.int _ _) Z ?_)))))))))))))
  exact ⟨iE (by first | exact hf.1 (by omega) | exact hf.2 (by omega)),M0.below⟩
 ·refine aM (aC (aE (aA (aT Z Z (bL Z Z (aB (aC (aR (cF (.int _ _) Z ?_)))))))))
  exact ⟨iE (by first | exact hf.1 (by omega) | exact hf.2 (by omega)),M0.below⟩
theorem bKq (w:World) (dx dy:Int) (hx:yM dx) (hy:yM dy) :
  Calls prog 217 #[.int .i64 dx,.int .i64 dy] w (Rb w ((.agg (cR (rO dx dy)).toArray))):=by
 have hl:=zN hx hy
 have hxx:=hx
 have hyy:=hy
 unfold yM at hxx hyy
 refine aI #[.cell 4 37] 23 func217 Z results217 ntmps217 Z ?_
 have M0:=Mem.refl w
 refine aE (aA (aO jQ M0 Z Z (fun b1 w1 M1=>(aB (aC (aE (aA (aT Z Z (aT Z Z (dM bFm Z Z M1 (aJg _ dx dy hx hy) (fun w2 M2=>(bL Z Z (aB (aC (aE (aE (aA (aT Z Z (cV Z Z Z Z (aB (aC ?_)))))))))))))))))))))
 refine aW Z (fun h10 => ?_) (fun h10 => ?_)
 ·refine aE (aA (wq (cI [(0,.int _ _)] _ fK Z Z) Z (bC 0 _ bP M2 Z Z Z Z Z (aP Z) Z (fun w3 M3=>(aB (aC (aR (cK (fA 0 bP M3 Z Z Z ?_)))))))))
  exact ⟨by unfold rO;first | (rw [if_pos (by omega)];rfl) | (rw [if_neg (by omega)];rfl),M3.below⟩
 ·refine aM (aC (aE (aA (aT Z Z (wq (aBk Z Z (by decide)) Z (aL 13 (.int .i64 (dx*65536)) (iE (aLr dx hx)) (aT Z Z (dM bFr Z Z M2 (aMu _ (dx*65536) (len dx dy) (by omega) (by omega) (by omega)) (fun w4 M4=>(wq (dL nU underlying21 Z) Z (aT Z Z (wq (aBk Z Z (by decide)) Z (aL 18 (.int .i64 (dy*65536)) (iE (aLr dy hy)) (aT Z Z (dM bFr Z Z M4 (aMu _ (dy*65536) (len dx dy) (by omega) (by omega) (by omega)) (fun w5 M5=>(wq (dL nU underlying21 Z) Z (wq (cI [(0,.int _ _),(1,.int _ _)] _ fK Z Z) Z ?_))))))))))))))))))
  refine bC 0 _ bP M5 Z Z Z Z Z (aP Z) Z (fun w6 M6=>(aB (aC (aR (fA 0 bP M6 Z Z Z ?_)))))
  exact ⟨by unfold rO;first | (rw [if_pos (by omega)];rfl) | (rw [if_neg (by omega)];rfl),M6.below⟩
theorem fS (w:World) (a b:Int) (hb:0 < b) (h0 : -1000000000000000000≤a) (h1:a≤1000000000000000000) :
  Calls prog 152 #[.int .i64 a,.int .i64 b] w (Rb w (.int .i64 (a / b))):=by
 have hf:=aEc (a:=a) hb
 have hb1:=aJf a b
 refine aI #[.tmp 4] 16 func152 Z results152 ntmps152 Z ?_
 have M0:=Mem.refl w
 refine aE (aA (bL Z Z (aB (aC (aE (aA (aT Z Z (aT Z Z (wq (gO Z Z (by omega)) Z (aL 8 (.int .i64 (a.tdiv b)) (iE (fU _ (by omega) (by omega))) (bL Z Z (aB (aC (aE (aE (aA (aT Z Z (aT Z Z (wq (iL Z Z (by omega)) Z (cV Z Z Z Z (aB (aC ?_))))))))))))))))))))))
 refine aW Z (fun h12 => ?_) (fun h12 => ?_)
 ·refine aE (aA (aT Z Z (wq (gX Z Z (by omega) (by omega)) Z (bL Z Z (aB (aC (aR (cK (cF (.int _ _) Z ?_)))))))))
  exact ⟨iE (by first | exact hf.1 (by omega) | exact hf.2 (by omega)),M0.below⟩
 ·refine aM (aC (aE (aA (aT Z Z (bL Z Z (aB (aC (aR (cF (.int _ _) Z ?_)))))))))
  exact ⟨iE (by first | exact hf.1 (by omega) | exact hf.2 (by omega)),M0.below⟩
theorem aSq (w:World) (n:Nat) (hn:n < 18446744073709551616) :
  Calls prog 200 #[.int .u64 (n:Int)] w (Rb w (.int .u64 ((yQ n:Nat):Int))):=by
 have hin:=bHt hn
 refine aI #[.tmp 2] 23 func200 Z results200 ntmps200 Z ?_
 have M0:=Mem.refl w
 refine aE (aA (bL Z Z (aB (aC (aE (aA (bL Z Z (aB (aC (aE (aA (bL Z Z (aB (aC (aE (aS (dK (σ:=Nat × Nat) [0,2] (fun (lo,hi)=>[(3,.int .u64 (lo:Int)),(4,.int .u64 (hi:Int))]) (fun (lo,hi) w'=>(lo≤yQ n∧yQ n≤hi∧hi≤4294967295)∧Mem w [] [] w') (fun (lo,hi)=>hi - lo) (0,4294967295) (bI Z (bI Z eC)) (⟨⟨by omega,by omega,by omega⟩,M0⟩) ?_)))))))))))))))))
 rintro ⟨lo,hi⟩ ρ1 w1 ⟨⟨hlo,hhi,hh⟩,hM1⟩
 refine aE (aE (aA (aT Z Z (aT Z Z (cV Z Z Z Z (aB (aC ?_)))))))
 refine aW Z (fun h8 => ?_) (fun h8 => ?_)
 ·obtain ⟨m,hm⟩:∃ m,m=(lo+hi+1) / 2:=⟨_,rfl⟩
  have hmm:=bMw (n:=n) (m:=m)
  have hm2:m*m≤4294967295*4294967295:=Nat.mul_le_mul (by omega) (by omega)
  refine aM (aC (aS (aE (aA (aT Z Z (aT Z Z (wq (cH (.int _ _) Z Z Z) Z (aL 11 (.int .u64 ((lo+hi:Nat):Int)) (iE (by rw [iH];omega)) (wq (cH (.int _ _) Z Z Z) Z (aL 12 (.int .u64 ((lo+hi+1:Nat):Int)) (iE (by rw [iH];omega)) (wq (gO Z Z (by decide)) Z (aL 13 (.int .u64 (m:Int)) (iE ((kG (lo+hi+1) 2 (by omega)).trans (congrArg _ hm.symm))) (bL Z Z (aB (aC (aE (aA (aT Z Z (aT Z Z (wq (cH (.int _ _) Z Z Z) Z (aL 16 (.int .u64 ((m*m:Nat):Int)) (iE (mS m m (by omega))) ?_)))))))))))))))))))))
  refine aT Z Z (cV Z Z Z Z (aB (aC ?_)))
  refine aW Z (fun h18 => ?_) (fun h18 => ?_)
  ·refine aA (aT Z Z (bL Z Z (aB (cS ?_))))
   refine bU (m,hi) (bI Z (bI Z eC)) (bX Z (bX Z gR)) ?_ ?_
   ·exact ⟨⟨hmm.1 (by omega),by omega,by omega⟩,hM1⟩
   ·(show hi - m < hi - lo;omega)
  ·refine aA (aT Z Z (wq (cH (.int _ _) Z Z Z) Z (aL 21 (.int .u64 ((m - 1:Nat):Int)) (iE (by rw [iH];omega)) (bL Z Z (aB (cS ?_))))))
   refine bU (lo,m - 1) (bI Z (bI Z eC)) (bX Z (bX Z gR)) ?_ ?_
   ·exact ⟨⟨by omega,by have:=hmm.2 (by omega);omega,by omega⟩,hM1⟩
   ·(show m - 1 - lo < hi - lo;omega)
 ·refine cM (cZ (dF (eL (aC (aE (aA (aT Z Z (bL Z Z (aB (aC (aR (cF (.int _ _) Z ?_))))))))))))
  exact ⟨iE (by omega),hM1.below⟩
theorem wI (w:World) (dx dy:Int) (hx:yM dx) (hy:yM dy) :
  Calls prog 199 #[.int .i64 dx,.int .i64 dy] w (Rb w (.int .u64 ((tB dx dy:Nat):Int))):=by
 have hl:=uL hx hy
 unfold yM at hx hy
 refine aI #[.tmp 4] 24 func199 Z results199 ntmps199 Z ?_
 have M0:=Mem.refl w
 refine aE (aA (bL Z Z (aB (aC (aE (aE (aA (aT Z Z (cV Z Z Z Z (aB (aC ?_)))))))))))
 refine aW Z (fun h6 => ?_) (fun h6 => ?_)
 ·refine aA (aT Z Z (wq (tX Z) Z (aL 8 (.int .i64 (-dx)) (iE (fU _ (by omega) (by omega))) (bL Z Z (aB (aC (aE (aE (aA (aT Z Z (cV Z Z Z Z (aB (aC ?_)))))))))))))
  refine aW Z (fun h10 => ?_) (fun h10 => ?_)
  ·refine aA (aT Z Z (wq (tX Z) Z (aL 12 (.int .i64 (-dy)) (iE (fU _ (by omega) (by omega))) (bL Z Z (aB (aC (aE (aA (aT Z Z (wq (dL nU underlying237 Z) Z (aL 14 (.int .u64 ((dx.natAbs:Nat):Int)) (iE (by rw [iH];omega)) (aT Z Z (wq (dL nU underlying237 Z) Z (aL 16 (.int .u64 ((dx.natAbs:Nat):Int)) (iE (by rw [iH];omega)) (wq (cH (.int _ _) Z Z Z) Z (aL 17 (.int .u64 ((dx.natAbs*dx.natAbs:Nat):Int)) (iE (mS _ _ (by omega))) (aT Z Z (wq (dL nU underlying237 Z) Z ?_))))))))))))))))))
   refine aL 19 (.int .u64 ((dy.natAbs:Nat):Int)) (iE (by rw [iH];omega)) (aT Z Z (wq (dL nU underlying237 Z) Z (aL 21 (.int .u64 ((dy.natAbs:Nat):Int)) (iE (by rw [iH];omega)) (wq (cH (.int _ _) Z Z Z) Z (aL 22 (.int .u64 ((dy.natAbs*dy.natAbs:Nat):Int)) (iE (mS _ _ (by omega))) (wq (cH (.int _ _) Z Z Z) Z (aL 23 (.int .u64 ((tB dx dy:Nat):Int)) (iE (by rw [iH];unfold tB at *;omega)) (bL Z Z (aB (aC (aR (cF (.int _ _) Z ?_))))))))))))
   exact ⟨Z,M0.below⟩
  ·refine aM (aC (aE (aA (aT Z Z (wq (dL nU underlying237 Z) Z (aL 14 (.int .u64 ((dx.natAbs:Nat):Int)) (iE (by rw [iH];omega)) (aT Z Z (wq (dL nU underlying237 Z) Z (aL 16 (.int .u64 ((dx.natAbs:Nat):Int)) (iE (by rw [iH];omega)) (wq (cH (.int _ _) Z Z Z) Z (aL 17 (.int .u64 ((dx.natAbs*dx.natAbs:Nat):Int)) (iE (mS _ _ (by omega))) (aT Z Z (wq (dL nU underlying237 Z) Z (aL 19 (.int .u64 ((dy.natAbs:Nat):Int)) (iE (by rw [iH];omega)) (aT Z Z (wq (dL nU underlying237 Z) Z ?_))))))))))))))))
   refine aL 21 (.int .u64 ((dy.natAbs:Nat):Int)) (iE (by rw [iH];omega)) (wq (cH (.int _ _) Z Z Z) Z (aL 22 (.int .u64 ((dy.natAbs*dy.natAbs:Nat):Int)) (iE (mS _ _ (by omega))) (wq (cH (.int _ _) Z Z Z) Z (aL 23 (.int .u64 ((tB dx dy:Nat):Int)) (iE (by rw [iH];unfold tB at *;omega)) (bL Z Z (aB (aC (aR (cF (.int _ _) Z ?_)))))))))
   exact ⟨Z,M0.below⟩
 ·refine aM (aC (aE (aE (aA (aT Z Z (cV Z Z Z Z (aB (aC ?_))))))))
  refine aW Z (fun h10 => ?_) (fun h10 => ?_)
  ·refine aA (aT Z Z (wq (tX Z) Z (aL 12 (.int .i64 (-dy)) (iE (fU _ (by omega) (by omega))) (bL Z Z (aB (aC (aE (aA (aT Z Z (wq (dL nU underlying237 Z) Z (aL 14 (.int .u64 ((dx.natAbs:Nat):Int)) (iE (by rw [iH];omega)) (aT Z Z (wq (dL nU underlying237 Z) Z (aL 16 (.int .u64 ((dx.natAbs:Nat):Int)) (iE (by rw [iH];omega)) (wq (cH (.int _ _) Z Z Z) Z (aL 17 (.int .u64 ((dx.natAbs*dx.natAbs:Nat):Int)) (iE (mS _ _ (by omega))) (aT Z Z (wq (dL nU underlying237 Z) Z ?_))))))))))))))))))
   refine aL 19 (.int .u64 ((dy.natAbs:Nat):Int)) (iE (by rw [iH];omega)) (aT Z Z (wq (dL nU underlying237 Z) Z (aL 21 (.int .u64 ((dy.natAbs:Nat):Int)) (iE (by rw [iH];omega)) (wq (cH (.int _ _) Z Z Z) Z (aL 22 (.int .u64 ((dy.natAbs*dy.natAbs:Nat):Int)) (iE (mS _ _ (by omega))) (wq (cH (.int _ _) Z Z Z) Z (aL 23 (.int .u64 ((tB dx dy:Nat):Int)) (iE (by rw [iH];unfold tB at *;omega)) (bL Z Z (aB (aC (aR (cF (.int _ _) Z ?_))))))))))))
   exact ⟨Z,M0.below⟩
  ·refine aM (aC (aE (aA (aT Z Z (wq (dL nU underlying237 Z) Z (aL 14 (.int .u64 ((dx.natAbs:Nat):Int)) (iE (by rw [iH];omega)) (aT Z Z (wq (dL nU underlying237 Z) Z (aL 16 (.int .u64 ((dx.natAbs:Nat):Int)) (iE (by rw [iH];omega)) (wq (cH (.int _ _) Z Z Z) Z (aL 17 (.int .u64 ((dx.natAbs*dx.natAbs:Nat):Int)) (iE (mS _ _ (by omega))) (aT Z Z (wq (dL nU underlying237 Z) Z (aL 19 (.int .u64 ((dy.natAbs:Nat):Int)) (iE (by rw [iH];omega)) (aT Z Z (wq (dL nU underlying237 Z) Z ?_))))))))))))))))
   refine aL 21 (.int .u64 ((dy.natAbs:Nat):Int)) (iE (by rw [iH];omega)) (wq (cH (.int _ _) Z Z Z) Z (aL 22 (.int .u64 ((dy.natAbs*dy.natAbs:Nat):Int)) (iE (mS _ _ (by omega))) (wq (cH (.int _ _) Z Z Z) Z (aL 23 (.int .u64 ((tB dx dy:Nat):Int)) (iE (by rw [iH];unfold tB at *;omega)) (bL Z Z (aB (aC (aR (cF (.int _ _) Z ?_)))))))))
   exact ⟨Z,M0.below⟩
theorem uQ (w:World) (dx dy:Int) (hx:yM dx) (hy:yM dy) :
  Calls prog 177 #[.int .i64 dx,.int .i64 dy] w (Rb w (.int .i64 (len dx dy))):=by
 have hl:=zN hx hy
 refine aI #[.tmp 4] 10 func177 Z results177 ntmps177 Z ?_
 have M0:=Mem.refl w
 refine aE (aA (bL Z Z (aB (aC (aE (aA (aT Z Z (aT Z Z (dM bFj Z Z M0 (wI _ dx dy hx hy) (fun w1 M1=>(dM bSz Z Z M1 (aSq _ (tB dx dy) (uL hx hy).1) (fun w2 M2=>(wq (dL yV underlying2 Z) Z (aL 9 (.int .i64 (len dx dy)) (iE (fU (len dx dy) (by omega) (by omega))) (bL Z Z (aB (aC (aR (cF (.int _ _) Z ?_)))))))))))))))))))
 exact ⟨Z,M2.below⟩
theorem aWj (w:World) (dx dy:Int) (hx:yM dx) (hy:yM dy) :
  Calls prog 176 #[.int .i64 dx,.int .i64 dy] w (Rb w ((.agg (cR (rO dx dy)).toArray))):=by
 have hl:=zN hx hy
 have hxx:=hx
 have hyy:=hy
 unfold yM at hxx hyy
 have hl0:=bIe dx dy
 refine aI #[.cell 4 37] 27 func176 Z results176 ntmps176 Z ?_
 have M0:=Mem.refl w
 refine aE (aA (aO jQ M0 Z Z (fun b1 w1 M1=>(aB (aC (aE (aE (aA (aT Z Z (cV Z Z Z Z (wq (aH (.bool (decide _)) Z) Z ?_)))))))))))
 refine dT 8 Z (fun g8 => ?_) (fun g8 => ?_)
 ·refine aT Z Z (cV Z Z Z Z (wq (bM true (.bool (decide _)) Z Z) Z (aB (aC ?_))))
  refine aW Z (fun h11 => ?_) (fun h11 => ?_)
  ·refine aE (aA (wq (cI [(0,.int _ _)] _ fK Z Z) Z (bC 0 _ bP M1 Z Z Z Z Z (aP Z) Z (fun w2 M2=>(aB (aC (aR (cK (fA 0 bP M2 Z Z Z ?_)))))))))
   exact ⟨by unfold rO;first | (rw [if_pos (by omega)];rfl) | (rw [if_neg (by omega)];rfl),M2.below⟩
  ·refine aM (aC (aE (aA (aT Z Z (aT Z Z (dM aUo Z Z M1 (uQ _ dx dy hx hy) (fun w3 M3=>(bL Z Z (aB (aC (aE (aA (aT Z Z (wq (fO Z Z (by omega) (by omega)) Z (aT Z Z (dM mK Z Z M3 (fS _ (dx*65536) (len dx dy) (by omega) (by omega) (by omega)) (fun w4 M4=>(wq (dL nU underlying21 Z) Z (aT Z Z (wq (fO Z Z (by omega) (by omega)) Z (aT Z Z (dM mK Z Z M4 (fS _ (dy*65536) (len dx dy) (by omega) (by omega) (by omega)) (fun w5 M5=>(wq (dL nU underlying21 Z) Z ?_))))))))))))))))))))))))
   refine wq (cI [(0,.int _ _),(1,.int _ _)] _ fK Z Z) Z (bC 0 _ bP M5 Z Z Z Z Z (aP Z) Z (fun w6 M6=>(aB (aC (aR (fA 0 bP M6 Z Z Z ?_))))))
   exact ⟨by unfold rO;first | (rw [if_pos (by omega)];rfl) | (rw [if_neg (by omega)];rfl),M6.below⟩
 ·refine aQ Z Z (aQ Z Z (wq (bM false (.bool false) Z Z) Z (aB (aC (cB Z (aM (aC (aE (aA (aT Z Z (aT Z Z (dM aUo Z Z M1 (uQ _ dx dy hx hy) (fun w7 M7=>(bL Z Z (aB (aC (aE (aA (aT Z Z (wq (fO Z Z (by omega) (by omega)) Z (aT Z Z (dM mK Z Z M7 (fS _ (dx*65536) (len dx dy) (by omega) (by omega) (by omega)) (fun w8 M8=>(wq (dL nU underlying21 Z) Z ?_))))))))))))))))))))))))
  refine aT Z Z (wq (fO Z Z (by omega) (by omega)) Z (aT Z Z (dM mK Z Z M8 (fS _ (dy*65536) (len dx dy) (by omega) (by omega) (by omega)) (fun w9 M9=>(wq (dL nU underlying21 Z) Z (wq (cI [(0,.int _ _),(1,.int _ _)] _ fK Z Z) Z (bC 0 _ bP M9 Z Z Z Z Z (aP Z) Z (fun w10 M10=>(aB (aC (aR (fA 0 bP M10 Z Z Z ?_))))))))))))
  exact ⟨by unfold rO;first | (rw [if_pos (by omega)];rfl) | (rw [if_neg (by omega)];rfl),M10.below⟩
theorem aEs (w:World) (b:Body) (hb:Okb b) :
  Calls prog 197 #[(.agg (aF b).toArray)] w (Rb w ((.agg (cR (aCn b)).toArray))):=by
 have ha:=hb.a
 have hp:=hb.p
 refine aI #[.cell 2 37] 18 func197 Z results197 ntmps197 Z ?_
 have M0:=Mem.refl w
 refine aE (aA (bO (.agg (.mk _)) M0 Z Z Z (fun b1 w1 M1=>(aO jQ M1 Z Z (fun b2 w2 M2=>(aB (aC (aE (aA (wq (aD 6 fZ Z) Z (wq (aD 0 cY Z) Z (wq (aK 0 (.int _ _) bB M2 Z Z Z) Z (wq (aD 2 kE Z) Z (wq (aD 0 cY Z) Z (wq (aK 0 (.int _ _) bB M2 Z Z Z) Z (wq (oZ Z Z (kM _ (by omega) (by omega))) Z (wq (aD 6 fZ Z) Z (wq (aD 1 cW Z) Z (wq (aK 0 (.int _ _) bB M2 Z Z Z) Z (wq (aD 2 kE Z) Z ?_))))))))))))))))))))
 refine wq (aD 1 cW Z) Z (wq (aK 0 (.int _ _) bB M2 Z Z Z) Z (wq (oZ Z Z (kM _ (by omega) (by omega))) Z (wq (cI [(0,.int _ _),(1,.int _ _)] _ fK Z Z) Z (bC 1 _ bP M2 Z Z Z Z Z (aP Z) Z (fun w3 M3=>(aB (aC (aR (fA 1 bP M3 Z Z Z ?_)))))))))
 exact ⟨Z,M3.below⟩
theorem aBo (w:World) (b:Body) (hb:Okb b) :
  Calls prog 198 #[(.agg (aF b).toArray)] w (Rb w ((.agg (cR (aCo b)).toArray))):=by
 have ha:=hb.a
 have hp:=hb.p
 refine aI #[.cell 2 37] 18 func198 Z results198 ntmps198 Z ?_
 have M0:=Mem.refl w
 refine aE (aA (bO (.agg (.mk _)) M0 Z Z Z (fun b1 w1 M1=>(aO jQ M1 Z Z (fun b2 w2 M2=>(aB (aC (aE (aA (wq (aD 6 fZ Z) Z (wq (aD 0 cY Z) Z (wq (aK 0 (.int _ _) bB M2 Z Z Z) Z (wq (aD 2 kE Z) Z (wq (aD 0 cY Z) Z (wq (aK 0 (.int _ _) bB M2 Z Z Z) Z (wq (kJ Z Z (kM _ (by omega) (by omega))) Z (wq (aD 6 fZ Z) Z (wq (aD 1 cW Z) Z (wq (aK 0 (.int _ _) bB M2 Z Z Z) Z (wq (aD 2 kE Z) Z ?_))))))))))))))))))))
 refine wq (aD 1 cW Z) Z (wq (aK 0 (.int _ _) bB M2 Z Z Z) Z (wq (kJ Z Z (kM _ (by omega) (by omega))) Z (wq (cI [(0,.int _ _),(1,.int _ _)] _ fK Z Z) Z (bC 1 _ bP M2 Z Z Z Z Z (aP Z) Z (fun w3 M3=>(aB (aC (aR (fA 1 bP M3 Z Z Z ?_)))))))))
 exact ⟨Z,M3.below⟩
theorem bAs (w:World) (b:Body) (hb:Okb b) :
  Calls prog 258 #[(.agg (aF b).toArray)] w (Rb w (.tuple #[(.agg (cR (aCn b)).toArray),(.agg (cR (aCo b)).toArray)])):=by
 have ha:=hb.a
 have hp:=hb.p
 refine aI #[.cell 2 37,.cell 3 37] 36 func258 Z results258 ntmps258 Z ?_
 have M0:=Mem.refl w
 refine aE (aA (bO (.agg (.mk _)) M0 Z Z Z (fun b1 w1 M1=>(aO jQ M1 Z Z (fun b2 w2 M2=>(aO jQ M2 Z Z (fun b3 w3 M3=>(aB (aC (aE (aA (wq (aD 6 fZ Z) Z (wq (aD 0 cY Z) Z (wq (aK 0 (.int _ _) bB M3 Z Z Z) Z (wq (aD 2 kE Z) Z (wq (aD 0 cY Z) Z (wq (aK 0 (.int _ _) bB M3 Z Z Z) Z (wq (oZ Z Z (kM _ (by omega) (by omega))) Z (wq (aD 6 fZ Z) Z (wq (aD 1 cW Z) Z (wq (aK 0 (.int _ _) bB M3 Z Z Z) Z ?_)))))))))))))))))))))
 refine wq (aD 2 kE Z) Z (wq (aD 1 cW Z) Z (wq (aK 0 (.int _ _) bB M3 Z Z Z) Z (wq (oZ Z Z (kM _ (by omega) (by omega))) Z (wq (cI [(0,.int _ _),(1,.int _ _)] _ fK Z Z) Z (bC 1 _ bP M3 Z Z Z Z Z (aP Z) Z (fun w4 M4=>(aB (aC (aE (aA (wq (aD 6 fZ Z) Z (wq (aD 0 cY Z) Z (wq (aK 0 (.int _ _) bB M4 Z Z Z) Z (wq (aD 2 kE Z) Z (wq (aD 0 cY Z) Z (wq (aK 0 (.int _ _) bB M4 Z Z Z) Z (wq (kJ Z Z (kM _ (by omega) (by omega))) Z ?_)))))))))))))))))
 refine wq (aD 6 fZ Z) Z (wq (aD 1 cW Z) Z (wq (aK 0 (.int _ _) bB M4 Z Z Z) Z (wq (aD 2 kE Z) Z (wq (aD 1 cW Z) Z (wq (aK 0 (.int _ _) bB M4 Z Z Z) Z (wq (kJ Z Z (kM _ (by omega) (by omega))) Z (wq (cI [(0,.int _ _),(1,.int _ _)] _ fK Z Z) Z (bC 2 _ bP M4 Z Z Z Z Z (aP Z) Z (fun w5 M5=>(aB (aC (aE (gJ [(0,1),(1,1),(2,2),(3,2)] mixed M5 Z (by kernel_rfl) (fun w6 M6=>(bQ Z Z Z (aV 1 bP M6 Z Z Z) (bQ Z Z Z (aV 2 bP M6 Z Z Z) ?_))))))))))))))))
 refine dO [false,true] Z (by kernel_rfl) (bC 1 _ bP M6 Z Z Z Z Z (aP Z) Z (fun w7 M7 => ?_))
 refine aB (aC ⟨(dS (bH Z (aV 2 bP M7 Z Z Z)) dI), ?_⟩)
 refine dO [true] Z (by kernel_rfl) (bC 2 _ bP M7 Z Z Z Z Z (aP Z) Z (fun w8 M8 => ?_))
 refine aB (aC ⟨dI, ?_⟩)
 refine bS (aC (aR (aYo 1 2 bP M8 Z Z Z Z Z Z ?_)))
 exact ⟨Z,M8.below⟩
theorem aSm (w:World) (p q c:Pt) (h:SgI p q) (hc:PtI c) :
  Calls prog 282 #[(.agg (cR p).toArray),(.agg (cR q).toArray),(.agg (cR c).toArray)] w (Rb w (.tuple #[.int .i64 (rH p q c),.int .i64 (oE p q)])):=by
 have hD:=pS h
 have hx:=aLh h hc
 refine aI #[.tmp 6,.tmp 7] 42 func282 Z results282 ntmps282 Z ?_
 have M0:=Mem.refl w
 refine aE (aA (bO (.agg (.mk _)) M0 Z Z Z (fun b1 w1 M1=>(bO (.agg (.mk _)) M1 Z Z Z (fun b2 w2 M2=>(bO (.agg (.mk _)) M2 Z Z Z (fun b3 w3 M3=>(bL Z Z (bL Z Z (aB (aC (aE (aA (wq (aV 0 bP M3 Z Z Z) Z (wq (aV 1 bP M3 Z Z Z) Z (dM aGm Z Z M3 (wS _ p q h.hp.i32 h.hq.i32) (fun w4 M4=>(wq (aH (.tuple (List.toArray _)) Z) Z (wq (bJ (.int _ _) Z Z) Z (wq (bJ (.int _ _) Z Z) Z (bL Z Z (bL Z Z (aB (aC (aE (aA ?_))))))))))))))))))))))))))
 refine wq (aV 0 bP M4 Z Z Z) Z (wq (aV 2 bP M4 Z Z Z) Z (dM aGm Z Z M4 (wS _ p c h.hp.i32 hc.i32) (fun w5 M5=>(wq (aH (.tuple (List.toArray _)) Z) Z (wq (bJ (.int _ _) Z Z) Z (wq (bJ (.int _ _) Z Z) Z (bL Z Z (bL Z Z (aB (aC (aE (aA (aT Z Z (aT Z Z (wq (fO Z Z (by omega) (by omega)) Z (aT Z Z (aT Z Z (wq (fO Z Z (by omega) (by omega)) Z (wq (bE Z Z (by omega) (by omega)) Z ?_)))))))))))))))))))
 refine aL 30 (.int .i64 (oE p q)) Z (bL Z Z (aB (aC (aE (aA (aT Z Z (aT Z Z (wq (fO Z Z (by omega) (by omega)) Z (aT Z Z (aT Z Z (wq (fO Z Z (by omega) (by omega)) Z (wq (bE Z Z (by omega) (by omega)) Z (aT Z Z (wq (aIm Z Z ) Z (wq (qF Z Z ) Z (aT Z Z (bL Z Z (bL Z Z ?_))))))))))))))))))
 refine aB (aC (aR (gE (.int _ _) (.int _ _) Z Z ?_)))
 exact ⟨Z,M5.below⟩
theorem aLz (w:World) (f a n d:Int) (bn bd:Nat) (ha : -16777216≤a∧a≤16777216) (hn:0≤n) (hnd:n≤d) (hd0:0 < d) (hd:d≤562949953421312) (h1 : -16777216≤a*n / d∧a*n / d≤16777216) (h2 : -1082130432≤f+a*n / d∧f+a*n / d≤1082130432) (K1:Rd w 1 (some ⟨bn,0,none⟩) 1 [[.int .i64 n]]) (K2:Rd w 1 (some ⟨bd,0,none⟩) 1 [[.int .i64 d]]) :
  Calls prog 283 #[.int .i32 f,.int .i64 a,.pointer (some ⟨bn,0,none⟩),.pointer (some ⟨bd,0,none⟩)] w (Rb w (.int .i32 (f+a*n / d))):=by
 rw [← iP bn,← iP bd]
 refine aI #[.tmp 6] 20 func283 Z results283 ntmps283 Z ?_
 have M0:=Mem.refl w
 refine aE (aA (bL Z Z (aB (aC (aE (aA (aT Z Z (wq (dR (o:=0) (.int _ _) kI (K1.mem M0) (show ([[.int .i64 n]]:List (List Value))[0]? = some [.int .i64 n] from Z) Z Z) Z (wq (dR (o:=0) (.int _ _) kI (K2.mem M0) (show ([[.int .i64 d]]:List (List Value))[0]? = some [.int .i64 d] from Z) Z Z) Z (dM aNh Z Z M0 (bUz _ a n d (by omega) hn hnd hd0 (by omega)) (fun w1 M1=>(wq (aH (.tuple (List.toArray _)) Z) Z (wq (bJ (.int _ _) Z Z) Z (wq (bJ (.int _ _) Z Z) Z (bL Z Z (bL Z Z (aB (aC (aE (aA ?_))))))))))))))))))))
 refine aT Z Z (aT Z Z (wq (bK nU underlying21 Z (kM _ (by omega) (by omega))) Z (wq (kJ Z Z (kM _ (by omega) (by omega))) Z (bL Z Z (aB (aC (aR (cF (.int _ _) Z ?_))))))))
 exact ⟨Z,M1.below⟩
theorem pI (w:World) (p q c:Pt) (h:SgI p q) (hc:PtI c) :
  Calls prog 277 #[(.agg (cR p).toArray),(.agg (cR q).toArray),(.agg (cR c).toArray)] w (Rb w ((.agg (cR (cN p q c)).toArray))):=by
 have hD:=pS h
 have hn:=aBi (c:=c) h
 have hx:=h.x
 have hy:=h.y
 refine aI #[.cell 6 37] 40 func277 Z results277 ntmps277 Z ?_
 have M0:=Mem.refl w
 refine aE (aA (bO (.agg (.mk _)) M0 Z Z Z (fun b1 w1 M1=>(bO (.agg (.mk _)) M1 Z Z Z (fun b2 w2 M2=>(bO (.agg (.mk _)) M2 Z Z Z (fun b3 w3 M3=>(aO jQ M3 Z Z (fun b4 w4 M4=>(aB (aC (aE (aA (wq (aV 0 bP M4 Z Z Z) Z (wq (aV 1 bP M4 Z Z Z) Z (wq (aV 2 bP M4 Z Z Z) Z (dM bUl Z Z M4 (aSm _ p q c h hc) (fun w5 M5=>(wq (aH (.tuple (List.toArray _)) Z) Z (wq (bJ (.int _ _) Z Z) Z (wq (bJ (.int _ _) Z Z) Z (aO aJp M5 Z Z (fun b6 w6 M6 => ?_)))))))))))))))))))))))
 refine aO aJp M6 Z Z (fun b7 w7 M7=>(dA 4 (.int _ _) kI M7 Z Z Z Z Z Z (fun w8 M8=>(dA 5 (.int _ _) kI M8 Z Z Z Z Z Z (fun w9 M9=>(aB (aC (aE (aE (aA (wq (aK 5 (.int _ _) kI M9 Z Z Z) Z (cV Z Z Z Z (aB (aC ?_))))))))))))))
 refine aW Z (fun h20 => ?_) (fun h20 => ?_)
 ·refine aE (aA (wq (aV 0 bP M9 Z Z Z) Z (bC 3 _ bP M9 Z Z Z Z Z (aP Z) Z (fun w10 M10=>(aB (aC (aR (cK (fA 3 bP M10 Z Z Z ?_)))))))))
  exact ⟨by unfold cN;first | (rw [if_pos h20];rfl) | (rw [if_neg h20];rfl),M10.below⟩
 ·have hnr:=aId (c:=c) h h20
  refine aM (aC (aE (aA (wq (eB [] [.pointer _,.pointer _] Z Z) Z (wq (aJ (.func _ _ _) Z) Z (aB (aC (aE (aA (wq (aV 0 bP M9 Z Z Z) Z (wq (aV 1 bP M9 Z Z Z) Z (dM aGm Z Z M9 (wS _ p q h.hp.i32 h.hq.i32) (fun w11 M11=>(wq (aH (.tuple (List.toArray _)) Z) Z (wq (bJ (.int _ _) Z Z) Z (wq (bJ (.int _ _) Z Z) Z (bL Z Z (bL Z Z (aB (aC (aE (gJ [(0,0),(1,0),(2,1),(3,0),(5,0),(6,0),(7,1),(8,0),(4,2),(9,2),(10,0),(11,2)] mixed M11 Z (by kernel_rfl) (fun w12 M12 => ?_)))))))))))))))))))))))
  refine aX Z Z Z (fun _=>aH (.func _ _ _) Z) (aX Z Z Z (fun _=>aD 0 cY Z) (bQ Z Z Z (aK 0 (.int _ _) bB M12 Z Z Z) (eG Z Z Z (aX Z Z Z (fun _=>aH (.func _ _ _) Z) (aX Z Z Z (fun _=>aD 1 cW Z) (bQ Z Z Z (aK 0 (.int _ _) bB M12 Z Z Z) (eG Z Z Z (dO [false,true] Z (by kernel_rfl) (dM bGd Z Z M12 (aLz _ p.1 (q.1 - p.1) (rH p q c) (oE p q) b6 b7 (by omega) hn.1 hn.2 (by omega) (by omega) hnr.1.1 hnr.1.2 (rS 4 M12 Z Z) (rS 5 M12 Z Z)) (fun w13 M13 => ?_))))))))))
  refine aB (aC ⟨(dS (bH Z (aK 0 (.int _ _) bB M13 Z Z Z)) dI), ?_⟩)
  refine dO [true] Z (by kernel_rfl) (dM bGd Z Z M13 (aLz _ p.2 (q.2 - p.2) (rH p q c) (oE p q) b6 b7 (by omega) hn.1 hn.2 (by omega) (by omega) hnr.2.1 hnr.2.2 (rS 4 M13 Z Z) (rS 5 M13 Z Z)) (fun w14 M14 => ?_))
  refine aB (aC ⟨dI, ?_⟩)
  refine aX Z Z Z (fun _=>cI [(0,.int _ _),(1,.int _ _)] _ fK Z Z) (dO [] Z (by kernel_rfl) (bC 3 _ bP M14 Z Z Z Z Z (aP Z) Z (fun w15 M15 => ?_)))
  refine aB (aC ⟨dI, ?_⟩)
  refine bS (aC (aR (fA 3 bP M15 Z Z Z ?_)))
  exact ⟨by unfold cN;first | (rw [if_pos h20];rfl) | (rw [if_neg h20];rfl),M15.below⟩
theorem aBp (w:World) (p q:Pt) (h:SgI p q) :
  Calls prog 247 #[(.agg (cR p).toArray),(.agg (cR q).toArray)] w (Rb w (.int .i64 (oE p q))):=by
 have hD:=pS h
 have hp:=h.hp.i32
 have hq:=h.hq.i32
 have hpx:=hp.x
 have hpy:=hp.y
 have hqx:=hq.x
 have hqy:=hq.y
 refine aI #[.tmp 4] 28 func247 Z results247 ntmps247 Z ?_
 have M0:=Mem.refl w
 refine aE (aA (bO (.agg (.mk _)) M0 Z Z Z (fun b1 w1 M1=>(bO (.agg (.mk _)) M1 Z Z Z (fun b2 w2 M2=>(bL Z Z (aB (aC (aE (aA (wq (aD 0 cY Z) Z (wq (aK 1 (.int _ _) bB M2 Z Z Z) Z (wq (bK eF underlying2 Z (fU _ (by omega) (by omega))) Z (wq (aD 0 cY Z) Z (wq (aK 0 (.int _ _) bB M2 Z Z Z) Z (wq (bK eF underlying2 Z (fU _ (by omega) (by omega))) Z (wq (gX Z Z (by omega) (by omega)) Z (bL Z Z (aB (aC (aE (aA (wq (aD 1 cW Z) Z ?_)))))))))))))))))))))))
 refine wq (aK 1 (.int _ _) bB M2 Z Z Z) Z (wq (bK eF underlying2 Z (fU _ (by omega) (by omega))) Z (wq (aD 1 cW Z) Z (wq (aK 0 (.int _ _) bB M2 Z Z Z) Z (wq (bK eF underlying2 Z (fU _ (by omega) (by omega))) Z (wq (gX Z Z (by omega) (by omega)) Z (bL Z Z (aB (aC (aE (aA (aT Z Z (aT Z Z (wq (fO Z Z (by omega) (by omega)) Z (aT Z Z (aT Z Z (wq (fO Z Z (by omega) (by omega)) Z (wq (bE Z Z (by omega) (by omega)) Z (bL Z Z ?_))))))))))))))))))
 refine aB (aC (aR (cF (.int _ _) Z ?_)))
 exact ⟨Z,M2.below⟩
theorem aSs (w:World) (n lo hi:Int) (h:lo≤hi) :
  Calls prog 264 #[.int .i64 n,.int .i64 lo,.int .i64 hi] w (Rb w (.int .i64 (max lo (min n hi)))):=by
 refine aI #[.tmp 6] 16 func264 Z results264 ntmps264 Z ?_
 have M0:=Mem.refl w
 refine aE (aA (bL Z Z (aB (aC (aE (aE (aA (aT Z Z (aT Z Z (cV Z Z Z Z (aB (aC ?_))))))))))))
 refine aW Z (fun h9 => ?_) (fun h9 => ?_)
 ·refine aE (aA (aT Z Z (bL Z Z (aB (aC (aR (cK (cF (.int _ _) Z ?_))))))))
  exact ⟨iE (by omega),M0.below⟩
 ·refine aM (aC (aE (aE (aA (aT Z Z (aT Z Z (cV Z Z Z Z (aB (aC ?_)))))))))
  refine aW Z (fun h13 => ?_) (fun h13 => ?_)
  ·refine aE (aA (aT Z Z (bL Z Z (aB (aC (aR (cK (cF (.int _ _) Z ?_))))))))
   exact ⟨iE (by omega),M0.below⟩
  ·refine aM (aC (aE (aA (aT Z Z (bL Z Z (aB (aC (aR (cF (.int _ _) Z ?_)))))))))
   exact ⟨iE (by omega),M0.below⟩
theorem aSt (w:World) (p q c:Pt) (h:SgI p q) (hc:PtI c) :
  Calls prog 248 #[(.agg (cR p).toArray),(.agg (cR q).toArray),(.agg (cR c).toArray)] w (Rb w (.int .i64 (rH p q c))):=by
 have hD:=pS h
 have hx:=aLh h hc
 have hp:=h.hp.i32
 have hq:=h.hq.i32
 have hci:=hc.i32
 have hpx:=hp.x
 have hpy:=hp.y
 have hqx:=hq.x
 have hqy:=hq.y
 have hcx:=hci.x
 have hcy:=hci.y
 refine aI #[.tmp 6] 48 func248 Z results248 ntmps248 Z ?_
 have M0:=Mem.refl w
 refine aE (aA (bO (.agg (.mk _)) M0 Z Z Z (fun b1 w1 M1=>(bO (.agg (.mk _)) M1 Z Z Z (fun b2 w2 M2=>(bO (.agg (.mk _)) M2 Z Z Z (fun b3 w3 M3=>(bL Z Z (aB (aC (aE (aA (wq (aD 0 cY Z) Z (wq (aK 1 (.int _ _) bB M3 Z Z Z) Z (wq (bK eF underlying2 Z (fU _ (by omega) (by omega))) Z (wq (aD 0 cY Z) Z (wq (aK 0 (.int _ _) bB M3 Z Z Z) Z (wq (bK eF underlying2 Z (fU _ (by omega) (by omega))) Z (wq (gX Z Z (by omega) (by omega)) Z (bL Z Z ?_))))))))))))))))))))
 refine aB (aC (aE (aA (wq (aD 1 cW Z) Z (wq (aK 1 (.int _ _) bB M3 Z Z Z) Z (wq (bK eF underlying2 Z (fU _ (by omega) (by omega))) Z (wq (aD 1 cW Z) Z (wq (aK 0 (.int _ _) bB M3 Z Z Z) Z (wq (bK eF underlying2 Z (fU _ (by omega) (by omega))) Z (wq (gX Z Z (by omega) (by omega)) Z (bL Z Z (aB (aC (aE (aA (wq (aD 0 cY Z) Z (wq (aK 2 (.int _ _) bB M3 Z Z Z) Z (wq (bK eF underlying2 Z (fU _ (by omega) (by omega))) Z (wq (aD 0 cY Z) Z ?_)))))))))))))))))))
 refine wq (aK 0 (.int _ _) bB M3 Z Z Z) Z (wq (bK eF underlying2 Z (fU _ (by omega) (by omega))) Z (wq (gX Z Z (by omega) (by omega)) Z (aT Z Z (wq (fO Z Z (by omega) (by omega)) Z (wq (aD 1 cW Z) Z (wq (aK 2 (.int _ _) bB M3 Z Z Z) Z (wq (bK eF underlying2 Z (fU _ (by omega) (by omega))) Z (wq (aD 1 cW Z) Z (wq (aK 0 (.int _ _) bB M3 Z Z Z) Z (wq (bK eF underlying2 Z (fU _ (by omega) (by omega))) Z (wq (gX Z Z (by omega) (by omega)) Z (aT Z Z ?_))))))))))))
 refine wq (fO Z Z (by omega) (by omega)) Z (wq (bE Z Z (by omega) (by omega)) Z (bL Z Z (aB (aC (aE (aA (aT Z Z (wq (aV 0 bP M3 Z Z Z) Z (wq (aV 1 bP M3 Z Z Z) Z (dM bFt Z Z M3 (aBp _ p q h) (fun w4 M4=>(dM bUi Z Z M4 (aSs _ ((c.1 - p.1)*(q.1 - p.1)+(c.2 - p.2)*(q.2 - p.2)) 0 (oE p q) (by omega)) (fun w5 M5=>(bL Z Z (aB (aC (aR (cF (.int _ _) Z ?_))))))))))))))))))
 exact ⟨Z,M5.below⟩
theorem pJ (w:World) (p q c:Pt) (h:SgI p q) (hc:PtI c) :
  Calls prog 226 #[(.agg (cR p).toArray),(.agg (cR q).toArray),(.agg (cR c).toArray)] w (Rb w ((.agg (cR (cN p q c)).toArray))):=by
 have hD:=pS h
 have hn:=aBi (c:=c) h
 have hx:=h.x
 have hy:=h.y
 have hp:=h.hp.i32
 have hq:=h.hq.i32
 have hpx:=hp.x
 have hpy:=hp.y
 have hqx:=hq.x
 have hqy:=hq.y
 refine aI #[.cell 6 37] 60 func226 Z results226 ntmps226 Z ?_
 have M0:=Mem.refl w
 refine aE (aA (bO (.agg (.mk _)) M0 Z Z Z (fun b1 w1 M1=>(bO (.agg (.mk _)) M1 Z Z Z (fun b2 w2 M2=>(bO (.agg (.mk _)) M2 Z Z Z (fun b3 w3 M3=>(aO jQ M3 Z Z (fun b4 w4 M4=>(aB (aC (aE (aA (wq (aV 0 bP M4 Z Z Z) Z (wq (aV 1 bP M4 Z Z Z) Z (dM bFt Z Z M4 (aBp _ p q h) (fun w5 M5=>(bL Z Z (aB (aC (aE (aE (aA (aT Z Z (cV Z Z Z Z (aB (aC ?_)))))))))))))))))))))))))))
 refine aW Z (fun h17 => ?_) (fun h17 => ?_)
 ·refine aE (aA (wq (aV 0 bP M5 Z Z Z) Z (bC 3 _ bP M5 Z Z Z Z Z (aP Z) Z (fun w6 M6=>(aB (aC (aR (cK (fA 3 bP M6 Z Z Z ?_)))))))))
  exact ⟨by unfold cN;first | (rw [if_pos h17];rfl) | (rw [if_neg h17];rfl),M6.below⟩
 ·have hnr:=aId (c:=c) h h17
  refine aM (aC (aE (aA (wq (aV 0 bP M5 Z Z Z) Z (wq (aV 1 bP M5 Z Z Z) Z (wq (aV 2 bP M5 Z Z Z) Z (dM bUa Z Z M5 (aSt _ p q c h hc) (fun w7 M7=>(bL Z Z (aB (aC (aE (aA (wq (aD 0 cY Z) Z (wq (aK 1 (.int _ _) bB M7 Z Z Z) Z (wq (bK eF underlying2 Z (fU _ (by omega) (by omega))) Z (wq (aD 0 cY Z) Z (wq (aK 0 (.int _ _) bB M7 Z Z Z) Z (wq (bK eF underlying2 Z (fU _ (by omega) (by omega))) Z (wq (gX Z Z (by omega) (by omega)) Z ?_))))))))))))))))))))
  refine aT Z Z (aT Z Z (dM bFu Z Z M7 (aBl _ (q.1 - p.1) (rH p q c) (oE p q) (by omega) hn.1 hn.2 (by omega) (by omega)) (fun w8 M8=>(wq (aH (.tuple (List.toArray _)) Z) Z (wq (bJ (.int _ _) Z Z) Z (wq (bJ (.int _ _) Z Z) Z (bL Z Z (bL Z Z (aB (aC (aE (aA (wq (aD 1 cW Z) Z (wq (aK 1 (.int _ _) bB M8 Z Z Z) Z (wq (bK eF underlying2 Z (fU _ (by omega) (by omega))) Z (wq (aD 1 cW Z) Z (wq (aK 0 (.int _ _) bB M8 Z Z Z) Z (wq (bK eF underlying2 Z (fU _ (by omega) (by omega))) Z ?_))))))))))))))))))
  refine wq (gX Z Z (by omega) (by omega)) Z (aT Z Z (aT Z Z (dM bFu Z Z M8 (aBl _ (q.2 - p.2) (rH p q c) (oE p q) (by omega) hn.1 hn.2 (by omega) (by omega)) (fun w9 M9=>(wq (aH (.tuple (List.toArray _)) Z) Z (wq (bJ (.int _ _) Z Z) Z (wq (bJ (.int _ _) Z Z) Z (bL Z Z (bL Z Z (aB (aC (aE (aA (wq (aD 0 cY Z) Z (wq (aK 0 (.int _ _) bB M9 Z Z Z) Z (aT Z Z (wq (bK nU underlying21 Z (kM _ (by omega) (by omega))) Z (wq (kJ Z Z (kM _ (by omega) (by omega))) Z ?_))))))))))))))))))
  refine wq (aD 1 cW Z) Z (wq (aK 0 (.int _ _) bB M9 Z Z Z) Z (aT Z Z (wq (bK nU underlying21 Z (kM _ (by omega) (by omega))) Z (wq (kJ Z Z (kM _ (by omega) (by omega))) Z (wq (cI [(0,.int _ _),(1,.int _ _)] _ fK Z Z) Z (bC 3 _ bP M9 Z Z Z Z Z (aP Z) Z (fun w10 M10=>(aB (aC (aR (fA 3 bP M10 Z Z Z ?_)))))))))))
  exact ⟨by unfold cN;first | (rw [if_pos h17];rfl) | (rw [if_neg h17];rfl),M10.below⟩
theorem uR (w:World) (a b:Pt) (ha:PtI a) (hb:PtI b) :
  Calls prog 175 #[(.agg (cR a++cR b).toArray)] w (Rb w (.int .u64 ((tB (b.1 - a.1) (b.2 - a.2):Nat):Int))):=by
 have hai:=ha.i32
 have hbi:=hb.i32
 have hax:=hai.x
 have hay:=hai.y
 have hbx:=hbi.x
 have hby:=hbi.y
 refine aI #[.tmp 2] 22 func175 Z results175 ntmps175 Z ?_
 have M0:=Mem.refl w
 refine aE (aA (bO (.agg (.mk _)) M0 Z Z Z (fun b1 w1 M1=>(bL Z Z (aB (aC (aE (aA (wq (aD 2 aAp Z) Z (wq (aD 0 cY Z) Z (wq (aK 0 (.int _ _) bB M1 Z Z Z) Z (wq (bK eF underlying2 Z (fU _ (by omega) (by omega))) Z (wq (aD 0 aAo Z) Z (wq (aD 0 cY Z) Z (wq (aK 0 (.int _ _) bB M1 Z Z Z) Z (wq (bK eF underlying2 Z (fU _ (by omega) (by omega))) Z (wq (gX Z Z (by omega) (by omega)) Z (wq (aD 2 aAp Z) Z (wq (aD 1 cW Z) Z ?_)))))))))))))))))))
 refine wq (aK 0 (.int _ _) bB M1 Z Z Z) Z (wq (bK eF underlying2 Z (fU _ (by omega) (by omega))) Z (wq (aD 0 aAo Z) Z (wq (aD 1 cW Z) Z (wq (aK 0 (.int _ _) bB M1 Z Z Z) Z (wq (bK eF underlying2 Z (fU _ (by omega) (by omega))) Z (wq (gX Z Z (by omega) (by omega)) Z (dM bFj Z Z M1 (wI _ (b.1 - a.1) (b.2 - a.2) (ha.inX hb) (ha.inY hb)) (fun w2 M2=>(bL Z Z (aB (aC (aR (cF (.int _ _) Z ?_)))))))))))))
 exact ⟨Z,M2.below⟩
theorem aOw (w:World) (ap aq bp bq:Pt) (h1:SgI ap aq) (h2:SgI bp bq) :
  Calls prog 196 #[(.agg (cR ap).toArray),(.agg (cR aq).toArray),(.agg (cR bp).toArray),(.agg (cR bq).toArray)] w (Rb w ((.agg (hJ ((oS ap aq bp bq).1,(oS ap aq bp bq).2.1)).toArray))):=by
 have hlen4:([(ap,cN bp bq ap),(aq,cN bp bq aq),(cN ap aq bp,bp),(cN ap aq bq,bq)]:List (Pt × Pt)).length=4:=rfl
 have hins:∀ z∈([(ap,cN bp bq ap),(aq,cN bp bq aq),(cN ap aq bp,bp),(cN ap aq bq,bq)]:List (Pt × Pt)),PtI z.1∧PtI z.2:=aUw h1 h2
 refine aI #[.cell 8 239] 59 func196 Z results196 ntmps196 Z ?_
 have M0:=Mem.refl w
 refine aE (aA (bO (.agg (.mk _)) M0 Z Z Z (fun b1 w1 M1=>(bO (.agg (.mk _)) M1 Z Z Z (fun b2 w2 M2=>(bO (.agg (.mk _)) M2 Z Z Z (fun b3 w3 M3=>(bO (.agg (.mk _)) M3 Z Z Z (fun b4 w4 M4=>(aO aGb M4 Z Z (fun b5 w5 M5=>(aB (aC (aE (gJ [(0,1),(1,1),(2,1),(3,1),(6,1),(7,1),(8,1),(9,1),(12,1),(13,1),(14,1),(16,1),(18,1),(19,1),(20,1),(22,1),(4,2),(5,0),(10,2),(11,0),(15,2),(17,0),(21,2),(23,0),(24,2),(25,0)] mixed M5 Z (by kernel_rfl) (fun w6 M6=>(bQ Z Z Z (aV 0 bP M6 Z Z Z) ?_)))))))))))))))))
 refine bQ Z Z Z (aV 2 bP M6 Z Z Z) (bQ Z Z Z (aV 3 bP M6 Z Z Z) (bQ Z Z Z (aV 0 bP M6 Z Z Z) (bQ Z Z Z (aV 1 bP M6 Z Z Z) (bQ Z Z Z (aV 2 bP M6 Z Z Z) (bQ Z Z Z (aV 3 bP M6 Z Z Z) (bQ Z Z Z (aV 1 bP M6 Z Z Z) (bQ Z Z Z (aV 0 bP M6 Z Z Z) (bQ Z Z Z (aV 1 bP M6 Z Z Z) (bQ Z Z Z (aV 2 bP M6 Z Z Z) (bQ Z Z Z (aV 2 bP M6 Z Z Z) (bQ Z Z Z (aV 0 bP M6 Z Z Z) (bQ Z Z Z (aV 1 bP M6 Z Z Z) ?_))))))))))))
 refine bQ Z Z Z (aV 3 bP M6 Z Z Z) (bQ Z Z Z (aV 3 bP M6 Z Z Z) (dO [false,false,false,false,false,false,false,false,false,false,false,false,true,true,true,false] Z (by kernel_rfl) (dM aNk Z Z M6 (pJ _ bp bq ap h2 h1.hp) (fun w7 M7 => ?_))))
 refine aB (aC ⟨(dS (bH Z (aV 3 bP M7 Z Z Z)) (dS (bH Z (aV 3 bP M7 Z Z Z)) (dS (bH Z (aV 1 bP M7 Z Z Z)) (dS (bH Z (aV 0 bP M7 Z Z Z)) (dS (bH Z (aV 2 bP M7 Z Z Z)) (dS (bH Z (aV 2 bP M7 Z Z Z)) (dS (bH Z (aV 1 bP M7 Z Z Z)) (dS (bH Z (aV 0 bP M7 Z Z Z)) (dS (bH Z (aV 1 bP M7 Z Z Z)) (dS (bH Z (aV 3 bP M7 Z Z Z)) (dS (bH Z (aV 2 bP M7 Z Z Z)) (dS (bH Z (aV 1 bP M7 Z Z Z)) (dS (bH Z (aV 0 bP M7 Z Z Z)) dI))))))))))))), ?_⟩)
 refine aX Z Z Z (fun _=>cI [(0,.agg (List.toArray _)),(1,.agg (List.toArray _))] _ xX Z Z) (dO [false,false,false,false,false,false,false,false,true,true,true,false,false] Z (by kernel_rfl) (dM aNk Z Z M7 (pJ _ bp bq aq h2 h1.hq) (fun w8 M8 => ?_)))
 refine aB (aC ⟨(dS (bH Z (aV 3 bP M8 Z Z Z)) (dS (bH Z (aV 3 bP M8 Z Z Z)) (dS (bH Z (aV 1 bP M8 Z Z Z)) (dS (bH Z (aV 0 bP M8 Z Z Z)) (dS (bH Z (aV 2 bP M8 Z Z Z)) (dS (bH Z (aV 2 bP M8 Z Z Z)) (dS (bH Z (aV 1 bP M8 Z Z Z)) (dS (bH Z (aV 0 bP M8 Z Z Z)) (dS (bH Z (aV 1 bP M8 Z Z Z)) (dS (bH Z (aV 0 bP M8 Z Z Z)) dI)))))))))), ?_⟩)
 refine aX Z Z Z (fun _=>cI [(0,.agg (List.toArray _)),(1,.agg (List.toArray _))] _ xX Z Z) (dO [false,false,false,false,false,true,true,true,false,false] Z (by kernel_rfl) (dM aNk Z Z M8 (pJ _ ap aq bp h1 h2.hp) (fun w9 M9 => ?_)))
 refine aB (aC ⟨(dS (bH Z (aV 3 bP M9 Z Z Z)) (dS (bH Z (aV 3 bP M9 Z Z Z)) (dS (bH Z (aV 1 bP M9 Z Z Z)) (dS (bH Z (aV 0 bP M9 Z Z Z)) (dS (bH Z (aV 2 bP M9 Z Z Z)) (dS (bH Z (aV 1 bP M9 Z Z Z)) (dS (bH Z (aV 0 bP M9 Z Z Z)) dI))))))), ?_⟩)
 refine aX Z Z Z (fun _=>cI [(0,.agg (List.toArray _)),(1,.agg (List.toArray _))] _ xX Z Z) (dO [false,true,true,true,false,false,false] Z (by kernel_rfl) (dM aNk Z Z M9 (pJ _ ap aq bq h1 h2.hq) (fun w10 M10 => ?_)))
 refine aB (aC ⟨(dS (bH Z (aV 3 bP M10 Z Z Z)) (dS (bH Z (aV 2 bP M10 Z Z Z)) (dS (bH Z (aV 1 bP M10 Z Z Z)) (dS (bH Z (aV 0 bP M10 Z Z Z)) dI)))), ?_⟩)
 refine aX Z Z Z (fun _=>cI [(0,.agg (List.toArray _)),(1,.agg (List.toArray _))] _ xX Z Z) (dO [true,true,true,true] Z (by kernel_rfl) (bV [.agg (List.toArray _),.agg (List.toArray _),.agg (List.toArray _),.agg (List.toArray _)] [hJ (ap,cN bp bq ap),hJ (aq,cN bp bq aq),hJ (cN ap aq bp,bp),hJ (cN ap aq bq,bq)] Z aZt M10 Z Z Z Z (cO Z) (by decide) (fun b11 w11 M11 => ?_)))
 refine aB (aC ⟨dI, ?_⟩)
 have hlit36:=lV (T:=239) (b:=b11) (nn:=4) (([(ap,cN bp bq ap),(aq,cN bp bq aq),(cN ap aq bp,bp),(cN ap aq bq,bq)]:List (Pt × Pt)).map hJ) (bOi _) rfl (by decide)
 refine aX Z Z Z (fun _=>aJ (.slice _ _ _) Z) (bS (aC (aE (aA (dJ Z Z (wq (bG (0) aZt Z Z Z ((hlit36.rd M11 (aN (i:=5) Z)).below_len (aG hJ (show ([(ap,cN bp bq ap),(aq,cN bp bq aq),(cN ap aq bp,bp),(cN ap aq bq,bq)]:List (Pt × Pt))[0]? = some (ap,cN bp bq ap) from Z))) ((hlit36.rd M11 (aN (i:=5) Z)).someK (aG hJ (show ([(ap,cN bp bq ap),(aq,cN bp bq aq),(cN ap aq bp,bp),(cN ap aq bq,bq)]:List (Pt × Pt))[0]? = some (ap,cN bp bq ap) from Z)))) Z ?_))))))
 refine wq (dQ _ nW (hlit36.rd M11 (aN (i:=5) Z)) (aG hJ (show ([(ap,cN bp bq ap),(aq,cN bp bq aq),(cN ap aq bp,bp),(cN ap aq bq,bq)]:List (Pt × Pt))[0]? = some (ap,cN bp bq ap) from Z)) Z) Z (aO aGb M11 Z Z (fun b12 w12 M12=>(bC 6 _ nW M12 Z Z Z Z Z (aP Z) Z (fun w13 M13=>(aB (aC (aE (aE (aA (bL Z Z (aB (aC (aS (dK (σ:=Nat × Ch) [8,9,10] (fun (i,s)=>[(11,.int .i64 (i:Int))]) (fun (i,s) w'=>(1≤i∧i≤4∧s=vP (([(ap,cN bp bq ap),(aq,cN bp bq aq),(cN ap aq bp,bp),(cN ap aq bq,bq)]:List (Pt × Pt)).take i)∧ChL s)∧Mem w [] [(some b1,bc (cR ap) 37),(some b2,bc (cR aq) 37),(some b3,bc (cR bp) 37),(some b4,bc (cR bq) 37),(some b5,bc [.int .i32 0,.int .i32 0,.int .i32 0,.int .i32 0] 239),(some b11,bc ((([(ap,cN bp bq ap),(aq,cN bp bq aq),(cN ap aq bp,bp),(cN ap aq bq,bq)]:List (Pt × Pt)).map hJ).flatten) 239),(some b12,bc (hJ (s.1,s.2.1)) 239)] w') (fun (i,s)=>4 - i) (1,vP [(ap,cN bp bq ap)]) (bI Z eC) (⟨⟨by omega,by omega,Z,(aLe h1.hp (fM h2)).2⟩,by rw [(aLe h1.hp (fM h2)).1];exact M13⟩) ?_))))))))))))))
 rintro ⟨i,s⟩ ρ14 w14 ⟨⟨hi1,hi4,hs,hL⟩,hM14⟩
 refine aE (aE (aA (aT Z Z (dJ Z Z (wq (bW underlying315 Z) Z (aL 42 (.int .i64 4) Z (cV Z Z Z Z (aB (aC ?_)))))))))
 refine aW Z (fun h43 => ?_) (fun h43 => ?_)
 ·obtain ⟨z,hz⟩:=cG (xs:=([(ap,cN bp bq ap),(aq,cN bp bq aq),(cN ap aq bp,bp),(cN ap aq bq,bq)]:List (Pt × Pt))) (k:=i) hlen4 (by omega)
  have hzi:=hins z (List.mem_of_getElem? hz)
  refine aM (aC (aE (aS (aE (kY [(0,0),(1,0),(2,1),(3,1),(5,1),(4,2),(6,2),(7,0)] mixed Z (by kernel_rfl) (fun w15 hb15 hh15 => ?_))))))
  have M15:=hM14.drew hb15 hh15
  refine kB Z Z Z (eG Z Z Z (bQ Z Z Z (bG (i) aZt Z Z Z ((hlit36.rd M15 (aN (i:=5) Z)).below_len (aG hJ hz)) ((hlit36.rd M15 (aN (i:=5) Z)).someK (aG hJ hz))) (bQ Z Z Z (dQ _ nW (hlit36.rd M15 (aN (i:=5) Z)) (aG hJ hz) Z) (bQ Z Z Z (aV 6 nW M15 Z Z Z) (dO [false,true,true] Z (by kernel_rfl) (dM aUn Z Z M15 (uR _ z.1 z.2 hzi.1 hzi.2) (fun w16 M16 => ?_)))))))
  refine aB (aC ⟨(dS (bH Z (aV 6 nW M16 Z Z Z)) dI), ?_⟩)
  refine dO [true] Z (by kernel_rfl) (dM aUn Z Z M16 (uR _ s.1 s.2.1 hL.i.a hL.i.b) (fun w17 M17 => ?_))
  refine aB (aC ⟨dI, ?_⟩)
  refine aX Z Z Z (fun _=>cH (.bool (decide _)) Z Z Z) (bS (aC ?_))
  refine aW Z (fun h53 => ?_) (fun h53 => ?_)
  ·refine aA (dJ Z Z (aT Z Z (wq (bG (i) aZt Z Z Z ((hlit36.rd M17 (aN (i:=5) Z)).below_len (aG hJ hz)) ((hlit36.rd M17 (aN (i:=5) Z)).someK (aG hJ hz))) Z (wq (dQ _ nW (hlit36.rd M17 (aN (i:=5) Z)) (aG hJ hz) Z) Z (bC 6 _ nW M17 Z Z Z Z Z (aP Z) Z (fun w18 M18=>(aB (cS (aC (aA (aT Z Z (wq (bE Z Z (by omega) (by omega)) Z (bL Z Z (aB ?_))))))))))))))
   refine bU (i+1,gS s z.1 z.2) (bI Z eC) (bX Z (bX Z (bX Z gR))) ?_ ?_
   ·exact ⟨⟨by omega,by omega,by rw [aDx hz,hs],hL.step hzi.1 hzi.2⟩,by unfold gS;rw [if_pos (by rw [hL.l];omega)];exact M18⟩
   ·(show 4 - (i+1) < 4 - i;omega)
  ·refine aM (cS (aC (aA (aT Z Z (wq (bE Z Z (by omega) (by omega)) Z (bL Z Z (aB ?_)))))))
   refine bU (i+1,gS s z.1 z.2) (bI Z eC) (bX Z (bX Z (bX Z gR))) ?_ ?_
   ·exact ⟨⟨by omega,by omega,by rw [aDx hz,hs],hL.step hzi.1 hzi.2⟩,by unfold gS;rw [if_neg (by rw [hL.l];omega)];exact M17⟩
   ·(show 4 - (i+1) < 4 - i;omega)
 ·obtain rfl:i=4:=by omega
  refine cM (cZ (dF (eL (aC (aE (aA (wq (aV 6 nW hM14 Z Z Z) Z (bC 4 _ nW hM14 Z Z Z Z Z (aP Z) Z (fun w19 M19=>(aB (aC (aR (fA 4 nW M19 Z Z Z ?_)))))))))))))
  exact ⟨by rw [hs];rfl,M19.below⟩
theorem aOx (w:World) (a b:Body) (ha:Okb a) (hb:Okb b) :
  Calls prog 174 #[(.agg (aF a).toArray),(.agg (aF b).toArray)] w (Rb w ((.agg (hJ ((qK a b).1,(qK a b).2.1)).toArray))):=by
 refine aI #[.cell 4 239] 14 func174 Z results174 ntmps174 Z ?_
 have M0:=Mem.refl w
 refine aE (aA (bO (.agg (.mk _)) M0 Z Z Z (fun b1 w1 M1=>(bO (.agg (.mk _)) M1 Z Z Z (fun b2 w2 M2=>(aO aGb M2 Z Z (fun b3 w3 M3=>(aB (aC (aE (gJ [(0,1),(2,1),(4,1),(6,1),(1,2),(3,2),(5,2),(7,2),(8,2),(9,2)] mixed M3 Z (by kernel_rfl) (fun w4 M4=>(bQ Z Z Z (aV 0 bR M4 Z Z Z) (bQ Z Z Z (aV 0 bR M4 Z Z Z) (bQ Z Z Z (aV 1 bR M4 Z Z Z) (bQ Z Z Z (aV 1 bR M4 Z Z Z) (dO [false,false,false,true] Z (by kernel_rfl) (dM bFh Z Z M4 (aEs _ a ha) (fun w5 M5 => ?_)))))))))))))))))))
 refine aB (aC ⟨(dS (bH Z (aV 1 bR M5 Z Z Z)) (dS (bH Z (aV 1 bR M5 Z Z Z)) (dS (bH Z (aV 0 bR M5 Z Z Z)) dI))), ?_⟩)
 refine dO [false,false,true] Z (by kernel_rfl) (dM bFi Z Z M5 (aBo _ a ha) (fun w6 M6 => ?_))
 refine aB (aC ⟨(dS (bH Z (aV 1 bR M6 Z Z Z)) (dS (bH Z (aV 1 bR M6 Z Z Z)) dI)), ?_⟩)
 refine dO [false,true] Z (by kernel_rfl) (dM bFh Z Z M6 (aEs _ b hb) (fun w7 M7 => ?_))
 refine aB (aC ⟨(dS (bH Z (aV 1 bR M7 Z Z Z)) dI), ?_⟩)
 refine dO [true] Z (by kernel_rfl) (dM bFi Z Z M7 (aBo _ b hb) (fun w8 M8 => ?_))
 refine aB (aC ⟨dI, ?_⟩)
 refine dO [] Z (by kernel_rfl) (dM bSy Z Z M8 (aOw _ (aCn a) (aCo a) (aCn b) (aCo b) (rW ha) (rW hb)) (fun w9 M9 => ?_))
 refine aB (aC ⟨dI, ?_⟩)
 refine dO [] Z (by kernel_rfl) (bC 2 _ nW M9 Z Z Z Z Z (aP Z) Z (fun w10 M10 => ?_))
 refine aB (aC ⟨dI, ?_⟩)
 refine bS (aC (aR (fA 2 nW M10 Z Z Z ?_)))
 exact ⟨Z,M10.below⟩
theorem aMj (w:World) (a b:Body) (ha:Okb a) (hb:Okb b) (hk:¬ b.key < a.key) :
  Calls prog 154 #[(.agg (aF a).toArray),(.agg (aF b).toArray)] w (Rb w (.tuple #[.agg (aQu (lL a b)).toArray,.bool (lL a b).isSome])):=by
 have hch:=aCj ha hb
 have hd:=bGl ha hb
 have hl:=zN hd.1 hd.2
 have hra:=ha.r
 have hrb:=hb.r
 have hsn:(a.radius+b.radius).natAbs*(a.radius+b.radius).natAbs≤70368744177664:=by have:=bKi ha hb;rw [← Int.natAbs_mul_self] at this;omega
 have hax:=hch.a.i32.x
 have hay:=hch.a.i32.y
 have hbx:=hch.b.i32.x
 have hby:=hch.b.i32.y
 refine aI #[.cell 4 211,.tmp 5] 72 func154 Z results154 ntmps154 Z ?_
 have M0:=Mem.refl w
 refine aE (aA (bO (.agg (.mk _)) M0 Z Z Z (fun b1 w1 M1=>(bO (.agg (.mk _)) M1 Z Z Z (fun b2 w2 M2=>(aO oK M2 Z Z (fun b3 w3 M3=>(wq (aJ (.bool false) Z) Z (aB (aC (aE (aE (aA (wq (aD 0 dZ Z) Z (wq (aK 1 (.int _ _) bZ M3 Z Z Z) Z (wq (aD 0 dZ Z) Z (wq (aK 0 (.int _ _) bZ M3 Z Z Z) Z (cV Z Z Z Z (nP 14 Z (by omega) (aB (aC (cB Z (aM (aC (aE (aA (wq (aV 0 bR M3 Z Z Z) Z ?_)))))))))))))))))))))))))))
 refine wq (aV 1 bR M3 Z Z Z) Z (dM bSo Z Z M3 (aOx _ a b ha hb) (fun w4 M4=>(aL 22 (.agg (cR (qK a b).1++cR (qK a b).2.1).toArray) Z (aO aGb M4 Z Z (fun b5 w5 M5=>(bC 3 _ nW M5 Z Z Z Z Z (aP Z) Z (fun w6 M6=>(aB (aC (aE (aA (wq (aD 1 mU Z) Z (wq (aK 0 (.int _ _) bB M6 Z Z Z) Z (wq (bK eF underlying2 Z (fU _ (by omega) (by omega))) Z (wq (aD 1 mU Z) Z (wq (aK 1 (.int _ _) bB M6 Z Z Z) Z (wq (bK eF underlying2 Z (fU _ (by omega) (by omega))) Z ?_)))))))))))))))))
 refine wq (bE Z Z (by omega) (by omega)) Z (bL Z Z (aB (aC (aE (aE (aA (wq (aV 3 nW M6 Z Z Z) Z (dM aUn Z Z M6 (uR _ (qK a b).1 (qK a b).2.1 hch.a hch.b) (fun w7 M7=>(aL 31 (.int .u64 ((tB (sT (qK a b)) (uH (qK a b)):Nat):Int)) Z (aT Z Z (wq (dL nU underlying237 Z) Z (aL 33 (.int .u64 (((a.radius+b.radius).natAbs:Nat):Int)) (iE (by rw [iH];omega)) (aT Z Z (wq (dL nU underlying237 Z) Z (aL 35 (.int .u64 (((a.radius+b.radius).natAbs:Nat):Int)) (iE (by rw [iH];omega)) ?_))))))))))))))))
 refine wq (cH (.int _ _) Z Z Z) Z (aL 36 (.int .u64 (((a.radius+b.radius).natAbs*(a.radius+b.radius).natAbs:Nat):Int)) (iE (mS _ _ (by omega))) (cV Z Z Z Z (aB (aC ?_))))
 refine aW Z (fun h37 => ?_) (fun h37 => ?_)
 ·refine aE (aA (wq (cI [] _ xW Z Z) Z (bC 2 _ fL M7 Z Z Z Z Z (aP Z) Z (fun w8 M8=>(wq (aJ (.bool false) Z) Z (aB (aC (aR (cK (vB (v2:=.bool false) 2 fL M8 Z Z Z Z ?_))))))))))
  exact ⟨by unfold lL;first | (rw [if_pos (by omega)];rfl) | (rw [if_neg (by omega)];rfl),M8.below⟩
 ·refine aM (aC (aE (aA (wq (aD 2 aAp Z) Z (wq (aD 0 cY Z) Z (wq (aK 3 (.int _ _) bB M7 Z Z Z) Z (wq (bK eF underlying2 Z (fU _ (by omega) (by omega))) Z (wq (aD 0 aAo Z) Z (wq (aD 0 cY Z) Z (wq (aK 3 (.int _ _) bB M7 Z Z Z) Z (wq (bK eF underlying2 Z (fU _ (by omega) (by omega))) Z (wq (gX Z Z (by omega) (by omega)) Z (aL 47 (.int .i64 (sT (qK a b))) Z (bL Z Z (aB (aC (aE (aA (wq (aD 2 aAp Z) Z (wq (aD 1 cW Z) Z ?_))))))))))))))))))))
  refine wq (aK 3 (.int _ _) bB M7 Z Z Z) Z (wq (bK eF underlying2 Z (fU _ (by omega) (by omega))) Z (wq (aD 0 aAo Z) Z (wq (aD 1 cW Z) Z (wq (aK 3 (.int _ _) bB M7 Z Z Z) Z (wq (bK eF underlying2 Z (fU _ (by omega) (by omega))) Z (wq (gX Z Z (by omega) (by omega)) Z (aL 56 (.int .i64 (uH (qK a b))) Z (bL Z Z (aB (aC (aE (gJ [(0,0),(1,1),(2,0),(3,1),(4,0),(5,0),(6,0),(8,0),(9,0),(10,0),(7,2),(11,2),(12,0),(13,0),(14,0),(15,2),(16,0)] mixed M7 Z (by kernel_rfl) (fun w9 M9 => ?_)))))))))))))
  refine aX Z Z Z (fun _=>aD 0 dZ Z) (bQ Z Z Z (aK 0 (.int _ _) bZ M9 Z Z Z) (aX Z Z Z (fun _=>aD 0 dZ Z) (bQ Z Z Z (aK 1 (.int _ _) bZ M9 Z Z Z) (aX Z Z Z (fun _=>cI [(0,.int _ _),(1,.int _ _)] _ aDn Z Z) (eG Z Z Z (eG Z Z Z (eG Z Z Z (eG Z Z Z (eG Z Z Z (dO [false,false] Z (by kernel_rfl) (dM bSp Z Z M9 (aWj _ (sT (qK a b)) (uH (qK a b)) hd.1 hd.2) (fun w10 M10 => ?_))))))))))))
  refine aB (aC ⟨(dS (bH Z (aK 1 (.int _ _) bZ M10 Z Z Z)) (dS (bH Z (aK 0 (.int _ _) bZ M10 Z Z Z)) dI)), ?_⟩)
  refine dO [false,false] Z (by kernel_rfl) (dM aUo Z Z M10 (uQ _ (sT (qK a b)) (uH (qK a b)) hd.1 hd.2) (fun w11 M11 => ?_))
  refine aB (aC ⟨(dS (bH Z (aK 1 (.int _ _) bZ M11 Z Z Z)) (dS (bH Z (aK 0 (.int _ _) bZ M11 Z Z Z)) dI)), ?_⟩)
  refine aX Z Z Z (fun _=>gX Z Z (by omega) (by omega)) (aX Z Z Z (fun _=>dL nU underlying21 Z) (aX Z Z Z (fun _=>cI [(0,.agg (List.toArray _)),(1,.agg (List.toArray _)),(2,.int _ _)] _ xW Z Z) (dO [true,true] Z (by kernel_rfl) (bC 2 _ fL M11 Z Z Z Z Z (aP Z) Z (fun w12 M12 => ?_)))))
  refine aB (aC ⟨dI, ?_⟩)
  refine aX Z Z Z (fun _=>aJ (.bool true) Z) (bS (aC (aR (vB (v2:=.bool true) 2 fL M12 Z Z Z Z ?_))))
  exact ⟨by unfold lL;first | (rw [if_pos (by omega)];rfl) | (rw [if_neg (by omega)];rfl),M12.below⟩
theorem bCr (w:World) (a b:Body) (ha:Okb a) (hb:Okb b) (hk:b.key < a.key) :
  Calls prog 154 #[(.agg (aF a).toArray),(.agg (aF b).toArray)] w (Rb w (.tuple #[.agg (aQu (lL b a)).toArray,.bool (lL b a).isSome])):=by
 refine aI #[.cell 4 211,.tmp 5] 72 func154 Z results154 ntmps154 Z ?_
 have M0:=Mem.refl w
 refine aE (aA (bO (.agg (.mk _)) M0 Z Z Z (fun b1 w1 M1=>(bO (.agg (.mk _)) M1 Z Z Z (fun b2 w2 M2=>(aO oK M2 Z Z (fun b3 w3 M3=>(wq (aJ (.bool false) Z) Z (aB (aC (aE (aE (aA (wq (aD 0 dZ Z) Z (wq (aK 1 (.int _ _) bZ M3 Z Z Z) Z (wq (aD 0 dZ Z) Z (wq (aK 0 (.int _ _) bZ M3 Z Z Z) Z (cV Z Z Z Z (jU 14 Z (by omega) (aB (aC (cE Z (aE (aA (wq (aV 1 bR M3 Z Z Z) Z ?_)))))))))))))))))))))))))
 refine wq (aV 0 bR M3 Z Z Z) Z (dM aUm Z Z M3 (aMj _ b a hb ha (by omega)) (fun w4 M4=>(wq (bJ (.agg (.mk _)) Z Z) Z (wq (bJ (.bool _) Z Z) Z (bC 2 _ fL M4 Z Z Z Z Z (aP Z) Z (fun w5 M5=>(wq (aJ (.bool _) Z) Z (aB (aC (aR (cK (vB (v2:=.bool _) 2 fL M5 Z Z Z Z ?_))))))))))))
 exact ⟨Z,M5.below⟩
theorem aSu (w:World) (a b:Body) (ha:Okb a) (hb:Okb b):Calls prog 154 #[(.agg (aF a).toArray),(.agg (aF b).toArray)] w (Rb w (.tuple #[.agg (aQu (mH a b)).toArray,.bool (mH a b).isSome])):=by
 unfold mH
 by_cases hk:b.key < a.key
 ·rw [if_pos hk];exact bCr w a b ha hb hk
 ·rw [if_neg hk];exact aMj w a b ha hb hk
theorem aFo (w:World) (s:Ch) (x y:Pt) (ba bb bl:Nat) (hx:PtI x) (hy:PtI y) (hO:Own [(some ba,bc (cR s.1) 37),(some bb,bc (cR s.2.1) 37),(some bl,bc [.int .u64 (s.2.2:Int)] 237)] w) :
  Calls prog 276 #[(.agg (cR x).toArray),(.agg (cR y).toArray),.pointer (some ⟨bl,0,none⟩),.pointer (some ⟨ba,0,none⟩),.pointer (some ⟨bb,0,none⟩)] w (gY (fun v w'=>v=.tuple #[]∧Mem w (cD [(some ba,bc (cR s.1) 37),(some bb,bc (cR s.2.1) 37),(some bl,bc [.int .u64 (s.2.2:Int)] 237)]) [(some ba,bc (cR (gS s x y).1) 37),(some bb,bc (cR (gS s x y).2.1) 37),(some bl,bc [.int .u64 ((gS s x y).2.2:Int)] 237)] w')):=by
 refine aI #[] 20 func276 Z results276 ntmps276 Z ?_
 have M0:=hO.mem
 refine aE (aA (bO (.agg (.mk _)) M0 Z Z Z (fun b1 w1 M1=>(bO (.agg (.mk _)) M1 Z Z Z (fun b2 w2 M2=>(aB (aC (aE (aA (wq (aV 3 bP M2 Z Z Z) Z (wq (aV 4 bP M2 Z Z Z) Z (dM aGm Z Z M2 (wS _ x y hx.i32 hy.i32) (fun w3 M3=>(wq (bJ (.int _ _) Z Z) Z (wq (bJ (.int _ _) Z Z) Z (dM aUp Z Z M3 (uX _ (y.1 - x.1) (y.2 - x.2) (hx.inX hy) (hx.inY hy)) (fun w4 M4=>(bL Z Z (aB (aC (aE (aA (aT Z Z (wq (aK 2 (.int _ _) cX M4 Z Z Z) Z (cV Z Z Z Z ?_)))))))))))))))))))))))))
 refine aB (aC ?_)
 refine aW Z (fun h16 => ?_) (fun h16 => ?_)
 ·refine gJ [(0,1),(1,1),(2,0),(3,2),(4,2),(5,2)] mixed M4 Z (by kernel_rfl) (fun w5 M5=>(bQ Z Z Z (aV 3 bP M5 Z Z Z) (bQ Z Z Z (aV 4 bP M5 Z Z Z) (eG Z Z Z (dO [false,true] Z (by kernel_rfl) (bC 0 _ bP M5 Z Z Z Z Z (aP Z) Z (fun w6 M6 => ?_)))))))
  refine aB (aC ⟨(dS (bH Z (aV 4 bP M6 Z Z Z)) dI), ?_⟩)
  refine dO [true] Z (by kernel_rfl) (bC 1 _ bP M6 Z Z Z Z Z (aP Z) Z (fun w7 M7 => ?_))
  refine aB (aC ⟨dI, ?_⟩)
  refine dO [] Z (by kernel_rfl) (dA 2 (.int _ _) cX M7 Z Z Z Z Z Z (fun w8 M8 => ?_))
  refine aB (aC ⟨dI, ?_⟩)
  refine bS (lF ?_)
  exact ⟨Z,by unfold gS;first | (rw [if_pos (by omega)];exact M8.keep [true,true,true,false,false]) | (rw [if_neg (by omega)];exact M8.keep [true,true,true,false,false])⟩
 ·refine aM (lF ?_)
  exact ⟨Z,by unfold gS;first | (rw [if_pos (by omega)];exact M4.keep [true,true,true,false,false]) | (rw [if_neg (by omega)];exact M4.keep [true,true,true,false,false])⟩
theorem aXd (w:World) (ap aq bp bq:Pt) (h1:SgI ap aq) (h2:SgI bp bq) :
  Calls prog 259 #[(.agg (cR ap).toArray),(.agg (cR aq).toArray),(.agg (cR bp).toArray),(.agg (cR bq).toArray)] w (Rb w (.tuple #[(.agg (cR (oS ap aq bp bq).1).toArray),(.agg (cR (oS ap aq bp bq).2.1).toArray),.int .u64 ((oS ap aq bp bq).2.2:Int)])):=by
 refine aI #[.cell 8 37,.cell 9 37,.cell 10 237] 48 func259 Z results259 ntmps259 Z ?_
 have M0:=Mem.refl w
 refine aE (aA (bO (.agg (.mk _)) M0 Z Z Z (fun b1 w1 M1=>(bO (.agg (.mk _)) M1 Z Z Z (fun b2 w2 M2=>(bO (.agg (.mk _)) M2 Z Z Z (fun b3 w3 M3=>(bO (.agg (.mk _)) M3 Z Z Z (fun b4 w4 M4=>(aO jQ M4 Z Z (fun b5 w5 M5=>(aO jQ M5 Z Z (fun b6 w6 M6=>(aO bOy M6 Z Z (fun b7 w7 M7=>(aB (aC (aE (aA (dA 6 (.int _ _) cX M7 Z Z Z Z Z Z (fun w8 M8=>(aB (aC (aE (aA ?_)))))))))))))))))))))))))
 obtain ⟨s,hS⟩:∃ z,z=ch0:=⟨_,rfl⟩
 have hC:ChI s:=by rw [hS];exact bGk
 have M9:Mem _ _ [_,_,_,_,(some b5,bc (cR ch0.1) 37),(some b6,bc (cR ch0.2.1) 37),(some b7,bc [.int .u64 (ch0.2.2:Int)] 237)] _:=M8
 rw [← hS] at M9
 refine wq (eB [] [.pointer _,.pointer _,.pointer _] Z Z) Z (wq (aJ (.func _ _ _) Z) Z (aB (aC (aE (aE (aA (wq (aV 0 bP M9 Z Z Z) Z (wq (aV 1 bP M9 Z Z Z) Z (wq (wG [.agg (List.toArray _),.agg (List.toArray _)] aCd bAh Z Z (cO Z)) Z (aT Z Z (aB (aC (aS (kC 3 (gD (aE (aA (cV Z Z Z Z (jU 21 Z (by first | decide | omega) (aB (aC (aE (cE Z (aM (aC (aE (aS (aE (aA (wq (sW 0 _ aCd bP Z Z (by decide) (by decide) Z Z) Z ?_))))))))))))))))))))))))))))))
 refine aO jQ M9 Z Z (fun b10 w10 M10=>(bC 7 _ bP M10 Z Z Z Z Z (aP Z) Z (fun w11 M11=>(aB (aC (gJ [(0,0),(1,1),(2,1),(3,1),(4,1),(5,2),(6,2)] mixed M11 Z (by kernel_rfl) (fun w12 M12=>(aX Z Z Z (fun _=>aH (.func _ _ _) Z) (bQ Z Z Z (aV 7 bP M12 Z Z Z) (bQ Z Z Z (aV 2 bP M12 Z Z Z) (bQ Z Z Z (aV 3 bP M12 Z Z Z) (bQ Z Z Z (aV 7 bP M12 Z Z Z) (dO [true,true,true,false] Z (by kernel_rfl) (dM aNo Z Z M12 (pI _ bp bq ap h2 h1.hp) (fun w13 M13 => ?_)))))))))))))))
 refine aB (aC ⟨(dS (bH Z (aV 7 bP M13 Z Z Z)) dI), ?_⟩)
 refine dO [true] Z (by kernel_rfl) (eJ aNn Z Z (aFo _ s ap (cN bp bq ap) _ _ _ h1.hp (fM h2) (M13.ownSeg 4 3)) ?_)
 rintro v14 w14 ⟨rfl,hM14⟩
 have M14:Mem _ _ [_,_,_,_,_,_,_,_] _:=M13.seg 4 3 hM14
 obtain ⟨s,hs⟩:∃ z,z=gS s ap (cN bp bq ap):=⟨_,rfl⟩
 rw [← hs] at M14
 replace hC:=hC.step (x:=ap) (y:=(cN bp bq ap)) h1.hp (fM h2)
 rw [← hs] at hC
 replace hS:=hs.trans (congrArg (fun z=>gS z ap (cN bp bq ap)) hS)
 refine aB (aC ⟨dI, ?_⟩)
 refine bS (cS (aC (aA (wq (bE Z Z (by first | decide | omega) (by first | decide | omega)) Z (aL 30 (.int .i64 1) (iE (by first | decide | omega)) (aT Z Z (aB (aC (gD (aE (aA (cV Z Z Z Z (jU 21 Z (by first | decide | omega) (aB (aC (aE (cE Z (aM (aC (aE (aS (aE (aA (wq (sW 1 _ aCd bP Z Z (by decide) (by decide) Z Z) Z (aO jQ M14 Z Z (fun b15 w15 M15 => ?_))))))))))))))))))))))))))
 refine bC 8 _ bP M15 Z Z Z Z Z (aP Z) Z (fun w16 M16=>(aB (aC (gJ [(0,0),(1,1),(2,1),(3,1),(4,1),(5,2),(6,2)] mixed M16 Z (by kernel_rfl) (fun w17 M17=>(aX Z Z Z (fun _=>aH (.func _ _ _) Z) (bQ Z Z Z (aV 8 bP M17 Z Z Z) (bQ Z Z Z (aV 2 bP M17 Z Z Z) (bQ Z Z Z (aV 3 bP M17 Z Z Z) (bQ Z Z Z (aV 8 bP M17 Z Z Z) (dO [true,true,true,false] Z (by kernel_rfl) (dM aNo Z Z M17 (pI _ bp bq aq h2 h1.hq) (fun w18 M18 => ?_)))))))))))))
 refine aB (aC ⟨(dS (bH Z (aV 8 bP M18 Z Z Z)) dI), ?_⟩)
 refine dO [true] Z (by kernel_rfl) (eJ aNn Z Z (aFo _ s aq (cN bp bq aq) _ _ _ h1.hq (fM h2) (M18.ownSeg 4 3)) ?_)
 rintro v19 w19 ⟨rfl,hM19⟩
 have M19:Mem _ _ [_,_,_,_,_,_,_,_,_] _:=M18.seg 4 3 hM19
 obtain ⟨s,hs⟩:∃ z,z=gS s aq (cN bp bq aq):=⟨_,rfl⟩
 rw [← hs] at M19
 replace hC:=hC.step (x:=aq) (y:=(cN bp bq aq)) h1.hq (fM h2)
 rw [← hs] at hC
 replace hS:=hs.trans (congrArg (fun z=>gS z aq (cN bp bq aq)) hS)
 refine aB (aC ⟨dI, ?_⟩)
 refine bS (cS (aC (aA (wq (bE Z Z (by first | decide | omega) (by first | decide | omega)) Z (aL 30 (.int .i64 2) (iE (by first | decide | omega)) (aT Z Z (aB (aC (gD (aE (aA (cV Z Z Z Z (nP 21 Z (by first | decide | omega) (aB (aC (aE (cB Z (cM (cZ (cZ (eL ?_)))))))))))))))))))))
 refine aC (aE (aE (aA (wq (aV 2 bP M19 Z Z Z) Z (wq (aV 3 bP M19 Z Z Z) Z (wq (wG [.agg (List.toArray _),.agg (List.toArray _)] aCd bAh Z Z (cO Z)) Z (aT Z Z (aB (aC (aS (kC 3 (gD (aE (aA (cV Z Z Z Z (jU 35 Z (by first | decide | omega) (aB (aC (aE (cE Z (aM (aC (aE (aS (aE (aA (wq (sW 0 _ aCd bP Z Z (by decide) (by decide) Z Z) Z (aO jQ M19 Z Z (fun b20 w20 M20=>(bC 9 _ bP M20 Z Z Z Z Z (aP Z) Z (fun w21 M21 => ?_)))))))))))))))))))))))))))))))
 refine aB (aC (gJ [(0,0),(1,1),(2,1),(3,1),(5,1),(4,2),(6,2)] mixed M21 Z (by kernel_rfl) (fun w22 M22=>(aX Z Z Z (fun _=>aH (.func _ _ _) Z) (bQ Z Z Z (aV 0 bP M22 Z Z Z) (bQ Z Z Z (aV 1 bP M22 Z Z Z) (bQ Z Z Z (aV 9 bP M22 Z Z Z) (bQ Z Z Z (aV 9 bP M22 Z Z Z) (dO [false,true,true,true] Z (by kernel_rfl) (dM aNo Z Z M22 (pI _ ap aq bp h1 h2.hp) (fun w23 M23 => ?_)))))))))))
 refine aB (aC ⟨(dS (bH Z (aV 9 bP M23 Z Z Z)) dI), ?_⟩)
 refine dO [true] Z (by kernel_rfl) (eJ aNn Z Z (aFo _ s (cN ap aq bp) bp _ _ _ (fM h1) h2.hp (M23.ownSeg 4 3)) ?_)
 rintro v24 w24 ⟨rfl,hM24⟩
 have M24:Mem _ _ [_,_,_,_,_,_,_,_,_,_] _:=M23.seg 4 3 hM24
 obtain ⟨s,hs⟩:∃ z,z=gS s (cN ap aq bp) bp:=⟨_,rfl⟩
 rw [← hs] at M24
 replace hC:=hC.step (x:=(cN ap aq bp)) (y:=bp) (fM h1) h2.hp
 rw [← hs] at hC
 replace hS:=hs.trans (congrArg (fun z=>gS z (cN ap aq bp) bp) hS)
 refine aB (aC ⟨dI, ?_⟩)
 refine bS (cS (aC (aA (wq (bE Z Z (by first | decide | omega) (by first | decide | omega)) Z (aL 44 (.int .i64 1) (iE (by first | decide | omega)) (aT Z Z (aB (aC (gD (aE (aA (cV Z Z Z Z (jU 35 Z (by first | decide | omega) (aB (aC (aE (cE Z (aM (aC (aE (aS (aE (aA (wq (sW 1 _ aCd bP Z Z (by decide) (by decide) Z Z) Z (aO jQ M24 Z Z (fun b25 w25 M25 => ?_))))))))))))))))))))))))))
 refine bC 10 _ bP M25 Z Z Z Z Z (aP Z) Z (fun w26 M26=>(aB (aC (gJ [(0,0),(1,1),(2,1),(3,1),(5,1),(4,2),(6,2)] mixed M26 Z (by kernel_rfl) (fun w27 M27=>(aX Z Z Z (fun _=>aH (.func _ _ _) Z) (bQ Z Z Z (aV 0 bP M27 Z Z Z) (bQ Z Z Z (aV 1 bP M27 Z Z Z) (bQ Z Z Z (aV 10 bP M27 Z Z Z) (bQ Z Z Z (aV 10 bP M27 Z Z Z) (dO [false,true,true,true] Z (by kernel_rfl) (dM aNo Z Z M27 (pI _ ap aq bq h1 h2.hq) (fun w28 M28 => ?_)))))))))))))
 refine aB (aC ⟨(dS (bH Z (aV 10 bP M28 Z Z Z)) dI), ?_⟩)
 refine dO [true] Z (by kernel_rfl) (eJ aNn Z Z (aFo _ s (cN ap aq bq) bq _ _ _ (fM h1) h2.hq (M28.ownSeg 4 3)) ?_)
 rintro v29 w29 ⟨rfl,hM29⟩
 have M29:Mem _ _ [_,_,_,_,_,_,_,_,_,_,_] _:=M28.seg 4 3 hM29
 obtain ⟨s,hs⟩:∃ z,z=gS s (cN ap aq bq) bq:=⟨_,rfl⟩
 rw [← hs] at M29
 replace hC:=hC.step (x:=(cN ap aq bq)) (y:=bq) (fM h1) h2.hq
 rw [← hs] at hC
 replace hS:=hs.trans (congrArg (fun z=>gS z (cN ap aq bq) bq) hS)
 refine aB (aC ⟨dI, ?_⟩)
 refine bS (cS (aC (aA (wq (bE Z Z (by first | decide | omega) (by first | decide | omega)) Z (aL 44 (.int .i64 2) (iE (by first | decide | omega)) (aT Z Z (aB (aC (gD (aE (aA (cV Z Z Z Z (nP 35 Z (by first | decide | omega) (aB (aC (aE (cB Z (cM (cZ (cZ (eL ?_)))))))))))))))))))))
 refine aC (aE (gJ [(0,1),(1,1),(2,1),(3,2),(4,2),(5,2)] mixed M29 Z (by kernel_rfl) (fun w30 M30=>(bQ Z Z Z (aV 4 bP M30 Z Z Z) (bQ Z Z Z (aV 5 bP M30 Z Z Z) (bQ Z Z Z (aK 6 (.int _ _) cX M30 Z Z Z) (dO [false,false,true] Z (by kernel_rfl) (bC 4 _ bP M30 Z Z Z Z Z (aP Z) Z (fun w31 M31 => ?_)))))))))
 refine aB (aC ⟨(dS (bH Z (aK 6 (.int _ _) cX M31 Z Z Z)) (dS (bH Z (aV 5 bP M31 Z Z Z)) dI)), ?_⟩)
 refine dO [false,true] Z (by kernel_rfl) (bC 5 _ bP M31 Z Z Z Z Z (aP Z) Z (fun w32 M32 => ?_))
 refine aB (aC ⟨(dS (bH Z (aK 6 (.int _ _) cX M32 Z Z Z)) dI), ?_⟩)
 refine dO [true] Z (by kernel_rfl) (dA 6 (.int _ _) cX M32 Z Z Z Z Z Z (fun w33 M33 => ?_))
 refine aB (aC ⟨dI, ?_⟩)
 refine bS (aC (aR (bUq 4 5 6 bP cX M33 Z Z Z Z Z Z Z Z ?_)))
 exact ⟨by rw [show s=oS ap aq bp bq from hS],M33.below⟩
theorem aXc (w:World) (ap aq bp bq:Pt) (h1:SgI ap aq) (h2:SgI bp bq) :
  Calls prog 238 #[(.agg (cR ap).toArray),(.agg (cR aq).toArray),(.agg (cR bp).toArray),(.agg (cR bq).toArray)] w (Rb w (.tuple #[(.agg (cR (oS ap aq bp bq).1).toArray),(.agg (cR (oS ap aq bp bq).2.1).toArray)])):=by
 refine aI #[.cell 8 37,.cell 9 37] 21 func238 Z results238 ntmps238 Z ?_
 have M0:=Mem.refl w
 refine aE (aA (bO (.agg (.mk _)) M0 Z Z Z (fun b1 w1 M1=>(bO (.agg (.mk _)) M1 Z Z Z (fun b2 w2 M2=>(bO (.agg (.mk _)) M2 Z Z Z (fun b3 w3 M3=>(bO (.agg (.mk _)) M3 Z Z Z (fun b4 w4 M4=>(aO jQ M4 Z Z (fun b5 w5 M5=>(aO jQ M5 Z Z (fun b6 w6 M6=>(aB (aC (aE (aA (wq (aV 0 bP M6 Z Z Z) Z (wq (aV 1 bP M6 Z Z Z) Z (wq (aV 2 bP M6 Z Z Z) Z (wq (aV 3 bP M6 Z Z Z) Z (dM bUf Z Z M6 (aXd _ ap aq bp bq h1 h2) (fun w7 M7=>(wq (aH (.tuple (List.toArray _)) Z) Z ?_))))))))))))))))))))))))
 refine wq (bJ (.agg (.mk _)) Z Z) Z (wq (bJ (.agg (.mk _)) Z Z) Z (wq (bJ (.int _ _) Z Z) Z (bC 4 _ bP M7 Z Z Z Z Z (aP Z) Z (fun w8 M8=>(bC 5 _ bP M8 Z Z Z Z Z (aP Z) Z (fun w9 M9=>(aB (aC (aE (gJ [(0,1),(1,1),(2,2),(3,2)] mixed M9 Z (by kernel_rfl) (fun w10 M10=>(bQ Z Z Z (aV 4 bP M10 Z Z Z) (bQ Z Z Z (aV 5 bP M10 Z Z Z) (dO [false,true] Z (by kernel_rfl) (bC 4 _ bP M10 Z Z Z Z Z (aP Z) Z (fun w11 M11 => ?_))))))))))))))))
 refine aB (aC ⟨(dS (bH Z (aV 5 bP M11 Z Z Z)) dI), ?_⟩)
 refine dO [true] Z (by kernel_rfl) (bC 5 _ bP M11 Z Z Z Z Z (aP Z) Z (fun w12 M12 => ?_))
 refine aB (aC ⟨dI, ?_⟩)
 refine bS (aC (aR (aYo 4 5 bP M12 Z Z Z Z Z Z ?_)))
 exact ⟨Z,M12.below⟩
end Go.Proofs.YtaoaknafiegfoaaGreatDoor
