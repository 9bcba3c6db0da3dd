/- Part of the proof of a law of this seat (2 texts). No conditions. -/
import Derived.Test.YtaoaknafiegfoaaGreatDoorK5
import Derived.Test.YtaoaknafiegfoaaGreatDoorK7
import Derived.Test.YtaoaknafiegfoaaGreatDoorK8
import Derived.Test.YtaoaknafiegfoaaGreatDoorK11
import Derived.Shelf.Bits.Mul64
import Derived.Shelf.Small.Bits
set_option linter.unusedVariables false
set_option linter.unusedSimpArgs false
set_option linter.unnecessarySimpa false
set_option maxHeartbeats 100000000
namespace Go.Proofs.YtaoaknafiegfoaaGreatDoor
open Go.Bil
open Go.RowKit (Below)
open Go.Proofs
open Go.Proofs.Tryz
theorem aZs (w:World) (x y:Nat) (hx:x < 18446744073709551616) (hy:y < 18446744073709551616):Calls prog 221 #[.int .u64 (x:Int),.int .u64 (y:Int)] w (fun ex w'=>∃ v,ex=.returned v∧v=.tuple #[.int .u64 ((x*y / 18446744073709551616:Nat):Int),.int .u64 ((x*y % 18446744073709551616:Nat):Int)]∧Below w.heap.size w w') :=
 (Any.bits_Mul64 aRc x y hx hy w).mono (by rintro ex w' ⟨rfl,rfl⟩;exact ⟨_,rfl,rfl,Below.refl _ _⟩)
theorem bNd (w:World) (y s:Nat) (hy:y < 18446744073709551616) (hs:lzN y=s):Calls prog 245 #[.int .u64 (y:Int)] w (fun ex w'=>∃ v,ex=.returned v∧v=.int .i64 (s:Int)∧Below w.heap.size w w') :=
 (Any.bits_LeadingZeros64 bAd (y:Int) w (by omega) (by omega)).mono (by
  rintro ex w' ⟨rfl,rfl⟩
  refine ⟨_,Z, ?_,Below.refl _ _⟩
  have hl:=Go.Lib.bitLen_le y 64 (Nat.le_refl _) hy
  unfold lzN at hs
  exact iE (by rw [Int.toNat_natCast];omega))
theorem bEr (w:World) (hi lo y:Nat) (hy:hi < y) (hY:y < 18446744073709551616) (hl:lo < 18446744073709551616) :
  Calls prog 223 #[.int .u64 (hi:Int),.int .u64 (lo:Int),.int .u64 (y:Int)] w (Rb w (.tuple #[.int .u64 (((hi*18446744073709551616+lo) / y:Nat):Int),.int .u64 (((hi*18446744073709551616+lo) % y:Nat):Int)])):=by
 obtain ⟨s,A,E,Y,U,W,y1,y0,d1,d0,Q1,U2,Q0,R,V,h63,hYl,hUY,hWl,⟨hy1,hy1',hy0,hd1,hd0⟩,hQ1,hU2,hQ0,hRl⟩:=aQv hy hY hl
 have hAE:=V.eU
 have hSp:Y=y1*4294967296+y0:=by have h1:=V.ey1;have h2:=V.ey0;omega
 obtain ⟨p1,P1,z1,hp1,hP1,hz1,hPU,hzl,DU⟩:=aIy (u:=U) (y1:=y1) (y0:=y0) (d:=d1) (by omega) hy1' hd1 (by omega)
 obtain ⟨p2,P2,z2,hp2,hP2,hz2,hPU2,hzl2,DU2⟩:=aIy (u:=U2) (y1:=y1) (y0:=y0) (d:=d0) (by omega) hy1' hd0 (by omega)
 refine aH #[.tmp 6,.tmp 7] 135 func223 Z results223 ntmps223 Z ?_
 have M0:=Mem.refl w
 refine aD (aA (bP Z Z (bP Z Z (aB (aC (aD (aD (aA (aX Z Z (dB Z Z Z Z (rP 20 Z (by omega) (aB (aC (bW Z (aL (aC (aD (aD (aA (aX Z Z (aX Z Z (dB Z Z Z Z (rP 24 Z (by omega) (aB (aC (bW Z ?_))))))))))))))))))))))))))
 refine aL (aC (aD (aD (aA (aX Z Z (dB Z Z Z Z (aB (aC ?_))))))))
 refine bA Z (fun h27 => ?_) (fun h27 => ?_)
 ·refine aD (gJ [(0,0),(1,0),(2,0),(3,0),(4,0),(5,0),(6,0),(7,0)] mixed M0 Z (by kernel_rfl) (fun w1 M1=>(gR Z Z Z (gR Z Z Z (aU Z Z Z (fun _=>wQ Z Z (by omega)) (fA 30 (.int .u64 ((lo / y:Nat):Int)) (iE (aYt lo y hl)) (gR Z Z Z (gR Z Z Z (aU Z Z Z (fun _=>aDi Z Z (by omega)) (fA 33 (.int .u64 ((lo % y:Nat):Int)) (iE (bLb lo y)) (qB Z Z Z (qB Z Z Z (bZ (aC (aP (cL (gY (.int _ _) (.int _ _) Z Z ?_)))))))))))))))))
  exact ⟨by simp [show hi=0 by omega],M1.below⟩
 ·refine aL (aC (aD (aA (aX Z Z (dI bHw Z Z M0 (bNd _ y s hY V.hs) (fun w2 M2=>(wq (bV us3 underlying178 Z (jC _ (by omega) (by omega))) Z (bP Z Z (aB (aC (aD (aA (aX Z Z (aX Z Z (wq (tA Z Z (by omega)) Z (aS 39 (.int .u64 (Y:Int)) (iE ((aVg y s _ Z (by omega) (by rw [V.eY];exact hYl)).trans (congrArg _ V.eY))) (bP Z Z (aB (aC (aD (aA (aX Z Z (wq (hJ Z Z (by decide)) Z (aS 41 (.int .u64 (y1:Int)) (iE ((aQi Y).trans (congrArg _ V.ey1))) (bP Z Z ?_)))))))))))))))))))))))))
  refine aB (aC (aD (aA (aX Z Z (wq (dP (.int _ _) Z Z Z) Z (aS 43 (.int .u64 (y0:Int)) (iE ((aQd Y hYl).trans (congrArg _ V.ey0))) (bP Z Z (aB (aC (aD (aA (aX Z Z (aX Z Z (wq (tA Z Z (by omega)) Z (aS 46 (.int .u64 (A:Int)) (iE ((aVg hi s _ Z (by omega) (by rw [V.eA];omega)).trans (congrArg _ V.eA))) (aX Z Z (aX Z Z (wq (mH Z Z (jC _ (by omega) (by omega))) Z (wq (hJ Z Z (by omega)) Z (aS 50 (.int .u64 (E:Int)) (iE ((aEd lo (64 - s) _ (by omega) (by omega)).trans (congrArg _ V.eE))) ?_))))))))))))))))))))
  refine wq (dP (.int _ _) Z Z Z) Z (aS 51 (.int .u64 (U:Int)) (iE ((bLr hi A E s V.eA V.hE (by omega)).trans (congrArg _ V.eU))) (bP Z Z (aB (aC (aD (aA (aX Z Z (aX Z Z (wq (tA Z Z (by omega)) Z (aS 54 (.int .u64 (W:Int)) (iE ((aVu lo s _ Z (by omega)).trans (congrArg _ V.eW))) (bP Z Z (aB (aC (aD (aA (aX Z Z (wq (hJ Z Z (by decide)) Z (aS 56 (.int .u64 (d1:Int)) (iE ((aQi W).trans (congrArg _ V.ed1))) (bP Z Z (aB (aC (aD (aA (aX Z Z ?_))))))))))))))))))))))))
  refine wq (dP (.int _ _) Z Z Z) Z (aS 58 (.int .u64 (d0:Int)) (iE ((aQd W hWl).trans (congrArg _ V.ed0))) (bP Z Z (aB (aC (aD (aA (aX Z Z (aX Z Z (wq (wQ Z Z (by omega)) Z (aS 61 (.int .u64 (p1:Int)) (iE ((aYt U y1 (by omega)).trans (congrArg _ hp1))) (bP Z Z (aB (aC (aD (aA (aX Z Z (aX Z Z (aX Z Z (wq (dP (.int _ _) Z Z Z) Z (aS 65 (.int .u64 (P1:Int)) (iE ((aTf p1 y1 (by omega)).trans (congrArg _ hP1))) (wq (mH Z Z (jC _ (by omega) (by omega))) Z ?_)))))))))))))))))))))
  refine aS 66 (.int .u64 (z1:Int)) (iE (by omega)) (bP Z Z (aB (aC ?_)))
  refine bAc (σ:=Unit) [] (fun _=>[(15,.int .u64 (Q1:Int)),(6,.int .u64 0),(7,.int .u64 0),(2,.int .u64 (Y:Int)),(8,.int .u64 (s:Int)),(9,.int .u64 (y1:Int)),(10,.int .u64 (y0:Int)),(11,.int .u64 (U:Int)),(13,.int .u64 (d1:Int)),(14,.int .u64 (d0:Int))]) (fun _ w'=>Mem w [] [] w') ?_ ?_
  ·refine aT (dK (σ:=Nat × Nat) [] (fun (q1,r1)=>[(15,.int .u64 (q1:Int)),(16,.int .u64 (r1:Int)),(6,.int .u64 0),(7,.int .u64 0),(2,.int .u64 (Y:Int)),(8,.int .u64 (s:Int)),(9,.int .u64 (y1:Int)),(10,.int .u64 (y0:Int)),(11,.int .u64 (U:Int)),(13,.int .u64 (d1:Int)),(14,.int .u64 (d0:Int))]) (fun (q1,r1) w'=>(r1 < 4294967296∧Dg U y1 y0 d1 q1 r1)∧Mem w [] [] w') (fun (q1,r1)=>q1) (p1,z1) (bN Z (bN Z (bN Z (bN Z (bN Z (bN Z (bN Z (bN Z (bN Z (bN Z (bN Z eZ))))))))))) (⟨⟨by omega,DU⟩,M2⟩) ?_)
   rintro ⟨q1,r1⟩ ρ4 w4 ⟨⟨hr1,Dr1⟩,hM4⟩
   refine aD (aD (aA (aX Z Z (dB Z Z Z Z (wq (aG (.bool (decide _)) Z) Z ?_)))))
   refine dV 69 Z (fun g69 => ?_) (fun g69 => ?_)
   ·refine aW Z Z (aW Z Z (aW Z Z (aW Z Z (aW Z Z (aW Z Z (aW Z Z (aW Z Z (wq (bX true (.bool true) Z Z) Z (aB (aC (cU Z (aL (aC (aT (aD (aA (aX Z Z ?_)))))))))))))))))
    have hsr1:=yI (u:=U) (d:=d1) (by omega) (by omega) Dr1 (by first | exact .inl (by omega) | exact .inr (by omega))
    have hlr1:=aGd hy1 (by omega) Dr1
    have hqr1:=hsr1.1
    have D'r1:=hsr1.2
    refine wq (mH Z Z (jC _ (by omega) (by omega))) Z (aS 80 (.int .u64 ((q1 - 1:Nat):Int)) (iE (by omega)) (bP Z Z (aB (aC (aD (aA (aX Z Z (aX Z Z (wq (jD Z Z (jC _ (by omega) (by omega))) Z (aS 83 (.int .u64 ((r1+y1:Nat):Int)) (iE (by omega)) (bP Z Z (aB (aC (aD (aA (aX Z Z (dB Z Z Z Z (aB (aC ?_)))))))))))))))))))
    refine bA Z (fun h85 => ?_) (fun h85 => ?_)
    ·have hxr1:q1 - 1=Q1:=(tK (by omega) (by omega) (by omega) D'r1 (by omega)).trans V.eQ1
     refine cO (bBk Z (cX (eV (aDh () (bN (iv Z (by omega)) (bN Z (bN Z (bN Z (bN Z (bN Z (bN Z (bN Z (bN Z (bN Z eZ)))))))))) kB ?_))))
     exact hM4
    ·refine aL (dF ?_)
     refine cR (q1 - 1,r1+y1) (bN Z (bN Z (bN Z (bN Z (bN Z (bN Z (bN Z (bN Z (bN Z (bN Z (bN Z eZ))))))))))) kB ?_ ?_
     ·exact ⟨⟨by omega,D'r1⟩,hM4⟩
     ·(show q1 - 1 < q1;omega)
   ·refine aX Z Z (aX Z Z (wq (dP (.int _ _) Z Z Z) Z (aS 72 (.int .u64 ((q1*y0:Nat):Int)) (iE (aTf q1 y0 (by have:=bEp (q:=q1) (y0:=y0) (by omega) (by omega);omega))) (aX Z Z (wq (aLx Z Z (jC _ (by omega) (by omega))) Z (aX Z Z (wq (jD Z Z (jC _ (by omega) (by omega))) Z (dB Z Z Z Z (wq (bX false (.bool (decide _)) Z Z) Z (aB (aC ?_)))))))))))
    refine bA Z (fun h78 => ?_) (fun h78 => ?_)
    ·refine aL (aC (aT (aD (aA (aX Z Z ?_)))))
     have hsr1:=yI (u:=U) (d:=d1) (by omega) (by omega) Dr1 (by first | exact .inl (by omega) | exact .inr (by omega))
     have hlr1:=aGd hy1 (by omega) Dr1
     have hqr1:=hsr1.1
     have D'r1:=hsr1.2
     refine wq (mH Z Z (jC _ (by omega) (by omega))) Z (aS 80 (.int .u64 ((q1 - 1:Nat):Int)) (iE (by omega)) (bP Z Z (aB (aC (aD (aA (aX Z Z (aX Z Z (wq (jD Z Z (jC _ (by omega) (by omega))) Z (aS 83 (.int .u64 ((r1+y1:Nat):Int)) (iE (by omega)) (bP Z Z (aB (aC (aD (aA (aX Z Z (dB Z Z Z Z (aB (aC ?_)))))))))))))))))))
     refine bA Z (fun h85 => ?_) (fun h85 => ?_)
     ·have hxr1:q1 - 1=Q1:=(tK (by omega) (by omega) (by omega) D'r1 (by omega)).trans V.eQ1
      refine cO (bBk Z (cX (eV (aDh () (bN (iv Z (by omega)) (bN Z (bN Z (bN Z (bN Z (bN Z (bN Z (bN Z (bN Z (bN Z eZ)))))))))) kB ?_))))
      exact hM4
     ·refine aL (dF ?_)
      refine cR (q1 - 1,r1+y1) (bN Z (bN Z (bN Z (bN Z (bN Z (bN Z (bN Z (bN Z (bN Z (bN Z (bN Z eZ))))))))))) kB ?_ ?_
      ·exact ⟨⟨by omega,D'r1⟩,hM4⟩
      ·(show q1 - 1 < q1;omega)
    ·have hxr1:q1=Q1:=(aFm (by omega) Dr1 (by omega)).trans V.eQ1
     refine cO (dA (cX (eV (aDh () (bN (iv Z (by omega)) (bN Z (bN Z (bN Z (bN Z (bN Z (bN Z (bN Z (bN Z (bN Z eZ)))))))))) kB ?_))))
     exact hM4
  ·rintro _ ρ3 w3 hM3
   refine aD (aA (aX Z Z (wq (dP (.int _ _) Z Z Z) Z (aX Z Z (wq (dP (.int _ _) Z Z Z) Z (aX Z Z (aS 90 (.int .u64 (Q1:Int)) (iE (by omega)) (aX Z Z (wq (dP (.int _ _) Z Z Z) Z (aS 92 (.int .u64 ((Q1*Y % 18446744073709551616:Nat):Int)) (iE (bFh Q1 Y)) (wq (dP (.int _ _) Z Z Z) Z (aS 93 (.int .u64 (U2:Int)) (iE (by have:=V.eU2;rw [sQ,sQ,sQ];omega)) (bP Z Z (aB (aC (aD (aA (aX Z Z (aX Z Z ?_)))))))))))))))))))
   refine wq (wQ Z Z (by omega)) Z (aS 96 (.int .u64 (p2:Int)) (iE ((aYt U2 y1 (by omega)).trans (congrArg _ hp2))) (bP Z Z (aB (aC (aD (aA (aX Z Z (aX Z Z (aX Z Z (wq (dP (.int _ _) Z Z Z) Z (aS 100 (.int .u64 (P2:Int)) (iE ((aTf p2 y1 (by omega)).trans (congrArg _ hP2))) (wq (mH Z Z (jC _ (by omega) (by omega))) Z (aS 101 (.int .u64 (z2:Int)) (iE (by omega)) (bP Z Z (aB (aC ?_))))))))))))))))
   refine bAc (σ:=Unit) [] (fun _=>[(18,.int .u64 (Q0:Int)),(6,.int .u64 0),(7,.int .u64 0),(2,.int .u64 (Y:Int)),(8,.int .u64 (s:Int)),(14,.int .u64 (d0:Int)),(15,.int .u64 (Q1:Int)),(17,.int .u64 (U2:Int))]) (fun _ w'=>Mem w [] [] w') ?_ ?_
   ·refine aT (dK (σ:=Nat × Nat) [] (fun (q0,r0)=>[(18,.int .u64 (q0:Int)),(16,.int .u64 (r0:Int)),(6,.int .u64 0),(7,.int .u64 0),(2,.int .u64 (Y:Int)),(8,.int .u64 (s:Int)),(14,.int .u64 (d0:Int)),(15,.int .u64 (Q1:Int)),(17,.int .u64 (U2:Int)),(9,.int .u64 (y1:Int)),(10,.int .u64 (y0:Int))]) (fun (q0,r0) w'=>(r0 < 4294967296∧Dg U2 y1 y0 d0 q0 r0)∧Mem w [] [] w') (fun (q0,r0)=>q0) (p2,z2) (bN Z (bN Z (bN Z (bN Z (bN Z (bN Z (bN Z (bN Z (bN Z (bN Z (bN Z eZ))))))))))) (⟨⟨by omega,DU2⟩,hM3⟩) ?_)
    rintro ⟨q0,r0⟩ ρ6 w6 ⟨⟨hr0,Dr0⟩,hM6⟩
    refine aD (aD (aA (aX Z Z (dB Z Z Z Z (wq (aG (.bool (decide _)) Z) Z ?_)))))
    refine dV 104 Z (fun g104 => ?_) (fun g104 => ?_)
    ·refine aW Z Z (aW Z Z (aW Z Z (aW Z Z (aW Z Z (aW Z Z (aW Z Z (aW Z Z (wq (bX true (.bool true) Z Z) Z (aB (aC (cU Z (aL (aC (aT (aD (aA (aX Z Z ?_)))))))))))))))))
     have hsr0:=yI (u:=U2) (d:=d0) (by omega) (by omega) Dr0 (by first | exact .inl (by omega) | exact .inr (by omega))
     have hlr0:=aGd hy1 (by omega) Dr0
     have hqr0:=hsr0.1
     have D'r0:=hsr0.2
     refine wq (mH Z Z (jC _ (by omega) (by omega))) Z (aS 115 (.int .u64 ((q0 - 1:Nat):Int)) (iE (by omega)) (bP Z Z (aB (aC (aD (aA (aX Z Z (aX Z Z (wq (jD Z Z (jC _ (by omega) (by omega))) Z (aS 118 (.int .u64 ((r0+y1:Nat):Int)) (iE (by omega)) (bP Z Z (aB (aC (aD (aA (aX Z Z (dB Z Z Z Z (aB (aC ?_)))))))))))))))))))
     refine bA Z (fun h120 => ?_) (fun h120 => ?_)
     ·have hxr0:q0 - 1=Q0:=(tK (by omega) (by omega) (by omega) D'r0 (by omega)).trans V.eQ0
      refine cO (bBk Z (cX (eV (aDh () (bN (iv Z (by omega)) (bN Z (bN Z (bN Z (bN Z (bN Z (bN Z (bN Z eZ)))))))) kB ?_))))
      exact hM6
     ·refine aL (dF ?_)
      refine cR (q0 - 1,r0+y1) (bN Z (bN Z (bN Z (bN Z (bN Z (bN Z (bN Z (bN Z (bN Z (bN Z (bN Z eZ))))))))))) kB ?_ ?_
      ·exact ⟨⟨by omega,D'r0⟩,hM6⟩
      ·(show q0 - 1 < q0;omega)
    ·refine aX Z Z (aX Z Z (wq (dP (.int _ _) Z Z Z) Z (aS 107 (.int .u64 ((q0*y0:Nat):Int)) (iE (aTf q0 y0 (by have:=bEp (q:=q0) (y0:=y0) (by omega) (by omega);omega))) (aX Z Z (wq (aLx Z Z (jC _ (by omega) (by omega))) Z (aX Z Z (wq (jD Z Z (jC _ (by omega) (by omega))) Z (dB Z Z Z Z (wq (bX false (.bool (decide _)) Z Z) Z (aB (aC ?_)))))))))))
     refine bA Z (fun h113 => ?_) (fun h113 => ?_)
     ·refine aL (aC (aT (aD (aA (aX Z Z ?_)))))
      have hsr0:=yI (u:=U2) (d:=d0) (by omega) (by omega) Dr0 (by first | exact .inl (by omega) | exact .inr (by omega))
      have hlr0:=aGd hy1 (by omega) Dr0
      have hqr0:=hsr0.1
      have D'r0:=hsr0.2
      refine wq (mH Z Z (jC _ (by omega) (by omega))) Z (aS 115 (.int .u64 ((q0 - 1:Nat):Int)) (iE (by omega)) (bP Z Z (aB (aC (aD (aA (aX Z Z (aX Z Z (wq (jD Z Z (jC _ (by omega) (by omega))) Z (aS 118 (.int .u64 ((r0+y1:Nat):Int)) (iE (by omega)) (bP Z Z (aB (aC (aD (aA (aX Z Z (dB Z Z Z Z (aB (aC ?_)))))))))))))))))))
      refine bA Z (fun h120 => ?_) (fun h120 => ?_)
      ·have hxr0:q0 - 1=Q0:=(tK (by omega) (by omega) (by omega) D'r0 (by omega)).trans V.eQ0
       refine cO (bBk Z (cX (eV (aDh () (bN (iv Z (by omega)) (bN Z (bN Z (bN Z (bN Z (bN Z (bN Z (bN Z eZ)))))))) kB ?_))))
       exact hM6
      ·refine aL (dF ?_)
       refine cR (q0 - 1,r0+y1) (bN Z (bN Z (bN Z (bN Z (bN Z (bN Z (bN Z (bN Z (bN Z (bN Z (bN Z eZ))))))))))) kB ?_ ?_
       ·exact ⟨⟨by omega,D'r0⟩,hM6⟩
       ·(show q0 - 1 < q0;omega)
     ·have hxr0:q0=Q0:=(aFm (by omega) Dr0 (by omega)).trans V.eQ0
      refine cO (dA (cX (eV (aDh () (bN (iv Z (by omega)) (bN Z (bN Z (bN Z (bN Z (bN Z (bN Z (bN Z eZ)))))))) kB ?_))))
      exact hM6
   ·rintro _ ρ5 w5 hM5
    refine aD (aA (aX Z Z (aS 121 (.int .u64 (Q1:Int)) (iE (by omega)) (wq (aLx Z Z (jC _ (by omega) (by omega))) Z (aX Z Z (aS 123 (.int .u64 (Q0:Int)) (iE (by omega)) (wq (jD Z Z (jC _ (by omega) (by omega))) Z (aX Z Z (wq (dP (.int _ _) Z Z Z) Z (aX Z Z (wq (dP (.int _ _) Z Z Z) Z (aX Z Z (aS 129 (.int .u64 (Q0:Int)) (iE (by omega)) (aX Z Z (wq (dP (.int _ _) Z Z Z) Z (aS 131 (.int .u64 ((Q0*Y % 18446744073709551616:Nat):Int)) (iE (bFh Q0 Y)) ?_))))))))))))))))
    refine wq (dP (.int _ _) Z Z Z) Z (aS 132 (.int .u64 (R:Int)) (iE (by have:=V.eR;rw [sQ,sQ,sQ];omega)) (aX Z Z (wq (hJ Z Z (by omega)) Z (aS 134 (.int .u64 ((R / 2 ^ s:Nat):Int)) (iE (aEd R s _ Z (by omega))) (bP Z Z (bP Z Z (aB (aC (aP (gY (.int _ _) (.int _ _) Z Z ?_))))))))))
    exact ⟨by rw [V.fq,V.fr];exact aCd (iE (by omega)) Z,hM5.below⟩
theorem jO (w:World) (a:Int) (h0 : -9223372036854775808≤a) (h1:a≤9223372036854775807) :
  Calls prog 222 #[.int .i64 a] w (Rb w (.int .u64 ((a.natAbs:Nat):Int))):=by
 refine aH #[.tmp 2] 10 func222 Z results222 ntmps222 Z ?_
 have M0:=Mem.refl w
 refine aD (aA (bP Z Z (aB (aC (aD (aD (aA (aX Z Z (dB Z Z Z Z (aB (aC ?_)))))))))))
 refine bA Z (fun h4 => ?_) (fun h4 => ?_)
 ·refine aD (aA (aX Z Z (wq (dX us2 underlying237 Z) Z (wq (aDw Z) Z (aS 7 (.int .u64 ((a.natAbs:Nat):Int)) (iE (by rw [sQ,sQ];omega)) (bP Z Z (aB (aC (aP (cL (cB (.int _ _) Z ?_)))))))))))
  exact ⟨Z,M0.below⟩
 ·refine aL (aC (aD (aA (aX Z Z (wq (dX us2 underlying237 Z) Z (aS 9 (.int .u64 ((a.natAbs:Nat):Int)) (iE (by rw [sQ];omega)) (bP Z Z (aB (aC (aP (cB (.int _ _) Z ?_)))))))))))
  exact ⟨Z,M0.below⟩
theorem aGk (w:World) (s:Bool) :
  Calls prog 224 #[.bool s] w (fE (fun v w'=>∃ b,v=.func (.func 246) #[] #[.pointer (some ⟨b,0,none⟩)]∧Mem w [] [(some b,bc [.bool s] 4)] w')):=by
 refine aH #[.tmp 2] 4 func224 Z results224 ntmps224 Z ?_
 have M0:=Mem.refl w
 refine aD (aA (bH (.bool _) M0 Z Z Z (fun b1 w1 M1=>(wq (aI (_) Z) Z (aB (aC (aD (aA (wq (cH [] [.pointer _] Z Z) Z (wq (aI (.func _ _ _) Z) Z (aB (aC (aP (cB (.func _ _ _) Z ?_))))))))))))))
 exact ⟨b1,Z,M1⟩
theorem xU (w:World) (q:Nat) (s:Bool) (b:Nat) (hq:q≤4611686018427387904) (K:Rd w 1 (some ⟨b,0,none⟩) 1 [[.bool s]]) :
  Calls prog 246 #[.int .u64 (q:Int),.pointer (some ⟨b,0,none⟩)] w (Rb w (.tuple #[.int .i64 (if s=true then -(q:Int) else (q:Int)),.bool true])):=by
 rw [← eT b]
 refine aH #[.tmp 3,.tmp 4] 15 func246 Z results246 ntmps246 Z ?_
 have M0:=Mem.refl w
 refine aD (aA (bP Z Z (wq (aI (.bool false) Z) Z (aB (aC (aD (aD (aA (wq (eP (o:=0) (.bool _) oG (K.mem M0) (show ([[.bool s]]:List (List Value))[0]? = some [.bool s] from Z) Z Z) Z (aB (aC ?_)))))))))))
 refine iG _ Z (fun h5 => ?_) (fun h5 => ?_)
 ·refine aD (aA (aX Z Z (wq (aDw Z) Z (wq (dX aDy underlying2 Z) Z (aS 8 (.int .i64 (-(q:Int))) (iE (bBa q hq)) (aX Z Z (dB Z Z Z Z (rS 10 Z (by omega) (bP Z Z (wq (aI (.bool true) Z) Z (aB (aC (aP (cL (gY (.int _ _) (.bool true) Z Z ?_)))))))))))))))
  exact ⟨by simp [h5],M0.below⟩
 ·refine aL (aC (aD (aA (aX Z Z (wq (bV aDy underlying2 Z (kO _ (by omega) (by omega))) Z (aX Z Z (dB Z Z Z Z (rS 14 Z (by omega) (bP Z Z (wq (aI (.bool true) Z) Z (aB (aC (aP (gY (.int _ _) (.bool true) Z Z ?_))))))))))))))
  exact ⟨by simp [h5],M0.below⟩
theorem bId (w:World) (a n d:Int) (ha : -4294967296≤a∧a≤4294967296) (hn:0≤n) (hnd:n≤d) (hd0:0 < d) (hd:d≤9223372036854775807) :
  Calls prog 189 #[.int .i64 a,.int .i64 n,.int .i64 d] w (Rb w (.tuple #[.int .i64 (a*n / d),.int .i64 0])):=by
 obtain ⟨m,rfl⟩:=Int.eq_ofNat_of_zero_le hn
 obtain ⟨z,rfl⟩:=Int.eq_ofNat_of_zero_le (Int.le_of_lt hd0)
 have hmd:=aZg (a:=a) (m:=m) (z:=z) ha (by omega) (by omega) (by omega)
 obtain ⟨q,hq⟩:∃ q,a.natAbs*m / z=q:=⟨_,rfl⟩
 obtain ⟨r,hr⟩:∃ r,a.natAbs*m % z=r:=⟨_,rfl⟩
 have hql:q≤4294967296:=by rw [← hq];exact hmd.2.2.2
 refine aH #[.tmp 6,.tmp 7] 65 func189 Z results189 ntmps189 Z ?_
 have M0:=Mem.refl w
 refine aD (aA (bP Z Z (bP Z Z (aB (aC (aD (aD (aA (aX Z Z (dB Z Z Z Z (rP 17 Z (by omega) (aB (aC (bW Z (aL (aC (aD (aA (aX Z Z (dI qI Z Z M0 (jO _ a (by omega) (by omega)) (fun w1 M1=>(aX Z Z (dI qI Z Z M1 (jO _ (m:Int) (by omega) (by omega)) (fun w2 M2=>(aS 22 (.int .u64 (m:Int)) (iE (by omega)) (dI aNd Z Z M2 (aZs _ a.natAbs m (by omega) (by omega)) (fun w3 M3 => ?_)))))))))))))))))))))))))))
 refine wq (aG (.tuple (List.toArray _)) Z) Z (wq (bE (.int _ _) Z Z) Z (wq (bE (.int _ _) Z Z) Z (bP Z Z (bP Z Z (aB (aC (aD (aA (aX Z Z (dI qI Z Z M3 (jO _ (z:Int) (by omega) (by omega)) (fun w4 M4=>(aS 27 (.int .u64 (z:Int)) (iE (by omega)) (bP Z Z (aB (aC (aD (aD (aA (aX Z Z (aX Z Z (dB Z Z Z Z (rP 30 Z (by have:=hmd.1;omega) (aB (aC ?_))))))))))))))))))))))))
 refine bW Z (aL (aC (aD (aA (aX Z Z (aX Z Z (aX Z Z (dI aXg Z Z M4 (bEr _ (a.natAbs*m / 18446744073709551616) (a.natAbs*m % 18446744073709551616) z hmd.1 (by omega) hmd.2.1) (fun w5 M5=>(wq (aG (.tuple (List.toArray _)) Z) Z (wq (bE (.int _ _) Z Z) Z (aS 36 (.int .u64 (q:Int)) (iE (by rw [hmd.2.2.1,hq])) (wq (bE (.int _ _) Z Z) Z (aS 37 (.int .u64 (r:Int)) (iE (by rw [hmd.2.2.1,hr])) (bP Z Z (bP Z Z (aB (aC (aD (aA (aX Z Z (dB Z Z Z Z ?_))))))))))))))))))))))
 refine aX rfl rfl (dB rfl rfl rfl rfl (rP 41 rfl (by omega) (wq (vT _ underlying4 rfl rfl rfl) rfl (aS 42 (.bool (decide (a < 0))) (bv rfl (by simp)) (aX rfl rfl (dB rfl rfl rfl rfl (rP 44 rfl (by omega) (wq (vT _ underlying4 rfl rfl rfl) rfl (aS 45 (.bool (decide (a < 0))) (bv rfl (by simp)) (wq (aI (.bool (decide _)) rfl) rfl (aB (aC (aD (aD (aA (wq (aG (.bool (decide _)) rfl) rfl (wq (aG (.bool (decide _)) rfl) rfl ?_)))))))))))))))))
 refine dV 47 Z (fun g47 => ?_) (fun g47 => ?_)
 ·refine aX Z Z (dB Z Z Z Z (wq (bX true (.bool (decide _)) Z Z) Z (aB (aC ?_))))
  refine bA Z (fun h50 => ?_) (fun h50 => ?_)
  ·refine aD (aA (aX Z Z (wq (dP (.int _ _) Z Z Z) Z (aS 52 (.int .u64 ((q+1:Nat):Int)) (iE (by rw [sQ];omega)) (bP Z Z (aB (aC (aD (aA (aX Z Z (dB Z Z Z Z (rP 54 Z (by omega) (aB (aC (bW Z (aL (aC (aD (aA (wq (aG (.bool (decide _)) Z) Z (dU aFf Z Z (aGk _ _) ?_)))))))))))))))))))))
   rintro v6 w6 ⟨bs,rfl,hM6⟩
   have M6:Mem _ _ [_] _:=M5.call0 hM6
   refine aX Z Z (dI aFj Z Z M6 (xU _ _ _ bs (by omega) (mS 0 M6 Z Z)) (fun w7 M7=>(wq (aG (.tuple (List.toArray _)) Z) Z (wq (bE (.int _ _) Z Z) Z (wq (bE (.bool true) Z Z) Z (bP Z Z (wq (aI (.bool true) Z) Z (aB (aC (aD (aD (aA (wq (aG (.bool true) Z) Z (wq (gE false Z Z) Z (aB (aC (bW Z (aL (aC (aD (aA (aX Z Z (bP Z Z (bP Z Z ?_))))))))))))))))))))))))
   refine aB (aC (aP (gY (.int _ _) (.int _ _) Z Z ?_)))
   exact ⟨aCd (iE (by first | (rw [if_pos (decide_eq_true (by omega)),aLa (by omega) (by omega),hq,hr];split <;> omega) | (rw [if_neg (by simp;omega),← aNc (by omega),hq]))) rfl,M7.below⟩
  ·refine aL (aC (aD (aA (wq (aG (.bool (decide _)) Z) Z (dU aFf Z Z (aGk _ _) ?_)))))
   rintro v8 w8 ⟨bs,rfl,hM8⟩
   have M8:Mem _ _ [_] _:=M5.call0 hM8
   refine aX Z Z (dI aFj Z Z M8 (xU _ _ _ bs (by omega) (mS 0 M8 Z Z)) (fun w9 M9=>(wq (aG (.tuple (List.toArray _)) Z) Z (wq (bE (.int _ _) Z Z) Z (wq (bE (.bool true) Z Z) Z (bP Z Z (wq (aI (.bool true) Z) Z (aB (aC (aD (aD (aA (wq (aG (.bool true) Z) Z (wq (gE false Z Z) Z (aB (aC (bW Z (aL (aC (aD (aA (aX Z Z (bP Z Z (bP Z Z ?_))))))))))))))))))))))))
   refine aB (aC (aP (gY (.int _ _) (.int _ _) Z Z ?_)))
   exact ⟨aCd (iE (by first | (rw [if_pos (decide_eq_true (by omega)),aLa (by omega) (by omega),hq,hr];split <;> omega) | (rw [if_neg (by simp;omega),← aNc (by omega),hq]))) rfl,M9.below⟩
 ·refine aW Z Z (aW Z Z (wq (bX false (.bool false) Z Z) Z (aB (aC (bW Z (aL (aC (aD (aA (wq (aG (.bool (decide _)) Z) Z (dU aFf Z Z (aGk _ _) ?_)))))))))))
  rintro v10 w10 ⟨bs,rfl,hM10⟩
  have M10:Mem _ _ [_] _:=M5.call0 hM10
  refine aX Z Z (dI aFj Z Z M10 (xU _ _ _ bs (by omega) (mS 0 M10 Z Z)) (fun w11 M11=>(wq (aG (.tuple (List.toArray _)) Z) Z (wq (bE (.int _ _) Z Z) Z (wq (bE (.bool true) Z Z) Z (bP Z Z (wq (aI (.bool true) Z) Z (aB (aC (aD (aD (aA (wq (aG (.bool true) Z) Z (wq (gE false Z Z) Z (aB (aC (bW Z (aL (aC (aD (aA (aX Z Z (bP Z Z (bP Z Z ?_))))))))))))))))))))))))
  refine aB (aC (aP (gY (.int _ _) (.int _ _) Z Z ?_)))
  exact ⟨aCd (iE (by first | (rw [if_pos (decide_eq_true (by omega)),aLa (by omega) (by omega),hq,hr];split <;> omega) | (rw [if_neg (by simp;omega),← aNc (by omega),hq]))) rfl,M11.below⟩
end Go.Proofs.YtaoaknafiegfoaaGreatDoor
