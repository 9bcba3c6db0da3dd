/- Part of the proof of a law of this seat (2 texts). No conditions. -/
import Derived.Test.YtpcloigancpnbaaGreatDoorK5
import Derived.Test.YtpcloigancpnbaaGreatDoorK7
import Derived.Test.YtpcloigancpnbaaGreatDoorK8
import Derived.Test.YtpcloigancpnbaaGreatDoorK11
import Derived.Shelf.Bits.Mul64
import Derived.Shelf.Small.Bits
set_option linter.unusedVariables false
set_option linter.unusedSimpArgs false
set_option linter.unnecessarySimpa false
set_option maxHeartbeats 100000000
namespace Go.Proofs.YtpcloigancpnbaaGreatDoor
open Go.Bil
open Go.RowKit (Below)
open Go.Proofs
open Go.Proofs.Tryz
theorem bFq (w:World) (x y:Nat) (hx:x < 18446744073709551616) (hy:y < 18446744073709551616):Calls prog 196 #[.int .u64 (x:Int),.int .u64 (y:Int)] w (fun ex w'=>∃ v,ex=.returned v∧v=.tuple #[.int .u64 ((x*y / 18446744073709551616:Nat):Int),.int .u64 ((x*y % 18446744073709551616:Nat):Int)]∧Below w.heap.size w w') :=
 (Any.bits_Mul64 aZs x y hx hy w).mono (by rintro ex w' ⟨rfl,rfl⟩;exact ⟨_,rfl,rfl,Below.refl _ _⟩)
theorem bWh (w:World) (y s:Nat) (hy:y < 18446744073709551616) (hs:lzN y=s):Calls prog 222 #[.int .u64 (y:Int)] w (fun ex w'=>∃ v,ex=.returned v∧v=.int .i64 (s:Int)∧Below w.heap.size w w') :=
 (Any.bits_LeadingZeros64 bFi (y:Int) w (by omega) (by omega)).mono (by
  rintro ex w' ⟨rfl,rfl⟩
  refine ⟨_,Z, ?_,Below.refl _ _⟩
  have hl:=Go.Lib.bitLen_le y 64 (Nat.le_refl _) hy
  unfold lzN at hs
  exact iE (by rw [Int.toNat_natCast];omega))
theorem bNg (w:World) (hi lo y:Nat) (hy:hi < y) (hY:y < 18446744073709551616) (hl:lo < 18446744073709551616) :
  Calls prog 198 #[.int .u64 (hi:Int),.int .u64 (lo:Int),.int .u64 (y:Int)] w (Rb w (.tuple #[.int .u64 (((hi*18446744073709551616+lo) / y:Nat):Int),.int .u64 (((hi*18446744073709551616+lo) % y:Nat):Int)])):=by
 obtain ⟨s,A,E,Y,U,W,y1,y0,d1,d0,Q1,U2,Q0,R,V,h63,hYl,hUY,hWl,⟨hy1,hy1',hy0,hd1,hd0⟩,hQ1,hU2,hQ0,hRl⟩:=aYs hy hY hl
 have hAE:=V.eU
 have hSp:Y=y1*4294967296+y0:=by have h1:=V.ey1;have h2:=V.ey0;omega
 obtain ⟨p1,P1,z1,hp1,hP1,hz1,hPU,hzl,DU⟩:=aOx (u:=U) (y1:=y1) (y0:=y0) (d:=d1) (by omega) hy1' hd1 (by omega)
 obtain ⟨p2,P2,z2,hp2,hP2,hz2,hPU2,hzl2,DU2⟩:=aOx (u:=U2) (y1:=y1) (y0:=y0) (d:=d0) (by omega) hy1' hd0 (by omega)
 refine aI #[.tmp 6,.tmp 7] 135 func198 Z results198 ntmps198 Z ?_
 have M0:=Mem.refl w
 refine aE (aA (bK Z Z (bK Z Z (aB (aC (aE (aE (aA (aQ Z Z (cX Z Z Z Z (pD 20 Z (by omega) (aB (aC (cG Z (aM (aC (aE (aE (aA (aQ Z Z (aQ Z Z (cX Z Z Z Z (pD 24 Z (by omega) (aB (aC (cG Z ?_))))))))))))))))))))))))))
 refine aM (aC (aE (aE (aA (aQ Z Z (cX Z Z Z Z (aB (aC ?_))))))))
 refine aU Z (fun h27 => ?_) (fun h27 => ?_)
 ·refine aE (fW [(0,0),(1,0),(2,0),(3,0),(4,0),(5,0),(6,0),(7,0)] mixed M0 Z (by kernel_rfl) (fun w1 M1=>(eD Z Z Z (eD Z Z Z (aV Z Z Z (fun _=>gA Z Z (by omega)) (dV 30 (.int .u64 ((lo / y:Nat):Int)) (iE (jL lo y hl)) (eD Z Z Z (eD Z Z Z (aV Z Z Z (fun _=>iJ Z Z (by omega)) (dV 33 (.int .u64 ((lo % y:Nat):Int)) (iE (jZ lo y)) (mW Z Z Z (mW Z Z Z (bS (aC (aO (cO (fX (.int _ _) (.int _ _) Z Z ?_)))))))))))))))))
  exact ⟨by simp [show hi=0 by omega],M1.below⟩
 ·refine aM (aC (aE (aA (aQ Z Z (dN bQt Z Z M0 (bWh _ y s hY V.hs) (fun w2 M2=>(wq (bH us3 underlying136 Z (lO _ (by omega) (by omega))) Z (bK Z Z (aB (aC (aE (aA (aQ Z Z (aQ Z Z (wq (zR Z Z (by omega)) Z (aL 39 (.int .u64 (Y:Int)) (iE ((bHp y s _ Z (by omega) (by rw [V.eY];exact hYl)).trans (congrArg _ V.eY))) (bK Z Z (aB (aC (aE (aA (aQ Z Z (wq (kK Z Z (by decide)) Z (aL 41 (.int .u64 (y1:Int)) (iE ((aXl Y).trans (congrArg _ V.ey1))) (bK Z Z ?_)))))))))))))))))))))))))
  refine aB (aC (aE (aA (aQ Z Z (wq (cA (.int _ _) Z Z Z) Z (aL 43 (.int .u64 (y0:Int)) (iE ((aXk Y hYl).trans (congrArg _ V.ey0))) (bK Z Z (aB (aC (aE (aA (aQ Z Z (aQ Z Z (wq (zR Z Z (by omega)) Z (aL 46 (.int .u64 (A:Int)) (iE ((bHp hi s _ Z (by omega) (by rw [V.eA];omega)).trans (congrArg _ V.eA))) (aQ Z Z (aQ Z Z (wq (nR Z Z (lO _ (by omega) (by omega))) Z (wq (kK Z Z (by omega)) Z (aL 50 (.int .u64 (E:Int)) (iE ((aLe lo (64 - s) _ (by omega) (by omega)).trans (congrArg _ V.eE))) ?_))))))))))))))))))))
  refine wq (cA (.int _ _) Z Z Z) Z (aL 51 (.int .u64 (U:Int)) (iE ((bVw hi A E s V.eA V.hE (by omega)).trans (congrArg _ V.eU))) (bK Z Z (aB (aC (aE (aA (aQ Z Z (aQ Z Z (wq (zR Z Z (by omega)) Z (aL 54 (.int .u64 (W:Int)) (iE ((bHo lo s _ Z (by omega)).trans (congrArg _ V.eW))) (bK Z Z (aB (aC (aE (aA (aQ Z Z (wq (kK Z Z (by decide)) Z (aL 56 (.int .u64 (d1:Int)) (iE ((aXl W).trans (congrArg _ V.ed1))) (bK Z Z (aB (aC (aE (aA (aQ Z Z ?_))))))))))))))))))))))))
  refine wq (cA (.int _ _) Z Z Z) Z (aL 58 (.int .u64 (d0:Int)) (iE ((aXk W hWl).trans (congrArg _ V.ed0))) (bK Z Z (aB (aC (aE (aA (aQ Z Z (aQ Z Z (wq (gA Z Z (by omega)) Z (aL 61 (.int .u64 (p1:Int)) (iE ((jL U y1 (by omega)).trans (congrArg _ hp1))) (bK Z Z (aB (aC (aE (aA (aQ Z Z (aQ Z Z (aQ Z Z (wq (cA (.int _ _) Z Z Z) Z (aL 65 (.int .u64 (P1:Int)) (iE ((lX p1 y1 (by omega)).trans (congrArg _ hP1))) (wq (nR Z Z (lO _ (by omega) (by omega))) Z ?_)))))))))))))))))))))
  refine aL 66 (.int .u64 (z1:Int)) (iE (by omega)) (bK Z Z (aB (aC ?_)))
  refine bBm (σ:=Unit) [] (fun _=>[(15,.int .u64 (Q1:Int)),(6,.int .u64 0),(7,.int .u64 0),(2,.int .u64 (Y:Int)),(8,.int .u64 (s:Int)),(9,.int .u64 (y1:Int)),(10,.int .u64 (y0:Int)),(11,.int .u64 (U:Int)),(13,.int .u64 (d1:Int)),(14,.int .u64 (d0:Int))]) (fun _ w'=>Mem w [] [] w') ?_ ?_
  ·refine aP (dG (σ:=Nat × Nat) [] (fun (q1,r1)=>[(15,.int .u64 (q1:Int)),(16,.int .u64 (r1:Int)),(6,.int .u64 0),(7,.int .u64 0),(2,.int .u64 (Y:Int)),(8,.int .u64 (s:Int)),(9,.int .u64 (y1:Int)),(10,.int .u64 (y0:Int)),(11,.int .u64 (U:Int)),(13,.int .u64 (d1:Int)),(14,.int .u64 (d0:Int))]) (fun (q1,r1) w'=>(r1 < 4294967296∧Dg U y1 y0 d1 q1 r1)∧Mem w [] [] w') (fun (q1,r1)=>q1) (p1,z1) (bE Z (bE Z (bE Z (bE Z (bE Z (bE Z (bE Z (bE Z (bE Z (bE Z (bE Z dZ))))))))))) (⟨⟨by omega,DU⟩,M2⟩) ?_)
   rintro ⟨q1,r1⟩ ρ4 w4 ⟨⟨hr1,Dr1⟩,hM4⟩
   refine aE (aE (aA (aQ Z Z (cX Z Z Z Z (wq (aH (.bool (decide _)) Z) Z ?_)))))
   refine dQ 69 Z (fun g69 => ?_) (fun g69 => ?_)
   ·refine aN Z Z (aN Z Z (aN Z Z (aN Z Z (aN Z Z (aN Z Z (aN Z Z (aN Z Z (wq (bR true (.bool true) Z Z) Z (aB (aC (cE Z (aM (aC (aP (aE (aA (aQ Z Z ?_)))))))))))))))))
    have hsr1:=aDu (u:=U) (d:=d1) (by omega) (by omega) Dr1 (by first | exact .inl (by omega) | exact .inr (by omega))
    have hlr1:=aMd hy1 (by omega) Dr1
    have hqr1:=hsr1.1
    have D'r1:=hsr1.2
    refine wq (nR Z Z (lO _ (by omega) (by omega))) Z (aL 80 (.int .u64 ((q1 - 1:Nat):Int)) (iE (by omega)) (bK Z Z (aB (aC (aE (aA (aQ Z Z (aQ Z Z (wq (jN Z Z (lO _ (by omega) (by omega))) Z (aL 83 (.int .u64 ((r1+y1:Nat):Int)) (iE (by omega)) (bK Z Z (aB (aC (aE (aA (aQ Z Z (cX Z Z Z Z (aB (aC ?_)))))))))))))))))))
    refine aU Z (fun h85 => ?_) (fun h85 => ?_)
    ·have hxr1:q1 - 1=Q1:=(yM (by omega) (by omega) (by omega) D'r1 (by omega)).trans V.eQ1
     refine cN (bIk Z (dE (eJ (aKh () (bE (iv Z (by omega)) (bE Z (bE Z (bE Z (bE Z (bE Z (bE Z (bE Z (bE Z (bE Z dZ)))))))))) gK ?_))))
     exact hM4
    ·refine aM (cR ?_)
     refine bX (q1 - 1,r1+y1) (bE Z (bE Z (bE Z (bE Z (bE Z (bE Z (bE Z (bE Z (bE Z (bE Z (bE Z dZ))))))))))) gK ?_ ?_
     ·exact ⟨⟨by omega,D'r1⟩,hM4⟩
     ·(show q1 - 1 < q1;omega)
   ·refine aQ Z Z (aQ Z Z (wq (cA (.int _ _) Z Z Z) Z (aL 72 (.int .u64 ((q1*y0:Nat):Int)) (iE (lX q1 y0 (by have:=bNe (q:=q1) (y0:=y0) (by omega) (by omega);omega))) (aQ Z Z (wq (aTq Z Z (lO _ (by omega) (by omega))) Z (aQ Z Z (wq (jN Z Z (lO _ (by omega) (by omega))) Z (cX Z Z Z Z (wq (bR false (.bool (decide _)) Z Z) Z (aB (aC ?_)))))))))))
    refine aU Z (fun h78 => ?_) (fun h78 => ?_)
    ·refine aM (aC (aP (aE (aA (aQ Z Z ?_)))))
     have hsr1:=aDu (u:=U) (d:=d1) (by omega) (by omega) Dr1 (by first | exact .inl (by omega) | exact .inr (by omega))
     have hlr1:=aMd hy1 (by omega) Dr1
     have hqr1:=hsr1.1
     have D'r1:=hsr1.2
     refine wq (nR Z Z (lO _ (by omega) (by omega))) Z (aL 80 (.int .u64 ((q1 - 1:Nat):Int)) (iE (by omega)) (bK Z Z (aB (aC (aE (aA (aQ Z Z (aQ Z Z (wq (jN Z Z (lO _ (by omega) (by omega))) Z (aL 83 (.int .u64 ((r1+y1:Nat):Int)) (iE (by omega)) (bK Z Z (aB (aC (aE (aA (aQ Z Z (cX Z Z Z Z (aB (aC ?_)))))))))))))))))))
     refine aU Z (fun h85 => ?_) (fun h85 => ?_)
     ·have hxr1:q1 - 1=Q1:=(yM (by omega) (by omega) (by omega) D'r1 (by omega)).trans V.eQ1
      refine cN (bIk Z (dE (eJ (aKh () (bE (iv Z (by omega)) (bE Z (bE Z (bE Z (bE Z (bE Z (bE Z (bE Z (bE Z (bE Z dZ)))))))))) gK ?_))))
      exact hM4
     ·refine aM (cR ?_)
      refine bX (q1 - 1,r1+y1) (bE Z (bE Z (bE Z (bE Z (bE Z (bE Z (bE Z (bE Z (bE Z (bE Z (bE Z dZ))))))))))) gK ?_ ?_
      ·exact ⟨⟨by omega,D'r1⟩,hM4⟩
      ·(show q1 - 1 < q1;omega)
    ·have hxr1:q1=Q1:=(aMc (by omega) Dr1 (by omega)).trans V.eQ1
     refine cN (dC (dE (eJ (aKh () (bE (iv Z (by omega)) (bE Z (bE Z (bE Z (bE Z (bE Z (bE Z (bE Z (bE Z (bE Z dZ)))))))))) gK ?_))))
     exact hM4
  ·rintro _ ρ3 w3 hM3
   refine aE (aA (aQ Z Z (wq (cA (.int _ _) Z Z Z) Z (aQ Z Z (wq (cA (.int _ _) Z Z Z) Z (aQ Z Z (aL 90 (.int .u64 (Q1:Int)) (iE (by omega)) (aQ Z Z (wq (cA (.int _ _) Z Z Z) Z (aL 92 (.int .u64 ((Q1*Y % 18446744073709551616:Nat):Int)) (iE (bNq Q1 Y)) (wq (cA (.int _ _) Z Z Z) Z (aL 93 (.int .u64 (U2:Int)) (iE (by have:=V.eU2;rw [gS,gS,gS];omega)) (bK Z Z (aB (aC (aE (aA (aQ Z Z (aQ Z Z ?_)))))))))))))))))))
   refine wq (gA Z Z (by omega)) Z (aL 96 (.int .u64 (p2:Int)) (iE ((jL U2 y1 (by omega)).trans (congrArg _ hp2))) (bK Z Z (aB (aC (aE (aA (aQ Z Z (aQ Z Z (aQ Z Z (wq (cA (.int _ _) Z Z Z) Z (aL 100 (.int .u64 (P2:Int)) (iE ((lX p2 y1 (by omega)).trans (congrArg _ hP2))) (wq (nR Z Z (lO _ (by omega) (by omega))) Z (aL 101 (.int .u64 (z2:Int)) (iE (by omega)) (bK Z Z (aB (aC ?_))))))))))))))))
   refine bBm (σ:=Unit) [] (fun _=>[(18,.int .u64 (Q0:Int)),(6,.int .u64 0),(7,.int .u64 0),(2,.int .u64 (Y:Int)),(8,.int .u64 (s:Int)),(14,.int .u64 (d0:Int)),(15,.int .u64 (Q1:Int)),(17,.int .u64 (U2:Int))]) (fun _ w'=>Mem w [] [] w') ?_ ?_
   ·refine aP (dG (σ:=Nat × Nat) [] (fun (q0,r0)=>[(18,.int .u64 (q0:Int)),(16,.int .u64 (r0:Int)),(6,.int .u64 0),(7,.int .u64 0),(2,.int .u64 (Y:Int)),(8,.int .u64 (s:Int)),(14,.int .u64 (d0:Int)),(15,.int .u64 (Q1:Int)),(17,.int .u64 (U2:Int)),(9,.int .u64 (y1:Int)),(10,.int .u64 (y0:Int))]) (fun (q0,r0) w'=>(r0 < 4294967296∧Dg U2 y1 y0 d0 q0 r0)∧Mem w [] [] w') (fun (q0,r0)=>q0) (p2,z2) (bE Z (bE Z (bE Z (bE Z (bE Z (bE Z (bE Z (bE Z (bE Z (bE Z (bE Z dZ))))))))))) (⟨⟨by omega,DU2⟩,hM3⟩) ?_)
    rintro ⟨q0,r0⟩ ρ6 w6 ⟨⟨hr0,Dr0⟩,hM6⟩
    refine aE (aE (aA (aQ Z Z (cX Z Z Z Z (wq (aH (.bool (decide _)) Z) Z ?_)))))
    refine dQ 104 Z (fun g104 => ?_) (fun g104 => ?_)
    ·refine aN Z Z (aN Z Z (aN Z Z (aN Z Z (aN Z Z (aN Z Z (aN Z Z (aN Z Z (wq (bR true (.bool true) Z Z) Z (aB (aC (cE Z (aM (aC (aP (aE (aA (aQ Z Z ?_)))))))))))))))))
     have hsr0:=aDu (u:=U2) (d:=d0) (by omega) (by omega) Dr0 (by first | exact .inl (by omega) | exact .inr (by omega))
     have hlr0:=aMd hy1 (by omega) Dr0
     have hqr0:=hsr0.1
     have D'r0:=hsr0.2
     refine wq (nR Z Z (lO _ (by omega) (by omega))) Z (aL 115 (.int .u64 ((q0 - 1:Nat):Int)) (iE (by omega)) (bK Z Z (aB (aC (aE (aA (aQ Z Z (aQ Z Z (wq (jN Z Z (lO _ (by omega) (by omega))) Z (aL 118 (.int .u64 ((r0+y1:Nat):Int)) (iE (by omega)) (bK Z Z (aB (aC (aE (aA (aQ Z Z (cX Z Z Z Z (aB (aC ?_)))))))))))))))))))
     refine aU Z (fun h120 => ?_) (fun h120 => ?_)
     ·have hxr0:q0 - 1=Q0:=(yM (by omega) (by omega) (by omega) D'r0 (by omega)).trans V.eQ0
      refine cN (bIk Z (dE (eJ (aKh () (bE (iv Z (by omega)) (bE Z (bE Z (bE Z (bE Z (bE Z (bE Z (bE Z dZ)))))))) gK ?_))))
      exact hM6
     ·refine aM (cR ?_)
      refine bX (q0 - 1,r0+y1) (bE Z (bE Z (bE Z (bE Z (bE Z (bE Z (bE Z (bE Z (bE Z (bE Z (bE Z dZ))))))))))) gK ?_ ?_
      ·exact ⟨⟨by omega,D'r0⟩,hM6⟩
      ·(show q0 - 1 < q0;omega)
    ·refine aQ Z Z (aQ Z Z (wq (cA (.int _ _) Z Z Z) Z (aL 107 (.int .u64 ((q0*y0:Nat):Int)) (iE (lX q0 y0 (by have:=bNe (q:=q0) (y0:=y0) (by omega) (by omega);omega))) (aQ Z Z (wq (aTq Z Z (lO _ (by omega) (by omega))) Z (aQ Z Z (wq (jN Z Z (lO _ (by omega) (by omega))) Z (cX Z Z Z Z (wq (bR false (.bool (decide _)) Z Z) Z (aB (aC ?_)))))))))))
     refine aU Z (fun h113 => ?_) (fun h113 => ?_)
     ·refine aM (aC (aP (aE (aA (aQ Z Z ?_)))))
      have hsr0:=aDu (u:=U2) (d:=d0) (by omega) (by omega) Dr0 (by first | exact .inl (by omega) | exact .inr (by omega))
      have hlr0:=aMd hy1 (by omega) Dr0
      have hqr0:=hsr0.1
      have D'r0:=hsr0.2
      refine wq (nR Z Z (lO _ (by omega) (by omega))) Z (aL 115 (.int .u64 ((q0 - 1:Nat):Int)) (iE (by omega)) (bK Z Z (aB (aC (aE (aA (aQ Z Z (aQ Z Z (wq (jN Z Z (lO _ (by omega) (by omega))) Z (aL 118 (.int .u64 ((r0+y1:Nat):Int)) (iE (by omega)) (bK Z Z (aB (aC (aE (aA (aQ Z Z (cX Z Z Z Z (aB (aC ?_)))))))))))))))))))
      refine aU Z (fun h120 => ?_) (fun h120 => ?_)
      ·have hxr0:q0 - 1=Q0:=(yM (by omega) (by omega) (by omega) D'r0 (by omega)).trans V.eQ0
       refine cN (bIk Z (dE (eJ (aKh () (bE (iv Z (by omega)) (bE Z (bE Z (bE Z (bE Z (bE Z (bE Z (bE Z dZ)))))))) gK ?_))))
       exact hM6
      ·refine aM (cR ?_)
       refine bX (q0 - 1,r0+y1) (bE Z (bE Z (bE Z (bE Z (bE Z (bE Z (bE Z (bE Z (bE Z (bE Z (bE Z dZ))))))))))) gK ?_ ?_
       ·exact ⟨⟨by omega,D'r0⟩,hM6⟩
       ·(show q0 - 1 < q0;omega)
     ·have hxr0:q0=Q0:=(aMc (by omega) Dr0 (by omega)).trans V.eQ0
      refine cN (dC (dE (eJ (aKh () (bE (iv Z (by omega)) (bE Z (bE Z (bE Z (bE Z (bE Z (bE Z (bE Z dZ)))))))) gK ?_))))
      exact hM6
   ·rintro _ ρ5 w5 hM5
    refine aE (aA (aQ Z Z (aL 121 (.int .u64 (Q1:Int)) (iE (by omega)) (wq (aTq Z Z (lO _ (by omega) (by omega))) Z (aQ Z Z (aL 123 (.int .u64 (Q0:Int)) (iE (by omega)) (wq (jN Z Z (lO _ (by omega) (by omega))) Z (aQ Z Z (wq (cA (.int _ _) Z Z Z) Z (aQ Z Z (wq (cA (.int _ _) Z Z Z) Z (aQ Z Z (aL 129 (.int .u64 (Q0:Int)) (iE (by omega)) (aQ Z Z (wq (cA (.int _ _) Z Z Z) Z (aL 131 (.int .u64 ((Q0*Y % 18446744073709551616:Nat):Int)) (iE (bNq Q0 Y)) ?_))))))))))))))))
    refine wq (cA (.int _ _) Z Z Z) Z (aL 132 (.int .u64 (R:Int)) (iE (by have:=V.eR;rw [gS,gS,gS];omega)) (aQ Z Z (wq (kK Z Z (by omega)) Z (aL 134 (.int .u64 ((R / 2 ^ s:Nat):Int)) (iE (aLe R s _ Z (by omega))) (bK Z Z (bK Z Z (aB (aC (aO (fX (.int _ _) (.int _ _) Z Z ?_))))))))))
    exact ⟨by rw [V.fq,V.fr];exact uW (iE (by omega)) Z,hM5.below⟩
theorem mO (w:World) (a:Int) (h0 : -9223372036854775808≤a) (h1:a≤9223372036854775807) :
  Calls prog 197 #[.int .i64 a] w (Rb w (.int .u64 ((a.natAbs:Nat):Int))):=by
 refine aI #[.tmp 2] 10 func197 Z results197 ntmps197 Z ?_
 have M0:=Mem.refl w
 refine aE (aA (bK Z Z (aB (aC (aE (aE (aA (aQ Z Z (cX Z Z Z Z (aB (aC ?_)))))))))))
 refine aU Z (fun h4 => ?_) (fun h4 => ?_)
 ·refine aE (aA (aQ Z Z (wq (dF mV underlying193 Z) Z (wq (sE Z) Z (aL 7 (.int .u64 ((a.natAbs:Nat):Int)) (iE (by rw [gS,gS];omega)) (bK Z Z (aB (aC (aO (cO (cI (.int _ _) Z ?_)))))))))))
  exact ⟨Z,M0.below⟩
 ·refine aM (aC (aE (aA (aQ Z Z (wq (dF mV underlying193 Z) Z (aL 9 (.int .u64 ((a.natAbs:Nat):Int)) (iE (by rw [gS];omega)) (bK Z Z (aB (aC (aO (cI (.int _ _) Z ?_)))))))))))
  exact ⟨Z,M0.below⟩
theorem aNn (w:World) (s:Bool) :
  Calls prog 199 #[.bool s] w (gH (fun v w'=>∃ b,v=.func (.func 223) #[] #[.pointer (some ⟨b,0,none⟩)]∧Mem w [] [(some b,bc [.bool s] 4)] w')):=by
 refine aI #[.tmp 2] 4 func199 Z results199 ntmps199 Z ?_
 have M0:=Mem.refl w
 refine aE (aA (bN (.bool _) M0 Z Z Z (fun b1 w1 M1=>(wq (aJ (_) Z) Z (aB (aC (aE (aA (wq (dU [] [.pointer _] Z Z) Z (wq (aJ (.func _ _ _) Z) Z (aB (aC (aO (cI (.func _ _ _) Z ?_))))))))))))))
 exact ⟨b1,Z,M1⟩
theorem aEc (w:World) (q:Nat) (s:Bool) (b:Nat) (hq:q≤4611686018427387904) (K:Rd w 1 (some ⟨b,0,none⟩) 1 [[.bool s]]) :
  Calls prog 223 #[.int .u64 (q:Int),.pointer (some ⟨b,0,none⟩)] w (Rb w (.tuple #[.int .i64 (if s=true then -(q:Int) else (q:Int)),.bool true])):=by
 rw [← hJ b]
 refine aI #[.tmp 3,.tmp 4] 15 func223 Z results223 ntmps223 Z ?_
 have M0:=Mem.refl w
 refine aE (aA (bK Z Z (wq (aJ (.bool false) Z) Z (aB (aC (aE (aE (aA (wq (dM (o:=0) (.bool _) sV (K.mem M0) (show ([[.bool s]]:List (List Value))[0]? = some [.bool s] from Z) Z Z) Z (aB (aC ?_)))))))))))
 refine iL _ Z (fun h5 => ?_) (fun h5 => ?_)
 ·refine aE (aA (aQ Z Z (wq (sE Z) Z (wq (dF xE underlying2 Z) Z (aL 8 (.int .i64 (-(q:Int))) (iE (aNq q hq)) (aQ Z Z (cX Z Z Z Z (kR 10 Z (by omega) (bK Z Z (wq (aJ (.bool true) Z) Z (aB (aC (aO (cO (fX (.int _ _) (.bool true) Z Z ?_)))))))))))))))
  exact ⟨by simp [h5],M0.below⟩
 ·refine aM (aC (aE (aA (aQ Z Z (wq (bH xE underlying2 Z (fJ _ (by omega) (by omega))) Z (aQ Z Z (cX Z Z Z Z (kR 14 Z (by omega) (bK Z Z (wq (aJ (.bool true) Z) Z (aB (aC (aO (fX (.int _ _) (.bool true) Z Z ?_))))))))))))))
  exact ⟨by simp [h5],M0.below⟩
theorem bRs (w:World) (a n d:Int) (ha : -4294967296≤a∧a≤4294967296) (hn:0≤n) (hnd:n≤d) (hd0:0 < d) (hd:d≤9223372036854775807) :
  Calls prog 173 #[.int .i64 a,.int .i64 n,.int .i64 d] w (Rb w (.tuple #[.int .i64 (a*n / d),.int .i64 0])):=by
 obtain ⟨m,rfl⟩:=Int.eq_ofNat_of_zero_le hn
 obtain ⟨z,rfl⟩:=Int.eq_ofNat_of_zero_le (Int.le_of_lt hd0)
 have hmd:=aQa (a:=a) (m:=m) (z:=z) ha (by omega) (by omega) (by omega)
 obtain ⟨q,hq⟩:∃ q,a.natAbs*m / z=q:=⟨_,rfl⟩
 obtain ⟨r,hr⟩:∃ r,a.natAbs*m % z=r:=⟨_,rfl⟩
 have hql:q≤4294967296:=by rw [← hq];exact hmd.2.2.2
 refine aI #[.tmp 6,.tmp 7] 65 func173 Z results173 ntmps173 Z ?_
 have M0:=Mem.refl w
 refine aE (aA (bK Z Z (bK Z Z (aB (aC (aE (aE (aA (aQ Z Z (cX Z Z Z Z (pD 17 Z (by omega) (aB (aC (cG Z (aM (aC (aE (aA (aQ Z Z (dN tQ Z Z M0 (mO _ a (by omega) (by omega)) (fun w1 M1=>(aQ Z Z (dN tQ Z Z M1 (mO _ (m:Int) (by omega) (by omega)) (fun w2 M2=>(aL 22 (.int .u64 (m:Int)) (iE (by omega)) (dN aSb Z Z M2 (bFq _ a.natAbs m (by omega) (by omega)) (fun w3 M3 => ?_)))))))))))))))))))))))))))
 refine wq (aH (.tuple (List.toArray _)) Z) Z (wq (bM (.int _ _) Z Z) Z (wq (bM (.int _ _) Z Z) Z (bK Z Z (bK Z Z (aB (aC (aE (aA (aQ Z Z (dN tQ Z Z M3 (mO _ (z:Int) (by omega) (by omega)) (fun w4 M4=>(aL 27 (.int .u64 (z:Int)) (iE (by omega)) (bK Z Z (aB (aC (aE (aE (aA (aQ Z Z (aQ Z Z (cX Z Z Z Z (pD 30 Z (by have:=hmd.1;omega) (aB (aC ?_))))))))))))))))))))))))
 refine cG Z (aM (aC (aE (aA (aQ Z Z (aQ Z Z (aQ Z Z (dN bCv Z Z M4 (bNg _ (a.natAbs*m / 18446744073709551616) (a.natAbs*m % 18446744073709551616) z hmd.1 (by omega) hmd.2.1) (fun w5 M5=>(wq (aH (.tuple (List.toArray _)) Z) Z (wq (bM (.int _ _) Z Z) Z (aL 36 (.int .u64 (q:Int)) (iE (by rw [hmd.2.2.1,hq])) (wq (bM (.int _ _) Z Z) Z (aL 37 (.int .u64 (r:Int)) (iE (by rw [hmd.2.2.1,hr])) (bK Z Z (bK Z Z (aB (aC (aE (aA (aQ Z Z (cX Z Z Z Z ?_))))))))))))))))))))))
 refine aQ rfl rfl (cX rfl rfl rfl rfl (pD 41 rfl (by omega) (wq (uK _ underlying4 rfl rfl rfl) rfl (aL 42 (.bool (decide (a < 0))) (bv rfl (by simp)) (aQ rfl rfl (cX rfl rfl rfl rfl (pD 44 rfl (by omega) (wq (uK _ underlying4 rfl rfl rfl) rfl (aL 45 (.bool (decide (a < 0))) (bv rfl (by simp)) (wq (aJ (.bool (decide _)) rfl) rfl (aB (aC (aE (aE (aA (wq (aH (.bool (decide _)) rfl) rfl (wq (aH (.bool (decide _)) rfl) rfl ?_)))))))))))))))))
 refine dQ 47 Z (fun g47 => ?_) (fun g47 => ?_)
 ·refine aQ Z Z (cX Z Z Z Z (wq (bR true (.bool (decide _)) Z Z) Z (aB (aC ?_))))
  refine aU Z (fun h50 => ?_) (fun h50 => ?_)
  ·refine aE (aA (aQ Z Z (wq (cA (.int _ _) Z Z Z) Z (aL 52 (.int .u64 ((q+1:Nat):Int)) (iE (by rw [gS];omega)) (bK Z Z (aB (aC (aE (aA (aQ Z Z (cX Z Z Z Z (pD 54 Z (by omega) (aB (aC (cG Z (aM (aC (aE (aA (wq (aH (.bool (decide _)) Z) Z (eP aLs Z Z (aNn _ _) ?_)))))))))))))))))))))
   rintro v6 w6 ⟨bs,rfl,hM6⟩
   have M6:Mem _ _ [_] _:=M5.call0 hM6
   refine aQ Z Z (dN aLu Z Z M6 (aEc _ _ _ bs (by omega) (qP 0 M6 Z Z)) (fun w7 M7=>(wq (aH (.tuple (List.toArray _)) Z) Z (wq (bM (.int _ _) Z Z) Z (wq (bM (.bool true) Z Z) Z (bK Z Z (wq (aJ (.bool true) Z) Z (aB (aC (aE (aE (aA (wq (aH (.bool true) Z) Z (wq (gR false Z Z) Z (aB (aC (cG Z (aM (aC (aE (aA (aQ Z Z (bK Z Z (bK Z Z ?_))))))))))))))))))))))))
   refine aB (aC (aO (fX (.int _ _) (.int _ _) Z Z ?_)))
   exact ⟨uW (iE (by first | (rw [if_pos (decide_eq_true (by omega)),aMs (by omega) (by omega),hq,hr];split <;> omega) | (rw [if_neg (by simp;omega),← aMt (by omega),hq]))) rfl,M7.below⟩
  ·refine aM (aC (aE (aA (wq (aH (.bool (decide _)) Z) Z (eP aLs Z Z (aNn _ _) ?_)))))
   rintro v8 w8 ⟨bs,rfl,hM8⟩
   have M8:Mem _ _ [_] _:=M5.call0 hM8
   refine aQ Z Z (dN aLu Z Z M8 (aEc _ _ _ bs (by omega) (qP 0 M8 Z Z)) (fun w9 M9=>(wq (aH (.tuple (List.toArray _)) Z) Z (wq (bM (.int _ _) Z Z) Z (wq (bM (.bool true) Z Z) Z (bK Z Z (wq (aJ (.bool true) Z) Z (aB (aC (aE (aE (aA (wq (aH (.bool true) Z) Z (wq (gR false Z Z) Z (aB (aC (cG Z (aM (aC (aE (aA (aQ Z Z (bK Z Z (bK Z Z ?_))))))))))))))))))))))))
   refine aB (aC (aO (fX (.int _ _) (.int _ _) Z Z ?_)))
   exact ⟨uW (iE (by first | (rw [if_pos (decide_eq_true (by omega)),aMs (by omega) (by omega),hq,hr];split <;> omega) | (rw [if_neg (by simp;omega),← aMt (by omega),hq]))) rfl,M9.below⟩
 ·refine aN Z Z (aN Z Z (wq (bR false (.bool false) Z Z) Z (aB (aC (cG Z (aM (aC (aE (aA (wq (aH (.bool (decide _)) Z) Z (eP aLs Z Z (aNn _ _) ?_)))))))))))
  rintro v10 w10 ⟨bs,rfl,hM10⟩
  have M10:Mem _ _ [_] _:=M5.call0 hM10
  refine aQ Z Z (dN aLu Z Z M10 (aEc _ _ _ bs (by omega) (qP 0 M10 Z Z)) (fun w11 M11=>(wq (aH (.tuple (List.toArray _)) Z) Z (wq (bM (.int _ _) Z Z) Z (wq (bM (.bool true) Z Z) Z (bK Z Z (wq (aJ (.bool true) Z) Z (aB (aC (aE (aE (aA (wq (aH (.bool true) Z) Z (wq (gR false Z Z) Z (aB (aC (cG Z (aM (aC (aE (aA (aQ Z Z (bK Z Z (bK Z Z ?_))))))))))))))))))))))))
  refine aB (aC (aO (fX (.int _ _) (.int _ _) Z Z ?_)))
  exact ⟨uW (iE (by first | (rw [if_pos (decide_eq_true (by omega)),aMs (by omega) (by omega),hq,hr];split <;> omega) | (rw [if_neg (by simp;omega),← aMt (by omega),hq]))) rfl,M11.below⟩
end Go.Proofs.YtpcloigancpnbaaGreatDoor
