/- Part of the proof of a law of this seat (2 texts). No conditions. -/
import Derived.Test.YtpcloigancpnbaaGreatDoorK12
import Derived.Test.YtpcloigancpnbaaGreatDoorK14
import Derived.Test.YtpcloigancpnbaaGreatDoorK18
import Derived.Test.YtpcloigancpnbaaGreatDoorK19
import Derived.Shelf.Spec.BitsCarry
set_option linter.unusedVariables false
set_option linter.unusedSimpArgs false
set_option linter.unnecessarySimpa false
set_option maxHeartbeats 100000000
namespace Go.Proofs.YtpcloigancpnbaaGreatDoor
open Go.Bil
open Go.RowKit (Below)
open Go.Proofs
open Go.Proofs.Tryz
theorem bTu (x y:Nat) {w:World}:(callFunc 257 #[.int .u64 (x:Int),.int .u64 (y:Int),.int .u64 0]).run prog w=.ok (.value (.tuple #[.int .u64 (((x+y) % 18446744073709551616:Nat):Int),.int .u64 (((x+y) / 18446744073709551616:Nat):Int)])) w:=Any7.bits_Add64 aYe x y 0 (by omega) w
theorem aMw (w:World) (a n d:Int) (ha:0≤a) (hn:0≤n) (ha2:a≤4611686018427387904) (hn2:n≤4611686018427387904) (hp:a*n≤4611686018427387904) (hd0:0 < d) (hd:d≤9223372036854775807) :
  Calls prog 173 #[.int .i64 a,.int .i64 n,.int .i64 d] w (Rb w (.tuple #[.int .i64 (a*n / d),.int .i64 0])):=by
 obtain ⟨k,rfl⟩:=Int.eq_ofNat_of_zero_le ha
 obtain ⟨m,rfl⟩:=Int.eq_ofNat_of_zero_le hn
 obtain ⟨z,rfl⟩:=Int.eq_ofNat_of_zero_le (Int.le_of_lt hd0)
 obtain ⟨p,hpp⟩:∃ p,k*m=p:=⟨_,rfl⟩
 have hpi:(k:Int)*(m:Int)=(p:Int):=by rw [← hpp,Int.natCast_mul]
 rw [hpi] at hp
 have hql:p / z≤p:=Nat.div_le_self _ _
 refine aI #[.tmp 6,.tmp 7] 65 func173 Z results173 ntmps173 Z ?_
 have M0:=Mem.refl w
 refine aE (aA (bJ Z Z (bJ Z Z (aB (aC (aE (aE (aA (aR Z Z (cY Z Z Z Z (oZ 17 Z (by omega) (aB (aC (cF Z (aM (aC (aE (aA (aR Z Z (dO tV Z Z M0 (mV _ (k:Int) (by omega) (by omega)) (fun w1 M1=>(aL 20 (.int .u64 (k:Int)) (iE (by omega)) (aR Z Z (dO tV Z Z M1 (mV _ (m:Int) (by omega) (by omega)) (fun w2 M2=>(aL 22 (.int .u64 (m:Int)) (iE (by omega)) ?_))))))))))))))))))))))))))
 refine dO aSi Z Z M2 (bGe _ k m (by omega) (by omega)) (fun w3 M3=>(wq (aH (.tuple (List.toArray _)) Z) Z (wq (bM (.int _ _) Z Z) Z (aL 24 (.int .u64 ((0:Nat):Int)) (iE (congrArg _ (by rw [hpp];exact Nat.div_eq_of_lt (by omega)))) (wq (bM (.int _ _) Z Z) Z (aL 25 (.int .u64 (p:Int)) (iE (congrArg _ (by rw [hpp];exact Nat.mod_eq_of_lt (by omega)))) (bJ Z Z (bJ Z Z (aB (aC (aE (aA (aR Z Z (dO tV Z Z M3 (mV _ (z:Int) (by omega) (by omega)) (fun w4 M4=>(aL 27 (.int .u64 (z:Int)) (iE (by omega)) (bJ Z Z ?_)))))))))))))))))
 refine aB (aC (aE (aE (aA (aR Z Z (aR Z Z (cY Z Z Z Z (oZ 30 Z (by omega) (aB (aC (cF Z (aM (aC (aE (aA (aR Z Z (aR Z Z (aR Z Z (dO bDi Z Z M4 (bNv _ 0 p z (by omega) (by omega) (by omega)) (fun w5 M5=>(wq (aH (.tuple (List.toArray _)) Z) Z (wq (bM (.int _ _) Z Z) Z (aL 36 (.int .u64 ((p / z:Nat):Int)) (iE (by rw [Nat.zero_mul,Nat.zero_add])) (wq (bM (.int _ _) Z Z) Z ?_))))))))))))))))))))))))
 refine bJ Z Z (bJ Z Z (aB (aC (aE (aA (aR Z Z (cY Z Z Z Z (oZ 39 Z (by omega) (aR Z Z (cY Z Z Z Z (oZ 41 Z (by omega) (wq (tF _ underlying4 Z Z Z) Z (aL 42 (.bool false) Z (aR Z Z (cY Z Z Z Z (oZ 44 Z (by omega) (wq (tF _ underlying4 Z Z Z) Z (aL 45 (.bool false) Z ?_))))))))))))))))))
 refine wq (aJ (.bool false) Z) Z (aB (aC (aE (aE (aA (wq (aH (.bool false) Z) Z (wq (aH (.bool false) Z) Z (aN Z Z (aN Z Z (wq (bQ false (.bool false) Z Z) Z (aB (aC (cF Z (aM (aC (aE (aA (wq (aH (.bool false) Z) Z (eL aLs Z Z (aNm _ false) ?_)))))))))))))))))))
 rintro v6 w6 ⟨bs,rfl,hM6⟩
 have M6:Mem _ _ [_] _:=M5.call0 hM6
 refine aR Z Z (dO aLu Z Z M6 (aEg _ (p / z) false bs (by omega) (qT 0 M6 Z Z)) (fun w7 M7=>(wq (aH (.tuple (List.toArray _)) Z) Z (wq (bM (.int _ _) Z Z) Z (wq (bM (.bool true) Z Z) Z (bJ Z Z (wq (aJ (.bool true) Z) Z (aB (aC (aE (aE (aA (wq (aH (.bool true) Z) Z (wq (gV false Z Z) Z (aB (aC (cF Z (aM (aC (aE (aA (aR Z Z (bJ Z Z (bJ Z Z ?_))))))))))))))))))))))))
 refine aB (aC (aP (gA (.int _ _) (.int _ _) Z Z ?_)))
 exact ⟨uZ (iE (by rw [hpi];simp)) rfl,M7.below⟩
theorem bIj (w:World) (a b:Int) (ha:0≤a) (ha2:a≤4611686018427387904) (hb0 : -4611686018427387904≤b) (hb1:b≤4611686018427387904) (hp : -4611686018427387904≤a*b∧a*b≤4611686018427387904) :
  Calls prog 255 #[.int .i64 a,.int .i64 b] w (gK (fun v w'=>∃ (h:Int) (l:Nat),v=.tuple #[.int .i64 h,.int .u64 (l:Int)]∧MulR a b h l∧Below w.heap.size w w')):=by
 obtain ⟨k,rfl⟩:=Int.eq_ofNat_of_zero_le ha
 obtain ⟨p,hpp⟩:∃ p,k*b.natAbs=p:=⟨_,rfl⟩
 have hpi:(k:Int)*(b.natAbs:Int)=(p:Int):=by rw [← hpp,Int.natCast_mul]
 have hneg:b < 0→(k:Int)*b = -(p:Int):=fun g=>by rw [← hpi,← Int.mul_neg];congr 1;omega
 have hpos:¬ b < 0→(k:Int)*b=(p:Int):=fun g=>by rw [← hpi];congr 1;omega
 have hpl:p≤4611686018427387904:=by by_cases g:b < 0;(have:=hneg g;omega);(have:=hpos g;omega)
 refine aI #[.tmp 4,.tmp 5] 35 func255 Z results255 ntmps255 Z ?_
 have M0:=Mem.refl w
 refine aE (aA (bJ Z Z (bJ Z Z (aB (aC (aE (aA (aR Z Z (dO tV Z Z M0 (mV _ (k:Int) (by omega) (by omega)) (fun w1 M1=>(aL 11 (.int .u64 (k:Int)) (iE (by omega)) (aR Z Z (dO tV Z Z M1 (mV _ b (by omega) (by omega)) (fun w2 M2=>(dO aSi Z Z M2 (bGe _ k b.natAbs (by omega) (by omega)) (fun w3 M3=>(wq (aH (.tuple (List.toArray _)) Z) Z (wq (bM (.int _ _) Z Z) Z (aL 15 (.int .u64 ((0:Nat):Int)) (iE (congrArg _ (by rw [hpp];exact Nat.div_eq_of_lt (by omega)))) (wq (bM (.int _ _) Z Z) Z ?_))))))))))))))))))))
 refine aL 16 (.int .u64 (p:Int)) (iE (congrArg _ (by rw [hpp];exact Nat.mod_eq_of_lt (by omega)))) (bJ rfl rfl (bJ rfl rfl (aB (aC (aE (aE (aA (aR rfl rfl (cY rfl rfl rfl rfl (oZ 18 rfl (by omega) (aR rfl rfl (cY rfl rfl rfl rfl (wq (tF _ underlying4 rfl rfl rfl) rfl (aL 21 (.bool (decide (b < 0))) (bv rfl (by simp)) (aB (aC ?_))))))))))))))))
 refine aW Z (fun h21 => ?_) (fun h21 => ?_)
 ·refine aE (aA (bJ Z Z (aB (aC (aE (aA (aR Z Z (wq (aXi Z) Z (aL 24 (.int .u64 ((18446744073709551615 - p:Nat):Int)) (iE (aWe p (by omega))) (wq (bGu Z (bTu (18446744073709551615 - p) 1)) Z (wq (aH (.tuple (List.toArray _)) Z) Z (wq (bM (.int _ _) Z Z) Z (aL 26 (.int .u64 (((18446744073709551616 - p) % 18446744073709551616:Nat):Int)) (iE (by omega)) (wq (bM (.int _ _) Z Z) Z (aL 27 (.int .u64 ((if p=0 then 1 else 0:Nat):Int)) (iE (by split <;> omega)) (bJ Z Z (bJ Z Z (aB (aC (aA ?_))))))))))))))))))))
  refine aR Z Z (wq (aXi Z) Z (aL 29 (.int .u64 ((18446744073709551615:Nat):Int)) (iE (aWe 0 (by omega))) (aR Z Z (wq (cE (.int _ _) Z Z Z) Z (aL 31 (.int .u64 ((if p=0 then 0 else 18446744073709551615:Nat):Int)) (iE (by rw [gX];split <;> omega)) (bJ Z Z (aB (aC (aE (aA (aR Z Z (wq (dF xG underlying2 Z) Z (aL 33 (.int .i64 (if p=0 then 0 else -1)) (iE (by rw [wrI];split <;> omega)) (aR Z Z (bJ Z Z (bJ Z Z (aB (aC (aP (gA (.int _ _) (.int _ _) Z Z ?_))))))))))))))))))))
  exact ⟨_,_,Z,MulR.neg (hneg h21) hpl,M3.below⟩
 ·refine aM (aC (aE (aA (aR Z Z (wq (dF xG underlying2 Z) Z (aL 33 (.int .i64 0) (iE (by rw [wrI];omega)) (aR Z Z (bJ Z Z (bJ Z Z (aB (aC (aP (gA (.int _ _) (.int _ _) Z Z ?_)))))))))))))
  exact ⟨_,_,Z,MulR.pos (hpos h21) hpl,M3.below⟩
theorem aJi (w:World) (a b:Int) (ha:0≤a) (ha2:a≤4611686018427387904) (hb0 : -4611686018427387904≤b) (hb1:b≤4611686018427387904) (hp : -4611686018427387904≤a*b∧a*b≤4611686018427387904) :
  Calls prog 249 #[.int .i64 a,.int .i64 b,.int .i64 16] w (Rb w (.tuple #[.int .i64 (a*b / 65536),.int .i64 0])):=by
 refine aI #[.tmp 6,.tmp 7] 47 func249 Z results249 ntmps249 Z ?_
 have M0:=Mem.refl w
 refine aE (aA (bJ Z Z (bJ Z Z (aB (aC (aE (aE (aA (aR Z Z (cY Z Z Z Z (oZ 12 Z (by first | decide | omega) (wq (aH (.bool false) Z) Z (aR Z Z (cY Z Z Z Z (oZ 15 Z (by first | decide | omega) (wq (bQ false (.bool false) Z Z) Z (aB (aC (cF Z (aM (aC (aE (aA (aR Z Z ?_))))))))))))))))))))))))
 refine aR Z Z (eL bRw Z Z (bIj _ a b ha ha2 hb0 hb1 hp) ?_)
 rintro v1 w1 ⟨h,l,rfl,hml,hb1⟩
 have M1:=M0.callB hb1
 have hll:=hml.low
 obtain ⟨H,B,hH,hB,⟨q,hq⟩,hl4,hBl,hlo,hh1,hh2⟩:=hml.high
 refine wq (aH (.tuple (List.toArray _)) Z) Z (wq (bM (.int _ _) Z Z) Z (wq (bM (.int _ _) Z Z) Z (bJ Z Z (bJ Z Z (aB (aC (aE (aA (aR Z Z (aR Z Z (wq (bG us3 underlying136 Z (lS _ (by omega) (by omega))) Z (wq (kQ Z Z (by omega)) Z (aL 26 (.int .u64 ((l / 65536:Nat):Int)) (iE (aLd l 16 _ Z (by omega))) (aR Z Z (wq (dF nE underlying193 Z) Z (aL 28 (.int .u64 (H:Int)) (iE hH) (aR Z Z (wq (gJ Z Z (by first | decide | omega) (by first | decide | omega)) Z ?_))))))))))))))))))
 refine aL 30 (.int .i64 48) (iE (by first | decide | omega)) (wq (bG us3 underlying136 Z (lS _ (by omega) (by omega))) Z (wq (zV Z Z (by omega)) Z (aL 32 (.int .u64 (B:Int)) (iE ((bIc H 48 _ Z (by omega)).trans (congrArg _ hB))) (wq (cE (.int _ _) Z Z Z) Z (aL 33 (.int .u64 ((l / 65536+B:Nat):Int)) (iE (bWo (l / 65536) q B 48 hq hl4 hBl)) (wq (dF xG underlying2 Z) Z (aL 34 (.int .i64 (a*b / 65536)) (iE hlo) (bJ Z Z (aB (aC (aE (aE (aA (aR Z Z (cY Z Z Z Z (oZ 36 Z (by first | decide | omega) ?_))))))))))))))))
 refine aB (aC (cF Z (aM (aC (aE (aE (aA (aR Z Z (aR Z Z (wq (bG us3 underlying136 Z (lS _ (by omega) (by omega))) Z (wq (kQ Z Z (by omega)) Z (aL 42 (.int .i64 h) (iE ((qY h).trans hh1)) (aR Z Z (wq (kQ Z Z (by decide)) Z (aL 44 (.int .i64 h) (iE ((bKj _).trans hh2)) (cY Z Z Z Z (oZ 45 Z (fun g=>g Z) (aB (aC (cF Z (aM (aC (aE (aA ?_))))))))))))))))))))))))
 refine aR Z Z (bJ Z Z (bJ Z Z (aB (aC (aP (gA (.int _ _) (.int _ _) Z Z ?_))))))
 exact ⟨Z,M1.below⟩
theorem aCm (w:World) (a b:Int) (ha:0≤a) (ha2:a≤4611686018427387904) (hb0 : -4611686018427387904≤b) (hb1:b≤4611686018427387904) (hp : -4611686018427387904≤a*b∧a*b≤4611686018427387904) :
  Calls prog 236 #[.int .i64 a,.int .i64 b] w (Rb w (.int .i64 (a*b / 65536))):=by
 refine aI #[.tmp 4] 14 func236 Z results236 ntmps236 Z ?_
 have M0:=Mem.refl w
 refine aE (aA (bJ Z Z (aB (aC (aE (aA (aR Z Z (aR Z Z (dO bRu Z Z M0 (aJi _ a b ha ha2 hb0 hb1 hp) (fun w1 M1=>(wq (aH (.tuple (List.toArray _)) Z) Z (wq (bM (.int _ _) Z Z) Z (wq (bM (.int _ _) Z Z) Z (bJ Z Z (bJ Z Z (aB (aC (aE (aA (aR Z Z (bJ Z Z (aB (aC (aP (cI (.int _ _) Z ?_)))))))))))))))))))))))))
 exact ⟨Z,M1.below⟩
theorem aMl (w:World) (c:Con) (a b:Body) (hc:Okn c) (ha:Okb a) (hb:Okb b) :
  Calls prog 234 #[.agg (cL c).toArray,(.agg (aF a).toArray),(.agg (aF b).toArray)] w (Rb w (.int .i64 (xK c a b))):=by
 have hr:=yL hc ha hb
 have hv1:=ha.v
 have hv2:=hb.v
 have hx:=hc.x
 have hy:=hc.y
 refine aI #[.tmp 6] 41 func234 Z results234 ntmps234 Z ?_
 have M0:=Mem.refl w
 refine aE (aA (bN (.agg (.mk _)) M0 Z Z Z (fun b1 w1 M1=>(bN (.agg (.mk _)) M1 Z Z Z (fun b2 w2 M2=>(bN (.agg (.mk _)) M2 Z Z Z (fun b3 w3 M3=>(bJ Z Z (aB (aC (aE (fY [(0,0),(1,0),(2,1),(3,0),(4,0),(5,0),(6,1),(7,0),(8,0),(9,0),(10,0),(11,1),(12,0),(13,0),(14,0),(15,1),(16,0),(17,0),(18,0),(19,0)] mixed M3 Z (by kernel_rfl) (fun w4 M4=>(aX Z Z Z (fun _=>aD 8 eC Z) (aX Z Z Z (fun _=>aD 0 cX Z) (bP Z Z Z (aK 2 (.int _ _) aY M4 Z Z Z) ?_))))))))))))))))
 refine aX Z Z Z (fun _=>bG dZ underlying2 Z (fL _ (by omega) (by omega))) (aX Z Z Z (fun _=>aD 8 eC Z) (aX Z Z Z (fun _=>aD 0 cX Z) (bP Z Z Z (aK 1 (.int _ _) aY M4 Z Z Z) (aX Z Z Z (fun _=>bG dZ underlying2 Z (fL _ (by omega) (by omega))) (aX Z Z Z (fun _=>gJ Z Z (by omega) (by omega)) (aX Z Z Z (fun _=>aD 8 eC Z) (aX Z Z Z (fun _=>aD 1 cV Z) (bP Z Z Z (aK 2 (.int _ _) aY M4 Z Z Z) (aX Z Z Z (fun _=>bG dZ underlying2 Z (fL _ (by omega) (by omega))) ?_)))))))))
 refine aX Z Z Z (fun _=>aD 8 eC Z) (aX Z Z Z (fun _=>aD 1 cV Z) (bP Z Z Z (aK 1 (.int _ _) aY M4 Z Z Z) (aX Z Z Z (fun _=>bG dZ underlying2 Z (fL _ (by omega) (by omega))) (aX Z Z Z (fun _=>gJ Z Z (by omega) (by omega)) (nF Z Z Z (nF Z Z Z (bS (aC (aE (aA (aR Z Z (wq (aD 2 iL Z) Z (wq (aD 0 cX Z) Z (wq (aK 0 (.int _ _) aY M4 Z Z Z) Z (wq (bG dZ underlying2 Z (fL _ (by omega) (by omega))) Z (wq (fF Z Z (by omega) (by omega)) Z ?_))))))))))))))))
 refine aR Z Z (wq (aD 2 iL Z) Z (wq (aD 1 cV Z) Z (wq (aK 0 (.int _ _) aY M4 Z Z Z) Z (wq (bG dZ underlying2 Z (fL _ (by omega) (by omega))) Z (wq (fF Z Z (by omega) (by omega)) Z (wq (bA Z Z (by omega) (by omega)) Z (wq (kQ Z Z (by decide)) Z (aL 40 (.int .i64 (xK c a b)) (iE (qY _)) (bJ Z Z (aB (aC (aP (cI (.int _ _) Z ?_)))))))))))))
 exact ⟨Z,M4.below⟩
theorem aTf (w:World) (a b:Body) :
  Calls prog 235 #[(.agg (aF a).toArray),(.agg (aF b).toArray)] w (Rb w (.int .i32 (max a.bounce b.bounce))):=by
 refine aI #[.tmp 4] 10 func235 Z results235 ntmps235 Z ?_
 have M0:=Mem.refl w
 refine aE (aA (bN (.agg (.mk _)) M0 Z Z Z (fun b1 w1 M1=>(bN (.agg (.mk _)) M1 Z Z Z (fun b2 w2 M2=>(bJ Z Z (aB (aC (aE (aA (wq (aD 5 oL Z) Z (wq (aK 0 (.int _ _) aY M2 Z Z Z) Z (wq (aD 5 oL Z) Z (wq (aK 1 (.int _ _) aY M2 Z Z Z) Z (wq (pK Z Z ) Z (bJ Z Z (aB (aC (aP (cI (.int _ _) Z ?_))))))))))))))))))))
 exact ⟨iE (by first | rfl | omega),M2.below⟩
theorem aMm (w:World) (c:Con) (a b:Body) (hc:Okn c) (ha:Okb a) (hb:Okb b) :
  Calls prog 220 #[.agg (cL c).toArray,(.agg (aF a).toArray),(.agg (aF b).toArray)] w (Rb w (.int .i64 (lN c a b))):=by
 have hr:=yL hc ha hb
 have hm1:=ha.m
 have hm2:=hb.m
 have hc1:=ha.c
 have hc2:=hb.c
 refine aI #[.tmp 6] 41 func220 Z results220 ntmps220 Z ?_
 have M0:=Mem.refl w
 refine aE (aA (bN (.agg (.mk _)) M0 Z Z Z (fun b1 w1 M1=>(bN (.agg (.mk _)) M1 Z Z Z (fun b2 w2 M2=>(bN (.agg (.mk _)) M2 Z Z Z (fun b3 w3 M3=>(bJ Z Z (aB (aC (aE (aA (wq (aU 0 fC M3 Z Z Z) Z (wq (aU 1 bR M3 Z Z Z) Z (wq (aU 2 bR M3 Z Z Z) Z (dO bRs Z Z M3 (aMl _ c a b hc ha hb) (fun w4 M4=>(bJ Z Z (aB (aC (aE (aA (wq (aD 4 eK Z) Z (wq (aK 1 (.int _ _) aY M4 Z Z Z) Z (wq (bG dZ underlying2 Z (fL _ (by omega) (by omega))) Z ?_)))))))))))))))))))))))))
 refine wq (aD 4 eK Z) Z (wq (aK 2 (.int _ _) aY M4 Z Z Z) Z (wq (bG dZ underlying2 Z (fL _ (by omega) (by omega))) Z (wq (bA Z Z (by omega) (by omega)) Z (bJ Z Z (aB (aC (aE (aE (aA (aR Z Z (cY Z Z Z Z (wq (aH (.bool (decide _)) Z) Z ?_))))))))))))
 refine dT 24 Z (fun g24 => ?_) (fun g24 => ?_)
 ·refine aN Z Z (aN Z Z (wq (bQ true (.bool true) Z Z) Z (aB (aC (cG Z (aE (aA (bJ Z Z (aB (aC (aP (cN (cI (.int _ _) Z ?_)))))))))))))
  exact ⟨iE (by unfold lN;rw [if_pos (.inl (by omega))]),M4.below⟩
 ·refine aR Z Z (cY Z Z Z Z (wq (bQ false (.bool (decide _)) Z Z) Z (aB (aC ?_))))
  refine aW Z (fun h27 => ?_) (fun h27 => ?_)
  ·refine aE (aA (bJ Z Z (aB (aC (aP (cN (cI (.int _ _) Z ?_)))))))
   exact ⟨iE (by unfold lN;rw [if_pos (.inr (by omega))]),M4.below⟩
  ·have hsp:=aHn hc ha hb (by omega)
   refine aM (aC (aE (aA (aR Z Z (wq (rR Z (fL _ (by omega) (by omega))) Z (wq (aU 1 bR M4 Z Z Z) Z (wq (aU 2 bR M4 Z Z Z) Z (dO bRt Z Z M4 (aTf _ a b) (fun w5 M5=>(wq (bG dZ underlying2 Z (fL _ (by omega) (by omega))) Z (wq (bA Z Z (by omega) (by omega)) Z (aR Z Z (dO aLq Z Z M5 (aMw _ (-xK c a b) (65536+max a.bounce b.bounce) (a.mass+b.mass) (by omega) (by omega) (by omega) (by omega) (by omega) (by omega) (by omega)) (fun w6 M6=>(wq (aH (.tuple (List.toArray _)) Z) Z (wq (bM (.int _ _) Z Z) Z ?_))))))))))))))))
   refine wq (bM (.int _ _) Z Z) Z (bJ Z Z (bJ Z Z (aB (aC (aE (aA (aR Z Z (bJ Z Z (aB (aC (aP (cI (.int _ _) Z ?_))))))))))))
   exact ⟨iE (by unfold lN;rw [if_neg (fun g=>by omega)]),M6.below⟩
theorem aCl (w:World) (k n:Int) (b:Nat) (K:Rd w 1 (some ⟨b,0,none⟩) 1 [[.int .i64 k]]) (hk:0≤k∧k≤134217728) (hn : -65536≤n∧n≤65536) (hp : -8796093022208≤k*n∧k*n≤8796093022208) :
  Calls prog 237 #[.int .i32 n,.pointer (some ⟨b,0,none⟩)] w (Rb w (.int .i64 (k*n / 65536))):=by
 rw [← iF b]
 refine aI #[.tmp 3] 8 func237 Z results237 ntmps237 Z ?_
 have M0:=Mem.refl w
 refine aE (aA (bJ Z Z (aB (aC (aE (aA (wq (dP (o:=0) (.int _ _) jQ (K.mem M0) (show ([[.int .i64 k]]:List (List Value))[0]? = some [.int .i64 k] from Z) Z Z) Z (aR Z Z (wq (bG dZ underlying2 Z (fL _ (by omega) (by omega))) Z (dO bDt Z Z M0 (aCm _ k n (by omega) (by omega) (by omega) (by omega) (by omega)) (fun w1 M1=>(bJ Z Z (aB (aC (aP (cI (.int _ _) Z ?_))))))))))))))))
 exact ⟨Z,M1.below⟩
theorem aGa (w:World) (j m x y:Int) (hj:0≤j∧j≤8796093022208) (hm:0≤m∧m≤1048576) (hp:0≤j*m∧j*m≤8796093022208) (hx : -65536≤x∧x≤65536) (hy : -65536≤y∧y≤65536) :
  Calls prog 221 #[.int .i64 j,.int .i32 m,.agg [.int .i32 x,.int .i32 y].toArray] w (Rb w (.tuple #[.int .i64 (oT j m x),.int .i64 (oT j m y)])):=by
 have r1:=lI hp hx
 have r2:=lI hp hy
 have hkk:=r1.1
 refine aI #[.tmp 6,.tmp 7] 23 func221 Z results221 ntmps221 Z ?_
 have M0:=Mem.refl w
 refine aE (aA (bN (.agg (.mk _)) M0 Z Z Z (fun b1 w1 M1=>(bJ Z Z (bJ Z Z (aB (aC (aE (aA (aR Z Z (aR Z Z (wq (bG dZ underlying2 Z (fL _ (by omega) (by omega))) Z (dO bDt Z Z M1 (aCm _ j m (by omega) (by omega) (by omega) (by omega) (by omega)) (fun w2 M2=>(aQ aIc M2 Z Z (fun b3 w3 M3=>(dB 1 (.int _ _) jQ M3 Z Z Z Z Z Z (fun w4 M4=>(aB (aC (aE (aA (wq (dW [] [.pointer _] Z Z) Z (wq (aJ (.func _ _ _) Z) Z (aB (aC (aE (fY [(0,0),(1,0),(2,1),(4,0),(5,0),(6,1),(3,2),(7,2),(8,0),(9,0)] mixed M4 Z (by kernel_rfl) (fun w5 M5 => ?_)))))))))))))))))))))))))))))
 refine aX Z Z Z (fun _=>aH (.func _ _ _) Z) (aX Z Z Z (fun _=>aD 0 cX Z) (bP Z Z Z (aK 0 (.int _ _) aY M5 Z Z Z) (aX Z Z Z (fun _=>aH (.func _ _ _) Z) (aX Z Z Z (fun _=>aD 1 cV Z) (bP Z Z Z (aK 0 (.int _ _) aY M5 Z Z Z) (dL [false,true] Z (by kernel_rfl) (dO bDu Z Z M5 (aCl _ (j*m / 65536) x b3 (qT 1 M5 Z Z) hkk hx r1.2.1) (fun w6 M6 => ?_))))))))
 refine aB (aC ⟨(dQ (bC Z (aK 0 (.int _ _) aY M6 Z Z Z)) dG), ?_⟩)
 refine dL [true] Z (by kernel_rfl) (dO bDu Z Z M6 (aCl _ (j*m / 65536) y b3 (qT 1 M6 Z Z) hkk hy r2.2.1) (fun w7 M7 => ?_))
 refine aB (aC ⟨dG, ?_⟩)
 refine nF Z Z Z (nF Z Z Z (bS (aC (aP (gA (.int _ _) (.int _ _) Z Z ?_)))))
 exact ⟨Z,M7.below⟩
theorem aFv (w:World) (a l:Int) (hl:0≤l∧l≤2147483648) :
  Calls prog 127 #[.int .i64 a,.int .i64 l] w (Rb w (.tuple #[.int .i64 (jO a l),.bool (decide (jO a l≠a))])):=by
 refine aI #[.tmp 4,.tmp 5] 17 func127 Z results127 ntmps127 Z ?_
 have M0:=Mem.refl w
 refine aE (aA (bJ Z Z (wq (aJ (.bool false) Z) Z (aB (aC (aE (aA (aR Z Z (wq (rR Z (fL _ (by omega) (by omega))) Z (aR Z Z (aR Z Z (wq (aGv Z Z ) Z (wq (pK Z Z ) Z (aL 12 (.int .i64 (jO a l)) Z (bJ Z Z (aB (aC (aE (aA (aR Z Z (aR Z Z (aR Z Z ?_))))))))))))))))))))))
 refine cY Z Z Z Z (bJ Z Z (wq (aJ (.bool (decide _)) Z) Z (aB (aC (aP (gA (.int _ _) (.bool (decide _)) Z Z ?_))))))
 exact ⟨Z,M0.below⟩
end Go.Proofs.YtpcloigancpnbaaGreatDoor
