/- Part of the proof of a law of this seat (2 texts). No conditions. -/
import Derived.Test.YtpcloigancpnbaaGreatDoorK12
import Derived.Test.YtpcloigancpnbaaGreatDoorK14
import Derived.Test.YtpcloigancpnbaaGreatDoorK18
import Derived.Test.YtpcloigancpnbaaGreatDoorK19
import Derived.Shelf.Spec.BitsCarry
set_option linter.unusedVariables false
set_option linter.unusedSimpArgs false
set_option linter.unnecessarySimpa false
set_option maxHeartbeats 100000000
namespace Go.Proofs.YtpcloigancpnbaaGreatDoor
open Go.Bil
open Go.RowKit (Below)
open Go.Proofs
open Go.Proofs.Tryz
theorem bTa (x y:Nat) {w:World}:(callFunc 257 #[.int .u64 (x:Int),.int .u64 (y:Int),.int .u64 0]).run prog w=.ok (.value (.tuple #[.int .u64 (((x+y) % 18446744073709551616:Nat):Int),.int .u64 (((x+y) / 18446744073709551616:Nat):Int)])) w:=Any7.bits_Add64 aXt x y 0 (by omega) w
theorem aMv (w:World) (a n d:Int) (ha:0≤a) (hn:0≤n) (ha2:a≤4611686018427387904) (hn2:n≤4611686018427387904) (hp:a*n≤4611686018427387904) (hd0:0 < d) (hd:d≤9223372036854775807) :
  Calls prog 173 #[.int .i64 a,.int .i64 n,.int .i64 d] w (Rb w (.tuple #[.int .i64 (a*n / d),.int .i64 0])):=by
 obtain ⟨k,rfl⟩:=Int.eq_ofNat_of_zero_le ha
 obtain ⟨m,rfl⟩:=Int.eq_ofNat_of_zero_le hn
 obtain ⟨z,rfl⟩:=Int.eq_ofNat_of_zero_le (Int.le_of_lt hd0)
 obtain ⟨p,hpp⟩:∃ p,k*m=p:=⟨_,rfl⟩
 have hpi:(k:Int)*(m:Int)=(p:Int):=by rw [← hpp,Int.natCast_mul]
 rw [hpi] at hp
 have hql:p / z≤p:=Nat.div_le_self _ _
 refine aI #[.tmp 6,.tmp 7] 65 func173 Z results173 ntmps173 Z ?_
 have M0:=Mem.refl w
 refine aE (aA (bK Z Z (bK Z Z (aB (aC (aE (aE (aA (aQ Z Z (cX Z Z Z Z (pD 17 Z (by omega) (aB (aC (cG Z (aM (aC (aE (aA (aQ Z Z (dN tQ Z Z M0 (mO _ (k:Int) (by omega) (by omega)) (fun w1 M1=>(aL 20 (.int .u64 (k:Int)) (iE (by omega)) (aQ Z Z (dN tQ Z Z M1 (mO _ (m:Int) (by omega) (by omega)) (fun w2 M2=>(aL 22 (.int .u64 (m:Int)) (iE (by omega)) ?_))))))))))))))))))))))))))
 refine dN aSb Z Z M2 (bFq _ k m (by omega) (by omega)) (fun w3 M3=>(wq (aH (.tuple (List.toArray _)) Z) Z (wq (bM (.int _ _) Z Z) Z (aL 24 (.int .u64 ((0:Nat):Int)) (iE (congrArg _ (by rw [hpp];exact Nat.div_eq_of_lt (by omega)))) (wq (bM (.int _ _) Z Z) Z (aL 25 (.int .u64 (p:Int)) (iE (congrArg _ (by rw [hpp];exact Nat.mod_eq_of_lt (by omega)))) (bK Z Z (bK Z Z (aB (aC (aE (aA (aQ Z Z (dN tQ Z Z M3 (mO _ (z:Int) (by omega) (by omega)) (fun w4 M4=>(aL 27 (.int .u64 (z:Int)) (iE (by omega)) (bK Z Z ?_)))))))))))))))))
 refine aB (aC (aE (aE (aA (aQ Z Z (aQ Z Z (cX Z Z Z Z (pD 30 Z (by omega) (aB (aC (cG Z (aM (aC (aE (aA (aQ Z Z (aQ Z Z (aQ Z Z (dN bCv Z Z M4 (bNg _ 0 p z (by omega) (by omega) (by omega)) (fun w5 M5=>(wq (aH (.tuple (List.toArray _)) Z) Z (wq (bM (.int _ _) Z Z) Z (aL 36 (.int .u64 ((p / z:Nat):Int)) (iE (by rw [Nat.zero_mul,Nat.zero_add])) (wq (bM (.int _ _) Z Z) Z ?_))))))))))))))))))))))))
 refine bK Z Z (bK Z Z (aB (aC (aE (aA (aQ Z Z (cX Z Z Z Z (pD 39 Z (by omega) (aQ Z Z (cX Z Z Z Z (pD 41 Z (by omega) (wq (uK _ underlying4 Z Z Z) Z (aL 42 (.bool false) Z (aQ Z Z (cX Z Z Z Z (pD 44 Z (by omega) (wq (uK _ underlying4 Z Z Z) Z (aL 45 (.bool false) Z ?_))))))))))))))))))
 refine wq (aJ (.bool false) Z) Z (aB (aC (aE (aE (aA (wq (aH (.bool false) Z) Z (wq (aH (.bool false) Z) Z (aN Z Z (aN Z Z (wq (bR false (.bool false) Z Z) Z (aB (aC (cG Z (aM (aC (aE (aA (wq (aH (.bool false) Z) Z (eP aLs Z Z (aNn _ false) ?_)))))))))))))))))))
 rintro v6 w6 ⟨bs,rfl,hM6⟩
 have M6:Mem _ _ [_] _:=M5.call0 hM6
 refine aQ Z Z (dN aLu Z Z M6 (aEc _ (p / z) false bs (by omega) (qP 0 M6 Z Z)) (fun w7 M7=>(wq (aH (.tuple (List.toArray _)) Z) Z (wq (bM (.int _ _) Z Z) Z (wq (bM (.bool true) Z Z) Z (bK Z Z (wq (aJ (.bool true) Z) Z (aB (aC (aE (aE (aA (wq (aH (.bool true) Z) Z (wq (gR false Z Z) Z (aB (aC (cG Z (aM (aC (aE (aA (aQ Z Z (bK Z Z (bK Z Z ?_))))))))))))))))))))))))
 refine aB (aC (aO (fX (.int _ _) (.int _ _) Z Z ?_)))
 exact ⟨uW (iE (by rw [hpi];simp)) rfl,M7.below⟩
theorem bHv (w:World) (a b:Int) (ha:0≤a) (ha2:a≤4611686018427387904) (hb0 : -4611686018427387904≤b) (hb1:b≤4611686018427387904) (hp : -4611686018427387904≤a*b∧a*b≤4611686018427387904) :
  Calls prog 255 #[.int .i64 a,.int .i64 b] w (gH (fun v w'=>∃ (h:Int) (l:Nat),v=.tuple #[.int .i64 h,.int .u64 (l:Int)]∧MulR a b h l∧Below w.heap.size w w')):=by
 obtain ⟨k,rfl⟩:=Int.eq_ofNat_of_zero_le ha
 obtain ⟨p,hpp⟩:∃ p,k*b.natAbs=p:=⟨_,rfl⟩
 have hpi:(k:Int)*(b.natAbs:Int)=(p:Int):=by rw [← hpp,Int.natCast_mul]
 have hneg:b < 0→(k:Int)*b = -(p:Int):=fun g=>by rw [← hpi,← Int.mul_neg];congr 1;omega
 have hpos:¬ b < 0→(k:Int)*b=(p:Int):=fun g=>by rw [← hpi];congr 1;omega
 have hpl:p≤4611686018427387904:=by by_cases g:b < 0;(have:=hneg g;omega);(have:=hpos g;omega)
 refine aI #[.tmp 4,.tmp 5] 35 func255 Z results255 ntmps255 Z ?_
 have M0:=Mem.refl w
 refine aE (aA (bK Z Z (bK Z Z (aB (aC (aE (aA (aQ Z Z (dN tQ Z Z M0 (mO _ (k:Int) (by omega) (by omega)) (fun w1 M1=>(aL 11 (.int .u64 (k:Int)) (iE (by omega)) (aQ Z Z (dN tQ Z Z M1 (mO _ b (by omega) (by omega)) (fun w2 M2=>(dN aSb Z Z M2 (bFq _ k b.natAbs (by omega) (by omega)) (fun w3 M3=>(wq (aH (.tuple (List.toArray _)) Z) Z (wq (bM (.int _ _) Z Z) Z (aL 15 (.int .u64 ((0:Nat):Int)) (iE (congrArg _ (by rw [hpp];exact Nat.div_eq_of_lt (by omega)))) (wq (bM (.int _ _) Z Z) Z ?_))))))))))))))))))))
 refine aL 16 (.int .u64 (p:Int)) (iE (congrArg _ (by rw [hpp];exact Nat.mod_eq_of_lt (by omega)))) (bK rfl rfl (bK rfl rfl (aB (aC (aE (aE (aA (aQ rfl rfl (cX rfl rfl rfl rfl (pD 18 rfl (by omega) (aQ rfl rfl (cX rfl rfl rfl rfl (wq (uK _ underlying4 rfl rfl rfl) rfl (aL 21 (.bool (decide (b < 0))) (bv rfl (by simp)) (aB (aC ?_))))))))))))))))
 refine aU Z (fun h21 => ?_) (fun h21 => ?_)
 ·refine aE (aA (bK Z Z (aB (aC (aE (aA (aQ Z Z (wq (aWy Z) Z (aL 24 (.int .u64 ((18446744073709551615 - p:Nat):Int)) (iE (aVx p (by omega))) (wq (bGg Z (bTa (18446744073709551615 - p) 1)) Z (wq (aH (.tuple (List.toArray _)) Z) Z (wq (bM (.int _ _) Z Z) Z (aL 26 (.int .u64 (((18446744073709551616 - p) % 18446744073709551616:Nat):Int)) (iE (by omega)) (wq (bM (.int _ _) Z Z) Z (aL 27 (.int .u64 ((if p=0 then 1 else 0:Nat):Int)) (iE (by split <;> omega)) (bK Z Z (bK Z Z (aB (aC (aA ?_))))))))))))))))))))
  refine aQ Z Z (wq (aWy Z) Z (aL 29 (.int .u64 ((18446744073709551615:Nat):Int)) (iE (aVx 0 (by omega))) (aQ Z Z (wq (cA (.int _ _) Z Z Z) Z (aL 31 (.int .u64 ((if p=0 then 0 else 18446744073709551615:Nat):Int)) (iE (by rw [gS];split <;> omega)) (bK Z Z (aB (aC (aE (aA (aQ Z Z (wq (dF xE underlying2 Z) Z (aL 33 (.int .i64 (if p=0 then 0 else -1)) (iE (by rw [wrI];split <;> omega)) (aQ Z Z (bK Z Z (bK Z Z (aB (aC (aO (fX (.int _ _) (.int _ _) Z Z ?_))))))))))))))))))))
  exact ⟨_,_,Z,MulR.neg (hneg h21) hpl,M3.below⟩
 ·refine aM (aC (aE (aA (aQ Z Z (wq (dF xE underlying2 Z) Z (aL 33 (.int .i64 0) (iE (by rw [wrI];omega)) (aQ Z Z (bK Z Z (bK Z Z (aB (aC (aO (fX (.int _ _) (.int _ _) Z Z ?_)))))))))))))
  exact ⟨_,_,Z,MulR.pos (hpos h21) hpl,M3.below⟩
theorem aJi (w:World) (a b:Int) (ha:0≤a) (ha2:a≤4611686018427387904) (hb0 : -4611686018427387904≤b) (hb1:b≤4611686018427387904) (hp : -4611686018427387904≤a*b∧a*b≤4611686018427387904) :
  Calls prog 249 #[.int .i64 a,.int .i64 b,.int .i64 16] w (Rb w (.tuple #[.int .i64 (a*b / 65536),.int .i64 0])):=by
 refine aI #[.tmp 6,.tmp 7] 47 func249 Z results249 ntmps249 Z ?_
 have M0:=Mem.refl w
 refine aE (aA (bK Z Z (bK Z Z (aB (aC (aE (aE (aA (aQ Z Z (cX Z Z Z Z (pD 12 Z (by first | decide | omega) (wq (aH (.bool false) Z) Z (aQ Z Z (cX Z Z Z Z (pD 15 Z (by first | decide | omega) (wq (bR false (.bool false) Z Z) Z (aB (aC (cG Z (aM (aC (aE (aA (aQ Z Z ?_))))))))))))))))))))))))
 refine aQ Z Z (eP bRf Z Z (bHv _ a b ha ha2 hb0 hb1 hp) ?_)
 rintro v1 w1 ⟨h,l,rfl,hml,hb1⟩
 have M1:=M0.callB hb1
 have hll:=hml.low
 obtain ⟨H,B,hH,hB,⟨q,hq⟩,hl4,hBl,hlo,hh1,hh2⟩:=hml.high
 refine wq (aH (.tuple (List.toArray _)) Z) Z (wq (bM (.int _ _) Z Z) Z (wq (bM (.int _ _) Z Z) Z (bK Z Z (bK Z Z (aB (aC (aE (aA (aQ Z Z (aQ Z Z (wq (bH us3 underlying136 Z (lO _ (by omega) (by omega))) Z (wq (kK Z Z (by omega)) Z (aL 26 (.int .u64 ((l / 65536:Nat):Int)) (iE (aLe l 16 _ Z (by omega))) (aQ Z Z (wq (dF mV underlying193 Z) Z (aL 28 (.int .u64 (H:Int)) (iE hH) (aQ Z Z (wq (gG Z Z (by first | decide | omega) (by first | decide | omega)) Z ?_))))))))))))))))))
 refine aL 30 (.int .i64 48) (iE (by first | decide | omega)) (wq (bH us3 underlying136 Z (lO _ (by omega) (by omega))) Z (wq (zR Z Z (by omega)) Z (aL 32 (.int .u64 (B:Int)) (iE ((bHo H 48 _ Z (by omega)).trans (congrArg _ hB))) (wq (cA (.int _ _) Z Z Z) Z (aL 33 (.int .u64 ((l / 65536+B:Nat):Int)) (iE (bVx (l / 65536) q B 48 hq hl4 hBl)) (wq (dF xE underlying2 Z) Z (aL 34 (.int .i64 (a*b / 65536)) (iE hlo) (bK Z Z (aB (aC (aE (aE (aA (aQ Z Z (cX Z Z Z Z (pD 36 Z (by first | decide | omega) ?_))))))))))))))))
 refine aB (aC (cG Z (aM (aC (aE (aE (aA (aQ Z Z (aQ Z Z (wq (bH us3 underlying136 Z (lO _ (by omega) (by omega))) Z (wq (kK Z Z (by omega)) Z (aL 42 (.int .i64 h) (iE ((qT h).trans hh1)) (aQ Z Z (wq (kK Z Z (by decide)) Z (aL 44 (.int .i64 h) (iE ((bJt _).trans hh2)) (cX Z Z Z Z (pD 45 Z (fun g=>g Z) (aB (aC (cG Z (aM (aC (aE (aA ?_))))))))))))))))))))))))
 refine aQ Z Z (bK Z Z (bK Z Z (aB (aC (aO (fX (.int _ _) (.int _ _) Z Z ?_))))))
 exact ⟨Z,M1.below⟩
theorem aCh (w:World) (a b:Int) (ha:0≤a) (ha2:a≤4611686018427387904) (hb0 : -4611686018427387904≤b) (hb1:b≤4611686018427387904) (hp : -4611686018427387904≤a*b∧a*b≤4611686018427387904) :
  Calls prog 236 #[.int .i64 a,.int .i64 b] w (Rb w (.int .i64 (a*b / 65536))):=by
 refine aI #[.tmp 4] 14 func236 Z results236 ntmps236 Z ?_
 have M0:=Mem.refl w
 refine aE (aA (bK Z Z (aB (aC (aE (aA (aQ Z Z (aQ Z Z (dN bRd Z Z M0 (aJi _ a b ha ha2 hb0 hb1 hp) (fun w1 M1=>(wq (aH (.tuple (List.toArray _)) Z) Z (wq (bM (.int _ _) Z Z) Z (wq (bM (.int _ _) Z Z) Z (bK Z Z (bK Z Z (aB (aC (aE (aA (aQ Z Z (bK Z Z (aB (aC (aO (cI (.int _ _) Z ?_)))))))))))))))))))))))))
 exact ⟨Z,M1.below⟩
theorem aMl (w:World) (c:Con) (a b:Body) (hc:Okn c) (ha:Okb a) (hb:Okb b) :
  Calls prog 234 #[.agg (cL c).toArray,(.agg (aF a).toArray),(.agg (aF b).toArray)] w (Rb w (.int .i64 (xJ c a b))):=by
 have hr:=yG hc ha hb
 have hv1:=ha.v
 have hv2:=hb.v
 have hx:=hc.x
 have hy:=hc.y
 refine aI #[.tmp 6] 41 func234 Z results234 ntmps234 Z ?_
 have M0:=Mem.refl w
 refine aE (aA (bN (.agg (.mk _)) M0 Z Z Z (fun b1 w1 M1=>(bN (.agg (.mk _)) M1 Z Z Z (fun b2 w2 M2=>(bN (.agg (.mk _)) M2 Z Z Z (fun b3 w3 M3=>(bK Z Z (aB (aC (aE (fW [(0,0),(1,0),(2,1),(3,0),(4,0),(5,0),(6,1),(7,0),(8,0),(9,0),(10,0),(11,1),(12,0),(13,0),(14,0),(15,1),(16,0),(17,0),(18,0),(19,0)] mixed M3 Z (by kernel_rfl) (fun w4 M4=>(aV Z Z Z (fun _=>aD 8 eB Z) (aV Z Z Z (fun _=>aD 0 cV Z) (bP Z Z Z (aK 2 (.int _ _) aY M4 Z Z Z) ?_))))))))))))))))
 refine aV Z Z Z (fun _=>bH dY underlying2 Z (fJ _ (by omega) (by omega))) (aV Z Z Z (fun _=>aD 8 eB Z) (aV Z Z Z (fun _=>aD 0 cV Z) (bP Z Z Z (aK 1 (.int _ _) aY M4 Z Z Z) (aV Z Z Z (fun _=>bH dY underlying2 Z (fJ _ (by omega) (by omega))) (aV Z Z Z (fun _=>gG Z Z (by omega) (by omega)) (aV Z Z Z (fun _=>aD 8 eB Z) (aV Z Z Z (fun _=>aD 1 cS Z) (bP Z Z Z (aK 2 (.int _ _) aY M4 Z Z Z) (aV Z Z Z (fun _=>bH dY underlying2 Z (fJ _ (by omega) (by omega))) ?_)))))))))
 refine aV Z Z Z (fun _=>aD 8 eB Z) (aV Z Z Z (fun _=>aD 1 cS Z) (bP Z Z Z (aK 1 (.int _ _) aY M4 Z Z Z) (aV Z Z Z (fun _=>bH dY underlying2 Z (fJ _ (by omega) (by omega))) (aV Z Z Z (fun _=>gG Z Z (by omega) (by omega)) (mW Z Z Z (mW Z Z Z (bS (aC (aE (aA (aQ Z Z (wq (aD 2 iH Z) Z (wq (aD 0 cV Z) Z (wq (aK 0 (.int _ _) aY M4 Z Z Z) Z (wq (bH dY underlying2 Z (fJ _ (by omega) (by omega))) Z (wq (fC Z Z (by omega) (by omega)) Z ?_))))))))))))))))
 refine aQ Z Z (wq (aD 2 iH Z) Z (wq (aD 1 cS Z) Z (wq (aK 0 (.int _ _) aY M4 Z Z Z) Z (wq (bH dY underlying2 Z (fJ _ (by omega) (by omega))) Z (wq (fC Z Z (by omega) (by omega)) Z (wq (bC Z Z (by omega) (by omega)) Z (wq (kK Z Z (by decide)) Z (aL 40 (.int .i64 (xJ c a b)) (iE (qT _)) (bK Z Z (aB (aC (aO (cI (.int _ _) Z ?_)))))))))))))
 exact ⟨Z,M4.below⟩
theorem aSy (w:World) (a b:Body) :
  Calls prog 235 #[(.agg (aF a).toArray),(.agg (aF b).toArray)] w (Rb w (.int .i32 (max a.bounce b.bounce))):=by
 refine aI #[.tmp 4] 10 func235 Z results235 ntmps235 Z ?_
 have M0:=Mem.refl w
 refine aE (aA (bN (.agg (.mk _)) M0 Z Z Z (fun b1 w1 M1=>(bN (.agg (.mk _)) M1 Z Z Z (fun b2 w2 M2=>(bK Z Z (aB (aC (aE (aA (wq (aD 5 nZ Z) Z (wq (aK 0 (.int _ _) aY M2 Z Z Z) Z (wq (aD 5 nZ Z) Z (wq (aK 1 (.int _ _) aY M2 Z Z Z) Z (wq (pB Z Z ) Z (bK Z Z (aB (aC (aO (cI (.int _ _) Z ?_))))))))))))))))))))
 exact ⟨iE (by first | rfl | omega),M2.below⟩
theorem aMm (w:World) (c:Con) (a b:Body) (hc:Okn c) (ha:Okb a) (hb:Okb b) :
  Calls prog 220 #[.agg (cL c).toArray,(.agg (aF a).toArray),(.agg (aF b).toArray)] w (Rb w (.int .i64 (lJ c a b))):=by
 have hr:=yG hc ha hb
 have hm1:=ha.m
 have hm2:=hb.m
 have hc1:=ha.c
 have hc2:=hb.c
 refine aI #[.tmp 6] 41 func220 Z results220 ntmps220 Z ?_
 have M0:=Mem.refl w
 refine aE (aA (bN (.agg (.mk _)) M0 Z Z Z (fun b1 w1 M1=>(bN (.agg (.mk _)) M1 Z Z Z (fun b2 w2 M2=>(bN (.agg (.mk _)) M2 Z Z Z (fun b3 w3 M3=>(bK Z Z (aB (aC (aE (aA (wq (aX 0 fA M3 Z Z Z) Z (wq (aX 1 bQ M3 Z Z Z) Z (wq (aX 2 bQ M3 Z Z Z) Z (dN bRb Z Z M3 (aMl _ c a b hc ha hb) (fun w4 M4=>(bK Z Z (aB (aC (aE (aA (wq (aD 4 eM Z) Z (wq (aK 1 (.int _ _) aY M4 Z Z Z) Z (wq (bH dY underlying2 Z (fJ _ (by omega) (by omega))) Z ?_)))))))))))))))))))))))))
 refine wq (aD 4 eM Z) Z (wq (aK 2 (.int _ _) aY M4 Z Z Z) Z (wq (bH dY underlying2 Z (fJ _ (by omega) (by omega))) Z (wq (bC Z Z (by omega) (by omega)) Z (bK Z Z (aB (aC (aE (aE (aA (aQ Z Z (cX Z Z Z Z (wq (aH (.bool (decide _)) Z) Z ?_))))))))))))
 refine dQ 24 Z (fun g24 => ?_) (fun g24 => ?_)
 ·refine aN Z Z (aN Z Z (wq (bR true (.bool true) Z Z) Z (aB (aC (cE Z (aE (aA (bK Z Z (aB (aC (aO (cO (cI (.int _ _) Z ?_)))))))))))))
  exact ⟨iE (by unfold lJ;rw [if_pos (.inl (by omega))]),M4.below⟩
 ·refine aQ Z Z (cX Z Z Z Z (wq (bR false (.bool (decide _)) Z Z) Z (aB (aC ?_))))
  refine aU Z (fun h27 => ?_) (fun h27 => ?_)
  ·refine aE (aA (bK Z Z (aB (aC (aO (cO (cI (.int _ _) Z ?_)))))))
   exact ⟨iE (by unfold lJ;rw [if_pos (.inr (by omega))]),M4.below⟩
  ·have hsp:=aHl hc ha hb (by omega)
   refine aM (aC (aE (aA (aQ Z Z (wq (rK Z (fJ _ (by omega) (by omega))) Z (wq (aX 1 bQ M4 Z Z Z) Z (wq (aX 2 bQ M4 Z Z Z) Z (dN bRc Z Z M4 (aSy _ a b) (fun w5 M5=>(wq (bH dY underlying2 Z (fJ _ (by omega) (by omega))) Z (wq (bC Z Z (by omega) (by omega)) Z (aQ Z Z (dN aLq Z Z M5 (aMv _ (-xJ c a b) (65536+max a.bounce b.bounce) (a.mass+b.mass) (by omega) (by omega) (by omega) (by omega) (by omega) (by omega) (by omega)) (fun w6 M6=>(wq (aH (.tuple (List.toArray _)) Z) Z (wq (bM (.int _ _) Z Z) Z ?_))))))))))))))))
   refine wq (bM (.int _ _) Z Z) Z (bK Z Z (bK Z Z (aB (aC (aE (aA (aQ Z Z (bK Z Z (aB (aC (aO (cI (.int _ _) Z ?_))))))))))))
   exact ⟨iE (by unfold lJ;rw [if_neg (fun g=>by omega)]),M6.below⟩
theorem aCg (w:World) (k n:Int) (b:Nat) (K:Rd w 1 (some ⟨b,0,none⟩) 1 [[.int .i64 k]]) (hk:0≤k∧k≤134217728) (hn : -65536≤n∧n≤65536) (hp : -8796093022208≤k*n∧k*n≤8796093022208) :
  Calls prog 237 #[.int .i32 n,.pointer (some ⟨b,0,none⟩)] w (Rb w (.int .i64 (k*n / 65536))):=by
 rw [← hJ b]
 refine aI #[.tmp 3] 8 func237 Z results237 ntmps237 Z ?_
 have M0:=Mem.refl w
 refine aE (aA (bK Z Z (aB (aC (aE (aA (wq (dM (o:=0) (.int _ _) jM (K.mem M0) (show ([[.int .i64 k]]:List (List Value))[0]? = some [.int .i64 k] from Z) Z Z) Z (aQ Z Z (wq (bH dY underlying2 Z (fJ _ (by omega) (by omega))) Z (dN bDg Z Z M0 (aCh _ k n (by omega) (by omega) (by omega) (by omega) (by omega)) (fun w1 M1=>(bK Z Z (aB (aC (aO (cI (.int _ _) Z ?_))))))))))))))))
 exact ⟨Z,M1.below⟩
theorem aFw (w:World) (j m x y:Int) (hj:0≤j∧j≤8796093022208) (hm:0≤m∧m≤1048576) (hp:0≤j*m∧j*m≤8796093022208) (hx : -65536≤x∧x≤65536) (hy : -65536≤y∧y≤65536) :
  Calls prog 221 #[.int .i64 j,.int .i32 m,.agg [.int .i32 x,.int .i32 y].toArray] w (Rb w (.tuple #[.int .i64 (oG j m x),.int .i64 (oG j m y)])):=by
 have r1:=lE hp hx
 have r2:=lE hp hy
 have hkk:=r1.1
 refine aI #[.tmp 6,.tmp 7] 23 func221 Z results221 ntmps221 Z ?_
 have M0:=Mem.refl w
 refine aE (aA (bN (.agg (.mk _)) M0 Z Z Z (fun b1 w1 M1=>(bK Z Z (bK Z Z (aB (aC (aE (aA (aQ Z Z (aQ Z Z (wq (bH dY underlying2 Z (fJ _ (by omega) (by omega))) Z (dN bDg Z Z M1 (aCh _ j m (by omega) (by omega) (by omega) (by omega) (by omega)) (fun w2 M2=>(aR aIc M2 Z Z (fun b3 w3 M3=>(dA 1 (.int _ _) jM M3 Z Z Z Z Z Z (fun w4 M4=>(aB (aC (aE (aA (wq (dU [] [.pointer _] Z Z) Z (wq (aJ (.func _ _ _) Z) Z (aB (aC (aE (fW [(0,0),(1,0),(2,1),(4,0),(5,0),(6,1),(3,2),(7,2),(8,0),(9,0)] mixed M4 Z (by kernel_rfl) (fun w5 M5 => ?_)))))))))))))))))))))))))))))
 refine aV Z Z Z (fun _=>aH (.func _ _ _) Z) (aV Z Z Z (fun _=>aD 0 cV Z) (bP Z Z Z (aK 0 (.int _ _) aY M5 Z Z Z) (aV Z Z Z (fun _=>aH (.func _ _ _) Z) (aV Z Z Z (fun _=>aD 1 cS Z) (bP Z Z Z (aK 0 (.int _ _) aY M5 Z Z Z) (dI [false,true] Z (by kernel_rfl) (dN bDh Z Z M5 (aCg _ (j*m / 65536) x b3 (qP 1 M5 Z Z) hkk hx r1.2.1) (fun w6 M6 => ?_))))))))
 refine aB (aC ⟨(dS (bI Z (aK 0 (.int _ _) aY M6 Z Z Z)) dJ), ?_⟩)
 refine dI [true] Z (by kernel_rfl) (dN bDh Z Z M6 (aCg _ (j*m / 65536) y b3 (qP 1 M6 Z Z) hkk hy r2.2.1) (fun w7 M7 => ?_))
 refine aB (aC ⟨dJ, ?_⟩)
 refine mW Z Z Z (mW Z Z Z (bS (aC (aO (fX (.int _ _) (.int _ _) Z Z ?_)))))
 exact ⟨Z,M7.below⟩
theorem aFr (w:World) (a l:Int) (hl:0≤l∧l≤2147483648) :
  Calls prog 127 #[.int .i64 a,.int .i64 l] w (Rb w (.tuple #[.int .i64 (jK a l),.bool (decide (jK a l≠a))])):=by
 refine aI #[.tmp 4,.tmp 5] 17 func127 Z results127 ntmps127 Z ?_
 have M0:=Mem.refl w
 refine aE (aA (bK Z Z (wq (aJ (.bool false) Z) Z (aB (aC (aE (aA (aQ Z Z (wq (rK Z (fJ _ (by omega) (by omega))) Z (aQ Z Z (aQ Z Z (wq (aGt Z Z ) Z (wq (pB Z Z ) Z (aL 12 (.int .i64 (jK a l)) Z (bK Z Z (aB (aC (aE (aA (aQ Z Z (aQ Z Z (aQ Z Z ?_))))))))))))))))))))))
 refine cX Z Z Z Z (bK Z Z (wq (aJ (.bool (decide _)) Z) Z (aB (aC (aO (fX (.int _ _) (.bool (decide _)) Z Z ?_))))))
 exact ⟨Z,M0.below⟩
end Go.Proofs.YtpcloigancpnbaaGreatDoor
