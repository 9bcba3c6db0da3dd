/- Part of the proof of a law of this seat (2 texts). No conditions. -/
import Derived.Test.YtaoaknafiegfoaaGreatDoorK12
import Derived.Test.YtaoaknafiegfoaaGreatDoorK14
import Derived.Test.YtaoaknafiegfoaaGreatDoorK18
import Derived.Test.YtaoaknafiegfoaaGreatDoorK19
import Derived.Shelf.Spec.BitsCarry
set_option linter.unusedVariables false
set_option linter.unusedSimpArgs false
set_option linter.unnecessarySimpa false
set_option maxHeartbeats 100000000
namespace Go.Proofs.YtaoaknafiegfoaaGreatDoor
open Go.Bil
open Go.RowKit (Below)
open Go.Proofs
open Go.Proofs.Tryz
theorem bWh (x y:Nat) {w:World}:(callFunc 286 #[.int .u64 (x:Int),.int .u64 (y:Int),.int .u64 0]).run prog w=.ok (.value (.tuple #[.int .u64 (((x+y) % 18446744073709551616:Nat):Int),.int .u64 (((x+y) / 18446744073709551616:Nat):Int)])) w:=Any7.bits_Add64 bAk x y 0 (by omega) w
theorem aOn (w:World) (a n d:Int) (ha:0≤a) (hn:0≤n) (ha2:a≤4611686018427387904) (hn2:n≤4611686018427387904) (hp:a*n≤4611686018427387904) (hd0:0 < d) (hd:d≤9223372036854775807) :
  Calls prog 189 #[.int .i64 a,.int .i64 n,.int .i64 d] w (Rb w (.tuple #[.int .i64 (a*n / d),.int .i64 0])):=by
 obtain ⟨k,rfl⟩:=Int.eq_ofNat_of_zero_le ha
 obtain ⟨m,rfl⟩:=Int.eq_ofNat_of_zero_le hn
 obtain ⟨z,rfl⟩:=Int.eq_ofNat_of_zero_le (Int.le_of_lt hd0)
 obtain ⟨p,hpp⟩:∃ p,k*m=p:=⟨_,rfl⟩
 have hpi:(k:Int)*(m:Int)=(p:Int):=by rw [← hpp,Int.natCast_mul]
 rw [hpi] at hp
 have hql:p / z≤p:=Nat.div_le_self _ _
 refine aI #[.tmp 6,.tmp 7] 65 func189 Z results189 ntmps189 Z ?_
 have M0:=Mem.refl w
 refine aE (aA (bL Z Z (bL Z Z (aB (aC (aE (aE (aA (aT Z Z (cV Z Z Z Z (nP 17 Z (by omega) (aB (aC (cB Z (aM (aC (aE (aA (aT Z Z (dM vK Z Z M0 (nJ _ (k:Int) (by omega) (by omega)) (fun w1 M1=>(aL 20 (.int .u64 (k:Int)) (iE (by omega)) (aT Z Z (dM vK Z Z M1 (nJ _ (m:Int) (by omega) (by omega)) (fun w2 M2=>(aL 22 (.int .u64 (m:Int)) (iE (by omega)) ?_))))))))))))))))))))))))))
 refine dM aUq Z Z M2 (bIp _ k m (by omega) (by omega)) (fun w3 M3=>(wq (aH (.tuple (List.toArray _)) Z) Z (wq (bJ (.int _ _) Z Z) Z (aL 24 (.int .u64 ((0:Nat):Int)) (iE (congrArg _ (by rw [hpp];exact Nat.div_eq_of_lt (by omega)))) (wq (bJ (.int _ _) Z Z) Z (aL 25 (.int .u64 (p:Int)) (iE (congrArg _ (by rw [hpp];exact Nat.mod_eq_of_lt (by omega)))) (bL Z Z (bL Z Z (aB (aC (aE (aA (aT Z Z (dM vK Z Z M3 (nJ _ (z:Int) (by omega) (by omega)) (fun w4 M4=>(aL 27 (.int .u64 (z:Int)) (iE (by omega)) (bL Z Z ?_)))))))))))))))))
 refine aB (aC (aE (aE (aA (aT Z Z (aT Z Z (cV Z Z Z Z (nP 30 Z (by omega) (aB (aC (cB Z (aM (aC (aE (aA (aT Z Z (aT Z Z (aT Z Z (dM bFo Z Z M4 (bPx _ 0 p z (by omega) (by omega) (by omega)) (fun w5 M5=>(wq (aH (.tuple (List.toArray _)) Z) Z (wq (bJ (.int _ _) Z Z) Z (aL 36 (.int .u64 ((p / z:Nat):Int)) (iE (by rw [Nat.zero_mul,Nat.zero_add])) (wq (bJ (.int _ _) Z Z) Z ?_))))))))))))))))))))))))
 refine bL Z Z (bL Z Z (aB (aC (aE (aA (aT Z Z (cV Z Z Z Z (nP 39 Z (by omega) (aT Z Z (cV Z Z Z Z (nP 41 Z (by omega) (wq (uO _ underlying4 Z Z Z) Z (aL 42 (.bool false) Z (aT Z Z (cV Z Z Z Z (nP 44 Z (by omega) (wq (uO _ underlying4 Z Z Z) Z (aL 45 (.bool false) Z ?_))))))))))))))))))
 refine wq (aJ (.bool false) Z) Z (aB (aC (aE (aE (aA (wq (aH (.bool false) Z) Z (wq (aH (.bool false) Z) Z (aQ Z Z (aQ Z Z (wq (bM false (.bool false) Z Z) Z (aB (aC (cB Z (aM (aC (aE (aA (wq (aH (.bool false) Z) Z (eJ aNj Z Z (aPf _ false) ?_)))))))))))))))))))
 rintro v6 w6 ⟨bs,rfl,hM6⟩
 have M6:Mem _ _ [_] _:=M5.call0 hM6
 refine aT Z Z (dM aNm Z Z M6 (aFw _ (p / z) false bs (by omega) (rS 0 M6 Z Z)) (fun w7 M7=>(wq (aH (.tuple (List.toArray _)) Z) Z (wq (bJ (.int _ _) Z Z) Z (wq (bJ (.bool true) Z Z) Z (bL Z Z (wq (aJ (.bool true) Z) Z (aB (aC (aE (aE (aA (wq (aH (.bool true) Z) Z (wq (fB false Z Z) Z (aB (aC (cB Z (aM (aC (aE (aA (aT Z Z (bL Z Z (bL Z Z ?_))))))))))))))))))))))))
 refine aB (aC (aR (gE (.int _ _) (.int _ _) Z Z ?_)))
 exact ⟨wQ (iE (by rw [hpi];simp)) rfl,M7.below⟩
theorem bKt (w:World) (a b:Int) (ha:0≤a) (ha2:a≤4611686018427387904) (hb0 : -4611686018427387904≤b) (hb1:b≤4611686018427387904) (hp : -4611686018427387904≤a*b∧a*b≤4611686018427387904) :
  Calls prog 284 #[.int .i64 a,.int .i64 b] w (gY (fun v w'=>∃ (h:Int) (l:Nat),v=.tuple #[.int .i64 h,.int .u64 (l:Int)]∧MulR a b h l∧Below w.heap.size w w')):=by
 obtain ⟨k,rfl⟩:=Int.eq_ofNat_of_zero_le ha
 obtain ⟨p,hpp⟩:∃ p,k*b.natAbs=p:=⟨_,rfl⟩
 have hpi:(k:Int)*(b.natAbs:Int)=(p:Int):=by rw [← hpp,Int.natCast_mul]
 have hneg:b < 0→(k:Int)*b = -(p:Int):=fun g=>by rw [← hpi,← Int.mul_neg];congr 1;omega
 have hpos:¬ b < 0→(k:Int)*b=(p:Int):=fun g=>by rw [← hpi];congr 1;omega
 have hpl:p≤4611686018427387904:=by by_cases g:b < 0;(have:=hneg g;omega);(have:=hpos g;omega)
 refine aI #[.tmp 4,.tmp 5] 35 func284 Z results284 ntmps284 Z ?_
 have M0:=Mem.refl w
 refine aE (aA (bL Z Z (bL Z Z (aB (aC (aE (aA (aT Z Z (dM vK Z Z M0 (nJ _ (k:Int) (by omega) (by omega)) (fun w1 M1=>(aL 11 (.int .u64 (k:Int)) (iE (by omega)) (aT Z Z (dM vK Z Z M1 (nJ _ b (by omega) (by omega)) (fun w2 M2=>(dM aUq Z Z M2 (bIp _ k b.natAbs (by omega) (by omega)) (fun w3 M3=>(wq (aH (.tuple (List.toArray _)) Z) Z (wq (bJ (.int _ _) Z Z) Z (aL 15 (.int .u64 ((0:Nat):Int)) (iE (congrArg _ (by rw [hpp];exact Nat.div_eq_of_lt (by omega)))) (wq (bJ (.int _ _) Z Z) Z ?_))))))))))))))))))))
 refine aL 16 (.int .u64 (p:Int)) (iE (congrArg _ (by rw [hpp];exact Nat.mod_eq_of_lt (by omega)))) (bL rfl rfl (bL rfl rfl (aB (aC (aE (aE (aA (aT rfl rfl (cV rfl rfl rfl rfl (nP 18 rfl (by omega) (aT rfl rfl (cV rfl rfl rfl rfl (wq (uO _ underlying4 rfl rfl rfl) rfl (aL 21 (.bool (decide (b < 0))) (bv rfl (by simp)) (aB (aC ?_))))))))))))))))
 refine aW Z (fun h21 => ?_) (fun h21 => ?_)
 ·refine aE (aA (bL Z Z (aB (aC (aE (aA (aT Z Z (wq (aZm Z) Z (aL 24 (.int .u64 ((18446744073709551615 - p:Nat):Int)) (iE (aYj p (by omega))) (wq (bJg Z (bWh (18446744073709551615 - p) 1)) Z (wq (aH (.tuple (List.toArray _)) Z) Z (wq (bJ (.int _ _) Z Z) Z (aL 26 (.int .u64 (((18446744073709551616 - p) % 18446744073709551616:Nat):Int)) (iE (by omega)) (wq (bJ (.int _ _) Z Z) Z (aL 27 (.int .u64 ((if p=0 then 1 else 0:Nat):Int)) (iE (by split <;> omega)) (bL Z Z (bL Z Z (aB (aC (aA ?_))))))))))))))))))))
  refine aT Z Z (wq (aZm Z) Z (aL 29 (.int .u64 ((18446744073709551615:Nat):Int)) (iE (aYj 0 (by omega))) (aT Z Z (wq (cH (.int _ _) Z Z Z) Z (aL 31 (.int .u64 ((if p=0 then 0 else 18446744073709551615:Nat):Int)) (iE (by rw [iH];split <;> omega)) (bL Z Z (aB (aC (aE (aA (aT Z Z (wq (dL yV underlying2 Z) Z (aL 33 (.int .i64 (if p=0 then 0 else -1)) (iE (by rw [wrI];split <;> omega)) (aT Z Z (bL Z Z (bL Z Z (aB (aC (aR (gE (.int _ _) (.int _ _) Z Z ?_))))))))))))))))))))
  exact ⟨_,_,Z,MulR.neg (hneg h21) hpl,M3.below⟩
 ·refine aM (aC (aE (aA (aT Z Z (wq (dL yV underlying2 Z) Z (aL 33 (.int .i64 0) (iE (by rw [wrI];omega)) (aT Z Z (bL Z Z (bL Z Z (aB (aC (aR (gE (.int _ _) (.int _ _) Z Z ?_)))))))))))))
  exact ⟨_,_,Z,MulR.pos (hpos h21) hpl,M3.below⟩
theorem aKu (w:World) (a b:Int) (ha:0≤a) (ha2:a≤4611686018427387904) (hb0 : -4611686018427387904≤b) (hb1:b≤4611686018427387904) (hp : -4611686018427387904≤a*b∧a*b≤4611686018427387904) :
  Calls prog 278 #[.int .i64 a,.int .i64 b,.int .i64 16] w (Rb w (.tuple #[.int .i64 (a*b / 65536),.int .i64 0])):=by
 refine aI #[.tmp 6,.tmp 7] 47 func278 Z results278 ntmps278 Z ?_
 have M0:=Mem.refl w
 refine aE (aA (bL Z Z (bL Z Z (aB (aC (aE (aE (aA (aT Z Z (cV Z Z Z Z (nP 12 Z (by first | decide | omega) (wq (aH (.bool false) Z) Z (aT Z Z (cV Z Z Z Z (nP 15 Z (by first | decide | omega) (wq (bM false (.bool false) Z Z) Z (aB (aC (cB Z (aM (aC (aE (aA (aT Z Z ?_))))))))))))))))))))))))
 refine aT Z Z (eJ bUm Z Z (bKt _ a b ha ha2 hb0 hb1 hp) ?_)
 rintro v1 w1 ⟨h,l,rfl,hml,hb1⟩
 have M1:=M0.callB hb1
 have hll:=hml.low
 obtain ⟨H,B,hH,hB,⟨q,hq⟩,hl4,hBl,hlo,hh1,hh2⟩:=hml.high
 refine wq (aH (.tuple (List.toArray _)) Z) Z (wq (bJ (.int _ _) Z Z) Z (wq (bJ (.int _ _) Z Z) Z (bL Z Z (bL Z Z (aB (aC (aE (aA (aT Z Z (aT Z Z (wq (bK us3 underlying178 Z (mI _ (by omega) (by omega))) Z (wq (lH Z Z (by omega)) Z (aL 26 (.int .u64 ((l / 65536:Nat):Int)) (iE (aMt l 16 _ Z (by omega))) (aT Z Z (wq (dL nU underlying237 Z) Z (aL 28 (.int .u64 (H:Int)) (iE hH) (aT Z Z (wq (gX Z Z (by first | decide | omega) (by first | decide | omega)) Z ?_))))))))))))))))))
 refine aL 30 (.int .i64 48) (iE (by first | decide | omega)) (wq (bK us3 underlying178 Z (mI _ (by omega) (by omega))) Z (wq (aBk Z Z (by omega)) Z (aL 32 (.int .u64 (B:Int)) (iE ((bKm H 48 _ Z (by omega)).trans (congrArg _ hB))) (wq (cH (.int _ _) Z Z Z) Z (aL 33 (.int .u64 ((l / 65536+B:Nat):Int)) (iE (bYg (l / 65536) q B 48 hq hl4 hBl)) (wq (dL yV underlying2 Z) Z (aL 34 (.int .i64 (a*b / 65536)) (iE hlo) (bL Z Z (aB (aC (aE (aE (aA (aT Z Z (cV Z Z Z Z (nP 36 Z (by first | decide | omega) ?_))))))))))))))))
 refine aB (aC (cB Z (aM (aC (aE (aE (aA (aT Z Z (aT Z Z (wq (bK us3 underlying178 Z (mI _ (by omega) (by omega))) Z (wq (lH Z Z (by omega)) Z (aL 42 (.int .i64 h) (iE ((sB h).trans hh1)) (aT Z Z (wq (lH Z Z (by decide)) Z (aL 44 (.int .i64 h) (iE ((bMq _).trans hh2)) (cV Z Z Z Z (nP 45 Z (fun g=>g Z) (aB (aC (cB Z (aM (aC (aE (aA ?_))))))))))))))))))))))))
 refine aT Z Z (bL Z Z (bL Z Z (aB (aC (aR (gE (.int _ _) (.int _ _) Z Z ?_))))))
 exact ⟨Z,M1.below⟩
theorem aEe (w:World) (a b:Int) (ha:0≤a) (ha2:a≤4611686018427387904) (hb0 : -4611686018427387904≤b) (hb1:b≤4611686018427387904) (hp : -4611686018427387904≤a*b∧a*b≤4611686018427387904) :
  Calls prog 262 #[.int .i64 a,.int .i64 b] w (Rb w (.int .i64 (a*b / 65536))):=by
 refine aI #[.tmp 4] 14 func262 Z results262 ntmps262 Z ?_
 have M0:=Mem.refl w
 refine aE (aA (bL Z Z (aB (aC (aE (aA (aT Z Z (aT Z Z (dM bUk Z Z M0 (aKu _ a b ha ha2 hb0 hb1 hp) (fun w1 M1=>(wq (aH (.tuple (List.toArray _)) Z) Z (wq (bJ (.int _ _) Z Z) Z (wq (bJ (.int _ _) Z Z) Z (bL Z Z (bL Z Z (aB (aC (aE (aA (aT Z Z (bL Z Z (aB (aC (aR (cF (.int _ _) Z ?_)))))))))))))))))))))))))
 exact ⟨Z,M1.below⟩
theorem aOc (w:World) (c:Con) (a b:Body) (hc:Okn c) (ha:Okb a) (hb:Okb b) :
  Calls prog 260 #[.agg (cQ c).toArray,(.agg (aF a).toArray),(.agg (aF b).toArray)] w (Rb w (.int .i64 (yZ c a b))):=by
 have hr:=aAd hc ha hb
 have hv1:=ha.v
 have hv2:=hb.v
 have hx:=hc.x
 have hy:=hc.y
 refine aI #[.tmp 6] 41 func260 Z results260 ntmps260 Z ?_
 have M0:=Mem.refl w
 refine aE (aA (bO (.agg (.mk _)) M0 Z Z Z (fun b1 w1 M1=>(bO (.agg (.mk _)) M1 Z Z Z (fun b2 w2 M2=>(bO (.agg (.mk _)) M2 Z Z Z (fun b3 w3 M3=>(bL Z Z (aB (aC (aE (gJ [(0,0),(1,0),(2,1),(3,0),(4,0),(5,0),(6,1),(7,0),(8,0),(9,0),(10,0),(11,1),(12,0),(13,0),(14,0),(15,1),(16,0),(17,0),(18,0),(19,0)] mixed M3 Z (by kernel_rfl) (fun w4 M4=>(aX Z Z Z (fun _=>aD 8 eH Z) (aX Z Z Z (fun _=>aD 0 cY Z) (bQ Z Z Z (aK 2 (.int _ _) bB M4 Z Z Z) ?_))))))))))))))))
 refine aX Z Z Z (fun _=>bK eF underlying2 Z (fU _ (by omega) (by omega))) (aX Z Z Z (fun _=>aD 8 eH Z) (aX Z Z Z (fun _=>aD 0 cY Z) (bQ Z Z Z (aK 1 (.int _ _) bB M4 Z Z Z) (aX Z Z Z (fun _=>bK eF underlying2 Z (fU _ (by omega) (by omega))) (aX Z Z Z (fun _=>gX Z Z (by omega) (by omega)) (aX Z Z Z (fun _=>aD 8 eH Z) (aX Z Z Z (fun _=>aD 1 cW Z) (bQ Z Z Z (aK 2 (.int _ _) bB M4 Z Z Z) (aX Z Z Z (fun _=>bK eF underlying2 Z (fU _ (by omega) (by omega))) ?_)))))))))
 refine aX Z Z Z (fun _=>aD 8 eH Z) (aX Z Z Z (fun _=>aD 1 cW Z) (bQ Z Z Z (aK 1 (.int _ _) bB M4 Z Z Z) (aX Z Z Z (fun _=>bK eF underlying2 Z (fU _ (by omega) (by omega))) (aX Z Z Z (fun _=>gX Z Z (by omega) (by omega)) (nV Z Z Z (nV Z Z Z (bS (aC (aE (aA (aT Z Z (wq (aD 2 jB Z) Z (wq (aD 0 cY Z) Z (wq (aK 0 (.int _ _) bB M4 Z Z Z) Z (wq (bK eF underlying2 Z (fU _ (by omega) (by omega))) Z (wq (fO Z Z (by omega) (by omega)) Z ?_))))))))))))))))
 refine aT Z Z (wq (aD 2 jB Z) Z (wq (aD 1 cW Z) Z (wq (aK 0 (.int _ _) bB M4 Z Z Z) Z (wq (bK eF underlying2 Z (fU _ (by omega) (by omega))) Z (wq (fO Z Z (by omega) (by omega)) Z (wq (bE Z Z (by omega) (by omega)) Z (wq (lH Z Z (by decide)) Z (aL 40 (.int .i64 (yZ c a b)) (iE (sB _)) (bL Z Z (aB (aC (aR (cF (.int _ _) Z ?_)))))))))))))
 exact ⟨Z,M4.below⟩
theorem aVn (w:World) (a b:Body) :
  Calls prog 261 #[(.agg (aF a).toArray),(.agg (aF b).toArray)] w (Rb w (.int .i32 (max a.bounce b.bounce))):=by
 refine aI #[.tmp 4] 10 func261 Z results261 ntmps261 Z ?_
 have M0:=Mem.refl w
 refine aE (aA (bO (.agg (.mk _)) M0 Z Z Z (fun b1 w1 M1=>(bO (.agg (.mk _)) M1 Z Z Z (fun b2 w2 M2=>(bL Z Z (aB (aC (aE (aA (wq (aD 5 pG Z) Z (wq (aK 0 (.int _ _) bB M2 Z Z Z) Z (wq (aD 5 pG Z) Z (wq (aK 1 (.int _ _) bB M2 Z Z Z) Z (wq (qF Z Z ) Z (bL Z Z (aB (aC (aR (cF (.int _ _) Z ?_))))))))))))))))))))
 exact ⟨iE (by first | rfl | omega),M2.below⟩
theorem aOd (w:World) (c:Con) (a b:Body) (hc:Okn c) (ha:Okb a) (hb:Okb b) :
  Calls prog 243 #[.agg (cQ c).toArray,(.agg (aF a).toArray),(.agg (aF b).toArray)] w (Rb w (.int .i64 (mE c a b))):=by
 have hr:=aAd hc ha hb
 have hm1:=ha.m
 have hm2:=hb.m
 have hc1:=ha.c
 have hc2:=hb.c
 refine aI #[.tmp 6] 41 func243 Z results243 ntmps243 Z ?_
 have M0:=Mem.refl w
 refine aE (aA (bO (.agg (.mk _)) M0 Z Z Z (fun b1 w1 M1=>(bO (.agg (.mk _)) M1 Z Z Z (fun b2 w2 M2=>(bO (.agg (.mk _)) M2 Z Z Z (fun b3 w3 M3=>(bL Z Z (aB (aC (aE (aA (wq (aV 0 fL M3 Z Z Z) Z (wq (aV 1 bR M3 Z Z Z) Z (wq (aV 2 bR M3 Z Z Z) Z (dM bUg Z Z M3 (aOc _ c a b hc ha hb) (fun w4 M4=>(bL Z Z (aB (aC (aE (aA (wq (aD 4 eS Z) Z (wq (aK 1 (.int _ _) bB M4 Z Z Z) Z (wq (bK eF underlying2 Z (fU _ (by omega) (by omega))) Z ?_)))))))))))))))))))))))))
 refine wq (aD 4 eS Z) Z (wq (aK 2 (.int _ _) bB M4 Z Z Z) Z (wq (bK eF underlying2 Z (fU _ (by omega) (by omega))) Z (wq (bE Z Z (by omega) (by omega)) Z (bL Z Z (aB (aC (aE (aE (aA (aT Z Z (cV Z Z Z Z (wq (aH (.bool (decide _)) Z) Z ?_))))))))))))
 refine dT 24 Z (fun g24 => ?_) (fun g24 => ?_)
 ·refine aQ Z Z (aQ Z Z (wq (bM true (.bool true) Z Z) Z (aB (aC (cE Z (aE (aA (bL Z Z (aB (aC (aR (cK (cF (.int _ _) Z ?_)))))))))))))
  exact ⟨iE (by unfold mE;rw [if_pos (.inl (by omega))]),M4.below⟩
 ·refine aT Z Z (cV Z Z Z Z (wq (bM false (.bool (decide _)) Z Z) Z (aB (aC ?_))))
  refine aW Z (fun h27 => ?_) (fun h27 => ?_)
  ·refine aE (aA (bL Z Z (aB (aC (aR (cK (cF (.int _ _) Z ?_)))))))
   exact ⟨iE (by unfold mE;rw [if_pos (.inr (by omega))]),M4.below⟩
  ·have hsp:=aJc hc ha hb (by omega)
   refine aM (aC (aE (aA (aT Z Z (wq (sX Z (fU _ (by omega) (by omega))) Z (wq (aV 1 bR M4 Z Z Z) Z (wq (aV 2 bR M4 Z Z Z) Z (dM bUh Z Z M4 (aVn _ a b) (fun w5 M5=>(wq (bK eF underlying2 Z (fU _ (by omega) (by omega))) Z (wq (bE Z Z (by omega) (by omega)) Z (aT Z Z (dM aNh Z Z M5 (aOn _ (-yZ c a b) (65536+max a.bounce b.bounce) (a.mass+b.mass) (by omega) (by omega) (by omega) (by omega) (by omega) (by omega) (by omega)) (fun w6 M6=>(wq (aH (.tuple (List.toArray _)) Z) Z (wq (bJ (.int _ _) Z Z) Z ?_))))))))))))))))
   refine wq (bJ (.int _ _) Z Z) Z (bL Z Z (bL Z Z (aB (aC (aE (aA (aT Z Z (bL Z Z (aB (aC (aR (cF (.int _ _) Z ?_))))))))))))
   exact ⟨iE (by unfold mE;rw [if_neg (fun g=>by omega)]),M6.below⟩
theorem aEd (w:World) (k n:Int) (b:Nat) (K:Rd w 1 (some ⟨b,0,none⟩) 1 [[.int .i64 k]]) (hk:0≤k∧k≤134217728) (hn : -65536≤n∧n≤65536) (hp : -8796093022208≤k*n∧k*n≤8796093022208) :
  Calls prog 263 #[.int .i32 n,.pointer (some ⟨b,0,none⟩)] w (Rb w (.int .i64 (k*n / 65536))):=by
 rw [← iP b]
 refine aI #[.tmp 3] 8 func263 Z results263 ntmps263 Z ?_
 have M0:=Mem.refl w
 refine aE (aA (bL Z Z (aB (aC (aE (aA (wq (dR (o:=0) (.int _ _) kI (K.mem M0) (show ([[.int .i64 k]]:List (List Value))[0]? = some [.int .i64 k] from Z) Z Z) Z (aT Z Z (wq (bK eF underlying2 Z (fU _ (by omega) (by omega))) Z (dM bFz Z Z M0 (aEe _ k n (by omega) (by omega) (by omega) (by omega) (by omega)) (fun w1 M1=>(bL Z Z (aB (aC (aR (cF (.int _ _) Z ?_))))))))))))))))
 exact ⟨Z,M1.below⟩
theorem aHt (w:World) (j m x y:Int) (hj:0≤j∧j≤8796093022208) (hm:0≤m∧m≤1048576) (hp:0≤j*m∧j*m≤8796093022208) (hx : -65536≤x∧x≤65536) (hy : -65536≤y∧y≤65536) :
  Calls prog 244 #[.int .i64 j,.int .i32 m,.agg [.int .i32 x,.int .i32 y].toArray] w (Rb w (.tuple #[.int .i64 (pN j m x),.int .i64 (pN j m y)])):=by
 have r1:=lZ hp hx
 have r2:=lZ hp hy
 have hkk:=r1.1
 refine aI #[.tmp 6,.tmp 7] 23 func244 Z results244 ntmps244 Z ?_
 have M0:=Mem.refl w
 refine aE (aA (bO (.agg (.mk _)) M0 Z Z Z (fun b1 w1 M1=>(bL Z Z (bL Z Z (aB (aC (aE (aA (aT Z Z (aT Z Z (wq (bK eF underlying2 Z (fU _ (by omega) (by omega))) Z (dM bFz Z Z M1 (aEe _ j m (by omega) (by omega) (by omega) (by omega) (by omega)) (fun w2 M2=>(aO aJp M2 Z Z (fun b3 w3 M3=>(dA 1 (.int _ _) kI M3 Z Z Z Z Z Z (fun w4 M4=>(aB (aC (aE (aA (wq (eB [] [.pointer _] Z Z) Z (wq (aJ (.func _ _ _) Z) Z (aB (aC (aE (gJ [(0,0),(1,0),(2,1),(4,0),(5,0),(6,1),(3,2),(7,2),(8,0),(9,0)] mixed M4 Z (by kernel_rfl) (fun w5 M5 => ?_)))))))))))))))))))))))))))))
 refine aX Z Z Z (fun _=>aH (.func _ _ _) Z) (aX Z Z Z (fun _=>aD 0 cY Z) (bQ Z Z Z (aK 0 (.int _ _) bB M5 Z Z Z) (aX Z Z Z (fun _=>aH (.func _ _ _) Z) (aX Z Z Z (fun _=>aD 1 cW Z) (bQ Z Z Z (aK 0 (.int _ _) bB M5 Z Z Z) (dO [false,true] Z (by kernel_rfl) (dM bGa Z Z M5 (aEd _ (j*m / 65536) x b3 (rS 1 M5 Z Z) hkk hx r1.2.1) (fun w6 M6 => ?_))))))))
 refine aB (aC ⟨(dS (bH Z (aK 0 (.int _ _) bB M6 Z Z Z)) dI), ?_⟩)
 refine dO [true] Z (by kernel_rfl) (dM bGa Z Z M6 (aEd _ (j*m / 65536) y b3 (rS 1 M6 Z Z) hkk hy r2.2.1) (fun w7 M7 => ?_))
 refine aB (aC ⟨dI, ?_⟩)
 refine nV Z Z Z (nV Z Z Z (bS (aC (aR (gE (.int _ _) (.int _ _) Z Z ?_)))))
 exact ⟨Z,M7.below⟩
theorem aHo (w:World) (a l:Int) (hl:0≤l∧l≤2147483648) :
  Calls prog 148 #[.int .i64 a,.int .i64 l] w (Rb w (.tuple #[.int .i64 (kF a l),.bool (decide (kF a l≠a))])):=by
 refine aI #[.tmp 4,.tmp 5] 17 func148 Z results148 ntmps148 Z ?_
 have M0:=Mem.refl w
 refine aE (aA (bL Z Z (wq (aJ (.bool false) Z) Z (aB (aC (aE (aA (aT Z Z (wq (sX Z (fU _ (by omega) (by omega))) Z (aT Z Z (aT Z Z (wq (aIm Z Z ) Z (wq (qF Z Z ) Z (aL 12 (.int .i64 (kF a l)) Z (bL Z Z (aB (aC (aE (aA (aT Z Z (aT Z Z (aT Z Z ?_))))))))))))))))))))))
 refine cV Z Z Z Z (bL Z Z (wq (aJ (.bool (decide _)) Z) Z (aB (aC (aR (gE (.int _ _) (.bool (decide _)) Z Z ?_))))))
 exact ⟨Z,M0.below⟩
end Go.Proofs.YtaoaknafiegfoaaGreatDoor
