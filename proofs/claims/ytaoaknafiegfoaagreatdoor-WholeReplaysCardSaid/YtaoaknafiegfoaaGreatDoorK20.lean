/- Part of the proof of a law of this seat (2 texts). No conditions. -/
import Derived.Test.YtaoaknafiegfoaaGreatDoorK12
import Derived.Test.YtaoaknafiegfoaaGreatDoorK14
import Derived.Test.YtaoaknafiegfoaaGreatDoorK18
import Derived.Test.YtaoaknafiegfoaaGreatDoorK19
import Derived.Shelf.Spec.BitsCarry
set_option linter.unusedVariables false
set_option linter.unusedSimpArgs false
set_option linter.unnecessarySimpa false
set_option maxHeartbeats 100000000
namespace Go.Proofs.YtaoaknafiegfoaaGreatDoor
open Go.Bil
open Go.RowKit (Below)
open Go.Proofs
open Go.Proofs.Tryz
theorem bLz (x y:Nat) {w:World}:(callFunc 286 #[.int .u64 (x:Int),.int .u64 (y:Int),.int .u64 0]).run prog w=.ok (.value (.tuple #[.int .u64 (((x+y) % 18446744073709551616:Nat):Int),.int .u64 (((x+y) / 18446744073709551616:Nat):Int)])) w:=Any7.bits_Add64 aRo x y 0 (by omega) w
theorem aGg (w:World) (a n d:Int) (ha:0≤a) (hn:0≤n) (ha2:a≤4611686018427387904) (hn2:n≤4611686018427387904) (hp:a*n≤4611686018427387904) (hd0:0 < d) (hd:d≤9223372036854775807) :
  Calls prog 189 #[.int .i64 a,.int .i64 n,.int .i64 d] w (Rb w (.tuple #[.int .i64 (a*n / d),.int .i64 0])):=by
 obtain ⟨k,rfl⟩:=Int.eq_ofNat_of_zero_le ha
 obtain ⟨m,rfl⟩:=Int.eq_ofNat_of_zero_le hn
 obtain ⟨z,rfl⟩:=Int.eq_ofNat_of_zero_le (Int.le_of_lt hd0)
 obtain ⟨p,hpp⟩:∃ p,k*m=p:=⟨_,rfl⟩
 have hpi:(k:Int)*(m:Int)=(p:Int):=by rw [← hpp,Int.natCast_mul]
 rw [hpi] at hp
 have hql:p / z≤p:=Nat.div_le_self _ _
 refine aH #[.tmp 6,.tmp 7] 65 func189 Z results189 ntmps189 Z ?_
 have M0:=Mem.refl w
 refine aD (aA (bP Z Z (bP Z Z (aB (aC (aD (aD (aA (aX Z Z (dB Z Z Z Z (rP 17 Z (by omega) (aB (aC (bW Z (aL (aC (aD (aA (aX Z Z (dI qI Z Z M0 (jO _ (k:Int) (by omega) (by omega)) (fun w1 M1=>(aS 20 (.int .u64 (k:Int)) (iE (by omega)) (aX Z Z (dI qI Z Z M1 (jO _ (m:Int) (by omega) (by omega)) (fun w2 M2=>(aS 22 (.int .u64 (m:Int)) (iE (by omega)) ?_))))))))))))))))))))))))))
 refine dI aNd Z Z M2 (aZs _ k m (by omega) (by omega)) (fun w3 M3=>(wq (aG (.tuple (List.toArray _)) Z) Z (wq (bE (.int _ _) Z Z) Z (aS 24 (.int .u64 ((0:Nat):Int)) (iE (congrArg _ (by rw [hpp];exact Nat.div_eq_of_lt (by omega)))) (wq (bE (.int _ _) Z Z) Z (aS 25 (.int .u64 (p:Int)) (iE (congrArg _ (by rw [hpp];exact Nat.mod_eq_of_lt (by omega)))) (bP Z Z (bP Z Z (aB (aC (aD (aA (aX Z Z (dI qI Z Z M3 (jO _ (z:Int) (by omega) (by omega)) (fun w4 M4=>(aS 27 (.int .u64 (z:Int)) (iE (by omega)) (bP Z Z ?_)))))))))))))))))
 refine aB (aC (aD (aD (aA (aX Z Z (aX Z Z (dB Z Z Z Z (rP 30 Z (by omega) (aB (aC (bW Z (aL (aC (aD (aA (aX Z Z (aX Z Z (aX Z Z (dI aXg Z Z M4 (bEr _ 0 p z (by omega) (by omega) (by omega)) (fun w5 M5=>(wq (aG (.tuple (List.toArray _)) Z) Z (wq (bE (.int _ _) Z Z) Z (aS 36 (.int .u64 ((p / z:Nat):Int)) (iE (by rw [Nat.zero_mul,Nat.zero_add])) (wq (bE (.int _ _) Z Z) Z ?_))))))))))))))))))))))))
 refine bP Z Z (bP Z Z (aB (aC (aD (aA (aX Z Z (dB Z Z Z Z (rP 39 Z (by omega) (aX Z Z (dB Z Z Z Z (rP 41 Z (by omega) (wq (vT _ underlying4 Z Z Z) Z (aS 42 (.bool false) Z (aX Z Z (dB Z Z Z Z (rP 44 Z (by omega) (wq (vT _ underlying4 Z Z Z) Z (aS 45 (.bool false) Z ?_))))))))))))))))))
 refine wq (aI (.bool false) Z) Z (aB (aC (aD (aD (aA (wq (aG (.bool false) Z) Z (wq (aG (.bool false) Z) Z (aW Z Z (aW Z Z (wq (bX false (.bool false) Z Z) Z (aB (aC (bW Z (aL (aC (aD (aA (wq (aG (.bool false) Z) Z (dU aFf Z Z (aGk _ false) ?_)))))))))))))))))))
 rintro v6 w6 ⟨bs,rfl,hM6⟩
 have M6:Mem _ _ [_] _:=M5.call0 hM6
 refine aX Z Z (dI aFj Z Z M6 (xU _ (p / z) false bs (by omega) (mS 0 M6 Z Z)) (fun w7 M7=>(wq (aG (.tuple (List.toArray _)) Z) Z (wq (bE (.int _ _) Z Z) Z (wq (bE (.bool true) Z Z) Z (bP Z Z (wq (aI (.bool true) Z) Z (aB (aC (aD (aD (aA (wq (aG (.bool true) Z) Z (wq (gE false Z Z) Z (aB (aC (bW Z (aL (aC (aD (aA (aX Z Z (bP Z Z (bP Z Z ?_))))))))))))))))))))))))
 refine aB (aC (aP (gY (.int _ _) (.int _ _) Z Z ?_)))
 exact ⟨aCd (iE (by rw [hpi];simp)) rfl,M7.below⟩
theorem aZu (w:World) (a b:Int) (ha:0≤a) (ha2:a≤4611686018427387904) (hb0 : -4611686018427387904≤b) (hb1:b≤4611686018427387904) (hp : -4611686018427387904≤a*b∧a*b≤4611686018427387904) :
  Calls prog 284 #[.int .i64 a,.int .i64 b] w (fE (fun v w'=>∃ (h:Int) (l:Nat),v=.tuple #[.int .i64 h,.int .u64 (l:Int)]∧MulR a b h l∧Below w.heap.size w w')):=by
 obtain ⟨k,rfl⟩:=Int.eq_ofNat_of_zero_le ha
 obtain ⟨p,hpp⟩:∃ p,k*b.natAbs=p:=⟨_,rfl⟩
 have hpi:(k:Int)*(b.natAbs:Int)=(p:Int):=by rw [← hpp,Int.natCast_mul]
 have hneg:b < 0→(k:Int)*b = -(p:Int):=fun g=>by rw [← hpi,← Int.mul_neg];congr 1;omega
 have hpos:¬ b < 0→(k:Int)*b=(p:Int):=fun g=>by rw [← hpi];congr 1;omega
 have hpl:p≤4611686018427387904:=by by_cases g:b < 0;(have:=hneg g;omega);(have:=hpos g;omega)
 refine aH #[.tmp 4,.tmp 5] 35 func284 Z results284 ntmps284 Z ?_
 have M0:=Mem.refl w
 refine aD (aA (bP Z Z (bP Z Z (aB (aC (aD (aA (aX Z Z (dI qI Z Z M0 (jO _ (k:Int) (by omega) (by omega)) (fun w1 M1=>(aS 11 (.int .u64 (k:Int)) (iE (by omega)) (aX Z Z (dI qI Z Z M1 (jO _ b (by omega) (by omega)) (fun w2 M2=>(dI aNd Z Z M2 (aZs _ k b.natAbs (by omega) (by omega)) (fun w3 M3=>(wq (aG (.tuple (List.toArray _)) Z) Z (wq (bE (.int _ _) Z Z) Z (aS 15 (.int .u64 ((0:Nat):Int)) (iE (congrArg _ (by rw [hpp];exact Nat.div_eq_of_lt (by omega)))) (wq (bE (.int _ _) Z Z) Z ?_))))))))))))))))))))
 refine aS 16 (.int .u64 (p:Int)) (iE (congrArg _ (by rw [hpp];exact Nat.mod_eq_of_lt (by omega)))) (bP rfl rfl (bP rfl rfl (aB (aC (aD (aD (aA (aX rfl rfl (dB rfl rfl rfl rfl (rP 18 rfl (by omega) (aX rfl rfl (dB rfl rfl rfl rfl (wq (vT _ underlying4 rfl rfl rfl) rfl (aS 21 (.bool (decide (b < 0))) (bv rfl (by simp)) (aB (aC ?_))))))))))))))))
 refine bA Z (fun h21 => ?_) (fun h21 => ?_)
 ·refine aD (aA (bP Z Z (aB (aC (aD (aA (aX Z Z (wq (aPs Z) Z (aS 24 (.int .u64 ((18446744073709551615 - p:Nat):Int)) (iE (aOt p (by omega))) (wq (aWj Z (bLz (18446744073709551615 - p) 1)) Z (wq (aG (.tuple (List.toArray _)) Z) Z (wq (bE (.int _ _) Z Z) Z (aS 26 (.int .u64 (((18446744073709551616 - p) % 18446744073709551616:Nat):Int)) (iE (by omega)) (wq (bE (.int _ _) Z Z) Z (aS 27 (.int .u64 ((if p=0 then 1 else 0:Nat):Int)) (iE (by split <;> omega)) (bP Z Z (bP Z Z (aB (aC (aA ?_))))))))))))))))))))
  refine aX Z Z (wq (aPs Z) Z (aS 29 (.int .u64 ((18446744073709551615:Nat):Int)) (iE (aOt 0 (by omega))) (aX Z Z (wq (dP (.int _ _) Z Z Z) Z (aS 31 (.int .u64 ((if p=0 then 0 else 18446744073709551615:Nat):Int)) (iE (by rw [sQ];split <;> omega)) (bP Z Z (aB (aC (aD (aA (aX Z Z (wq (dX aDy underlying2 Z) Z (aS 33 (.int .i64 (if p=0 then 0 else -1)) (iE (by rw [wrI];split <;> omega)) (aX Z Z (bP Z Z (bP Z Z (aB (aC (aP (gY (.int _ _) (.int _ _) Z Z ?_))))))))))))))))))))
  exact ⟨_,_,Z,MulR.neg (hneg h21) hpl,M3.below⟩
 ·refine aL (aC (aD (aA (aX Z Z (wq (dX aDy underlying2 Z) Z (aS 33 (.int .i64 0) (iE (by rw [wrI];omega)) (aX Z Z (bP Z Z (bP Z Z (aB (aC (aP (gY (.int _ _) (.int _ _) Z Z ?_)))))))))))))
  exact ⟨_,_,Z,MulR.pos (hpos h21) hpl,M3.below⟩
theorem aCk (w:World) (a b:Int) (ha:0≤a) (ha2:a≤4611686018427387904) (hb0 : -4611686018427387904≤b) (hb1:b≤4611686018427387904) (hp : -4611686018427387904≤a*b∧a*b≤4611686018427387904) :
  Calls prog 278 #[.int .i64 a,.int .i64 b,.int .i64 16] w (Rb w (.tuple #[.int .i64 (a*b / 65536),.int .i64 0])):=by
 refine aH #[.tmp 6,.tmp 7] 47 func278 Z results278 ntmps278 Z ?_
 have M0:=Mem.refl w
 refine aD (aA (bP Z Z (bP Z Z (aB (aC (aD (aD (aA (aX Z Z (dB Z Z Z Z (rP 12 Z (by first | decide | omega) (wq (aG (.bool false) Z) Z (aX Z Z (dB Z Z Z Z (rP 15 Z (by first | decide | omega) (wq (bX false (.bool false) Z Z) Z (aB (aC (bW Z (aL (aC (aD (aA (aX Z Z ?_))))))))))))))))))))))))
 refine aX Z Z (dU bHb Z Z (aZu _ a b ha ha2 hb0 hb1 hp) ?_)
 rintro v1 w1 ⟨h,l,rfl,hml,hb1⟩
 have M1:=M0.callB hb1
 have hll:=hml.low
 obtain ⟨H,B,hH,hB,⟨q,hq⟩,hl4,hBl,hlo,hh1,hh2⟩:=hml.high
 refine wq (aG (.tuple (List.toArray _)) Z) Z (wq (bE (.int _ _) Z Z) Z (wq (bE (.int _ _) Z Z) Z (bP Z Z (bP Z Z (aB (aC (aD (aA (aX Z Z (aX Z Z (wq (bV us3 underlying178 Z (jC _ (by omega) (by omega))) Z (wq (hJ Z Z (by omega)) Z (aS 26 (.int .u64 ((l / 65536:Nat):Int)) (iE (aEd l 16 _ Z (by omega))) (aX Z Z (wq (dX us2 underlying237 Z) Z (aS 28 (.int .u64 (H:Int)) (iE hH) (aX Z Z (wq (lY Z Z (by first | decide | omega) (by first | decide | omega)) Z ?_))))))))))))))))))
 refine aS 30 (.int .i64 48) (iE (by first | decide | omega)) (wq (bV us3 underlying178 Z (jC _ (by omega) (by omega))) Z (wq (tA Z Z (by omega)) Z (aS 32 (.int .u64 (B:Int)) (iE ((aVu H 48 _ Z (by omega)).trans (congrArg _ hB))) (wq (dP (.int _ _) Z Z Z) Z (aS 33 (.int .u64 ((l / 65536+B:Nat):Int)) (iE (bLv (l / 65536) q B 48 hq hl4 hBl)) (wq (dX aDy underlying2 Z) Z (aS 34 (.int .i64 (a*b / 65536)) (iE hlo) (bP Z Z (aB (aC (aD (aD (aA (aX Z Z (dB Z Z Z Z (rP 36 Z (by first | decide | omega) ?_))))))))))))))))
 refine aB (aC (bW Z (aL (aC (aD (aD (aA (aX Z Z (aX Z Z (wq (bV us3 underlying178 Z (jC _ (by omega) (by omega))) Z (wq (hJ Z Z (by omega)) Z (aS 42 (.int .i64 h) (iE ((mY h).trans hh1)) (aX Z Z (wq (hJ Z Z (by decide)) Z (aS 44 (.int .i64 h) (iE ((bCb _).trans hh2)) (dB Z Z Z Z (rP 45 Z (fun g=>g Z) (aB (aC (bW Z (aL (aC (aD (aA ?_))))))))))))))))))))))))
 refine aX Z Z (bP Z Z (bP Z Z (aB (aC (aP (gY (.int _ _) (.int _ _) Z Z ?_))))))
 exact ⟨Z,M1.below⟩
theorem wZ (w:World) (a b:Int) (ha:0≤a) (ha2:a≤4611686018427387904) (hb0 : -4611686018427387904≤b) (hb1:b≤4611686018427387904) (hp : -4611686018427387904≤a*b∧a*b≤4611686018427387904) :
  Calls prog 262 #[.int .i64 a,.int .i64 b] w (Rb w (.int .i64 (a*b / 65536))):=by
 refine aH #[.tmp 4] 14 func262 Z results262 ntmps262 Z ?_
 have M0:=Mem.refl w
 refine aD (aA (bP Z Z (aB (aC (aD (aA (aX Z Z (aX Z Z (dI bGe Z Z M0 (aCk _ a b ha ha2 hb0 hb1 hp) (fun w1 M1=>(wq (aG (.tuple (List.toArray _)) Z) Z (wq (bE (.int _ _) Z Z) Z (wq (bE (.int _ _) Z Z) Z (bP Z Z (bP Z Z (aB (aC (aD (aA (aX Z Z (bP Z Z (aB (aC (aP (cB (.int _ _) Z ?_)))))))))))))))))))))))))
 exact ⟨Z,M1.below⟩
theorem aHa (w:World) (c:Con) (a b:Body) (hc:Okn c) (ha:Okb a) (hb:Okb b) :
  Calls prog 260 #[.agg (cM c).toArray,(.agg (aF a).toArray),(.agg (aF b).toArray)] w (Rb w (.int .i64 (uV c a b))):=by
 have hr:=aFr hc ha hb
 have hv1:=ha.v
 have hv2:=hb.v
 have hx:=hc.x
 have hy:=hc.y
 refine aH #[.tmp 6] 41 func260 Z results260 ntmps260 Z ?_
 have M0:=Mem.refl w
 refine aD (aA (bH (.agg (.mk _)) M0 Z Z Z (fun b1 w1 M1=>(bH (.agg (.mk _)) M1 Z Z Z (fun b2 w2 M2=>(bH (.agg (.mk _)) M2 Z Z Z (fun b3 w3 M3=>(bP Z Z (aB (aC (aD (gJ [(0,0),(1,0),(2,1),(3,0),(4,0),(5,0),(6,1),(7,0),(8,0),(9,0),(10,0),(11,1),(12,0),(13,0),(14,0),(15,1),(16,0),(17,0),(18,0),(19,0)] mixed M3 Z (by kernel_rfl) (fun w4 M4=>(aU Z Z Z (fun _=>aE 8 fS Z) (aU Z Z Z (fun _=>aE 0 eB Z) (bS Z Z Z (aK 2 (.int _ _) aY M4 Z Z Z) ?_))))))))))))))))
 refine aU Z Z Z (fun _=>bV gI underlying2 Z (kO _ (by omega) (by omega))) (aU Z Z Z (fun _=>aE 8 fS Z) (aU Z Z Z (fun _=>aE 0 eB Z) (bS Z Z Z (aK 1 (.int _ _) aY M4 Z Z Z) (aU Z Z Z (fun _=>bV gI underlying2 Z (kO _ (by omega) (by omega))) (aU Z Z Z (fun _=>lY Z Z (by omega) (by omega)) (aU Z Z Z (fun _=>aE 8 fS Z) (aU Z Z Z (fun _=>aE 1 dQ Z) (bS Z Z Z (aK 2 (.int _ _) aY M4 Z Z Z) (aU Z Z Z (fun _=>bV gI underlying2 Z (kO _ (by omega) (by omega))) ?_)))))))))
 refine aU Z Z Z (fun _=>aE 8 fS Z) (aU Z Z Z (fun _=>aE 1 dQ Z) (bS Z Z Z (aK 1 (.int _ _) aY M4 Z Z Z) (aU Z Z Z (fun _=>bV gI underlying2 Z (kO _ (by omega) (by omega))) (aU Z Z Z (fun _=>lY Z Z (by omega) (by omega)) (qB Z Z Z (qB Z Z Z (bZ (aC (aD (aA (aX Z Z (wq (aE 2 nU Z) Z (wq (aE 0 eB Z) Z (wq (aK 0 (.int _ _) aY M4 Z Z Z) Z (wq (bV gI underlying2 Z (kO _ (by omega) (by omega))) Z (wq (fY Z Z (by omega) (by omega)) Z ?_))))))))))))))))
 refine aX Z Z (wq (aE 2 nU Z) Z (wq (aE 1 dQ Z) Z (wq (aK 0 (.int _ _) aY M4 Z Z Z) Z (wq (bV gI underlying2 Z (kO _ (by omega) (by omega))) Z (wq (fY Z Z (by omega) (by omega)) Z (wq (bM Z Z (by omega) (by omega)) Z (wq (hJ Z Z (by decide)) Z (aS 40 (.int .i64 (uV c a b)) (iE (mY _)) (bP Z Z (aB (aC (aP (cB (.int _ _) Z ?_)))))))))))))
 exact ⟨Z,M4.below⟩
theorem aMd (w:World) (a b:Body) :
  Calls prog 261 #[(.agg (aF a).toArray),(.agg (aF b).toArray)] w (Rb w (.int .i32 (max a.bounce b.bounce))):=by
 refine aH #[.tmp 4] 10 func261 Z results261 ntmps261 Z ?_
 have M0:=Mem.refl w
 refine aD (aA (bH (.agg (.mk _)) M0 Z Z Z (fun b1 w1 M1=>(bH (.agg (.mk _)) M1 Z Z Z (fun b2 w2 M2=>(bP Z Z (aB (aC (aD (aA (wq (aE 5 uC Z) Z (wq (aK 0 (.int _ _) aY M2 Z Z Z) Z (wq (aE 5 uC Z) Z (wq (aK 1 (.int _ _) aY M2 Z Z Z) Z (wq (nN Z Z ) Z (bP Z Z (aB (aC (aP (cB (.int _ _) Z ?_))))))))))))))))))))
 exact ⟨iE (by first | rfl | omega),M2.below⟩
theorem aGn (w:World) (c:Con) (a b:Body) (hc:Okn c) (ha:Okb a) (hb:Okb b) :
  Calls prog 243 #[.agg (cM c).toArray,(.agg (aF a).toArray),(.agg (aF b).toArray)] w (Rb w (.int .i64 (mU c a b))):=by
 have hr:=aFr hc ha hb
 have hm1:=ha.m
 have hm2:=hb.m
 have hc1:=ha.c
 have hc2:=hb.c
 refine aH #[.tmp 6] 41 func243 Z results243 ntmps243 Z ?_
 have M0:=Mem.refl w
 refine aD (aA (bH (.agg (.mk _)) M0 Z Z Z (fun b1 w1 M1=>(bH (.agg (.mk _)) M1 Z Z Z (fun b2 w2 M2=>(bH (.agg (.mk _)) M2 Z Z Z (fun b3 w3 M3=>(bP Z Z (aB (aC (aD (aA (wq (bB 0 gT M3 Z Z Z) Z (wq (bB 1 bU M3 Z Z Z) Z (wq (bB 2 bU M3 Z Z Z) Z (dI bFo Z Z M3 (aHa _ c a b hc ha hb) (fun w4 M4=>(bP Z Z (aB (aC (aD (aA (wq (aE 4 fR Z) Z (wq (aK 1 (.int _ _) aY M4 Z Z Z) Z (wq (bV gI underlying2 Z (kO _ (by omega) (by omega))) Z ?_)))))))))))))))))))))))))
 refine wq (aE 4 fR Z) Z (wq (aK 2 (.int _ _) aY M4 Z Z Z) Z (wq (bV gI underlying2 Z (kO _ (by omega) (by omega))) Z (wq (bM Z Z (by omega) (by omega)) Z (bP Z Z (aB (aC (aD (aD (aA (aX Z Z (dB Z Z Z Z (wq (aG (.bool (decide _)) Z) Z ?_))))))))))))
 refine dV 24 Z (fun g24 => ?_) (fun g24 => ?_)
 ·refine aW Z Z (aW Z Z (wq (bX true (.bool true) Z Z) Z (aB (aC (cU Z (aD (aA (bP Z Z (aB (aC (aP (cL (cB (.int _ _) Z ?_)))))))))))))
  exact ⟨iE (by unfold mU;rw [if_pos (.inl (by omega))]),M4.below⟩
 ·refine aX Z Z (dB Z Z Z Z (wq (bX false (.bool (decide _)) Z Z) Z (aB (aC ?_))))
  refine bA Z (fun h27 => ?_) (fun h27 => ?_)
  ·refine aD (aA (bP Z Z (aB (aC (aP (cL (cB (.int _ _) Z ?_)))))))
   exact ⟨iE (by unfold mU;rw [if_pos (.inr (by omega))]),M4.below⟩
  ·have hsp:=aJv hc ha hb (by omega)
   refine aL (aC (aD (aA (aX Z Z (wq (aMf Z (kO _ (by omega) (by omega))) Z (wq (bB 1 bU M4 Z Z Z) Z (wq (bB 2 bU M4 Z Z Z) Z (dI bJl Z Z M4 (aMd _ a b) (fun w5 M5=>(wq (bV gI underlying2 Z (kO _ (by omega) (by omega))) Z (wq (bM Z Z (by omega) (by omega)) Z (aX Z Z (dI aGy Z Z M5 (aGg _ (-uV c a b) (65536+max a.bounce b.bounce) (a.mass+b.mass) (by omega) (by omega) (by omega) (by omega) (by omega) (by omega) (by omega)) (fun w6 M6=>(wq (aG (.tuple (List.toArray _)) Z) Z (wq (bE (.int _ _) Z Z) Z ?_))))))))))))))))
   refine wq (bE (.int _ _) Z Z) Z (bP Z Z (bP Z Z (aB (aC (aD (aA (aX Z Z (bP Z Z (aB (aC (aP (cB (.int _ _) Z ?_))))))))))))
   exact ⟨iE (by unfold mU;rw [if_neg (fun g=>by omega)]),M6.below⟩
theorem wS (w:World) (k n:Int) (b:Nat) (K:Rd w 1 (some ⟨b,0,none⟩) 1 [[.int .i64 k]]) (hk:0≤k∧k≤134217728) (hn : -65536≤n∧n≤65536) (hp : -8796093022208≤k*n∧k*n≤8796093022208) :
  Calls prog 263 #[.int .i32 n,.pointer (some ⟨b,0,none⟩)] w (Rb w (.int .i64 (k*n / 65536))):=by
 rw [← eT b]
 refine aH #[.tmp 3] 8 func263 Z results263 ntmps263 Z ?_
 have M0:=Mem.refl w
 refine aD (aA (bP Z Z (aB (aC (aD (aA (wq (eP (o:=0) (.int _ _) mI (K.mem M0) (show ([[.int .i64 k]]:List (List Value))[0]? = some [.int .i64 k] from Z) Z Z) Z (aX Z Z (wq (bV gI underlying2 Z (kO _ (by omega) (by omega))) Z (dI aWt Z Z M0 (wZ _ k n (by omega) (by omega) (by omega) (by omega) (by omega)) (fun w1 M1=>(bP Z Z (aB (aC (aP (cB (.int _ _) Z ?_))))))))))))))))
 exact ⟨Z,M1.below⟩
theorem yQ (w:World) (j m x y:Int) (hj:0≤j∧j≤8796093022208) (hm:0≤m∧m≤1048576) (hp:0≤j*m∧j*m≤8796093022208) (hx : -65536≤x∧x≤65536) (hy : -65536≤y∧y≤65536) :
  Calls prog 244 #[.int .i64 j,.int .i32 m,.agg [.int .i32 x,.int .i32 y].toArray] w (Rb w (.tuple #[.int .i64 (qC j m x),.int .i64 (qC j m y)])):=by
 have r1:=nC hp hx
 have r2:=nC hp hy
 have hkk:=r1.1
 refine aH #[.tmp 6,.tmp 7] 23 func244 Z results244 ntmps244 Z ?_
 have M0:=Mem.refl w
 refine aD (aA (bH (.agg (.mk _)) M0 Z Z Z (fun b1 w1 M1=>(bP Z Z (bP Z Z (aB (aC (aD (aA (aX Z Z (aX Z Z (wq (bV gI underlying2 Z (kO _ (by omega) (by omega))) Z (dI aWt Z Z M1 (wZ _ j m (by omega) (by omega) (by omega) (by omega) (by omega)) (fun w2 M2=>(aM zI M2 Z Z (fun b3 w3 M3=>(dN 1 (.int _ _) mI M3 Z Z Z Z Z Z (fun w4 M4=>(aB (aC (aD (aA (wq (cH [] [.pointer _] Z Z) Z (wq (aI (.func _ _ _) Z) Z (aB (aC (aD (gJ [(0,0),(1,0),(2,1),(4,0),(5,0),(6,1),(3,2),(7,2),(8,0),(9,0)] mixed M4 Z (by kernel_rfl) (fun w5 M5 => ?_)))))))))))))))))))))))))))))
 refine aU Z Z Z (fun _=>aG (.func _ _ _) Z) (aU Z Z Z (fun _=>aE 0 eB Z) (bS Z Z Z (aK 0 (.int _ _) aY M5 Z Z Z) (aU Z Z Z (fun _=>aG (.func _ _ _) Z) (aU Z Z Z (fun _=>aE 1 dQ Z) (bS Z Z Z (aK 0 (.int _ _) aY M5 Z Z Z) (dD [false,true] Z (by kernel_rfl) (dI aYj Z Z M5 (wS _ (j*m / 65536) x b3 (mS 1 M5 Z Z) hkk hx r1.2.1) (fun w6 M6 => ?_))))))))
 refine aB (aC ⟨(eH (bJ Z (aK 0 (.int _ _) aY M6 Z Z Z)) dE), ?_⟩)
 refine dD [true] Z (by kernel_rfl) (dI aYj Z Z M6 (wS _ (j*m / 65536) y b3 (mS 1 M6 Z Z) hkk hy r2.2.1) (fun w7 M7 => ?_))
 refine aB (aC ⟨dE, ?_⟩)
 refine qB Z Z Z (qB Z Z Z (bZ (aC (aP (gY (.int _ _) (.int _ _) Z Z ?_)))))
 exact ⟨Z,M7.below⟩
theorem aAc (w:World) (a l:Int) (hl:0≤l∧l≤2147483648) :
  Calls prog 148 #[.int .i64 a,.int .i64 l] w (Rb w (.tuple #[.int .i64 (jG a l),.bool (decide (jG a l≠a))])):=by
 refine aH #[.tmp 4,.tmp 5] 17 func148 Z results148 ntmps148 Z ?_
 have M0:=Mem.refl w
 refine aD (aA (bP Z Z (wq (aI (.bool false) Z) Z (aB (aC (aD (aA (aX Z Z (wq (aMf Z (kO _ (by omega) (by omega))) Z (aX Z Z (aX Z Z (wq (aAn Z Z ) Z (wq (nN Z Z ) Z (aS 12 (.int .i64 (jG a l)) Z (bP Z Z (aB (aC (aD (aA (aX Z Z (aX Z Z (aX Z Z ?_))))))))))))))))))))))
 refine dB Z Z Z Z (bP Z Z (wq (aI (.bool (decide _)) Z) Z (aB (aC (aP (gY (.int _ _) (.bool (decide _)) Z Z ?_))))))
 exact ⟨Z,M0.below⟩
end Go.Proofs.YtaoaknafiegfoaaGreatDoor
