/- Part of the proof of a law of this seat (2 texts). No conditions. -/
import Derived.Test.YtaoaknafiegfoaaGreatDoorK22
import Derived.Test.YtaoaknafiegfoaaGreatDoorK23
set_option linter.unusedVariables false
set_option linter.unusedSimpArgs false
set_option linter.unnecessarySimpa false
set_option maxHeartbeats 100000000
namespace Go.Proofs.YtaoaknafiegfoaaGreatDoor
open Go.Bil
open Go.RowKit (Below)
open Go.Proofs
open Go.Proofs.Tryz
theorem aWl (w:World) (A:Option Addr) (n c:Nat) (xs:List Body) (R:Rd w 10 A n (xs.map aF)) :
  Calls prog 103 #[.slice A n c] w (Rb w (.int .i64 (qG xs))):=by
 have hlen:xs.length=n:=by simpa using R.len
 have hbd:=R.bound
 refine aI #[.tmp 2] 22 func103 Z results103 ntmps103 Z ?_
 have M0:=Mem.refl w
 refine aE (aA (bL Z Z (aB (aC (aE (aE (aA (dJ Z Z (wq (bW underlying29 Z) Z (cV Z Z Z Z (aB (aC ?_))))))))))))
 refine aW Z (fun h7 => ?_) (fun h7 => ?_)
 ·refine aE (aA (bL Z Z (aB (aC (aR (cK (cF (.int _ _) Z ?_)))))))
  exact ⟨iE (by unfold qG;rw [if_pos (by omega)]),M0.below⟩
 ·refine aM (aC (aE (aE (aA (bL Z Z (aB (aC (aS (dK (σ:=Nat) [0] (fun k=>[(3,.int .i64 (k:Int))]) (fun k w'=>(k≤n∧∀ (j:Nat) (c:Body),j < k→xs[j]? = some c→check c=0)∧Mem w [] [] w') (fun k=>n - k) 0 (bI Z eC) (⟨⟨by omega,fun j c hj=>by omega⟩,M0⟩) ?_)))))))))
  rintro k ρ1 w1 ⟨⟨hk,hok⟩,hM1⟩
  refine aE (aE (aA (aT Z Z (dJ Z Z (wq (bW underlying29 Z) Z (cV Z Z Z Z (aB (aC ?_))))))))
  refine aW Z (fun h11 => ?_) (fun h11 => ?_)
  ·obtain ⟨xb,hxb⟩:=cG (k:=k) hlen (by omega)
   refine aM (aC (aE (aS (aE (aA (dJ Z Z (aT Z Z (wq (bG (k) dU Z Z Z ((R.mem hM1).below_len (aG aF hxb)) ((R.mem hM1).someK (aG aF hxb))) Z (wq (dQ _ bR (R.mem hM1) (aG aF hxb) Z) Z (eJ bPj Z Z (aEr _ xb) ?_))))))))))
   rintro v2 w2 ⟨rfl,hb2⟩
   have M2:=hM1.callB hb2
   refine bL Z Z (aB (aC (aE (aA (aT Z Z (cV Z Z Z Z (aB (aC ?_))))))))
   refine aW Z (fun h20 => ?_) (fun h20 => ?_)
   ·refine aE (aA (aT Z Z (bL Z Z (aB (aC (aR (lP (cK (sY (lP (cK (cF (.int _ _) Z ?_))))))))))))
    exact ⟨iE (by unfold qG;rw [if_neg (by omega),vW hxb h20 hok]),M2.below⟩
   ·refine aM (cS (aC (aA (aT Z Z (wq (bE Z Z (by omega) (by omega)) Z (bL Z Z (aB ?_)))))))
    refine bU (k+1) (bI Z eC) (bX Z gR) ?_ ?_
    ·exact ⟨⟨by omega,rU (p:=fun _ c=>check c=0) hok hxb (by omega)⟩,M2⟩
    ·omega
  ·refine cM (cZ (dF (eL (aC (aE (aA (bL Z Z (aB (aC (aR (cF (.int _ _) Z ?_)))))))))))
   exact ⟨iE (by unfold qG;rw [if_neg (by omega),pF (fun j c hj=>hok j c (by have:=(List.getElem?_eq_some_iff.1 hj).1;omega) hj)]),hM1.below⟩
theorem bDq (w:World) (A:Option Addr) (n c:Nat) (xs:List Body) (R:Rd w 10 A n (xs.map aF)) :
  Calls prog 119 #[.slice A n c] w (Rb w (.int .i64 (qG xs))):=by
 have hlen:xs.length=n:=by simpa using R.len
 have hbd:=R.bound
 refine aI #[.tmp 2] 21 func119 Z results119 ntmps119 Z ?_
 have M0:=Mem.refl w
 refine aE (aA (bL Z Z (aB (aC (aE (aE (aA (dJ Z Z (wq (bW underlying29 Z) Z (cV Z Z Z Z (aB (aC ?_))))))))))))
 refine aW Z (fun h8 => ?_) (fun h8 => ?_)
 ·refine aE (aA (bL Z Z (aB (aC (aR (cK (cF (.int _ _) Z ?_)))))))
  exact ⟨iE (by unfold qG;rw [if_pos (by omega)]),M0.below⟩
 ·refine aM (aC (aE (aE (aA (dJ Z Z (wq (bW underlying29 Z) Z (aT Z Z (aB (aC (aS (dK (σ:=Nat) [9,10] (fun k=>[(11,.int .i64 (k:Int))]) (fun k w'=>(k≤n∧∀ (j:Nat) (c:Body),j < k→xs[j]? = some c→check c=0)∧Mem w [] [] w') (fun k=>n - k) 0 (bI Z eC) (⟨⟨by omega,fun j c hj=>by omega⟩,M0⟩) ?_)))))))))))
  rintro k ρ1 w1 ⟨⟨hk,hok⟩,hM1⟩
  refine aE (aA (cV Z Z Z Z (aB (aC (aE ?_)))))
  refine aW Z (fun h12 => ?_) (fun h12 => ?_)
  ·obtain ⟨xb,hxb⟩:=cG (k:=k) hlen (by omega)
   refine aM (aC (aE (aS (aE (aA (wq (bG (k) dU Z Z Z ((R.mem hM1).below_len (aG aF hxb)) ((R.mem hM1).someK (aG aF hxb))) Z (wq (dQ _ bR (R.mem hM1) (aG aF hxb) Z) Z (aO gL hM1 Z Z (fun b2 w2 M2=>(bC 0 _ bR M2 Z Z Z Z Z (aP Z) Z (fun w3 M3=>(aB (aC (aE (aA (wq (aV 0 bR M3 Z Z Z) Z (dM aUg Z Z M3 (zB _ xb) (fun w4 M4=>(bL Z Z (aB (aC (aE (aA (aT Z Z (cV Z Z Z Z (aB (aC ?_)))))))))))))))))))))))))))
   refine aW Z (fun h18 => ?_) (fun h18 => ?_)
   ·refine aE (aA (aT Z Z (bL Z Z (aB (aC (aR (lP (cK (sY (lP (cK (cF (.int _ _) Z ?_))))))))))))
    exact ⟨iE (by unfold qG;rw [if_neg (by omega),vW hxb h18 hok]),M4.below⟩
   ·refine aM (cS (aC (aA (wq (bE Z Z (by omega) (by omega)) Z (aT Z Z (aB ?_))))))
    refine bU (k+1) (bI Z eC) (bX Z (bX Z gR)) ?_ ?_
    ·exact ⟨⟨by omega,rU (p:=fun _ c=>check c=0) hok hxb (by omega)⟩,M4.keep [false]⟩
    ·omega
  ·refine cM (cZ (dF (eL (aC (aE (aA (bL Z Z (aB (aC (aR (cF (.int _ _) Z ?_)))))))))))
   exact ⟨iE (by unfold qG;rw [if_neg (by omega),pF (fun j c hj=>hok j c (by have:=(List.getElem?_eq_some_iff.1 hj).1;omega) hj)]),hM1.below⟩
theorem aXu {xs:List Body} {k:Nat} {a b:Body} (h:∀ (j:Nat) (x y:Body),j < k→xs[j]? = some x→xs[j+1]? = some y→x.key < y.key) (ha:xs[k]? = some a) (hb:xs[k+1]? = some b) (hab:a.key < b.key) :
  ∀ (j:Nat) (x y:Body),j < k+1→xs[j]? = some x→xs[j+1]? = some y→x.key < y.key:=by
 intro j x y hj hx hy
 by_cases e:j=k
 ·subst e
  rw [ha] at hx
  rw [hb] at hy
  injection hx with hx
  injection hy with hy
  subst hx
  subst hy
  exact hab
 ·exact h j x y (by omega) hx hy
theorem aJi (w:World) (A:Option Addr) (n c:Nat) (xs:List Body) (R:Rd w 10 A n (xs.map aF)) :
  Calls prog 82 #[.slice A n c] w (Rb w (.int .i64 (jT xs))):=by
 have hlen:xs.length=n:=by simpa using R.len
 have hbd:=R.bound
 refine aI #[.tmp 2] 28 func82 Z results82 ntmps82 Z ?_
 have M0:=Mem.refl w
 refine aE (aA (bL Z Z (aB (aC (aE (aE (aA (dJ Z Z (dM bRn Z Z M0 (bDq _ _ _ _ xs (R.mem M0)) (fun w1 M1=>(bL Z Z (aB (aC (aE (aA (aT Z Z (cV Z Z Z Z (aB (aC ?_)))))))))))))))))))
 refine aW Z (fun h8 => ?_) (fun h8 => ?_)
 ·refine aE (aA (aT Z Z (bL Z Z (aB (aC (aR (cK (cF (.int _ _) Z ?_))))))))
  exact ⟨iE (by unfold jT;rw [if_pos h8]),M1.below⟩
 ·refine aM (aC (aE (aE (aA (bL Z Z (aB (aC (aS (dK (σ:=Nat) [0] (fun k=>[(4,.int .i64 ((k+1:Nat):Int))]) (fun k w'=>((k+1≤n∨k=0)∧∀ (j:Nat) (x y:Body),j < k→xs[j]? = some x→xs[j+1]? = some y→x.key < y.key)∧Mem w [] [] w') (fun k=>n - k) 0 (bI Z eC) (⟨⟨.inr Z,fun j x y hj=>by omega⟩,M1⟩) ?_)))))))))
  rintro k ρ2 w2 ⟨⟨hk,hadj⟩,hM2⟩
  refine aE (aE (aA (aT Z Z (dJ Z Z (wq (bW underlying29 Z) Z (cV Z Z Z Z (aB (aC ?_))))))))
  refine aW Z (fun h13 => ?_) (fun h13 => ?_)
  ·obtain ⟨xa,hxa⟩:=cG (k:=k) hlen (by omega)
   obtain ⟨xb,hxb⟩:=cG (k:=k+1) hlen (by omega)
   refine aM (aC (aE (aS (aE (kY [(0,0),(1,0),(2,0),(3,1),(4,1),(5,1),(6,0),(7,0),(8,1),(9,1),(10,1),(11,0)] mixed Z (by kernel_rfl) (fun w3 hb3 hh3 => ?_))))))
   have M3:=hM2.drew hb3 hh3
   refine kB Z Z Z (eG Z Z Z (aX Z Z Z (fun _=>gX Z Z (by omega) (by omega)) (bQ Z Z Z (bG (k) dU Z Z (by omega) ((R.mem M3).below_len (aG aF hxa)) ((R.mem M3).someK (aG aF hxa))) (bQ Z Z Z (aU 0 dZ (R.mem M3) (jD ((R.mem M3).below_len (aG aF hxa))) Z) (bQ Z Z Z (dR (o:=0) (.int _ _) bZ (R.mem M3) (aG aF hxa) Z Z) (kB Z Z Z (eG Z Z Z (bQ Z Z Z (bG (k+1) dU Z Z Z ((R.mem M3).below_len (aG aF hxb)) ((R.mem M3).someK (aG aF hxb))) ?_))))))))
   refine bQ Z Z Z (aU 0 dZ (R.mem M3) (jD ((R.mem M3).below_len (aG aF hxb))) Z) (bQ Z Z Z (dR (o:=0) (.int _ _) bZ (R.mem M3) (aG aF hxb) Z Z) (aX Z Z Z (fun _=>cH (.bool (decide _)) Z Z Z) (bS (aC ?_))))
   refine aW Z (fun h27 => ?_) (fun h27 => ?_)
   ·refine aE (aA (bL Z Z (aB (aC (aR (lP (cK (sY (lP (cK (cF (.int _ _) Z ?_)))))))))))
    exact ⟨iE (by unfold jT;rw [if_neg h8,if_neg (by rw [aGg hxa hxb (by omega)];decide)]),M3.below⟩
   ·refine aM (cS (aC (aA (aT Z Z (wq (bE Z Z (by omega) (by omega)) Z (bL Z Z (aB ?_)))))))
    refine bU (k+1) (bI Z eC) (bX Z gR) ?_ ?_
    ·exact ⟨⟨.inl (by omega),aXu hadj hxa hxb (by omega)⟩,M3⟩
    ·omega
  ·refine cM (cZ (dF (eL (aC (aE (aA (bL Z Z (aB (aC (aR (cF (.int _ _) Z ?_)))))))))))
   exact ⟨iE (by unfold jT;rw [if_neg h8,if_pos (xB fun i x y hx hy=>hadj i x y (by have:=(List.getElem?_eq_some_iff.1 hy).1;omega) hx hy)]),hM2.below⟩
theorem aSr (w:World) (A:Option Addr) (n c:Nat) (xs:List Body) (R:Rd w 10 A n (xs.map aF)) :
  Calls prog 135 #[.slice A n c] w (Rb w (.int .i64 (jT xs))):=by
 have hlen:xs.length=n:=by simpa using R.len
 have hbd:=R.bound
 refine aI #[.tmp 2] 29 func135 Z results135 ntmps135 Z ?_
 have M0:=Mem.refl w
 refine aE (aA (bL Z Z (aB (aC (aE (aA (dJ Z Z (dM bRc Z Z M0 (aWl _ _ _ _ xs (R.mem M0)) (fun w1 M1=>(bL Z Z (aB (aC (aE (aE (aA (aT Z Z (cV Z Z Z Z (aB (aC ?_)))))))))))))))))))
 refine aW Z (fun h8 => ?_) (fun h8 => ?_)
 ·refine aE (aA (aT Z Z (bL Z Z (aB (aC (aR (cK (cF (.int _ _) Z ?_))))))))
  exact ⟨iE (by unfold jT;rw [if_pos h8]),M1.below⟩
 ·refine aM (aC (aE (aE (aA (bL Z Z (aB (aC (aS (dK (σ:=Nat) [0] (fun k=>[(4,.int .i64 (k:Int))]) (fun k w'=>((k+1≤n∨k=0)∧∀ (j:Nat) (x y:Body),j < k→xs[j]? = some x→xs[j+1]? = some y→x.key < y.key)∧Mem w [] [] w') (fun k=>n - k) 0 (bI Z eC) (⟨⟨.inr Z,fun j x y hj=>by omega⟩,M1⟩) ?_)))))))))
  rintro k ρ2 w2 ⟨⟨hk,hadj⟩,hM2⟩
  refine aE (aE (aA (aT Z Z (wq (bE Z Z (by omega) (by omega)) Z (dJ Z Z (wq (bW underlying29 Z) Z (cV Z Z Z Z (aB (aC ?_)))))))))
  refine aW Z (fun h14 => ?_) (fun h14 => ?_)
  ·obtain ⟨xa,hxa⟩:=cG (k:=k) hlen (by omega)
   obtain ⟨xb,hxb⟩:=cG (k:=k+1) hlen (by omega)
   refine aM (aC (aE (aS (aE (kY [(0,0),(1,0),(2,0),(3,1),(4,1),(5,1),(6,0),(7,0),(8,1),(9,1),(10,1),(11,0)] mixed Z (by kernel_rfl) (fun w3 hb3 hh3 => ?_))))))
   have M3:=hM2.drew hb3 hh3
   refine kB Z Z Z (eG Z Z Z (aX Z Z Z (fun _=>bE Z Z (by omega) (by omega)) (bQ Z Z Z (bG (k+1) dU Z Z Z ((R.mem M3).below_len (aG aF hxb)) ((R.mem M3).someK (aG aF hxb))) (bQ Z Z Z (aU 0 dZ (R.mem M3) (jD ((R.mem M3).below_len (aG aF hxb))) Z) (bQ Z Z Z (dR (o:=0) (.int _ _) bZ (R.mem M3) (aG aF hxb) Z Z) (kB Z Z Z (eG Z Z Z (bQ Z Z Z (bG (k) dU Z Z Z ((R.mem M3).below_len (aG aF hxa)) ((R.mem M3).someK (aG aF hxa))) ?_))))))))
   refine bQ Z Z Z (aU 0 dZ (R.mem M3) (jD ((R.mem M3).below_len (aG aF hxa))) Z) (bQ Z Z Z (dR (o:=0) (.int _ _) bZ (R.mem M3) (aG aF hxa) Z Z) (aX Z Z Z (fun _=>cH (.bool (decide _)) Z Z Z) (bS (aC ?_))))
   refine aW Z (fun h28 => ?_) (fun h28 => ?_)
   ·refine aE (aA (bL Z Z (aB (aC (aR (lP (cK (sY (lP (cK (cF (.int _ _) Z ?_)))))))))))
    exact ⟨iE (by unfold jT;rw [if_neg h8,if_neg (by rw [aGg hxa hxb (by omega)];decide)]),M3.below⟩
   ·refine aM (cS (aC (aA (aT Z Z (wq (bE Z Z (by omega) (by omega)) Z (bL Z Z (aB ?_)))))))
    refine bU (k+1) (bI Z eC) (bX Z gR) ?_ ?_
    ·exact ⟨⟨.inl (by omega),aXu hadj hxa hxb (by omega)⟩,M3⟩
    ·omega
  ·refine cM (cZ (dF (eL (aC (aE (aA (bL Z Z (aB (aC (aR (cF (.int _ _) Z ?_)))))))))))
   exact ⟨iE (by unfold jT;rw [if_neg h8,if_pos (xB fun i x y hx hy=>hadj i x y (by have:=(List.getElem?_eq_some_iff.1 hy).1;omega) hx hy)]),hM2.below⟩
theorem aJj (w:World) (b:Body) (key:Int) :
  Calls prog 188 #[(.agg (aF b).toArray),.int .u32 key] w (Rb w (.int .i64 (rD b.key key))):=by
 refine aI #[.tmp 4] 9 func188 Z results188 ntmps188 Z ?_
 have M0:=Mem.refl w
 refine aE (aA (bO (.agg (.mk _)) M0 Z Z Z (fun b1 w1 M1=>(bL Z Z (aB (aC (aE (aA (wq (aD 0 dZ Z) Z (wq (aK 0 (.int _ _) bZ M1 Z Z Z) Z (aT Z Z (eJ aNe Z Z (pE _ _ _) ?_))))))))))))
 rintro v2 w2 ⟨rfl,rfl⟩
 have M2:Mem _ _ [_] _:=M1
 refine bL Z Z (aB (aC (aR (cF (.int _ _) Z ?_))))
 exact ⟨Z,M2.below⟩
theorem wM (w:World) (key:Int) (A:Option Addr) (n c:Nat) (xs:List Body) (R:Rd w 10 A n (xs.map aF)) (hs:dD xs) :
  Calls prog 187 #[.slice A n c,.int .u32 key,.func (.func 188) #[] #[]] w (Rb w (.tuple #[.int .i64 (aEg key xs:Int),.bool (decide (0≤dV key xs))])):=by
 have hlen:xs.length=n:=by simpa using R.len
 have hbd:=R.bound
 refine aI #[.tmp 6,.tmp 7] 49 func187 Z results187 ntmps187 Z ?_
 have M0:=Mem.refl w
 refine aE (aA (bL Z Z (wq (aJ (.bool false) Z) Z (aB (aC (aE (aA (dJ Z Z (wq (bW underlying29 Z) Z (bL Z Z (aB (aC (aE (aA (aT Z Z (bL Z Z (bL Z Z (aB (aC (aE (aS ?_)))))))))))))))))))))
 refine dK (σ:=Nat × Nat) [0,1,2,6,7,8] (fun (i,j)=>[(9,.int .i64 (i:Int)),(10,.int .i64 (j:Int))]) (fun (i,j) w'=>(i≤j∧j≤n∧(∀ (p:Nat) (c:Body),p < i→xs[p]? = some c→c.key < key)∧∀ (p:Nat) (c:Body),j≤p→xs[p]? = some c→¬ c.key < key)∧Mem w [] [] w') (fun (i,j)=>j - i) (0,n) (bI Z (bI Z eC)) (⟨⟨by omega,by omega,fun p c h=>by omega,fun p c h hc=>by have:=(List.getElem?_eq_some_iff.1 hc).1;omega⟩,M0⟩) ?_
 rintro ⟨i,j⟩ ρ1 w1 ⟨⟨hij,hjn,hlo,hhi⟩,hM1⟩
 refine aE (aE (aA (aT Z Z (aT Z Z (cV Z Z Z Z (aB (aC ?_)))))))
 refine aW Z (fun h17 => ?_) (fun h17 => ?_)
 ·obtain ⟨xb,hxb⟩:=cG (k:=(i+j) / 2) hlen (by omega)
  refine aM (aC (aS (aE (aA (aT Z Z (aT Z Z (wq (bE Z Z (by omega) (by omega)) Z (wq (bK us3 underlying178 Z (mI _ (by omega) (by omega))) Z (wq (lH Z Z (by decide)) Z (aL 22 (.int .u64 (((i+j) / 2:Nat):Int)) (iE (bYs i j)) (wq (bK bYh underlying3 Z (fU _ (by omega) (by omega))) Z (bL Z Z (aB (aC (aE (aA (wq (aH (.func _ _ _) Z) Z (dJ Z Z (aT Z Z (wq (bG ((i+j) / 2) dU Z Z Z ((R.mem hM1).below_len (aG aF hxb)) ((R.mem hM1).someK (aG aF hxb))) Z ?_))))))))))))))))))))
  refine wq (dQ _ bR (R.mem hM1) (aG aF hxb) Z) Z (aT Z Z (eJ bFf Z Z (aJj _ xb key) ?_))
  rintro v2 w2 ⟨rfl,hb2⟩
  have M2:=hM1.callB hb2
  refine cV Z Z Z Z (aB (aC ?_))
  refine aW Z (fun h31 => ?_) (fun h31 => ?_)
  ·refine aA (aT Z Z (wq (bE Z Z (by omega) (by omega)) Z (bL Z Z (aB (cS ?_)))))
   refine bU ((i+j) / 2+1,j) (bI Z (bI Z eC)) (bX Z (bX Z (bX Z (bX Z (bX Z (bX Z gR)))))) ?_ ?_
   ·exact ⟨⟨by omega,hjn,fun p c hp hc=>by have:=aEy hs (show p≤(i+j) / 2 by omega) hc hxb;have:=aAg.1 h31;omega,hhi⟩,M2⟩
   ·(show j - ((i+j) / 2+1) < j - i;omega)
  ·refine aA (aT Z Z (bL Z Z (aB (cS ?_))))
   refine bU (i,(i+j) / 2) (bI Z (bI Z eC)) (bX Z (bX Z (bX Z (bX Z (bX Z (bX Z gR)))))) ?_ ?_
   ·exact ⟨⟨by omega,by omega,hlo,fun p c hp hc=>by have:=aEy hs hp hxb hc;have:=mt aAg.2 h31;omega⟩,M2⟩
   ·(show (i+j) / 2 - i < j - i;omega)
 ·have hij':i=j:=by omega
  have hless:=aBb (key:=key) (xs:=xs) (k:=i) (by omega) hlo (by rw [hij'];exact hhi)
  refine cM (cZ (dF (eL (aC (aE (aA (aT Z Z (aT Z Z (aT Z Z (cV Z Z Z Z (wq (aH (.bool (decide _)) Z) Z ?_)))))))))))
  refine dT 39 Z (fun g39 => ?_) (fun g39 => ?_)
  ·obtain ⟨xi,hxi⟩:=cG (k:=i) hlen (by omega)
   refine wq (aH (.func _ _ _) Z) Z (dJ Z Z (aT Z Z (wq (bG (i) dU Z Z Z ((R.mem hM1).below_len (aG aF hxi)) ((R.mem hM1).someK (aG aF hxi))) Z (wq (dQ _ bR (R.mem hM1) (aG aF hxi) Z) Z (aT Z Z (eJ bFf Z Z (aJj _ xi key) ?_))))))
   rintro v3 w3 ⟨rfl,hb3⟩
   have M3:=hM1.callB hb3
   refine cV Z Z Z Z (wq (bM true (.bool (decide _)) Z Z) Z (bL Z Z (wq (aJ (.bool (decide _)) Z) Z (aB (aC (aR (gE (.int _ _) (.bool (decide _)) Z Z ?_)))))))
   exact ⟨wQ (iE (by rw [hless])) (bD (bBr hs hxi hlo (by rw [hij'];exact hhi))),M3.below⟩
  ·refine aQ Z Z (aQ Z Z (aQ Z Z (aQ Z Z (aQ Z Z (aQ Z Z (aQ Z Z (aQ Z Z (wq (bM false (.bool false) Z Z) Z (bL Z Z (wq (aJ (.bool false) Z) Z (aB (aC (aR (gE (.int _ _) (.bool false) Z Z ?_))))))))))))))
   exact ⟨wQ (iE (by rw [hless])) (bF (aVk fun p c hp hc=>hlo p c (by omega) hc)),hM1.below⟩
theorem yA (w:World) (key:Int) (A:Option Addr) (n c:Nat) (xs:List Body) (R:Rd w 10 A n (xs.map aF)) (hs:dD xs) :
  Calls prog 161 #[.slice A n c,.int .u32 key] w (Rb w (.tuple #[.int .i64 (aEg key xs:Int),.bool (decide (0≤dV key xs))])):=by
 refine aI #[.tmp 4,.tmp 5] 11 func161 Z results161 ntmps161 Z ?_
 have M0:=Mem.refl w
 refine aE (aA (bL Z Z (wq (aJ (.bool false) Z) Z (aB (aC (aE (aA (dJ Z Z (aT Z Z (dM bSx Z Z M0 (wM _ key _ _ _ xs (R.mem M0) hs) (fun w1 M1=>(wq (bJ (.int _ _) Z Z) Z (wq (bJ (.bool (decide _)) Z Z) Z (bL Z Z (wq (aJ (.bool (decide _)) Z) Z (aB (aC (aR (gE (.int _ _) (.bool (decide _)) Z Z ?_)))))))))))))))))))
 exact ⟨Z,M1.below⟩
end Go.Proofs.YtaoaknafiegfoaaGreatDoor
