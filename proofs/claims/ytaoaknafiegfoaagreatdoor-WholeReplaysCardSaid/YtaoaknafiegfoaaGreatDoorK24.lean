/- Part of the proof of a law of this seat (2 texts). No conditions. -/
import Derived.Test.YtaoaknafiegfoaaGreatDoorK22
import Derived.Test.YtaoaknafiegfoaaGreatDoorK23
set_option linter.unusedVariables false
set_option linter.unusedSimpArgs false
set_option linter.unnecessarySimpa false
set_option maxHeartbeats 100000000
namespace Go.Proofs.YtaoaknafiegfoaaGreatDoor
open Go.Bil
open Go.RowKit (Below)
open Go.Proofs
open Go.Proofs.Tryz
theorem aTd (w:World) (A:Option Addr) (n c:Nat) (xs:List Body) (R:Rd w 10 A n (xs.map aF)) :
  Calls prog 119 #[.slice A n c] w (Rb w (.int .i64 (pM xs))):=by
 have hlen:xs.length=n:=by simpa using R.len
 have hbd:=R.bound
 refine aH #[.tmp 2] 21 func119 Z results119 ntmps119 Z ?_
 have M0:=Mem.refl w
 refine aD (aA (bP Z Z (aB (aC (aD (aD (aA (dZ Z Z (wq (cG underlying29 Z) Z (dB Z Z Z Z (aB (aC ?_))))))))))))
 refine bA Z (fun h8 => ?_) (fun h8 => ?_)
 ·refine aD (aA (bP Z Z (aB (aC (aP (cL (cB (.int _ _) Z ?_)))))))
  exact ⟨iE (by unfold pM;rw [if_pos (by omega)]),M0.below⟩
 ·refine aL (aC (aD (aD (aA (dZ Z Z (wq (cG underlying29 Z) Z (aX Z Z (aB (aC (aT (dK (σ:=Nat) [9,10] (fun k=>[(11,.int .i64 (k:Int))]) (fun k w'=>(k≤n∧∀ (j:Nat) (c:Body),j < k→xs[j]? = some c→check c=0)∧Mem w [] [] w') (fun k=>n - k) 0 (bN Z eZ) (⟨⟨by omega,fun j c hj=>by omega⟩,M0⟩) ?_)))))))))))
  rintro k ρ1 w1 ⟨⟨hk,hok⟩,hM1⟩
  refine aD (aA (dB Z Z Z Z (aB (aC (aD ?_)))))
  refine bA Z (fun h12 => ?_) (fun h12 => ?_)
  ·obtain ⟨xb,hxb⟩:=cF (k:=k) hlen (by omega)
   refine aL (aC (aD (aT (aD (aA (wq (bR (k) fC Z Z Z ((R.mem hM1).below_len (aJ aF hxb)) ((R.mem hM1).someK (aJ aF hxb))) Z (wq (dT _ bU (R.mem hM1) (aJ aF hxb) Z) Z (aM iD hM1 Z Z (fun b2 w2 M2=>(aZ 0 _ bU M2 Z Z Z Z Z (aQ Z) Z (fun w3 M3=>(aB (aC (aD (aA (wq (bB 0 bU M3 Z Z Z) Z (dI aMo Z Z M3 (sJ _ xb) (fun w4 M4=>(bP Z Z (aB (aC (aD (aA (aX Z Z (dB Z Z Z Z (aB (aC ?_)))))))))))))))))))))))))))
   refine bA Z (fun h18 => ?_) (fun h18 => ?_)
   ·refine aD (aA (aX Z Z (bP Z Z (aB (aC (aP (kA (cL (vX (kA (cL (cB (.int _ _) Z ?_))))))))))))
    exact ⟨iE (by unfold pM;rw [if_neg (by omega),wM hxb h18 hok]),M4.below⟩
   ·refine aL (dF (aC (aA (wq (bM Z Z (by omega) (by omega)) Z (aX Z Z (aB ?_))))))
    refine cR (k+1) (bN Z eZ) (cT Z (cT Z kB)) ?_ ?_
    ·exact ⟨⟨by omega,rJ (p:=fun _ c=>check c=0) hok hxb (by omega)⟩,M4.keep [false]⟩
    ·omega
  ·refine cO (dA (cX (eV (aC (aD (aA (bP Z Z (aB (aC (aP (cB (.int _ _) Z ?_)))))))))))
   exact ⟨iE (by unfold pM;rw [if_neg (by omega),nL (fun j c hj=>hok j c (by have:=(List.getElem?_eq_some_iff.1 hj).1;omega) hj)]),hM1.below⟩
theorem bBz {xs:List Body} {k:Nat} {a b:Body} (h:∀ (j:Nat) (x y:Body),j < k→xs[j]? = some x→xs[j+1]? = some y→x.key < y.key) (ha:xs[k]? = some a) (hb:xs[k+1]? = some b) (hab:a.key < b.key) :
  ∀ (j:Nat) (x y:Body),j < k+1→xs[j]? = some x→xs[j+1]? = some y→x.key < y.key:=by
 intro j x y hj hx hy
 by_cases e:j=k
 ·subst e
  rw [ha] at hx
  rw [hb] at hy
  injection hx with hx
  injection hy with hy
  subst hx
  subst hy
  exact hab
 ·exact h j x y (by omega) hx hy
theorem aAm (w:World) (A:Option Addr) (n c:Nat) (xs:List Body) (R:Rd w 10 A n (xs.map aF)) :
  Calls prog 82 #[.slice A n c] w (Rb w (.int .i64 (iB xs))):=by
 have hlen:xs.length=n:=by simpa using R.len
 have hbd:=R.bound
 refine aH #[.tmp 2] 28 func82 Z results82 ntmps82 Z ?_
 have M0:=Mem.refl w
 refine aD (aA (bP Z Z (aB (aC (aD (aD (aA (dZ Z Z (dI bGh Z Z M0 (aTd _ _ _ _ xs (R.mem M0)) (fun w1 M1=>(bP Z Z (aB (aC (aD (aA (aX Z Z (dB Z Z Z Z (aB (aC ?_)))))))))))))))))))
 refine bA Z (fun h8 => ?_) (fun h8 => ?_)
 ·refine aD (aA (aX Z Z (bP Z Z (aB (aC (aP (cL (cB (.int _ _) Z ?_))))))))
  exact ⟨iE (by unfold iB;rw [if_pos h8]),M1.below⟩
 ·refine aL (aC (aD (aD (aA (bP Z Z (aB (aC (aT (dK (σ:=Nat) [0] (fun k=>[(4,.int .i64 ((k+1:Nat):Int))]) (fun k w'=>((k+1≤n∨k=0)∧∀ (j:Nat) (x y:Body),j < k→xs[j]? = some x→xs[j+1]? = some y→x.key < y.key)∧Mem w [] [] w') (fun k=>n - k) 0 (bN Z eZ) (⟨⟨.inr Z,fun j x y hj=>by omega⟩,M1⟩) ?_)))))))))
  rintro k ρ2 w2 ⟨⟨hk,hadj⟩,hM2⟩
  refine aD (aD (aA (aX Z Z (dZ Z Z (wq (cG underlying29 Z) Z (dB Z Z Z Z (aB (aC ?_))))))))
  refine bA Z (fun h13 => ?_) (fun h13 => ?_)
  ·obtain ⟨xa,hxa⟩:=cF (k:=k) hlen (by omega)
   obtain ⟨xb,hxb⟩:=cF (k:=k+1) hlen (by omega)
   refine aL (aC (aD (aT (aD (vB [(0,0),(1,0),(2,0),(3,1),(4,1),(5,1),(6,0),(7,0),(8,1),(9,1),(10,1),(11,0)] mixed Z (by kernel_rfl) (fun w3 hb3 hh3 => ?_))))))
   have M3:=hM2.drew hb3 hh3
   refine sH Z Z Z (gR Z Z Z (aU Z Z Z (fun _=>lY Z Z (by omega) (by omega)) (bS Z Z Z (bR (k) fC Z Z (by omega) ((R.mem M3).below_len (aJ aF hxa)) ((R.mem M3).someK (aJ aF hxa))) (bS Z Z Z (bO 0 fH (R.mem M3) (qR ((R.mem M3).below_len (aJ aF hxa))) Z) (bS Z Z Z (eP (o:=0) (.int _ _) cA (R.mem M3) (aJ aF hxa) Z Z) (sH Z Z Z (gR Z Z Z (bS Z Z Z (bR (k+1) fC Z Z Z ((R.mem M3).below_len (aJ aF hxb)) ((R.mem M3).someK (aJ aF hxb))) ?_))))))))
   refine bS Z Z Z (bO 0 fH (R.mem M3) (qR ((R.mem M3).below_len (aJ aF hxb))) Z) (bS Z Z Z (eP (o:=0) (.int _ _) cA (R.mem M3) (aJ aF hxb) Z Z) (aU Z Z Z (fun _=>dP (.bool (decide _)) Z Z Z) (bZ (aC ?_))))
   refine bA Z (fun h27 => ?_) (fun h27 => ?_)
   ·refine aD (aA (bP Z Z (aB (aC (aP (kA (cL (vX (kA (cL (cB (.int _ _) Z ?_)))))))))))
    exact ⟨iE (by unfold iB;rw [if_neg h8,if_neg (by rw [aMn hxa hxb (by omega)];decide)]),M3.below⟩
   ·refine aL (dF (aC (aA (aX Z Z (wq (bM Z Z (by omega) (by omega)) Z (bP Z Z (aB ?_)))))))
    refine cR (k+1) (bN Z eZ) (cT Z kB) ?_ ?_
    ·exact ⟨⟨.inl (by omega),bBz hadj hxa hxb (by omega)⟩,M3⟩
    ·omega
  ·refine cO (dA (cX (eV (aC (aD (aA (bP Z Z (aB (aC (aP (cB (.int _ _) Z ?_)))))))))))
   exact ⟨iE (by unfold iB;rw [if_neg h8,if_pos (vU fun i x y hx hy=>hadj i x y (by have:=(List.getElem?_eq_some_iff.1 hy).1;omega) hx hy)]),hM2.below⟩
theorem yX (w:World) (b:Body) (key:Int) :
  Calls prog 188 #[(.agg (aF b).toArray),.int .u32 key] w (Rb w (.int .i64 (mJ b.key key))):=by
 refine aH #[.tmp 4] 9 func188 Z results188 ntmps188 Z ?_
 have M0:=Mem.refl w
 refine aD (aA (bH (.agg (.mk _)) M0 Z Z Z (fun b1 w1 M1=>(bP Z Z (aB (aC (aD (aA (wq (aE 0 fH Z) Z (wq (aK 0 (.int _ _) cA M1 Z Z Z) Z (aX Z Z (dU aEz Z Z (kN _ _ _) ?_))))))))))))
 rintro v2 w2 ⟨rfl,rfl⟩
 have M2:Mem _ _ [_] _:=M1
 refine bP Z Z (aB (aC (aP (cB (.int _ _) Z ?_))))
 exact ⟨Z,M2.below⟩
theorem qG (w:World) (key:Int) (A:Option Addr) (n c:Nat) (xs:List Body) (R:Rd w 10 A n (xs.map aF)) (hs:bY xs) :
  Calls prog 187 #[.slice A n c,.int .u32 key,.func (.func 188) #[] #[]] w (Rb w (.tuple #[.int .i64 (wR key xs:Int),.bool (decide (0≤cI key xs))])):=by
 have hlen:xs.length=n:=by simpa using R.len
 have hbd:=R.bound
 refine aH #[.tmp 6,.tmp 7] 49 func187 Z results187 ntmps187 Z ?_
 have M0:=Mem.refl w
 refine aD (aA (bP Z Z (wq (aI (.bool false) Z) Z (aB (aC (aD (aA (dZ Z Z (wq (cG underlying29 Z) Z (bP Z Z (aB (aC (aD (aA (aX Z Z (bP Z Z (bP Z Z (aB (aC (aD (aT ?_)))))))))))))))))))))
 refine dK (σ:=Nat × Nat) [0,1,2,6,7,8] (fun (i,j)=>[(9,.int .i64 (i:Int)),(10,.int .i64 (j:Int))]) (fun (i,j) w'=>(i≤j∧j≤n∧(∀ (p:Nat) (c:Body),p < i→xs[p]? = some c→c.key < key)∧∀ (p:Nat) (c:Body),j≤p→xs[p]? = some c→¬ c.key < key)∧Mem w [] [] w') (fun (i,j)=>j - i) (0,n) (bN Z (bN Z eZ)) (⟨⟨by omega,by omega,fun p c h=>by omega,fun p c h hc=>by have:=(List.getElem?_eq_some_iff.1 hc).1;omega⟩,M0⟩) ?_
 rintro ⟨i,j⟩ ρ1 w1 ⟨⟨hij,hjn,hlo,hhi⟩,hM1⟩
 refine aD (aD (aA (aX Z Z (aX Z Z (dB Z Z Z Z (aB (aC ?_)))))))
 refine bA Z (fun h17 => ?_) (fun h17 => ?_)
 ·obtain ⟨xb,hxb⟩:=cF (k:=(i+j) / 2) hlen (by omega)
  refine aL (aC (aT (aD (aA (aX Z Z (aX Z Z (wq (bM Z Z (by omega) (by omega)) Z (wq (bV us3 underlying178 Z (jC _ (by omega) (by omega))) Z (wq (hJ Z Z (by decide)) Z (aS 22 (.int .u64 (((i+j) / 2:Nat):Int)) (iE (bNh i j)) (wq (bV bMy underlying3 Z (kO _ (by omega) (by omega))) Z (bP Z Z (aB (aC (aD (aA (wq (aG (.func _ _ _) Z) Z (dZ Z Z (aX Z Z (wq (bR ((i+j) / 2) fC Z Z Z ((R.mem hM1).below_len (aJ aF hxb)) ((R.mem hM1).someK (aJ aF hxb))) Z ?_))))))))))))))))))))
  refine wq (dT _ bU (R.mem hM1) (aJ aF hxb) Z) Z (aX Z Z (dU aUy Z Z (yX _ xb key) ?_))
  rintro v2 w2 ⟨rfl,hb2⟩
  have M2:=hM1.callB hb2
  refine dB Z Z Z Z (aB (aC ?_))
  refine bA Z (fun h31 => ?_) (fun h31 => ?_)
  ·refine aA (aX Z Z (wq (bM Z Z (by omega) (by omega)) Z (bP Z Z (aB (dF ?_)))))
   refine cR ((i+j) / 2+1,j) (bN Z (bN Z eZ)) (cT Z (cT Z (cT Z (cT Z (cT Z (cT Z kB)))))) ?_ ?_
   ·exact ⟨⟨by omega,hjn,fun p c hp hc=>by have:=wH hs (show p≤(i+j) / 2 by omega) hc hxb;have:=uD.1 h31;omega,hhi⟩,M2⟩
   ·(show j - ((i+j) / 2+1) < j - i;omega)
  ·refine aA (aX Z Z (bP Z Z (aB (dF ?_))))
   refine cR (i,(i+j) / 2) (bN Z (bN Z eZ)) (cT Z (cT Z (cT Z (cT Z (cT Z (cT Z kB)))))) ?_ ?_
   ·exact ⟨⟨by omega,by omega,hlo,fun p c hp hc=>by have:=wH hs hp hxb hc;have:=mt uD.2 h31;omega⟩,M2⟩
   ·(show (i+j) / 2 - i < j - i;omega)
 ·have hij':i=j:=by omega
  have hless:=tE (key:=key) (xs:=xs) (k:=i) (by omega) hlo (by rw [hij'];exact hhi)
  refine cO (dA (cX (eV (aC (aD (aA (aX Z Z (aX Z Z (aX Z Z (dB Z Z Z Z (wq (aG (.bool (decide _)) Z) Z ?_)))))))))))
  refine dV 39 Z (fun g39 => ?_) (fun g39 => ?_)
  ·obtain ⟨xi,hxi⟩:=cF (k:=i) hlen (by omega)
   refine wq (aG (.func _ _ _) Z) Z (dZ Z Z (aX Z Z (wq (bR (i) fC Z Z Z ((R.mem hM1).below_len (aJ aF hxi)) ((R.mem hM1).someK (aJ aF hxi))) Z (wq (dT _ bU (R.mem hM1) (aJ aF hxi) Z) Z (aX Z Z (dU aUy Z Z (yX _ xi key) ?_))))))
   rintro v3 w3 ⟨rfl,hb3⟩
   have M3:=hM1.callB hb3
   refine dB Z Z Z Z (wq (bX true (.bool (decide _)) Z Z) Z (bP Z Z (wq (aI (.bool (decide _)) Z) Z (aB (aC (aP (gY (.int _ _) (.bool (decide _)) Z Z ?_)))))))
   exact ⟨aCd (iE (by rw [hless])) (bD (aQx hs hxi hlo (by rw [hij'];exact hhi))),M3.below⟩
  ·refine aW Z Z (aW Z Z (aW Z Z (aW Z Z (aW Z Z (aW Z Z (aW Z Z (aW Z Z (wq (bX false (.bool false) Z Z) Z (bP Z Z (wq (aI (.bool false) Z) Z (aB (aC (aP (gY (.int _ _) (.bool false) Z Z ?_))))))))))))))
   exact ⟨aCd (iE (by rw [hless])) (bF (aLh fun p c hp hc=>hlo p c (by omega) hc)),hM1.below⟩
theorem rF (w:World) (key:Int) (A:Option Addr) (n c:Nat) (xs:List Body) (R:Rd w 10 A n (xs.map aF)) (hs:bY xs) :
  Calls prog 161 #[.slice A n c,.int .u32 key] w (Rb w (.tuple #[.int .i64 (wR key xs:Int),.bool (decide (0≤cI key xs))])):=by
 refine aH #[.tmp 4,.tmp 5] 11 func161 Z results161 ntmps161 Z ?_
 have M0:=Mem.refl w
 refine aD (aA (bP Z Z (wq (aI (.bool false) Z) Z (aB (aC (aD (aA (dZ Z Z (aX Z Z (dI bFn Z Z M0 (qG _ key _ _ _ xs (R.mem M0) hs) (fun w1 M1=>(wq (bE (.int _ _) Z Z) Z (wq (bE (.bool (decide _)) Z Z) Z (bP Z Z (wq (aI (.bool (decide _)) Z) Z (aB (aC (aP (gY (.int _ _) (.bool (decide _)) Z Z ?_)))))))))))))))))))
 exact ⟨Z,M1.below⟩
end Go.Proofs.YtaoaknafiegfoaaGreatDoor
