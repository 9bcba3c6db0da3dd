/- Part of the proof of a law of this seat (2 texts). No conditions. -/
import Derived.Test.YtpcloigancpnbaaGreatDoorK22
import Derived.Test.YtpcloigancpnbaaGreatDoorK23
set_option linter.unusedVariables false
set_option linter.unusedSimpArgs false
set_option linter.unnecessarySimpa false
set_option maxHeartbeats 100000000
namespace Go.Proofs.YtpcloigancpnbaaGreatDoor
open Go.Bil
open Go.RowKit (Below)
open Go.Proofs
open Go.Proofs.Tryz
theorem aTs (w:World) (A:Option Addr) (n c:Nat) (xs:List Body) (R:Rd w 10 A n (xs.map aF)) :
  Calls prog 109 #[.slice A n c] w (Rb w (.int .i64 (pE xs))):=by
 have hlen:xs.length=n:=by simpa using R.len
 have hbd:=R.bound
 refine aI #[.tmp 2] 22 func109 Z results109 ntmps109 Z ?_
 have M0:=Mem.refl w
 refine aE (aA (bK Z Z (aB (aC (aE (aE (aA (dK Z Z (wq (cK underlying46 Z) Z (cX Z Z Z Z (aB (aC ?_))))))))))))
 refine aU Z (fun h7 => ?_) (fun h7 => ?_)
 ·refine aE (aA (bK Z Z (aB (aC (aO (cO (cI (.int _ _) Z ?_)))))))
  exact ⟨iE (by unfold pE;rw [if_pos (by omega)]),M0.below⟩
 ·refine aM (aC (aE (aE (aA (bK Z Z (aB (aC (aP (dG (σ:=Nat) [0] (fun k=>[(3,.int .i64 (k:Int))]) (fun k w'=>(k≤n∧∀ (j:Nat) (c:Body),j < k→xs[j]? = some c→check c=0)∧Mem w [] [] w') (fun k=>n - k) 0 (bE Z dZ) (⟨⟨by omega,fun j c hj=>by omega⟩,M0⟩) ?_)))))))))
  rintro k ρ1 w1 ⟨⟨hk,hok⟩,hM1⟩
  refine aE (aE (aA (aQ Z Z (dK Z Z (wq (cK underlying46 Z) Z (cX Z Z Z Z (aB (aC ?_))))))))
  refine aU Z (fun h11 => ?_) (fun h11 => ?_)
  ·obtain ⟨xb,hxb⟩:=cF (k:=k) hlen (by omega)
   refine aM (aC (aE (aP (aE (aA (dK Z Z (aQ Z Z (wq (bJ (k) dP Z Z Z ((R.mem hM1).below_len (aG aF hxb)) ((R.mem hM1).someK (aG aF hxb))) Z (wq (dW _ bQ (R.mem hM1) (aG aF hxb) Z) Z (eP bMz Z Z (aCu _ xb) ?_))))))))))
   rintro v2 w2 ⟨rfl,hb2⟩
   have M2:=hM1.callB hb2
   refine bK Z Z (aB (aC (aE (aA (aQ Z Z (cX Z Z Z Z (aB (aC ?_))))))))
   refine aU Z (fun h20 => ?_) (fun h20 => ?_)
   ·refine aE (aA (aQ Z Z (bK Z Z (aB (aC (aO (lU (cO (uQ (lU (cO (cI (.int _ _) Z ?_))))))))))))
    exact ⟨iE (by unfold pE;rw [if_neg (by omega),uC hxb h20 hok]),M2.below⟩
   ·refine aM (cR (aC (aA (aQ Z Z (wq (bC Z Z (by omega) (by omega)) Z (bK Z Z (aB ?_)))))))
    refine bX (k+1) (bE Z dZ) (bZ Z gK) ?_ ?_
    ·exact ⟨⟨by omega,sK (p:=fun _ c=>check c=0) hok hxb (by omega)⟩,M2⟩
    ·omega
  ·refine cN (dC (dE (eJ (aC (aE (aA (bK Z Z (aB (aC (aO (cI (.int _ _) Z ?_)))))))))))
   exact ⟨iE (by unfold pE;rw [if_neg (by omega),nW (fun j c hj=>hok j c (by have:=(List.getElem?_eq_some_iff.1 hj).1;omega) hj)]),hM1.below⟩
theorem bBb (w:World) (A:Option Addr) (n c:Nat) (xs:List Body) (R:Rd w 10 A n (xs.map aF)) :
  Calls prog 69 #[.slice A n c] w (Rb w (.int .i64 (pE xs))):=by
 have hlen:xs.length=n:=by simpa using R.len
 have hbd:=R.bound
 refine aI #[.tmp 2] 21 func69 Z results69 ntmps69 Z ?_
 have M0:=Mem.refl w
 refine aE (aA (bK Z Z (aB (aC (aE (aE (aA (dK Z Z (wq (cK underlying46 Z) Z (cX Z Z Z Z (aB (aC ?_))))))))))))
 refine aU Z (fun h8 => ?_) (fun h8 => ?_)
 ·refine aE (aA (bK Z Z (aB (aC (aO (cO (cI (.int _ _) Z ?_)))))))
  exact ⟨iE (by unfold pE;rw [if_pos (by omega)]),M0.below⟩
 ·refine aM (aC (aE (aE (aA (dK Z Z (wq (cK underlying46 Z) Z (aQ Z Z (aB (aC (aP (dG (σ:=Nat) [9,10] (fun k=>[(11,.int .i64 (k:Int))]) (fun k w'=>(k≤n∧∀ (j:Nat) (c:Body),j < k→xs[j]? = some c→check c=0)∧Mem w [] [] w') (fun k=>n - k) 0 (bE Z dZ) (⟨⟨by omega,fun j c hj=>by omega⟩,M0⟩) ?_)))))))))))
  rintro k ρ1 w1 ⟨⟨hk,hok⟩,hM1⟩
  refine aE (aA (cX Z Z Z Z (aB (aC (aE ?_)))))
  refine aU Z (fun h12 => ?_) (fun h12 => ?_)
  ·obtain ⟨xb,hxb⟩:=cF (k:=k) hlen (by omega)
   refine aM (aC (aE (aP (aE (aA (wq (bJ (k) dP Z Z Z ((R.mem hM1).below_len (aG aF hxb)) ((R.mem hM1).someK (aG aF hxb))) Z (wq (dW _ bQ (R.mem hM1) (aG aF hxb) Z) Z (aR fV hM1 Z Z (fun b2 w2 M2=>(bG 0 _ bQ M2 Z Z Z Z Z (aS Z) Z (fun w3 M3=>(aB (aC (aE (aA (wq (aX 0 bQ M3 Z Z Z) Z (dN bDn Z Z M3 (xL _ xb) (fun w4 M4=>(bK Z Z (aB (aC (aE (aA (aQ Z Z (cX Z Z Z Z (aB (aC ?_)))))))))))))))))))))))))))
   refine aU Z (fun h18 => ?_) (fun h18 => ?_)
   ·refine aE (aA (aQ Z Z (bK Z Z (aB (aC (aO (lU (cO (uQ (lU (cO (cI (.int _ _) Z ?_))))))))))))
    exact ⟨iE (by unfold pE;rw [if_neg (by omega),uC hxb h18 hok]),M4.below⟩
   ·refine aM (cR (aC (aA (wq (bC Z Z (by omega) (by omega)) Z (aQ Z Z (aB ?_))))))
    refine bX (k+1) (bE Z dZ) (bZ Z (bZ Z gK)) ?_ ?_
    ·exact ⟨⟨by omega,sK (p:=fun _ c=>check c=0) hok hxb (by omega)⟩,M4.keep [false]⟩
    ·omega
  ·refine cN (dC (dE (eJ (aC (aE (aA (bK Z Z (aB (aC (aO (cI (.int _ _) Z ?_)))))))))))
   exact ⟨iE (by unfold pE;rw [if_neg (by omega),nW (fun j c hj=>hok j c (by have:=(List.getElem?_eq_some_iff.1 hj).1;omega) hj)]),hM1.below⟩
theorem aVi {xs:List Body} {k:Nat} {a b:Body} (h:∀ (j:Nat) (x y:Body),j < k→xs[j]? = some x→xs[j+1]? = some y→x.key < y.key) (ha:xs[k]? = some a) (hb:xs[k+1]? = some b) (hab:a.key < b.key) :
  ∀ (j:Nat) (x y:Body),j < k+1→xs[j]? = some x→xs[j+1]? = some y→x.key < y.key:=by
 intro j x y hj hx hy
 by_cases e:j=k
 ·subst e
  rw [ha] at hx
  rw [hb] at hy
  injection hx with hx
  injection hy with hy
  subst hx
  subst hy
  exact hab
 ·exact h j x y (by omega) hx hy
theorem aHt (w:World) (A:Option Addr) (n c:Nat) (xs:List Body) (R:Rd w 10 A n (xs.map aF)) :
  Calls prog 42 #[.slice A n c] w (Rb w (.int .i64 (jD xs))):=by
 have hlen:xs.length=n:=by simpa using R.len
 have hbd:=R.bound
 refine aI #[.tmp 2] 28 func42 Z results42 ntmps42 Z ?_
 have M0:=Mem.refl w
 refine aE (aA (bK Z Z (aB (aC (aE (aE (aA (dK Z Z (dN bUn Z Z M0 (bBb _ _ _ _ xs (R.mem M0)) (fun w1 M1=>(bK Z Z (aB (aC (aE (aA (aQ Z Z (cX Z Z Z Z (aB (aC ?_)))))))))))))))))))
 refine aU Z (fun h8 => ?_) (fun h8 => ?_)
 ·refine aE (aA (aQ Z Z (bK Z Z (aB (aC (aO (cO (cI (.int _ _) Z ?_))))))))
  exact ⟨iE (by unfold jD;rw [if_pos h8]),M1.below⟩
 ·refine aM (aC (aE (aE (aA (bK Z Z (aB (aC (aP (dG (σ:=Nat) [0] (fun k=>[(4,.int .i64 ((k+1:Nat):Int))]) (fun k w'=>((k+1≤n∨k=0)∧∀ (j:Nat) (x y:Body),j < k→xs[j]? = some x→xs[j+1]? = some y→x.key < y.key)∧Mem w [] [] w') (fun k=>n - k) 0 (bE Z dZ) (⟨⟨.inr Z,fun j x y hj=>by omega⟩,M1⟩) ?_)))))))))
  rintro k ρ2 w2 ⟨⟨hk,hadj⟩,hM2⟩
  refine aE (aE (aA (aQ Z Z (dK Z Z (wq (cK underlying46 Z) Z (cX Z Z Z Z (aB (aC ?_))))))))
  refine aU Z (fun h13 => ?_) (fun h13 => ?_)
  ·obtain ⟨xa,hxa⟩:=cF (k:=k) hlen (by omega)
   obtain ⟨xb,hxb⟩:=cF (k:=k+1) hlen (by omega)
   refine aM (aC (aE (aP (aE (mF [(0,0),(1,0),(2,0),(3,1),(4,1),(5,1),(6,0),(7,0),(8,1),(9,1),(10,1),(11,0)] mixed Z (by kernel_rfl) (fun w3 hb3 hh3 => ?_))))))
   have M3:=hM2.drew hb3 hh3
   refine kA Z Z Z (eD Z Z Z (aV Z Z Z (fun _=>gG Z Z (by omega) (by omega)) (bP Z Z Z (bJ (k) dP Z Z (by omega) ((R.mem M3).below_len (aG aF hxa)) ((R.mem M3).someK (aG aF hxa))) (bP Z Z Z (aT 0 dT (R.mem M3) (iR ((R.mem M3).below_len (aG aF hxa))) Z) (bP Z Z Z (dM (o:=0) (.int _ _) bV (R.mem M3) (aG aF hxa) Z Z) (kA Z Z Z (eD Z Z Z (bP Z Z Z (bJ (k+1) dP Z Z Z ((R.mem M3).below_len (aG aF hxb)) ((R.mem M3).someK (aG aF hxb))) ?_))))))))
   refine bP Z Z Z (aT 0 dT (R.mem M3) (iR ((R.mem M3).below_len (aG aF hxb))) Z) (bP Z Z Z (dM (o:=0) (.int _ _) bV (R.mem M3) (aG aF hxb) Z Z) (aV Z Z Z (fun _=>cA (.bool (decide _)) Z Z Z) (bS (aC ?_))))
   refine aU Z (fun h27 => ?_) (fun h27 => ?_)
   ·refine aE (aA (bK Z Z (aB (aC (aO (lU (cO (uQ (lU (cO (cI (.int _ _) Z ?_)))))))))))
    exact ⟨iE (by unfold jD;rw [if_neg h8,if_neg (by rw [aEl hxa hxb (by omega)];decide)]),M3.below⟩
   ·refine aM (cR (aC (aA (aQ Z Z (wq (bC Z Z (by omega) (by omega)) Z (bK Z Z (aB ?_)))))))
    refine bX (k+1) (bE Z dZ) (bZ Z gK) ?_ ?_
    ·exact ⟨⟨.inl (by omega),aVi hadj hxa hxb (by omega)⟩,M3⟩
    ·omega
  ·refine cN (dC (dE (eJ (aC (aE (aA (bK Z Z (aB (aC (aO (cI (.int _ _) Z ?_)))))))))))
   exact ⟨iE (by unfold jD;rw [if_neg h8,if_pos (vF fun i x y hx hy=>hadj i x y (by have:=(List.getElem?_eq_some_iff.1 hy).1;omega) hx hy)]),hM2.below⟩
theorem aQm (w:World) (A:Option Addr) (n c:Nat) (xs:List Body) (R:Rd w 10 A n (xs.map aF)) :
  Calls prog 92 #[.slice A n c] w (Rb w (.int .i64 (jD xs))):=by
 have hlen:xs.length=n:=by simpa using R.len
 have hbd:=R.bound
 refine aI #[.tmp 2] 29 func92 Z results92 ntmps92 Z ?_
 have M0:=Mem.refl w
 refine aE (aA (bK Z Z (aB (aC (aE (aA (dK Z Z (dN bOo Z Z M0 (aTs _ _ _ _ xs (R.mem M0)) (fun w1 M1=>(bK Z Z (aB (aC (aE (aE (aA (aQ Z Z (cX Z Z Z Z (aB (aC ?_)))))))))))))))))))
 refine aU Z (fun h8 => ?_) (fun h8 => ?_)
 ·refine aE (aA (aQ Z Z (bK Z Z (aB (aC (aO (cO (cI (.int _ _) Z ?_))))))))
  exact ⟨iE (by unfold jD;rw [if_pos h8]),M1.below⟩
 ·refine aM (aC (aE (aE (aA (bK Z Z (aB (aC (aP (dG (σ:=Nat) [0] (fun k=>[(4,.int .i64 (k:Int))]) (fun k w'=>((k+1≤n∨k=0)∧∀ (j:Nat) (x y:Body),j < k→xs[j]? = some x→xs[j+1]? = some y→x.key < y.key)∧Mem w [] [] w') (fun k=>n - k) 0 (bE Z dZ) (⟨⟨.inr Z,fun j x y hj=>by omega⟩,M1⟩) ?_)))))))))
  rintro k ρ2 w2 ⟨⟨hk,hadj⟩,hM2⟩
  refine aE (aE (aA (aQ Z Z (wq (bC Z Z (by omega) (by omega)) Z (dK Z Z (wq (cK underlying46 Z) Z (cX Z Z Z Z (aB (aC ?_)))))))))
  refine aU Z (fun h14 => ?_) (fun h14 => ?_)
  ·obtain ⟨xa,hxa⟩:=cF (k:=k) hlen (by omega)
   obtain ⟨xb,hxb⟩:=cF (k:=k+1) hlen (by omega)
   refine aM (aC (aE (aP (aE (mF [(0,0),(1,0),(2,0),(3,1),(4,1),(5,1),(6,0),(7,0),(8,1),(9,1),(10,1),(11,0)] mixed Z (by kernel_rfl) (fun w3 hb3 hh3 => ?_))))))
   have M3:=hM2.drew hb3 hh3
   refine kA Z Z Z (eD Z Z Z (aV Z Z Z (fun _=>bC Z Z (by omega) (by omega)) (bP Z Z Z (bJ (k+1) dP Z Z Z ((R.mem M3).below_len (aG aF hxb)) ((R.mem M3).someK (aG aF hxb))) (bP Z Z Z (aT 0 dT (R.mem M3) (iR ((R.mem M3).below_len (aG aF hxb))) Z) (bP Z Z Z (dM (o:=0) (.int _ _) bV (R.mem M3) (aG aF hxb) Z Z) (kA Z Z Z (eD Z Z Z (bP Z Z Z (bJ (k) dP Z Z Z ((R.mem M3).below_len (aG aF hxa)) ((R.mem M3).someK (aG aF hxa))) ?_))))))))
   refine bP Z Z Z (aT 0 dT (R.mem M3) (iR ((R.mem M3).below_len (aG aF hxa))) Z) (bP Z Z Z (dM (o:=0) (.int _ _) bV (R.mem M3) (aG aF hxa) Z Z) (aV Z Z Z (fun _=>cA (.bool (decide _)) Z Z Z) (bS (aC ?_))))
   refine aU Z (fun h28 => ?_) (fun h28 => ?_)
   ·refine aE (aA (bK Z Z (aB (aC (aO (lU (cO (uQ (lU (cO (cI (.int _ _) Z ?_)))))))))))
    exact ⟨iE (by unfold jD;rw [if_neg h8,if_neg (by rw [aEl hxa hxb (by omega)];decide)]),M3.below⟩
   ·refine aM (cR (aC (aA (aQ Z Z (wq (bC Z Z (by omega) (by omega)) Z (bK Z Z (aB ?_)))))))
    refine bX (k+1) (bE Z dZ) (bZ Z gK) ?_ ?_
    ·exact ⟨⟨.inl (by omega),aVi hadj hxa hxb (by omega)⟩,M3⟩
    ·omega
  ·refine cN (dC (dE (eJ (aC (aE (aA (bK Z Z (aB (aC (aO (cI (.int _ _) Z ?_)))))))))))
   exact ⟨iE (by unfold jD;rw [if_neg h8,if_pos (vF fun i x y hx hy=>hadj i x y (by have:=(List.getElem?_eq_some_iff.1 hy).1;omega) hx hy)]),hM2.below⟩
theorem aHu (w:World) (b:Body) (key:Int) :
  Calls prog 172 #[(.agg (aF b).toArray),.int .u32 key] w (Rb w (.int .i64 (qE b.key key))):=by
 refine aI #[.tmp 4] 9 func172 Z results172 ntmps172 Z ?_
 have M0:=Mem.refl w
 refine aE (aA (bN (.agg (.mk _)) M0 Z Z Z (fun b1 w1 M1=>(bK Z Z (aB (aC (aE (aA (wq (aD 0 dT Z) Z (wq (aK 0 (.int _ _) bV M1 Z Z Z) Z (aQ Z Z (eP aVo Z Z (nV _ _ _) ?_))))))))))))
 rintro v2 w2 ⟨rfl,rfl⟩
 have M2:Mem _ _ [_] _:=M1
 refine bK Z Z (aB (aC (aO (cI (.int _ _) Z ?_))))
 exact ⟨Z,M2.below⟩
theorem uT (w:World) (key:Int) (A:Option Addr) (n c:Nat) (xs:List Body) (R:Rd w 10 A n (xs.map aF)) (hs:cZ xs) :
  Calls prog 171 #[.slice A n c,.int .u32 key,.func (.func 172) #[] #[]] w (Rb w (.tuple #[.int .i64 (aCj key xs:Int),.bool (decide (0≤dO key xs))])):=by
 have hlen:xs.length=n:=by simpa using R.len
 have hbd:=R.bound
 refine aI #[.tmp 6,.tmp 7] 49 func171 Z results171 ntmps171 Z ?_
 have M0:=Mem.refl w
 refine aE (aA (bK Z Z (wq (aJ (.bool false) Z) Z (aB (aC (aE (aA (dK Z Z (wq (cK underlying46 Z) Z (bK Z Z (aB (aC (aE (aA (aQ Z Z (bK Z Z (bK Z Z (aB (aC (aE (aP ?_)))))))))))))))))))))
 refine dG (σ:=Nat × Nat) [0,1,2,6,7,8] (fun (i,j)=>[(9,.int .i64 (i:Int)),(10,.int .i64 (j:Int))]) (fun (i,j) w'=>(i≤j∧j≤n∧(∀ (p:Nat) (c:Body),p < i→xs[p]? = some c→c.key < key)∧∀ (p:Nat) (c:Body),j≤p→xs[p]? = some c→¬ c.key < key)∧Mem w [] [] w') (fun (i,j)=>j - i) (0,n) (bE Z (bE Z dZ)) (⟨⟨by omega,by omega,fun p c h=>by omega,fun p c h hc=>by have:=(List.getElem?_eq_some_iff.1 hc).1;omega⟩,M0⟩) ?_
 rintro ⟨i,j⟩ ρ1 w1 ⟨⟨hij,hjn,hlo,hhi⟩,hM1⟩
 refine aE (aE (aA (aQ Z Z (aQ Z Z (cX Z Z Z Z (aB (aC ?_)))))))
 refine aU Z (fun h17 => ?_) (fun h17 => ?_)
 ·obtain ⟨xb,hxb⟩:=cF (k:=(i+j) / 2) hlen (by omega)
  refine aM (aC (aP (aE (aA (aQ Z Z (aQ Z Z (wq (bC Z Z (by omega) (by omega)) Z (wq (bH us3 underlying136 Z (lO _ (by omega) (by omega))) Z (wq (kK Z Z (by decide)) Z (aL 22 (.int .u64 (((i+j) / 2:Nat):Int)) (iE (bWj i j)) (wq (bH bVy underlying3 Z (fJ _ (by omega) (by omega))) Z (bK Z Z (aB (aC (aE (aA (wq (aH (.func _ _ _) Z) Z (dK Z Z (aQ Z Z (wq (bJ ((i+j) / 2) dP Z Z Z ((R.mem hM1).below_len (aG aF hxb)) ((R.mem hM1).someK (aG aF hxb))) Z ?_))))))))))))))))))))
  refine wq (dW _ bQ (R.mem hM1) (aG aF hxb) Z) Z (aQ Z Z (eP bCo Z Z (aHu _ xb key) ?_))
  rintro v2 w2 ⟨rfl,hb2⟩
  have M2:=hM1.callB hb2
  refine cX Z Z Z Z (aB (aC ?_))
  refine aU Z (fun h31 => ?_) (fun h31 => ?_)
  ·refine aA (aQ Z Z (wq (bC Z Z (by omega) (by omega)) Z (bK Z Z (aB (cR ?_)))))
   refine bX ((i+j) / 2+1,j) (bE Z (bE Z dZ)) (bZ Z (bZ Z (bZ Z (bZ Z (bZ Z (bZ Z gK)))))) ?_ ?_
   ·exact ⟨⟨by omega,hjn,fun p c hp hc=>by have:=aDc hs (show p≤(i+j) / 2 by omega) hc hxb;have:=yK.1 h31;omega,hhi⟩,M2⟩
   ·(show j - ((i+j) / 2+1) < j - i;omega)
  ·refine aA (aQ Z Z (bK Z Z (aB (cR ?_))))
   refine bX (i,(i+j) / 2) (bE Z (bE Z dZ)) (bZ Z (bZ Z (bZ Z (bZ Z (bZ Z (bZ Z gK)))))) ?_ ?_
   ·exact ⟨⟨by omega,by omega,hlo,fun p c hp hc=>by have:=aDc hs hp hxb hc;have:=mt yK.2 h31;omega⟩,M2⟩
   ·(show (i+j) / 2 - i < j - i;omega)
 ·have hij':i=j:=by omega
  have hless:=zI (key:=key) (xs:=xs) (k:=i) (by omega) hlo (by rw [hij'];exact hhi)
  refine cN (dC (dE (eJ (aC (aE (aA (aQ Z Z (aQ Z Z (aQ Z Z (cX Z Z Z Z (wq (aH (.bool (decide _)) Z) Z ?_)))))))))))
  refine dQ 39 Z (fun g39 => ?_) (fun g39 => ?_)
  ·obtain ⟨xi,hxi⟩:=cF (k:=i) hlen (by omega)
   refine wq (aH (.func _ _ _) Z) Z (dK Z Z (aQ Z Z (wq (bJ (i) dP Z Z Z ((R.mem hM1).below_len (aG aF hxi)) ((R.mem hM1).someK (aG aF hxi))) Z (wq (dW _ bQ (R.mem hM1) (aG aF hxi) Z) Z (aQ Z Z (eP bCo Z Z (aHu _ xi key) ?_))))))
   rintro v3 w3 ⟨rfl,hb3⟩
   have M3:=hM1.callB hb3
   refine cX Z Z Z Z (wq (bR true (.bool (decide _)) Z Z) Z (bK Z Z (wq (aJ (.bool (decide _)) Z) Z (aB (aC (aO (fX (.int _ _) (.bool (decide _)) Z Z ?_)))))))
   exact ⟨uW (iE (by rw [hless])) (bD (aYz hs hxi hlo (by rw [hij'];exact hhi))),M3.below⟩
  ·refine aN Z Z (aN Z Z (aN Z Z (aN Z Z (aN Z Z (aN Z Z (aN Z Z (aN Z Z (wq (bR false (.bool false) Z Z) Z (bK Z Z (wq (aJ (.bool false) Z) Z (aB (aC (aO (fX (.int _ _) (.bool false) Z Z ?_))))))))))))))
   exact ⟨uW (iE (by rw [hless])) (bF (aSv fun p c hp hc=>hlo p c (by omega) hc)),hM1.below⟩
theorem wI (w:World) (key:Int) (A:Option Addr) (n c:Nat) (xs:List Body) (R:Rd w 10 A n (xs.map aF)) (hs:cZ xs) :
  Calls prog 153 #[.slice A n c,.int .u32 key] w (Rb w (.tuple #[.int .i64 (aCj key xs:Int),.bool (decide (0≤dO key xs))])):=by
 refine aI #[.tmp 4,.tmp 5] 11 func153 Z results153 ntmps153 Z ?_
 have M0:=Mem.refl w
 refine aE (aA (bK Z Z (wq (aJ (.bool false) Z) Z (aB (aC (aE (aA (dK Z Z (aQ Z Z (dN bPs Z Z M0 (uT _ key _ _ _ xs (R.mem M0) hs) (fun w1 M1=>(wq (bM (.int _ _) Z Z) Z (wq (bM (.bool (decide _)) Z Z) Z (bK Z Z (wq (aJ (.bool (decide _)) Z) Z (aB (aC (aO (fX (.int _ _) (.bool (decide _)) Z Z ?_)))))))))))))))))))
 exact ⟨Z,M1.below⟩
end Go.Proofs.YtpcloigancpnbaaGreatDoor
