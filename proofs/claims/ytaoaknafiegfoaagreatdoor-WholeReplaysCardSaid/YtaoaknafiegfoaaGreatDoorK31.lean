/- Part of the proof of a law of this seat (12 texts). No conditions. -/
import Derived.Test.YtaoaknafiegfoaaGreatDoorK27
import Derived.Test.YtaoaknafiegfoaaGreatDoorK30
set_option linter.unusedVariables false
set_option linter.unusedSimpArgs false
set_option linter.unnecessarySimpa false
set_option maxHeartbeats 100000000
namespace Go.Proofs.YtaoaknafiegfoaaGreatDoor
open Go.Bil
open Go.RowKit (Below)
open Go.Proofs
open Go.Proofs.Tryz
theorem lA (w:World) (a l:Int) (hl:0≤l∧l≤2147483647) (bf:Nat) (fl:Bool) (F:Option Addr) (cf:Nat) (RF:Rd w 1 F 1 [[.pointer (some ⟨bf,0,none⟩)]]) (hdF:0 < 1→∀ q off,F=some ⟨q,off,none⟩→q∉bI [(some bf,bc [.bool fl] 4)]) (hO:Own [(some bf,bc [.bool fl] 4)] w) :
  Calls prog 112 #[.int .i64 a,.int .i64 l,.slice F 1 cf] w (fE (fun v w'=>v=.int .i32 (jG a l)∧Mem w (bI [(some bf,bc [.bool fl] 4)]) [(some bf,bc [.bool (fl || decide (jG a l≠a))] 4)] w')):=by
 have hr:=eJ a hl.1
 refine aH #[.tmp 6] 34 func112 Z results112 ntmps112 Z ?_
 have M0:=hO.mem
 refine aD (aA (bP Z Z (aB (aC (aD (aA (aX Z Z (aX Z Z (dI aKt Z Z M0 (aAc _ a l (by omega)) (fun w1 M1=>(wq (aG (.tuple (List.toArray _)) Z) Z (wq (bE (.int _ _) Z Z) Z (wq (bE (.bool (decide _)) Z Z) Z (bP Z Z (wq (aI (.bool (decide _)) Z) Z (aB (aC (aD (aD (aA (dZ Z Z (wq (cG underlying201 Z) Z (aS 18 (.int .i64 1) (iE Z) (aX Z Z ?_))))))))))))))))))))))))
 refine aB (aC (aT (mN 2 (iO (aD (aA (dB Z Z Z Z (rS 20 Z (by first | decide | omega) (aB (aC (aD (cU Z (aL (aC (aD (aT (aD (aA (wq (bR (0) aDr Z Z Z ((RF.memY M1 hdF).below_len ((show ([[.pointer (some ⟨bf,0,none⟩)]]:List (List Value))[0]? = some [.pointer (some ⟨bf,0,none⟩)] from Z))) ((RF.memY M1 hdF).someK ((show ([[.pointer (some ⟨bf,0,none⟩)]]:List (List Value))[0]? = some [.pointer (some ⟨bf,0,none⟩)] from Z)))) Z (wq (gL (.pointer _) bJg (RF.memY M1 hdF) ((show ([[.pointer (some ⟨bf,0,none⟩)]]:List (List Value))[0]? = some [.pointer (some ⟨bf,0,none⟩)] from Z)) Z) Z ?_))))))))))))))))))))
 refine wq (aI (.pointer _) Z) Z (aB (aC (aA (wq (aG (.pointer _) Z) Z (wq (aG (.pointer _) Z) Z (wq (aO Z) Z (wq (aK 0 (.bool _) oG M1 Z Z Z) Z (wq (aG (.bool _) Z) Z ?_))))))))
 refine oO 27 _ Z (fun g27 => ?_) (fun g27 => ?_)
 ·refine aW Z Z (wq (bX true (.bool true) Z Z) Z (wq (aO Z) Z (dN 0 (.bool true) oG M1 Z Z Z Z Z Z (fun w2 M2=>(aB (dF (aC (aA (wq (bM Z Z (by first | decide | omega) (by first | decide | omega)) Z (aS 31 (.int .i64 1) (iE (by first | decide | omega)) (aX Z Z (aB (aC (iO (aD (aA (dB Z Z Z Z (rP 20 Z (by first | decide | omega) (aB (aC (aD ?_)))))))))))))))))))))
  refine bW Z (cO (dA (dA (eV (aC (aD (aA (aX Z Z (wq (bV us2 underlying21 Z (mT _ (by omega) (by omega))) Z (bP Z Z (aB (aC (aP (cB (.int _ _) Z ?_))))))))))))))
  first | exact ⟨rfl,by rw [(by simp only [g27,Bool.true_or]:(fl || decide (jG a l≠a))=true)];exact M2⟩ | exact ⟨rfl,by rw [(by simp only [g27,Bool.false_or]:(fl || decide (jG a l≠a))=decide (jG a l≠a))];exact M2⟩
 ·refine wq (aG (.bool (decide _)) Z) Z (wq (bX false (.bool (decide _)) Z Z) Z (wq (aO Z) Z (dN 0 (.bool (decide _)) oG M1 Z Z Z Z Z Z (fun w3 M3=>(aB (dF (aC (aA (wq (bM Z Z (by first | decide | omega) (by first | decide | omega)) Z (aS 31 (.int .i64 1) (iE (by first | decide | omega)) (aX Z Z (aB (aC (iO (aD (aA (dB Z Z Z Z (rP 20 Z (by first | decide | omega) (aB (aC (aD ?_)))))))))))))))))))))
  refine bW Z (cO (dA (dA (eV (aC (aD (aA (aX Z Z (wq (bV us2 underlying21 Z (mT _ (by omega) (by omega))) Z (bP Z Z (aB (aC (aP (cB (.int _ _) Z ?_))))))))))))))
  first | exact ⟨rfl,by rw [(by simp only [g27,Bool.true_or]:(fl || decide (jG a l≠a))=true)];exact M3⟩ | exact ⟨rfl,by rw [(by simp only [g27,Bool.false_or]:(fl || decide (jG a l≠a))=decide (jG a l≠a))];exact M3⟩
theorem aQs (w:World) (i:Int) (b:Body) (hb:Okb b) (bf:Nat) (fl:Bool) (hO:Own [(some bf,bc [.bool fl] 4)] w) :
  Calls prog 110 #[.int .i64 i,(.agg (aF b).toArray),.pointer (some ⟨bf,0,none⟩)] w (fE (fun v w'=>v=(.agg (aF (qD b)).toArray)∧Mem w (bI [(some bf,bc [.bool fl] 4)]) [(some bf,bc [.bool (fl || pU b)] 4)] w')):=by
 have hv:=hb.v
 refine aH #[.cell 5 39] 19 func110 Z results110 ntmps110 Z ?_
 have M0:=hO.mem
 refine aD (aA (bH (.agg (.mk _)) M0 Z Z Z (fun b1 w1 M1=>(aM iD M1 Z Z (fun b2 w2 M2=>(aB (aC (aD (aD (aA (wq (bB 1 bU M2 Z Z Z) Z (dI bFm Z Z M2 (aCh _ b) (fun w3 M3=>(wq (rX Z) Z (aB (aC ?_))))))))))))))))
 refine bA Z (fun h8 => ?_) (fun h8 => ?_)
 ·refine aA (wq (aE 8 fS Z) Z (wq (aE 1 dQ Z) Z (wq (aK 1 (.int _ _) aY M3 Z Z Z) Z (wq (bV gI underlying2 Z (kO _ (by omega) (by omega))) Z (wq (lY Z Z (by omega) (by omega)) Z (cP [.pointer _] [[.pointer (some ⟨bf,0,none⟩)]] Z aDr M3 Z Z Z Z (cW Z) (by decide) (fun b4 w4 M4 => ?_)))))))
  have hlit14:=kC (T:=174) (sz:=1) (b:=b4) (nn:=1) [[.pointer (some ⟨bf,0,none⟩)]] (by simp) rfl (by decide)
  refine dU zN Z Z (lA _ (b.vy - 1024) 16777216 ⟨by decide,by decide⟩ bf _ _ 1 (hlit14.rd M4 (aV (i:=3) Z)) (hlit14.awayB M4 3 0 Z Z Z) (M4.ownSeg 0 1)) ?_
  rintro v5 w5 ⟨rfl,hM5⟩
  have M5:Mem _ _ [_,_,_,_] _:=M4.seg 0 1 hM5
  refine wq (aE 8 fS Z) Z (wq (aE 1 dQ Z) Z (dN 1 (.int _ _) aY M5 Z Z Z Z Z Z (fun w6 M6=>(aB (aC (aD (aA (wq (bB 1 bU M6 Z Z Z) Z (aZ 2 _ bU M6 Z Z Z Z Z (aQ Z) Z (fun w7 M7=>(aB (aC (aP (eO 2 bU M7 Z Z Z ?_))))))))))))))
  exact ⟨by unfold qD;rw [if_neg h8];rfl,by rw [show pU b=decide (jG (b.vy - 1024) 16777216≠b.vy - 1024) by unfold pU;rw [decide_eq_true h8,Bool.true_and]];exact M7.keep [true,false,false,false]⟩
 ·refine aL (aC (aD (aA (wq (bB 1 bU M3 Z Z Z) Z (aZ 2 _ bU M3 Z Z Z Z Z (aQ Z) Z (fun w8 M8=>(aB (aC (aP (eO 2 bU M8 Z Z Z ?_))))))))))
  exact ⟨by unfold qD;rw [if_pos (Decidable.not_not.1 h8)];rfl,by rw [show pU b=false by unfold pU;rw [decide_eq_false h8,Bool.false_and],Bool.or_false];exact M8.keep [true,false,false]⟩
theorem aNt (w:World) (A:Option Addr) (n c:Nat) (xs:List Body) (R:Rd w 10 A n (xs.map aF)) (hb:∀ b∈xs,Okb b) (hn:n≤1048576) (bf:Nat) (hO:Own [(some bf,bc [.bool false] 4)] w) (hdA:0 < n→∀ q off,A=some ⟨q,off,none⟩→q∉bI [(some bf,bc [.bool false] 4)]) :
  Calls prog 109 #[.slice A n c,.func (.func 110) #[] #[.pointer (some ⟨bf,0,none⟩)]] w (fE (fun v w'=>∃ r:Row,v=.slice r.A r.n r.c∧aR 39 10 r.A r.n r.c ((sF xs).map aF) r.e∧Mem w (bI [(some bf,bc [.bool false] 4)]) [(some bf,bc [.bool (xs.any pU)] 4),r.e] w')):=by
 have hlen:xs.length=n:=by simpa using R.len
 have hbd:=R.bound
 refine aH #[.tmp 4] 24 func109 Z results109 ntmps109 Z ?_
 have M0:=hO.mem
 refine aD (aA (eX Z Z (aB (aC (aD (aA (eX Z Z ?_)))))))
 have M1:=M0.dummy default
 refine aB (aC (aD (aD (aA (dZ Z Z (wq (cG underlying29 Z) Z (aX Z Z (aB (aC (aT (dK (σ:=Nat × Row) [1,4,8,9] (fun (k,q)=>[(5,.slice q.A q.n q.c),(10,.int .i64 (k:Int))]) (fun (k,q) w'=>(k≤n∧aR 39 10 q.A q.n q.c (((xs.take k).map qD).map aF) q.e)∧Mem w (bI [(some bf,bc [.bool false] 4)]) [(some bf,bc [.bool ((xs.take k).any pU)] 4),q.e] w') (fun (k,q)=>n - k) (0,fM) (bN Z (bN Z eZ)) (⟨⟨by omega,aR.nil _ _ _⟩,M1⟩) ?_)))))))))))
 rintro ⟨k,q⟩ ρ2 w2 ⟨⟨hk,hq⟩,hM2⟩
 have htl:=List.length_take_le k xs
 have hqn:(xs.take k).length=q.n:=by simpa using hq.1
 refine aD (aA (dB Z Z Z Z (aB (aC (aD ?_)))))
 refine bA Z (fun h11 => ?_) (fun h11 => ?_)
 ·obtain ⟨xb,hxb⟩:=cF (xs:=xs) (k:=k) hlen (by omega)
  refine aL (aC (aD (aT (aD (aA (aX Z Z (wq (bR (k) fC Z Z Z ((R.memY hM2 hdA).below_len (aJ aF hxb)) ((R.memY hM2 hdA).someK (aJ aF hxb))) Z (wq (dT _ bU (R.memY hM2 hdA) (aJ aF hxb) Z) Z (aM iD hM2 Z Z (fun b3 w3 M3=>(bP Z Z (aZ 2 _ bU M3 Z Z Z Z Z (aQ Z) Z (fun w4 M4=>(aB (aC (aA (dZ Z Z (wq (aG (.func _ _ _) Z) Z (aX Z Z (wq (bB 2 bU M4 Z Z Z) Z (dU bGf Z Z (aQs _ _ xb (hb xb (List.mem_of_getElem? hxb)) bf _ (M4.ownSeg 0 1)) ?_)))))))))))))))))))))
  rintro v5 w5 ⟨rfl,hM5⟩
  have M5:Mem _ _ [_,_,_] _:=M4.seg 0 1 hM5
  refine cP [.agg (List.toArray _)] [aF (qD xb)] rfl fC M5 rfl rfl rfl rfl (cW rfl) (by decide) (fun b6 w6 M6=>(dL 1 [aF (qD xb)] fC M6 rfl rfl rfl rfl rfl hq rfl (by simp [aF,Go.Bil.one]) (cZ.ofMem 3 M6 rfl) (by omega) (fun A7 c7 e7 w7 M7 hR7=>(eX rfl rfl (aB (dF (aC (aA (wq (bM rfl rfl (by omega) (by omega)) rfl (aX rfl rfl (aB ?_)))))))))))
  refine cR (k+1,⟨A7,q.n+1,c7,e7⟩) (bN Z (bN Z eZ)) (cT Z (cT Z (cT Z (cT Z kB)))) ?_ ?_
  ·exact ⟨⟨by omega,by rw [cQ hxb,List.map_append,List.map_append];exact hR7⟩,by rw [cQ hxb,List.any_append,List.any_cons,List.any_nil,Bool.or_false];exact M7.keep [true,true,false,false]⟩
  ·(show n - (k+1) < n - k;omega)
 ·have hkn:k=n:=by omega
  rw [List.take_of_length_le (by omega)] at hq
  rw [List.take_of_length_le (by omega)] at hM2
  refine cO (dA (cX (eV (aC (aD (aA (dZ Z Z (eX Z Z (aB (aC (aP (cB (.slice _ _ _) Z ?_))))))))))))
  exact ⟨q,Z,hq,hM2⟩
theorem aJp (w:World) (A:Option Addr) (n c:Nat) (xs:List Body) (R:Rd w 10 A n (xs.map aF)) (hb:∀ b∈xs,Okb b) (hn:n≤1048576) :
  Calls prog 66 #[.slice A n c] w (fE (fun v w'=>∃ r:Row,v=.tuple #[.slice r.A r.n r.c,.bool (xs.any pU)]∧aR 39 10 r.A r.n r.c ((sF xs).map aF) r.e∧Mem w [] [r.e] w')):=by
 refine aH #[.tmp 2,.tmp 3] 11 func66 Z results66 ntmps66 Z ?_
 have M0:=Mem.refl w
 refine aD (aA (eX rfl rfl (wq (aI (.bool false) rfl) rfl (aB (aC (aD (aA (aM aOp M0 rfl rfl (fun b1 w1 M1=>(dN 0 (.bool false) oG M1 rfl rfl rfl rfl rfl rfl (fun w2 M2=>(aB (aC (aD (aA (dZ rfl rfl (wq (cH [] [.pointer _] rfl rfl) rfl (dU aZt rfl rfl (aNt _ A n c xs (R.mem M2) hb hn b1 (M2.ownSeg 0 1) (M2.away 0 1 R (by simp))) ?_))))))))))))))))))
 rintro v3 w3 ⟨r,rfl,hr,hM3⟩
 have M3:Mem _ _ [_,_] _:=M2.seg 0 1 hM3
 refine eX Z Z (aB (aC (aD (gJ [(0,0),(1,1),(2,0),(3,0)] mixed M3 Z (by kernel_rfl) (fun w4 M4=>(sH Z Z Z (bS Z Z Z (aK 0 (.bool _) oG M4 Z Z Z) (aU Z Z Z (fun _=>aI (.slice _ _ _) Z) (aU Z Z Z (fun _=>aI (.bool _) Z) (bZ (aC (aP (gY (.slice _ _ _) (.bool _) Z Z ?_)))))))))))))
 exact ⟨r,Z,hr,M4.keep [false,true]⟩
theorem aUa (w:World) (i:Nat) (b:Body) (hb:Okb b) (bf bl:Nat) (fl:Bool) (C:Option Addr) (m cm:Nat) (l:List (Int × Int)) (RS:Rd w 2 C m (l.map cK)) (s:Int × Int) (hs:l[i]? = some s) (hsb:(-1152921504606846976≤s.1∧s.1≤1152921504606846976) ∧ -1152921504606846976≤s.2∧s.2≤1152921504606846976) (hO:Own [(some bf,bc [.bool fl] 4),(some bl,bc [.slice C m cm] 127)] w) (hdS:0 < m→∀ q off,C=some ⟨q,off,none⟩→q∉bI [(some bf,bc [.bool fl] 4),(some bl,bc [.slice C m cm] 127)]) :
  Calls prog 113 #[.int .i64 (i:Int),(.agg (aF b).toArray),.pointer (some ⟨bl,0,none⟩),.pointer (some ⟨bf,0,none⟩)] w (fE (fun v w'=>v=(.agg (aF (aGs b s.1 s.2)).toArray)∧Mem w (bI [(some bf,bc [.bool fl] 4),(some bl,bc [.slice C m cm] 127)]) [(some bf,bc [.bool (fl || aUg b s.1 s.2)] 4),(some bl,bc [.slice C m cm] 127)] w')):=by
 have hv:=hb.v
 have hpp:=hb.p
 have hlm:l.length=m:=by simpa using RS.len
 have hil:=(List.getElem?_eq_some_iff.1 hs).1
 refine aH #[.cell 6 39] 50 func113 Z results113 ntmps113 Z ?_
 have M0:=hO.mem
 refine aD (aA (bH (.agg (.mk _)) M0 Z Z Z (fun b1 w1 M1=>(aM iD M1 Z Z (fun b2 w2 M2=>(aB (aC (aD (gJ [(0,0),(1,0),(2,1),(3,0),(4,1),(5,0),(6,1),(7,1),(8,1),(9,0),(10,0),(11,0),(12,1),(13,0),(14,0),(15,0),(16,0)] mixed M2 Z (by kernel_rfl) (fun w3 M3=>(aU Z Z Z (fun _=>aE 6 gX Z) (aU Z Z Z (fun _=>aE 0 eB Z) (bS Z Z Z (aK 2 (.int _ _) aY M3 Z Z Z) (aU Z Z Z (fun _=>bV gI underlying2 Z (kO _ (by omega) (by omega))) (bS Z Z Z (aK 1 (.slice _ _ _) vQ M3 Z Z Z) ?_)))))))))))))))
 refine gR Z Z Z (bS Z Z Z (bR (i) aBj Z Z Z ((RS.memY M3 hdS).below_len (aJ cK hs)) ((RS.memY M3 hdS).someK (aJ cK hs))) (bS Z Z Z (bO 0 aBp (RS.memY M3 hdS) (qR ((RS.memY M3 hdS).below_len (aJ cK hs))) Z) (bS Z Z Z (eP (o:=0) (.int _ _) mI (RS.memY M3 hdS) (aJ cK hs) Z Z) (aU Z Z Z (fun _=>bM Z Z (by omega) (by omega)) (aU Z Z Z (fun _=>aE 8 fS Z) (aU Z Z Z (fun _=>aE 0 eB Z) (bS Z Z Z (aK 2 (.int _ _) aY M3 Z Z Z) ?_)))))))
 refine aU Z Z Z (fun _=>hJ Z Z (by decide)) (fA 22 (.int .i32 (b.vx / 64)) (iE (aJw _)) (aU Z Z Z (fun _=>bV gI underlying2 Z (kO _ (by omega) (by omega))) (aU Z Z Z (fun _=>bM Z Z (by omega) (by omega)) (fA 24 (.int .i64 (aMw b s.1)) Z (qB Z Z Z (bZ (aC (aD (gJ [(0,0),(1,0),(2,1),(3,0),(4,1),(5,0),(6,1),(7,1),(8,1),(9,0),(10,0),(11,0),(12,1),(13,0),(14,0),(15,0),(16,0)] mixed M3 Z (by kernel_rfl) (fun w4 M4=>(aU Z Z Z (fun _=>aE 6 gX Z) (aU Z Z Z (fun _=>aE 1 dQ Z) ?_))))))))))))
 refine bS Z Z Z (aK 2 (.int _ _) aY M4 Z Z Z) (aU Z Z Z (fun _=>bV gI underlying2 Z (kO _ (by omega) (by omega))) (bS Z Z Z (aK 1 (.slice _ _ _) vQ M4 Z Z Z) (gR Z Z Z (bS Z Z Z (bR (i) aBj Z Z Z ((RS.memY M4 hdS).below_len (aJ cK hs)) ((RS.memY M4 hdS).someK (aJ cK hs))) (bS Z Z Z (bO 1 aBc (RS.memY M4 hdS) (qR ((RS.memY M4 hdS).below_len (aJ cK hs))) Z) (bS Z Z Z (eP (o:=1) (.int _ _) mI (RS.memY M4 hdS) (aJ cK hs) Z Z) (aU Z Z Z (fun _=>bM Z Z (by omega) (by omega)) ?_)))))))
 refine aU Z Z Z (fun _=>aE 8 fS Z) (aU Z Z Z (fun _=>aE 1 dQ Z) (bS Z Z Z (aK 2 (.int _ _) aY M4 Z Z Z) (aU Z Z Z (fun _=>hJ Z Z (by decide)) (fA 38 (.int .i32 (b.vy / 64)) (iE (aJw _)) (aU Z Z Z (fun _=>bV gI underlying2 Z (kO _ (by omega) (by omega))) (aU Z Z Z (fun _=>bM Z Z (by omega) (by omega)) (fA 40 (.int .i64 (aKu b s.2)) Z (qB Z Z Z (bZ (aC (aD (aA (aX Z Z (cP [.pointer _] [[.pointer (some ⟨bf,0,none⟩)]] Z aDr M4 Z Z Z Z (cW Z) (by decide) (fun b5 w5 M5 => ?_)))))))))))))))
 have hlit42:=kC (T:=174) (sz:=1) (b:=b5) (nn:=1) [[.pointer (some ⟨bf,0,none⟩)]] (by simp) rfl (by decide)
 refine dU zN Z Z (lA _ (aMw b s.1) 1073741824 ⟨by decide,by decide⟩ bf _ _ 1 (hlit42.rd M5 (aV (i:=4) Z)) (hlit42.awayB M5 4 0 Z Z Z) (M5.ownSeg 0 1)) ?_
 rintro v6 w6 ⟨rfl,hM6⟩
 have M6:Mem _ _ [_,_,_,_,_] _:=M5.seg 0 1 hM6
 refine aX Z Z (cP [.pointer _] [[.pointer (some ⟨bf,0,none⟩)]] Z aDr M6 Z Z Z Z (cW Z) (by decide) (fun b7 w7 M7 => ?_))
 have hlit45:=kC (T:=174) (sz:=1) (b:=b7) (nn:=1) [[.pointer (some ⟨bf,0,none⟩)]] (by simp) rfl (by decide)
 refine dU zN Z Z (lA _ (aKu b s.2) 1073741824 ⟨by decide,by decide⟩ bf _ _ 1 (hlit45.rd M7 (aV (i:=5) Z)) (hlit45.awayB M7 5 0 Z Z Z) (M7.ownSeg 0 1)) ?_
 rintro v8 w8 ⟨rfl,hM8⟩
 have M8:Mem _ _ [_,_,_,_,_,_] _:=M7.seg 0 1 hM8
 refine wq (cE [(0,.int _ _),(1,.int _ _)] _ fD Z Z) Z (wq (aE 6 gX Z) Z (aGj 2 _ bL M8 Z Z Z Z Z (aQ Z) (Nat.le_of_ble_eq_true Z) (fun w9 M9=>(aB (aC (aD (aA (wq (bB 2 bU M9 Z Z Z) Z (aZ 3 _ bU M9 Z Z Z Z Z (aQ Z) Z (fun w10 M10=>(aB (aC (aP (eO 3 bU M10 Z Z Z ?_))))))))))))))
 exact ⟨Z,by rw [show (fl || aUg b s.1 s.2)=((fl || decide (jG (aMw b s.1) 1073741824≠aMw b s.1)) || decide (jG (aKu b s.2) 1073741824≠aKu b s.2)) from (Bool.or_assoc _ _ _).symm];exact M10.keep [true,true,false,false,false,false]⟩
theorem aMp (w:World) (A:Option Addr) (n c:Nat) (xs:List Body) (R:Rd w 10 A n (xs.map aF)) (hb:∀ b∈xs,Okb b) (hn:n≤1048576) (bf bl:Nat) (G:Body→Int × Int) (hG:∀ b∈xs,(-1152921504606846976≤(G b).1∧(G b).1≤1152921504606846976) ∧ -1152921504606846976≤(G b).2∧(G b).2≤1152921504606846976) (C:Option Addr) (cm:Nat) (RS:Rd w 2 C n ((xs.map G).map cK)) (hO:Own [(some bf,bc [.bool false] 4),(some bl,bc [.slice C n cm] 127)] w) (hdA:0 < n→∀ q off,A=some ⟨q,off,none⟩→q∉bI [(some bf,bc [.bool false] 4),(some bl,bc [.slice C n cm] 127)]) (hdS:0 < n→∀ q off,C=some ⟨q,off,none⟩→q∉bI [(some bf,bc [.bool false] 4),(some bl,bc [.slice C n cm] 127)]) :
  Calls prog 109 #[.slice A n c,.func (.func 113) #[] #[.pointer (some ⟨bl,0,none⟩),.pointer (some ⟨bf,0,none⟩)]] w (fE (fun v w'=>∃ r:Row,v=.slice r.A r.n r.c∧aR 39 10 r.A r.n r.c ((xs.map (fun b=>aGs b (G b).1 (G b).2)).map aF) r.e∧Mem w (bI [(some bf,bc [.bool false] 4),(some bl,bc [.slice C n cm] 127)]) [(some bf,bc [.bool (xs.any (fun b=>aUg b (G b).1 (G b).2))] 4),(some bl,bc [.slice C n cm] 127),r.e] w')):=by
 have hlen:xs.length=n:=by simpa using R.len
 have hbd:=R.bound
 refine aH #[.tmp 4] 24 func109 Z results109 ntmps109 Z ?_
 have M0:=hO.mem
 refine aD (aA (eX Z Z (aB (aC (aD (aA (eX Z Z ?_)))))))
 have M1:=M0.dummy default
 refine aB (aC (aD (aD (aA (dZ Z Z (wq (cG underlying29 Z) Z (aX Z Z (aB (aC (aT (dK (σ:=Nat × Row) [1,4,8,9] (fun (k,q)=>[(5,.slice q.A q.n q.c),(10,.int .i64 (k:Int))]) (fun (k,q) w'=>(k≤n∧aR 39 10 q.A q.n q.c (((xs.take k).map (fun b=>aGs b (G b).1 (G b).2)).map aF) q.e)∧Mem w (bI [(some bf,bc [.bool false] 4),(some bl,bc [.slice C n cm] 127)]) [(some bf,bc [.bool ((xs.take k).any (fun b=>aUg b (G b).1 (G b).2))] 4),(some bl,bc [.slice C n cm] 127),q.e] w') (fun (k,q)=>n - k) (0,fM) (bN Z (bN Z eZ)) (⟨⟨by omega,aR.nil _ _ _⟩,M1⟩) ?_)))))))))))
 rintro ⟨k,q⟩ ρ2 w2 ⟨⟨hk,hq⟩,hM2⟩
 have htl:=List.length_take_le k xs
 have hqn:(xs.take k).length=q.n:=by simpa using hq.1
 refine aD (aA (dB Z Z Z Z (aB (aC (aD ?_)))))
 refine bA Z (fun h11 => ?_) (fun h11 => ?_)
 ·obtain ⟨xb,hxb⟩:=cF (xs:=xs) (k:=k) hlen (by omega)
  refine aL (aC (aD (aT (aD (aA (aX Z Z (wq (bR (k) fC Z Z Z ((R.memY hM2 hdA).below_len (aJ aF hxb)) ((R.memY hM2 hdA).someK (aJ aF hxb))) Z (wq (dT _ bU (R.memY hM2 hdA) (aJ aF hxb) Z) Z (aM iD hM2 Z Z (fun b3 w3 M3=>(bP Z Z (aZ 3 _ bU M3 Z Z Z Z Z (aQ Z) Z (fun w4 M4=>(aB (aC (aA (dZ Z Z (wq (aG (.func _ _ _) Z) Z (aX Z Z (wq (bB 3 bU M4 Z Z Z) Z (dU bIk Z Z (aUa _ k xb (hb xb (List.mem_of_getElem? hxb)) bf bl _ C n cm (xs.map G) (RS.memY M4 hdS) (G xb) (aJ G hxb) (hG xb (List.mem_of_getElem? hxb)) (M4.ownSeg 0 2) (M4.away 0 2 RS hdS)) ?_)))))))))))))))))))))
  rintro v5 w5 ⟨rfl,hM5⟩
  have M5:Mem _ _ [_,_,_,_] _:=M4.seg 0 2 hM5
  refine cP [.agg (List.toArray _)] [aF (aGs xb (G xb).1 (G xb).2)] rfl fC M5 rfl rfl rfl rfl (cW rfl) (by decide) (fun b6 w6 M6=>(dL 2 [aF (aGs xb (G xb).1 (G xb).2)] fC M6 rfl rfl rfl rfl rfl hq rfl (by simp [aF,Go.Bil.one]) (cZ.ofMem 4 M6 rfl) (by omega) (fun A7 c7 e7 w7 M7 hR7=>(eX rfl rfl (aB (dF (aC (aA (wq (bM rfl rfl (by omega) (by omega)) rfl (aX rfl rfl (aB ?_)))))))))))
  refine cR (k+1,⟨A7,q.n+1,c7,e7⟩) (bN Z (bN Z eZ)) (cT Z (cT Z (cT Z (cT Z kB)))) ?_ ?_
  ·exact ⟨⟨by omega,by rw [cQ hxb,List.map_append,List.map_append];exact hR7⟩,by rw [cQ hxb,List.any_append,List.any_cons,List.any_nil,Bool.or_false];exact M7.keep [true,true,true,false,false]⟩
  ·(show n - (k+1) < n - k;omega)
 ·have hkn:k=n:=by omega
  rw [List.take_of_length_le (by omega)] at hq
  rw [List.take_of_length_le (by omega)] at hM2
  refine cO (dA (cX (eV (aC (aD (aA (dZ Z Z (eX Z Z (aB (aC (aP (cB (.slice _ _ _) Z ?_))))))))))))
  exact ⟨q,Z,hq,hM2⟩
theorem aYp (w:World) (A:Option Addr) (n c:Nat) (xs:List Body) (R:Rd w 10 A n (xs.map aF)) (hb:∀ b∈xs,Okb b) (hn:n≤1048576) (G:Body→Int × Int) (hG:∀ b∈xs,(-1152921504606846976≤(G b).1∧(G b).1≤1152921504606846976) ∧ -1152921504606846976≤(G b).2∧(G b).2≤1152921504606846976) (C:Option Addr) (cm:Nat) (RS:Rd w 2 C n ((xs.map G).map cK)) :
  Calls prog 67 #[.slice A n c,.slice C n cm] w (fE (fun v w'=>∃ r:Row,v=.tuple #[.slice r.A r.n r.c,.bool (xs.any (fun b=>aUg b (G b).1 (G b).2))]∧aR 39 10 r.A r.n r.c ((xs.map (fun b=>aGs b (G b).1 (G b).2)).map aF) r.e∧Mem w [] [r.e] w')):=by
 refine aH #[.tmp 4,.tmp 5] 13 func67 Z results67 ntmps67 Z ?_
 have M0:=Mem.refl w
 refine aD (aA (bH (.slice _ _ _) M0 Z Z Z (fun b1 w1 M1=>(eX Z Z (wq (aI (.bool false) Z) Z (aB (aC (aD (aA (aM aOp M1 Z Z (fun b2 w2 M2=>(dN 1 (.bool false) oG M2 Z Z Z Z Z Z (fun w3 M3=>(aB (aC (aD (aA ?_)))))))))))))))))
 have M4:Mem _ _ [_,_] _:=Mem.swap2 M3
 refine dZ rfl rfl (wq (cH [] [.pointer _,.pointer _] rfl rfl) rfl (dU aZt rfl rfl (aMp _ A n c xs (R.mem M4) hb hn b2 b1 G hG C cm (RS.mem M4) (M4.ownSeg 0 2) (M4.away 0 2 R (by simp)) (M4.away 0 2 RS (by simp))) ?_))
 rintro v5 w5 ⟨r,rfl,hr,hM5⟩
 have M5:Mem _ _ [_,_,_] _:=M4.seg 0 2 hM5
 refine eX Z Z (aB (aC (aD (gJ [(0,0),(1,1),(2,0),(3,0)] mixed M5 Z (by kernel_rfl) (fun w6 M6=>(sH Z Z Z (bS Z Z Z (aK 0 (.bool _) oG M6 Z Z Z) (aU Z Z Z (fun _=>aI (.slice _ _ _) Z) (aU Z Z Z (fun _=>aI (.bool _) Z) (bZ (aC (aP (gY (.slice _ _ _) (.bool _) Z Z ?_)))))))))))))
 exact ⟨r,Z,hr,M6.keep [false,false,true]⟩
theorem aLg (w:World) (bs:Nat) (vr lr:Row) (tt mm:Int) (cl:Bool) (A:Option Addr) (n c:Nat) (q:Row) (c2:Bool) (hO:Own [(some bs,bc [.slice A n c,.slice vr.A vr.n vr.c,.slice lr.A lr.n lr.c,.int .i64 tt,.int .i64 mm,.bool cl] 168)] w) :
  Calls prog 145 #[.pointer (some ⟨bs,0,none⟩),.slice q.A q.n q.c,.bool c2] w (fE (fun v w'=>v=.tuple #[]∧Mem w (bI [(some bs,bc [.slice A n c,.slice vr.A vr.n vr.c,.slice lr.A lr.n lr.c,.int .i64 tt,.int .i64 mm,.bool cl] 168)]) [(some bs,bc [.slice A n c,.slice q.A q.n q.c,.slice lr.A lr.n lr.c,.int .i64 tt,.int .i64 mm,.bool (cl || c2)] 168)] w')):=by
 refine aH #[] 22 func145 Z results145 ntmps145 Z ?_
 have M0:=hO.mem
 refine aD (aA (wq (aG (.pointer _) Z) Z (dZ Z Z (wq (aO Z) Z (wq (aE 1 uP Z) Z (dN 0 (.slice _ _ _) fL M0 Z Z Z Z Z Z (fun w1 M1=>(aB (aC (aA (wq (aG (.pointer _) Z) Z (wq (aG (.pointer _) Z) Z (wq (aO Z) Z (wq (aE 3 oM Z) Z (wq (aE 2 uI Z) Z (wq (aK 0 (.bool _) oG M1 Z Z Z) Z (wq (aG (.bool _) Z) Z ?_)))))))))))))))))
 refine oO 16 _ Z (fun g16 => ?_) (fun g16 => ?_)
 ·refine aW Z Z (wq (bX true (.bool true) Z Z) Z (wq (aO Z) Z (wq (aE 3 oM Z) Z (wq (aE 2 uI Z) Z (dN 0 (.bool true) oG M1 Z Z Z Z Z Z (fun w2 M2=>(aB (gZ ?_))))))))
  first | exact ⟨rfl,by rw [(by simp only [g16,Bool.true_or]:(cl || c2)=true)];exact M2⟩ | exact ⟨rfl,by rw [(by simp only [g16,Bool.false_or]:(cl || c2)=c2)];exact M2⟩
 ·refine wq (aG (.bool _) Z) Z (wq (bX false (.bool _) Z Z) Z (wq (aO Z) Z (wq (aE 3 oM Z) Z (wq (aE 2 uI Z) Z (dN 0 (.bool _) oG M1 Z Z Z Z Z Z (fun w3 M3=>(aB (gZ ?_))))))))
  first | exact ⟨rfl,by rw [(by simp only [g16,Bool.true_or]:(cl || c2)=true)];exact M3⟩ | exact ⟨rfl,by rw [(by simp only [g16,Bool.false_or]:(cl || c2)=c2)];exact M3⟩
theorem bDl (w:World) (F:Rd w 2 (some ⟨0,0,none⟩) 1 [[.int .u32 73856093,.int .u32 19349663]]) (N:Rd w 4 (some ⟨3,0,none⟩) 1 [cS fU]) (bs:Nat) (vr lr:Row) (tt mm:Int) (cl:Bool) (A:Option Addr) (n c:Nat) (xs:List Body) (R:Rd w 10 A n (xs.map aF)) (hb:∀ b∈xs,Okb b) (hs:bY xs) (hn:n≤4096) (hO:Own [(some bs,bc [.slice A n c,.slice vr.A vr.n vr.c,.slice lr.A lr.n lr.c,.int .i64 tt,.int .i64 mm,.bool cl] 168)] w) (hdA:0 < n→∀ q off,A=some ⟨q,off,none⟩→q∉bI [(some bs,bc [.slice A n c,.slice vr.A vr.n vr.c,.slice lr.A lr.n lr.c,.int .i64 tt,.int .i64 mm,.bool cl] 168)]) (hdF:0 < 1→∀ q off,(some ⟨0,0,none⟩:Option Addr)=some ⟨q,off,none⟩→q∉bI [(some bs,bc [.slice A n c,.slice vr.A vr.n vr.c,.slice lr.A lr.n lr.c,.int .i64 tt,.int .i64 mm,.bool cl] 168)]) (hdN:0 < 1→∀ q off,(some ⟨3,0,none⟩:Option Addr)=some ⟨q,off,none⟩→q∉bI [(some bs,bc [.slice A n c,.slice vr.A vr.n vr.c,.slice lr.A lr.n lr.c,.int .i64 tt,.int .i64 mm,.bool cl] 168)]) :
  Calls prog 105 #[.pointer (some ⟨bs,0,none⟩)] w (fE (fun v w'=>v=.tuple #[]∧∃ (r:Row) (m:Nat),(lM xs).length≤m∧2*m≤xs.length*(xs.length - 1)∧aR 211 5 r.A r.n r.c ((lL xs).map cM) r.e∧Mem w (bI [(some bs,bc [.slice A n c,.slice vr.A vr.n vr.c,.slice lr.A lr.n lr.c,.int .i64 tt,.int .i64 mm,.bool cl] 168)]) [(some bs,bc [.slice A n c,.slice vr.A vr.n vr.c,.slice r.A r.n r.c,.int .i64 (m:Int),.int .i64 (r.n:Int),.bool cl] 168),r.e] w')):=by
 refine aH #[] 26 func105 Z results105 ntmps105 Z ?_
 have M0:=hO.mem
 refine aD (aA (wq (aG (.pointer _) Z) Z (wq (aG (.pointer _) Z) Z (wq (aG (.pointer _) Z) Z (wq (aO Z) Z (wq (aE 0 aAh Z) Z (wq (aK 0 (.slice _ _ _) fL M0 Z Z Z) Z (dU bGm Z Z (aFi _ (F.memY M0 hdF) (N.memY M0 hdN) A n c xs (R.memY M0 hdA) hb hs hn) ?_))))))))
 rintro v1 w1 ⟨r,m,rfl,hm1,hm2,hr,hM1⟩
 have M1:Mem _ _ [_,_] _:=M0.call0 hM1
 refine wq (aG (.tuple (List.toArray _)) Z) Z (wq (bE (.slice _ _ _) Z Z) Z (wq (bE (.int _ _) Z Z) Z (wq (aO Z) Z (wq (aE 2 uN Z) Z (dN 0 (.slice _ _ _) mD M1 Z Z Z Z Z Z (fun w2 M2=>(wq (aO Z) Z (wq (aE 3 oM Z) Z (wq (aE 0 aOi Z) Z (dN 0 (.int _ _) fZ M2 Z Z Z Z Z Z (fun w3 M3=>(aB (aC (aA (wq (aG (.pointer _) Z) Z (wq (aG (.pointer _) Z) Z (wq (aO Z) Z (wq (aE 2 uN Z) Z (wq (aK 0 (.slice _ _ _) mD M3 Z Z Z) Z ?_)))))))))))))))))))
 refine wq (cG underlying166 Z) Z (wq (aO Z) Z (wq (aE 3 oM Z) Z (wq (aE 1 aFv Z) Z (dN 0 (.int _ _) fZ M3 Z Z Z Z Z Z (fun w4 M4=>(aB (gZ ?_)))))))
 exact ⟨Z,r,m,hm1,hm2,hr,M4⟩
theorem bAy (w:World) (bs:Nat) (vr lr:Row) (tt mm:Int) (cl:Bool) (A:Option Addr) (n c:Nat) (xs:List Body) (R:Rd w 10 A n (xs.map aF)) (hb:∀ b∈xs,Okb b) (hn:n≤1048576) (hO:Own [(some bs,bc [.slice A n c,.slice vr.A vr.n vr.c,.slice lr.A lr.n lr.c,.int .i64 tt,.int .i64 mm,.bool cl] 168)] w) (hdA:0 < n→∀ q off,A=some ⟨q,off,none⟩→q∉bI [(some bs,bc [.slice A n c,.slice vr.A vr.n vr.c,.slice lr.A lr.n lr.c,.int .i64 tt,.int .i64 mm,.bool cl] 168)]) :
  Calls prog 106 #[.pointer (some ⟨bs,0,none⟩)] w (fE (fun v w'=>v=.tuple #[]∧∃ r:Row,aR 39 10 r.A r.n r.c ((sF xs).map aF) r.e∧Mem w (bI [(some bs,bc [.slice A n c,.slice vr.A vr.n vr.c,.slice lr.A lr.n lr.c,.int .i64 tt,.int .i64 mm,.bool cl] 168)]) [(some bs,bc [.slice A n c,.slice r.A r.n r.c,.slice lr.A lr.n lr.c,.int .i64 tt,.int .i64 mm,.bool (cl || xs.any pU)] 168),r.e] w')):=by
 refine aH #[] 11 func106 Z results106 ntmps106 Z ?_
 have M0:=hO.mem
 refine aA (wq (aG (.pointer _) Z) Z (wq (aG (.pointer _) Z) Z (wq (aO Z) Z (wq (aE 0 aAh Z) Z (wq (aK 0 (.slice _ _ _) fL M0 Z Z Z) Z (dU bMz Z Z (aJp _ A n c xs (R.memY M0 hdA) hb hn) ?_))))))
 rintro v1 w1 ⟨r,rfl,hr,hM1⟩
 have M1:Mem _ _ [_,_] _:=M0.call0 hM1
 refine wq (bE (.slice _ _ _) Z Z) Z (wq (bE (.bool _) Z Z) Z (dU aLe Z Z (aLg _ bs vr lr tt mm cl A n c r _ (M1.ownSeg 0 1)) ?_))
 rintro v2 w2 ⟨rfl,hM2⟩
 have M2:Mem _ _ [_,_] _:=M1.seg 0 1 hM2
 refine aB (gZ ?_)
 exact ⟨Z,r,hr,M2⟩
theorem aXa (w:World) (bs:Nat) (vr lr:Row) (tt mm:Int) (cl:Bool) (A:Option Addr) (n c:Nat) (ys:List Body) (cs:List Con) (RV:Rd w 10 vr.A vr.n (ys.map aF)) (RL:Rd w 5 lr.A lr.n (cs.map cM)) (hs:bY ys) (hb:∀ b∈ys,Okb b) (hn:vr.n≤1048576) (hcs:∀ c∈cs,OkC ys c) (hmc:lr.n≤8589934592) (hO:Own [(some bs,bc [.slice A n c,.slice vr.A vr.n vr.c,.slice lr.A lr.n lr.c,.int .i64 tt,.int .i64 mm,.bool cl] 168)] w) (hdV:0 < vr.n→∀ q off,vr.A=some ⟨q,off,none⟩→q∉bI [(some bs,bc [.slice A n c,.slice vr.A vr.n vr.c,.slice lr.A lr.n lr.c,.int .i64 tt,.int .i64 mm,.bool cl] 168)]) (hdL:0 < lr.n→∀ q off,lr.A=some ⟨q,off,none⟩→q∉bI [(some bs,bc [.slice A n c,.slice vr.A vr.n vr.c,.slice lr.A lr.n lr.c,.int .i64 tt,.int .i64 mm,.bool cl] 168)]) :
  Calls prog 107 #[.pointer (some ⟨bs,0,none⟩)] w (fE (fun v w'=>v=.tuple #[]∧∃ r:Row,aR 39 10 r.A r.n r.c (((iR ys cs 4).1).map aF) r.e∧Mem w (bI [(some bs,bc [.slice A n c,.slice vr.A vr.n vr.c,.slice lr.A lr.n lr.c,.int .i64 tt,.int .i64 mm,.bool cl] 168)]) [(some bs,bc [.slice A n c,.slice r.A r.n r.c,.slice lr.A lr.n lr.c,.int .i64 tt,.int .i64 mm,.bool (cl || (iR ys cs 4).2)] 168),r.e] w')):=by
 refine aH #[] 15 func107 Z results107 ntmps107 Z ?_
 have M0:=hO.mem
 refine gJ [(0,0),(1,0),(2,0),(3,0),(4,1),(5,0),(6,0),(7,0),(8,1),(9,2),(10,0),(11,0),(12,2)] mixed M0 Z (by kernel_rfl) (fun w1 M1=>(aU Z Z Z (fun _=>aG (.pointer _) Z) (aU Z Z Z (fun _=>aG (.pointer _) Z) (aU Z Z Z (fun _=>aO Z) (aU Z Z Z (fun _=>aE 1 uP Z) (bS Z Z Z (aK 0 (.slice _ _ _) fL M1 Z Z Z) (aU Z Z Z (fun _=>aG (.pointer _) Z) (aU Z Z Z (fun _=>aO Z) (aU Z Z Z (fun _=>aE 2 uN Z) (bS Z Z Z (aK 0 (.slice _ _ _) mD M1 Z Z Z) ?_))))))))))
 refine dD [true,true] Z (by kernel_rfl) (dU bFq Z Z (aRk _ vr.A vr.n vr.c ys (RV.memY M1 hdV) hs hb hn lr.A lr.n lr.c cs (RL.memY M1 hdL) hcs hmc) ?_)
 rintro v2 w2 ⟨r,rfl,hr,hM2⟩
 have M2:Mem _ _ [_,_] _:=M1.call0 hM2
 refine aB (aC ⟨dE, ?_⟩)
 refine aU Z Z Z (fun _=>bE (.slice _ _ _) Z Z) (aU Z Z Z (fun _=>bE (.bool _) Z Z) (dD [] Z (by kernel_rfl) (dU aLe Z Z (aLg _ bs vr lr tt mm cl A n c r _ (M2.ownSeg 0 1)) ?_)))
 rintro v3 w3 ⟨rfl,hM3⟩
 have M3:Mem _ _ [_,_] _:=M2.seg 0 1 hM3
 refine aB (aC ⟨dE, ?_⟩)
 refine bZ (gZ ?_)
 exact ⟨Z,r,hr,M3⟩
theorem bCk (w:World) (bs:Nat) (vr lr:Row) (tt mm:Int) (cl:Bool) (A:Option Addr) (n c:Nat) (xs:List Body) (R:Rd w 10 A n (xs.map aF)) (ys:List Body) (cs:List Con) (RV:Rd w 10 vr.A vr.n (ys.map aF)) (RL:Rd w 5 lr.A lr.n (cs.map cM)) (hs:bY xs) (hb:∀ b∈xs,Okb b) (hb2:∀ b∈ys,Okb b) (hn:n≤1048576) (hvn:vr.n=n) (hcs:∀ c∈cs,OkC xs c) (hmc:lr.n≤1073741824) (hsh:xs.map (jH xs cs)=ys.map (jH xs cs)) (hG:∀ b∈ys,(-1152921504606846976≤(jH xs cs b).1∧(jH xs cs b).1≤1152921504606846976) ∧ -1152921504606846976≤(jH xs cs b).2∧(jH xs cs b).2≤1152921504606846976) (hO:Own [(some bs,bc [.slice A n c,.slice vr.A vr.n vr.c,.slice lr.A lr.n lr.c,.int .i64 tt,.int .i64 mm,.bool cl] 168)] w) (hdA:0 < n→∀ q off,A=some ⟨q,off,none⟩→q∉bI [(some bs,bc [.slice A n c,.slice vr.A vr.n vr.c,.slice lr.A lr.n lr.c,.int .i64 tt,.int .i64 mm,.bool cl] 168)]) (hdV:0 < vr.n→∀ q off,vr.A=some ⟨q,off,none⟩→q∉bI [(some bs,bc [.slice A n c,.slice vr.A vr.n vr.c,.slice lr.A lr.n lr.c,.int .i64 tt,.int .i64 mm,.bool cl] 168)]) (hdL:0 < lr.n→∀ q off,lr.A=some ⟨q,off,none⟩→q∉bI [(some bs,bc [.slice A n c,.slice vr.A vr.n vr.c,.slice lr.A lr.n lr.c,.int .i64 tt,.int .i64 mm,.bool cl] 168)]) :
  Calls prog 108 #[.pointer (some ⟨bs,0,none⟩)] w (fE (fun v w'=>v=.tuple #[]∧∃ r:Row,aR 39 10 r.A r.n r.c ((aPd xs cs ys).map aF) r.e∧Mem w (bI [(some bs,bc [.slice A n c,.slice vr.A vr.n vr.c,.slice lr.A lr.n lr.c,.int .i64 tt,.int .i64 mm,.bool cl] 168)]) [(some bs,bc [.slice A n c,.slice r.A r.n r.c,.slice lr.A lr.n lr.c,.int .i64 tt,.int .i64 mm,.bool (cl || aXf xs cs ys)] 168),r.e] w')):=by
 have hlen:xs.length=n:=by simpa using R.len
 refine aH #[] 20 func108 Z results108 ntmps108 Z ?_
 have M0:=hO.mem
 refine gJ [(0,0),(1,0),(2,0),(3,0),(4,1),(5,0),(6,0),(7,0),(8,1),(9,0),(10,0),(11,0),(12,1),(13,2),(14,2),(15,0),(16,0),(17,2)] mixed M0 Z (by kernel_rfl) (fun w1 M1=>(aU Z Z Z (fun _=>aG (.pointer _) Z) (aU Z Z Z (fun _=>aG (.pointer _) Z) (aU Z Z Z (fun _=>aO Z) (aU Z Z Z (fun _=>aE 1 uP Z) (bS Z Z Z (aK 0 (.slice _ _ _) fL M1 Z Z Z) (aU Z Z Z (fun _=>aG (.pointer _) Z) (aU Z Z Z (fun _=>aO Z) (aU Z Z Z (fun _=>aE 0 aAh Z) ?_)))))))))
 refine bS Z Z Z (aK 0 (.slice _ _ _) fL M1 Z Z Z) (aU Z Z Z (fun _=>aG (.pointer _) Z) (aU Z Z Z (fun _=>aO Z) (aU Z Z Z (fun _=>aE 2 uN Z) (bS Z Z Z (aK 0 (.slice _ _ _) mD M1 Z Z Z) (dD [true,true,false] Z (by kernel_rfl) (dU bJb Z Z (aLc _ A n c xs (R.memY M1 hdA) hs hb hn lr.A lr.n lr.c cs (RL.memY M1 hdL) hcs hmc) ?_))))))
 rintro v2 w2 ⟨⟨qA,qn,qc,qe⟩,rfl,hq,hM2⟩
 have hqn:xs.length=qn:=by simpa using hq.1
 obtain rfl:qn=vr.n:=by omega
 rw [hsh] at hq
 have M2:Mem _ _ [_,_] _:=M1.call0 hM2
 refine aB (aC ⟨(eH (bJ Z (aK 0 (.slice _ _ _) fL M2 Z Z Z)) dE), ?_⟩)
 refine dD [true] Z (by kernel_rfl) (dU bKx Z Z (aYp _ vr.A vr.n vr.c ys (RV.memY M2 hdV) hb2 (by omega) (jH xs cs) hG qA qc (hq.rd M2 (aV (i:=1) Z))) ?_)
 rintro v3 w3 ⟨r,rfl,hr,hM3⟩
 have M3:Mem _ _ [_,_,_] _:=M2.call0 hM3
 refine aB (aC ⟨dE, ?_⟩)
 refine aU Z Z Z (fun _=>bE (.slice _ _ _) Z Z) (aU Z Z Z (fun _=>bE (.bool _) Z Z) (dD [] Z (by kernel_rfl) (dU aLe Z Z (aLg _ bs vr lr tt mm cl A n c r _ (M3.ownSeg 0 1)) ?_)))
 rintro v4 w4 ⟨rfl,hM4⟩
 have M4:Mem _ _ [_,_,_] _:=M3.seg 0 1 hM4
 refine aB (aC ⟨dE, ?_⟩)
 refine bZ (gZ ?_)
 exact ⟨Z,r,hr,M4.keep [true,false,true]⟩
theorem aRf {xs:List Body} {cs:List Con} {b b':Body} (h:SameB b b'):jH xs cs b=jH xs cs b':=by
 unfold jH uH aBd
 rw [h.key,h.mass]
theorem aHr {xs ys zs:List Body} {cs:List Con} (h:Like ys zs):ys.map (jH xs cs)=zs.map (jH xs cs):=by
 apply List.ext_getElem?
 intro i
 rw [List.getElem?_map,List.getElem?_map]
 by_cases hi:i < ys.length
 ·have h1:ys[i]? = some ys[i]:=List.getElem?_eq_getElem hi
  have h2:zs[i]? = some (zs[i]'(by rw [h.len];exact hi)):=List.getElem?_eq_getElem _
  rw [h1,h2]
  exact congrArg some (aRf (h.at_ i _ _ h1 h2)).symm
 ·have hl:=h.len
  rw [List.getElem?_eq_none (show ys.length≤i by omega),List.getElem?_eq_none (show zs.length≤i by omega)]
theorem bEd {xs:List Body} {cs:List Con} (hs:bY xs) (hb:∀ b∈xs,Okb b) (hcs:∀ c∈cs,OkC xs c) (hl:cs.length≤1073741824) {zs:List Body} (h:Like xs zs):∀ b∈zs,(-1152921504606846976≤(jH xs cs b).1∧(jH xs cs b).1≤1152921504606846976) ∧ -1152921504606846976≤(jH xs cs b).2∧(jH xs cs b).2≤1152921504606846976:=fun b hbm=>by
 have hm:jH xs cs b∈zs.map (jH xs cs):=List.mem_map_of_mem hbm
 rw [← aHr h] at hm
 obtain ⟨x,hx,e⟩:=List.mem_map.1 hm
 rw [← e]
 have:=aFg hs hb hcs rfl hl cs.length hx
 rwa [List.take_of_length_le (Nat.le_refl _)] at this
theorem aDm (w:World) (F:Rd w 2 (some ⟨0,0,none⟩) 1 [[.int .u32 73856093,.int .u32 19349663]]) (N:Rd w 4 (some ⟨3,0,none⟩) 1 [cS fU]) (A:Option Addr) (n c:Nat) (xs:List Body) (R:Rd w 10 A n (xs.map aF)) (hb:∀ b∈xs,Okb b) (hs:bY xs) (hn:n≤4096) :
  Calls prog 65 #[.slice A n c] w (fE (fun v w'=>∃ (r:Row) (t:Nat),v=.tuple #[.slice r.A r.n r.c,.agg [.int .i64 (t:Int),.int .i64 ((lL xs).length:Int),.bool (sA xs)].toArray]∧(lL xs).length≤t∧2*t≤xs.length*(xs.length - 1)∧aR 39 10 r.A r.n r.c ((oF xs).map aF) r.e∧Mem w [] [r.e] w')):=by
 have hlen:xs.length=n:=by simpa using R.len
 have hnn:xs.length*xs.length≤4096*4096:=Nat.mul_le_mul (by omega) (by omega)
 have hcl:=aJd xs
 have hsq:=bDy (xs:=xs)
 refine aH #[.tmp 2,.cell 3 58] 26 func65 Z results65 ntmps65 Z ?_
 have M0:=Mem.refl w
 refine aD (aA (eX Z Z (aM sU M0 Z Z (fun b1 w1 M1=>(aB (aC (aD (aA (dZ Z Z (wq (cE [(0,.slice _ _ _)] _ aUc Z Z) Z (bH (.agg (.mk _)) M1 Z Z Z (fun b2 w2 M2=>(wq (aI (.pointer _) Z) Z (aB (aC (aD (aD (aA (wq (qJ [.func _ _ _,.func _ _ _,.func _ _ _,.func _ _ _] zK bBt Z Z (cW Z)) Z (aX Z Z (aB (aC (aT (mN 5 (iO (aD (aA (dB Z Z Z Z (rS 12 Z (by first | decide | omega) ?_)))))))))))))))))))))))))))))
 refine aB (aC (aD (cU rfl (aL (aC (aD (aT (aD (aA (wq (wD 0 (.func _ _ _) zK aHf rfl rfl (by decide) (by decide) rfl rfl) rfl (wq (aI (.func _ _ _) rfl) rfl (aB (aC (aA (wq (aG (.func _ _ _) rfl) rfl (wq (aG (.pointer _) rfl) rfl (dU bHv rfl rfl (bDl _ (F.mem M2) (N.mem M2) b2 fM fM 0 0 false A n c xs (R.mem M2) hb hs hn (M2.ownSeg 1 1) (M2.away 1 1 R (by simp)) (M2.away 1 1 F (by simp)) (M2.away 1 1 N (by simp))) ?_)))))))))))))))))
 rintro v3 w3 ⟨rfl,r,tm,ht1,ht2,hr,hM3⟩
 have M3:Mem _ _ [_,_,_] _:=M2.seg 1 1 hM3
 have hrn:(lL xs).length=r.n:=by simpa using hr.1
 refine aB (dF (aC (aA (wq (bM Z Z (by first | decide | omega) (by first | decide | omega)) Z (aS 17 (.int .i64 1) (iE (by first | decide | omega)) (aX Z Z (aB (aC (iO (aD (aA (dB Z Z Z Z (rS 12 Z (by first | decide | omega) (aB (aC (aD (cU Z (aL (aC (aD (aT (aD (aA (wq (wD 1 (.func _ _ _) zK aHf Z Z (by decide) (by decide) Z Z) Z (wq (aI (.func _ _ _) Z) Z ?_)))))))))))))))))))))))))
 refine aB (aC (aA (wq (aG (.func _ _ _) rfl) rfl (wq (aG (.pointer _) rfl) rfl (dU bIn rfl rfl (bAy _ b2 fM r (tm:Int) (r.n:Int) false A n c xs (R.mem M3) hb (by omega) (M3.ownSeg 1 1) (M3.away 1 1 R (by simp))) ?_)))))
 rintro v4 w4 ⟨rfl,g,hg,hM4⟩
 have M4:Mem _ _ [_,_,_,_] _:=M3.seg 1 1 hM4
 have hgn:(sF xs).length=g.n:=by simpa using hg.1
 have hgl:=(nW xs).len
 refine aB (dF (aC (aA (wq (bM Z Z (by first | decide | omega) (by first | decide | omega)) Z (aS 17 (.int .i64 2) (iE (by first | decide | omega)) (aX Z Z (aB (aC (iO (aD (aA (dB Z Z Z Z (rS 12 Z (by first | decide | omega) (aB (aC (aD (cU Z (aL (aC (aD (aT (aD (aA (wq (wD 2 (.func _ _ _) zK aHf Z Z (by decide) (by decide) Z Z) Z (wq (aI (.func _ _ _) Z) Z ?_)))))))))))))))))))))))))
 refine aB (aC (aA (wq (aG (.func _ _ _) Z) Z (wq (aG (.pointer _) Z) Z (dU bJq Z Z (aXa _ b2 g r (tm:Int) (r.n:Int) _ A n c (sF xs) (lL xs) (hg.rd M4 (aV (i:=3) Z)) (hr.rd M4 (aV (i:=2) Z)) ((nW xs).sorted hs) (aGr hb) (by omega) (fun c h=>(nW xs).okc (aBx hs hb c h)) (by omega) (M4.ownSeg 1 1) (hg.awayB M4 3 1 Z Z Z) (hr.awayB M4 2 1 Z Z Z)) ?_)))))
 rintro v5 w5 ⟨rfl,s,hsv,hM5⟩
 have M5:Mem _ _ [_,_,_,_,_] _:=M4.seg 1 1 hM5
 have hsn:(nA xs).length=s.n:=by have h:=hsv.1;rwa [List.length_map] at h
 have hlk:Like xs (nA xs):=(nW xs).trans (kH _ _ 4)
 have hsl:=hlk.len
 refine aB (dF (aC (aA (wq (bM Z Z (by first | decide | omega) (by first | decide | omega)) Z (aS 17 (.int .i64 3) (iE (by first | decide | omega)) (aX Z Z (aB (aC (iO (aD (aA (dB Z Z Z Z (rS 12 Z (by first | decide | omega) (aB (aC (aD (cU Z (aL (aC (aD (aT (aD (aA (wq (wD 3 (.func _ _ _) zK aHf Z Z (by decide) (by decide) Z Z) Z (wq (aI (.func _ _ _) Z) Z ?_)))))))))))))))))))))))))
 refine aB (aC (aA (wq (aG (.func _ _ _) rfl) rfl (wq (aG (.pointer _) rfl) rfl (dU bIc rfl rfl (bCk _ b2 s r (tm:Int) (r.n:Int) _ A n c xs (R.mem M5) (nA xs) (lL xs) (hsv.rd M5 (aV (i:=4) rfl)) (hr.rd M5 (aV (i:=2) rfl)) hs hb (uG (aGr hb) 4) (by omega) (by omega) (aBx hs hb) (by omega) (aHr hlk) (bEd hs hb (aBx hs hb) (by omega) hlk) (M5.ownSeg 1 1) (M5.away 1 1 R (by simp)) (hsv.awayB M5 4 1 rfl rfl rfl) (hr.awayB M5 2 1 rfl rfl rfl)) ?_)))))
 rintro v6 w6 ⟨rfl,m,hm,hM6⟩
 have M6:Mem _ _ [_,_,_,_,_,_] _:=M5.seg 1 1 hM6
 refine aB (dF (aC (aA (wq (bM Z Z (by first | decide | omega) (by first | decide | omega)) Z (aS 17 (.int .i64 4) (iE (by first | decide | omega)) (aX Z Z (aB (aC (iO (aD (aA (dB Z Z Z Z (rP 12 Z (by first | decide | omega) (aB (aC (aD (bW Z (cO (dA (dA (eV ?_)))))))))))))))))))))
 refine aC (aD (gJ [(0,0),(1,0),(2,0),(3,1),(4,0),(5,0),(6,0),(7,1),(8,0),(9,2)] mixed M6 Z (by kernel_rfl) (fun w7 M7=>(aU Z Z Z (fun _=>aG (.pointer _) Z) (aU Z Z Z (fun _=>aO Z) (aU Z Z Z (fun _=>aE 1 uP Z) (bS Z Z Z (aK 1 (.slice _ _ _) fL M7 Z Z Z) (aU Z Z Z (fun _=>aG (.pointer _) Z) (aU Z Z Z (fun _=>aO Z) (aU Z Z Z (fun _=>aE 3 oM Z) (bS Z Z Z (uQ 1 _ oK M7 Z Z Z Z) (aU Z Z Z (fun _=>aI (.slice _ _ _) Z) ?_))))))))))))
 refine dD [true,true] Z (by kernel_rfl) (aZ 0 _ oK M7 Z Z Z Z Z (aQ Z) Z (fun w8 M8 => ?_))
 refine aB (aC ⟨dE, ?_⟩)
 refine bZ (aC (aP (bMk (.slice _ _ _) 0 oK M8 Z Z Z Z ?_)))
 exact ⟨m,tm,aCd Z (by rw [hrn];show Value.agg _=_;rw [show sA xs=(((false || xs.any pU) || (iR (sF xs) (lL xs) 4).2) || aXf xs (lL xs) (nA xs)) by unfold sA;rw [Bool.false_or]];rfl),by omega,ht2,hm,M8.keep [false,false,false,false,false,true]⟩
end Go.Proofs.YtaoaknafiegfoaaGreatDoor
