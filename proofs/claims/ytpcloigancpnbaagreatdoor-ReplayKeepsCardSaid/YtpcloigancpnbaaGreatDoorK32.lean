/- Part of the proof of a law of this seat (12 texts). No conditions. -/
import Derived.Test.YtpcloigancpnbaaGreatDoorK27
import Derived.Test.YtpcloigancpnbaaGreatDoorK31
set_option linter.unusedVariables false
set_option linter.unusedSimpArgs false
set_option linter.unnecessarySimpa false
set_option maxHeartbeats 100000000
namespace Go.Proofs.YtpcloigancpnbaaGreatDoor
open Go.Bil
open Go.RowKit (Below)
open Go.Proofs
open Go.Proofs.Tryz
theorem oJ (w:World) (a l:Int) (hl:0≤l∧l≤2147483647) (bf:Nat) (fl:Bool) (F:Option Addr) (cf:Nat) (RF:Rd w 1 F 1 [[.pointer (some ⟨bf,0,none⟩)]]) (hdF:0 < 1→∀ q off,F=some ⟨q,off,none⟩→q∉bY [(some bf,bc [.bool fl] 4)]) (hO:Own [(some bf,bc [.bool fl] 4)] w) :
  Calls prog 98 #[.int .i64 a,.int .i64 l,.slice F 1 cf] w (gH (fun v w'=>v=.int .i32 (jK a l)∧Mem w (bY [(some bf,bc [.bool fl] 4)]) [(some bf,bc [.bool (fl || decide (jK a l≠a))] 4)] w')):=by
 have hr:=eX a hl.1
 refine aI #[.tmp 6] 34 func98 Z results98 ntmps98 Z ?_
 have M0:=hO.mem
 refine aE (aA (bK Z Z (aB (aC (aE (aA (aQ Z Z (aQ Z Z (dN aRw Z Z M0 (aFr _ a l (by omega)) (fun w1 M1=>(wq (aH (.tuple (List.toArray _)) Z) Z (wq (bM (.int _ _) Z Z) Z (wq (bM (.bool (decide _)) Z Z) Z (bK Z Z (wq (aJ (.bool (decide _)) Z) Z (aB (aC (aE (aE (aA (dK Z Z (wq (cK underlying194 Z) Z (aL 18 (.int .i64 1) (iE Z) (aQ Z Z ?_))))))))))))))))))))))))
 refine aB (aC (aP (jH 2 (fO (aE (aA (cX Z Z Z Z (kR 20 Z (by first | decide | omega) (aB (aC (aE (cE Z (aM (aC (aE (aP (aE (aA (wq (bJ (0) aKx Z Z Z ((RF.memY M1 hdF).below_len ((show ([[.pointer (some ⟨bf,0,none⟩)]]:List (List Value))[0]? = some [.pointer (some ⟨bf,0,none⟩)] from Z))) ((RF.memY M1 hdF).someK ((show ([[.pointer (some ⟨bf,0,none⟩)]]:List (List Value))[0]? = some [.pointer (some ⟨bf,0,none⟩)] from Z)))) Z (wq (fU (.pointer _) bRy (RF.memY M1 hdF) ((show ([[.pointer (some ⟨bf,0,none⟩)]]:List (List Value))[0]? = some [.pointer (some ⟨bf,0,none⟩)] from Z)) Z) Z ?_))))))))))))))))))))
 refine wq (aJ (.pointer _) Z) Z (aB (aC (aA (wq (aH (.pointer _) Z) Z (wq (aH (.pointer _) Z) Z (wq (bL Z) Z (wq (aK 0 (.bool _) sV M1 Z Z Z) Z (wq (aH (.bool _) Z) Z ?_))))))))
 refine kM 27 _ Z (fun g27 => ?_) (fun g27 => ?_)
 ·refine aN Z Z (wq (bR true (.bool true) Z Z) Z (wq (bL Z) Z (dA 0 (.bool true) sV M1 Z Z Z Z Z Z (fun w2 M2=>(aB (cR (aC (aA (wq (bC Z Z (by first | decide | omega) (by first | decide | omega)) Z (aL 31 (.int .i64 1) (iE (by first | decide | omega)) (aQ Z Z (aB (aC (fO (aE (aA (cX Z Z Z Z (pD 20 Z (by first | decide | omega) (aB (aC (aE ?_)))))))))))))))))))))
  refine cG Z (cN (dC (dC (eJ (aC (aE (aA (aQ Z Z (wq (bH mV underlying21 Z (jQ _ (by omega) (by omega))) Z (bK Z Z (aB (aC (aO (cI (.int _ _) Z ?_))))))))))))))
  first | exact ⟨rfl,by rw [(by simp only [g27,Bool.true_or]:(fl || decide (jK a l≠a))=true)];exact M2⟩ | exact ⟨rfl,by rw [(by simp only [g27,Bool.false_or]:(fl || decide (jK a l≠a))=decide (jK a l≠a))];exact M2⟩
 ·refine wq (aH (.bool (decide _)) Z) Z (wq (bR false (.bool (decide _)) Z Z) Z (wq (bL Z) Z (dA 0 (.bool (decide _)) sV M1 Z Z Z Z Z Z (fun w3 M3=>(aB (cR (aC (aA (wq (bC Z Z (by first | decide | omega) (by first | decide | omega)) Z (aL 31 (.int .i64 1) (iE (by first | decide | omega)) (aQ Z Z (aB (aC (fO (aE (aA (cX Z Z Z Z (pD 20 Z (by first | decide | omega) (aB (aC (aE ?_)))))))))))))))))))))
  refine cG Z (cN (dC (dC (eJ (aC (aE (aA (aQ Z Z (wq (bH mV underlying21 Z (jQ _ (by omega) (by omega))) Z (bK Z Z (aB (aC (aO (cI (.int _ _) Z ?_))))))))))))))
  first | exact ⟨rfl,by rw [(by simp only [g27,Bool.true_or]:(fl || decide (jK a l≠a))=true)];exact M3⟩ | exact ⟨rfl,by rw [(by simp only [g27,Bool.false_or]:(fl || decide (jK a l≠a))=decide (jK a l≠a))];exact M3⟩
theorem aZd (w:World) (i:Int) (b:Body) (hb:Okb b) (bf:Nat) (fl:Bool) (hO:Own [(some bf,bc [.bool fl] 4)] w) :
  Calls prog 149 #[.int .i64 i,(.agg (aF b).toArray),.pointer (some ⟨bf,0,none⟩)] w (gH (fun v w'=>v=(.agg (aF (pG b)).toArray)∧Mem w (bY [(some bf,bc [.bool fl] 4)]) [(some bf,bc [.bool (fl || mM b)] 4)] w')):=by
 have hv:=hb.v
 refine aI #[.cell 5 43] 19 func149 Z results149 ntmps149 Z ?_
 have M0:=hO.mem
 refine aE (aA (bN (.agg (.mk _)) M0 Z Z Z (fun b1 w1 M1=>(aR fV M1 Z Z (fun b2 w2 M2=>(aB (aC (aE (aE (aA (wq (aX 1 bQ M2 Z Z Z) Z (dN bPh Z Z M2 (aIl _ b) (fun w3 M3=>(wq (pH Z) Z (aB (aC ?_))))))))))))))))
 refine aU Z (fun h8 => ?_) (fun h8 => ?_)
 ·refine aA (wq (aD 8 eB Z) Z (wq (aD 1 cS Z) Z (wq (aK 1 (.int _ _) aY M3 Z Z Z) Z (wq (bH dY underlying2 Z (fJ _ (by omega) (by omega))) Z (wq (gG Z Z (by omega) (by omega)) Z (cC [.pointer _] [[.pointer (some ⟨bf,0,none⟩)]] Z aKx M3 Z Z Z Z (cU Z) (by decide) (fun b4 w4 M4 => ?_)))))))
  have hlit14:=kZ (T:=164) (sz:=1) (b:=b4) (nn:=1) [[.pointer (some ⟨bf,0,none⟩)]] (by simp) rfl (by decide)
  refine eP aOn Z Z (oJ _ (b.vy - 1024) 16777216 ⟨by decide,by decide⟩ bf _ _ 1 (hlit14.rd M4 (bA (i:=3) Z)) (hlit14.awayB M4 3 0 Z Z Z) (M4.ownSeg 0 1)) ?_
  rintro v5 w5 ⟨rfl,hM5⟩
  have M5:Mem _ _ [_,_,_,_] _:=M4.seg 0 1 hM5
  refine wq (aD 8 eB Z) Z (wq (aD 1 cS Z) Z (dA 1 (.int _ _) aY M5 Z Z Z Z Z Z (fun w6 M6=>(aB (aC (aE (aA (wq (aX 1 bQ M6 Z Z Z) Z (bG 2 _ bQ M6 Z Z Z Z Z (aS Z) Z (fun w7 M7=>(aB (aC (aO (eQ 2 bQ M7 Z Z Z ?_))))))))))))))
  exact ⟨by unfold pG;rw [if_neg h8];rfl,by rw [show mM b=decide (jK (b.vy - 1024) 16777216≠b.vy - 1024) by unfold mM;rw [decide_eq_true h8,Bool.true_and]];exact M7.keep [true,false,false,false]⟩
 ·refine aM (aC (aE (aA (wq (aX 1 bQ M3 Z Z Z) Z (bG 2 _ bQ M3 Z Z Z Z Z (aS Z) Z (fun w8 M8=>(aB (aC (aO (eQ 2 bQ M8 Z Z Z ?_))))))))))
  exact ⟨by unfold pG;rw [if_pos (Decidable.not_not.1 h8)];rfl,by rw [show mM b=false by unfold mM;rw [decide_eq_false h8,Bool.false_and],Bool.or_false];exact M8.keep [true,false,false]⟩
theorem aTa (w:World) (A:Option Addr) (n c:Nat) (xs:List Body) (R:Rd w 10 A n (xs.map aF)) (hb:∀ b∈xs,Okb b) (hn:n≤1048576) (bf:Nat) (hO:Own [(some bf,bc [.bool false] 4)] w) (hdA:0 < n→∀ q off,A=some ⟨q,off,none⟩→q∉bY [(some bf,bc [.bool false] 4)]) :
  Calls prog 148 #[.slice A n c,.func (.func 149) #[] #[.pointer (some ⟨bf,0,none⟩)]] w (gH (fun v w'=>∃ r:Row,v=.slice r.A r.n r.c∧aZ 43 10 r.A r.n r.c ((qS xs).map aF) r.e∧Mem w (bY [(some bf,bc [.bool false] 4)]) [(some bf,bc [.bool (xs.any mM)] 4),r.e] w')):=by
 have hlen:xs.length=n:=by simpa using R.len
 have hbd:=R.bound
 refine aI #[.tmp 4] 24 func148 Z results148 ntmps148 Z ?_
 have M0:=hO.mem
 refine aE (aA (eH Z Z (aB (aC (aE (aA (eH Z Z ?_)))))))
 have M1:=M0.dummy default
 refine aB (aC (aE (aE (aA (dK Z Z (wq (cK underlying46 Z) Z (aQ Z Z (aB (aC (aP (dG (σ:=Nat × Row) [1,4,8,9] (fun (k,q)=>[(5,.slice q.A q.n q.c),(10,.int .i64 (k:Int))]) (fun (k,q) w'=>(k≤n∧aZ 43 10 q.A q.n q.c (((xs.take k).map pG).map aF) q.e)∧Mem w (bY [(some bf,bc [.bool false] 4)]) [(some bf,bc [.bool ((xs.take k).any mM)] 4),q.e] w') (fun (k,q)=>n - k) (0,fH) (bE Z (bE Z dZ)) (⟨⟨by omega,aZ.nil _ _ _⟩,M1⟩) ?_)))))))))))
 rintro ⟨k,q⟩ ρ2 w2 ⟨⟨hk,hq⟩,hM2⟩
 have htl:=List.length_take_le k xs
 have hqn:(xs.take k).length=q.n:=by simpa using hq.1
 refine aE (aA (cX Z Z Z Z (aB (aC (aE ?_)))))
 refine aU Z (fun h11 => ?_) (fun h11 => ?_)
 ·obtain ⟨xb,hxb⟩:=cF (xs:=xs) (k:=k) hlen (by omega)
  refine aM (aC (aE (aP (aE (aA (aQ Z Z (wq (bJ (k) dP Z Z Z ((R.memY hM2 hdA).below_len (aG aF hxb)) ((R.memY hM2 hdA).someK (aG aF hxb))) Z (wq (dW _ bQ (R.memY hM2 hdA) (aG aF hxb) Z) Z (aR fV hM2 Z Z (fun b3 w3 M3=>(bK Z Z (bG 2 _ bQ M3 Z Z Z Z Z (aS Z) Z (fun w4 M4=>(aB (aC (aA (dK Z Z (wq (aH (.func _ _ _) Z) Z (aQ Z Z (wq (aX 2 bQ M4 Z Z Z) Z (eP bPg Z Z (aZd _ _ xb (hb xb (List.mem_of_getElem? hxb)) bf _ (M4.ownSeg 0 1)) ?_)))))))))))))))))))))
  rintro v5 w5 ⟨rfl,hM5⟩
  have M5:Mem _ _ [_,_,_] _:=M4.seg 0 1 hM5
  refine cC [.agg (List.toArray _)] [aF (pG xb)] rfl dP M5 rfl rfl rfl rfl (cU rfl) (by decide) (fun b6 w6 M6=>(cW 1 [aF (pG xb)] dP M6 rfl rfl rfl rfl rfl hq rfl (by simp [aF,Go.Bil.one]) (dL.ofMem 3 M6 rfl) (by omega) (fun A7 c7 e7 w7 M7 hR7=>(eH rfl rfl (aB (cR (aC (aA (wq (bC rfl rfl (by omega) (by omega)) rfl (aQ rfl rfl (aB ?_)))))))))))
  refine bX (k+1,⟨A7,q.n+1,c7,e7⟩) (bE Z (bE Z dZ)) (bZ Z (bZ Z (bZ Z (bZ Z gK)))) ?_ ?_
  ·exact ⟨⟨by omega,by rw [cH hxb,List.map_append,List.map_append];exact hR7⟩,by rw [cH hxb,List.any_append,List.any_cons,List.any_nil,Bool.or_false];exact M7.keep [true,true,false,false]⟩
  ·(show n - (k+1) < n - k;omega)
 ·have hkn:k=n:=by omega
  rw [List.take_of_length_le (by omega)] at hq
  rw [List.take_of_length_le (by omega)] at hM2
  refine cN (dC (dE (eJ (aC (aE (aA (dK Z Z (eH Z Z (aB (aC (aO (cI (.slice _ _ _) Z ?_))))))))))))
  exact ⟨q,Z,hq,hM2⟩
theorem aPr (w:World) (A:Option Addr) (n c:Nat) (xs:List Body) (R:Rd w 10 A n (xs.map aF)) (hb:∀ b∈xs,Okb b) (hn:n≤1048576) :
  Calls prog 130 #[.slice A n c] w (gH (fun v w'=>∃ r:Row,v=.tuple #[.slice r.A r.n r.c,.bool (xs.any mM)]∧aZ 43 10 r.A r.n r.c ((qS xs).map aF) r.e∧Mem w [] [r.e] w')):=by
 refine aI #[.tmp 2,.tmp 3] 11 func130 Z results130 ntmps130 Z ?_
 have M0:=Mem.refl w
 refine aE (aA (eH rfl rfl (wq (aJ (.bool false) rfl) rfl (aB (aC (aE (aA (aR aXs M0 rfl rfl (fun b1 w1 M1=>(dA 0 (.bool false) sV M1 rfl rfl rfl rfl rfl rfl (fun w2 M2=>(aB (aC (aE (aA (dK rfl rfl (wq (dU [] [.pointer _] rfl rfl) rfl (eP bCe rfl rfl (aTa _ A n c xs (R.mem M2) hb hn b1 (M2.ownSeg 0 1) (M2.away 0 1 R (by simp))) ?_))))))))))))))))))
 rintro v3 w3 ⟨r,rfl,hr,hM3⟩
 have M3:Mem _ _ [_,_] _:=M2.seg 0 1 hM3
 refine eH Z Z (aB (aC (aE (fW [(0,0),(1,1),(2,0),(3,0)] mixed M3 Z (by kernel_rfl) (fun w4 M4=>(kA Z Z Z (bP Z Z Z (aK 0 (.bool _) sV M4 Z Z Z) (aV Z Z Z (fun _=>aJ (.slice _ _ _) Z) (aV Z Z Z (fun _=>aJ (.bool _) Z) (bS (aC (aO (fX (.slice _ _ _) (.bool _) Z Z ?_)))))))))))))
 exact ⟨r,Z,hr,M4.keep [false,true]⟩
theorem aZe (w:World) (i:Nat) (b:Body) (hb:Okb b) (bf bl:Nat) (fl:Bool) (C:Option Addr) (m cm:Nat) (l:List (Int × Int)) (RS:Rd w 2 C m (l.map cP)) (s:Int × Int) (hs:l[i]? = some s) (hsb:(-1152921504606846976≤s.1∧s.1≤1152921504606846976) ∧ -1152921504606846976≤s.2∧s.2≤1152921504606846976) (hO:Own [(some bf,bc [.bool fl] 4),(some bl,bc [.slice C m cm] 201)] w) (hdS:0 < m→∀ q off,C=some ⟨q,off,none⟩→q∉bY [(some bf,bc [.bool fl] 4),(some bl,bc [.slice C m cm] 201)]) :
  Calls prog 152 #[.int .i64 (i:Int),(.agg (aF b).toArray),.pointer (some ⟨bl,0,none⟩),.pointer (some ⟨bf,0,none⟩)] w (gH (fun v w'=>v=(.agg (aF (uI b s.1 s.2)).toArray)∧Mem w (bY [(some bf,bc [.bool fl] 4),(some bl,bc [.slice C m cm] 201)]) [(some bf,bc [.bool (fl || aIy b s.1 s.2)] 4),(some bl,bc [.slice C m cm] 201)] w')):=by
 have hv:=hb.v
 have hpp:=hb.p
 have hlm:l.length=m:=by simpa using RS.len
 have hil:=(List.getElem?_eq_some_iff.1 hs).1
 refine aI #[.cell 6 43] 50 func152 Z results152 ntmps152 Z ?_
 have M0:=hO.mem
 refine aE (aA (bN (.agg (.mk _)) M0 Z Z Z (fun b1 w1 M1=>(aR fV M1 Z Z (fun b2 w2 M2=>(aB (aC (aE (fW [(0,0),(1,0),(2,1),(3,0),(4,1),(5,0),(6,1),(7,1),(8,1),(9,0),(10,0),(11,0),(12,1),(13,0),(14,0),(15,0),(16,0)] mixed M2 Z (by kernel_rfl) (fun w3 M3=>(aV Z Z Z (fun _=>aD 6 fL Z) (aV Z Z Z (fun _=>aD 0 cV Z) (bP Z Z Z (aK 2 (.int _ _) aY M3 Z Z Z) (aV Z Z Z (fun _=>bH dY underlying2 Z (fJ _ (by omega) (by omega))) (bP Z Z Z (aK 1 (.slice _ _ _) aBk M3 Z Z Z) ?_)))))))))))))))
 refine eD Z Z Z (bP Z Z Z (bJ (i) aHf Z Z Z ((RS.memY M3 hdS).below_len (aG cP hs)) ((RS.memY M3 hdS).someK (aG cP hs))) (bP Z Z Z (aT 0 aFk (RS.memY M3 hdS) (iR ((RS.memY M3 hdS).below_len (aG cP hs))) Z) (bP Z Z Z (dM (o:=0) (.int _ _) jM (RS.memY M3 hdS) (aG cP hs) Z Z) (aV Z Z Z (fun _=>bC Z Z (by omega) (by omega)) (aV Z Z Z (fun _=>aD 8 eB Z) (aV Z Z Z (fun _=>aD 0 cV Z) (bP Z Z Z (aK 2 (.int _ _) aY M3 Z Z Z) ?_)))))))
 refine aV Z Z Z (fun _=>kK Z Z (by decide)) (dV 22 (.int .i32 (b.vx / 64)) (iE (aPp _)) (aV Z Z Z (fun _=>bH dY underlying2 Z (fJ _ (by omega) (by omega))) (aV Z Z Z (fun _=>bC Z Z (by omega) (by omega)) (dV 24 (.int .i64 (aIu b s.1)) Z (mW Z Z Z (bS (aC (aE (fW [(0,0),(1,0),(2,1),(3,0),(4,1),(5,0),(6,1),(7,1),(8,1),(9,0),(10,0),(11,0),(12,1),(13,0),(14,0),(15,0),(16,0)] mixed M3 Z (by kernel_rfl) (fun w4 M4=>(aV Z Z Z (fun _=>aD 6 fL Z) (aV Z Z Z (fun _=>aD 1 cS Z) ?_))))))))))))
 refine bP Z Z Z (aK 2 (.int _ _) aY M4 Z Z Z) (aV Z Z Z (fun _=>bH dY underlying2 Z (fJ _ (by omega) (by omega))) (bP Z Z Z (aK 1 (.slice _ _ _) aBk M4 Z Z Z) (eD Z Z Z (bP Z Z Z (bJ (i) aHf Z Z Z ((RS.memY M4 hdS).below_len (aG cP hs)) ((RS.memY M4 hdS).someK (aG cP hs))) (bP Z Z Z (aT 1 aFl (RS.memY M4 hdS) (iR ((RS.memY M4 hdS).below_len (aG cP hs))) Z) (bP Z Z Z (dM (o:=1) (.int _ _) jM (RS.memY M4 hdS) (aG cP hs) Z Z) (aV Z Z Z (fun _=>bC Z Z (by omega) (by omega)) ?_)))))))
 refine aV Z Z Z (fun _=>aD 8 eB Z) (aV Z Z Z (fun _=>aD 1 cS Z) (bP Z Z Z (aK 2 (.int _ _) aY M4 Z Z Z) (aV Z Z Z (fun _=>kK Z Z (by decide)) (dV 38 (.int .i32 (b.vy / 64)) (iE (aPp _)) (aV Z Z Z (fun _=>bH dY underlying2 Z (fJ _ (by omega) (by omega))) (aV Z Z Z (fun _=>bC Z Z (by omega) (by omega)) (dV 40 (.int .i64 (aIv b s.2)) Z (mW Z Z Z (bS (aC (aE (aA (aQ Z Z (cC [.pointer _] [[.pointer (some ⟨bf,0,none⟩)]] Z aKx M4 Z Z Z Z (cU Z) (by decide) (fun b5 w5 M5 => ?_)))))))))))))))
 have hlit42:=kZ (T:=164) (sz:=1) (b:=b5) (nn:=1) [[.pointer (some ⟨bf,0,none⟩)]] (by simp) rfl (by decide)
 refine eP aOn Z Z (oJ _ (aIu b s.1) 1073741824 ⟨by decide,by decide⟩ bf _ _ 1 (hlit42.rd M5 (bA (i:=4) Z)) (hlit42.awayB M5 4 0 Z Z Z) (M5.ownSeg 0 1)) ?_
 rintro v6 w6 ⟨rfl,hM6⟩
 have M6:Mem _ _ [_,_,_,_,_] _:=M5.seg 0 1 hM6
 refine aQ Z Z (cC [.pointer _] [[.pointer (some ⟨bf,0,none⟩)]] Z aKx M6 Z Z Z Z (cU Z) (by decide) (fun b7 w7 M7 => ?_))
 have hlit45:=kZ (T:=164) (sz:=1) (b:=b7) (nn:=1) [[.pointer (some ⟨bf,0,none⟩)]] (by simp) rfl (by decide)
 refine eP aOn Z Z (oJ _ (aIv b s.2) 1073741824 ⟨by decide,by decide⟩ bf _ _ 1 (hlit45.rd M7 (bA (i:=5) Z)) (hlit45.awayB M7 5 0 Z Z Z) (M7.ownSeg 0 1)) ?_
 rintro v8 w8 ⟨rfl,hM8⟩
 have M8:Mem _ _ [_,_,_,_,_,_] _:=M7.seg 0 1 hM8
 refine wq (cB [(0,.int _ _),(1,.int _ _)] _ eZ Z Z) Z (wq (aD 6 fL Z) Z (vB 2 _ bO M8 Z Z Z Z Z (aS Z) (Nat.le_of_ble_eq_true Z) (fun w9 M9=>(aB (aC (aE (aA (wq (aX 2 bQ M9 Z Z Z) Z (bG 3 _ bQ M9 Z Z Z Z Z (aS Z) Z (fun w10 M10=>(aB (aC (aO (eQ 3 bQ M10 Z Z Z ?_))))))))))))))
 exact ⟨Z,by rw [show (fl || aIy b s.1 s.2)=((fl || decide (jK (aIu b s.1) 1073741824≠aIu b s.1)) || decide (jK (aIv b s.2) 1073741824≠aIv b s.2)) from (Bool.or_assoc _ _ _).symm];exact M10.keep [true,true,false,false,false,false]⟩
theorem aTb (w:World) (A:Option Addr) (n c:Nat) (xs:List Body) (R:Rd w 10 A n (xs.map aF)) (hb:∀ b∈xs,Okb b) (hn:n≤1048576) (bf bl:Nat) (G:Body→Int × Int) (hG:∀ b∈xs,(-1152921504606846976≤(G b).1∧(G b).1≤1152921504606846976) ∧ -1152921504606846976≤(G b).2∧(G b).2≤1152921504606846976) (C:Option Addr) (cm:Nat) (RS:Rd w 2 C n ((xs.map G).map cP)) (hO:Own [(some bf,bc [.bool false] 4),(some bl,bc [.slice C n cm] 201)] w) (hdA:0 < n→∀ q off,A=some ⟨q,off,none⟩→q∉bY [(some bf,bc [.bool false] 4),(some bl,bc [.slice C n cm] 201)]) (hdS:0 < n→∀ q off,C=some ⟨q,off,none⟩→q∉bY [(some bf,bc [.bool false] 4),(some bl,bc [.slice C n cm] 201)]) :
  Calls prog 148 #[.slice A n c,.func (.func 152) #[] #[.pointer (some ⟨bl,0,none⟩),.pointer (some ⟨bf,0,none⟩)]] w (gH (fun v w'=>∃ r:Row,v=.slice r.A r.n r.c∧aZ 43 10 r.A r.n r.c ((xs.map (fun b=>uI b (G b).1 (G b).2)).map aF) r.e∧Mem w (bY [(some bf,bc [.bool false] 4),(some bl,bc [.slice C n cm] 201)]) [(some bf,bc [.bool (xs.any (fun b=>aIy b (G b).1 (G b).2))] 4),(some bl,bc [.slice C n cm] 201),r.e] w')):=by
 have hlen:xs.length=n:=by simpa using R.len
 have hbd:=R.bound
 refine aI #[.tmp 4] 24 func148 Z results148 ntmps148 Z ?_
 have M0:=hO.mem
 refine aE (aA (eH Z Z (aB (aC (aE (aA (eH Z Z ?_)))))))
 have M1:=M0.dummy default
 refine aB (aC (aE (aE (aA (dK Z Z (wq (cK underlying46 Z) Z (aQ Z Z (aB (aC (aP (dG (σ:=Nat × Row) [1,4,8,9] (fun (k,q)=>[(5,.slice q.A q.n q.c),(10,.int .i64 (k:Int))]) (fun (k,q) w'=>(k≤n∧aZ 43 10 q.A q.n q.c (((xs.take k).map (fun b=>uI b (G b).1 (G b).2)).map aF) q.e)∧Mem w (bY [(some bf,bc [.bool false] 4),(some bl,bc [.slice C n cm] 201)]) [(some bf,bc [.bool ((xs.take k).any (fun b=>aIy b (G b).1 (G b).2))] 4),(some bl,bc [.slice C n cm] 201),q.e] w') (fun (k,q)=>n - k) (0,fH) (bE Z (bE Z dZ)) (⟨⟨by omega,aZ.nil _ _ _⟩,M1⟩) ?_)))))))))))
 rintro ⟨k,q⟩ ρ2 w2 ⟨⟨hk,hq⟩,hM2⟩
 have htl:=List.length_take_le k xs
 have hqn:(xs.take k).length=q.n:=by simpa using hq.1
 refine aE (aA (cX Z Z Z Z (aB (aC (aE ?_)))))
 refine aU Z (fun h11 => ?_) (fun h11 => ?_)
 ·obtain ⟨xb,hxb⟩:=cF (xs:=xs) (k:=k) hlen (by omega)
  refine aM (aC (aE (aP (aE (aA (aQ Z Z (wq (bJ (k) dP Z Z Z ((R.memY hM2 hdA).below_len (aG aF hxb)) ((R.memY hM2 hdA).someK (aG aF hxb))) Z (wq (dW _ bQ (R.memY hM2 hdA) (aG aF hxb) Z) Z (aR fV hM2 Z Z (fun b3 w3 M3=>(bK Z Z (bG 3 _ bQ M3 Z Z Z Z Z (aS Z) Z (fun w4 M4=>(aB (aC (aA (dK Z Z (wq (aH (.func _ _ _) Z) Z (aQ Z Z (wq (aX 3 bQ M4 Z Z Z) Z (eP bPj Z Z (aZe _ k xb (hb xb (List.mem_of_getElem? hxb)) bf bl _ C n cm (xs.map G) (RS.memY M4 hdS) (G xb) (aG G hxb) (hG xb (List.mem_of_getElem? hxb)) (M4.ownSeg 0 2) (M4.away 0 2 RS hdS)) ?_)))))))))))))))))))))
  rintro v5 w5 ⟨rfl,hM5⟩
  have M5:Mem _ _ [_,_,_,_] _:=M4.seg 0 2 hM5
  refine cC [.agg (List.toArray _)] [aF (uI xb (G xb).1 (G xb).2)] rfl dP M5 rfl rfl rfl rfl (cU rfl) (by decide) (fun b6 w6 M6=>(cW 2 [aF (uI xb (G xb).1 (G xb).2)] dP M6 rfl rfl rfl rfl rfl hq rfl (by simp [aF,Go.Bil.one]) (dL.ofMem 4 M6 rfl) (by omega) (fun A7 c7 e7 w7 M7 hR7=>(eH rfl rfl (aB (cR (aC (aA (wq (bC rfl rfl (by omega) (by omega)) rfl (aQ rfl rfl (aB ?_)))))))))))
  refine bX (k+1,⟨A7,q.n+1,c7,e7⟩) (bE Z (bE Z dZ)) (bZ Z (bZ Z (bZ Z (bZ Z gK)))) ?_ ?_
  ·exact ⟨⟨by omega,by rw [cH hxb,List.map_append,List.map_append];exact hR7⟩,by rw [cH hxb,List.any_append,List.any_cons,List.any_nil,Bool.or_false];exact M7.keep [true,true,true,false,false]⟩
  ·(show n - (k+1) < n - k;omega)
 ·have hkn:k=n:=by omega
  rw [List.take_of_length_le (by omega)] at hq
  rw [List.take_of_length_le (by omega)] at hM2
  refine cN (dC (dE (eJ (aC (aE (aA (dK Z Z (eH Z Z (aB (aC (aO (cI (.slice _ _ _) Z ?_))))))))))))
  exact ⟨q,Z,hq,hM2⟩
theorem bEr (w:World) (A:Option Addr) (n c:Nat) (xs:List Body) (R:Rd w 10 A n (xs.map aF)) (hb:∀ b∈xs,Okb b) (hn:n≤1048576) (G:Body→Int × Int) (hG:∀ b∈xs,(-1152921504606846976≤(G b).1∧(G b).1≤1152921504606846976) ∧ -1152921504606846976≤(G b).2∧(G b).2≤1152921504606846976) (C:Option Addr) (cm:Nat) (RS:Rd w 2 C n ((xs.map G).map cP)) :
  Calls prog 132 #[.slice A n c,.slice C n cm] w (gH (fun v w'=>∃ r:Row,v=.tuple #[.slice r.A r.n r.c,.bool (xs.any (fun b=>aIy b (G b).1 (G b).2))]∧aZ 43 10 r.A r.n r.c ((xs.map (fun b=>uI b (G b).1 (G b).2)).map aF) r.e∧Mem w [] [r.e] w')):=by
 refine aI #[.tmp 4,.tmp 5] 13 func132 Z results132 ntmps132 Z ?_
 have M0:=Mem.refl w
 refine aE (aA (bN (.slice _ _ _) M0 Z Z Z (fun b1 w1 M1=>(eH Z Z (wq (aJ (.bool false) Z) Z (aB (aC (aE (aA (aR aXs M1 Z Z (fun b2 w2 M2=>(dA 1 (.bool false) sV M2 Z Z Z Z Z Z (fun w3 M3=>(aB (aC (aE (aA ?_)))))))))))))))))
 have M4:Mem _ _ [_,_] _:=Mem.swap2 M3
 refine dK rfl rfl (wq (dU [] [.pointer _,.pointer _] rfl rfl) rfl (eP bCe rfl rfl (aTb _ A n c xs (R.mem M4) hb hn b2 b1 G hG C cm (RS.mem M4) (M4.ownSeg 0 2) (M4.away 0 2 R (by simp)) (M4.away 0 2 RS (by simp))) ?_))
 rintro v5 w5 ⟨r,rfl,hr,hM5⟩
 have M5:Mem _ _ [_,_,_] _:=M4.seg 0 2 hM5
 refine eH Z Z (aB (aC (aE (fW [(0,0),(1,1),(2,0),(3,0)] mixed M5 Z (by kernel_rfl) (fun w6 M6=>(kA Z Z Z (bP Z Z Z (aK 0 (.bool _) sV M6 Z Z Z) (aV Z Z Z (fun _=>aJ (.slice _ _ _) Z) (aV Z Z Z (fun _=>aJ (.bool _) Z) (bS (aC (aO (fX (.slice _ _ _) (.bool _) Z Z ?_)))))))))))))
 exact ⟨r,Z,hr,M6.keep [false,false,true]⟩
theorem aUn (w:World) (bs:Nat) (vr lr:Row) (tt mm:Int) (cl:Bool) (A:Option Addr) (n c:Nat) (q:Row) (c2:Bool) (hO:Own [(some bs,bc [.slice A n c,.slice vr.A vr.n vr.c,.slice lr.A lr.n lr.c,.int .i64 tt,.int .i64 mm,.bool cl] 167)] w) :
  Calls prog 129 #[.pointer (some ⟨bs,0,none⟩),.slice q.A q.n q.c,.bool c2] w (gH (fun v w'=>v=.tuple #[]∧Mem w (bY [(some bs,bc [.slice A n c,.slice vr.A vr.n vr.c,.slice lr.A lr.n lr.c,.int .i64 tt,.int .i64 mm,.bool cl] 167)]) [(some bs,bc [.slice A n c,.slice q.A q.n q.c,.slice lr.A lr.n lr.c,.int .i64 tt,.int .i64 mm,.bool (cl || c2)] 167)] w')):=by
 refine aI #[] 22 func129 Z results129 ntmps129 Z ?_
 have M0:=hO.mem
 refine aE (aA (wq (aH (.pointer _) Z) Z (dK Z Z (wq (bL Z) Z (wq (aD 1 yR Z) Z (dA 0 (.slice _ _ _) gM M0 Z Z Z Z Z Z (fun w1 M1=>(aB (aC (aA (wq (aH (.pointer _) Z) Z (wq (aH (.pointer _) Z) Z (wq (bL Z) Z (wq (aD 3 rS Z) Z (wq (aD 2 yQ Z) Z (wq (aK 0 (.bool _) sV M1 Z Z Z) Z (wq (aH (.bool _) Z) Z ?_)))))))))))))))))
 refine kM 16 _ Z (fun g16 => ?_) (fun g16 => ?_)
 ·refine aN Z Z (wq (bR true (.bool true) Z Z) Z (wq (bL Z) Z (wq (aD 3 rS Z) Z (wq (aD 2 yQ Z) Z (dA 0 (.bool true) sV M1 Z Z Z Z Z Z (fun w2 M2=>(aB (kI ?_))))))))
  first | exact ⟨rfl,by rw [(by simp only [g16,Bool.true_or]:(cl || c2)=true)];exact M2⟩ | exact ⟨rfl,by rw [(by simp only [g16,Bool.false_or]:(cl || c2)=c2)];exact M2⟩
 ·refine wq (aH (.bool _) Z) Z (wq (bR false (.bool _) Z Z) Z (wq (bL Z) Z (wq (aD 3 rS Z) Z (wq (aD 2 yQ Z) Z (dA 0 (.bool _) sV M1 Z Z Z Z Z Z (fun w3 M3=>(aB (kI ?_))))))))
  first | exact ⟨rfl,by rw [(by simp only [g16,Bool.true_or]:(cl || c2)=true)];exact M3⟩ | exact ⟨rfl,by rw [(by simp only [g16,Bool.false_or]:(cl || c2)=c2)];exact M3⟩
theorem bLi (w:World) (F:Rd w 2 (some ⟨0,0,none⟩) 1 [[.int .u32 73856093,.int .u32 19349663]]) (N:Rd w 4 (some ⟨3,0,none⟩) 1 [eC iU]) (bs:Nat) (vr lr:Row) (tt mm:Int) (cl:Bool) (A:Option Addr) (n c:Nat) (xs:List Body) (R:Rd w 10 A n (xs.map aF)) (hb:∀ b∈xs,Okb b) (hs:cZ xs) (hn:n≤4096) (hO:Own [(some bs,bc [.slice A n c,.slice vr.A vr.n vr.c,.slice lr.A lr.n lr.c,.int .i64 tt,.int .i64 mm,.bool cl] 167)] w) (hdA:0 < n→∀ q off,A=some ⟨q,off,none⟩→q∉bY [(some bs,bc [.slice A n c,.slice vr.A vr.n vr.c,.slice lr.A lr.n lr.c,.int .i64 tt,.int .i64 mm,.bool cl] 167)]) (hdF:0 < 1→∀ q off,(some ⟨0,0,none⟩:Option Addr)=some ⟨q,off,none⟩→q∉bY [(some bs,bc [.slice A n c,.slice vr.A vr.n vr.c,.slice lr.A lr.n lr.c,.int .i64 tt,.int .i64 mm,.bool cl] 167)]) (hdN:0 < 1→∀ q off,(some ⟨3,0,none⟩:Option Addr)=some ⟨q,off,none⟩→q∉bY [(some bs,bc [.slice A n c,.slice vr.A vr.n vr.c,.slice lr.A lr.n lr.c,.int .i64 tt,.int .i64 mm,.bool cl] 167)]) :
  Calls prog 99 #[.pointer (some ⟨bs,0,none⟩)] w (gH (fun v w'=>v=.tuple #[]∧∃ (r:Row) (m:Nat),(pF xs).length≤m∧2*m≤xs.length*(xs.length - 1)∧aZ 175 5 r.A r.n r.c ((lT xs).map cL) r.e∧Mem w (bY [(some bs,bc [.slice A n c,.slice vr.A vr.n vr.c,.slice lr.A lr.n lr.c,.int .i64 tt,.int .i64 mm,.bool cl] 167)]) [(some bs,bc [.slice A n c,.slice vr.A vr.n vr.c,.slice r.A r.n r.c,.int .i64 (m:Int),.int .i64 (r.n:Int),.bool cl] 167),r.e] w')):=by
 refine aI #[] 26 func99 Z results99 ntmps99 Z ?_
 have M0:=hO.mem
 refine aE (aA (wq (aH (.pointer _) Z) Z (wq (aH (.pointer _) Z) Z (wq (aH (.pointer _) Z) Z (wq (bL Z) Z (wq (aD 0 aFh Z) Z (wq (aK 0 (.slice _ _ _) gM M0 Z Z Z) Z (eP bOv Z Z (aMb _ (F.memY M0 hdF) (N.memY M0 hdN) A n c xs (R.memY M0 hdA) hb hs hn) ?_))))))))
 rintro v1 w1 ⟨r,m,rfl,hm1,hm2,hr,hM1⟩
 have M1:Mem _ _ [_,_] _:=M0.call0 hM1
 refine wq (aH (.tuple (List.toArray _)) Z) Z (wq (bM (.slice _ _ _) Z Z) Z (wq (bM (.int _ _) Z Z) Z (wq (bL Z) Z (wq (aD 2 yS Z) Z (dA 0 (.slice _ _ _) qG M1 Z Z Z Z Z Z (fun w2 M2=>(wq (bL Z) Z (wq (aD 3 rS Z) Z (wq (aD 0 bEi Z) Z (dA 0 (.int _ _) fT M2 Z Z Z Z Z Z (fun w3 M3=>(aB (aC (aA (wq (aH (.pointer _) Z) Z (wq (aH (.pointer _) Z) Z (wq (bL Z) Z (wq (aD 2 yS Z) Z (wq (aK 0 (.slice _ _ _) qG M3 Z Z Z) Z ?_)))))))))))))))))))
 refine wq (cK underlying148 Z) Z (wq (bL Z) Z (wq (aD 3 rS Z) Z (wq (aD 1 aPi Z) Z (dA 0 (.int _ _) fT M3 Z Z Z Z Z Z (fun w4 M4=>(aB (kI ?_)))))))
 exact ⟨Z,r,m,hm1,hm2,hr,M4⟩
theorem bLh (w:World) (bs:Nat) (vr lr:Row) (tt mm:Int) (cl:Bool) (A:Option Addr) (n c:Nat) (xs:List Body) (R:Rd w 10 A n (xs.map aF)) (hb:∀ b∈xs,Okb b) (hn:n≤1048576) (hO:Own [(some bs,bc [.slice A n c,.slice vr.A vr.n vr.c,.slice lr.A lr.n lr.c,.int .i64 tt,.int .i64 mm,.bool cl] 167)] w) (hdA:0 < n→∀ q off,A=some ⟨q,off,none⟩→q∉bY [(some bs,bc [.slice A n c,.slice vr.A vr.n vr.c,.slice lr.A lr.n lr.c,.int .i64 tt,.int .i64 mm,.bool cl] 167)]) :
  Calls prog 100 #[.pointer (some ⟨bs,0,none⟩)] w (gH (fun v w'=>v=.tuple #[]∧∃ r:Row,aZ 43 10 r.A r.n r.c ((qS xs).map aF) r.e∧Mem w (bY [(some bs,bc [.slice A n c,.slice vr.A vr.n vr.c,.slice lr.A lr.n lr.c,.int .i64 tt,.int .i64 mm,.bool cl] 167)]) [(some bs,bc [.slice A n c,.slice r.A r.n r.c,.slice lr.A lr.n lr.c,.int .i64 tt,.int .i64 mm,.bool (cl || xs.any mM)] 167),r.e] w')):=by
 refine aI #[] 11 func100 Z results100 ntmps100 Z ?_
 have M0:=hO.mem
 refine aA (wq (aH (.pointer _) Z) Z (wq (aH (.pointer _) Z) Z (wq (bL Z) Z (wq (aD 0 aFh Z) Z (wq (aK 0 (.slice _ _ _) gM M0 Z Z Z) Z (eP bOw Z Z (aPr _ A n c xs (R.memY M0 hdA) hb hn) ?_))))))
 rintro v1 w1 ⟨r,rfl,hr,hM1⟩
 have M1:Mem _ _ [_,_] _:=M0.call0 hM1
 refine wq (bM (.slice _ _ _) Z Z) Z (wq (bM (.bool _) Z Z) Z (eP aRx Z Z (aUn _ bs vr lr tt mm cl A n c r _ (M1.ownSeg 0 1)) ?_))
 rintro v2 w2 ⟨rfl,hM2⟩
 have M2:Mem _ _ [_,_] _:=M1.seg 0 1 hM2
 refine aB (kI ?_)
 exact ⟨Z,r,hr,M2⟩
theorem bHg (w:World) (bs:Nat) (vr lr:Row) (tt mm:Int) (cl:Bool) (A:Option Addr) (n c:Nat) (ys:List Body) (cs:List Con) (RV:Rd w 10 vr.A vr.n (ys.map aF)) (RL:Rd w 5 lr.A lr.n (cs.map cL)) (hs:cZ ys) (hb:∀ b∈ys,Okb b) (hn:vr.n≤1048576) (hcs:∀ c∈cs,OkC ys c) (hmc:lr.n≤8589934592) (hO:Own [(some bs,bc [.slice A n c,.slice vr.A vr.n vr.c,.slice lr.A lr.n lr.c,.int .i64 tt,.int .i64 mm,.bool cl] 167)] w) (hdV:0 < vr.n→∀ q off,vr.A=some ⟨q,off,none⟩→q∉bY [(some bs,bc [.slice A n c,.slice vr.A vr.n vr.c,.slice lr.A lr.n lr.c,.int .i64 tt,.int .i64 mm,.bool cl] 167)]) (hdL:0 < lr.n→∀ q off,lr.A=some ⟨q,off,none⟩→q∉bY [(some bs,bc [.slice A n c,.slice vr.A vr.n vr.c,.slice lr.A lr.n lr.c,.int .i64 tt,.int .i64 mm,.bool cl] 167)]) :
  Calls prog 101 #[.pointer (some ⟨bs,0,none⟩)] w (gH (fun v w'=>v=.tuple #[]∧∃ r:Row,aZ 43 10 r.A r.n r.c (((iF ys cs 4).1).map aF) r.e∧Mem w (bY [(some bs,bc [.slice A n c,.slice vr.A vr.n vr.c,.slice lr.A lr.n lr.c,.int .i64 tt,.int .i64 mm,.bool cl] 167)]) [(some bs,bc [.slice A n c,.slice r.A r.n r.c,.slice lr.A lr.n lr.c,.int .i64 tt,.int .i64 mm,.bool (cl || (iF ys cs 4).2)] 167),r.e] w')):=by
 refine aI #[] 15 func101 Z results101 ntmps101 Z ?_
 have M0:=hO.mem
 refine fW [(0,0),(1,0),(2,0),(3,0),(4,1),(5,0),(6,0),(7,0),(8,1),(9,2),(10,0),(11,0),(12,2)] mixed M0 Z (by kernel_rfl) (fun w1 M1=>(aV Z Z Z (fun _=>aH (.pointer _) Z) (aV Z Z Z (fun _=>aH (.pointer _) Z) (aV Z Z Z (fun _=>bL Z) (aV Z Z Z (fun _=>aD 1 yR Z) (bP Z Z Z (aK 0 (.slice _ _ _) gM M1 Z Z Z) (aV Z Z Z (fun _=>aH (.pointer _) Z) (aV Z Z Z (fun _=>bL Z) (aV Z Z Z (fun _=>aD 2 yS Z) (bP Z Z Z (aK 0 (.slice _ _ _) qG M1 Z Z Z) ?_))))))))))
 refine dI [true,true] Z (by kernel_rfl) (eP bOx Z Z (aZg _ vr.A vr.n vr.c ys (RV.memY M1 hdV) hs hb hn lr.A lr.n lr.c cs (RL.memY M1 hdL) hcs hmc) ?_)
 rintro v2 w2 ⟨r,rfl,hr,hM2⟩
 have M2:Mem _ _ [_,_] _:=M1.call0 hM2
 refine aB (aC ⟨dJ, ?_⟩)
 refine aV Z Z Z (fun _=>bM (.slice _ _ _) Z Z) (aV Z Z Z (fun _=>bM (.bool _) Z Z) (dI [] Z (by kernel_rfl) (eP aRx Z Z (aUn _ bs vr lr tt mm cl A n c r _ (M2.ownSeg 0 1)) ?_)))
 rintro v3 w3 ⟨rfl,hM3⟩
 have M3:Mem _ _ [_,_] _:=M2.seg 0 1 hM3
 refine aB (aC ⟨dJ, ?_⟩)
 refine bS (kI ?_)
 exact ⟨Z,r,hr,M3⟩
theorem bLj (w:World) (bs:Nat) (vr lr:Row) (tt mm:Int) (cl:Bool) (A:Option Addr) (n c:Nat) (xs:List Body) (R:Rd w 10 A n (xs.map aF)) (ys:List Body) (cs:List Con) (RV:Rd w 10 vr.A vr.n (ys.map aF)) (RL:Rd w 5 lr.A lr.n (cs.map cL)) (hs:cZ xs) (hb:∀ b∈xs,Okb b) (hb2:∀ b∈ys,Okb b) (hn:n≤1048576) (hvn:vr.n=n) (hcs:∀ c∈cs,OkC xs c) (hmc:lr.n≤1073741824) (hsh:xs.map (kL xs cs)=ys.map (kL xs cs)) (hG:∀ b∈ys,(-1152921504606846976≤(kL xs cs b).1∧(kL xs cs b).1≤1152921504606846976) ∧ -1152921504606846976≤(kL xs cs b).2∧(kL xs cs b).2≤1152921504606846976) (hO:Own [(some bs,bc [.slice A n c,.slice vr.A vr.n vr.c,.slice lr.A lr.n lr.c,.int .i64 tt,.int .i64 mm,.bool cl] 167)] w) (hdA:0 < n→∀ q off,A=some ⟨q,off,none⟩→q∉bY [(some bs,bc [.slice A n c,.slice vr.A vr.n vr.c,.slice lr.A lr.n lr.c,.int .i64 tt,.int .i64 mm,.bool cl] 167)]) (hdV:0 < vr.n→∀ q off,vr.A=some ⟨q,off,none⟩→q∉bY [(some bs,bc [.slice A n c,.slice vr.A vr.n vr.c,.slice lr.A lr.n lr.c,.int .i64 tt,.int .i64 mm,.bool cl] 167)]) (hdL:0 < lr.n→∀ q off,lr.A=some ⟨q,off,none⟩→q∉bY [(some bs,bc [.slice A n c,.slice vr.A vr.n vr.c,.slice lr.A lr.n lr.c,.int .i64 tt,.int .i64 mm,.bool cl] 167)]) :
  Calls prog 102 #[.pointer (some ⟨bs,0,none⟩)] w (gH (fun v w'=>v=.tuple #[]∧∃ r:Row,aZ 43 10 r.A r.n r.c ((aWs xs cs ys).map aF) r.e∧Mem w (bY [(some bs,bc [.slice A n c,.slice vr.A vr.n vr.c,.slice lr.A lr.n lr.c,.int .i64 tt,.int .i64 mm,.bool cl] 167)]) [(some bs,bc [.slice A n c,.slice r.A r.n r.c,.slice lr.A lr.n lr.c,.int .i64 tt,.int .i64 mm,.bool (cl || aWr xs cs ys)] 167),r.e] w')):=by
 have hlen:xs.length=n:=by simpa using R.len
 refine aI #[] 20 func102 Z results102 ntmps102 Z ?_
 have M0:=hO.mem
 refine fW [(0,0),(1,0),(2,0),(3,0),(4,1),(5,0),(6,0),(7,0),(8,1),(9,0),(10,0),(11,0),(12,1),(13,2),(14,2),(15,0),(16,0),(17,2)] mixed M0 Z (by kernel_rfl) (fun w1 M1=>(aV Z Z Z (fun _=>aH (.pointer _) Z) (aV Z Z Z (fun _=>aH (.pointer _) Z) (aV Z Z Z (fun _=>bL Z) (aV Z Z Z (fun _=>aD 1 yR Z) (bP Z Z Z (aK 0 (.slice _ _ _) gM M1 Z Z Z) (aV Z Z Z (fun _=>aH (.pointer _) Z) (aV Z Z Z (fun _=>bL Z) (aV Z Z Z (fun _=>aD 0 aFh Z) ?_)))))))))
 refine bP Z Z Z (aK 0 (.slice _ _ _) gM M1 Z Z Z) (aV Z Z Z (fun _=>aH (.pointer _) Z) (aV Z Z Z (fun _=>bL Z) (aV Z Z Z (fun _=>aD 2 yS Z) (bP Z Z Z (aK 0 (.slice _ _ _) qG M1 Z Z Z) (dI [true,true,false] Z (by kernel_rfl) (eP bOz Z Z (aSn _ A n c xs (R.memY M1 hdA) hs hb hn lr.A lr.n lr.c cs (RL.memY M1 hdL) hcs hmc) ?_))))))
 rintro v2 w2 ⟨⟨qA,qn,qc,qe⟩,rfl,hq,hM2⟩
 have hqn:xs.length=qn:=by simpa using hq.1
 obtain rfl:qn=vr.n:=by omega
 rw [hsh] at hq
 have M2:Mem _ _ [_,_] _:=M1.call0 hM2
 refine aB (aC ⟨(dS (bI Z (aK 0 (.slice _ _ _) gM M2 Z Z Z)) dJ), ?_⟩)
 refine dI [true] Z (by kernel_rfl) (eP bOy Z Z (bEr _ vr.A vr.n vr.c ys (RV.memY M2 hdV) hb2 (by omega) (kL xs cs) hG qA qc (hq.rd M2 (bA (i:=1) Z))) ?_)
 rintro v3 w3 ⟨r,rfl,hr,hM3⟩
 have M3:Mem _ _ [_,_,_] _:=M2.call0 hM3
 refine aB (aC ⟨dJ, ?_⟩)
 refine aV Z Z Z (fun _=>bM (.slice _ _ _) Z Z) (aV Z Z Z (fun _=>bM (.bool _) Z Z) (dI [] Z (by kernel_rfl) (eP aRx Z Z (aUn _ bs vr lr tt mm cl A n c r _ (M3.ownSeg 0 1)) ?_)))
 rintro v4 w4 ⟨rfl,hM4⟩
 have M4:Mem _ _ [_,_,_] _:=M3.seg 0 1 hM4
 refine aB (aC ⟨dJ, ?_⟩)
 refine bS (kI ?_)
 exact ⟨Z,r,hr,M4.keep [true,false,true]⟩
theorem bAm {xs:List Body} {cs:List Con} {b b':Body} (h:SameB b b'):kL xs cs b=kL xs cs b':=by
 unfold kL wS wR
 rw [h.key,h.mass]
theorem aHe {xs ys zs:List Body} {cs:List Con} (h:Like ys zs):ys.map (kL xs cs)=zs.map (kL xs cs):=by
 apply List.ext_getElem?
 intro i
 rw [List.getElem?_map,List.getElem?_map]
 by_cases hi:i < ys.length
 ·have h1:ys[i]? = some ys[i]:=List.getElem?_eq_getElem hi
  have h2:zs[i]? = some (zs[i]'(by rw [h.len];exact hi)):=List.getElem?_eq_getElem _
  rw [h1,h2]
  exact congrArg some (bAm (h.at_ i _ _ h1 h2)).symm
 ·have hl:=h.len
  rw [List.getElem?_eq_none (show ys.length≤i by omega),List.getElem?_eq_none (show zs.length≤i by omega)]
theorem aXe {xs:List Body} {cs:List Con} (hs:cZ xs) (hb:∀ b∈xs,Okb b) (hcs:∀ c∈cs,OkC xs c) (hl:cs.length≤1073741824) {zs:List Body} (h:Like xs zs):∀ b∈zs,(-1152921504606846976≤(kL xs cs b).1∧(kL xs cs b).1≤1152921504606846976) ∧ -1152921504606846976≤(kL xs cs b).2∧(kL xs cs b).2≤1152921504606846976:=fun b hbm=>by
 have hm:kL xs cs b∈zs.map (kL xs cs):=List.mem_map_of_mem hbm
 rw [← aHe h] at hm
 obtain ⟨x,hx,e⟩:=List.mem_map.1 hm
 rw [← e]
 have:=aEb hs hb hcs rfl hl cs.length hx
 rwa [List.take_of_length_le (Nat.le_refl _)] at this
theorem bAu (w:World) (F:Rd w 2 (some ⟨0,0,none⟩) 1 [[.int .u32 73856093,.int .u32 19349663]]) (N:Rd w 4 (some ⟨3,0,none⟩) 1 [eC iU]) (A:Option Addr) (n c:Nat) (xs:List Body) (R:Rd w 10 A n (xs.map aF)) (hb:∀ b∈xs,Okb b) (hs:cZ xs) (hn:n≤4096) :
  Calls prog 81 #[.slice A n c] w (gH (fun v w'=>∃ (r:Row) (t:Nat),v=.tuple #[.slice r.A r.n r.c,.agg [.int .i64 (t:Int),.int .i64 ((lT xs).length:Int),.bool (aAd xs)].toArray]∧(lT xs).length≤t∧2*t≤xs.length*(xs.length - 1)∧aZ 43 10 r.A r.n r.c ((rD xs).map aF) r.e∧Mem w [] [r.e] w')):=by
 have hlen:xs.length=n:=by simpa using R.len
 have hnn:xs.length*xs.length≤4096*4096:=Nat.mul_le_mul (by omega) (by omega)
 have hcl:=aEm xs
 have hsq:=aVj (xs:=xs)
 refine aI #[.tmp 2,.cell 3 123] 26 func81 Z results81 ntmps81 Z ?_
 have M0:=Mem.refl w
 refine aE (aA (eH Z Z (aR aEh M0 Z Z (fun b1 w1 M1=>(aB (aC (aE (aA (dK Z Z (wq (cB [(0,.slice _ _ _)] _ bAv Z Z) Z (bN (.agg (.mk _)) M1 Z Z Z (fun b2 w2 M2=>(wq (aJ (.pointer _) Z) Z (aB (aC (aE (aE (aA (wq (uL [.func _ _ _,.func _ _ _,.func _ _ _,.func _ _ _] aEn bLx Z Z (cU Z)) Z (aQ Z Z (aB (aC (aP (jH 5 (fO (aE (aA (cX Z Z Z Z (kR 12 Z (by first | decide | omega) ?_)))))))))))))))))))))))))))))
 refine aB (aC (aE (cE rfl (aM (aC (aE (aP (aE (aA (wq (aBn 0 (.func _ _ _) aEn aMx rfl rfl (by decide) (by decide) rfl rfl) rfl (wq (aJ (.func _ _ _) rfl) rfl (aB (aC (aA (wq (aH (.func _ _ _) rfl) rfl (wq (aH (.pointer _) rfl) rfl (eP bVh rfl rfl (bLi _ (F.mem M2) (N.mem M2) b2 fH fH 0 0 false A n c xs (R.mem M2) hb hs hn (M2.ownSeg 1 1) (M2.away 1 1 R (by simp)) (M2.away 1 1 F (by simp)) (M2.away 1 1 N (by simp))) ?_)))))))))))))))))
 rintro v3 w3 ⟨rfl,r,tm,ht1,ht2,hr,hM3⟩
 have M3:Mem _ _ [_,_,_] _:=M2.seg 1 1 hM3
 have hrn:(lT xs).length=r.n:=by simpa using hr.1
 refine aB (cR (aC (aA (wq (bC Z Z (by first | decide | omega) (by first | decide | omega)) Z (aL 17 (.int .i64 1) (iE (by first | decide | omega)) (aQ Z Z (aB (aC (fO (aE (aA (cX Z Z Z Z (kR 12 Z (by first | decide | omega) (aB (aC (aE (cE Z (aM (aC (aE (aP (aE (aA (wq (aBn 1 (.func _ _ _) aEn aMx Z Z (by decide) (by decide) Z Z) Z (wq (aJ (.func _ _ _) Z) Z ?_)))))))))))))))))))))))))
 refine aB (aC (aA (wq (aH (.func _ _ _) rfl) rfl (wq (aH (.pointer _) rfl) rfl (eP bOk rfl rfl (bLh _ b2 fH r (tm:Int) (r.n:Int) false A n c xs (R.mem M3) hb (by omega) (M3.ownSeg 1 1) (M3.away 1 1 R (by simp))) ?_)))))
 rintro v4 w4 ⟨rfl,g,hg,hM4⟩
 have M4:Mem _ _ [_,_,_,_] _:=M3.seg 1 1 hM4
 have hgn:(qS xs).length=g.n:=by simpa using hg.1
 have hgl:=(lG xs).len
 refine aB (cR (aC (aA (wq (bC Z Z (by first | decide | omega) (by first | decide | omega)) Z (aL 17 (.int .i64 2) (iE (by first | decide | omega)) (aQ Z Z (aB (aC (fO (aE (aA (cX Z Z Z Z (kR 12 Z (by first | decide | omega) (aB (aC (aE (cE Z (aM (aC (aE (aP (aE (aA (wq (aBn 2 (.func _ _ _) aEn aMx Z Z (by decide) (by decide) Z Z) Z (wq (aJ (.func _ _ _) Z) Z ?_)))))))))))))))))))))))))
 refine aB (aC (aA (wq (aH (.func _ _ _) Z) Z (wq (aH (.pointer _) Z) Z (eP bOl Z Z (bHg _ b2 g r (tm:Int) (r.n:Int) _ A n c (qS xs) (lT xs) (hg.rd M4 (bA (i:=3) Z)) (hr.rd M4 (bA (i:=2) Z)) ((lG xs).sorted hs) (zD hb) (by omega) (fun c h=>(lG xs).okc (rO hs hb c h)) (by omega) (M4.ownSeg 1 1) (hg.awayB M4 3 1 Z Z Z) (hr.awayB M4 2 1 Z Z Z)) ?_)))))
 rintro v5 w5 ⟨rfl,s,hsv,hM5⟩
 have M5:Mem _ _ [_,_,_,_,_] _:=M4.seg 1 1 hM5
 have hsn:(mD xs).length=s.n:=by have h:=hsv.1;rwa [List.length_map] at h
 have hlk:Like xs (mD xs):=(lG xs).trans (jP _ _ 4)
 have hsl:=hlk.len
 refine aB (cR (aC (aA (wq (bC Z Z (by first | decide | omega) (by first | decide | omega)) Z (aL 17 (.int .i64 3) (iE (by first | decide | omega)) (aQ Z Z (aB (aC (fO (aE (aA (cX Z Z Z Z (kR 12 Z (by first | decide | omega) (aB (aC (aE (cE Z (aM (aC (aE (aP (aE (aA (wq (aBn 3 (.func _ _ _) aEn aMx Z Z (by decide) (by decide) Z Z) Z (wq (aJ (.func _ _ _) Z) Z ?_)))))))))))))))))))))))))
 refine aB (aC (aA (wq (aH (.func _ _ _) rfl) rfl (wq (aH (.pointer _) rfl) rfl (eP bOm rfl rfl (bLj _ b2 s r (tm:Int) (r.n:Int) _ A n c xs (R.mem M5) (mD xs) (lT xs) (hsv.rd M5 (bA (i:=4) rfl)) (hr.rd M5 (bA (i:=2) rfl)) hs hb (sG (zD hb) 4) (by omega) (by omega) (rO hs hb) (by omega) (aHe hlk) (aXe hs hb (rO hs hb) (by omega) hlk) (M5.ownSeg 1 1) (M5.away 1 1 R (by simp)) (hsv.awayB M5 4 1 rfl rfl rfl) (hr.awayB M5 2 1 rfl rfl rfl)) ?_)))))
 rintro v6 w6 ⟨rfl,m,hm,hM6⟩
 have M6:Mem _ _ [_,_,_,_,_,_] _:=M5.seg 1 1 hM6
 refine aB (cR (aC (aA (wq (bC Z Z (by first | decide | omega) (by first | decide | omega)) Z (aL 17 (.int .i64 4) (iE (by first | decide | omega)) (aQ Z Z (aB (aC (fO (aE (aA (cX Z Z Z Z (pD 12 Z (by first | decide | omega) (aB (aC (aE (cG Z (cN (dC (dC (eJ ?_)))))))))))))))))))))
 refine aC (aE (fW [(0,0),(1,0),(2,0),(3,1),(4,0),(5,0),(6,0),(7,1),(8,0),(9,2)] mixed M6 Z (by kernel_rfl) (fun w7 M7=>(aV Z Z Z (fun _=>aH (.pointer _) Z) (aV Z Z Z (fun _=>bL Z) (aV Z Z Z (fun _=>aD 1 yR Z) (bP Z Z Z (aK 1 (.slice _ _ _) gM M7 Z Z Z) (aV Z Z Z (fun _=>aH (.pointer _) Z) (aV Z Z Z (fun _=>bL Z) (aV Z Z Z (fun _=>aD 3 rS Z) (bP Z Z Z (qZ 1 _ tN M7 Z Z Z Z) (aV Z Z Z (fun _=>aJ (.slice _ _ _) Z) ?_))))))))))))
 refine dI [true,true] Z (by kernel_rfl) (bG 0 _ tN M7 Z Z Z Z Z (aS Z) Z (fun w8 M8 => ?_))
 refine aB (aC ⟨dJ, ?_⟩)
 refine bS (aC (aO (aWd (.slice _ _ _) 0 tN M8 Z Z Z Z ?_)))
 exact ⟨m,tm,uW Z (by rw [hrn];show Value.agg _=_;rw [show aAd xs=(((false || xs.any mM) || (iF (qS xs) (lT xs) 4).2) || aWr xs (lT xs) (mD xs)) by unfold aAd;rw [Bool.false_or]];rfl),by omega,ht2,hm,M8.keep [false,false,false,false,false,true]⟩
theorem aZt {a b:Int} {p:Nat} (ha:0≤a) (hp:a.natAbs*b.natAbs=p):(if decide (b < 0)=true then (if 0 < p % 65536 then -((p / 65536:Nat):Int) - 1 else -((p / 65536:Nat):Int)) else ((p / 65536:Nat):Int))=a*b / 65536:=by
 have e:a.natAbs*b.natAbs=(a*b).natAbs:=(Int.natAbs_mul a b).symm
 rw [e] at hp
 by_cases h:b < 0
 ·have hs:a*b≤0:=Int.mul_nonpos_of_nonneg_of_nonpos ha (by omega)
  rw [if_pos (decide_eq_true h)]
  split <;> omega
 ·have hs:0≤a*b:=Int.mul_nonneg ha (by omega)
  rw [if_neg (by rw [decide_eq_true_eq];exact h)]
  omega
theorem kY (w:World) (a l:Int) (hl:0≤l∧l≤2147483648) :
  Calls prog 105 #[.int .i64 a,.int .i64 l] w (Rb w (.int .i64 (jK a l))):=by
 refine aI #[.tmp 4] 16 func105 Z results105 ntmps105 Z ?_
 have M0:=Mem.refl w
 refine aE (aA (bK Z Z (aB (aC (aE (aE (aA (aQ Z Z (aQ Z Z (cX Z Z Z Z (aB (aC ?_))))))))))))
 refine aU Z (fun h7 => ?_) (fun h7 => ?_)
 ·refine aE (aA (aQ Z Z (bK Z Z (aB (aC (aO (cO (cI (.int _ _) Z ?_))))))))
  exact ⟨iE (by unfold jK;omega),M0.below⟩
 ·refine aM (aC (aE (aE (aA (aQ Z Z (aQ Z Z (wq (rK Z (fJ _ (by omega) (by omega))) Z (cX Z Z Z Z (aB (aC ?_))))))))))
  refine aU Z (fun h12 => ?_) (fun h12 => ?_)
  ·refine aE (aA (aQ Z Z (wq (rK Z (fJ _ (by omega) (by omega))) Z (bK Z Z (aB (aC (aO (cO (cI (.int _ _) Z ?_)))))))))
   exact ⟨iE (by unfold jK;omega),M0.below⟩
  ·refine aM (aC (aE (aA (aQ Z Z (bK Z Z (aB (aC (aO (cI (.int _ _) Z ?_)))))))))
   exact ⟨iE (by unfold jK;omega),M0.below⟩
theorem uM (w:World) (a b:Int) (ha:0≤a) (ha2:a≤4611686018427387904) (hb0 : -4611686018427387904≤b) (hb1:b≤4611686018427387904) (hp : -8796093022208≤a*b∧a*b≤8796093022208) :
  Calls prog 177 #[.int .i64 a,.int .i64 b,.int .i64 16] w (Rb w (.tuple #[.int .i64 (a*b / 65536),.int .i64 0])):=by
 obtain ⟨p,hpp⟩:∃ p,a.natAbs*b.natAbs=p:=⟨_,rfl⟩
 have hpl:p≤8796093022208:=by have e:=Int.natAbs_mul a b;omega
 refine aI #[.tmp 6,.tmp 7] 52 func177 Z results177 ntmps177 Z ?_
 have M0:=Mem.refl w
 refine aE (aA (bK Z Z (bK Z Z (aB (aC (aE (aE (aA (aQ Z Z (cX Z Z Z Z (pD 16 Z (by first | decide | omega) (wq (aH (.bool false) Z) Z (aQ Z Z (cX Z Z Z Z (pD 19 Z (by first | decide | omega) (wq (bR false (.bool false) Z Z) Z (aB (aC (cG Z (aM (aC (aE (aA (bK Z Z ?_))))))))))))))))))))))))
 refine aB (aC (aE (aE (aA (bK Z Z (aB (aC (aP (dG (σ:=Nat) [0,1,2,6,7] (fun k=>[(8,.int .u64 ((2 ^ k:Nat):Int)),(9,.int .i64 (k:Int))]) (fun k w'=>k≤16∧Mem w [] [] w') (fun k=>16 - k) 0 (bE (iE Z) (bE Z dZ)) (⟨by omega,M0⟩) ?_)))))))))
 rintro k ρ1 w1 ⟨hk,hM1⟩
 refine aE (aE (aA (aQ Z Z (aQ Z Z (cX Z Z Z Z (aB (aC ?_)))))))
 refine aU Z (fun h23 => ?_) (fun h23 => ?_)
 ·have hpw:2 ^ k≤2 ^ 15:=Nat.pow_le_pow_right (by omega) (by omega)
  refine aM (aC (aE (aP (aA (aQ Z Z (wq (cA (.int _ _) Z Z Z) Z (aL 27 (.int .u64 ((2 ^ (k+1):Nat):Int)) (iE (by rw [gS,Nat.pow_succ];omega)) (bK Z Z (aB (cR (aC (aA (aQ Z Z (wq (bC Z Z (by omega) (by omega)) Z (bK Z Z (aB ?_))))))))))))))))
  refine bX (k+1) (bE (iE Z) (bE Z dZ)) (bZ Z (bZ Z (bZ Z (bZ Z (bZ Z gK))))) ?_ ?_
  ·exact ⟨by omega,hM1⟩
  ·omega
 ·have hk16:k=16:=by omega
  subst hk16
  refine cN (dC (dE (eJ (aC (aE (aA (aQ Z Z (aQ Z Z (eP bCz Z Z (xB _ a b (by omega) (by omega) (by omega) (by omega)) ?_)))))))))
  rintro v2 w2 ⟨D,rfl,hD8,hDd,hDv,hb2⟩
  have M2:=hM1.callB hb2
  obtain ⟨d0,d1,d2,d3,d4,d5,d6,d7,rfl⟩:=bNh hD8
  rw [hpp] at hDv
  refine aQ Z Z (dN bCy Z Z M2 (zU _ d0 d1 d2 d3 d4 d5 d6 d7 hDd 65536 (by omega) (by omega) (by rw [hDv];omega) (by rw [hDv];omega)) (fun w3 M3=>(wq (aH (.tuple (List.toArray _)) Z) Z (wq (bM (.int _ _) Z Z) Z (aL 34 (.int .u64 ((p / 65536:Nat):Int)) (iE (by rw [hDv])) (wq (bM (.int _ _) Z Z) Z (aL 35 (.int .u64 ((p % 65536:Nat):Int)) (iE (by rw [hDv])) (wq (bM (.bool true) Z Z) Z (bK Z Z (bK Z Z (wq (aJ (.bool true) Z) Z (aB (aC (aE (aA (aQ Z Z (aQ Z Z (wq (aH (.bool true) Z) Z ?_))))))))))))))))))
  refine aQ rfl rfl (cX rfl rfl rfl rfl (pD 42 rfl (by omega) (aQ rfl rfl (cX rfl rfl rfl rfl (wq (uK _ underlying4 rfl rfl rfl) rfl (aL 45 (.bool (decide (b < 0))) (bv rfl (by simp)) (dN bDa rfl rfl M3 (aCt _ (p / 65536) (p % 65536) (decide (b < 0)) (by omega)) (fun w4 M4=>(wq (aH (.tuple (List.toArray _)) rfl) rfl (wq (bM (.int _ _) rfl rfl) rfl (wq (bM (.bool true) rfl rfl) rfl (bK rfl rfl (wq (aJ (.bool true) rfl) rfl (aB (aC (aE (aE (aA (wq (aH (.bool true) rfl) rfl (wq (gR false rfl rfl) rfl ?_))))))))))))))))))))
  refine aB (aC (cG Z (aM (aC (aE (aA (aQ Z Z (bK Z Z (bK Z Z (aB (aC (aO (fX (.int _ _) (.int _ _) Z Z ?_)))))))))))))
  exact ⟨uW (iE (aZt ha hpp)) Z,M4.below⟩
theorem aGu (w:World) (c:Con) (a b:Body) (hc:Okn c) (ha:Okb a) (hb:Okb b) :
  Calls prog 176 #[.agg (cL c).toArray,(.agg (aF a).toArray),(.agg (aF b).toArray)] w (Rb w (.int .i64 (xJ c a b))):=by
 have hr:=yG hc ha hb
 have hv1:=ha.v
 have hv2:=hb.v
 have hx:=hc.x
 have hy:=hc.y
 refine aI #[.tmp 6] 41 func176 Z results176 ntmps176 Z ?_
 have M0:=Mem.refl w
 refine aE (aA (bN (.agg (.mk _)) M0 Z Z Z (fun b1 w1 M1=>(bN (.agg (.mk _)) M1 Z Z Z (fun b2 w2 M2=>(bN (.agg (.mk _)) M2 Z Z Z (fun b3 w3 M3=>(bK Z Z (aB (aC (aE (aA (wq (aD 8 eB Z) Z (wq (aD 0 cV Z) Z (wq (aK 2 (.int _ _) aY M3 Z Z Z) Z (wq (bH dY underlying2 Z (fJ _ (by omega) (by omega))) Z (wq (aD 8 eB Z) Z (wq (aD 0 cV Z) Z (wq (aK 1 (.int _ _) aY M3 Z Z Z) Z (wq (bH dY underlying2 Z (fJ _ (by omega) (by omega))) Z ?_))))))))))))))))))))
 refine wq (gG Z Z (by omega) (by omega)) Z (wq (aD 2 iH Z) Z (wq (aD 0 cV Z) Z (wq (aK 0 (.int _ _) aY M3 Z Z Z) Z (wq (bH dY underlying2 Z (fJ _ (by omega) (by omega))) Z (wq (fC Z Z (by omega) (by omega)) Z (bK Z Z (aB (aC (aE (aA (wq (aD 8 eB Z) Z (wq (aD 1 cS Z) Z (wq (aK 2 (.int _ _) aY M3 Z Z Z) Z (wq (bH dY underlying2 Z (fJ _ (by omega) (by omega))) Z (wq (aD 8 eB Z) Z (wq (aD 1 cS Z) Z (wq (aK 1 (.int _ _) aY M3 Z Z Z) Z ?_)))))))))))))))))
 refine wq (bH dY underlying2 Z (fJ _ (by omega) (by omega))) Z (wq (gG Z Z (by omega) (by omega)) Z (wq (aD 2 iH Z) Z (wq (aD 1 cS Z) Z (wq (aK 0 (.int _ _) aY M3 Z Z Z) Z (wq (bH dY underlying2 Z (fJ _ (by omega) (by omega))) Z (wq (fC Z Z (by omega) (by omega)) Z (bK Z Z (aB (aC (aE (aA (aQ Z Z (aQ Z Z (wq (bC Z Z (by omega) (by omega)) Z (dN lQ Z Z M3 (fF _ _ 65536 (by decide) (by omega) (by omega)) (fun w4 M4=>(bK Z Z (aB (aC (aO ?_))))))))))))))))))))
 refine cI (.int _ _) Z ?_
 exact ⟨Z,M4.below⟩
theorem uO (w:World) (c:Con) (a b:Body) (hc:Okn c) (ha:Okb a) (hb:Okb b) :
  Calls prog 161 #[.agg (cL c).toArray,(.agg (aF a).toArray),(.agg (aF b).toArray)] w (Rb w (.int .i64 (lJ c a b))):=by
 have hr:=yG hc ha hb
 have hm1:=ha.m
 have hm2:=hb.m
 have hc1:=ha.c
 have hc2:=hb.c
 refine aI #[.tmp 6] 38 func161 Z results161 ntmps161 Z ?_
 have M0:=Mem.refl w
 refine aE (aA (bN (.agg (.mk _)) M0 Z Z Z (fun b1 w1 M1=>(bN (.agg (.mk _)) M1 Z Z Z (fun b2 w2 M2=>(bN (.agg (.mk _)) M2 Z Z Z (fun b3 w3 M3=>(bK Z Z (aB (aC (aE (aA (wq (aX 0 fA M3 Z Z Z) Z (wq (aX 1 bQ M3 Z Z Z) Z (wq (aX 2 bQ M3 Z Z Z) Z (dN bPt Z Z M3 (aGu _ c a b hc ha hb) (fun w4 M4=>(bK Z Z (aB (aC (aE (aA (wq (aD 4 eM Z) Z (wq (aK 1 (.int _ _) aY M4 Z Z Z) Z (wq (bH dY underlying2 Z (fJ _ (by omega) (by omega))) Z ?_)))))))))))))))))))))))))
 refine wq (aD 4 eM Z) Z (wq (aK 2 (.int _ _) aY M4 Z Z Z) Z (wq (bH dY underlying2 Z (fJ _ (by omega) (by omega))) Z (wq (bC Z Z (by omega) (by omega)) Z (bK Z Z (aB (aC (aE (aE (aA (aQ Z Z (cX Z Z Z Z (wq (aH (.bool (decide _)) Z) Z ?_))))))))))))
 refine dQ 22 Z (fun g22 => ?_) (fun g22 => ?_)
 ·refine aN Z Z (aN Z Z (wq (bR true (.bool true) Z Z) Z (aB (aC (cE Z (aE (aA (bK Z Z (aB (aC (aO (cO (cI (.int _ _) Z ?_)))))))))))))
  exact ⟨iE (by unfold lJ;rw [if_pos (.inl (by omega))]),M4.below⟩
 ·refine aQ Z Z (cX Z Z Z Z (wq (bR false (.bool (decide _)) Z Z) Z (aB (aC ?_))))
  refine aU Z (fun h25 => ?_) (fun h25 => ?_)
  ·refine aE (aA (bK Z Z (aB (aC (aO (cO (cI (.int _ _) Z ?_)))))))
   exact ⟨iE (by unfold lJ;rw [if_pos (.inr (by omega))]),M4.below⟩
  ·have hsp:=aHl hc ha hb (by omega)
   refine aM (aC (aE (aA (aQ Z Z (wq (rK Z (fJ _ (by omega) (by omega))) Z (wq (aD 5 nZ Z) Z (wq (aK 1 (.int _ _) aY M4 Z Z Z) Z (wq (aD 5 nZ Z) Z (wq (aK 2 (.int _ _) aY M4 Z Z Z) Z (wq (pB Z Z ) Z (wq (bH dY underlying2 Z (fJ _ (by omega) (by omega))) Z (aL 33 (.int .i64 (max a.bounce b.bounce)) (iE (by first | rfl | omega)) (wq (bC Z Z (by omega) (by omega)) Z (wq (fC Z Z (by omega) (by omega)) Z (aQ Z Z (dN lQ Z Z M4 (fF _ (-xJ c a b*(65536+max a.bounce b.bounce)) (a.mass+b.mass) (by omega) (by omega) (by omega)) (fun w5 M5 => ?_)))))))))))))))))
   refine bK Z Z (aB (aC (aO (cI (.int _ _) Z ?_))))
   exact ⟨iE (by unfold lJ;rw [if_neg (fun g=>by omega)]),M5.below⟩
theorem oD (w:World) (j m x:Int) (hj:0≤j∧j≤8796093022208) (hm:0≤m∧m≤1048576) (hp:0≤j*m∧j*m≤8796093022208) (hx : -65536≤x∧x≤65536) :
  Calls prog 162 #[.int .i64 j,.int .i32 m,.int .i32 x] w (Rb w (.int .i64 (oG j m x))):=by
 have r1:=lE hp hx
 have hkk:=r1.1
 refine aI #[.tmp 6] 26 func162 Z results162 ntmps162 Z ?_
 have M0:=Mem.refl w
 refine aE (aA (bK Z Z (aB (aC (aE (aA (aQ Z Z (aQ Z Z (wq (bH dY underlying2 Z (fJ _ (by omega) (by omega))) Z (dN bCq Z Z M0 (uM _ j m (by omega) (by omega) (by omega) (by omega) (by omega)) (fun w1 M1=>(wq (aH (.tuple (List.toArray _)) Z) Z (wq (bM (.int _ _) Z Z) Z (wq (bM (.int _ _) Z Z) Z (bK Z Z (bK Z Z (aB (aC (aE (aA (aQ Z Z (aQ Z Z (wq (bH dY underlying2 Z (fJ _ (by omega) (by omega))) Z ?_)))))))))))))))))))))))
 refine dN bCq Z Z M1 (uM _ (j*m / 65536) x (by omega) (by omega) (by omega) (by omega) r1.2.1) (fun w2 M2=>(wq (aH (.tuple (List.toArray _)) Z) Z (wq (bM (.int _ _) Z Z) Z (wq (bM (.int _ _) Z Z) Z (bK Z Z (bK Z Z (aB (aC (aE (aA (aQ Z Z (bK Z Z (aB (aC (aO (cI (.int _ _) Z ?_))))))))))))))))
 exact ⟨Z,M2.below⟩
def rI (s:Bool) (c:Con):Int:=cond s c.ny c.nx
theorem aWt {s:Bool} {c:Con} (h:Okn c) : -65536≤rI s c∧rI s c≤65536:=by cases s;exact h.x;exact h.y
theorem vV {xs:List Body} {b xa xb:Body} (hs:cZ xs) (ha:xa∈xs) (hb:xb∈xs) (h:b∈xs) (hm:0≤xa.mass) (hm2:0≤xb.mass) (e:b.key=xa.key∨b.key=xb.key):b.mass≤xa.mass+xb.mass:=by
 rcases e with e | e
 ·rw [mJ hs h ha e];omega
 ·rw [mJ hs h hb e];omega
theorem aKt (w:World) (A:Option Addr) (n c:Nat) (xs:List Body) (R:Rd w 10 A n (xs.map aF)) (hs:cZ xs) (hb:∀ b∈xs,Okb b) (hn:n≤1048576) (B:Option Addr) (mc c':Nat) (cs:List Con) (R':Rd w 5 B mc (cs.map cL)) (hcs:∀ c∈cs,OkC xs c) (hmc:mc≤8589934592) (i:Nat) (b:Body) (hxi:xs[i]? = some b) (sec:Bool) :
  Calls prog 138 #[.slice A n c,.slice B mc c',.int .i64 (i:Int),.bool sec] w (Rb w (.int .i64 (iK xs cs (rI sec) b))):=by
 have hlen:xs.length=n:=by simpa using R.len
 have hbd:=R.bound
 have hclen:cs.length=mc:=by simpa using R'.len
 have hbd':=R'.bound
 have hbi:=List.mem_of_getElem? hxi
 have hil:=(List.getElem?_eq_some_iff.1 hxi).1
 refine aI #[.tmp 8] 98 func138 Z results138 ntmps138 Z ?_
 have M0:=Mem.refl w
 refine aE (aA (bK Z Z (aB (aC (aE (aA (bK Z Z (aB (aC (aE (aE (aA (bK Z Z (aB (aC (aP (dG (σ:=Nat) [0,1,2,3,8] (fun k=>[(9,.int .i64 (iK xs (cs.take k) (rI sec) b)),(10,.int .i64 (k:Int))]) (fun k w'=>k≤mc∧Mem w [] [] w') (fun k=>mc - k) 0 (bE (iE (aLc _ _ _ _).symm) (bE Z dZ)) (⟨by omega,M0⟩) ?_)))))))))))))))))
 rintro k ρ1 w1 ⟨hk,hM1⟩
 refine aE (aE (aA (aQ Z Z (dK Z Z (wq (cK underlying148 Z) Z (cX Z Z Z Z (aB (aC ?_))))))))
 refine aU Z (fun h20 => ?_) (fun h20 => ?_)
 ·obtain ⟨cn,hcn⟩:=cF (xs:=cs) (k:=k) hclen (by omega)
  have hc:=hcs cn (List.mem_of_getElem? hcn)
  have hne:=hc.ne
  have hg:=aWt (s:=sec) hc.n
  have hsr:=uV (cs:=cs.take k) (g:=rI sec) hs hb (fun c h=>hcs c (List.mem_of_mem_take h)) (fun c h=>aWt (hcs c (List.mem_of_mem_take h)).n) hbi
  have htl:=List.length_take_le k cs
  obtain ⟨pa,xa,hxa,hka,hfa⟩:=vK hc.l
  obtain ⟨pb,xb,hxb,hkb,hfb⟩:=vK hc.h
  have hba:=aAl hxa hfa
  have hbb:=aAl hxb hfb
  have hma:=List.mem_of_getElem? hxa
  have hmb:=List.mem_of_getElem? hxb
  have hoa:=hb xa hma
  have hob:=hb xb hmb
  have qa:=hoa.m
  have qb:=hob.m
  refine aM (aC (aE (aP (aE (aA (dK Z Z (aQ Z Z (wq (bJ (k) tJ Z Z Z ((R'.mem hM1).below_len (aG cL hcn)) ((R'.mem hM1).someK (aG cL hcn))) Z (wq (dW _ fA (R'.mem hM1) (aG cL hcn) Z) Z (aR nH hM1 Z Z (fun b2 w2 M2=>(bG 0 _ fA M2 Z Z Z Z Z (aS Z) Z (fun w3 M3=>(aB (aC (aE (aE (fW [(0,0),(1,0),(2,1),(3,0),(4,0),(5,1),(6,1),(7,1),(8,0),(9,0),(10,0),(11,0),(12,1),(13,0),(14,0),(15,1),(16,1),(17,1),(18,0),(19,0)] mixed M3 Z (by kernel_rfl) (fun w4 M4 => ?_)))))))))))))))))))
  refine aV Z Z Z (fun _=>aD 0 fR Z) (aV Z Z Z (fun _=>aD 0 gU Z) (bP Z Z Z (aK 0 (.int _ _) bV M4 Z Z Z) (kA Z Z Z (eD Z Z Z (bP Z Z Z (bJ (i) dP Z Z Z ((R.mem M4).below_len (aG aF hxi)) ((R.mem M4).someK (aG aF hxi))) (bP Z Z Z (aT 0 dT (R.mem M4) (iR ((R.mem M4).below_len (aG aF hxi))) Z) (bP Z Z Z (dM (o:=0) (.int _ _) bV (R.mem M4) (aG aF hxi) Z Z) (aV Z Z Z (fun _=>cA (.bool (decide _)) Z Z Z) ?_))))))))
  refine aV Z Z Z (fun _=>aH (.bool (decide _)) Z) ?_
  refine tL 36 Z (fun g36 => ?_) (fun g36 => ?_)
  ·refine aV Z Z Z (fun _=>aD 0 fR Z) (aV Z Z Z (fun _=>aD 1 kJ Z) (bP Z Z Z (aK 0 (.int _ _) bV M4 Z Z Z) (kA Z Z Z (eD Z Z Z (bP Z Z Z (bJ (i) dP Z Z Z ((R.mem M4).below_len (aG aF hxi)) ((R.mem M4).someK (aG aF hxi))) (bP Z Z Z (aT 0 dT (R.mem M4) (iR ((R.mem M4).below_len (aG aF hxi))) Z) (bP Z Z Z (dM (o:=0) (.int _ _) bV (R.mem M4) (aG aF hxi) Z Z) (aV Z Z Z (fun _=>cA (.bool (decide _)) Z Z Z) ?_))))))))
   refine aV Z Z Z (fun _=>bR true (.bool (decide _)) Z Z) (bS (aC ?_))
   refine aU Z (fun h46 => ?_) (fun h46 => ?_)
   ·refine cN (dC (eJ (aC (aA (aQ Z Z (wq (bC Z Z (by omega) (by omega)) Z (bK Z Z (aB ?_))))))))
    refine bX (k+1) (bE (iE (by rw [kN hcn];unfold ctr;rw [if_neg (by omega),if_neg (by omega)];omega)) (bE Z dZ)) (bZ Z (bZ Z (bZ Z (bZ Z (bZ Z gK))))) ?_ ?_
    ·exact ⟨by omega,M4.keep [false]⟩
    ·(show mc - (k+1) < mc - k;omega)
   ·refine aM (aC (aE (aA (dK Z Z (dK Z Z (wq (aD 0 fR Z) Z (wq (aD 0 gU Z) Z (wq (aK 0 (.int _ _) bV M4 Z Z Z) Z (dN tG Z Z M4 (iD _ cn.low _ _ _ xs (R.mem M4)) (fun w5 M5=>(wq (bJ (pa) dP Z Z hfa ((R.mem M5).below_len (aG aF hxa)) ((R.mem M5).someK (aG aF hxa))) Z (wq (dW _ bQ (R.mem M5) (aG aF hxa) Z) Z (aR fV M5 Z Z (fun b6 w6 M6=>(bG 1 _ bQ M6 Z Z Z Z Z (aS Z) Z (fun w7 M7=>(aB (aC (aE (aA (dK Z Z ?_)))))))))))))))))))))
    refine dK Z Z (wq (aD 0 fR Z) Z (wq (aD 1 kJ Z) Z (wq (aK 0 (.int _ _) bV M7 Z Z Z) Z (dN tG Z Z M7 (iD _ cn.high _ _ _ xs (R.mem M7)) (fun w8 M8=>(wq (bJ (pb) dP Z Z hfb ((R.mem M8).below_len (aG aF hxb)) ((R.mem M8).someK (aG aF hxb))) Z (wq (dW _ bQ (R.mem M8) (aG aF hxb) Z) Z (aR fV M8 Z Z (fun b9 w9 M9=>(bG 2 _ bQ M9 Z Z Z Z Z (aS Z) Z (fun w10 M10=>(aB (aC (aE (aA (wq (aX 0 fA M10 Z Z Z) Z (wq (aX 1 bQ M10 Z Z Z) Z ?_)))))))))))))))))
    refine wq (aX 2 bQ M10 Z Z Z) Z (dN bCl Z Z M10 (uO _ cn xa xb hc.n hoa hob) (fun w11 M11=>(bK Z Z (aB (aC (aE (aA (wq (aD 2 iH Z) Z (wq (aD 0 cV Z) Z (wq (aK 0 (.int _ _) aY M11 Z Z Z) Z (bK Z Z (aB (aC (aE (aE (aA (wq (aH (.bool _) Z) Z (aB (aC ?_)))))))))))))))))))
    refine iL _ Z (fun h70 => ?_) (fun h70 => ?_)
    ·refine aA (wq (aD 2 iH Z) Z (wq (aD 1 cS Z) Z (wq (aK 0 (.int _ _) aY M11 Z Z Z) Z (bK Z Z (aB (aC (aE (aA (aQ Z Z (dK Z Z (aQ Z Z (wq (bJ (i) dP Z Z Z ((R.mem M11).below_len (aG aF hxi)) ((R.mem M11).someK (aG aF hxi))) Z (wq (aT 4 eM (R.mem M11) (iR ((R.mem M11).below_len (aG aF hxi))) Z) Z (wq (dM (o:=4) (.int _ _) aY (R.mem M11) (aG aF hxi) Z Z) Z (aQ Z Z (aL 80 (.int .i32 (rI sec cn)) (iE (by rw [h70];rfl)) ?_))))))))))))))))
     refine vA aLp Z Z Z ?_
     have hbm:0≤b.mass∧b.mass≤xa.mass+xb.mass:=⟨(hb b hbi).m.1,vV hs hma hmb hbi qa.1 qb.1 (by omega)⟩
     have hst:=rE hc.n hoa hob hbm
     have hmq:=(hb b hbi).m
     have hcr:=(lE hst.2.2 hg).2.2
     have hjv:oG (lJ cn xa xb) b.mass (rI sec cn)=oG (jV xs cn) b.mass (rI sec cn):=by unfold jV;rw [hba,hbb]
     refine (oD _ (lJ cn xa xb) b.mass (rI sec cn) ⟨hst.1,hst.2.1⟩ hmq hst.2.2 hg).mono ?_
     rintro _ w12 ⟨v12,rfl,⟨rfl,hb12⟩⟩
     refine ⟨_,Z, ?_⟩
     have M12:=M11.callB hb12
     refine bK Z Z (aB (aC (aE (fW [(0,0),(1,0),(2,1),(3,0),(4,0),(5,1),(6,1),(7,1),(8,0)] mixed M12 Z (by kernel_rfl) (fun w13 M13=>(aV Z Z Z (fun _=>aD 0 fR Z) (aV Z Z Z (fun _=>aD 0 gU Z) (bP Z Z Z (aK 0 (.int _ _) bV M13 Z Z Z) (kA Z Z Z (eD Z Z Z (bP Z Z Z (bJ (i) dP Z Z Z ((R.mem M13).below_len (aG aF hxi)) ((R.mem M13).someK (aG aF hxi))) (bP Z Z Z (aT 0 dT (R.mem M13) (iR ((R.mem M13).below_len (aG aF hxi))) Z) ?_))))))))))))
     refine bP Z Z Z (dM (o:=0) (.int _ _) bV (R.mem M13) (aG aF hxi) Z Z) (aV Z Z Z (fun _=>cA (.bool (decide _)) Z Z Z) (bS (aC ?_)))
     refine aU Z (fun h90 => ?_) (fun h90 => ?_)
     ·refine aA (aQ Z Z (aQ Z Z (wq (gG Z Z (by omega) (by omega)) Z (bK Z Z (aB (cR (aC (aA (aQ Z Z (wq (bC Z Z (by omega) (by omega)) Z (bK Z Z (aB ?_))))))))))))
      refine bX (k+1) (bE (iE (by rw [kN hcn];unfold ctr;rw [if_pos (by omega),← hjv];omega)) (bE Z dZ)) (bZ Z (bZ Z (bZ Z (bZ Z (bZ Z gK))))) ?_ ?_
      ·exact ⟨by omega,M13.keep [false,false,false]⟩
      ·(show mc - (k+1) < mc - k;omega)
     ·refine aA (aQ Z Z (aQ Z Z (wq (bC Z Z (by omega) (by omega)) Z (bK Z Z (aB (cR (aC (aA (aQ Z Z (wq (bC Z Z (by omega) (by omega)) Z (bK Z Z (aB ?_))))))))))))
      refine bX (k+1) (bE (iE (by rw [kN hcn];unfold ctr;rw [if_neg (by omega),if_pos (by omega),← hjv])) (bE Z dZ)) (bZ Z (bZ Z (bZ Z (bZ Z (bZ Z gK))))) ?_ ?_
      ·exact ⟨by omega,M13.keep [false,false,false]⟩
      ·(show mc - (k+1) < mc - k;omega)
    ·refine aM (aC (aE (aA (aQ Z Z (dK Z Z (aQ Z Z (wq (bJ (i) dP Z Z Z ((R.mem M11).below_len (aG aF hxi)) ((R.mem M11).someK (aG aF hxi))) Z (wq (aT 4 eM (R.mem M11) (iR ((R.mem M11).below_len (aG aF hxi))) Z) Z (wq (dM (o:=4) (.int _ _) aY (R.mem M11) (aG aF hxi) Z Z) Z (aQ Z Z (aL 80 (.int .i32 (rI sec cn)) (iE (by rw [h70];rfl)) (vA aLp Z Z Z ?_))))))))))))
     have hbm:0≤b.mass∧b.mass≤xa.mass+xb.mass:=⟨(hb b hbi).m.1,vV hs hma hmb hbi qa.1 qb.1 (by omega)⟩
     have hst:=rE hc.n hoa hob hbm
     have hmq:=(hb b hbi).m
     have hcr:=(lE hst.2.2 hg).2.2
     have hjv:oG (lJ cn xa xb) b.mass (rI sec cn)=oG (jV xs cn) b.mass (rI sec cn):=by unfold jV;rw [hba,hbb]
     refine (oD _ (lJ cn xa xb) b.mass (rI sec cn) ⟨hst.1,hst.2.1⟩ hmq hst.2.2 hg).mono ?_
     rintro _ w14 ⟨v14,rfl,⟨rfl,hb14⟩⟩
     refine ⟨_,Z, ?_⟩
     have M14:=M11.callB hb14
     refine bK Z Z (aB (aC (aE (fW [(0,0),(1,0),(2,1),(3,0),(4,0),(5,1),(6,1),(7,1),(8,0)] mixed M14 Z (by kernel_rfl) (fun w15 M15=>(aV Z Z Z (fun _=>aD 0 fR Z) (aV Z Z Z (fun _=>aD 0 gU Z) (bP Z Z Z (aK 0 (.int _ _) bV M15 Z Z Z) (kA Z Z Z (eD Z Z Z (bP Z Z Z (bJ (i) dP Z Z Z ((R.mem M15).below_len (aG aF hxi)) ((R.mem M15).someK (aG aF hxi))) (bP Z Z Z (aT 0 dT (R.mem M15) (iR ((R.mem M15).below_len (aG aF hxi))) Z) ?_))))))))))))
     refine bP Z Z Z (dM (o:=0) (.int _ _) bV (R.mem M15) (aG aF hxi) Z Z) (aV Z Z Z (fun _=>cA (.bool (decide _)) Z Z Z) (bS (aC ?_)))
     refine aU Z (fun h90 => ?_) (fun h90 => ?_)
     ·refine aA (aQ Z Z (aQ Z Z (wq (gG Z Z (by omega) (by omega)) Z (bK Z Z (aB (cR (aC (aA (aQ Z Z (wq (bC Z Z (by omega) (by omega)) Z (bK Z Z (aB ?_))))))))))))
      refine bX (k+1) (bE (iE (by rw [kN hcn];unfold ctr;rw [if_pos (by omega),← hjv];omega)) (bE Z dZ)) (bZ Z (bZ Z (bZ Z (bZ Z (bZ Z gK))))) ?_ ?_
      ·exact ⟨by omega,M15.keep [false,false,false]⟩
      ·(show mc - (k+1) < mc - k;omega)
     ·refine aA (aQ Z Z (aQ Z Z (wq (bC Z Z (by omega) (by omega)) Z (bK Z Z (aB (cR (aC (aA (aQ Z Z (wq (bC Z Z (by omega) (by omega)) Z (bK Z Z (aB ?_))))))))))))
      refine bX (k+1) (bE (iE (by rw [kN hcn];unfold ctr;rw [if_neg (by omega),if_pos (by omega),← hjv])) (bE Z dZ)) (bZ Z (bZ Z (bZ Z (bZ Z (bZ Z gK))))) ?_ ?_
      ·exact ⟨by omega,M15.keep [false,false,false]⟩
      ·(show mc - (k+1) < mc - k;omega)
  ·refine xI Z Z Z (xI Z Z Z (pZ Z Z Z (xI Z Z Z (xI Z Z Z (pZ Z Z Z (pZ Z Z Z (pZ Z Z Z (xI Z Z Z (aV Z Z Z (fun _=>bR false (.bool false) Z Z) (bS (aC (cG Z (aM (aC (aE (aA (dK Z Z (dK Z Z ?_))))))))))))))))))
   refine wq (aD 0 fR Z) Z (wq (aD 0 gU Z) Z (wq (aK 0 (.int _ _) bV M4 Z Z Z) Z (dN tG Z Z M4 (iD _ cn.low _ _ _ xs (R.mem M4)) (fun w16 M16=>(wq (bJ (pa) dP Z Z hfa ((R.mem M16).below_len (aG aF hxa)) ((R.mem M16).someK (aG aF hxa))) Z (wq (dW _ bQ (R.mem M16) (aG aF hxa) Z) Z (aR fV M16 Z Z (fun b17 w17 M17=>(bG 1 _ bQ M17 Z Z Z Z Z (aS Z) Z (fun w18 M18=>(aB (aC (aE (aA (dK Z Z (dK Z Z (wq (aD 0 fR Z) Z ?_)))))))))))))))))
   refine wq (aD 1 kJ Z) Z (wq (aK 0 (.int _ _) bV M18 Z Z Z) Z (dN tG Z Z M18 (iD _ cn.high _ _ _ xs (R.mem M18)) (fun w19 M19=>(wq (bJ (pb) dP Z Z hfb ((R.mem M19).below_len (aG aF hxb)) ((R.mem M19).someK (aG aF hxb))) Z (wq (dW _ bQ (R.mem M19) (aG aF hxb) Z) Z (aR fV M19 Z Z (fun b20 w20 M20=>(bG 2 _ bQ M20 Z Z Z Z Z (aS Z) Z (fun w21 M21=>(aB (aC (aE (aA (wq (aX 0 fA M21 Z Z Z) Z (wq (aX 1 bQ M21 Z Z Z) Z ?_)))))))))))))))
   refine wq (aX 2 bQ M21 Z Z Z) Z (dN bCl Z Z M21 (uO _ cn xa xb hc.n hoa hob) (fun w22 M22=>(bK Z Z (aB (aC (aE (aA (wq (aD 2 iH Z) Z (wq (aD 0 cV Z) Z (wq (aK 0 (.int _ _) aY M22 Z Z Z) Z (bK Z Z (aB (aC (aE (aE (aA (wq (aH (.bool _) Z) Z (aB (aC ?_)))))))))))))))))))
   refine iL _ Z (fun h70 => ?_) (fun h70 => ?_)
   ·refine aA (wq (aD 2 iH Z) Z (wq (aD 1 cS Z) Z (wq (aK 0 (.int _ _) aY M22 Z Z Z) Z (bK Z Z (aB (aC (aE (aA (aQ Z Z (dK Z Z (aQ Z Z (wq (bJ (i) dP Z Z Z ((R.mem M22).below_len (aG aF hxi)) ((R.mem M22).someK (aG aF hxi))) Z (wq (aT 4 eM (R.mem M22) (iR ((R.mem M22).below_len (aG aF hxi))) Z) Z (wq (dM (o:=4) (.int _ _) aY (R.mem M22) (aG aF hxi) Z Z) Z (aQ Z Z (aL 80 (.int .i32 (rI sec cn)) (iE (by rw [h70];rfl)) ?_))))))))))))))))
    refine vA aLp Z Z Z ?_
    have hbm:0≤b.mass∧b.mass≤xa.mass+xb.mass:=⟨(hb b hbi).m.1,vV hs hma hmb hbi qa.1 qb.1 (by omega)⟩
    have hst:=rE hc.n hoa hob hbm
    have hmq:=(hb b hbi).m
    have hcr:=(lE hst.2.2 hg).2.2
    have hjv:oG (lJ cn xa xb) b.mass (rI sec cn)=oG (jV xs cn) b.mass (rI sec cn):=by unfold jV;rw [hba,hbb]
    refine (oD _ (lJ cn xa xb) b.mass (rI sec cn) ⟨hst.1,hst.2.1⟩ hmq hst.2.2 hg).mono ?_
    rintro _ w23 ⟨v23,rfl,⟨rfl,hb23⟩⟩
    refine ⟨_,Z, ?_⟩
    have M23:=M22.callB hb23
    refine bK Z Z (aB (aC (aE (fW [(0,0),(1,0),(2,1),(3,0),(4,0),(5,1),(6,1),(7,1),(8,0)] mixed M23 Z (by kernel_rfl) (fun w24 M24=>(aV Z Z Z (fun _=>aD 0 fR Z) (aV Z Z Z (fun _=>aD 0 gU Z) (bP Z Z Z (aK 0 (.int _ _) bV M24 Z Z Z) (kA Z Z Z (eD Z Z Z (bP Z Z Z (bJ (i) dP Z Z Z ((R.mem M24).below_len (aG aF hxi)) ((R.mem M24).someK (aG aF hxi))) (bP Z Z Z (aT 0 dT (R.mem M24) (iR ((R.mem M24).below_len (aG aF hxi))) Z) ?_))))))))))))
    refine bP Z Z Z (dM (o:=0) (.int _ _) bV (R.mem M24) (aG aF hxi) Z Z) (aV Z Z Z (fun _=>cA (.bool (decide _)) Z Z Z) (bS (aC ?_)))
    refine aU Z (fun h90 => ?_) (fun h90 => ?_)
    ·refine aA (aQ Z Z (aQ Z Z (wq (gG Z Z (by omega) (by omega)) Z (bK Z Z (aB (cR (aC (aA (aQ Z Z (wq (bC Z Z (by omega) (by omega)) Z (bK Z Z (aB ?_))))))))))))
     refine bX (k+1) (bE (iE (by rw [kN hcn];unfold ctr;rw [if_pos (by omega),← hjv];omega)) (bE Z dZ)) (bZ Z (bZ Z (bZ Z (bZ Z (bZ Z gK))))) ?_ ?_
     ·exact ⟨by omega,M24.keep [false,false,false]⟩
     ·(show mc - (k+1) < mc - k;omega)
    ·refine aA (aQ Z Z (aQ Z Z (wq (bC Z Z (by omega) (by omega)) Z (bK Z Z (aB (cR (aC (aA (aQ Z Z (wq (bC Z Z (by omega) (by omega)) Z (bK Z Z (aB ?_))))))))))))
     refine bX (k+1) (bE (iE (by rw [kN hcn];unfold ctr;rw [if_neg (by omega),if_pos (by omega),← hjv])) (bE Z dZ)) (bZ Z (bZ Z (bZ Z (bZ Z (bZ Z gK))))) ?_ ?_
     ·exact ⟨by omega,M24.keep [false,false,false]⟩
     ·(show mc - (k+1) < mc - k;omega)
   ·refine aM (aC (aE (aA (aQ Z Z (dK Z Z (aQ Z Z (wq (bJ (i) dP Z Z Z ((R.mem M22).below_len (aG aF hxi)) ((R.mem M22).someK (aG aF hxi))) Z (wq (aT 4 eM (R.mem M22) (iR ((R.mem M22).below_len (aG aF hxi))) Z) Z (wq (dM (o:=4) (.int _ _) aY (R.mem M22) (aG aF hxi) Z Z) Z (aQ Z Z (aL 80 (.int .i32 (rI sec cn)) (iE (by rw [h70];rfl)) (vA aLp Z Z Z ?_))))))))))))
    have hbm:0≤b.mass∧b.mass≤xa.mass+xb.mass:=⟨(hb b hbi).m.1,vV hs hma hmb hbi qa.1 qb.1 (by omega)⟩
    have hst:=rE hc.n hoa hob hbm
    have hmq:=(hb b hbi).m
    have hcr:=(lE hst.2.2 hg).2.2
    have hjv:oG (lJ cn xa xb) b.mass (rI sec cn)=oG (jV xs cn) b.mass (rI sec cn):=by unfold jV;rw [hba,hbb]
    refine (oD _ (lJ cn xa xb) b.mass (rI sec cn) ⟨hst.1,hst.2.1⟩ hmq hst.2.2 hg).mono ?_
    rintro _ w25 ⟨v25,rfl,⟨rfl,hb25⟩⟩
    refine ⟨_,Z, ?_⟩
    have M25:=M22.callB hb25
    refine bK Z Z (aB (aC (aE (fW [(0,0),(1,0),(2,1),(3,0),(4,0),(5,1),(6,1),(7,1),(8,0)] mixed M25 Z (by kernel_rfl) (fun w26 M26=>(aV Z Z Z (fun _=>aD 0 fR Z) (aV Z Z Z (fun _=>aD 0 gU Z) (bP Z Z Z (aK 0 (.int _ _) bV M26 Z Z Z) (kA Z Z Z (eD Z Z Z (bP Z Z Z (bJ (i) dP Z Z Z ((R.mem M26).below_len (aG aF hxi)) ((R.mem M26).someK (aG aF hxi))) (bP Z Z Z (aT 0 dT (R.mem M26) (iR ((R.mem M26).below_len (aG aF hxi))) Z) ?_))))))))))))
    refine bP Z Z Z (dM (o:=0) (.int _ _) bV (R.mem M26) (aG aF hxi) Z Z) (aV Z Z Z (fun _=>cA (.bool (decide _)) Z Z Z) (bS (aC ?_)))
    refine aU Z (fun h90 => ?_) (fun h90 => ?_)
    ·refine aA (aQ Z Z (aQ Z Z (wq (gG Z Z (by omega) (by omega)) Z (bK Z Z (aB (cR (aC (aA (aQ Z Z (wq (bC Z Z (by omega) (by omega)) Z (bK Z Z (aB ?_))))))))))))
     refine bX (k+1) (bE (iE (by rw [kN hcn];unfold ctr;rw [if_pos (by omega),← hjv];omega)) (bE Z dZ)) (bZ Z (bZ Z (bZ Z (bZ Z (bZ Z gK))))) ?_ ?_
     ·exact ⟨by omega,M26.keep [false,false,false]⟩
     ·(show mc - (k+1) < mc - k;omega)
    ·refine aA (aQ Z Z (aQ Z Z (wq (bC Z Z (by omega) (by omega)) Z (bK Z Z (aB (cR (aC (aA (aQ Z Z (wq (bC Z Z (by omega) (by omega)) Z (bK Z Z (aB ?_))))))))))))
     refine bX (k+1) (bE (iE (by rw [kN hcn];unfold ctr;rw [if_neg (by omega),if_pos (by omega),← hjv])) (bE Z dZ)) (bZ Z (bZ Z (bZ Z (bZ Z (bZ Z gK))))) ?_ ?_
     ·exact ⟨by omega,M26.keep [false,false,false]⟩
     ·(show mc - (k+1) < mc - k;omega)
 ·have hkn:k=mc:=by omega
  refine cN (dC (dE (eJ (aC (aE (aA (aQ Z Z (bK Z Z (aB (aC (aO (cI (.int _ _) Z ?_))))))))))))
  exact ⟨iE (by rw [List.take_of_length_le (by omega)]),hM1.below⟩
theorem aQq (w:World) (A:Option Addr) (n c:Nat) (xs:List Body) (R:Rd w 10 A n (xs.map aF)) (hs:cZ xs) (hb:∀ b∈xs,Okb b) (hn:n≤1048576) (B:Option Addr) (mc c':Nat) (cs:List Con) (R':Rd w 5 B mc (cs.map cL)) (hcs:∀ c∈cs,OkC xs c) (hmc:mc≤8589934592) :
  Calls prog 107 #[.slice A n c,.slice B mc c'] w (gH (fun v w'=>∃ r:Row,v=.tuple #[.slice r.A r.n r.c,.bool (aTy xs cs)]∧aZ 43 10 r.A r.n r.c ((aGx xs cs).map aF) r.e∧Mem w [] [r.e] w')):=by
 have hlen:xs.length=n:=by simpa using R.len
 have hbd:=R.bound
 have hclen:cs.length=mc:=by simpa using R'.len
 have hbd':=R'.bound
 refine aI #[.tmp 4,.tmp 5] 77 func107 Z results107 ntmps107 Z ?_
 have M0:=Mem.refl w
 refine aE (aA (eH Z Z (wq (aJ (.bool false) Z) Z (aB (aC (aE (aA (eH Z Z ?_))))))))
 have M1:=M0.dummy default
 refine aB (aC (aE (aA (wq (aJ (.bool false) Z) Z (aB (aC (aE (aE (aA (bK Z Z (aB (aC (aP (dG (σ:=Nat × Row) [0,1,4,5] (fun (k,q)=>[(6,.slice q.A q.n q.c),(7,.bool ((xs.take k).any (aTx xs cs))),(8,.int .i64 (k:Int))]) (fun (k,q) w'=>(k≤n∧aZ 43 10 q.A q.n q.c (((xs.take k).map (yA xs cs)).map aF) q.e)∧Mem w [] [q.e] w') (fun (k,q)=>n - k) (0,fH) (bE Z (bE (bv Z Z) (bE Z dZ))) (⟨⟨by omega,aZ.nil _ _ _⟩,M1⟩) ?_))))))))))))))
 rintro ⟨k,q⟩ ρ2 w2 ⟨⟨hk,hq⟩,hM2⟩
 have htl:=List.length_take_le k xs
 have hqn:(xs.take k).length=q.n:=by simpa using hq.1
 refine aE (aE (aA (aQ Z Z (dK Z Z (wq (cK underlying46 Z) Z (cX Z Z Z Z (aB (aC ?_))))))))
 refine aU Z (fun h15 => ?_) (fun h15 => ?_)
 ·obtain ⟨xb,hxb⟩:=cF (xs:=xs) (k:=k) hlen (by omega)
  have hxm:=List.mem_of_getElem? hxb
  have hsb:=aXi hs hb hcs hclen hmc hxm
  have hvb:=(hb xb hxm).v
  have hlx:=eX (xb.vx+iK xs cs (·.nx) xb) (l:=16777216) (by decide)
  have hly:=eX (xb.vy+iK xs cs (·.ny) xb) (l:=16777216) (by decide)
  refine aM (aC (aE (aP (aE (mF [(0,0),(1,0),(2,1),(3,1),(4,1),(5,1),(6,0),(7,0),(8,0),(9,0),(10,2),(11,0),(12,0)] mixed Z (by kernel_rfl) (fun w3 hb3 hh3 => ?_))))))
  have M3:=hM2.drew hb3 hh3
  refine kA Z Z Z (eD Z Z Z (bP Z Z Z (bJ (k) dP Z Z Z ((R.mem M3).below_len (aG aF hxb)) ((R.mem M3).someK (aG aF hxb))) (bP Z Z Z (aT 8 eB (R.mem M3) (iR ((R.mem M3).below_len (aG aF hxb))) Z) (bP Z Z Z (aT 0 cV (R.mem M3) (iR ((R.mem M3).below_len (aG aF hxb))) Z) (bP Z Z Z (dM (o:=8) (.int _ _) aY (R.mem M3) (aG aF hxb) Z Z) (aV Z Z Z (fun _=>bH dY underlying2 Z (fJ _ (by omega) (by omega))) (kA Z Z Z (kA Z Z Z ?_))))))))
  refine eD Z Z Z (dI [false,false,false,false] Z (by kernel_rfl) (dN bCd Z Z M3 (aKt _ A n c xs (R.mem M3) hs hb hn B mc c' cs (R'.mem M3) hcs hmc k xb hxb false) (fun w4 M4 => ?_)))
  refine aB (aC ⟨(dS (bI Z (dM (o:=8) (.int _ _) aY (R.mem M4) (aG aF hxb) Z Z)) (dS (bI Z (aT 0 cV (R.mem M4) (iR ((R.mem M4).below_len (aG aF hxb))) Z)) (dS (bI Z (aT 8 eB (R.mem M4) (iR ((R.mem M4).below_len (aG aF hxb))) Z)) (dS (bI Z (bJ (k) dP Z Z Z ((R.mem M4).below_len (aG aF hxb)) ((R.mem M4).someK (aG aF hxb)))) dJ)))), ?_⟩)
  refine dV 28 (.int .i64 (iK xs cs (·.nx) xb)) Z (aV Z Z Z (fun _=>bC Z Z (by omega) (by omega)) (mW Z Z Z (bS (aC (aE (fW [(0,0),(1,0),(2,1),(3,1),(4,1),(5,1),(6,0),(7,0),(8,0),(9,0),(10,2),(11,0),(12,0)] mixed M4 Z (by kernel_rfl) (fun w5 M5=>(kA Z Z Z (eD Z Z Z (bP Z Z Z (bJ (k) dP Z Z Z ((R.mem M5).below_len (aG aF hxb)) ((R.mem M5).someK (aG aF hxb))) (bP Z Z Z (aT 8 eB (R.mem M5) (iR ((R.mem M5).below_len (aG aF hxb))) Z) (bP Z Z Z (aT 1 cS (R.mem M5) (iR ((R.mem M5).below_len (aG aF hxb))) Z) ?_))))))))))))
  refine bP Z Z Z (dM (o:=9) (.int _ _) aY (R.mem M5) (aG aF hxb) Z Z) (aV Z Z Z (fun _=>bH dY underlying2 Z (fJ _ (by omega) (by omega))) (kA Z Z Z (kA Z Z Z (eD Z Z Z (dI [false,false,false,false] Z (by kernel_rfl) (dN bCd Z Z M5 (aKt _ A n c xs (R.mem M5) hs hb hn B mc c' cs (R'.mem M5) hcs hmc k xb hxb true) (fun w6 M6 => ?_)))))))
  refine aB (aC ⟨(dS (bI Z (dM (o:=9) (.int _ _) aY (R.mem M6) (aG aF hxb) Z Z)) (dS (bI Z (aT 1 cS (R.mem M6) (iR ((R.mem M6).below_len (aG aF hxb))) Z)) (dS (bI Z (aT 8 eB (R.mem M6) (iR ((R.mem M6).below_len (aG aF hxb))) Z)) (dS (bI Z (bJ (k) dP Z Z Z ((R.mem M6).below_len (aG aF hxb)) ((R.mem M6).someK (aG aF hxb)))) dJ)))), ?_⟩)
  refine dV 40 (.int .i64 (iK xs cs (·.ny) xb)) Z (aV Z Z Z (fun _=>bC Z Z (by omega) (by omega)) (mW Z Z Z (bS (aC (aE (aA (dK Z Z (aQ Z Z (wq (bJ (k) dP Z Z Z ((R.mem M6).below_len (aG aF hxb)) ((R.mem M6).someK (aG aF hxb))) Z (wq (dW _ bQ (R.mem M6) (aG aF hxb) Z) Z (aR fV M6 Z Z (fun b7 w7 M7=>(bG 1 _ bQ M7 Z Z Z Z Z (aS Z) Z (fun w8 M8=>(aB (aC (aE (aA (aQ Z Z (dN xM Z Z M8 (kY _ (xb.vx+iK xs cs (·.nx) xb) 16777216 ⟨by decide,by decide⟩) (fun w9 M9 => ?_)))))))))))))))))))))
  refine wq (bH mV underlying21 Z (jQ _ (by omega) (by omega))) Z (aQ Z Z (dN xM Z Z M9 (kY _ (xb.vy+iK xs cs (·.ny) xb) 16777216 ⟨by decide,by decide⟩) (fun w10 M10=>(wq (bH mV underlying21 Z (jQ _ (by omega) (by omega))) Z (wq (cB [(0,.int _ _),(1,.int _ _)] _ eZ Z Z) Z (wq (aD 8 eB Z) Z (vB 1 _ bO M10 Z Z Z Z Z (aS Z) (Nat.le_of_ble_eq_true Z) (fun w11 M11=>(aB (aC (aE (aA (wq (aH (.bool _) Z) Z (wq (aH (.bool _) Z) Z ?_))))))))))))))
  refine kM 55 _ Z (fun g55 => ?_) (fun g55 => ?_)
  ·refine aN Z Z (aN Z Z (aN Z Z (aN Z Z (aN Z Z (aN Z Z (wq (bR true (.bool true) Z Z) Z (wq (aH (.bool true) Z) Z (aN Z Z (aN Z Z (aN Z Z (aN Z Z (aN Z Z (aN Z Z (wq (bR true (.bool true) Z Z) Z (wq (aJ (.bool true) Z) Z ?_)))))))))))))))
   refine aB (aC (aA (dK rfl rfl (wq (aX 1 bQ M11 rfl rfl rfl) rfl (cC [.agg (List.toArray _)] [aF (yA xs cs xb)] rfl dP M11 rfl rfl rfl rfl (cU rfl) (by decide) (fun b12 w12 M12=>(cW 0 [aF (yA xs cs xb)] dP M12 rfl rfl rfl rfl rfl hq rfl (by simp [aF,Go.Bil.one]) (dL.ofMem 2 M12 rfl) (by omega) (fun A13 c13 e13 w13 M13 hR13=>(eH rfl rfl (aB (cR (aC (aA (aQ rfl rfl (wq (bC rfl rfl (by omega) (by omega)) rfl (bK rfl rfl (aB ?_)))))))))))))))))
   refine bX (k+1,⟨A13,q.n+1,c13,e13⟩) (bE Z (bE (bv Z (by rw [cH hxb,List.any_append,List.any_cons,List.any_nil,Bool.or_false];rw [g55,Bool.true_or])) (bE Z dZ))) (bZ Z (bZ Z (bZ Z (bZ Z gK)))) ?_ ?_
   ·exact ⟨⟨by omega,by rw [cH hxb,List.map_append,List.map_append];exact hR13⟩,M13.keep [true,false,false]⟩
   ·(show n - (k+1) < n - k;omega)
  ·refine wq (aD 8 eB Z) Z (wq (aD 0 cV Z) Z (wq (aK 1 (.int _ _) aY M11 Z Z Z) Z (wq (bH dY underlying2 Z (fJ _ (by omega) (by omega))) Z (aQ Z Z (cX Z Z Z Z (wq (bR false (.bool (decide _)) Z Z) Z (wq (aH (.bool (decide _)) Z) Z ?_)))))))
   refine dQ 63 Z (fun g63 => ?_) (fun g63 => ?_)
   ·refine aN rfl rfl (aN rfl rfl (aN rfl rfl (aN rfl rfl (aN rfl rfl (aN rfl rfl (wq (bR true (.bool true) rfl rfl) rfl (wq (aJ (.bool true) rfl) rfl (aB (aC (aA (dK rfl rfl (wq (aX 1 bQ M11 rfl rfl rfl) rfl (cC [.agg (List.toArray _)] [aF (yA xs cs xb)] rfl dP M11 rfl rfl rfl rfl (cU rfl) (by decide) (fun b14 w14 M14=>(cW 0 [aF (yA xs cs xb)] dP M14 rfl rfl rfl rfl rfl hq rfl (by simp [aF,Go.Bil.one]) (dL.ofMem 2 M14 rfl) (by omega) (fun A15 c15 e15 w15 M15 hR15=>(eH rfl rfl (aB (cR ?_)))))))))))))))))))
    refine aC (aA (aQ Z Z (wq (bC Z Z (by omega) (by omega)) Z (bK Z Z (aB ?_)))))
    refine bX (k+1,⟨A15,q.n+1,c15,e15⟩) (bE rfl (bE (bv rfl (by rw [cH hxb,List.any_append,List.any_cons,List.any_nil,Bool.or_false];rw [g55];simp [aTx,g63])) (bE rfl dZ))) (bZ rfl (bZ rfl (bZ rfl (bZ rfl gK)))) ?_ ?_
    ·exact ⟨⟨by omega,by rw [cH hxb,List.map_append,List.map_append];exact hR15⟩,M15.keep [true,false,false]⟩
    ·(show n - (k+1) < n - k;omega)
   ·refine wq (aD 8 eB rfl) rfl (wq (aD 1 cS rfl) rfl (wq (aK 1 (.int _ _) aY M11 rfl rfl rfl) rfl (wq (bH dY underlying2 rfl (fJ _ (by omega) (by omega))) rfl (aQ rfl rfl (cX rfl rfl rfl rfl (wq (bR false (.bool (decide _)) rfl rfl) rfl (wq (aJ (.bool (decide _)) rfl) rfl (aB (aC (aA (dK rfl rfl (wq (aX 1 bQ M11 rfl rfl rfl) rfl (cC [.agg (List.toArray _)] [aF (yA xs cs xb)] rfl dP M11 rfl rfl rfl rfl (cU rfl) (by decide) (fun b16 w16 M16=>(cW 0 [aF (yA xs cs xb)] dP M16 rfl rfl rfl rfl rfl hq rfl (by simp [aF,Go.Bil.one]) (dL.ofMem 2 M16 rfl) (by omega) (fun A17 c17 e17 w17 M17 hR17 => ?_))))))))))))))))
    refine eH Z Z (aB (cR (aC (aA (aQ Z Z (wq (bC Z Z (by omega) (by omega)) Z (bK Z Z (aB ?_))))))))
    refine bX (k+1,⟨A17,q.n+1,c17,e17⟩) (bE rfl (bE (bv rfl (by rw [cH hxb,List.any_append,List.any_cons,List.any_nil,Bool.or_false];rw [g55];simp [aTx,g63])) (bE rfl dZ))) (bZ rfl (bZ rfl (bZ rfl (bZ rfl gK)))) ?_ ?_
    ·exact ⟨⟨by omega,by rw [cH hxb,List.map_append,List.map_append];exact hR17⟩,M17.keep [true,false,false]⟩
    ·(show n - (k+1) < n - k;omega)
 ·have hkn:k=n:=by omega
  rw [List.take_of_length_le (by omega)] at hq
  refine cN (dC (dE (eJ (aC (aE (aA (dK Z Z (wq (aH (.bool _) Z) Z (eH Z Z (wq (aJ (.bool _) Z) Z (aB (aC (aO (fX (.slice _ _ _) (.bool _) Z Z ?_))))))))))))))
  exact ⟨q,uW Z (congrArg Value.bool (by rw [List.take_of_length_le (by omega)];rfl)),hq,hM2⟩
theorem aQr (w:World) (A:Option Addr) (n c:Nat) (xs:List Body) (R:Rd w 10 A n (xs.map aF)) (hs:cZ xs) (hb:∀ b∈xs,Okb b) (hn:n≤1048576) (B:Option Addr) (mc c':Nat) (cs:List Con) (R':Rd w 5 B mc (cs.map cL)) (hcs:∀ c∈cs,OkC xs c) (hmc:mc≤8589934592) :
  Calls prog 87 #[.slice A n c,.slice B mc c'] w (gH (fun v w'=>∃ r:Row,v=.tuple #[.slice r.A r.n r.c,.bool (iF xs cs 4).2]∧aZ 43 10 r.A r.n r.c (((iF xs cs 4).1).map aF) r.e∧Mem w [] [r.e] w')):=by
 have hlen:xs.length=n:=by simpa using R.len
 have hbd:=R.bound
 have hclen:cs.length=mc:=by simpa using R'.len
 have hbd':=R'.bound
 refine aI #[.tmp 4,.tmp 5] 27 func87 Z results87 ntmps87 Z ?_
 have M0:=Mem.refl w
 refine aE (aA (eH Z Z (wq (aJ (.bool false) Z) Z (aB (aC (aE (aA (wq (aJ (.bool false) Z) Z ?_))))))))
 have M1:=M0.dummy default
 refine aB (aC (aE (aE (aA (bK Z Z (aB (aC (aP (dG (σ:=Nat × Row) [1,4,5] (fun (k,q)=>[(0,.slice q.A q.n q.c),(6,.bool (iF xs cs k).2),(7,.int .i64 (k:Int))]) (fun (k,q) w'=>(k≤4∧Rd w' 10 q.A q.n ((iF xs cs k).1.map aF)∧(0 < k→aZ 43 10 q.A q.n q.c (((iF xs cs k).1).map aF) q.e))∧Mem w [] [q.e] w') (fun (k,q)=>4 - k) (0,⟨A,n,c,(none,default)⟩) (bE Z (bE (bv Z Z) (bE Z dZ))) (⟨⟨by omega,R.mem M1,(fun h=>absurd h (by omega))⟩,M1⟩) ?_)))))))))
 rintro ⟨k,q⟩ ρ2 w2 ⟨⟨hk,hRq,hq⟩,hM2⟩
 have hql:(iF xs cs k).1.length=q.n:=by simpa using hRq.len
 have hsl:=(jP xs cs k).len
 refine aE (aE (aA (aQ Z Z (cX Z Z Z Z (aB (aC ?_))))))
 refine aU Z (fun h11 => ?_) (fun h11 => ?_)
 ·refine aM (aC (aE (aP (aE (aA (dK Z Z (dK Z Z (eP bOn Z Z (aQq _ q.A q.n q.c (iF xs cs k).1 hRq ((jP xs cs k).sorted hs) (sG hb k) (by omega) B mc c' cs (R'.mem hM2) (fun c h=>(jP xs cs k).okc (hcs c h)) hmc) ?_))))))))
  rintro v3 w3 ⟨r,rfl,hr,hM3⟩
  have M3:Mem _ _ [_,_] _:=hM2.call0 hM3
  refine wq (aH (.tuple (List.toArray _)) Z) Z (wq (bM (.slice _ _ _) Z Z) Z (wq (bM (.bool _) Z Z) Z (eH Z Z (wq (aJ (.bool _) Z) Z (aB (aC (aE (aA (dK Z Z (eH Z Z (aB (aC (aA (wq (aH (.bool _) Z) Z (wq (aH (.bool _) Z) Z ?_)))))))))))))))
  refine kM 22 _ Z (fun g22 => ?_) (fun g22 => ?_)
  ·refine aN Z Z (wq (bR true (.bool true) Z Z) Z (wq (aJ (.bool true) Z) Z (aB (cR (aC (aA (aQ Z Z (wq (bC Z Z (by omega) (by omega)) Z (bK Z Z (aB ?_))))))))))
   refine bX (k+1,r) (bE Z (bE (bv Z (by show true=(_ || _);rw [g22,Bool.true_or])) (bE Z dZ))) (bZ Z (bZ Z (bZ Z gK))) ?_ ?_
   ·exact ⟨⟨by omega,hr.rd M3 (bA (i:=1) Z),(fun _=>hr)⟩,M3.keep [false,true]⟩
   ·(show 4 - (k+1) < 4 - k;omega)
  ·refine wq (aH (.bool _) Z) Z (wq (bR false (.bool _) Z Z) Z (wq (aJ (.bool _) Z) Z (aB (cR (aC (aA (aQ Z Z (wq (bC Z Z (by omega) (by omega)) Z (bK Z Z (aB ?_))))))))))
   refine bX (k+1,r) (bE Z (bE (bv Z (by show _=(_ || _);rw [g22,Bool.false_or])) (bE Z dZ))) (bZ Z (bZ Z (bZ Z gK))) ?_ ?_
   ·exact ⟨⟨by omega,hr.rd M3 (bA (i:=1) Z),(fun _=>hr)⟩,M3.keep [false,true]⟩
   ·(show 4 - (k+1) < 4 - k;omega)
 ·have hk4:k=4:=by omega
  rw [hk4] at hq
  refine cN (dC (dE (eJ (aC (aE (aA (dK Z Z (wq (aH (.bool _) Z) Z (eH Z Z (wq (aJ (.bool _) Z) Z (aB (aC (aO (fX (.slice _ _ _) (.bool _) Z Z ?_))))))))))))))
  exact ⟨q,uW Z (congrArg Value.bool (by rw [hk4])),hq (by omega),hM2⟩
theorem aNg (w:World) (c:Con) (a b:Body) (hc:Okn c) (ha:Okb a) (hb:Okb b) :
  Calls prog 139 #[.agg (cL c).toArray,(.agg (aF a).toArray),(.agg (aF b).toArray)] w (Rb w (.int .i64 (qC c a b))):=by
 have hdp:=hc.d
 have hm1:=ha.m
 have hm2:=hb.m
 refine aI #[.tmp 6] 24 func139 Z results139 ntmps139 Z ?_
 have M0:=Mem.refl w
 refine aE (aA (bN (.agg (.mk _)) M0 Z Z Z (fun b1 w1 M1=>(bN (.agg (.mk _)) M1 Z Z Z (fun b2 w2 M2=>(bN (.agg (.mk _)) M2 Z Z Z (fun b3 w3 M3=>(bK Z Z (aB (aC (aE (aE (aA (wq (aD 4 aFi Z) Z (wq (aK 0 (.int _ _) aY M3 Z Z Z) Z (cX Z Z Z Z (wq (aH (.bool (decide _)) Z) Z ?_)))))))))))))))))
 refine dQ 10 Z (fun g10 => ?_) (fun g10 => ?_)
 ·refine aN Z Z (aN Z Z (aN Z Z (aN Z Z (aN Z Z (aN Z Z (wq (bR true (.bool true) Z Z) Z (aB (aC (cE Z (aE (aA (bK Z Z (aB (aC (aO (cO (cI (.int _ _) Z ?_)))))))))))))))))
  exact ⟨iE (by unfold qC;rw [if_pos (by omega)]),M3.below⟩
 ·refine wq (aD 4 eM Z) Z (wq (aK 1 (.int _ _) aY M3 Z Z Z) Z (wq (aD 4 eM Z) Z (wq (aK 2 (.int _ _) aY M3 Z Z Z) Z (wq (jN Z Z (jQ _ (by omega) (by omega))) Z (cX Z Z Z Z (wq (bR false (.bool (decide _)) Z Z) Z (aB (aC ?_))))))))
  refine aU Z (fun h17 => ?_) (fun h17 => ?_)
  ·refine aE (aA (bK Z Z (aB (aC (aO (cO (cI (.int _ _) Z ?_)))))))
   exact ⟨iE (by unfold qC;rw [if_pos (by omega)]),M3.below⟩
  ·refine aM (aC (aE (aA (wq (aD 4 aFi Z) Z (wq (aK 0 (.int _ _) aY M3 Z Z Z) Z (wq (bH dY underlying2 Z (fJ _ (by omega) (by omega))) Z (wq (gG Z Z (by omega) (by omega)) Z (wq (fC Z Z (by omega) (by omega)) Z (dN lQ Z Z M3 (fF _ ((c.depth - 1024)*26214) 65536 (by decide) (by omega) (by omega)) (fun w4 M4=>(bK Z Z (aB (aC (aO (cI (.int _ _) Z ?_)))))))))))))))
   exact ⟨iE (by unfold qC;rw [if_neg (by omega)]),M4.below⟩
theorem aCw (w:World) (c:Con) (a b:Body) (hc:Okn c) (ha:Okb a) (hb:Okb b) (m:Int) (hm:0≤m∧m≤1048576) :
  Calls prog 108 #[.agg (cL c).toArray,(.agg (aF a).toArray),(.agg (aF b).toArray),.int .i32 m] w (Rb w (.int .i64 (rL c a b m))):=by
 have hdp:=hc.d
 have hm1:=ha.m
 have hm2:=hb.m
 have hsr:=aXf (a:=a) (b:=b) hc hm
 have har:=aDq (a:=a) (b:=b) hc
 refine aI #[.tmp 8] 28 func108 Z results108 ntmps108 Z ?_
 have M0:=Mem.refl w
 refine aE (aA (bN (.agg (.mk _)) M0 Z Z Z (fun b1 w1 M1=>(bN (.agg (.mk _)) M1 Z Z Z (fun b2 w2 M2=>(bN (.agg (.mk _)) M2 Z Z Z (fun b3 w3 M3=>(bK Z Z (aB (aC (aE (aA (wq (aX 0 fA M3 Z Z Z) Z (wq (aX 1 bQ M3 Z Z Z) Z (wq (aX 2 bQ M3 Z Z Z) Z (dN bPc Z Z M3 (aNg _ c a b hc ha hb) (fun w4 M4=>(bK Z Z (aB (aC (aE (aE (aA (aQ Z Z (cX Z Z Z Z (aB (aC ?_)))))))))))))))))))))))))))
 refine aU Z (fun h15 => ?_) (fun h15 => ?_)
 ·refine aE (aA (bK Z Z (aB (aC (aO (cO (cI (.int _ _) Z ?_)))))))
  exact ⟨iE (by unfold rL;rw [h15];simp),M4.below⟩
 ·have hsp:0 < a.mass+b.mass:=by unfold qC at h15;split at h15 <;> omega
  have hmx:max 1 (a.mass+b.mass)=a.mass+b.mass:=by omega
  refine aM (aC (aE (aA (aQ Z Z (aQ Z Z (wq (bH dY underlying2 Z (fJ _ (by omega) (by omega))) Z (wq (fC Z Z (by omega) (by omega)) Z (wq (aD 4 eM Z) Z (wq (aK 1 (.int _ _) aY M4 Z Z Z) Z (wq (bH dY underlying2 Z (fJ _ (by omega) (by omega))) Z (wq (aD 4 eM Z) Z (wq (aK 2 (.int _ _) aY M4 Z Z Z) Z (wq (bH dY underlying2 Z (fJ _ (by omega) (by omega))) Z (wq (bC Z Z (by omega) (by omega)) Z (dN lQ Z Z M4 (fF _ (qC c a b*m) (a.mass+b.mass) hsp (by omega) (by omega)) (fun w5 M5 => ?_))))))))))))))))
  refine bK Z Z (aB (aC (aO (cI (.int _ _) Z ?_))))
  exact ⟨iE (by unfold rL;rw [hmx]),M5.below⟩
theorem aNh (w:World) (A:Option Addr) (n c:Nat) (xs:List Body) (R:Rd w 10 A n (xs.map aF)) (hs:cZ xs) (hb:∀ b∈xs,Okb b) (hn:n≤1048576) (B:Option Addr) (mc c':Nat) (cs:List Con) (R':Rd w 5 B mc (cs.map cL)) (hcs:∀ c∈cs,OkC xs c) (hmc:mc≤1073741824) :
  Calls prog 89 #[.slice A n c,.slice B mc c'] w (gH (fun v w'=>∃ r:Row,v=.slice r.A r.n r.c∧aZ 179 2 r.A r.n r.c ((xs.map (kL xs cs)).map cP) r.e∧Mem w [] [r.e] w')):=by
 have hlen:xs.length=n:=by simpa using R.len
 have hbd:=R.bound
 have hclen:cs.length=mc:=by simpa using R'.len
 have hbd':=R'.bound
 refine aI #[.tmp 4] 118 func89 Z results89 ntmps89 Z ?_
 have M0:=Mem.refl w
 refine aE (aA (eH Z Z (aB (aC (aE (aA (eH Z Z ?_)))))))
 have M1:=M0.dummy default
 refine aB (aC (aE (aE (aA (bK Z Z (aB (aC (aP (dG (σ:=Nat × Row) [0,1,4] (fun (i,q)=>[(5,.slice q.A q.n q.c),(6,.int .i64 (i:Int))]) (fun (i,q) w'=>(i≤n∧aZ 179 2 q.A q.n q.c (((xs.take i).map (kL xs cs)).map cP) q.e)∧Mem w [] [q.e] w') (fun (i,q)=>n - i) (0,fH) (bE Z (bE Z dZ)) (⟨⟨by omega,aZ.nil _ _ _⟩,M1⟩) ?_)))))))))
 rintro ⟨i,q⟩ ρ2 w2 ⟨⟨hi,hq⟩,hM2⟩
 have htl:=List.length_take_le i xs
 have hqn:(xs.take i).length=q.n:=by simpa using hq.1
 refine aE (aE (aA (aQ Z Z (dK Z Z (wq (cK underlying46 Z) Z (cX Z Z Z Z (aB (aC ?_))))))))
 refine aU Z (fun h18 => ?_) (fun h18 => ?_)
 ·obtain ⟨xb,hxb⟩:=cF (xs:=xs) (k:=i) hlen (by omega)
  have hbi:=List.mem_of_getElem? hxb
  refine aM (aC (aE (aP (aE (aA (aR bLy hM2 Z Z (fun b3 w3 M3=>(aB (aC (aE (aE (aA (bK Z Z (aB (aC (aP (dG (σ:=Nat) [0,1,4,5,6,7] (fun k2=>[(8,.int .i64 (k2:Int))]) (fun k2 w'=>k2≤mc∧Mem w [] [q.e,(some b3,bc [.int .i64 (wS xs (cs.take k2) (·.nx) xb),.int .i64 (wS xs (cs.take k2) (·.ny) xb)] 179)] w') (fun k2=>mc - k2) 0 (bE Z dZ) (⟨by omega,by rw [wC,wC];exact M3⟩) ?_)))))))))))))))))
  rintro k2 ρ4 w4 ⟨hk2,hM4⟩
  have hsb:=aEb hs hb hcs hclen hmc k2 hbi
  unfold kL at hsb
  simp only at hsb
  refine aE (aE (aA (aQ Z Z (dK Z Z (wq (cK underlying148 Z) Z (cX Z Z Z Z (aB (aC ?_))))))))
  refine aU Z (fun h24 => ?_) (fun h24 => ?_)
  ·obtain ⟨cn,hcn⟩:=cF (xs:=cs) (k:=k2) hclen (by omega)
   have hc:=hcs cn (List.mem_of_getElem? hcn)
   have hne:=hc.ne
   have hnx:=hc.n.x
   have hny:=hc.n.y
   obtain ⟨pa,xa,hxa,hka,hfa⟩:=vK hc.l
   obtain ⟨pb,xb2,hxb2,hkb,hfb⟩:=vK hc.h
   have hba:=aAl hxa hfa
   have hbb:=aAl hxb2 hfb
   have hma:=List.mem_of_getElem? hxa
   have hmb:=List.mem_of_getElem? hxb2
   have hoa:=hb xa hma
   have hob:=hb xb2 hmb
   have qa:=hoa.m
   have qb:=hob.m
   refine aM (aC (aE (aP (aE (aA (dK Z Z (aQ Z Z (wq (bJ (k2) tJ Z Z Z ((R'.mem hM4).below_len (aG cL hcn)) ((R'.mem hM4).someK (aG cL hcn))) Z (wq (dW _ fA (R'.mem hM4) (aG cL hcn) Z) Z (aR nH hM4 Z Z (fun b5 w5 M5=>(bG 2 _ fA M5 Z Z Z Z Z (aS Z) Z (fun w6 M6=>(aB (aC (aE (aE (fW [(0,0),(1,0),(2,1),(3,0),(4,0),(5,1),(6,1),(7,1),(8,0),(9,0),(10,0),(11,0),(12,1),(13,0),(14,0),(15,1),(16,1),(17,1),(18,0),(19,0)] mixed M6 Z (by kernel_rfl) (fun w7 M7 => ?_)))))))))))))))))))
   refine aV Z Z Z (fun _=>aD 0 fR Z) (aV Z Z Z (fun _=>aD 0 gU Z) (bP Z Z Z (aK 2 (.int _ _) bV M7 Z Z Z) (kA Z Z Z (eD Z Z Z (bP Z Z Z (bJ (i) dP Z Z Z ((R.mem M7).below_len (aG aF hxb)) ((R.mem M7).someK (aG aF hxb))) (bP Z Z Z (aT 0 dT (R.mem M7) (iR ((R.mem M7).below_len (aG aF hxb))) Z) (bP Z Z Z (dM (o:=0) (.int _ _) bV (R.mem M7) (aG aF hxb) Z Z) (aV Z Z Z (fun _=>cA (.bool (decide _)) Z Z Z) ?_))))))))
   refine aV Z Z Z (fun _=>aH (.bool (decide _)) Z) ?_
   refine tL 40 Z (fun g40 => ?_) (fun g40 => ?_)
   ·refine aV Z Z Z (fun _=>aD 0 fR Z) (aV Z Z Z (fun _=>aD 1 kJ Z) (bP Z Z Z (aK 2 (.int _ _) bV M7 Z Z Z) (kA Z Z Z (eD Z Z Z (bP Z Z Z (bJ (i) dP Z Z Z ((R.mem M7).below_len (aG aF hxb)) ((R.mem M7).someK (aG aF hxb))) (bP Z Z Z (aT 0 dT (R.mem M7) (iR ((R.mem M7).below_len (aG aF hxb))) Z) (bP Z Z Z (dM (o:=0) (.int _ _) bV (R.mem M7) (aG aF hxb) Z Z) (aV Z Z Z (fun _=>cA (.bool (decide _)) Z Z Z) ?_))))))))
    refine aV Z Z Z (fun _=>bR true (.bool (decide _)) Z Z) (bS (aC ?_))
    refine aU Z (fun h50 => ?_) (fun h50 => ?_)
    ·refine cN (dC (eJ (aC (aA (aQ Z Z (wq (bC Z Z (by omega) (by omega)) Z (bK Z Z (aB ?_))))))))
     refine bX (k2+1) (bE Z dZ) (bZ Z (bZ Z (bZ Z (bZ Z (bZ Z (bZ Z gK)))))) ?_ ?_
     ·exact ⟨by omega,by rw [jG hcn,jG hcn];unfold wR;(have n1:¬ cn.low=xb.key:=by omega);(have n2:¬ cn.high=xb.key:=by omega);rw [if_neg n1,if_neg n2,if_neg n1,if_neg n2,Int.add_zero,Int.add_zero];exact M7.keep [true,true,false]⟩
     ·(show mc - (k2+1) < mc - k2;omega)
    ·refine aM (aC (aE (aA (dK Z Z (dK Z Z (wq (aD 0 fR Z) Z (wq (aD 0 gU Z) Z (wq (aK 2 (.int _ _) bV M7 Z Z Z) Z (dN tG Z Z M7 (iD _ cn.low _ _ _ xs (R.mem M7)) (fun w8 M8=>(wq (bJ (pa) dP Z Z hfa ((R.mem M8).below_len (aG aF hxa)) ((R.mem M8).someK (aG aF hxa))) Z (wq (dW _ bQ (R.mem M8) (aG aF hxa) Z) Z (aR fV M8 Z Z (fun b9 w9 M9=>(bG 3 _ bQ M9 Z Z Z Z Z (aS Z) Z (fun w10 M10=>(aB (aC (aE (aA ?_))))))))))))))))))))
     refine dK Z Z (dK Z Z (wq (aD 0 fR Z) Z (wq (aD 1 kJ Z) Z (wq (aK 2 (.int _ _) bV M10 Z Z Z) Z (dN tG Z Z M10 (iD _ cn.high _ _ _ xs (R.mem M10)) (fun w11 M11=>(wq (bJ (pb) dP Z Z hfb ((R.mem M11).below_len (aG aF hxb2)) ((R.mem M11).someK (aG aF hxb2))) Z (wq (dW _ bQ (R.mem M11) (aG aF hxb2) Z) Z (aR fV M11 Z Z (fun b12 w12 M12=>(bG 4 _ bQ M12 Z Z Z Z Z (aS Z) Z (fun w13 M13=>(aB (aC (aE (fW [(0,1),(1,1),(2,1),(3,0),(4,0),(5,1),(6,1),(7,1),(8,2),(9,0)] mixed M13 Z (by kernel_rfl) (fun w14 M14 => ?_)))))))))))))))))
     refine bP Z Z Z (aX 2 fA M14 Z Z Z) (bP Z Z Z (aX 3 bQ M14 Z Z Z) (bP Z Z Z (aX 4 bQ M14 Z Z Z) (kA Z Z Z (eD Z Z Z (bP Z Z Z (bJ (i) dP Z Z Z ((R.mem M14).below_len (aG aF hxb)) ((R.mem M14).someK (aG aF hxb))) (bP Z Z Z (aT 4 eM (R.mem M14) (iR ((R.mem M14).below_len (aG aF hxb))) Z) (bP Z Z Z (dM (o:=4) (.int _ _) aY (R.mem M14) (aG aF hxb) Z Z) (dI [true,true,true,true,true,true] Z (by kernel_rfl) (vA bCc Z Z Z ?_)))))))))
     have hbm:0≤xb.mass∧xb.mass≤xa.mass+xb2.mass:=⟨(hb xb hbi).m.1,vV hs hma hmb hbi qa.1 qb.1 (by omega)⟩
     have hmq:=(hb xb hbi).m
     have hsl:=aBr hc.n hbm
     have r1:=mU hsl hnx
     have r2:=mU hsl hny
     refine (aCw _ cn xa xb2 hc.n hoa hob xb.mass hmq).mono ?_
     rintro _ w15 ⟨v15,rfl,⟨rfl,hb15⟩⟩
     refine ⟨_,Z, ?_⟩
     have M15:=M14.callB hb15
     refine aB (aC ⟨dJ, ?_⟩)
     refine mW Z Z Z (bS (aC (aE (aA (aQ Z Z (wq (aD 2 iH Z) Z (wq (aD 0 cV Z) Z (wq (aK 2 (.int _ _) aY M15 Z Z Z) Z (wq (bH dY underlying2 Z (fJ _ (by omega) (by omega))) Z (wq (fC Z Z (by omega) (by omega)) Z (dN lQ Z Z M15 (fF _ _ 65536 (by decide) (by omega) (by omega)) (fun w16 M16=>(bK Z Z (aB (aC (aE (aA (aQ Z Z (wq (aD 2 iH Z) Z (wq (aD 1 cS Z) Z (wq (aK 2 (.int _ _) aY M16 Z Z Z) Z ?_)))))))))))))))))))))
     refine wq (bH dY underlying2 Z (fJ _ (by omega) (by omega))) Z (wq (fC Z Z (by omega) (by omega)) Z (dN lQ Z Z M16 (fF _ _ 65536 (by decide) (by omega) (by omega)) (fun w17 M17=>(bK Z Z (aB (aC (aE (aE (fW [(0,0),(1,0),(2,1),(3,0),(4,0),(5,1),(6,1),(7,1),(8,0)] mixed M17 Z (by kernel_rfl) (fun w18 M18=>(aV Z Z Z (fun _=>aD 0 fR Z) (aV Z Z Z (fun _=>aD 0 gU Z) (bP Z Z Z (aK 2 (.int _ _) bV M18 Z Z Z) (kA Z Z Z (eD Z Z Z (bP Z Z Z (bJ (i) dP Z Z Z ((R.mem M18).below_len (aG aF hxb)) ((R.mem M18).someK (aG aF hxb))) ?_))))))))))))))))
     refine bP Z Z Z (aT 0 dT (R.mem M18) (iR ((R.mem M18).below_len (aG aF hxb))) Z) (bP Z Z Z (dM (o:=0) (.int _ _) bV (R.mem M18) (aG aF hxb) Z Z) (aV Z Z Z (fun _=>cA (.bool (decide _)) Z Z Z) (bS (aC ?_))))
     refine aU Z (fun h98 => ?_) (fun h98 => ?_)
     ·refine aE (aA (aQ Z Z (wq (rK Z (fJ _ (by omega) (by omega))) Z (bK Z Z (aB (aC (aA (aQ Z Z (wq (rK Z (fJ _ (by omega) (by omega))) Z (bK Z Z (aB (aC (aE (aA (wq (aD 0 lV Z) Z (wq (aK 1 (.int _ _) jM M18 Z Z Z) Z (aQ Z Z (wq (bC Z Z (by omega) (by omega)) Z (wq (aD 0 lV Z) Z (dA 1 (.int _ _) jM M18 Z Z Z Z Z Z (fun w19 M19=>(aB (aC (aA ?_))))))))))))))))))))))))
      refine wq (aD 1 lW Z) Z (wq (aK 1 (.int _ _) jM M19 Z Z Z) Z (aQ Z Z (wq (bC Z Z (by omega) (by omega)) Z (wq (aD 1 lW Z) Z (dA 1 (.int _ _) jM M19 Z Z Z Z Z Z (fun w20 M20=>(aB (cR (aC (aA (aQ Z Z (wq (bC Z Z (by omega) (by omega)) Z (bK Z Z (aB ?_))))))))))))))
      refine bX (k2+1) (bE Z dZ) (bZ Z (bZ Z (bZ Z (bZ Z (bZ Z (bZ Z gK)))))) ?_ ?_
      ·exact ⟨by omega,by rw [jG hcn,jG hcn];unfold wR;(have n1:cn.low=xb.key:=by omega);rw [if_pos n1,if_pos n1,hba,hbb];exact M20.keep [true,true,false,false,false]⟩
      ·(show mc - (k2+1) < mc - k2;omega)
     ·refine aM (aC (aE (aA (wq (aD 0 lV Z) Z (wq (aK 1 (.int _ _) jM M18 Z Z Z) Z (aQ Z Z (wq (bC Z Z (by omega) (by omega)) Z (wq (aD 0 lV Z) Z (dA 1 (.int _ _) jM M18 Z Z Z Z Z Z (fun w21 M21=>(aB (aC (aA (wq (aD 1 lW Z) Z (wq (aK 1 (.int _ _) jM M21 Z Z Z) Z (aQ Z Z (wq (bC Z Z (by omega) (by omega)) Z (wq (aD 1 lW Z) Z (dA 1 (.int _ _) jM M21 Z Z Z Z Z Z (fun w22 M22=>(aB (cR ?_))))))))))))))))))))))
      refine aC (aA (aQ Z Z (wq (bC Z Z (by omega) (by omega)) Z (bK Z Z (aB ?_)))))
      refine bX (k2+1) (bE Z dZ) (bZ Z (bZ Z (bZ Z (bZ Z (bZ Z (bZ Z gK)))))) ?_ ?_
      ·exact ⟨by omega,by rw [jG hcn,jG hcn];unfold wR;(have n1:¬ cn.low=xb.key:=by omega);(have n2:cn.high=xb.key:=by omega);rw [if_neg n1,if_pos n2,if_neg n1,if_pos n2,hba,hbb];exact M22.keep [true,true,false,false,false]⟩
      ·(show mc - (k2+1) < mc - k2;omega)
   ·refine xI Z Z Z (xI Z Z Z (pZ Z Z Z (xI Z Z Z (xI Z Z Z (pZ Z Z Z (pZ Z Z Z (pZ Z Z Z (xI Z Z Z (aV Z Z Z (fun _=>bR false (.bool false) Z Z) (bS (aC (cG Z (aM (aC (aE (aA (dK Z Z (dK Z Z ?_))))))))))))))))))
    refine wq (aD 0 fR Z) Z (wq (aD 0 gU Z) Z (wq (aK 2 (.int _ _) bV M7 Z Z Z) Z (dN tG Z Z M7 (iD _ cn.low _ _ _ xs (R.mem M7)) (fun w23 M23=>(wq (bJ (pa) dP Z Z hfa ((R.mem M23).below_len (aG aF hxa)) ((R.mem M23).someK (aG aF hxa))) Z (wq (dW _ bQ (R.mem M23) (aG aF hxa) Z) Z (aR fV M23 Z Z (fun b24 w24 M24=>(bG 3 _ bQ M24 Z Z Z Z Z (aS Z) Z (fun w25 M25=>(aB (aC (aE (aA (dK Z Z (dK Z Z (wq (aD 0 fR Z) Z ?_)))))))))))))))))
    refine wq (aD 1 kJ Z) Z (wq (aK 2 (.int _ _) bV M25 Z Z Z) Z (dN tG Z Z M25 (iD _ cn.high _ _ _ xs (R.mem M25)) (fun w26 M26=>(wq (bJ (pb) dP Z Z hfb ((R.mem M26).below_len (aG aF hxb2)) ((R.mem M26).someK (aG aF hxb2))) Z (wq (dW _ bQ (R.mem M26) (aG aF hxb2) Z) Z (aR fV M26 Z Z (fun b27 w27 M27=>(bG 4 _ bQ M27 Z Z Z Z Z (aS Z) Z (fun w28 M28=>(aB (aC (aE (fW [(0,1),(1,1),(2,1),(3,0),(4,0),(5,1),(6,1),(7,1),(8,2),(9,0)] mixed M28 Z (by kernel_rfl) (fun w29 M29 => ?_))))))))))))))
    refine bP Z Z Z (aX 2 fA M29 Z Z Z) (bP Z Z Z (aX 3 bQ M29 Z Z Z) (bP Z Z Z (aX 4 bQ M29 Z Z Z) (kA Z Z Z (eD Z Z Z (bP Z Z Z (bJ (i) dP Z Z Z ((R.mem M29).below_len (aG aF hxb)) ((R.mem M29).someK (aG aF hxb))) (bP Z Z Z (aT 4 eM (R.mem M29) (iR ((R.mem M29).below_len (aG aF hxb))) Z) (bP Z Z Z (dM (o:=4) (.int _ _) aY (R.mem M29) (aG aF hxb) Z Z) (dI [true,true,true,true,true,true] Z (by kernel_rfl) (vA bCc Z Z Z ?_)))))))))
    have hbm:0≤xb.mass∧xb.mass≤xa.mass+xb2.mass:=⟨(hb xb hbi).m.1,vV hs hma hmb hbi qa.1 qb.1 (by omega)⟩
    have hmq:=(hb xb hbi).m
    have hsl:=aBr hc.n hbm
    have r1:=mU hsl hnx
    have r2:=mU hsl hny
    refine (aCw _ cn xa xb2 hc.n hoa hob xb.mass hmq).mono ?_
    rintro _ w30 ⟨v30,rfl,⟨rfl,hb30⟩⟩
    refine ⟨_,Z, ?_⟩
    have M30:=M29.callB hb30
    refine aB (aC ⟨dJ, ?_⟩)
    refine mW Z Z Z (bS (aC (aE (aA (aQ Z Z (wq (aD 2 iH Z) Z (wq (aD 0 cV Z) Z (wq (aK 2 (.int _ _) aY M30 Z Z Z) Z (wq (bH dY underlying2 Z (fJ _ (by omega) (by omega))) Z (wq (fC Z Z (by omega) (by omega)) Z (dN lQ Z Z M30 (fF _ _ 65536 (by decide) (by omega) (by omega)) (fun w31 M31=>(bK Z Z (aB (aC (aE (aA (aQ Z Z (wq (aD 2 iH Z) Z (wq (aD 1 cS Z) Z (wq (aK 2 (.int _ _) aY M31 Z Z Z) Z ?_)))))))))))))))))))))
    refine wq (bH dY underlying2 Z (fJ _ (by omega) (by omega))) Z (wq (fC Z Z (by omega) (by omega)) Z (dN lQ Z Z M31 (fF _ _ 65536 (by decide) (by omega) (by omega)) (fun w32 M32=>(bK Z Z (aB (aC (aE (aE (fW [(0,0),(1,0),(2,1),(3,0),(4,0),(5,1),(6,1),(7,1),(8,0)] mixed M32 Z (by kernel_rfl) (fun w33 M33=>(aV Z Z Z (fun _=>aD 0 fR Z) (aV Z Z Z (fun _=>aD 0 gU Z) (bP Z Z Z (aK 2 (.int _ _) bV M33 Z Z Z) (kA Z Z Z (eD Z Z Z (bP Z Z Z (bJ (i) dP Z Z Z ((R.mem M33).below_len (aG aF hxb)) ((R.mem M33).someK (aG aF hxb))) ?_))))))))))))))))
    refine bP Z Z Z (aT 0 dT (R.mem M33) (iR ((R.mem M33).below_len (aG aF hxb))) Z) (bP Z Z Z (dM (o:=0) (.int _ _) bV (R.mem M33) (aG aF hxb) Z Z) (aV Z Z Z (fun _=>cA (.bool (decide _)) Z Z Z) (bS (aC ?_))))
    refine aU Z (fun h98 => ?_) (fun h98 => ?_)
    ·refine aE (aA (aQ Z Z (wq (rK Z (fJ _ (by omega) (by omega))) Z (bK Z Z (aB (aC (aA (aQ Z Z (wq (rK Z (fJ _ (by omega) (by omega))) Z (bK Z Z (aB (aC (aE (aA (wq (aD 0 lV Z) Z (wq (aK 1 (.int _ _) jM M33 Z Z Z) Z (aQ Z Z (wq (bC Z Z (by omega) (by omega)) Z (wq (aD 0 lV Z) Z (dA 1 (.int _ _) jM M33 Z Z Z Z Z Z (fun w34 M34=>(aB (aC (aA ?_))))))))))))))))))))))))
     refine wq (aD 1 lW Z) Z (wq (aK 1 (.int _ _) jM M34 Z Z Z) Z (aQ Z Z (wq (bC Z Z (by omega) (by omega)) Z (wq (aD 1 lW Z) Z (dA 1 (.int _ _) jM M34 Z Z Z Z Z Z (fun w35 M35=>(aB (cR (aC (aA (aQ Z Z (wq (bC Z Z (by omega) (by omega)) Z (bK Z Z (aB ?_))))))))))))))
     refine bX (k2+1) (bE Z dZ) (bZ Z (bZ Z (bZ Z (bZ Z (bZ Z (bZ Z gK)))))) ?_ ?_
     ·exact ⟨by omega,by rw [jG hcn,jG hcn];unfold wR;(have n1:cn.low=xb.key:=by omega);rw [if_pos n1,if_pos n1,hba,hbb];exact M35.keep [true,true,false,false,false]⟩
     ·(show mc - (k2+1) < mc - k2;omega)
    ·refine aM (aC (aE (aA (wq (aD 0 lV Z) Z (wq (aK 1 (.int _ _) jM M33 Z Z Z) Z (aQ Z Z (wq (bC Z Z (by omega) (by omega)) Z (wq (aD 0 lV Z) Z (dA 1 (.int _ _) jM M33 Z Z Z Z Z Z (fun w36 M36=>(aB (aC (aA (wq (aD 1 lW Z) Z (wq (aK 1 (.int _ _) jM M36 Z Z Z) Z (aQ Z Z (wq (bC Z Z (by omega) (by omega)) Z (wq (aD 1 lW Z) Z (dA 1 (.int _ _) jM M36 Z Z Z Z Z Z (fun w37 M37=>(aB (cR ?_))))))))))))))))))))))
     refine aC (aA (aQ Z Z (wq (bC Z Z (by omega) (by omega)) Z (bK Z Z (aB ?_)))))
     refine bX (k2+1) (bE Z dZ) (bZ Z (bZ Z (bZ Z (bZ Z (bZ Z (bZ Z gK)))))) ?_ ?_
     ·exact ⟨by omega,by rw [jG hcn,jG hcn];unfold wR;(have n1:¬ cn.low=xb.key:=by omega);(have n2:cn.high=xb.key:=by omega);rw [if_neg n1,if_pos n2,if_neg n1,if_pos n2,hba,hbb];exact M37.keep [true,true,false,false,false]⟩
     ·(show mc - (k2+1) < mc - k2;omega)
  ·have hkn:k2=mc:=by omega
   rw [hkn,List.take_of_length_le (by omega)] at hM4
   refine cN (dC (dE (eJ (aC (aA (dK rfl rfl (wq (aX 1 bOb hM4 rfl rfl rfl) rfl (cC [.agg (List.toArray _)] [cP (kL xs cs xb)] rfl aKw hM4 rfl rfl rfl rfl (cU rfl) (by decide) (fun b38 w38 M38=>(cW 0 [cP (kL xs cs xb)] aKw M38 rfl rfl rfl rfl rfl hq rfl (by simp [cP,Go.Bil.one]) (dL.ofMem 2 M38 rfl) (by omega) (fun A39 c39 e39 w39 M39 hR39=>(eH rfl rfl (aB (cR (aC (aA (aQ rfl rfl (wq (bC rfl rfl (by omega) (by omega)) rfl (bK rfl rfl ?_)))))))))))))))))))
   refine aB ?_
   refine bX (i+1,⟨A39,q.n+1,c39,e39⟩) (bE Z (bE Z dZ)) (bZ Z (bZ Z (bZ Z gK))) ?_ ?_
   ·exact ⟨⟨by omega,by rw [cH hxb,List.map_append,List.map_append];exact hR39⟩,M39.keep [true,false,false]⟩
   ·(show n - (i+1) < n - i;omega)
 ·have hin:i=n:=by omega
  rw [List.take_of_length_le (by omega)] at hq
  refine cN (dC (dE (eJ (aC (aE (aA (dK Z Z (eH Z Z (aB (aC (aO (cI (.slice _ _ _) Z ?_))))))))))))
  exact ⟨q,Z,hq,hM2⟩
theorem aIz (w:World) (A:Option Addr) (n c:Nat) (xs:List Body) (R:Rd w 10 A n (xs.map aF)) (hb:∀ b∈xs,Okb b) (hn:n≤1048576) :
  Calls prog 86 #[.slice A n c] w (gH (fun v w'=>∃ r:Row,v=.tuple #[.slice r.A r.n r.c,.bool (xs.any mM)]∧aZ 43 10 r.A r.n r.c ((qS xs).map aF) r.e∧Mem w [] [r.e] w')):=by
 have hlen:xs.length=n:=by simpa using R.len
 have hbd:=R.bound
 refine aI #[.tmp 2,.tmp 3] 47 func86 Z results86 ntmps86 Z ?_
 have M0:=Mem.refl w
 refine aE (aA (eH Z Z (wq (aJ (.bool false) Z) Z (aB (aC (aE (aA (eH Z Z ?_))))))))
 have M1:=M0.dummy default
 refine aB (aC (aE (aA (wq (aJ (.bool false) Z) Z (aB (aC (aE (aE (aA (bK Z Z (aB (aC (aP (dG (σ:=Nat × Row) [0,2,3] (fun (k,q)=>[(4,.slice q.A q.n q.c),(5,.bool ((xs.take k).any mM)),(6,.int .i64 (k:Int))]) (fun (k,q) w'=>(k≤n∧aZ 43 10 q.A q.n q.c (((xs.take k).map pG).map aF) q.e)∧Mem w [] [q.e] w') (fun (k,q)=>n - k) (0,fH) (bE Z (bE (bv Z Z) (bE Z dZ))) (⟨⟨by omega,aZ.nil _ _ _⟩,M1⟩) ?_))))))))))))))
 rintro ⟨k,q⟩ ρ2 w2 ⟨⟨hk,hq⟩,hM2⟩
 have htl:=List.length_take_le k xs
 have hqn:(xs.take k).length=q.n:=by simpa using hq.1
 refine aE (aE (aA (aQ Z Z (dK Z Z (wq (cK underlying46 Z) Z (cX Z Z Z Z (aB (aC ?_))))))))
 refine aU Z (fun h12 => ?_) (fun h12 => ?_)
 ·obtain ⟨xb,hxb⟩:=cF (xs:=xs) (k:=k) hlen (by omega)
  have hob:=hb xb (List.mem_of_getElem? hxb)
  have hm:=hob.m
  have hv:=hob.v
  have hly:=eX (xb.vy - 1024) (l:=16777216) (by decide)
  refine aM (aC (aE (aP (aE (aA (dK Z Z (aQ Z Z (wq (bJ (k) dP Z Z Z ((R.mem hM2).below_len (aG aF hxb)) ((R.mem hM2).someK (aG aF hxb))) Z (wq (dW _ bQ (R.mem hM2) (aG aF hxb) Z) Z (aR fV hM2 Z Z (fun b3 w3 M3=>(bG 1 _ bQ M3 Z Z Z Z Z (aS Z) Z (fun w4 M4=>(aB (aC (aE (aE (aA (wq (aD 4 eM Z) Z (wq (aK 1 (.int _ _) aY M4 Z Z Z) Z (cX Z Z Z Z (aB (aC ?_)))))))))))))))))))))))
  refine aU Z (fun h21 => ?_) (fun h21 => ?_)
  ·have hms:xb.mass≠0:=by omega
   have hgb:pG xb={ xb with vy:=jK (xb.vy - 1024) 16777216 }:=by unfold pG;rw [if_neg hms]
   refine aE (aA (wq (aD 8 eB Z) Z (wq (aD 1 cS Z) Z (wq (aK 1 (.int _ _) aY M4 Z Z Z) Z (wq (bH dY underlying2 Z (fJ _ (by omega) (by omega))) Z (wq (gG Z Z (by omega) (by omega)) Z (bK Z Z (aB (aC (aE (aA (aQ Z Z (dN xM Z Z M4 (kY _ (xb.vy - 1024) 16777216 ⟨by decide,by decide⟩) (fun w5 M5=>(wq (bH mV underlying21 Z (jQ _ (by omega) (by omega))) Z (wq (aD 8 eB Z) Z (wq (aD 1 cS Z) Z (dA 1 (.int _ _) aY M5 Z Z Z Z Z Z (fun w6 M6 => ?_)))))))))))))))))))
   refine aB (aC (aA (wq (aH (.bool _) Z) Z (wq (aH (.bool _) Z) Z ?_))))
   refine kM 33 _ Z (fun g33 => ?_) (fun g33 => ?_)
   ·refine aN rfl rfl (aN rfl rfl (aN rfl rfl (aN rfl rfl (aN rfl rfl (aN rfl rfl (wq (bR true (.bool true) rfl rfl) rfl (wq (aJ (.bool true) rfl) rfl (aB (aC (aA (dK rfl rfl (wq (aX 1 bQ M6 rfl rfl rfl) rfl (cC [.agg (List.toArray _)] [aF { xb with vy:=jK (xb.vy - 1024) 16777216 }] rfl dP M6 rfl rfl rfl rfl (cU rfl) (by decide) (fun b7 w7 M7=>(cW 0 [aF { xb with vy:=jK (xb.vy - 1024) 16777216 }] dP M7 rfl rfl rfl rfl rfl hq rfl (by simp [aF,Go.Bil.one]) (dL.ofMem 2 M7 rfl) (by omega) (fun A8 c8 e8 w8 M8 hR8 => ?_))))))))))))))))
    rw [← hgb] at hR8
    refine eH Z Z (aB (cR (aC (aA (aQ Z Z (wq (bC Z Z (by omega) (by omega)) Z (bK Z Z (aB ?_))))))))
    refine bX (k+1,⟨A8,q.n+1,c8,e8⟩) (bE Z (bE (bv Z (by rw [cH hxb,List.any_append,List.any_cons,List.any_nil,Bool.or_false];rw [show mM xb=decide (jK (xb.vy - 1024) 16777216≠xb.vy - 1024) by unfold mM;rw [decide_eq_true hms,Bool.true_and]];rw [g33];first | exact (Bool.true_or _).symm | exact (Bool.false_or _).symm)) (bE Z dZ))) (bZ Z (bZ Z (bZ Z gK))) ?_ ?_
    ·exact ⟨⟨by omega,by rw [cH hxb,List.map_append,List.map_append];exact hR8⟩,M8.keep [true,false,false]⟩
    ·(show n - (k+1) < n - k;omega)
   ·refine wq (aD 8 eB rfl) rfl (wq (aD 1 cS rfl) rfl (wq (aK 1 (.int _ _) aY M6 rfl rfl rfl) rfl (wq (bH dY underlying2 rfl (fJ _ (by omega) (by omega))) rfl (aQ rfl rfl (cX rfl rfl rfl rfl (wq (bR false (.bool (decide _)) rfl rfl) rfl (wq (aJ (.bool (decide _)) rfl) rfl (aB (aC (aA (dK rfl rfl (wq (aX 1 bQ M6 rfl rfl rfl) rfl (cC [.agg (List.toArray _)] [aF { xb with vy:=jK (xb.vy - 1024) 16777216 }] rfl dP M6 rfl rfl rfl rfl (cU rfl) (by decide) (fun b9 w9 M9=>(cW 0 [aF { xb with vy:=jK (xb.vy - 1024) 16777216 }] dP M9 rfl rfl rfl rfl rfl hq rfl (by simp [aF,Go.Bil.one]) (dL.ofMem 2 M9 rfl) (by omega) (fun A10 c10 e10 w10 M10 hR10 => ?_))))))))))))))))
    rw [← hgb] at hR10
    refine eH Z Z (aB (cR (aC (aA (aQ Z Z (wq (bC Z Z (by omega) (by omega)) Z (bK Z Z (aB ?_))))))))
    refine bX (k+1,⟨A10,q.n+1,c10,e10⟩) (bE Z (bE (bv Z (by rw [cH hxb,List.any_append,List.any_cons,List.any_nil,Bool.or_false];rw [show mM xb=decide (jK (xb.vy - 1024) 16777216≠xb.vy - 1024) by unfold mM;rw [decide_eq_true hms,Bool.true_and]];rw [g33];first | exact (Bool.true_or _).symm | exact (Bool.false_or _).symm)) (bE Z dZ))) (bZ Z (bZ Z (bZ Z gK))) ?_ ?_
    ·exact ⟨⟨by omega,by rw [cH hxb,List.map_append,List.map_append];exact hR10⟩,M10.keep [true,false,false]⟩
    ·(show n - (k+1) < n - k;omega)
  ·have hms:¬ xb.mass≠0:=by omega
   have hgb:pG xb=xb:=by unfold pG;rw [if_pos (by omega)]
   refine aM (aC (aA (dK rfl rfl (wq (aX 1 bQ M4 rfl rfl rfl) rfl (cC [.agg (List.toArray _)] [aF xb] rfl dP M4 rfl rfl rfl rfl (cU rfl) (by decide) (fun b11 w11 M11=>(cW 0 [aF xb] dP M11 rfl rfl rfl rfl rfl hq rfl (by simp [aF,Go.Bil.one]) (dL.ofMem 2 M11 rfl) (by omega) (fun A12 c12 e12 w12 M12 hR12 => ?_))))))))
   rw [← hgb] at hR12
   refine eH Z Z (aB (cR (aC (aA (aQ Z Z (wq (bC Z Z (by omega) (by omega)) Z (bK Z Z (aB ?_))))))))
   refine bX (k+1,⟨A12,q.n+1,c12,e12⟩) (bE Z (bE (bv Z (by rw [cH hxb,List.any_append,List.any_cons,List.any_nil,Bool.or_false];rw [show mM xb=false by unfold mM;rw [decide_eq_false hms,Bool.false_and],Bool.or_false])) (bE Z dZ))) (bZ Z (bZ Z (bZ Z gK))) ?_ ?_
   ·exact ⟨⟨by omega,by rw [cH hxb,List.map_append,List.map_append];exact hR12⟩,M12.keep [true,false,false]⟩
   ·(show n - (k+1) < n - k;omega)
 ·have hkn:k=n:=by omega
  rw [List.take_of_length_le (by omega)] at hq
  refine cN (dC (dE (eJ (aC (aE (aA (dK Z Z (wq (aH (.bool _) Z) Z (eH Z Z (wq (aJ (.bool _) Z) Z (aB (aC (aO (fX (.slice _ _ _) (.bool _) Z Z ?_))))))))))))))
  exact ⟨q,uW Z (congrArg Value.bool (by rw [List.take_of_length_le (by omega)])),hq,hM2⟩
theorem bSk {a b c a' b' c':Value} (h1:a=a') (h2:b=b') (h3:c=c'):Value.tuple #[a,b,c]=Value.tuple #[a',b',c']:=by rw [h1,h2,h3]
theorem aHj (xs:List Body):aAd xs=((xs.any mM || (iF (qS xs) (lT xs) 4).2) || aWr xs (lT xs) (mD xs)):=rfl
theorem aTt (w:World) (A:Option Addr) (n c:Nat) (xs:List Body) (R:Rd w 10 A n (xs.map aF)) (hb:∀ b∈xs,Okb b) (hn:n≤1048576) (G:Body→Int × Int) (hG:∀ b∈xs,(-1152921504606846976≤(G b).1∧(G b).1≤1152921504606846976) ∧ -1152921504606846976≤(G b).2∧(G b).2≤1152921504606846976) (C:Option Addr) (cm:Nat) (RS:Rd w 2 C n ((xs.map G).map cP)) :
  Calls prog 88 #[.slice A n c,.slice C n cm] w (gH (fun v w'=>∃ r:Row,v=.tuple #[.slice r.A r.n r.c,.bool (xs.any (fun b=>aIy b (G b).1 (G b).2))]∧aZ 43 10 r.A r.n r.c ((xs.map (fun b=>uI b (G b).1 (G b).2)).map aF) r.e∧Mem w [] [r.e] w')):=by
 have hlen:xs.length=n:=by simpa using R.len
 have hbd:=R.bound
 refine aI #[.tmp 4,.tmp 5] 85 func88 Z results88 ntmps88 Z ?_
 have M0:=Mem.refl w
 refine aE (aA (eH Z Z (wq (aJ (.bool false) Z) Z (aB (aC (aE (aA (eH Z Z ?_))))))))
 have M1:=M0.dummy default
 refine aB (aC (aE (aA (wq (aJ (.bool false) Z) Z (aB (aC (aE (aE (aA (bK Z Z (aB (aC (aP (dG (σ:=Nat × Row) [0,1,4,5] (fun (k,q)=>[(6,.slice q.A q.n q.c),(7,.bool ((xs.take k).any (fun b=>aIy b (G b).1 (G b).2))),(8,.int .i64 (k:Int))]) (fun (k,q) w'=>(k≤n∧aZ 43 10 q.A q.n q.c (((xs.take k).map (fun b=>uI b (G b).1 (G b).2)).map aF) q.e)∧Mem w [] [q.e] w') (fun (k,q)=>n - k) (0,fH) (bE Z (bE (bv Z Z) (bE Z dZ))) (⟨⟨by omega,aZ.nil _ _ _⟩,M1⟩) ?_))))))))))))))
 rintro ⟨k,q⟩ ρ2 w2 ⟨⟨hk,hq⟩,hM2⟩
 have htl:=List.length_take_le k xs
 have hqn:(xs.take k).length=q.n:=by simpa using hq.1
 refine aE (aE (aA (aQ Z Z (dK Z Z (wq (cK underlying46 Z) Z (cX Z Z Z Z (aB (aC ?_))))))))
 refine aU Z (fun h15 => ?_) (fun h15 => ?_)
 ·obtain ⟨xb,hxb⟩:=cF (xs:=xs) (k:=k) hlen (by omega)
  have hxm:=List.mem_of_getElem? hxb
  have hob:=hb xb hxm
  have hv:=hob.v
  have hpx:=hob.p
  have hgb:=hG xb hxm
  have hlx:=eX (aIu xb (G xb).1) (l:=1073741824) (by decide)
  have hly:=eX (aIv xb (G xb).2) (l:=1073741824) (by decide)
  refine aM (aC (aE (aP (aE (aA (dK Z Z (aQ Z Z (wq (bJ (k) dP Z Z Z ((R.mem hM2).below_len (aG aF hxb)) ((R.mem hM2).someK (aG aF hxb))) Z (wq (dW _ bQ (R.mem hM2) (aG aF hxb) Z) Z (aR fV hM2 Z Z (fun b3 w3 M3=>(bG 1 _ bQ M3 Z Z Z Z Z (aS Z) Z (fun w4 M4=>(aB (aC (aE (fW [(0,0),(1,0),(2,1),(3,0),(4,0),(5,0),(6,1),(7,1),(8,1),(9,0),(10,0),(11,0),(12,1),(13,0),(14,2),(15,0),(16,0)] mixed M4 Z (by kernel_rfl) (fun w5 M5=>(aV Z Z Z (fun _=>aD 6 fL Z) ?_)))))))))))))))))))
  refine aV Z Z Z (fun _=>aD 0 cV Z) (bP Z Z Z (aK 1 (.int _ _) aY M5 Z Z Z) (aV Z Z Z (fun _=>bH dY underlying2 Z (fJ _ (by omega) (by omega))) (kA Z Z Z (eD Z Z Z (bP Z Z Z (bJ (k) aKw Z Z Z ((RS.mem M5).below_len (aG cP (aG G hxb))) ((RS.mem M5).someK (aG cP (aG G hxb)))) (bP Z Z Z (aT 0 lV (RS.mem M5) (iR ((RS.mem M5).below_len (aG cP (aG G hxb)))) Z) (bP Z Z Z (dM (o:=0) (.int _ _) jM (RS.mem M5) (aG cP (aG G hxb)) Z Z) ?_)))))))
  refine aV Z Z Z (fun _=>bC Z Z (by omega) (by omega)) (aV Z Z Z (fun _=>aD 8 eB Z) (aV Z Z Z (fun _=>aD 0 cV Z) (bP Z Z Z (aK 1 (.int _ _) aY M5 Z Z Z) (aV Z Z Z (fun _=>bH dY underlying2 Z (fJ _ (by omega) (by omega))) (dI [true,false,false,false,false] Z (by kernel_rfl) (dN lQ Z Z M5 (fF _ xb.vx 64 (by decide) (by omega) (by omega)) (fun w6 M6 => ?_)))))))
  refine aB (aC ⟨(dS (bI Z (dM (o:=0) (.int _ _) jM (RS.mem M6) (aG cP (aG G hxb)) Z Z)) (dS (bI Z (aT 0 lV (RS.mem M6) (iR ((RS.mem M6).below_len (aG cP (aG G hxb)))) Z)) (dS (bI Z (bJ (k) aKw Z Z Z ((RS.mem M6).below_len (aG cP (aG G hxb))) ((RS.mem M6).someK (aG cP (aG G hxb))))) (dS (bI Z (aK 1 (.int _ _) aY M6 Z Z Z)) dJ)))), ?_⟩)
  refine aV Z Z Z (fun _=>bC Z Z (by omega) (by omega)) (dV 37 (.int .i64 (aIu xb (G xb).1)) Z (mW Z Z Z (bS (aC (aE (fW [(0,0),(1,0),(2,1),(3,0),(4,0),(5,0),(6,1),(7,1),(8,1),(9,0),(10,0),(11,0),(12,1),(13,0),(14,2),(15,0),(16,0)] mixed M6 Z (by kernel_rfl) (fun w7 M7=>(aV Z Z Z (fun _=>aD 6 fL Z) (aV Z Z Z (fun _=>aD 1 cS Z) (bP Z Z Z (aK 1 (.int _ _) aY M7 Z Z Z) (aV Z Z Z (fun _=>bH dY underlying2 Z (fJ _ (by omega) (by omega))) (kA Z Z Z ?_))))))))))))
  refine eD Z Z Z (bP Z Z Z (bJ (k) aKw Z Z Z ((RS.mem M7).below_len (aG cP (aG G hxb))) ((RS.mem M7).someK (aG cP (aG G hxb)))) (bP Z Z Z (aT 1 lW (RS.mem M7) (iR ((RS.mem M7).below_len (aG cP (aG G hxb)))) Z) (bP Z Z Z (dM (o:=1) (.int _ _) jM (RS.mem M7) (aG cP (aG G hxb)) Z Z) (aV Z Z Z (fun _=>bC Z Z (by omega) (by omega)) (aV Z Z Z (fun _=>aD 8 eB Z) (aV Z Z Z (fun _=>aD 1 cS Z) (bP Z Z Z (aK 1 (.int _ _) aY M7 Z Z Z) ?_)))))))
  refine aV Z Z Z (fun _=>bH dY underlying2 Z (fJ _ (by omega) (by omega))) (dI [true,false,false,false,false] Z (by kernel_rfl) (dN lQ Z Z M7 (fF _ xb.vy 64 (by decide) (by omega) (by omega)) (fun w8 M8 => ?_)))
  refine aB (aC ⟨(dS (bI Z (dM (o:=1) (.int _ _) jM (RS.mem M8) (aG cP (aG G hxb)) Z Z)) (dS (bI Z (aT 1 lW (RS.mem M8) (iR ((RS.mem M8).below_len (aG cP (aG G hxb)))) Z)) (dS (bI Z (bJ (k) aKw Z Z Z ((RS.mem M8).below_len (aG cP (aG G hxb))) ((RS.mem M8).someK (aG cP (aG G hxb))))) (dS (bI Z (aK 1 (.int _ _) aY M8 Z Z Z)) dJ)))), ?_⟩)
  refine aV Z Z Z (fun _=>bC Z Z (by omega) (by omega)) (dV 53 (.int .i64 (aIv xb (G xb).2)) Z (mW Z Z Z (bS (aC (aE (aA (aQ Z Z (dN xM Z Z M8 (kY _ (aIu xb (G xb).1) 1073741824 ⟨by decide,by decide⟩) (fun w9 M9=>(wq (bH mV underlying21 Z (jQ _ (by omega) (by omega))) Z (aQ Z Z (dN xM Z Z M9 (kY _ (aIv xb (G xb).2) 1073741824 ⟨by decide,by decide⟩) (fun w10 M10=>(wq (bH mV underlying21 Z (jQ _ (by omega) (by omega))) Z (wq (cB [(0,.int _ _),(1,.int _ _)] _ eZ Z Z) Z ?_)))))))))))))))
  refine wq (aD 6 fL Z) Z (vB 1 _ bO M10 Z Z Z Z Z (aS Z) (Nat.le_of_ble_eq_true Z) (fun w11 M11=>(aB (aC (aE (aA (wq (aH (.bool _) Z) Z (wq (aH (.bool _) Z) Z ?_))))))))
  refine kM 63 _ Z (fun g63 => ?_) (fun g63 => ?_)
  ·refine aN Z Z (aN Z Z (aN Z Z (aN Z Z (aN Z Z (aN Z Z (wq (bR true (.bool true) Z Z) Z (wq (aH (.bool true) Z) Z (aN Z Z (aN Z Z (aN Z Z (aN Z Z (aN Z Z (aN Z Z (wq (bR true (.bool true) Z Z) Z (wq (aJ (.bool true) Z) Z ?_)))))))))))))))
   refine aB (aC (aA (dK rfl rfl (wq (aX 1 bQ M11 rfl rfl rfl) rfl (cC [.agg (List.toArray _)] [aF (uI xb (G xb).1 (G xb).2)] rfl dP M11 rfl rfl rfl rfl (cU rfl) (by decide) (fun b12 w12 M12=>(cW 0 [aF (uI xb (G xb).1 (G xb).2)] dP M12 rfl rfl rfl rfl rfl hq rfl (by simp [aF,Go.Bil.one]) (dL.ofMem 2 M12 rfl) (by omega) (fun A13 c13 e13 w13 M13 hR13=>(eH rfl rfl (aB (cR (aC (aA (aQ rfl rfl (wq (bC rfl rfl (by omega) (by omega)) rfl (bK rfl rfl (aB ?_)))))))))))))))))
   refine bX (k+1,⟨A13,q.n+1,c13,e13⟩) (bE Z (bE (bv Z (by rw [cH hxb,List.any_append,List.any_cons,List.any_nil,Bool.or_false];rw [g63,Bool.true_or])) (bE Z dZ))) (bZ Z (bZ Z (bZ Z (bZ Z gK)))) ?_ ?_
   ·exact ⟨⟨by omega,by rw [cH hxb,List.map_append,List.map_append];exact hR13⟩,M13.keep [true,false,false]⟩
   ·(show n - (k+1) < n - k;omega)
  ·refine wq (aD 6 fL Z) Z (wq (aD 0 cV Z) Z (wq (aK 1 (.int _ _) aY M11 Z Z Z) Z (wq (bH dY underlying2 Z (fJ _ (by omega) (by omega))) Z (aQ Z Z (cX Z Z Z Z (wq (bR false (.bool (decide _)) Z Z) Z (wq (aH (.bool (decide _)) Z) Z ?_)))))))
   refine dQ 71 Z (fun g71 => ?_) (fun g71 => ?_)
   ·refine aN rfl rfl (aN rfl rfl (aN rfl rfl (aN rfl rfl (aN rfl rfl (aN rfl rfl (wq (bR true (.bool true) rfl rfl) rfl (wq (aJ (.bool true) rfl) rfl (aB (aC (aA (dK rfl rfl (wq (aX 1 bQ M11 rfl rfl rfl) rfl (cC [.agg (List.toArray _)] [aF (uI xb (G xb).1 (G xb).2)] rfl dP M11 rfl rfl rfl rfl (cU rfl) (by decide) (fun b14 w14 M14=>(cW 0 [aF (uI xb (G xb).1 (G xb).2)] dP M14 rfl rfl rfl rfl rfl hq rfl (by simp [aF,Go.Bil.one]) (dL.ofMem 2 M14 rfl) (by omega) (fun A15 c15 e15 w15 M15 hR15=>(eH rfl rfl ?_)))))))))))))))))
    refine aB (cR (aC (aA (aQ Z Z (wq (bC Z Z (by omega) (by omega)) Z (bK Z Z (aB ?_)))))))
    refine bX (k+1,⟨A15,q.n+1,c15,e15⟩) (bE rfl (bE (bv rfl (by rw [cH hxb,List.any_append,List.any_cons,List.any_nil,Bool.or_false];rw [g63];simp [aIy,g71])) (bE rfl dZ))) (bZ rfl (bZ rfl (bZ rfl (bZ rfl gK)))) ?_ ?_
    ·exact ⟨⟨by omega,by rw [cH hxb,List.map_append,List.map_append];exact hR15⟩,M15.keep [true,false,false]⟩
    ·(show n - (k+1) < n - k;omega)
   ·refine wq (aD 6 fL rfl) rfl (wq (aD 1 cS rfl) rfl (wq (aK 1 (.int _ _) aY M11 rfl rfl rfl) rfl (wq (bH dY underlying2 rfl (fJ _ (by omega) (by omega))) rfl (aQ rfl rfl (cX rfl rfl rfl rfl (wq (bR false (.bool (decide _)) rfl rfl) rfl (wq (aJ (.bool (decide _)) rfl) rfl (aB (aC (aA (dK rfl rfl (wq (aX 1 bQ M11 rfl rfl rfl) rfl (cC [.agg (List.toArray _)] [aF (uI xb (G xb).1 (G xb).2)] rfl dP M11 rfl rfl rfl rfl (cU rfl) (by decide) (fun b16 w16 M16=>(cW 0 [aF (uI xb (G xb).1 (G xb).2)] dP M16 rfl rfl rfl rfl rfl hq rfl (by simp [aF,Go.Bil.one]) (dL.ofMem 2 M16 rfl) (by omega) (fun A17 c17 e17 w17 M17 hR17 => ?_))))))))))))))))
    refine eH Z Z (aB (cR (aC (aA (aQ Z Z (wq (bC Z Z (by omega) (by omega)) Z (bK Z Z (aB ?_))))))))
    refine bX (k+1,⟨A17,q.n+1,c17,e17⟩) (bE rfl (bE (bv rfl (by rw [cH hxb,List.any_append,List.any_cons,List.any_nil,Bool.or_false];rw [g63];simp [aIy,g71])) (bE rfl dZ))) (bZ rfl (bZ rfl (bZ rfl (bZ rfl gK)))) ?_ ?_
    ·exact ⟨⟨by omega,by rw [cH hxb,List.map_append,List.map_append];exact hR17⟩,M17.keep [true,false,false]⟩
    ·(show n - (k+1) < n - k;omega)
 ·have hkn:k=n:=by omega
  rw [List.take_of_length_le (by omega)] at hq
  refine cN (dC (dE (eJ (aC (aE (aA (dK Z Z (wq (aH (.bool _) Z) Z (eH Z Z (wq (aJ (.bool _) Z) Z (aB (aC (aO (fX (.slice _ _ _) (.bool _) Z Z ?_))))))))))))))
  exact ⟨q,uW Z (congrArg Value.bool (by rw [List.take_of_length_le (by omega)])),hq,hM2⟩
theorem aTu (w:World) (A:Option Addr) (n c:Nat) (xs:List Body) (R:Rd w 10 A n (xs.map aF)) (hb:∀ b∈xs,Okb b) (hs:cZ xs) (hn:n≤4096) :
  Calls prog 62 #[.slice A n c] w (gH (fun v w'=>∃ r:Row,v=.tuple #[.slice r.A r.n r.c,.int .i64 ((lT xs).length:Int),.bool (aAd xs)]∧aZ 43 10 r.A r.n r.c ((rD xs).map aF) r.e∧Mem w [] [r.e] w')):=by
 have hlen:xs.length=n:=by simpa using R.len
 have hnn:xs.length*xs.length≤4096*4096:=Nat.mul_le_mul (by omega) (by omega)
 have hcl:=aEm xs
 have hsq:=aVj (xs:=xs)
 refine aI #[.tmp 2,.tmp 3,.tmp 4] 43 func62 Z results62 ntmps62 Z ?_
 have M0:=Mem.refl w
 refine aE (aA (eH Z Z (bK Z Z (wq (aJ (.bool false) Z) Z (aB (aC (aE (aA (dK Z Z (eP bVa Z Z (bAd _ _ _ _ xs (R.mem M0) hb hs (by first | decide | omega)) ?_))))))))))
 rintro v1 w1 ⟨r,rfl,hr,hM1⟩
 have M1:Mem _ _ [_] _:=M0.call0 hM1
 have hrn:(lT xs).length=r.n:=by simpa using hr.1
 refine eH Z Z (aB (aC (aE (aA (dK Z Z (eP bVb Z Z (aIz _ A n c xs (R.mem M1) hb (by omega)) ?_))))))
 rintro v2 w2 ⟨g,rfl,hg,hM2⟩
 have M2:Mem _ _ [_,_] _:=M1.call0 hM2
 have hgn:(qS xs).length=g.n:=by simpa using hg.1
 have hgl:=(lG xs).len
 refine wq (aH (.tuple (List.toArray _)) Z) Z (wq (bM (.slice _ _ _) Z Z) Z (wq (bM (.bool _) Z Z) Z (eH Z Z (wq (aJ (.bool _) Z) Z (aB (aC (aE (aA (dK Z Z (dK Z Z (eP bVc Z Z (aQr _ g.A g.n g.c (qS xs) (hg.rd M2 (bA (i:=1) Z)) ((lG xs).sorted hs) (zD hb) (by omega) r.A r.n r.c (lT xs) (hr.rd M2 (bA (i:=0) Z)) (fun c h=>(lG xs).okc (rO hs hb c h)) (by omega)) ?_)))))))))))
 rintro v3 w3 ⟨⟨sA,sn,sc,se⟩,rfl,hsv,hM3⟩
 have hsn:(mD xs).length=sn:=by have h:=hsv.1;rwa [List.length_map] at h
 have hlk:Like xs (mD xs):=(lG xs).trans (jP _ _ 4)
 have hsl:=hlk.len
 obtain rfl:n=sn:=by omega
 have M3:Mem _ _ [_,_,_] _:=M2.call0 hM3
 refine wq (aH (.tuple (List.toArray _)) Z) Z (wq (bM (.slice _ _ _) Z Z) Z (wq (bM (.bool _) Z Z) Z (eH Z Z (wq (aJ (.bool _) Z) Z (aB (aC (aE (aA (dK Z Z (dK Z Z (dK Z Z (eP bVe Z Z (aNh _ A n c xs (R.mem M3) hs hb (by omega) r.A r.n r.c (lT xs) (hr.rd M3 (bA (i:=0) Z)) (rO hs hb) (by omega)) ?_))))))))))))
 rintro v4 w4 ⟨⟨qA,qn,qc,qe⟩,rfl,hq,hM4⟩
 have hqn:xs.length=qn:=by simpa using hq.1
 obtain rfl:n=qn:=by omega
 rw [aHe hlk] at hq
 have M4:Mem _ _ [_,_,_,_] _:=M3.call0 hM4
 refine eP bVd Z Z (aTt _ sA n sc (mD xs) (hsv.rd M4 (bA (i:=2) Z)) (sG (zD hb) 4) (by omega) (kL xs (lT xs)) (aXe hs hb (rO hs hb) (by omega) hlk) qA qc (hq.rd M4 (bA (i:=3) Z))) ?_
 rintro v5 w5 ⟨m,rfl,hm,hM5⟩
 have M5:Mem _ _ [_,_,_,_,_] _:=M4.call0 hM5
 refine wq (aH (.tuple (List.toArray _)) Z) Z (wq (bM (.slice _ _ _) Z Z) Z (wq (bM (.bool _) Z Z) Z (eH Z Z (wq (aJ (.bool _) Z) Z (aB (aC (aE (aA (dK Z Z (dK Z Z (wq (cK underlying148 Z) Z (wq (aH (.bool _) Z) Z (wq (aH (.bool _) Z) Z ?_)))))))))))))
 refine kM 37 _ Z (fun g37 => ?_) (fun g37 => ?_)
 ·refine aN Z Z (wq (bR true (.bool true) Z Z) Z (wq (aH (.bool true) Z) Z (aN Z Z (wq (bR true (.bool true) Z Z) Z (eH Z Z (bK Z Z (wq (aJ (.bool true) Z) Z (aB (aC (aO (bEh (.slice _ _ _) (.int _ _) (.bool true) Z Z Z ?_)))))))))))
  exact ⟨m,bSk rfl (iE (by rw [hrn])) (congrArg Value.bool (by rw [aHj];first | (simp only [g37,Bool.true_or];done) | (simp only [g37,g40,Bool.false_or,Bool.true_or];done) | (rw [g37,g40];rfl))),hm,M5.keep [false,false,false,false,true]⟩
 ·refine wq (aH (.bool _) Z) Z (wq (bR false (.bool _) Z Z) Z (wq (aH (.bool _) Z) Z ?_))
  refine kM 40 _ Z (fun g40 => ?_) (fun g40 => ?_)
  ·refine aN Z Z (wq (bR true (.bool true) Z Z) Z (eH Z Z (bK Z Z (wq (aJ (.bool true) Z) Z (aB (aC (aO (bEh (.slice _ _ _) (.int _ _) (.bool true) Z Z Z ?_))))))))
   exact ⟨m,bSk rfl (iE (by rw [hrn])) (congrArg Value.bool (by rw [aHj];first | (simp only [g37,Bool.true_or];done) | (simp only [g37,g40,Bool.false_or,Bool.true_or];done) | (rw [g37,g40];rfl))),hm,M5.keep [false,false,false,false,true]⟩
  ·refine wq (aH (.bool _) Z) Z (wq (bR false (.bool _) Z Z) Z (eH Z Z (bK Z Z (wq (aJ (.bool _) Z) Z (aB (aC (aO (bEh (.slice _ _ _) (.int _ _) (.bool _) Z Z Z ?_))))))))
   exact ⟨m,bSk rfl (iE (by rw [hrn])) (congrArg Value.bool (by rw [aHj];first | (simp only [g37,Bool.true_or];done) | (simp only [g37,g40,Bool.false_or,Bool.true_or];done) | (rw [g37,g40];rfl))),hm,M5.keep [false,false,false,false,true]⟩
end Go.Proofs.YtpcloigancpnbaaGreatDoor
