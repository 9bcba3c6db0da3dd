/- Part of the proof of a law of this seat (12 texts). No conditions. -/
import Derived.Test.YtaoaknafiegfoaaGreatDoorK27
import Derived.Test.YtaoaknafiegfoaaGreatDoorK31
set_option linter.unusedVariables false
set_option linter.unusedSimpArgs false
set_option linter.unnecessarySimpa false
set_option maxHeartbeats 100000000
namespace Go.Proofs.YtaoaknafiegfoaaGreatDoor
open Go.Bil
open Go.RowKit (Below)
open Go.Proofs
open Go.Proofs.Tryz
theorem pQ (w:World) (a l:Int) (hl:0≤l∧l≤2147483647) (bf:Nat) (fl:Bool) (F:Option Addr) (cf:Nat) (RF:Rd w 1 F 1 [[.pointer (some ⟨bf,0,none⟩)]]) (hdF:0 < 1→∀ q off,F=some ⟨q,off,none⟩→q∉cD [(some bf,bc [.bool fl] 4)]) (hO:Own [(some bf,bc [.bool fl] 4)] w) :
  Calls prog 112 #[.int .i64 a,.int .i64 l,.slice F 1 cf] w (gY (fun v w'=>v=.int .i32 (kF a l)∧Mem w (cD [(some bf,bc [.bool fl] 4)]) [(some bf,bc [.bool (fl || decide (kF a l≠a))] 4)] w')):=by
 have hr:=fJ a hl.1
 refine aI #[.tmp 6] 34 func112 Z results112 ntmps112 Z ?_
 have M0:=hO.mem
 refine aE (aA (bL Z Z (aB (aC (aE (aA (aT Z Z (aT Z Z (dM aUl Z Z M0 (aHo _ a l (by omega)) (fun w1 M1=>(wq (aH (.tuple (List.toArray _)) Z) Z (wq (bJ (.int _ _) Z Z) Z (wq (bJ (.bool (decide _)) Z Z) Z (bL Z Z (wq (aJ (.bool (decide _)) Z) Z (aB (aC (aE (aE (aA (dJ Z Z (wq (bW underlying201 Z) Z (aL 18 (.int .i64 1) (iE Z) (aT Z Z ?_))))))))))))))))))))))))
 refine aB (aC (aS (kC 2 (gD (aE (aA (cV Z Z Z Z (jU 20 Z (by first | decide | omega) (aB (aC (aE (cE Z (aM (aC (aE (aS (aE (aA (wq (bG (0) aMm Z Z Z ((RF.memY M1 hdF).below_len ((show ([[.pointer (some ⟨bf,0,none⟩)]]:List (List Value))[0]? = some [.pointer (some ⟨bf,0,none⟩)] from Z))) ((RF.memY M1 hdF).someK ((show ([[.pointer (some ⟨bf,0,none⟩)]]:List (List Value))[0]? = some [.pointer (some ⟨bf,0,none⟩)] from Z)))) Z (wq (fG (.pointer _) bVf (RF.memY M1 hdF) ((show ([[.pointer (some ⟨bf,0,none⟩)]]:List (List Value))[0]? = some [.pointer (some ⟨bf,0,none⟩)] from Z)) Z) Z ?_))))))))))))))))))))
 refine wq (aJ (.pointer _) Z) Z (aB (aC (aA (wq (aH (.pointer _) Z) Z (wq (aH (.pointer _) Z) Z (wq (bN Z) Z (wq (aK 0 (.bool _) rR M1 Z Z Z) Z (wq (aH (.bool _) Z) Z ?_))))))))
 refine kH 27 _ Z (fun g27 => ?_) (fun g27 => ?_)
 ·refine aQ Z Z (wq (bM true (.bool true) Z Z) Z (wq (bN Z) Z (dA 0 (.bool true) rR M1 Z Z Z Z Z Z (fun w2 M2=>(aB (cS (aC (aA (wq (bE Z Z (by first | decide | omega) (by first | decide | omega)) Z (aL 31 (.int .i64 1) (iE (by first | decide | omega)) (aT Z Z (aB (aC (gD (aE (aA (cV Z Z Z Z (nP 20 Z (by first | decide | omega) (aB (aC (aE ?_)))))))))))))))))))))
  refine cB Z (cM (cZ (cZ (eL (aC (aE (aA (aT Z Z (wq (bK nU underlying21 Z (kM _ (by omega) (by omega))) Z (bL Z Z (aB (aC (aR (cF (.int _ _) Z ?_))))))))))))))
  first | exact ⟨rfl,by rw [(by simp only [g27,Bool.true_or]:(fl || decide (kF a l≠a))=true)];exact M2⟩ | exact ⟨rfl,by rw [(by simp only [g27,Bool.false_or]:(fl || decide (kF a l≠a))=decide (kF a l≠a))];exact M2⟩
 ·refine wq (aH (.bool (decide _)) Z) Z (wq (bM false (.bool (decide _)) Z Z) Z (wq (bN Z) Z (dA 0 (.bool (decide _)) rR M1 Z Z Z Z Z Z (fun w3 M3=>(aB (cS (aC (aA (wq (bE Z Z (by first | decide | omega) (by first | decide | omega)) Z (aL 31 (.int .i64 1) (iE (by first | decide | omega)) (aT Z Z (aB (aC (gD (aE (aA (cV Z Z Z Z (nP 20 Z (by first | decide | omega) (aB (aC (aE ?_)))))))))))))))))))))
  refine cB Z (cM (cZ (cZ (eL (aC (aE (aA (aT Z Z (wq (bK nU underlying21 Z (kM _ (by omega) (by omega))) Z (bL Z Z (aB (aC (aR (cF (.int _ _) Z ?_))))))))))))))
  first | exact ⟨rfl,by rw [(by simp only [g27,Bool.true_or]:(fl || decide (kF a l≠a))=true)];exact M3⟩ | exact ⟨rfl,by rw [(by simp only [g27,Bool.false_or]:(fl || decide (kF a l≠a))=decide (kF a l≠a))];exact M3⟩
theorem bBv (w:World) (i:Int) (b:Body) (hb:Okb b) (bf:Nat) (fl:Bool) (hO:Own [(some bf,bc [.bool fl] 4)] w) :
  Calls prog 110 #[.int .i64 i,(.agg (aF b).toArray),.pointer (some ⟨bf,0,none⟩)] w (gY (fun v w'=>v=(.agg (aF (qI b)).toArray)∧Mem w (cD [(some bf,bc [.bool fl] 4)]) [(some bf,bc [.bool (fl || nH b)] 4)] w')):=by
 have hv:=hb.v
 refine aI #[.cell 5 39] 19 func110 Z results110 ntmps110 Z ?_
 have M0:=hO.mem
 refine aE (aA (bO (.agg (.mk _)) M0 Z Z Z (fun b1 w1 M1=>(aO gL M1 Z Z (fun b2 w2 M2=>(aB (aC (aE (aE (aA (wq (aV 1 bR M2 Z Z Z) Z (dM bRi Z Z M2 (aJx _ b) (fun w3 M3=>(wq (pT Z) Z (aB (aC ?_))))))))))))))))
 refine aW Z (fun h8 => ?_) (fun h8 => ?_)
 ·refine aA (wq (aD 8 eH Z) Z (wq (aD 1 cW Z) Z (wq (aK 1 (.int _ _) bB M3 Z Z Z) Z (wq (bK eF underlying2 Z (fU _ (by omega) (by omega))) Z (wq (gX Z Z (by omega) (by omega)) Z (bV [.pointer _] [[.pointer (some ⟨bf,0,none⟩)]] Z aMm M3 Z Z Z Z (cO Z) (by decide) (fun b4 w4 M4 => ?_)))))))
  have hlit14:=lV (T:=174) (sz:=1) (b:=b4) (nn:=1) [[.pointer (some ⟨bf,0,none⟩)]] (by simp) rfl (by decide)
  refine eJ aGl Z Z (pQ _ (b.vy - 1024) 16777216 ⟨by decide,by decide⟩ bf _ _ 1 (hlit14.rd M4 (aN (i:=3) Z)) (hlit14.awayB M4 3 0 Z Z Z) (M4.ownSeg 0 1)) ?_
  rintro v5 w5 ⟨rfl,hM5⟩
  have M5:Mem _ _ [_,_,_,_] _:=M4.seg 0 1 hM5
  refine wq (aD 8 eH Z) Z (wq (aD 1 cW Z) Z (dA 1 (.int _ _) bB M5 Z Z Z Z Z Z (fun w6 M6=>(aB (aC (aE (aA (wq (aV 1 bR M6 Z Z Z) Z (bC 2 _ bR M6 Z Z Z Z Z (aP Z) Z (fun w7 M7=>(aB (aC (aR (fA 2 bR M7 Z Z Z ?_))))))))))))))
  exact ⟨by unfold qI;rw [if_neg h8];rfl,by rw [show nH b=decide (kF (b.vy - 1024) 16777216≠b.vy - 1024) by unfold nH;rw [decide_eq_true h8,Bool.true_and]];exact M7.keep [true,false,false,false]⟩
 ·refine aM (aC (aE (aA (wq (aV 1 bR M3 Z Z Z) Z (bC 2 _ bR M3 Z Z Z Z Z (aP Z) Z (fun w8 M8=>(aB (aC (aR (fA 2 bR M8 Z Z Z ?_))))))))))
  exact ⟨by unfold qI;rw [if_pos (Decidable.not_not.1 h8)];rfl,by rw [show nH b=false by unfold nH;rw [decide_eq_false h8,Bool.false_and],Bool.or_false];exact M8.keep [true,false,false]⟩
theorem aVp (w:World) (A:Option Addr) (n c:Nat) (xs:List Body) (R:Rd w 10 A n (xs.map aF)) (hb:∀ b∈xs,Okb b) (hn:n≤1048576) (bf:Nat) (hO:Own [(some bf,bc [.bool false] 4)] w) (hdA:0 < n→∀ q off,A=some ⟨q,off,none⟩→q∉cD [(some bf,bc [.bool false] 4)]) :
  Calls prog 109 #[.slice A n c,.func (.func 110) #[] #[.pointer (some ⟨bf,0,none⟩)]] w (gY (fun v w'=>∃ r:Row,v=.slice r.A r.n r.c∧bA 39 10 r.A r.n r.c ((rZ xs).map aF) r.e∧Mem w (cD [(some bf,bc [.bool false] 4)]) [(some bf,bc [.bool (xs.any nH)] 4),r.e] w')):=by
 have hlen:xs.length=n:=by simpa using R.len
 have hbd:=R.bound
 refine aI #[.tmp 4] 24 func109 Z results109 ntmps109 Z ?_
 have M0:=hO.mem
 refine aE (aA (eI Z Z (aB (aC (aE (aA (eI Z Z ?_)))))))
 have M1:=M0.dummy default
 refine aB (aC (aE (aE (aA (dJ Z Z (wq (bW underlying29 Z) Z (aT Z Z (aB (aC (aS (dK (σ:=Nat × Row) [1,4,8,9] (fun (k,q)=>[(5,.slice q.A q.n q.c),(10,.int .i64 (k:Int))]) (fun (k,q) w'=>(k≤n∧bA 39 10 q.A q.n q.c (((xs.take k).map qI).map aF) q.e)∧Mem w (cD [(some bf,bc [.bool false] 4)]) [(some bf,bc [.bool ((xs.take k).any nH)] 4),q.e] w') (fun (k,q)=>n - k) (0,eN) (bI Z (bI Z eC)) (⟨⟨by omega,bA.nil _ _ _⟩,M1⟩) ?_)))))))))))
 rintro ⟨k,q⟩ ρ2 w2 ⟨⟨hk,hq⟩,hM2⟩
 have htl:=List.length_take_le k xs
 have hqn:(xs.take k).length=q.n:=by simpa using hq.1
 refine aE (aA (cV Z Z Z Z (aB (aC (aE ?_)))))
 refine aW Z (fun h11 => ?_) (fun h11 => ?_)
 ·obtain ⟨xb,hxb⟩:=cG (xs:=xs) (k:=k) hlen (by omega)
  refine aM (aC (aE (aS (aE (aA (aT Z Z (wq (bG (k) dU Z Z Z ((R.memY hM2 hdA).below_len (aG aF hxb)) ((R.memY hM2 hdA).someK (aG aF hxb))) Z (wq (dQ _ bR (R.memY hM2 hdA) (aG aF hxb) Z) Z (aO gL hM2 Z Z (fun b3 w3 M3=>(bL Z Z (bC 2 _ bR M3 Z Z Z Z Z (aP Z) Z (fun w4 M4=>(aB (aC (aA (dJ Z Z (wq (aH (.func _ _ _) Z) Z (aT Z Z (wq (aV 2 bR M4 Z Z Z) Z (eJ bRh Z Z (bBv _ _ xb (hb xb (List.mem_of_getElem? hxb)) bf _ (M4.ownSeg 0 1)) ?_)))))))))))))))))))))
  rintro v5 w5 ⟨rfl,hM5⟩
  have M5:Mem _ _ [_,_,_] _:=M4.seg 0 1 hM5
  refine bV [.agg (List.toArray _)] [aF (qI xb)] rfl dU M5 rfl rfl rfl rfl (cO rfl) (by decide) (fun b6 w6 M6=>(cP 1 [aF (qI xb)] dU M6 rfl rfl rfl rfl rfl hq rfl (by simp [aF,Go.Bil.one]) (dN.ofMem 3 M6 rfl) (by omega) (fun A7 c7 e7 w7 M7 hR7=>(eI rfl rfl (aB (cS (aC (aA (wq (bE rfl rfl (by omega) (by omega)) rfl (aT rfl rfl (aB ?_)))))))))))
  refine bU (k+1,⟨A7,q.n+1,c7,e7⟩) (bI Z (bI Z eC)) (bX Z (bX Z (bX Z (bX Z gR)))) ?_ ?_
  ·exact ⟨⟨by omega,by rw [cC hxb,List.map_append,List.map_append];exact hR7⟩,by rw [cC hxb,List.any_append,List.any_cons,List.any_nil,Bool.or_false];exact M7.keep [true,true,false,false]⟩
  ·(show n - (k+1) < n - k;omega)
 ·have hkn:k=n:=by omega
  rw [List.take_of_length_le (by omega)] at hq
  rw [List.take_of_length_le (by omega)] at hM2
  refine cM (cZ (dF (eL (aC (aE (aA (dJ Z Z (eI Z Z (aB (aC (aR (cF (.slice _ _ _) Z ?_))))))))))))
  exact ⟨q,Z,hq,hM2⟩
theorem aRu (w:World) (A:Option Addr) (n c:Nat) (xs:List Body) (R:Rd w 10 A n (xs.map aF)) (hb:∀ b∈xs,Okb b) (hn:n≤1048576) :
  Calls prog 66 #[.slice A n c] w (gY (fun v w'=>∃ r:Row,v=.tuple #[.slice r.A r.n r.c,.bool (xs.any nH)]∧bA 39 10 r.A r.n r.c ((rZ xs).map aF) r.e∧Mem w [] [r.e] w')):=by
 refine aI #[.tmp 2,.tmp 3] 11 func66 Z results66 ntmps66 Z ?_
 have M0:=Mem.refl w
 refine aE (aA (eI rfl rfl (wq (aJ (.bool false) rfl) rfl (aB (aC (aE (aA (aO bAi M0 rfl rfl (fun b1 w1 M1=>(dA 0 (.bool false) rR M1 rfl rfl rfl rfl rfl rfl (fun w2 M2=>(aB (aC (aE (aA (dJ rfl rfl (wq (eB [] [.pointer _] rfl rfl) rfl (eJ bEx rfl rfl (aVp _ A n c xs (R.mem M2) hb hn b1 (M2.ownSeg 0 1) (M2.away 0 1 R (by simp))) ?_))))))))))))))))))
 rintro v3 w3 ⟨r,rfl,hr,hM3⟩
 have M3:Mem _ _ [_,_] _:=M2.seg 0 1 hM3
 refine eI Z Z (aB (aC (aE (gJ [(0,0),(1,1),(2,0),(3,0)] mixed M3 Z (by kernel_rfl) (fun w4 M4=>(kB Z Z Z (bQ Z Z Z (aK 0 (.bool _) rR M4 Z Z Z) (aX Z Z Z (fun _=>aJ (.slice _ _ _) Z) (aX Z Z Z (fun _=>aJ (.bool _) Z) (bS (aC (aR (gE (.slice _ _ _) (.bool _) Z Z ?_)))))))))))))
 exact ⟨r,Z,hr,M4.keep [false,true]⟩
theorem bBw (w:World) (i:Nat) (b:Body) (hb:Okb b) (bf bl:Nat) (fl:Bool) (C:Option Addr) (m cm:Nat) (l:List (Int × Int)) (RS:Rd w 2 C m (l.map cT)) (s:Int × Int) (hs:l[i]? = some s) (hsb:(-1152921504606846976≤s.1∧s.1≤1152921504606846976) ∧ -1152921504606846976≤s.2∧s.2≤1152921504606846976) (hO:Own [(some bf,bc [.bool fl] 4),(some bl,bc [.slice C m cm] 127)] w) (hdS:0 < m→∀ q off,C=some ⟨q,off,none⟩→q∉cD [(some bf,bc [.bool fl] 4),(some bl,bc [.slice C m cm] 127)]) :
  Calls prog 113 #[.int .i64 (i:Int),(.agg (aF b).toArray),.pointer (some ⟨bl,0,none⟩),.pointer (some ⟨bf,0,none⟩)] w (gY (fun v w'=>v=(.agg (aF (wE b s.1 s.2)).toArray)∧Mem w (cD [(some bf,bc [.bool fl] 4),(some bl,bc [.slice C m cm] 127)]) [(some bf,bc [.bool (fl || aKk b s.1 s.2)] 4),(some bl,bc [.slice C m cm] 127)] w')):=by
 have hv:=hb.v
 have hpp:=hb.p
 have hlm:l.length=m:=by simpa using RS.len
 have hil:=(List.getElem?_eq_some_iff.1 hs).1
 refine aI #[.cell 6 39] 50 func113 Z results113 ntmps113 Z ?_
 have M0:=hO.mem
 refine aE (aA (bO (.agg (.mk _)) M0 Z Z Z (fun b1 w1 M1=>(aO gL M1 Z Z (fun b2 w2 M2=>(aB (aC (aE (gJ [(0,0),(1,0),(2,1),(3,0),(4,1),(5,0),(6,1),(7,1),(8,1),(9,0),(10,0),(11,0),(12,1),(13,0),(14,0),(15,0),(16,0)] mixed M2 Z (by kernel_rfl) (fun w3 M3=>(aX Z Z Z (fun _=>aD 6 fZ Z) (aX Z Z Z (fun _=>aD 0 cY Z) (bQ Z Z Z (aK 2 (.int _ _) bB M3 Z Z Z) (aX Z Z Z (fun _=>bK eF underlying2 Z (fU _ (by omega) (by omega))) (bQ Z Z Z (aK 1 (.slice _ _ _) aDe M3 Z Z Z) ?_)))))))))))))))
 refine eG Z Z Z (bQ Z Z Z (bG (i) aIx Z Z Z ((RS.memY M3 hdS).below_len (aG cT hs)) ((RS.memY M3 hdS).someK (aG cT hs))) (bQ Z Z Z (aU 0 aHf (RS.memY M3 hdS) (jD ((RS.memY M3 hdS).below_len (aG cT hs))) Z) (bQ Z Z Z (dR (o:=0) (.int _ _) kI (RS.memY M3 hdS) (aG cT hs) Z Z) (aX Z Z Z (fun _=>bE Z Z (by omega) (by omega)) (aX Z Z Z (fun _=>aD 8 eH Z) (aX Z Z Z (fun _=>aD 0 cY Z) (bQ Z Z Z (aK 2 (.int _ _) bB M3 Z Z Z) ?_)))))))
 refine aX Z Z Z (fun _=>lH Z Z (by decide)) (dX 22 (.int .i32 (b.vx / 64)) (iE (aRs _)) (aX Z Z Z (fun _=>bK eF underlying2 Z (fU _ (by omega) (by omega))) (aX Z Z Z (fun _=>bE Z Z (by omega) (by omega)) (dX 24 (.int .i64 (aKg b s.1)) Z (nV Z Z Z (bS (aC (aE (gJ [(0,0),(1,0),(2,1),(3,0),(4,1),(5,0),(6,1),(7,1),(8,1),(9,0),(10,0),(11,0),(12,1),(13,0),(14,0),(15,0),(16,0)] mixed M3 Z (by kernel_rfl) (fun w4 M4=>(aX Z Z Z (fun _=>aD 6 fZ Z) (aX Z Z Z (fun _=>aD 1 cW Z) ?_))))))))))))
 refine bQ Z Z Z (aK 2 (.int _ _) bB M4 Z Z Z) (aX Z Z Z (fun _=>bK eF underlying2 Z (fU _ (by omega) (by omega))) (bQ Z Z Z (aK 1 (.slice _ _ _) aDe M4 Z Z Z) (eG Z Z Z (bQ Z Z Z (bG (i) aIx Z Z Z ((RS.memY M4 hdS).below_len (aG cT hs)) ((RS.memY M4 hdS).someK (aG cT hs))) (bQ Z Z Z (aU 1 aHg (RS.memY M4 hdS) (jD ((RS.memY M4 hdS).below_len (aG cT hs))) Z) (bQ Z Z Z (dR (o:=1) (.int _ _) kI (RS.memY M4 hdS) (aG cT hs) Z Z) (aX Z Z Z (fun _=>bE Z Z (by omega) (by omega)) ?_)))))))
 refine aX Z Z Z (fun _=>aD 8 eH Z) (aX Z Z Z (fun _=>aD 1 cW Z) (bQ Z Z Z (aK 2 (.int _ _) bB M4 Z Z Z) (aX Z Z Z (fun _=>lH Z Z (by decide)) (dX 38 (.int .i32 (b.vy / 64)) (iE (aRs _)) (aX Z Z Z (fun _=>bK eF underlying2 Z (fU _ (by omega) (by omega))) (aX Z Z Z (fun _=>bE Z Z (by omega) (by omega)) (dX 40 (.int .i64 (aKh b s.2)) Z (nV Z Z Z (bS (aC (aE (aA (aT Z Z (bV [.pointer _] [[.pointer (some ⟨bf,0,none⟩)]] Z aMm M4 Z Z Z Z (cO Z) (by decide) (fun b5 w5 M5 => ?_)))))))))))))))
 have hlit42:=lV (T:=174) (sz:=1) (b:=b5) (nn:=1) [[.pointer (some ⟨bf,0,none⟩)]] (by simp) rfl (by decide)
 refine eJ aGl Z Z (pQ _ (aKg b s.1) 1073741824 ⟨by decide,by decide⟩ bf _ _ 1 (hlit42.rd M5 (aN (i:=4) Z)) (hlit42.awayB M5 4 0 Z Z Z) (M5.ownSeg 0 1)) ?_
 rintro v6 w6 ⟨rfl,hM6⟩
 have M6:Mem _ _ [_,_,_,_,_] _:=M5.seg 0 1 hM6
 refine aT Z Z (bV [.pointer _] [[.pointer (some ⟨bf,0,none⟩)]] Z aMm M6 Z Z Z Z (cO Z) (by decide) (fun b7 w7 M7 => ?_))
 have hlit45:=lV (T:=174) (sz:=1) (b:=b7) (nn:=1) [[.pointer (some ⟨bf,0,none⟩)]] (by simp) rfl (by decide)
 refine eJ aGl Z Z (pQ _ (aKh b s.2) 1073741824 ⟨by decide,by decide⟩ bf _ _ 1 (hlit45.rd M7 (aN (i:=5) Z)) (hlit45.awayB M7 5 0 Z Z Z) (M7.ownSeg 0 1)) ?_
 rintro v8 w8 ⟨rfl,hM8⟩
 have M8:Mem _ _ [_,_,_,_,_,_] _:=M7.seg 0 1 hM8
 refine wq (cI [(0,.int _ _),(1,.int _ _)] _ fK Z Z) Z (wq (aD 6 fZ Z) Z (wX 2 _ bP M8 Z Z Z Z Z (aP Z) (Nat.le_of_ble_eq_true Z) (fun w9 M9=>(aB (aC (aE (aA (wq (aV 2 bR M9 Z Z Z) Z (bC 3 _ bR M9 Z Z Z Z Z (aP Z) Z (fun w10 M10=>(aB (aC (aR (fA 3 bR M10 Z Z Z ?_))))))))))))))
 exact ⟨Z,by rw [show (fl || aKk b s.1 s.2)=((fl || decide (kF (aKg b s.1) 1073741824≠aKg b s.1)) || decide (kF (aKh b s.2) 1073741824≠aKh b s.2)) from (Bool.or_assoc _ _ _).symm];exact M10.keep [true,true,false,false,false,false]⟩
theorem aVq (w:World) (A:Option Addr) (n c:Nat) (xs:List Body) (R:Rd w 10 A n (xs.map aF)) (hb:∀ b∈xs,Okb b) (hn:n≤1048576) (bf bl:Nat) (G:Body→Int × Int) (hG:∀ b∈xs,(-1152921504606846976≤(G b).1∧(G b).1≤1152921504606846976) ∧ -1152921504606846976≤(G b).2∧(G b).2≤1152921504606846976) (C:Option Addr) (cm:Nat) (RS:Rd w 2 C n ((xs.map G).map cT)) (hO:Own [(some bf,bc [.bool false] 4),(some bl,bc [.slice C n cm] 127)] w) (hdA:0 < n→∀ q off,A=some ⟨q,off,none⟩→q∉cD [(some bf,bc [.bool false] 4),(some bl,bc [.slice C n cm] 127)]) (hdS:0 < n→∀ q off,C=some ⟨q,off,none⟩→q∉cD [(some bf,bc [.bool false] 4),(some bl,bc [.slice C n cm] 127)]) :
  Calls prog 109 #[.slice A n c,.func (.func 113) #[] #[.pointer (some ⟨bl,0,none⟩),.pointer (some ⟨bf,0,none⟩)]] w (gY (fun v w'=>∃ r:Row,v=.slice r.A r.n r.c∧bA 39 10 r.A r.n r.c ((xs.map (fun b=>wE b (G b).1 (G b).2)).map aF) r.e∧Mem w (cD [(some bf,bc [.bool false] 4),(some bl,bc [.slice C n cm] 127)]) [(some bf,bc [.bool (xs.any (fun b=>aKk b (G b).1 (G b).2))] 4),(some bl,bc [.slice C n cm] 127),r.e] w')):=by
 have hlen:xs.length=n:=by simpa using R.len
 have hbd:=R.bound
 refine aI #[.tmp 4] 24 func109 Z results109 ntmps109 Z ?_
 have M0:=hO.mem
 refine aE (aA (eI Z Z (aB (aC (aE (aA (eI Z Z ?_)))))))
 have M1:=M0.dummy default
 refine aB (aC (aE (aE (aA (dJ Z Z (wq (bW underlying29 Z) Z (aT Z Z (aB (aC (aS (dK (σ:=Nat × Row) [1,4,8,9] (fun (k,q)=>[(5,.slice q.A q.n q.c),(10,.int .i64 (k:Int))]) (fun (k,q) w'=>(k≤n∧bA 39 10 q.A q.n q.c (((xs.take k).map (fun b=>wE b (G b).1 (G b).2)).map aF) q.e)∧Mem w (cD [(some bf,bc [.bool false] 4),(some bl,bc [.slice C n cm] 127)]) [(some bf,bc [.bool ((xs.take k).any (fun b=>aKk b (G b).1 (G b).2))] 4),(some bl,bc [.slice C n cm] 127),q.e] w') (fun (k,q)=>n - k) (0,eN) (bI Z (bI Z eC)) (⟨⟨by omega,bA.nil _ _ _⟩,M1⟩) ?_)))))))))))
 rintro ⟨k,q⟩ ρ2 w2 ⟨⟨hk,hq⟩,hM2⟩
 have htl:=List.length_take_le k xs
 have hqn:(xs.take k).length=q.n:=by simpa using hq.1
 refine aE (aA (cV Z Z Z Z (aB (aC (aE ?_)))))
 refine aW Z (fun h11 => ?_) (fun h11 => ?_)
 ·obtain ⟨xb,hxb⟩:=cG (xs:=xs) (k:=k) hlen (by omega)
  refine aM (aC (aE (aS (aE (aA (aT Z Z (wq (bG (k) dU Z Z Z ((R.memY hM2 hdA).below_len (aG aF hxb)) ((R.memY hM2 hdA).someK (aG aF hxb))) Z (wq (dQ _ bR (R.memY hM2 hdA) (aG aF hxb) Z) Z (aO gL hM2 Z Z (fun b3 w3 M3=>(bL Z Z (bC 3 _ bR M3 Z Z Z Z Z (aP Z) Z (fun w4 M4=>(aB (aC (aA (dJ Z Z (wq (aH (.func _ _ _) Z) Z (aT Z Z (wq (aV 3 bR M4 Z Z Z) Z (eJ bRj Z Z (bBw _ k xb (hb xb (List.mem_of_getElem? hxb)) bf bl _ C n cm (xs.map G) (RS.memY M4 hdS) (G xb) (aG G hxb) (hG xb (List.mem_of_getElem? hxb)) (M4.ownSeg 0 2) (M4.away 0 2 RS hdS)) ?_)))))))))))))))))))))
  rintro v5 w5 ⟨rfl,hM5⟩
  have M5:Mem _ _ [_,_,_,_] _:=M4.seg 0 2 hM5
  refine bV [.agg (List.toArray _)] [aF (wE xb (G xb).1 (G xb).2)] rfl dU M5 rfl rfl rfl rfl (cO rfl) (by decide) (fun b6 w6 M6=>(cP 2 [aF (wE xb (G xb).1 (G xb).2)] dU M6 rfl rfl rfl rfl rfl hq rfl (by simp [aF,Go.Bil.one]) (dN.ofMem 4 M6 rfl) (by omega) (fun A7 c7 e7 w7 M7 hR7=>(eI rfl rfl (aB (cS (aC (aA (wq (bE rfl rfl (by omega) (by omega)) rfl (aT rfl rfl (aB ?_)))))))))))
  refine bU (k+1,⟨A7,q.n+1,c7,e7⟩) (bI Z (bI Z eC)) (bX Z (bX Z (bX Z (bX Z gR)))) ?_ ?_
  ·exact ⟨⟨by omega,by rw [cC hxb,List.map_append,List.map_append];exact hR7⟩,by rw [cC hxb,List.any_append,List.any_cons,List.any_nil,Bool.or_false];exact M7.keep [true,true,true,false,false]⟩
  ·(show n - (k+1) < n - k;omega)
 ·have hkn:k=n:=by omega
  rw [List.take_of_length_le (by omega)] at hq
  rw [List.take_of_length_le (by omega)] at hM2
  refine cM (cZ (dF (eL (aC (aE (aA (dJ Z Z (eI Z Z (aB (aC (aR (cF (.slice _ _ _) Z ?_))))))))))))
  exact ⟨q,Z,hq,hM2⟩
theorem bHr (w:World) (A:Option Addr) (n c:Nat) (xs:List Body) (R:Rd w 10 A n (xs.map aF)) (hb:∀ b∈xs,Okb b) (hn:n≤1048576) (G:Body→Int × Int) (hG:∀ b∈xs,(-1152921504606846976≤(G b).1∧(G b).1≤1152921504606846976) ∧ -1152921504606846976≤(G b).2∧(G b).2≤1152921504606846976) (C:Option Addr) (cm:Nat) (RS:Rd w 2 C n ((xs.map G).map cT)) :
  Calls prog 67 #[.slice A n c,.slice C n cm] w (gY (fun v w'=>∃ r:Row,v=.tuple #[.slice r.A r.n r.c,.bool (xs.any (fun b=>aKk b (G b).1 (G b).2))]∧bA 39 10 r.A r.n r.c ((xs.map (fun b=>wE b (G b).1 (G b).2)).map aF) r.e∧Mem w [] [r.e] w')):=by
 refine aI #[.tmp 4,.tmp 5] 13 func67 Z results67 ntmps67 Z ?_
 have M0:=Mem.refl w
 refine aE (aA (bO (.slice _ _ _) M0 Z Z Z (fun b1 w1 M1=>(eI Z Z (wq (aJ (.bool false) Z) Z (aB (aC (aE (aA (aO bAi M1 Z Z (fun b2 w2 M2=>(dA 1 (.bool false) rR M2 Z Z Z Z Z Z (fun w3 M3=>(aB (aC (aE (aA ?_)))))))))))))))))
 have M4:Mem _ _ [_,_] _:=Mem.swap2 M3
 refine dJ rfl rfl (wq (eB [] [.pointer _,.pointer _] rfl rfl) rfl (eJ bEx rfl rfl (aVq _ A n c xs (R.mem M4) hb hn b2 b1 G hG C cm (RS.mem M4) (M4.ownSeg 0 2) (M4.away 0 2 R (by simp)) (M4.away 0 2 RS (by simp))) ?_))
 rintro v5 w5 ⟨r,rfl,hr,hM5⟩
 have M5:Mem _ _ [_,_,_] _:=M4.seg 0 2 hM5
 refine eI Z Z (aB (aC (aE (gJ [(0,0),(1,1),(2,0),(3,0)] mixed M5 Z (by kernel_rfl) (fun w6 M6=>(kB Z Z Z (bQ Z Z Z (aK 0 (.bool _) rR M6 Z Z Z) (aX Z Z Z (fun _=>aJ (.slice _ _ _) Z) (aX Z Z Z (fun _=>aJ (.bool _) Z) (bS (aC (aR (gE (.slice _ _ _) (.bool _) Z Z ?_)))))))))))))
 exact ⟨r,Z,hr,M6.keep [false,false,true]⟩
theorem aXe (w:World) (bs:Nat) (vr lr:Row) (tt mm:Int) (cl:Bool) (A:Option Addr) (n c:Nat) (q:Row) (c2:Bool) (hO:Own [(some bs,bc [.slice A n c,.slice vr.A vr.n vr.c,.slice lr.A lr.n lr.c,.int .i64 tt,.int .i64 mm,.bool cl] 168)] w) :
  Calls prog 145 #[.pointer (some ⟨bs,0,none⟩),.slice q.A q.n q.c,.bool c2] w (gY (fun v w'=>v=.tuple #[]∧Mem w (cD [(some bs,bc [.slice A n c,.slice vr.A vr.n vr.c,.slice lr.A lr.n lr.c,.int .i64 tt,.int .i64 mm,.bool cl] 168)]) [(some bs,bc [.slice A n c,.slice q.A q.n q.c,.slice lr.A lr.n lr.c,.int .i64 tt,.int .i64 mm,.bool (cl || c2)] 168)] w')):=by
 refine aI #[] 22 func145 Z results145 ntmps145 Z ?_
 have M0:=hO.mem
 refine aE (aA (wq (aH (.pointer _) Z) Z (dJ Z Z (wq (bN Z) Z (wq (aD 1 aAm Z) Z (dA 0 (.slice _ _ _) iD M0 Z Z Z Z Z Z (fun w1 M1=>(aB (aC (aA (wq (aH (.pointer _) Z) Z (wq (aH (.pointer _) Z) Z (wq (bN Z) Z (wq (aD 3 tK Z) Z (wq (aD 2 aFr Z) Z (wq (aK 0 (.bool _) rR M1 Z Z Z) Z (wq (aH (.bool _) Z) Z ?_)))))))))))))))))
 refine kH 16 _ Z (fun g16 => ?_) (fun g16 => ?_)
 ·refine aQ Z Z (wq (bM true (.bool true) Z Z) Z (wq (bN Z) Z (wq (aD 3 tK Z) Z (wq (aD 2 aFr Z) Z (dA 0 (.bool true) rR M1 Z Z Z Z Z Z (fun w2 M2=>(aB (lF ?_))))))))
  first | exact ⟨rfl,by rw [(by simp only [g16,Bool.true_or]:(cl || c2)=true)];exact M2⟩ | exact ⟨rfl,by rw [(by simp only [g16,Bool.false_or]:(cl || c2)=c2)];exact M2⟩
 ·refine wq (aH (.bool _) Z) Z (wq (bM false (.bool _) Z Z) Z (wq (bN Z) Z (wq (aD 3 tK Z) Z (wq (aD 2 aFr Z) Z (dA 0 (.bool _) rR M1 Z Z Z Z Z Z (fun w3 M3=>(aB (lF ?_))))))))
  first | exact ⟨rfl,by rw [(by simp only [g16,Bool.true_or]:(cl || c2)=true)];exact M3⟩ | exact ⟨rfl,by rw [(by simp only [g16,Bool.false_or]:(cl || c2)=c2)];exact M3⟩
theorem bOf (w:World) (F:Rd w 2 (some ⟨0,0,none⟩) 1 [[.int .u32 73856093,.int .u32 19349663]]) (N:Rd w 4 (some ⟨3,0,none⟩) 1 [dY gZ]) (bs:Nat) (vr lr:Row) (tt mm:Int) (cl:Bool) (A:Option Addr) (n c:Nat) (xs:List Body) (R:Rd w 10 A n (xs.map aF)) (hb:∀ b∈xs,Okb b) (hs:dD xs) (hn:n≤4096) (hO:Own [(some bs,bc [.slice A n c,.slice vr.A vr.n vr.c,.slice lr.A lr.n lr.c,.int .i64 tt,.int .i64 mm,.bool cl] 168)] w) (hdA:0 < n→∀ q off,A=some ⟨q,off,none⟩→q∉cD [(some bs,bc [.slice A n c,.slice vr.A vr.n vr.c,.slice lr.A lr.n lr.c,.int .i64 tt,.int .i64 mm,.bool cl] 168)]) (hdF:0 < 1→∀ q off,(some ⟨0,0,none⟩:Option Addr)=some ⟨q,off,none⟩→q∉cD [(some bs,bc [.slice A n c,.slice vr.A vr.n vr.c,.slice lr.A lr.n lr.c,.int .i64 tt,.int .i64 mm,.bool cl] 168)]) (hdN:0 < 1→∀ q off,(some ⟨3,0,none⟩:Option Addr)=some ⟨q,off,none⟩→q∉cD [(some bs,bc [.slice A n c,.slice vr.A vr.n vr.c,.slice lr.A lr.n lr.c,.int .i64 tt,.int .i64 mm,.bool cl] 168)]) :
  Calls prog 105 #[.pointer (some ⟨bs,0,none⟩)] w (gY (fun v w'=>v=.tuple #[]∧∃ (r:Row) (m:Nat),(qH xs).length≤m∧2*m≤xs.length*(xs.length - 1)∧bA 211 5 r.A r.n r.c ((mM xs).map cQ) r.e∧Mem w (cD [(some bs,bc [.slice A n c,.slice vr.A vr.n vr.c,.slice lr.A lr.n lr.c,.int .i64 tt,.int .i64 mm,.bool cl] 168)]) [(some bs,bc [.slice A n c,.slice vr.A vr.n vr.c,.slice r.A r.n r.c,.int .i64 (m:Int),.int .i64 (r.n:Int),.bool cl] 168),r.e] w')):=by
 refine aI #[] 26 func105 Z results105 ntmps105 Z ?_
 have M0:=hO.mem
 refine aE (aA (wq (aH (.pointer _) Z) Z (wq (aH (.pointer _) Z) Z (wq (aH (.pointer _) Z) Z (wq (bN Z) Z (wq (aD 0 aHe Z) Z (wq (aK 0 (.slice _ _ _) iD M0 Z Z Z) Z (eJ bSg Z Z (aNt _ (F.memY M0 hdF) (N.memY M0 hdN) A n c xs (R.memY M0 hdA) hb hs hn) ?_))))))))
 rintro v1 w1 ⟨r,m,rfl,hm1,hm2,hr,hM1⟩
 have M1:Mem _ _ [_,_] _:=M0.call0 hM1
 refine wq (aH (.tuple (List.toArray _)) Z) Z (wq (bJ (.slice _ _ _) Z Z) Z (wq (bJ (.int _ _) Z Z) Z (wq (bN Z) Z (wq (aD 2 aAn Z) Z (dA 0 (.slice _ _ _) rG M1 Z Z Z Z Z Z (fun w2 M2=>(wq (bN Z) Z (wq (aD 3 tK Z) Z (wq (aD 0 bMg Z) Z (dA 0 (.int _ _) fE M2 Z Z Z Z Z Z (fun w3 M3=>(aB (aC (aA (wq (aH (.pointer _) Z) Z (wq (aH (.pointer _) Z) Z (wq (bN Z) Z (wq (aD 2 aAn Z) Z (wq (aK 0 (.slice _ _ _) rG M3 Z Z Z) Z ?_)))))))))))))))))))
 refine wq (bW underlying166 Z) Z (wq (bN Z) Z (wq (aD 3 tK Z) Z (wq (aD 1 aYx Z) Z (dA 0 (.int _ _) fE M3 Z Z Z Z Z Z (fun w4 M4=>(aB (lF ?_)))))))
 exact ⟨Z,r,m,hm1,hm2,hr,M4⟩
theorem bOe (w:World) (bs:Nat) (vr lr:Row) (tt mm:Int) (cl:Bool) (A:Option Addr) (n c:Nat) (xs:List Body) (R:Rd w 10 A n (xs.map aF)) (hb:∀ b∈xs,Okb b) (hn:n≤1048576) (hO:Own [(some bs,bc [.slice A n c,.slice vr.A vr.n vr.c,.slice lr.A lr.n lr.c,.int .i64 tt,.int .i64 mm,.bool cl] 168)] w) (hdA:0 < n→∀ q off,A=some ⟨q,off,none⟩→q∉cD [(some bs,bc [.slice A n c,.slice vr.A vr.n vr.c,.slice lr.A lr.n lr.c,.int .i64 tt,.int .i64 mm,.bool cl] 168)]) :
  Calls prog 106 #[.pointer (some ⟨bs,0,none⟩)] w (gY (fun v w'=>v=.tuple #[]∧∃ r:Row,bA 39 10 r.A r.n r.c ((rZ xs).map aF) r.e∧Mem w (cD [(some bs,bc [.slice A n c,.slice vr.A vr.n vr.c,.slice lr.A lr.n lr.c,.int .i64 tt,.int .i64 mm,.bool cl] 168)]) [(some bs,bc [.slice A n c,.slice r.A r.n r.c,.slice lr.A lr.n lr.c,.int .i64 tt,.int .i64 mm,.bool (cl || xs.any nH)] 168),r.e] w')):=by
 refine aI #[] 11 func106 Z results106 ntmps106 Z ?_
 have M0:=hO.mem
 refine aA (wq (aH (.pointer _) Z) Z (wq (aH (.pointer _) Z) Z (wq (bN Z) Z (wq (aD 0 aHe Z) Z (wq (aK 0 (.slice _ _ _) iD M0 Z Z Z) Z (eJ bWt Z Z (aRu _ A n c xs (R.memY M0 hdA) hb hn) ?_))))))
 rintro v1 w1 ⟨r,rfl,hr,hM1⟩
 have M1:Mem _ _ [_,_] _:=M0.call0 hM1
 refine wq (bJ (.slice _ _ _) Z Z) Z (wq (bJ (.bool _) Z Z) Z (eJ aUk Z Z (aXe _ bs vr lr tt mm cl A n c r _ (M1.ownSeg 0 1)) ?_))
 rintro v2 w2 ⟨rfl,hM2⟩
 have M2:Mem _ _ [_,_] _:=M1.seg 0 1 hM2
 refine aB (lF ?_)
 exact ⟨Z,r,hr,M2⟩
theorem bKh (w:World) (bs:Nat) (vr lr:Row) (tt mm:Int) (cl:Bool) (A:Option Addr) (n c:Nat) (ys:List Body) (cs:List Con) (RV:Rd w 10 vr.A vr.n (ys.map aF)) (RL:Rd w 5 lr.A lr.n (cs.map cQ)) (hs:dD ys) (hb:∀ b∈ys,Okb b) (hn:vr.n≤1048576) (hcs:∀ c∈cs,OkC ys c) (hmc:lr.n≤8589934592) (hO:Own [(some bs,bc [.slice A n c,.slice vr.A vr.n vr.c,.slice lr.A lr.n lr.c,.int .i64 tt,.int .i64 mm,.bool cl] 168)] w) (hdV:0 < vr.n→∀ q off,vr.A=some ⟨q,off,none⟩→q∉cD [(some bs,bc [.slice A n c,.slice vr.A vr.n vr.c,.slice lr.A lr.n lr.c,.int .i64 tt,.int .i64 mm,.bool cl] 168)]) (hdL:0 < lr.n→∀ q off,lr.A=some ⟨q,off,none⟩→q∉cD [(some bs,bc [.slice A n c,.slice vr.A vr.n vr.c,.slice lr.A lr.n lr.c,.int .i64 tt,.int .i64 mm,.bool cl] 168)]) :
  Calls prog 107 #[.pointer (some ⟨bs,0,none⟩)] w (gY (fun v w'=>v=.tuple #[]∧∃ r:Row,bA 39 10 r.A r.n r.c (((iZ ys cs 4).1).map aF) r.e∧Mem w (cD [(some bs,bc [.slice A n c,.slice vr.A vr.n vr.c,.slice lr.A lr.n lr.c,.int .i64 tt,.int .i64 mm,.bool cl] 168)]) [(some bs,bc [.slice A n c,.slice r.A r.n r.c,.slice lr.A lr.n lr.c,.int .i64 tt,.int .i64 mm,.bool (cl || (iZ ys cs 4).2)] 168),r.e] w')):=by
 refine aI #[] 15 func107 Z results107 ntmps107 Z ?_
 have M0:=hO.mem
 refine gJ [(0,0),(1,0),(2,0),(3,0),(4,1),(5,0),(6,0),(7,0),(8,1),(9,2),(10,0),(11,0),(12,2)] mixed M0 Z (by kernel_rfl) (fun w1 M1=>(aX Z Z Z (fun _=>aH (.pointer _) Z) (aX Z Z Z (fun _=>aH (.pointer _) Z) (aX Z Z Z (fun _=>bN Z) (aX Z Z Z (fun _=>aD 1 aAm Z) (bQ Z Z Z (aK 0 (.slice _ _ _) iD M1 Z Z Z) (aX Z Z Z (fun _=>aH (.pointer _) Z) (aX Z Z Z (fun _=>bN Z) (aX Z Z Z (fun _=>aD 2 aAn Z) (bQ Z Z Z (aK 0 (.slice _ _ _) rG M1 Z Z Z) ?_))))))))))
 refine dO [true,true] Z (by kernel_rfl) (eJ bSh Z Z (bBy _ vr.A vr.n vr.c ys (RV.memY M1 hdV) hs hb hn lr.A lr.n lr.c cs (RL.memY M1 hdL) hcs hmc) ?_)
 rintro v2 w2 ⟨r,rfl,hr,hM2⟩
 have M2:Mem _ _ [_,_] _:=M1.call0 hM2
 refine aB (aC ⟨dI, ?_⟩)
 refine aX Z Z Z (fun _=>bJ (.slice _ _ _) Z Z) (aX Z Z Z (fun _=>bJ (.bool _) Z Z) (dO [] Z (by kernel_rfl) (eJ aUk Z Z (aXe _ bs vr lr tt mm cl A n c r _ (M2.ownSeg 0 1)) ?_)))
 rintro v3 w3 ⟨rfl,hM3⟩
 have M3:Mem _ _ [_,_] _:=M2.seg 0 1 hM3
 refine aB (aC ⟨dI, ?_⟩)
 refine bS (lF ?_)
 exact ⟨Z,r,hr,M3⟩
theorem bOg (w:World) (bs:Nat) (vr lr:Row) (tt mm:Int) (cl:Bool) (A:Option Addr) (n c:Nat) (xs:List Body) (R:Rd w 10 A n (xs.map aF)) (ys:List Body) (cs:List Con) (RV:Rd w 10 vr.A vr.n (ys.map aF)) (RL:Rd w 5 lr.A lr.n (cs.map cQ)) (hs:dD xs) (hb:∀ b∈xs,Okb b) (hb2:∀ b∈ys,Okb b) (hn:n≤1048576) (hvn:vr.n=n) (hcs:∀ c∈cs,OkC xs c) (hmc:lr.n≤1073741824) (hsh:xs.map (lI xs cs)=ys.map (lI xs cs)) (hG:∀ b∈ys,(-1152921504606846976≤(lI xs cs b).1∧(lI xs cs b).1≤1152921504606846976) ∧ -1152921504606846976≤(lI xs cs b).2∧(lI xs cs b).2≤1152921504606846976) (hO:Own [(some bs,bc [.slice A n c,.slice vr.A vr.n vr.c,.slice lr.A lr.n lr.c,.int .i64 tt,.int .i64 mm,.bool cl] 168)] w) (hdA:0 < n→∀ q off,A=some ⟨q,off,none⟩→q∉cD [(some bs,bc [.slice A n c,.slice vr.A vr.n vr.c,.slice lr.A lr.n lr.c,.int .i64 tt,.int .i64 mm,.bool cl] 168)]) (hdV:0 < vr.n→∀ q off,vr.A=some ⟨q,off,none⟩→q∉cD [(some bs,bc [.slice A n c,.slice vr.A vr.n vr.c,.slice lr.A lr.n lr.c,.int .i64 tt,.int .i64 mm,.bool cl] 168)]) (hdL:0 < lr.n→∀ q off,lr.A=some ⟨q,off,none⟩→q∉cD [(some bs,bc [.slice A n c,.slice vr.A vr.n vr.c,.slice lr.A lr.n lr.c,.int .i64 tt,.int .i64 mm,.bool cl] 168)]) :
  Calls prog 108 #[.pointer (some ⟨bs,0,none⟩)] w (gY (fun v w'=>v=.tuple #[]∧∃ r:Row,bA 39 10 r.A r.n r.c ((aZf xs cs ys).map aF) r.e∧Mem w (cD [(some bs,bc [.slice A n c,.slice vr.A vr.n vr.c,.slice lr.A lr.n lr.c,.int .i64 tt,.int .i64 mm,.bool cl] 168)]) [(some bs,bc [.slice A n c,.slice r.A r.n r.c,.slice lr.A lr.n lr.c,.int .i64 tt,.int .i64 mm,.bool (cl || aZe xs cs ys)] 168),r.e] w')):=by
 have hlen:xs.length=n:=by simpa using R.len
 refine aI #[] 20 func108 Z results108 ntmps108 Z ?_
 have M0:=hO.mem
 refine gJ [(0,0),(1,0),(2,0),(3,0),(4,1),(5,0),(6,0),(7,0),(8,1),(9,0),(10,0),(11,0),(12,1),(13,2),(14,2),(15,0),(16,0),(17,2)] mixed M0 Z (by kernel_rfl) (fun w1 M1=>(aX Z Z Z (fun _=>aH (.pointer _) Z) (aX Z Z Z (fun _=>aH (.pointer _) Z) (aX Z Z Z (fun _=>bN Z) (aX Z Z Z (fun _=>aD 1 aAm Z) (bQ Z Z Z (aK 0 (.slice _ _ _) iD M1 Z Z Z) (aX Z Z Z (fun _=>aH (.pointer _) Z) (aX Z Z Z (fun _=>bN Z) (aX Z Z Z (fun _=>aD 0 aHe Z) ?_)))))))))
 refine bQ Z Z Z (aK 0 (.slice _ _ _) iD M1 Z Z Z) (aX Z Z Z (fun _=>aH (.pointer _) Z) (aX Z Z Z (fun _=>bN Z) (aX Z Z Z (fun _=>aD 2 aAn Z) (bQ Z Z Z (aK 0 (.slice _ _ _) rG M1 Z Z Z) (dO [true,true,false] Z (by kernel_rfl) (eJ bSi Z Z (aVc _ A n c xs (R.memY M1 hdA) hs hb hn lr.A lr.n lr.c cs (RL.memY M1 hdL) hcs hmc) ?_))))))
 rintro v2 w2 ⟨⟨qA,qn,qc,qe⟩,rfl,hq,hM2⟩
 have hqn:xs.length=qn:=by simpa using hq.1
 obtain rfl:qn=vr.n:=by omega
 rw [hsh] at hq
 have M2:Mem _ _ [_,_] _:=M1.call0 hM2
 refine aB (aC ⟨(dS (bH Z (aK 0 (.slice _ _ _) iD M2 Z Z Z)) dI), ?_⟩)
 refine dO [true] Z (by kernel_rfl) (eJ bWu Z Z (bHr _ vr.A vr.n vr.c ys (RV.memY M2 hdV) hb2 (by omega) (lI xs cs) hG qA qc (hq.rd M2 (aN (i:=1) Z))) ?_)
 rintro v3 w3 ⟨r,rfl,hr,hM3⟩
 have M3:Mem _ _ [_,_,_] _:=M2.call0 hM3
 refine aB (aC ⟨dI, ?_⟩)
 refine aX Z Z Z (fun _=>bJ (.slice _ _ _) Z Z) (aX Z Z Z (fun _=>bJ (.bool _) Z Z) (dO [] Z (by kernel_rfl) (eJ aUk Z Z (aXe _ bs vr lr tt mm cl A n c r _ (M3.ownSeg 0 1)) ?_)))
 rintro v4 w4 ⟨rfl,hM4⟩
 have M4:Mem _ _ [_,_,_] _:=M3.seg 0 1 hM4
 refine aB (aC ⟨dI, ?_⟩)
 refine bS (lF ?_)
 exact ⟨Z,r,hr,M4.keep [true,false,true]⟩
theorem bDa {xs:List Body} {cs:List Con} {b b':Body} (h:SameB b b'):lI xs cs b=lI xs cs b':=by
 unfold lI yJ yI
 rw [h.key,h.mass]
theorem aIw {xs ys zs:List Body} {cs:List Con} (h:Like ys zs):ys.map (lI xs cs)=zs.map (lI xs cs):=by
 apply List.ext_getElem?
 intro i
 rw [List.getElem?_map,List.getElem?_map]
 by_cases hi:i < ys.length
 ·have h1:ys[i]? = some ys[i]:=List.getElem?_eq_getElem hi
  have h2:zs[i]? = some (zs[i]'(by rw [h.len];exact hi)):=List.getElem?_eq_getElem _
  rw [h1,h2]
  exact congrArg some (bDa (h.at_ i _ _ h1 h2)).symm
 ·have hl:=h.len
  rw [List.getElem?_eq_none (show ys.length≤i by omega),List.getElem?_eq_none (show zs.length≤i by omega)]
theorem aZr {xs:List Body} {cs:List Con} (hs:dD xs) (hb:∀ b∈xs,Okb b) (hcs:∀ c∈cs,OkC xs c) (hl:cs.length≤1073741824) {zs:List Body} (h:Like xs zs):∀ b∈zs,(-1152921504606846976≤(lI xs cs b).1∧(lI xs cs b).1≤1152921504606846976) ∧ -1152921504606846976≤(lI xs cs b).2∧(lI xs cs b).2≤1152921504606846976:=fun b hbm=>by
 have hm:lI xs cs b∈zs.map (lI xs cs):=List.mem_map_of_mem hbm
 rw [← aIw h] at hm
 obtain ⟨x,hx,e⟩:=List.mem_map.1 hm
 rw [← e]
 have:=aFv hs hb hcs rfl hl cs.length hx
 rwa [List.take_of_length_le (Nat.le_refl _)] at this
theorem bDh (w:World) (F:Rd w 2 (some ⟨0,0,none⟩) 1 [[.int .u32 73856093,.int .u32 19349663]]) (N:Rd w 4 (some ⟨3,0,none⟩) 1 [dY gZ]) (A:Option Addr) (n c:Nat) (xs:List Body) (R:Rd w 10 A n (xs.map aF)) (hb:∀ b∈xs,Okb b) (hs:dD xs) (hn:n≤4096) :
  Calls prog 65 #[.slice A n c] w (gY (fun v w'=>∃ (r:Row) (t:Nat),v=.tuple #[.slice r.A r.n r.c,.agg [.int .i64 (t:Int),.int .i64 ((mM xs).length:Int),.bool (aBy xs)].toArray]∧(mM xs).length≤t∧2*t≤xs.length*(xs.length - 1)∧bA 39 10 r.A r.n r.c ((sO xs).map aF) r.e∧Mem w [] [r.e] w')):=by
 have hlen:xs.length=n:=by simpa using R.len
 have hnn:xs.length*xs.length≤4096*4096:=Nat.mul_le_mul (by omega) (by omega)
 have hcl:=aGh xs
 have hsq:=aXv (xs:=xs)
 refine aI #[.tmp 2,.cell 3 58] 26 func65 Z results65 ntmps65 Z ?_
 have M0:=Mem.refl w
 refine aE (aA (eI Z Z (aO aPp M0 Z Z (fun b1 w1 M1=>(aB (aC (aE (aA (dJ Z Z (wq (cI [(0,.slice _ _ _)] _ bDl Z Z) Z (bO (.agg (.mk _)) M1 Z Z Z (fun b2 w2 M2=>(wq (aJ (.pointer _) Z) Z (aB (aC (aE (aE (aA (wq (wG [.func _ _ _,.func _ _ _,.func _ _ _,.func _ _ _] aGi bOu Z Z (cO Z)) Z (aT Z Z (aB (aC (aS (kC 5 (gD (aE (aA (cV Z Z Z Z (jU 12 Z (by first | decide | omega) ?_)))))))))))))))))))))))))))))
 refine aB (aC (aE (cE rfl (aM (aC (aE (aS (aE (aA (wq (aDh 0 (.func _ _ _) aGi aOp rfl rfl (by decide) (by decide) rfl rfl) rfl (wq (aJ (.func _ _ _) rfl) rfl (aB (aC (aA (wq (aH (.func _ _ _) rfl) rfl (wq (aH (.pointer _) rfl) rfl (eJ bRd rfl rfl (bOf _ (F.mem M2) (N.mem M2) b2 eN eN 0 0 false A n c xs (R.mem M2) hb hs hn (M2.ownSeg 1 1) (M2.away 1 1 R (by simp)) (M2.away 1 1 F (by simp)) (M2.away 1 1 N (by simp))) ?_)))))))))))))))))
 rintro v3 w3 ⟨rfl,r,tm,ht1,ht2,hr,hM3⟩
 have M3:Mem _ _ [_,_,_] _:=M2.seg 1 1 hM3
 have hrn:(mM xs).length=r.n:=by simpa using hr.1
 refine aB (cS (aC (aA (wq (bE Z Z (by first | decide | omega) (by first | decide | omega)) Z (aL 17 (.int .i64 1) (iE (by first | decide | omega)) (aT Z Z (aB (aC (gD (aE (aA (cV Z Z Z Z (jU 12 Z (by first | decide | omega) (aB (aC (aE (cE Z (aM (aC (aE (aS (aE (aA (wq (aDh 1 (.func _ _ _) aGi aOp Z Z (by decide) (by decide) Z Z) Z (wq (aJ (.func _ _ _) Z) Z ?_)))))))))))))))))))))))))
 refine aB (aC (aA (wq (aH (.func _ _ _) rfl) rfl (wq (aH (.pointer _) rfl) rfl (eJ bRe rfl rfl (bOe _ b2 eN r (tm:Int) (r.n:Int) false A n c xs (R.mem M3) hb (by omega) (M3.ownSeg 1 1) (M3.away 1 1 R (by simp))) ?_)))))
 rintro v4 w4 ⟨rfl,g,hg,hM4⟩
 have M4:Mem _ _ [_,_,_,_] _:=M3.seg 1 1 hM4
 have hgn:(rZ xs).length=g.n:=by simpa using hg.1
 have hgl:=(mB xs).len
 refine aB (cS (aC (aA (wq (bE Z Z (by first | decide | omega) (by first | decide | omega)) Z (aL 17 (.int .i64 2) (iE (by first | decide | omega)) (aT Z Z (aB (aC (gD (aE (aA (cV Z Z Z Z (jU 12 Z (by first | decide | omega) (aB (aC (aE (cE Z (aM (aC (aE (aS (aE (aA (wq (aDh 2 (.func _ _ _) aGi aOp Z Z (by decide) (by decide) Z Z) Z (wq (aJ (.func _ _ _) Z) Z ?_)))))))))))))))))))))))))
 refine aB (aC (aA (wq (aH (.func _ _ _) Z) Z (wq (aH (.pointer _) Z) Z (eJ bRf Z Z (bKh _ b2 g r (tm:Int) (r.n:Int) _ A n c (rZ xs) (mM xs) (hg.rd M4 (aN (i:=3) Z)) (hr.rd M4 (aN (i:=2) Z)) ((mB xs).sorted hs) (aAw hb) (by omega) (fun c h=>(mB xs).okc (tE hs hb c h)) (by omega) (M4.ownSeg 1 1) (hg.awayB M4 3 1 Z Z Z) (hr.awayB M4 2 1 Z Z Z)) ?_)))))
 rintro v5 w5 ⟨rfl,s,hsv,hM5⟩
 have M5:Mem _ _ [_,_,_,_,_] _:=M4.seg 1 1 hM5
 have hsn:(mY xs).length=s.n:=by have h:=hsv.1;rwa [List.length_map] at h
 have hlk:Like xs (mY xs):=(mB xs).trans (kL _ _ 4)
 have hsl:=hlk.len
 refine aB (cS (aC (aA (wq (bE Z Z (by first | decide | omega) (by first | decide | omega)) Z (aL 17 (.int .i64 3) (iE (by first | decide | omega)) (aT Z Z (aB (aC (gD (aE (aA (cV Z Z Z Z (jU 12 Z (by first | decide | omega) (aB (aC (aE (cE Z (aM (aC (aE (aS (aE (aA (wq (aDh 3 (.func _ _ _) aGi aOp Z Z (by decide) (by decide) Z Z) Z (wq (aJ (.func _ _ _) Z) Z ?_)))))))))))))))))))))))))
 refine aB (aC (aA (wq (aH (.func _ _ _) rfl) rfl (wq (aH (.pointer _) rfl) rfl (eJ bRg rfl rfl (bOg _ b2 s r (tm:Int) (r.n:Int) _ A n c xs (R.mem M5) (mY xs) (mM xs) (hsv.rd M5 (aN (i:=4) rfl)) (hr.rd M5 (aN (i:=2) rfl)) hs hb (tZ (aAw hb) 4) (by omega) (by omega) (tE hs hb) (by omega) (aIw hlk) (aZr hs hb (tE hs hb) (by omega) hlk) (M5.ownSeg 1 1) (M5.away 1 1 R (by simp)) (hsv.awayB M5 4 1 rfl rfl rfl) (hr.awayB M5 2 1 rfl rfl rfl)) ?_)))))
 rintro v6 w6 ⟨rfl,m,hm,hM6⟩
 have M6:Mem _ _ [_,_,_,_,_,_] _:=M5.seg 1 1 hM6
 refine aB (cS (aC (aA (wq (bE Z Z (by first | decide | omega) (by first | decide | omega)) Z (aL 17 (.int .i64 4) (iE (by first | decide | omega)) (aT Z Z (aB (aC (gD (aE (aA (cV Z Z Z Z (nP 12 Z (by first | decide | omega) (aB (aC (aE (cB Z (cM (cZ (cZ (eL ?_)))))))))))))))))))))
 refine aC (aE (gJ [(0,0),(1,0),(2,0),(3,1),(4,0),(5,0),(6,0),(7,1),(8,0),(9,2)] mixed M6 Z (by kernel_rfl) (fun w7 M7=>(aX Z Z Z (fun _=>aH (.pointer _) Z) (aX Z Z Z (fun _=>bN Z) (aX Z Z Z (fun _=>aD 1 aAm Z) (bQ Z Z Z (aK 1 (.slice _ _ _) iD M7 Z Z Z) (aX Z Z Z (fun _=>aH (.pointer _) Z) (aX Z Z Z (fun _=>bN Z) (aX Z Z Z (fun _=>aD 3 tK Z) (bQ Z Z Z (sJ 1 _ aDq M7 Z Z Z Z) (aX Z Z Z (fun _=>aJ (.slice _ _ _) Z) ?_))))))))))))
 refine dO [true,true] Z (by kernel_rfl) (bC 0 _ aDq M7 Z Z Z Z Z (aP Z) Z (fun w8 M8 => ?_))
 refine aB (aC ⟨dI, ?_⟩)
 refine bS (aC (aR (aYp (.slice _ _ _) 0 aDq M8 Z Z Z Z ?_)))
 exact ⟨m,tm,wQ Z (by rw [hrn];show Value.agg _=_;rw [show aBy xs=(((false || xs.any nH) || (iZ (rZ xs) (mM xs) 4).2) || aZe xs (mM xs) (mY xs)) by unfold aBy;rw [Bool.false_or]];rfl),by omega,ht2,hm,M8.keep [false,false,false,false,false,true]⟩
theorem bCj {a b:Int} {p:Nat} (ha:0≤a) (hp:a.natAbs*b.natAbs=p):(if decide (b < 0)=true then (if 0 < p % 65536 then -((p / 65536:Nat):Int) - 1 else -((p / 65536:Nat):Int)) else ((p / 65536:Nat):Int))=a*b / 65536:=by
 have e:a.natAbs*b.natAbs=(a*b).natAbs:=(Int.natAbs_mul a b).symm
 rw [e] at hp
 by_cases h:b < 0
 ·have hs:a*b≤0:=Int.mul_nonpos_of_nonneg_of_nonpos ha (by omega)
  rw [if_pos (decide_eq_true h)]
  split <;> omega
 ·have hs:0≤a*b:=Int.mul_nonneg ha (by omega)
  rw [if_neg (by rw [decide_eq_true_eq];exact h)]
  omega
theorem lU (w:World) (a l:Int) (hl:0≤l∧l≤2147483648) :
  Calls prog 153 #[.int .i64 a,.int .i64 l] w (Rb w (.int .i64 (kF a l))):=by
 refine aI #[.tmp 4] 16 func153 Z results153 ntmps153 Z ?_
 have M0:=Mem.refl w
 refine aE (aA (bL Z Z (aB (aC (aE (aE (aA (aT Z Z (aT Z Z (cV Z Z Z Z (aB (aC ?_))))))))))))
 refine aW Z (fun h7 => ?_) (fun h7 => ?_)
 ·refine aE (aA (aT Z Z (bL Z Z (aB (aC (aR (cK (cF (.int _ _) Z ?_))))))))
  exact ⟨iE (by unfold kF;omega),M0.below⟩
 ·refine aM (aC (aE (aE (aA (aT Z Z (aT Z Z (wq (sX Z (fU _ (by omega) (by omega))) Z (cV Z Z Z Z (aB (aC ?_))))))))))
  refine aW Z (fun h12 => ?_) (fun h12 => ?_)
  ·refine aE (aA (aT Z Z (wq (sX Z (fU _ (by omega) (by omega))) Z (bL Z Z (aB (aC (aR (cK (cF (.int _ _) Z ?_)))))))))
   exact ⟨iE (by unfold kF;omega),M0.below⟩
  ·refine aM (aC (aE (aA (aT Z Z (bL Z Z (aB (aC (aR (cF (.int _ _) Z ?_)))))))))
   exact ⟨iE (by unfold kF;omega),M0.below⟩
theorem wH (w:World) (a b:Int) (ha:0≤a) (ha2:a≤4611686018427387904) (hb0 : -4611686018427387904≤b) (hb1:b≤4611686018427387904) (hp : -8796093022208≤a*b∧a*b≤8796093022208) :
  Calls prog 228 #[.int .i64 a,.int .i64 b,.int .i64 16] w (Rb w (.tuple #[.int .i64 (a*b / 65536),.int .i64 0])):=by
 obtain ⟨p,hpp⟩:∃ p,a.natAbs*b.natAbs=p:=⟨_,rfl⟩
 have hpl:p≤8796093022208:=by have e:=Int.natAbs_mul a b;omega
 refine aI #[.tmp 6,.tmp 7] 52 func228 Z results228 ntmps228 Z ?_
 have M0:=Mem.refl w
 refine aE (aA (bL Z Z (bL Z Z (aB (aC (aE (aE (aA (aT Z Z (cV Z Z Z Z (nP 16 Z (by first | decide | omega) (wq (aH (.bool false) Z) Z (aT Z Z (cV Z Z Z Z (nP 19 Z (by first | decide | omega) (wq (bM false (.bool false) Z Z) Z (aB (aC (cB Z (aM (aC (aE (aA (bL Z Z ?_))))))))))))))))))))))))
 refine aB (aC (aE (aE (aA (bL Z Z (aB (aC (aS (dK (σ:=Nat) [0,1,2,6,7] (fun k=>[(8,.int .u64 ((2 ^ k:Nat):Int)),(9,.int .i64 (k:Int))]) (fun k w'=>k≤16∧Mem w [] [] w') (fun k=>16 - k) 0 (bI (iE Z) (bI Z eC)) (⟨by omega,M0⟩) ?_)))))))))
 rintro k ρ1 w1 ⟨hk,hM1⟩
 refine aE (aE (aA (aT Z Z (aT Z Z (cV Z Z Z Z (aB (aC ?_)))))))
 refine aW Z (fun h23 => ?_) (fun h23 => ?_)
 ·have hpw:2 ^ k≤2 ^ 15:=Nat.pow_le_pow_right (by omega) (by omega)
  refine aM (aC (aE (aS (aA (aT Z Z (wq (cH (.int _ _) Z Z Z) Z (aL 27 (.int .u64 ((2 ^ (k+1):Nat):Int)) (iE (by rw [iH,Nat.pow_succ];omega)) (bL Z Z (aB (cS (aC (aA (aT Z Z (wq (bE Z Z (by omega) (by omega)) Z (bL Z Z (aB ?_))))))))))))))))
  refine bU (k+1) (bI (iE Z) (bI Z eC)) (bX Z (bX Z (bX Z (bX Z (bX Z gR))))) ?_ ?_
  ·exact ⟨by omega,hM1⟩
  ·omega
 ·have hk16:k=16:=by omega
  subst hk16
  refine cM (cZ (dF (eL (aC (aE (aA (aT Z Z (aT Z Z (eJ bFw Z Z (yS _ a b (by omega) (by omega) (by omega) (by omega)) ?_)))))))))
  rintro v2 w2 ⟨D,rfl,hD8,hDd,hDv,hb2⟩
  have M2:=hM1.callB hb2
  obtain ⟨d0,d1,d2,d3,d4,d5,d6,d7,rfl⟩:=bPy hD8
  rw [hpp] at hDv
  refine aT Z Z (dM bFv Z Z M2 (aBn _ d0 d1 d2 d3 d4 d5 d6 d7 hDd 65536 (by omega) (by omega) (by rw [hDv];omega) (by rw [hDv];omega)) (fun w3 M3=>(wq (aH (.tuple (List.toArray _)) Z) Z (wq (bJ (.int _ _) Z Z) Z (aL 34 (.int .u64 ((p / 65536:Nat):Int)) (iE (by rw [hDv])) (wq (bJ (.int _ _) Z Z) Z (aL 35 (.int .u64 ((p % 65536:Nat):Int)) (iE (by rw [hDv])) (wq (bJ (.bool true) Z Z) Z (bL Z Z (bL Z Z (wq (aJ (.bool true) Z) Z (aB (aC (aE (aA (aT Z Z (aT Z Z (wq (aH (.bool true) Z) Z ?_))))))))))))))))))
  refine aT rfl rfl (cV rfl rfl rfl rfl (nP 42 rfl (by omega) (aT rfl rfl (cV rfl rfl rfl rfl (wq (uO _ underlying4 rfl rfl rfl) rfl (aL 45 (.bool (decide (b < 0))) (bv rfl (by simp)) (dM bFx rfl rfl M3 (aEq _ (p / 65536) (p % 65536) (decide (b < 0)) (by omega)) (fun w4 M4=>(wq (aH (.tuple (List.toArray _)) rfl) rfl (wq (bJ (.int _ _) rfl rfl) rfl (wq (bJ (.bool true) rfl rfl) rfl (bL rfl rfl (wq (aJ (.bool true) rfl) rfl (aB (aC (aE (aE (aA (wq (aH (.bool true) rfl) rfl (wq (fB false rfl rfl) rfl ?_))))))))))))))))))))
  refine aB (aC (cB Z (aM (aC (aE (aA (aT Z Z (bL Z Z (bL Z Z (aB (aC (aR (gE (.int _ _) (.int _ _) Z Z ?_)))))))))))))
  exact ⟨wQ (iE (bCj ha hpp)) Z,M4.below⟩
theorem aIn (w:World) (c:Con) (a b:Body) (hc:Okn c) (ha:Okb a) (hb:Okb b) :
  Calls prog 227 #[.agg (cQ c).toArray,(.agg (aF a).toArray),(.agg (aF b).toArray)] w (Rb w (.int .i64 (yZ c a b))):=by
 have hr:=aAd hc ha hb
 have hv1:=ha.v
 have hv2:=hb.v
 have hx:=hc.x
 have hy:=hc.y
 refine aI #[.tmp 6] 41 func227 Z results227 ntmps227 Z ?_
 have M0:=Mem.refl w
 refine aE (aA (bO (.agg (.mk _)) M0 Z Z Z (fun b1 w1 M1=>(bO (.agg (.mk _)) M1 Z Z Z (fun b2 w2 M2=>(bO (.agg (.mk _)) M2 Z Z Z (fun b3 w3 M3=>(bL Z Z (aB (aC (aE (aA (wq (aD 8 eH Z) Z (wq (aD 0 cY Z) Z (wq (aK 2 (.int _ _) bB M3 Z Z Z) Z (wq (bK eF underlying2 Z (fU _ (by omega) (by omega))) Z (wq (aD 8 eH Z) Z (wq (aD 0 cY Z) Z (wq (aK 1 (.int _ _) bB M3 Z Z Z) Z (wq (bK eF underlying2 Z (fU _ (by omega) (by omega))) Z ?_))))))))))))))))))))
 refine wq (gX Z Z (by omega) (by omega)) Z (wq (aD 2 jB Z) Z (wq (aD 0 cY Z) Z (wq (aK 0 (.int _ _) bB M3 Z Z Z) Z (wq (bK eF underlying2 Z (fU _ (by omega) (by omega))) Z (wq (fO Z Z (by omega) (by omega)) Z (bL Z Z (aB (aC (aE (aA (wq (aD 8 eH Z) Z (wq (aD 1 cW Z) Z (wq (aK 2 (.int _ _) bB M3 Z Z Z) Z (wq (bK eF underlying2 Z (fU _ (by omega) (by omega))) Z (wq (aD 8 eH Z) Z (wq (aD 1 cW Z) Z (wq (aK 1 (.int _ _) bB M3 Z Z Z) Z ?_)))))))))))))))))
 refine wq (bK eF underlying2 Z (fU _ (by omega) (by omega))) Z (wq (gX Z Z (by omega) (by omega)) Z (wq (aD 2 jB Z) Z (wq (aD 1 cW Z) Z (wq (aK 0 (.int _ _) bB M3 Z Z Z) Z (wq (bK eF underlying2 Z (fU _ (by omega) (by omega))) Z (wq (fO Z Z (by omega) (by omega)) Z (bL Z Z (aB (aC (aE (aA (aT Z Z (aT Z Z (wq (bE Z Z (by omega) (by omega)) Z (dM mK Z Z M3 (fS _ _ 65536 (by decide) (by omega) (by omega)) (fun w4 M4=>(bL Z Z (aB (aC (aR ?_))))))))))))))))))))
 refine cF (.int _ _) Z ?_
 exact ⟨Z,M4.below⟩
theorem wJ (w:World) (c:Con) (a b:Body) (hc:Okn c) (ha:Okb a) (hb:Okb b) :
  Calls prog 201 #[.agg (cQ c).toArray,(.agg (aF a).toArray),(.agg (aF b).toArray)] w (Rb w (.int .i64 (mE c a b))):=by
 have hr:=aAd hc ha hb
 have hm1:=ha.m
 have hm2:=hb.m
 have hc1:=ha.c
 have hc2:=hb.c
 refine aI #[.tmp 6] 38 func201 Z results201 ntmps201 Z ?_
 have M0:=Mem.refl w
 refine aE (aA (bO (.agg (.mk _)) M0 Z Z Z (fun b1 w1 M1=>(bO (.agg (.mk _)) M1 Z Z Z (fun b2 w2 M2=>(bO (.agg (.mk _)) M2 Z Z Z (fun b3 w3 M3=>(bL Z Z (aB (aC (aE (aA (wq (aV 0 fL M3 Z Z Z) Z (wq (aV 1 bR M3 Z Z Z) Z (wq (aV 2 bR M3 Z Z Z) Z (dM bTo Z Z M3 (aIn _ c a b hc ha hb) (fun w4 M4=>(bL Z Z (aB (aC (aE (aA (wq (aD 4 eS Z) Z (wq (aK 1 (.int _ _) bB M4 Z Z Z) Z (wq (bK eF underlying2 Z (fU _ (by omega) (by omega))) Z ?_)))))))))))))))))))))))))
 refine wq (aD 4 eS Z) Z (wq (aK 2 (.int _ _) bB M4 Z Z Z) Z (wq (bK eF underlying2 Z (fU _ (by omega) (by omega))) Z (wq (bE Z Z (by omega) (by omega)) Z (bL Z Z (aB (aC (aE (aE (aA (aT Z Z (cV Z Z Z Z (wq (aH (.bool (decide _)) Z) Z ?_))))))))))))
 refine dT 22 Z (fun g22 => ?_) (fun g22 => ?_)
 ·refine aQ Z Z (aQ Z Z (wq (bM true (.bool true) Z Z) Z (aB (aC (cE Z (aE (aA (bL Z Z (aB (aC (aR (cK (cF (.int _ _) Z ?_)))))))))))))
  exact ⟨iE (by unfold mE;rw [if_pos (.inl (by omega))]),M4.below⟩
 ·refine aT Z Z (cV Z Z Z Z (wq (bM false (.bool (decide _)) Z Z) Z (aB (aC ?_))))
  refine aW Z (fun h25 => ?_) (fun h25 => ?_)
  ·refine aE (aA (bL Z Z (aB (aC (aR (cK (cF (.int _ _) Z ?_)))))))
   exact ⟨iE (by unfold mE;rw [if_pos (.inr (by omega))]),M4.below⟩
  ·have hsp:=aJc hc ha hb (by omega)
   refine aM (aC (aE (aA (aT Z Z (wq (sX Z (fU _ (by omega) (by omega))) Z (wq (aD 5 pG Z) Z (wq (aK 1 (.int _ _) bB M4 Z Z Z) Z (wq (aD 5 pG Z) Z (wq (aK 2 (.int _ _) bB M4 Z Z Z) Z (wq (qF Z Z ) Z (wq (bK eF underlying2 Z (fU _ (by omega) (by omega))) Z (aL 33 (.int .i64 (max a.bounce b.bounce)) (iE (by first | rfl | omega)) (wq (bE Z Z (by omega) (by omega)) Z (wq (fO Z Z (by omega) (by omega)) Z (aT Z Z (dM mK Z Z M4 (fS _ (-yZ c a b*(65536+max a.bounce b.bounce)) (a.mass+b.mass) (by omega) (by omega) (by omega)) (fun w5 M5 => ?_)))))))))))))))))
   refine bL Z Z (aB (aC (aR (cF (.int _ _) Z ?_))))
   exact ⟨iE (by unfold mE;rw [if_neg (fun g=>by omega)]),M5.below⟩
theorem pK (w:World) (j m x:Int) (hj:0≤j∧j≤8796093022208) (hm:0≤m∧m≤1048576) (hp:0≤j*m∧j*m≤8796093022208) (hx : -65536≤x∧x≤65536) :
  Calls prog 202 #[.int .i64 j,.int .i32 m,.int .i32 x] w (Rb w (.int .i64 (pN j m x))):=by
 have r1:=lZ hp hx
 have hkk:=r1.1
 refine aI #[.tmp 6] 26 func202 Z results202 ntmps202 Z ?_
 have M0:=Mem.refl w
 refine aE (aA (bL Z Z (aB (aC (aE (aA (aT Z Z (aT Z Z (wq (bK eF underlying2 Z (fU _ (by omega) (by omega))) Z (dM bFp Z Z M0 (wH _ j m (by omega) (by omega) (by omega) (by omega) (by omega)) (fun w1 M1=>(wq (aH (.tuple (List.toArray _)) Z) Z (wq (bJ (.int _ _) Z Z) Z (wq (bJ (.int _ _) Z Z) Z (bL Z Z (bL Z Z (aB (aC (aE (aA (aT Z Z (aT Z Z (wq (bK eF underlying2 Z (fU _ (by omega) (by omega))) Z ?_)))))))))))))))))))))))
 refine dM bFp Z Z M1 (wH _ (j*m / 65536) x (by omega) (by omega) (by omega) (by omega) r1.2.1) (fun w2 M2=>(wq (aH (.tuple (List.toArray _)) Z) Z (wq (bJ (.int _ _) Z Z) Z (wq (bJ (.int _ _) Z Z) Z (bL Z Z (bL Z Z (aB (aC (aE (aA (aT Z Z (bL Z Z (aB (aC (aR (cF (.int _ _) Z ?_))))))))))))))))
 exact ⟨Z,M2.below⟩
def sU (s:Bool) (c:Con):Int:=cond s c.ny c.nx
theorem aZg {s:Bool} {c:Con} (h:Okn c) : -65536≤sU s c∧sU s c≤65536:=by cases s;exact h.x;exact h.y
theorem xQ {xs:List Body} {b xa xb:Body} (hs:dD xs) (ha:xa∈xs) (hb:xb∈xs) (h:b∈xs) (hm:0≤xa.mass) (hm2:0≤xb.mass) (e:b.key=xa.key∨b.key=xb.key):b.mass≤xa.mass+xb.mass:=by
 rcases e with e | e
 ·rw [nE hs h ha e];omega
 ·rw [nE hs h hb e];omega
theorem aMk (w:World) (A:Option Addr) (n c:Nat) (xs:List Body) (R:Rd w 10 A n (xs.map aF)) (hs:dD xs) (hb:∀ b∈xs,Okb b) (hn:n≤1048576) (B:Option Addr) (mc c':Nat) (cs:List Con) (R':Rd w 5 B mc (cs.map cQ)) (hcs:∀ c∈cs,OkC xs c) (hmc:mc≤8589934592) (i:Nat) (b:Body) (hxi:xs[i]? = some b) (sec:Bool) :
  Calls prog 178 #[.slice A n c,.slice B mc c',.int .i64 (i:Int),.bool sec] w (Rb w (.int .i64 (jC xs cs (sU sec) b))):=by
 have hlen:xs.length=n:=by simpa using R.len
 have hbd:=R.bound
 have hclen:cs.length=mc:=by simpa using R'.len
 have hbd':=R'.bound
 have hbi:=List.mem_of_getElem? hxi
 have hil:=(List.getElem?_eq_some_iff.1 hxi).1
 refine aI #[.tmp 8] 98 func178 Z results178 ntmps178 Z ?_
 have M0:=Mem.refl w
 refine aE (aA (bL Z Z (aB (aC (aE (aA (bL Z Z (aB (aC (aE (aE (aA (bL Z Z (aB (aC (aS (dK (σ:=Nat) [0,1,2,3,8] (fun k=>[(9,.int .i64 (jC xs (cs.take k) (sU sec) b)),(10,.int .i64 (k:Int))]) (fun k w'=>k≤mc∧Mem w [] [] w') (fun k=>mc - k) 0 (bI (iE (aMr _ _ _ _).symm) (bI Z eC)) (⟨by omega,M0⟩) ?_)))))))))))))))))
 rintro k ρ1 w1 ⟨hk,hM1⟩
 refine aE (aE (aA (aT Z Z (dJ Z Z (wq (bW underlying166 Z) Z (cV Z Z Z Z (aB (aC ?_))))))))
 refine aW Z (fun h20 => ?_) (fun h20 => ?_)
 ·obtain ⟨cn,hcn⟩:=cG (xs:=cs) (k:=k) hclen (by omega)
  have hc:=hcs cn (List.mem_of_getElem? hcn)
  have hne:=hc.ne
  have hg:=aZg (s:=sec) hc.n
  have hsr:=wP (cs:=cs.take k) (g:=sU sec) hs hb (fun c h=>hcs c (List.mem_of_mem_take h)) (fun c h=>aZg (hcs c (List.mem_of_mem_take h)).n) hbi
  have htl:=List.length_take_le k cs
  obtain ⟨pa,xa,hxa,hka,hfa⟩:=xH hc.l
  obtain ⟨pb,xb,hxb,hkb,hfb⟩:=xH hc.h
  have hba:=aCf hxa hfa
  have hbb:=aCf hxb hfb
  have hma:=List.mem_of_getElem? hxa
  have hmb:=List.mem_of_getElem? hxb
  have hoa:=hb xa hma
  have hob:=hb xb hmb
  have qa:=hoa.m
  have qb:=hob.m
  refine aM (aC (aE (aS (aE (aA (dJ Z Z (aT Z Z (wq (bG (k) vD Z Z Z ((R'.mem hM1).below_len (aG cQ hcn)) ((R'.mem hM1).someK (aG cQ hcn))) Z (wq (dQ _ fL (R'.mem hM1) (aG cQ hcn) Z) Z (aO oK hM1 Z Z (fun b2 w2 M2=>(bC 0 _ fL M2 Z Z Z Z Z (aP Z) Z (fun w3 M3=>(aB (aC (aE (aE (gJ [(0,0),(1,0),(2,1),(3,0),(4,0),(5,1),(6,1),(7,1),(8,0),(9,0),(10,0),(11,0),(12,1),(13,0),(14,0),(15,1),(16,1),(17,1),(18,0),(19,0)] mixed M3 Z (by kernel_rfl) (fun w4 M4 => ?_)))))))))))))))))))
  refine aX Z Z Z (fun _=>aD 0 gG Z) (aX Z Z Z (fun _=>aD 0 iI Z) (bQ Z Z Z (aK 0 (.int _ _) bZ M4 Z Z Z) (kB Z Z Z (eG Z Z Z (bQ Z Z Z (bG (i) dU Z Z Z ((R.mem M4).below_len (aG aF hxi)) ((R.mem M4).someK (aG aF hxi))) (bQ Z Z Z (aU 0 dZ (R.mem M4) (jD ((R.mem M4).below_len (aG aF hxi))) Z) (bQ Z Z Z (dR (o:=0) (.int _ _) bZ (R.mem M4) (aG aF hxi) Z Z) (aX Z Z Z (fun _=>cH (.bool (decide _)) Z Z Z) ?_))))))))
  refine aX Z Z Z (fun _=>aH (.bool (decide _)) Z) ?_
  refine vH 36 Z (fun g36 => ?_) (fun g36 => ?_)
  ·refine aX Z Z Z (fun _=>aD 0 gG Z) (aX Z Z Z (fun _=>aD 1 lG Z) (bQ Z Z Z (aK 0 (.int _ _) bZ M4 Z Z Z) (kB Z Z Z (eG Z Z Z (bQ Z Z Z (bG (i) dU Z Z Z ((R.mem M4).below_len (aG aF hxi)) ((R.mem M4).someK (aG aF hxi))) (bQ Z Z Z (aU 0 dZ (R.mem M4) (jD ((R.mem M4).below_len (aG aF hxi))) Z) (bQ Z Z Z (dR (o:=0) (.int _ _) bZ (R.mem M4) (aG aF hxi) Z Z) (aX Z Z Z (fun _=>cH (.bool (decide _)) Z Z Z) ?_))))))))
   refine aX Z Z Z (fun _=>bM true (.bool (decide _)) Z Z) (bS (aC ?_))
   refine aW Z (fun h46 => ?_) (fun h46 => ?_)
   ·refine cM (cZ (eL (aC (aA (aT Z Z (wq (bE Z Z (by omega) (by omega)) Z (bL Z Z (aB ?_))))))))
    refine bU (k+1) (bI (iE (by rw [lJ hcn];unfold ctr;rw [if_neg (by omega),if_neg (by omega)];omega)) (bI Z eC)) (bX Z (bX Z (bX Z (bX Z (bX Z gR))))) ?_ ?_
    ·exact ⟨by omega,M4.keep [false]⟩
    ·(show mc - (k+1) < mc - k;omega)
   ·refine aM (aC (aE (aA (dJ Z Z (dJ Z Z (wq (aD 0 gG Z) Z (wq (aD 0 iI Z) Z (wq (aK 0 (.int _ _) bZ M4 Z Z Z) Z (dM vA Z Z M4 (iY _ cn.low _ _ _ xs (R.mem M4)) (fun w5 M5=>(wq (bG (pa) dU Z Z hfa ((R.mem M5).below_len (aG aF hxa)) ((R.mem M5).someK (aG aF hxa))) Z (wq (dQ _ bR (R.mem M5) (aG aF hxa) Z) Z (aO gL M5 Z Z (fun b6 w6 M6=>(bC 1 _ bR M6 Z Z Z Z Z (aP Z) Z (fun w7 M7=>(aB (aC (aE (aA (dJ Z Z ?_)))))))))))))))))))))
    refine dJ Z Z (wq (aD 0 gG Z) Z (wq (aD 1 lG Z) Z (wq (aK 0 (.int _ _) bZ M7 Z Z Z) Z (dM vA Z Z M7 (iY _ cn.high _ _ _ xs (R.mem M7)) (fun w8 M8=>(wq (bG (pb) dU Z Z hfb ((R.mem M8).below_len (aG aF hxb)) ((R.mem M8).someK (aG aF hxb))) Z (wq (dQ _ bR (R.mem M8) (aG aF hxb) Z) Z (aO gL M8 Z Z (fun b9 w9 M9=>(bC 2 _ bR M9 Z Z Z Z Z (aP Z) Z (fun w10 M10=>(aB (aC (aE (aA (wq (aV 0 fL M10 Z Z Z) Z (wq (aV 1 bR M10 Z Z Z) Z ?_)))))))))))))))))
    refine wq (aV 2 bR M10 Z Z Z) Z (dM bFk Z Z M10 (wJ _ cn xa xb hc.n hoa hob) (fun w11 M11=>(bL Z Z (aB (aC (aE (aA (wq (aD 2 jB Z) Z (wq (aD 0 cY Z) Z (wq (aK 0 (.int _ _) bB M11 Z Z Z) Z (bL Z Z (aB (aC (aE (aE (aA (wq (aH (.bool _) Z) Z (aB (aC ?_)))))))))))))))))))
    refine iN _ Z (fun h70 => ?_) (fun h70 => ?_)
    ·refine aA (wq (aD 2 jB Z) Z (wq (aD 1 cW Z) Z (wq (aK 0 (.int _ _) bB M11 Z Z Z) Z (bL Z Z (aB (aC (aE (aA (aT Z Z (dJ Z Z (aT Z Z (wq (bG (i) dU Z Z Z ((R.mem M11).below_len (aG aF hxi)) ((R.mem M11).someK (aG aF hxi))) Z (wq (aU 4 eS (R.mem M11) (jD ((R.mem M11).below_len (aG aF hxi))) Z) Z (wq (dR (o:=4) (.int _ _) bB (R.mem M11) (aG aF hxi) Z Z) Z (aT Z Z (aL 80 (.int .i32 (sU sec cn)) (iE (by rw [h70];rfl)) ?_))))))))))))))))
     refine wW aNi Z Z Z ?_
     have hbm:0≤b.mass∧b.mass≤xa.mass+xb.mass:=⟨(hb b hbi).m.1,xQ hs hma hmb hbi qa.1 qb.1 (by omega)⟩
     have hst:=sP hc.n hoa hob hbm
     have hmq:=(hb b hbi).m
     have hcr:=(lZ hst.2.2 hg).2.2
     have hjv:pN (mE cn xa xb) b.mass (sU sec cn)=pN (jV xs cn) b.mass (sU sec cn):=by unfold jV;rw [hba,hbb]
     refine (pK _ (mE cn xa xb) b.mass (sU sec cn) ⟨hst.1,hst.2.1⟩ hmq hst.2.2 hg).mono ?_
     rintro _ w12 ⟨v12,rfl,⟨rfl,hb12⟩⟩
     refine ⟨_,Z, ?_⟩
     have M12:=M11.callB hb12
     refine bL Z Z (aB (aC (aE (gJ [(0,0),(1,0),(2,1),(3,0),(4,0),(5,1),(6,1),(7,1),(8,0)] mixed M12 Z (by kernel_rfl) (fun w13 M13=>(aX Z Z Z (fun _=>aD 0 gG Z) (aX Z Z Z (fun _=>aD 0 iI Z) (bQ Z Z Z (aK 0 (.int _ _) bZ M13 Z Z Z) (kB Z Z Z (eG Z Z Z (bQ Z Z Z (bG (i) dU Z Z Z ((R.mem M13).below_len (aG aF hxi)) ((R.mem M13).someK (aG aF hxi))) (bQ Z Z Z (aU 0 dZ (R.mem M13) (jD ((R.mem M13).below_len (aG aF hxi))) Z) ?_))))))))))))
     refine bQ Z Z Z (dR (o:=0) (.int _ _) bZ (R.mem M13) (aG aF hxi) Z Z) (aX Z Z Z (fun _=>cH (.bool (decide _)) Z Z Z) (bS (aC ?_)))
     refine aW Z (fun h90 => ?_) (fun h90 => ?_)
     ·refine aA (aT Z Z (aT Z Z (wq (gX Z Z (by omega) (by omega)) Z (bL Z Z (aB (cS (aC (aA (aT Z Z (wq (bE Z Z (by omega) (by omega)) Z (bL Z Z (aB ?_))))))))))))
      refine bU (k+1) (bI (iE (by rw [lJ hcn];unfold ctr;rw [if_pos (by omega),← hjv];omega)) (bI Z eC)) (bX Z (bX Z (bX Z (bX Z (bX Z gR))))) ?_ ?_
      ·exact ⟨by omega,M13.keep [false,false,false]⟩
      ·(show mc - (k+1) < mc - k;omega)
     ·refine aA (aT Z Z (aT Z Z (wq (bE Z Z (by omega) (by omega)) Z (bL Z Z (aB (cS (aC (aA (aT Z Z (wq (bE Z Z (by omega) (by omega)) Z (bL Z Z (aB ?_))))))))))))
      refine bU (k+1) (bI (iE (by rw [lJ hcn];unfold ctr;rw [if_neg (by omega),if_pos (by omega),← hjv])) (bI Z eC)) (bX Z (bX Z (bX Z (bX Z (bX Z gR))))) ?_ ?_
      ·exact ⟨by omega,M13.keep [false,false,false]⟩
      ·(show mc - (k+1) < mc - k;omega)
    ·refine aM (aC (aE (aA (aT Z Z (dJ Z Z (aT Z Z (wq (bG (i) dU Z Z Z ((R.mem M11).below_len (aG aF hxi)) ((R.mem M11).someK (aG aF hxi))) Z (wq (aU 4 eS (R.mem M11) (jD ((R.mem M11).below_len (aG aF hxi))) Z) Z (wq (dR (o:=4) (.int _ _) bB (R.mem M11) (aG aF hxi) Z Z) Z (aT Z Z (aL 80 (.int .i32 (sU sec cn)) (iE (by rw [h70];rfl)) (wW aNi Z Z Z ?_))))))))))))
     have hbm:0≤b.mass∧b.mass≤xa.mass+xb.mass:=⟨(hb b hbi).m.1,xQ hs hma hmb hbi qa.1 qb.1 (by omega)⟩
     have hst:=sP hc.n hoa hob hbm
     have hmq:=(hb b hbi).m
     have hcr:=(lZ hst.2.2 hg).2.2
     have hjv:pN (mE cn xa xb) b.mass (sU sec cn)=pN (jV xs cn) b.mass (sU sec cn):=by unfold jV;rw [hba,hbb]
     refine (pK _ (mE cn xa xb) b.mass (sU sec cn) ⟨hst.1,hst.2.1⟩ hmq hst.2.2 hg).mono ?_
     rintro _ w14 ⟨v14,rfl,⟨rfl,hb14⟩⟩
     refine ⟨_,Z, ?_⟩
     have M14:=M11.callB hb14
     refine bL Z Z (aB (aC (aE (gJ [(0,0),(1,0),(2,1),(3,0),(4,0),(5,1),(6,1),(7,1),(8,0)] mixed M14 Z (by kernel_rfl) (fun w15 M15=>(aX Z Z Z (fun _=>aD 0 gG Z) (aX Z Z Z (fun _=>aD 0 iI Z) (bQ Z Z Z (aK 0 (.int _ _) bZ M15 Z Z Z) (kB Z Z Z (eG Z Z Z (bQ Z Z Z (bG (i) dU Z Z Z ((R.mem M15).below_len (aG aF hxi)) ((R.mem M15).someK (aG aF hxi))) (bQ Z Z Z (aU 0 dZ (R.mem M15) (jD ((R.mem M15).below_len (aG aF hxi))) Z) ?_))))))))))))
     refine bQ Z Z Z (dR (o:=0) (.int _ _) bZ (R.mem M15) (aG aF hxi) Z Z) (aX Z Z Z (fun _=>cH (.bool (decide _)) Z Z Z) (bS (aC ?_)))
     refine aW Z (fun h90 => ?_) (fun h90 => ?_)
     ·refine aA (aT Z Z (aT Z Z (wq (gX Z Z (by omega) (by omega)) Z (bL Z Z (aB (cS (aC (aA (aT Z Z (wq (bE Z Z (by omega) (by omega)) Z (bL Z Z (aB ?_))))))))))))
      refine bU (k+1) (bI (iE (by rw [lJ hcn];unfold ctr;rw [if_pos (by omega),← hjv];omega)) (bI Z eC)) (bX Z (bX Z (bX Z (bX Z (bX Z gR))))) ?_ ?_
      ·exact ⟨by omega,M15.keep [false,false,false]⟩
      ·(show mc - (k+1) < mc - k;omega)
     ·refine aA (aT Z Z (aT Z Z (wq (bE Z Z (by omega) (by omega)) Z (bL Z Z (aB (cS (aC (aA (aT Z Z (wq (bE Z Z (by omega) (by omega)) Z (bL Z Z (aB ?_))))))))))))
      refine bU (k+1) (bI (iE (by rw [lJ hcn];unfold ctr;rw [if_neg (by omega),if_pos (by omega),← hjv])) (bI Z eC)) (bX Z (bX Z (bX Z (bX Z (bX Z gR))))) ?_ ?_
      ·exact ⟨by omega,M15.keep [false,false,false]⟩
      ·(show mc - (k+1) < mc - k;omega)
  ·refine yY Z Z Z (yY Z Z Z (qY Z Z Z (yY Z Z Z (yY Z Z Z (qY Z Z Z (qY Z Z Z (qY Z Z Z (yY Z Z Z (aX Z Z Z (fun _=>bM false (.bool false) Z Z) (bS (aC (cB Z (aM (aC (aE (aA (dJ Z Z (dJ Z Z ?_))))))))))))))))))
   refine wq (aD 0 gG Z) Z (wq (aD 0 iI Z) Z (wq (aK 0 (.int _ _) bZ M4 Z Z Z) Z (dM vA Z Z M4 (iY _ cn.low _ _ _ xs (R.mem M4)) (fun w16 M16=>(wq (bG (pa) dU Z Z hfa ((R.mem M16).below_len (aG aF hxa)) ((R.mem M16).someK (aG aF hxa))) Z (wq (dQ _ bR (R.mem M16) (aG aF hxa) Z) Z (aO gL M16 Z Z (fun b17 w17 M17=>(bC 1 _ bR M17 Z Z Z Z Z (aP Z) Z (fun w18 M18=>(aB (aC (aE (aA (dJ Z Z (dJ Z Z (wq (aD 0 gG Z) Z ?_)))))))))))))))))
   refine wq (aD 1 lG Z) Z (wq (aK 0 (.int _ _) bZ M18 Z Z Z) Z (dM vA Z Z M18 (iY _ cn.high _ _ _ xs (R.mem M18)) (fun w19 M19=>(wq (bG (pb) dU Z Z hfb ((R.mem M19).below_len (aG aF hxb)) ((R.mem M19).someK (aG aF hxb))) Z (wq (dQ _ bR (R.mem M19) (aG aF hxb) Z) Z (aO gL M19 Z Z (fun b20 w20 M20=>(bC 2 _ bR M20 Z Z Z Z Z (aP Z) Z (fun w21 M21=>(aB (aC (aE (aA (wq (aV 0 fL M21 Z Z Z) Z (wq (aV 1 bR M21 Z Z Z) Z ?_)))))))))))))))
   refine wq (aV 2 bR M21 Z Z Z) Z (dM bFk Z Z M21 (wJ _ cn xa xb hc.n hoa hob) (fun w22 M22=>(bL Z Z (aB (aC (aE (aA (wq (aD 2 jB Z) Z (wq (aD 0 cY Z) Z (wq (aK 0 (.int _ _) bB M22 Z Z Z) Z (bL Z Z (aB (aC (aE (aE (aA (wq (aH (.bool _) Z) Z (aB (aC ?_)))))))))))))))))))
   refine iN _ Z (fun h70 => ?_) (fun h70 => ?_)
   ·refine aA (wq (aD 2 jB Z) Z (wq (aD 1 cW Z) Z (wq (aK 0 (.int _ _) bB M22 Z Z Z) Z (bL Z Z (aB (aC (aE (aA (aT Z Z (dJ Z Z (aT Z Z (wq (bG (i) dU Z Z Z ((R.mem M22).below_len (aG aF hxi)) ((R.mem M22).someK (aG aF hxi))) Z (wq (aU 4 eS (R.mem M22) (jD ((R.mem M22).below_len (aG aF hxi))) Z) Z (wq (dR (o:=4) (.int _ _) bB (R.mem M22) (aG aF hxi) Z Z) Z (aT Z Z (aL 80 (.int .i32 (sU sec cn)) (iE (by rw [h70];rfl)) ?_))))))))))))))))
    refine wW aNi Z Z Z ?_
    have hbm:0≤b.mass∧b.mass≤xa.mass+xb.mass:=⟨(hb b hbi).m.1,xQ hs hma hmb hbi qa.1 qb.1 (by omega)⟩
    have hst:=sP hc.n hoa hob hbm
    have hmq:=(hb b hbi).m
    have hcr:=(lZ hst.2.2 hg).2.2
    have hjv:pN (mE cn xa xb) b.mass (sU sec cn)=pN (jV xs cn) b.mass (sU sec cn):=by unfold jV;rw [hba,hbb]
    refine (pK _ (mE cn xa xb) b.mass (sU sec cn) ⟨hst.1,hst.2.1⟩ hmq hst.2.2 hg).mono ?_
    rintro _ w23 ⟨v23,rfl,⟨rfl,hb23⟩⟩
    refine ⟨_,Z, ?_⟩
    have M23:=M22.callB hb23
    refine bL Z Z (aB (aC (aE (gJ [(0,0),(1,0),(2,1),(3,0),(4,0),(5,1),(6,1),(7,1),(8,0)] mixed M23 Z (by kernel_rfl) (fun w24 M24=>(aX Z Z Z (fun _=>aD 0 gG Z) (aX Z Z Z (fun _=>aD 0 iI Z) (bQ Z Z Z (aK 0 (.int _ _) bZ M24 Z Z Z) (kB Z Z Z (eG Z Z Z (bQ Z Z Z (bG (i) dU Z Z Z ((R.mem M24).below_len (aG aF hxi)) ((R.mem M24).someK (aG aF hxi))) (bQ Z Z Z (aU 0 dZ (R.mem M24) (jD ((R.mem M24).below_len (aG aF hxi))) Z) ?_))))))))))))
    refine bQ Z Z Z (dR (o:=0) (.int _ _) bZ (R.mem M24) (aG aF hxi) Z Z) (aX Z Z Z (fun _=>cH (.bool (decide _)) Z Z Z) (bS (aC ?_)))
    refine aW Z (fun h90 => ?_) (fun h90 => ?_)
    ·refine aA (aT Z Z (aT Z Z (wq (gX Z Z (by omega) (by omega)) Z (bL Z Z (aB (cS (aC (aA (aT Z Z (wq (bE Z Z (by omega) (by omega)) Z (bL Z Z (aB ?_))))))))))))
     refine bU (k+1) (bI (iE (by rw [lJ hcn];unfold ctr;rw [if_pos (by omega),← hjv];omega)) (bI Z eC)) (bX Z (bX Z (bX Z (bX Z (bX Z gR))))) ?_ ?_
     ·exact ⟨by omega,M24.keep [false,false,false]⟩
     ·(show mc - (k+1) < mc - k;omega)
    ·refine aA (aT Z Z (aT Z Z (wq (bE Z Z (by omega) (by omega)) Z (bL Z Z (aB (cS (aC (aA (aT Z Z (wq (bE Z Z (by omega) (by omega)) Z (bL Z Z (aB ?_))))))))))))
     refine bU (k+1) (bI (iE (by rw [lJ hcn];unfold ctr;rw [if_neg (by omega),if_pos (by omega),← hjv])) (bI Z eC)) (bX Z (bX Z (bX Z (bX Z (bX Z gR))))) ?_ ?_
     ·exact ⟨by omega,M24.keep [false,false,false]⟩
     ·(show mc - (k+1) < mc - k;omega)
   ·refine aM (aC (aE (aA (aT Z Z (dJ Z Z (aT Z Z (wq (bG (i) dU Z Z Z ((R.mem M22).below_len (aG aF hxi)) ((R.mem M22).someK (aG aF hxi))) Z (wq (aU 4 eS (R.mem M22) (jD ((R.mem M22).below_len (aG aF hxi))) Z) Z (wq (dR (o:=4) (.int _ _) bB (R.mem M22) (aG aF hxi) Z Z) Z (aT Z Z (aL 80 (.int .i32 (sU sec cn)) (iE (by rw [h70];rfl)) (wW aNi Z Z Z ?_))))))))))))
    have hbm:0≤b.mass∧b.mass≤xa.mass+xb.mass:=⟨(hb b hbi).m.1,xQ hs hma hmb hbi qa.1 qb.1 (by omega)⟩
    have hst:=sP hc.n hoa hob hbm
    have hmq:=(hb b hbi).m
    have hcr:=(lZ hst.2.2 hg).2.2
    have hjv:pN (mE cn xa xb) b.mass (sU sec cn)=pN (jV xs cn) b.mass (sU sec cn):=by unfold jV;rw [hba,hbb]
    refine (pK _ (mE cn xa xb) b.mass (sU sec cn) ⟨hst.1,hst.2.1⟩ hmq hst.2.2 hg).mono ?_
    rintro _ w25 ⟨v25,rfl,⟨rfl,hb25⟩⟩
    refine ⟨_,Z, ?_⟩
    have M25:=M22.callB hb25
    refine bL Z Z (aB (aC (aE (gJ [(0,0),(1,0),(2,1),(3,0),(4,0),(5,1),(6,1),(7,1),(8,0)] mixed M25 Z (by kernel_rfl) (fun w26 M26=>(aX Z Z Z (fun _=>aD 0 gG Z) (aX Z Z Z (fun _=>aD 0 iI Z) (bQ Z Z Z (aK 0 (.int _ _) bZ M26 Z Z Z) (kB Z Z Z (eG Z Z Z (bQ Z Z Z (bG (i) dU Z Z Z ((R.mem M26).below_len (aG aF hxi)) ((R.mem M26).someK (aG aF hxi))) (bQ Z Z Z (aU 0 dZ (R.mem M26) (jD ((R.mem M26).below_len (aG aF hxi))) Z) ?_))))))))))))
    refine bQ Z Z Z (dR (o:=0) (.int _ _) bZ (R.mem M26) (aG aF hxi) Z Z) (aX Z Z Z (fun _=>cH (.bool (decide _)) Z Z Z) (bS (aC ?_)))
    refine aW Z (fun h90 => ?_) (fun h90 => ?_)
    ·refine aA (aT Z Z (aT Z Z (wq (gX Z Z (by omega) (by omega)) Z (bL Z Z (aB (cS (aC (aA (aT Z Z (wq (bE Z Z (by omega) (by omega)) Z (bL Z Z (aB ?_))))))))))))
     refine bU (k+1) (bI (iE (by rw [lJ hcn];unfold ctr;rw [if_pos (by omega),← hjv];omega)) (bI Z eC)) (bX Z (bX Z (bX Z (bX Z (bX Z gR))))) ?_ ?_
     ·exact ⟨by omega,M26.keep [false,false,false]⟩
     ·(show mc - (k+1) < mc - k;omega)
    ·refine aA (aT Z Z (aT Z Z (wq (bE Z Z (by omega) (by omega)) Z (bL Z Z (aB (cS (aC (aA (aT Z Z (wq (bE Z Z (by omega) (by omega)) Z (bL Z Z (aB ?_))))))))))))
     refine bU (k+1) (bI (iE (by rw [lJ hcn];unfold ctr;rw [if_neg (by omega),if_pos (by omega),← hjv])) (bI Z eC)) (bX Z (bX Z (bX Z (bX Z (bX Z gR))))) ?_ ?_
     ·exact ⟨by omega,M26.keep [false,false,false]⟩
     ·(show mc - (k+1) < mc - k;omega)
 ·have hkn:k=mc:=by omega
  refine cM (cZ (dF (eL (aC (aE (aA (aT Z Z (bL Z Z (aB (aC (aR (cF (.int _ _) Z ?_))))))))))))
  exact ⟨iE (by rw [List.take_of_length_le (by omega)]),hM1.below⟩
theorem aSv (w:World) (A:Option Addr) (n c:Nat) (xs:List Body) (R:Rd w 10 A n (xs.map aF)) (hs:dD xs) (hb:∀ b∈xs,Okb b) (hn:n≤1048576) (B:Option Addr) (mc c':Nat) (cs:List Con) (R':Rd w 5 B mc (cs.map cQ)) (hcs:∀ c∈cs,OkC xs c) (hmc:mc≤8589934592) :
  Calls prog 155 #[.slice A n c,.slice B mc c'] w (gY (fun v w'=>∃ r:Row,v=.tuple #[.slice r.A r.n r.c,.bool (aWq xs cs)]∧bA 39 10 r.A r.n r.c ((aIq xs cs).map aF) r.e∧Mem w [] [r.e] w')):=by
 have hlen:xs.length=n:=by simpa using R.len
 have hbd:=R.bound
 have hclen:cs.length=mc:=by simpa using R'.len
 have hbd':=R'.bound
 refine aI #[.tmp 4,.tmp 5] 77 func155 Z results155 ntmps155 Z ?_
 have M0:=Mem.refl w
 refine aE (aA (eI Z Z (wq (aJ (.bool false) Z) Z (aB (aC (aE (aA (eI Z Z ?_))))))))
 have M1:=M0.dummy default
 refine aB (aC (aE (aA (wq (aJ (.bool false) Z) Z (aB (aC (aE (aE (aA (bL Z Z (aB (aC (aS (dK (σ:=Nat × Row) [0,1,4,5] (fun (k,q)=>[(6,.slice q.A q.n q.c),(7,.bool ((xs.take k).any (aWp xs cs))),(8,.int .i64 (k:Int))]) (fun (k,q) w'=>(k≤n∧bA 39 10 q.A q.n q.c (((xs.take k).map (zS xs cs)).map aF) q.e)∧Mem w [] [q.e] w') (fun (k,q)=>n - k) (0,eN) (bI Z (bI (bv Z Z) (bI Z eC))) (⟨⟨by omega,bA.nil _ _ _⟩,M1⟩) ?_))))))))))))))
 rintro ⟨k,q⟩ ρ2 w2 ⟨⟨hk,hq⟩,hM2⟩
 have htl:=List.length_take_le k xs
 have hqn:(xs.take k).length=q.n:=by simpa using hq.1
 refine aE (aE (aA (aT Z Z (dJ Z Z (wq (bW underlying29 Z) Z (cV Z Z Z Z (aB (aC ?_))))))))
 refine aW Z (fun h15 => ?_) (fun h15 => ?_)
 ·obtain ⟨xb,hxb⟩:=cG (xs:=xs) (k:=k) hlen (by omega)
  have hxm:=List.mem_of_getElem? hxb
  have hsb:=aZv hs hb hcs hclen hmc hxm
  have hvb:=(hb xb hxm).v
  have hlx:=fJ (xb.vx+jC xs cs (·.nx) xb) (l:=16777216) (by decide)
  have hly:=fJ (xb.vy+jC xs cs (·.ny) xb) (l:=16777216) (by decide)
  refine aM (aC (aE (aS (aE (kY [(0,0),(1,0),(2,1),(3,1),(4,1),(5,1),(6,0),(7,0),(8,0),(9,0),(10,2),(11,0),(12,0)] mixed Z (by kernel_rfl) (fun w3 hb3 hh3 => ?_))))))
  have M3:=hM2.drew hb3 hh3
  refine kB Z Z Z (eG Z Z Z (bQ Z Z Z (bG (k) dU Z Z Z ((R.mem M3).below_len (aG aF hxb)) ((R.mem M3).someK (aG aF hxb))) (bQ Z Z Z (aU 8 eH (R.mem M3) (jD ((R.mem M3).below_len (aG aF hxb))) Z) (bQ Z Z Z (aU 0 cY (R.mem M3) (jD ((R.mem M3).below_len (aG aF hxb))) Z) (bQ Z Z Z (dR (o:=8) (.int _ _) bB (R.mem M3) (aG aF hxb) Z Z) (aX Z Z Z (fun _=>bK eF underlying2 Z (fU _ (by omega) (by omega))) (kB Z Z Z (kB Z Z Z ?_))))))))
  refine eG Z Z Z (dO [false,false,false,false] Z (by kernel_rfl) (dM bFd Z Z M3 (aMk _ A n c xs (R.mem M3) hs hb hn B mc c' cs (R'.mem M3) hcs hmc k xb hxb false) (fun w4 M4 => ?_)))
  refine aB (aC ⟨(dS (bH Z (dR (o:=8) (.int _ _) bB (R.mem M4) (aG aF hxb) Z Z)) (dS (bH Z (aU 0 cY (R.mem M4) (jD ((R.mem M4).below_len (aG aF hxb))) Z)) (dS (bH Z (aU 8 eH (R.mem M4) (jD ((R.mem M4).below_len (aG aF hxb))) Z)) (dS (bH Z (bG (k) dU Z Z Z ((R.mem M4).below_len (aG aF hxb)) ((R.mem M4).someK (aG aF hxb)))) dI)))), ?_⟩)
  refine dX 28 (.int .i64 (jC xs cs (·.nx) xb)) Z (aX Z Z Z (fun _=>bE Z Z (by omega) (by omega)) (nV Z Z Z (bS (aC (aE (gJ [(0,0),(1,0),(2,1),(3,1),(4,1),(5,1),(6,0),(7,0),(8,0),(9,0),(10,2),(11,0),(12,0)] mixed M4 Z (by kernel_rfl) (fun w5 M5=>(kB Z Z Z (eG Z Z Z (bQ Z Z Z (bG (k) dU Z Z Z ((R.mem M5).below_len (aG aF hxb)) ((R.mem M5).someK (aG aF hxb))) (bQ Z Z Z (aU 8 eH (R.mem M5) (jD ((R.mem M5).below_len (aG aF hxb))) Z) (bQ Z Z Z (aU 1 cW (R.mem M5) (jD ((R.mem M5).below_len (aG aF hxb))) Z) ?_))))))))))))
  refine bQ Z Z Z (dR (o:=9) (.int _ _) bB (R.mem M5) (aG aF hxb) Z Z) (aX Z Z Z (fun _=>bK eF underlying2 Z (fU _ (by omega) (by omega))) (kB Z Z Z (kB Z Z Z (eG Z Z Z (dO [false,false,false,false] Z (by kernel_rfl) (dM bFd Z Z M5 (aMk _ A n c xs (R.mem M5) hs hb hn B mc c' cs (R'.mem M5) hcs hmc k xb hxb true) (fun w6 M6 => ?_)))))))
  refine aB (aC ⟨(dS (bH Z (dR (o:=9) (.int _ _) bB (R.mem M6) (aG aF hxb) Z Z)) (dS (bH Z (aU 1 cW (R.mem M6) (jD ((R.mem M6).below_len (aG aF hxb))) Z)) (dS (bH Z (aU 8 eH (R.mem M6) (jD ((R.mem M6).below_len (aG aF hxb))) Z)) (dS (bH Z (bG (k) dU Z Z Z ((R.mem M6).below_len (aG aF hxb)) ((R.mem M6).someK (aG aF hxb)))) dI)))), ?_⟩)
  refine dX 40 (.int .i64 (jC xs cs (·.ny) xb)) Z (aX Z Z Z (fun _=>bE Z Z (by omega) (by omega)) (nV Z Z Z (bS (aC (aE (aA (dJ Z Z (aT Z Z (wq (bG (k) dU Z Z Z ((R.mem M6).below_len (aG aF hxb)) ((R.mem M6).someK (aG aF hxb))) Z (wq (dQ _ bR (R.mem M6) (aG aF hxb) Z) Z (aO gL M6 Z Z (fun b7 w7 M7=>(bC 1 _ bR M7 Z Z Z Z Z (aP Z) Z (fun w8 M8=>(aB (aC (aE (aA (aT Z Z (dM zD Z Z M8 (lU _ (xb.vx+jC xs cs (·.nx) xb) 16777216 ⟨by decide,by decide⟩) (fun w9 M9 => ?_)))))))))))))))))))))
  refine wq (bK nU underlying21 Z (kM _ (by omega) (by omega))) Z (aT Z Z (dM zD Z Z M9 (lU _ (xb.vy+jC xs cs (·.ny) xb) 16777216 ⟨by decide,by decide⟩) (fun w10 M10=>(wq (bK nU underlying21 Z (kM _ (by omega) (by omega))) Z (wq (cI [(0,.int _ _),(1,.int _ _)] _ fK Z Z) Z (wq (aD 8 eH Z) Z (wX 1 _ bP M10 Z Z Z Z Z (aP Z) (Nat.le_of_ble_eq_true Z) (fun w11 M11=>(aB (aC (aE (aA (wq (aH (.bool _) Z) Z (wq (aH (.bool _) Z) Z ?_))))))))))))))
  refine kH 55 _ Z (fun g55 => ?_) (fun g55 => ?_)
  ·refine aQ Z Z (aQ Z Z (aQ Z Z (aQ Z Z (aQ Z Z (aQ Z Z (wq (bM true (.bool true) Z Z) Z (wq (aH (.bool true) Z) Z (aQ Z Z (aQ Z Z (aQ Z Z (aQ Z Z (aQ Z Z (aQ Z Z (wq (bM true (.bool true) Z Z) Z (wq (aJ (.bool true) Z) Z ?_)))))))))))))))
   refine aB (aC (aA (dJ rfl rfl (wq (aV 1 bR M11 rfl rfl rfl) rfl (bV [.agg (List.toArray _)] [aF (zS xs cs xb)] rfl dU M11 rfl rfl rfl rfl (cO rfl) (by decide) (fun b12 w12 M12=>(cP 0 [aF (zS xs cs xb)] dU M12 rfl rfl rfl rfl rfl hq rfl (by simp [aF,Go.Bil.one]) (dN.ofMem 2 M12 rfl) (by omega) (fun A13 c13 e13 w13 M13 hR13=>(eI rfl rfl (aB (cS (aC (aA (aT rfl rfl (wq (bE rfl rfl (by omega) (by omega)) rfl (bL rfl rfl (aB ?_)))))))))))))))))
   refine bU (k+1,⟨A13,q.n+1,c13,e13⟩) (bI Z (bI (bv Z (by rw [cC hxb,List.any_append,List.any_cons,List.any_nil,Bool.or_false];rw [g55,Bool.true_or])) (bI Z eC))) (bX Z (bX Z (bX Z (bX Z gR)))) ?_ ?_
   ·exact ⟨⟨by omega,by rw [cC hxb,List.map_append,List.map_append];exact hR13⟩,M13.keep [true,false,false]⟩
   ·(show n - (k+1) < n - k;omega)
  ·refine wq (aD 8 eH Z) Z (wq (aD 0 cY Z) Z (wq (aK 1 (.int _ _) bB M11 Z Z Z) Z (wq (bK eF underlying2 Z (fU _ (by omega) (by omega))) Z (aT Z Z (cV Z Z Z Z (wq (bM false (.bool (decide _)) Z Z) Z (wq (aH (.bool (decide _)) Z) Z ?_)))))))
   refine dT 63 Z (fun g63 => ?_) (fun g63 => ?_)
   ·refine aQ rfl rfl (aQ rfl rfl (aQ rfl rfl (aQ rfl rfl (aQ rfl rfl (aQ rfl rfl (wq (bM true (.bool true) rfl rfl) rfl (wq (aJ (.bool true) rfl) rfl (aB (aC (aA (dJ rfl rfl (wq (aV 1 bR M11 rfl rfl rfl) rfl (bV [.agg (List.toArray _)] [aF (zS xs cs xb)] rfl dU M11 rfl rfl rfl rfl (cO rfl) (by decide) (fun b14 w14 M14=>(cP 0 [aF (zS xs cs xb)] dU M14 rfl rfl rfl rfl rfl hq rfl (by simp [aF,Go.Bil.one]) (dN.ofMem 2 M14 rfl) (by omega) (fun A15 c15 e15 w15 M15 hR15=>(eI rfl rfl (aB (cS ?_)))))))))))))))))))
    refine aC (aA (aT Z Z (wq (bE Z Z (by omega) (by omega)) Z (bL Z Z (aB ?_)))))
    refine bU (k+1,⟨A15,q.n+1,c15,e15⟩) (bI rfl (bI (bv rfl (by rw [cC hxb,List.any_append,List.any_cons,List.any_nil,Bool.or_false];rw [g55];simp [aWp,g63])) (bI rfl eC))) (bX rfl (bX rfl (bX rfl (bX rfl gR)))) ?_ ?_
    ·exact ⟨⟨by omega,by rw [cC hxb,List.map_append,List.map_append];exact hR15⟩,M15.keep [true,false,false]⟩
    ·(show n - (k+1) < n - k;omega)
   ·refine wq (aD 8 eH rfl) rfl (wq (aD 1 cW rfl) rfl (wq (aK 1 (.int _ _) bB M11 rfl rfl rfl) rfl (wq (bK eF underlying2 rfl (fU _ (by omega) (by omega))) rfl (aT rfl rfl (cV rfl rfl rfl rfl (wq (bM false (.bool (decide _)) rfl rfl) rfl (wq (aJ (.bool (decide _)) rfl) rfl (aB (aC (aA (dJ rfl rfl (wq (aV 1 bR M11 rfl rfl rfl) rfl (bV [.agg (List.toArray _)] [aF (zS xs cs xb)] rfl dU M11 rfl rfl rfl rfl (cO rfl) (by decide) (fun b16 w16 M16=>(cP 0 [aF (zS xs cs xb)] dU M16 rfl rfl rfl rfl rfl hq rfl (by simp [aF,Go.Bil.one]) (dN.ofMem 2 M16 rfl) (by omega) (fun A17 c17 e17 w17 M17 hR17 => ?_))))))))))))))))
    refine eI Z Z (aB (cS (aC (aA (aT Z Z (wq (bE Z Z (by omega) (by omega)) Z (bL Z Z (aB ?_))))))))
    refine bU (k+1,⟨A17,q.n+1,c17,e17⟩) (bI rfl (bI (bv rfl (by rw [cC hxb,List.any_append,List.any_cons,List.any_nil,Bool.or_false];rw [g55];simp [aWp,g63])) (bI rfl eC))) (bX rfl (bX rfl (bX rfl (bX rfl gR)))) ?_ ?_
    ·exact ⟨⟨by omega,by rw [cC hxb,List.map_append,List.map_append];exact hR17⟩,M17.keep [true,false,false]⟩
    ·(show n - (k+1) < n - k;omega)
 ·have hkn:k=n:=by omega
  rw [List.take_of_length_le (by omega)] at hq
  refine cM (cZ (dF (eL (aC (aE (aA (dJ Z Z (wq (aH (.bool _) Z) Z (eI Z Z (wq (aJ (.bool _) Z) Z (aB (aC (aR (gE (.slice _ _ _) (.bool _) Z Z ?_))))))))))))))
  exact ⟨q,wQ Z (congrArg Value.bool (by rw [List.take_of_length_le (by omega)];rfl)),hq,hM2⟩
theorem aSw (w:World) (A:Option Addr) (n c:Nat) (xs:List Body) (R:Rd w 10 A n (xs.map aF)) (hs:dD xs) (hb:∀ b∈xs,Okb b) (hn:n≤1048576) (B:Option Addr) (mc c':Nat) (cs:List Con) (R':Rd w 5 B mc (cs.map cQ)) (hcs:∀ c∈cs,OkC xs c) (hmc:mc≤8589934592) :
  Calls prog 130 #[.slice A n c,.slice B mc c'] w (gY (fun v w'=>∃ r:Row,v=.tuple #[.slice r.A r.n r.c,.bool (iZ xs cs 4).2]∧bA 39 10 r.A r.n r.c (((iZ xs cs 4).1).map aF) r.e∧Mem w [] [r.e] w')):=by
 have hlen:xs.length=n:=by simpa using R.len
 have hbd:=R.bound
 have hclen:cs.length=mc:=by simpa using R'.len
 have hbd':=R'.bound
 refine aI #[.tmp 4,.tmp 5] 27 func130 Z results130 ntmps130 Z ?_
 have M0:=Mem.refl w
 refine aE (aA (eI Z Z (wq (aJ (.bool false) Z) Z (aB (aC (aE (aA (wq (aJ (.bool false) Z) Z ?_))))))))
 have M1:=M0.dummy default
 refine aB (aC (aE (aE (aA (bL Z Z (aB (aC (aS (dK (σ:=Nat × Row) [1,4,5] (fun (k,q)=>[(0,.slice q.A q.n q.c),(6,.bool (iZ xs cs k).2),(7,.int .i64 (k:Int))]) (fun (k,q) w'=>(k≤4∧Rd w' 10 q.A q.n ((iZ xs cs k).1.map aF)∧(0 < k→bA 39 10 q.A q.n q.c (((iZ xs cs k).1).map aF) q.e))∧Mem w [] [q.e] w') (fun (k,q)=>4 - k) (0,⟨A,n,c,(none,default)⟩) (bI Z (bI (bv Z Z) (bI Z eC))) (⟨⟨by omega,R.mem M1,(fun h=>absurd h (by omega))⟩,M1⟩) ?_)))))))))
 rintro ⟨k,q⟩ ρ2 w2 ⟨⟨hk,hRq,hq⟩,hM2⟩
 have hql:(iZ xs cs k).1.length=q.n:=by simpa using hRq.len
 have hsl:=(kL xs cs k).len
 refine aE (aE (aA (aT Z Z (cV Z Z Z Z (aB (aC ?_))))))
 refine aW Z (fun h11 => ?_) (fun h11 => ?_)
 ·refine aM (aC (aE (aS (aE (aA (dJ Z Z (dJ Z Z (eJ bSj Z Z (aSv _ q.A q.n q.c (iZ xs cs k).1 hRq ((kL xs cs k).sorted hs) (tZ hb k) (by omega) B mc c' cs (R'.mem hM2) (fun c h=>(kL xs cs k).okc (hcs c h)) hmc) ?_))))))))
  rintro v3 w3 ⟨r,rfl,hr,hM3⟩
  have M3:Mem _ _ [_,_] _:=hM2.call0 hM3
  refine wq (aH (.tuple (List.toArray _)) Z) Z (wq (bJ (.slice _ _ _) Z Z) Z (wq (bJ (.bool _) Z Z) Z (eI Z Z (wq (aJ (.bool _) Z) Z (aB (aC (aE (aA (dJ Z Z (eI Z Z (aB (aC (aA (wq (aH (.bool _) Z) Z (wq (aH (.bool _) Z) Z ?_)))))))))))))))
  refine kH 22 _ Z (fun g22 => ?_) (fun g22 => ?_)
  ·refine aQ Z Z (wq (bM true (.bool true) Z Z) Z (wq (aJ (.bool true) Z) Z (aB (cS (aC (aA (aT Z Z (wq (bE Z Z (by omega) (by omega)) Z (bL Z Z (aB ?_))))))))))
   refine bU (k+1,r) (bI Z (bI (bv Z (by show true=(_ || _);rw [g22,Bool.true_or])) (bI Z eC))) (bX Z (bX Z (bX Z gR))) ?_ ?_
   ·exact ⟨⟨by omega,hr.rd M3 (aN (i:=1) Z),(fun _=>hr)⟩,M3.keep [false,true]⟩
   ·(show 4 - (k+1) < 4 - k;omega)
  ·refine wq (aH (.bool _) Z) Z (wq (bM false (.bool _) Z Z) Z (wq (aJ (.bool _) Z) Z (aB (cS (aC (aA (aT Z Z (wq (bE Z Z (by omega) (by omega)) Z (bL Z Z (aB ?_))))))))))
   refine bU (k+1,r) (bI Z (bI (bv Z (by show _=(_ || _);rw [g22,Bool.false_or])) (bI Z eC))) (bX Z (bX Z (bX Z gR))) ?_ ?_
   ·exact ⟨⟨by omega,hr.rd M3 (aN (i:=1) Z),(fun _=>hr)⟩,M3.keep [false,true]⟩
   ·(show 4 - (k+1) < 4 - k;omega)
 ·have hk4:k=4:=by omega
  rw [hk4] at hq
  refine cM (cZ (dF (eL (aC (aE (aA (dJ Z Z (wq (aH (.bool _) Z) Z (eI Z Z (wq (aJ (.bool _) Z) Z (aB (aC (aR (gE (.slice _ _ _) (.bool _) Z Z ?_))))))))))))))
  exact ⟨q,wQ Z (congrArg Value.bool (by rw [hk4])),hq (by omega),hM2⟩
theorem aOy (w:World) (c:Con) (a b:Body) (hc:Okn c) (ha:Okb a) (hb:Okb b) :
  Calls prog 179 #[.agg (cQ c).toArray,(.agg (aF a).toArray),(.agg (aF b).toArray)] w (Rb w (.int .i64 (rB c a b))):=by
 have hdp:=hc.d
 have hm1:=ha.m
 have hm2:=hb.m
 refine aI #[.tmp 6] 24 func179 Z results179 ntmps179 Z ?_
 have M0:=Mem.refl w
 refine aE (aA (bO (.agg (.mk _)) M0 Z Z Z (fun b1 w1 M1=>(bO (.agg (.mk _)) M1 Z Z Z (fun b2 w2 M2=>(bO (.agg (.mk _)) M2 Z Z Z (fun b3 w3 M3=>(bL Z Z (aB (aC (aE (aE (aA (wq (aD 4 aHh Z) Z (wq (aK 0 (.int _ _) bB M3 Z Z Z) Z (cV Z Z Z Z (wq (aH (.bool (decide _)) Z) Z ?_)))))))))))))))))
 refine dT 10 Z (fun g10 => ?_) (fun g10 => ?_)
 ·refine aQ Z Z (aQ Z Z (aQ Z Z (aQ Z Z (aQ Z Z (aQ Z Z (wq (bM true (.bool true) Z Z) Z (aB (aC (cE Z (aE (aA (bL Z Z (aB (aC (aR (cK (cF (.int _ _) Z ?_)))))))))))))))))
  exact ⟨iE (by unfold rB;rw [if_pos (by omega)]),M3.below⟩
 ·refine wq (aD 4 eS Z) Z (wq (aK 1 (.int _ _) bB M3 Z Z Z) Z (wq (aD 4 eS Z) Z (wq (aK 2 (.int _ _) bB M3 Z Z Z) Z (wq (kJ Z Z (kM _ (by omega) (by omega))) Z (cV Z Z Z Z (wq (bM false (.bool (decide _)) Z Z) Z (aB (aC ?_))))))))
  refine aW Z (fun h17 => ?_) (fun h17 => ?_)
  ·refine aE (aA (bL Z Z (aB (aC (aR (cK (cF (.int _ _) Z ?_)))))))
   exact ⟨iE (by unfold rB;rw [if_pos (by omega)]),M3.below⟩
  ·refine aM (aC (aE (aA (wq (aD 4 aHh Z) Z (wq (aK 0 (.int _ _) bB M3 Z Z Z) Z (wq (bK eF underlying2 Z (fU _ (by omega) (by omega))) Z (wq (gX Z Z (by omega) (by omega)) Z (wq (fO Z Z (by omega) (by omega)) Z (dM mK Z Z M3 (fS _ ((c.depth - 1024)*26214) 65536 (by decide) (by omega) (by omega)) (fun w4 M4=>(bL Z Z (aB (aC (aR (cF (.int _ _) Z ?_)))))))))))))))
   exact ⟨iE (by unfold rB;rw [if_neg (by omega)]),M4.below⟩
theorem aEt (w:World) (c:Con) (a b:Body) (hc:Okn c) (ha:Okb a) (hb:Okb b) (m:Int) (hm:0≤m∧m≤1048576) :
  Calls prog 156 #[.agg (cQ c).toArray,(.agg (aF a).toArray),(.agg (aF b).toArray),.int .i32 m] w (Rb w (.int .i64 (sZ c a b m))):=by
 have hdp:=hc.d
 have hm1:=ha.m
 have hm2:=hb.m
 have hsr:=aZs (a:=a) (b:=b) hc hm
 have har:=aFl (a:=a) (b:=b) hc
 refine aI #[.tmp 8] 28 func156 Z results156 ntmps156 Z ?_
 have M0:=Mem.refl w
 refine aE (aA (bO (.agg (.mk _)) M0 Z Z Z (fun b1 w1 M1=>(bO (.agg (.mk _)) M1 Z Z Z (fun b2 w2 M2=>(bO (.agg (.mk _)) M2 Z Z Z (fun b3 w3 M3=>(bL Z Z (aB (aC (aE (aA (wq (aV 0 fL M3 Z Z Z) Z (wq (aV 1 bR M3 Z Z Z) Z (wq (aV 2 bR M3 Z Z Z) Z (dM bSq Z Z M3 (aOy _ c a b hc ha hb) (fun w4 M4=>(bL Z Z (aB (aC (aE (aE (aA (aT Z Z (cV Z Z Z Z (aB (aC ?_)))))))))))))))))))))))))))
 refine aW Z (fun h15 => ?_) (fun h15 => ?_)
 ·refine aE (aA (bL Z Z (aB (aC (aR (cK (cF (.int _ _) Z ?_)))))))
  exact ⟨iE (by unfold sZ;rw [h15];simp),M4.below⟩
 ·have hsp:0 < a.mass+b.mass:=by unfold rB at h15;split at h15 <;> omega
  have hmx:max 1 (a.mass+b.mass)=a.mass+b.mass:=by omega
  refine aM (aC (aE (aA (aT Z Z (aT Z Z (wq (bK eF underlying2 Z (fU _ (by omega) (by omega))) Z (wq (fO Z Z (by omega) (by omega)) Z (wq (aD 4 eS Z) Z (wq (aK 1 (.int _ _) bB M4 Z Z Z) Z (wq (bK eF underlying2 Z (fU _ (by omega) (by omega))) Z (wq (aD 4 eS Z) Z (wq (aK 2 (.int _ _) bB M4 Z Z Z) Z (wq (bK eF underlying2 Z (fU _ (by omega) (by omega))) Z (wq (bE Z Z (by omega) (by omega)) Z (dM mK Z Z M4 (fS _ (rB c a b*m) (a.mass+b.mass) hsp (by omega) (by omega)) (fun w5 M5 => ?_))))))))))))))))
  refine bL Z Z (aB (aC (aR (cF (.int _ _) Z ?_))))
  exact ⟨iE (by unfold sZ;rw [hmx]),M5.below⟩
theorem aOz (w:World) (A:Option Addr) (n c:Nat) (xs:List Body) (R:Rd w 10 A n (xs.map aF)) (hs:dD xs) (hb:∀ b∈xs,Okb b) (hn:n≤1048576) (B:Option Addr) (mc c':Nat) (cs:List Con) (R':Rd w 5 B mc (cs.map cQ)) (hcs:∀ c∈cs,OkC xs c) (hmc:mc≤1073741824) :
  Calls prog 132 #[.slice A n c,.slice B mc c'] w (gY (fun v w'=>∃ r:Row,v=.slice r.A r.n r.c∧bA 214 2 r.A r.n r.c ((xs.map (lI xs cs)).map cT) r.e∧Mem w [] [r.e] w')):=by
 have hlen:xs.length=n:=by simpa using R.len
 have hbd:=R.bound
 have hclen:cs.length=mc:=by simpa using R'.len
 have hbd':=R'.bound
 refine aI #[.tmp 4] 118 func132 Z results132 ntmps132 Z ?_
 have M0:=Mem.refl w
 refine aE (aA (eI Z Z (aB (aC (aE (aA (eI Z Z ?_)))))))
 have M1:=M0.dummy default
 refine aB (aC (aE (aE (aA (bL Z Z (aB (aC (aS (dK (σ:=Nat × Row) [0,1,4] (fun (i,q)=>[(5,.slice q.A q.n q.c),(6,.int .i64 (i:Int))]) (fun (i,q) w'=>(i≤n∧bA 214 2 q.A q.n q.c (((xs.take i).map (lI xs cs)).map cT) q.e)∧Mem w [] [q.e] w') (fun (i,q)=>n - i) (0,eN) (bI Z (bI Z eC)) (⟨⟨by omega,bA.nil _ _ _⟩,M1⟩) ?_)))))))))
 rintro ⟨i,q⟩ ρ2 w2 ⟨⟨hi,hq⟩,hM2⟩
 have htl:=List.length_take_le i xs
 have hqn:(xs.take i).length=q.n:=by simpa using hq.1
 refine aE (aE (aA (aT Z Z (dJ Z Z (wq (bW underlying29 Z) Z (cV Z Z Z Z (aB (aC ?_))))))))
 refine aW Z (fun h18 => ?_) (fun h18 => ?_)
 ·obtain ⟨xb,hxb⟩:=cG (xs:=xs) (k:=i) hlen (by omega)
  have hbi:=List.mem_of_getElem? hxb
  refine aM (aC (aE (aS (aE (aA (aO bOx hM2 Z Z (fun b3 w3 M3=>(aB (aC (aE (aE (aA (bL Z Z (aB (aC (aS (dK (σ:=Nat) [0,1,4,5,6,7] (fun k2=>[(8,.int .i64 (k2:Int))]) (fun k2 w'=>k2≤mc∧Mem w [] [q.e,(some b3,bc [.int .i64 (yJ xs (cs.take k2) (·.nx) xb),.int .i64 (yJ xs (cs.take k2) (·.ny) xb)] 214)] w') (fun k2=>mc - k2) 0 (bI Z eC) (⟨by omega,by rw [xU,xU];exact M3⟩) ?_)))))))))))))))))
  rintro k2 ρ4 w4 ⟨hk2,hM4⟩
  have hsb:=aFv hs hb hcs hclen hmc k2 hbi
  unfold lI at hsb
  simp only at hsb
  refine aE (aE (aA (aT Z Z (dJ Z Z (wq (bW underlying166 Z) Z (cV Z Z Z Z (aB (aC ?_))))))))
  refine aW Z (fun h24 => ?_) (fun h24 => ?_)
  ·obtain ⟨cn,hcn⟩:=cG (xs:=cs) (k:=k2) hclen (by omega)
   have hc:=hcs cn (List.mem_of_getElem? hcn)
   have hne:=hc.ne
   have hnx:=hc.n.x
   have hny:=hc.n.y
   obtain ⟨pa,xa,hxa,hka,hfa⟩:=xH hc.l
   obtain ⟨pb,xb2,hxb2,hkb,hfb⟩:=xH hc.h
   have hba:=aCf hxa hfa
   have hbb:=aCf hxb2 hfb
   have hma:=List.mem_of_getElem? hxa
   have hmb:=List.mem_of_getElem? hxb2
   have hoa:=hb xa hma
   have hob:=hb xb2 hmb
   have qa:=hoa.m
   have qb:=hob.m
   refine aM (aC (aE (aS (aE (aA (dJ Z Z (aT Z Z (wq (bG (k2) vD Z Z Z ((R'.mem hM4).below_len (aG cQ hcn)) ((R'.mem hM4).someK (aG cQ hcn))) Z (wq (dQ _ fL (R'.mem hM4) (aG cQ hcn) Z) Z (aO oK hM4 Z Z (fun b5 w5 M5=>(bC 2 _ fL M5 Z Z Z Z Z (aP Z) Z (fun w6 M6=>(aB (aC (aE (aE (gJ [(0,0),(1,0),(2,1),(3,0),(4,0),(5,1),(6,1),(7,1),(8,0),(9,0),(10,0),(11,0),(12,1),(13,0),(14,0),(15,1),(16,1),(17,1),(18,0),(19,0)] mixed M6 Z (by kernel_rfl) (fun w7 M7 => ?_)))))))))))))))))))
   refine aX Z Z Z (fun _=>aD 0 gG Z) (aX Z Z Z (fun _=>aD 0 iI Z) (bQ Z Z Z (aK 2 (.int _ _) bZ M7 Z Z Z) (kB Z Z Z (eG Z Z Z (bQ Z Z Z (bG (i) dU Z Z Z ((R.mem M7).below_len (aG aF hxb)) ((R.mem M7).someK (aG aF hxb))) (bQ Z Z Z (aU 0 dZ (R.mem M7) (jD ((R.mem M7).below_len (aG aF hxb))) Z) (bQ Z Z Z (dR (o:=0) (.int _ _) bZ (R.mem M7) (aG aF hxb) Z Z) (aX Z Z Z (fun _=>cH (.bool (decide _)) Z Z Z) ?_))))))))
   refine aX Z Z Z (fun _=>aH (.bool (decide _)) Z) ?_
   refine vH 40 Z (fun g40 => ?_) (fun g40 => ?_)
   ·refine aX Z Z Z (fun _=>aD 0 gG Z) (aX Z Z Z (fun _=>aD 1 lG Z) (bQ Z Z Z (aK 2 (.int _ _) bZ M7 Z Z Z) (kB Z Z Z (eG Z Z Z (bQ Z Z Z (bG (i) dU Z Z Z ((R.mem M7).below_len (aG aF hxb)) ((R.mem M7).someK (aG aF hxb))) (bQ Z Z Z (aU 0 dZ (R.mem M7) (jD ((R.mem M7).below_len (aG aF hxb))) Z) (bQ Z Z Z (dR (o:=0) (.int _ _) bZ (R.mem M7) (aG aF hxb) Z Z) (aX Z Z Z (fun _=>cH (.bool (decide _)) Z Z Z) ?_))))))))
    refine aX Z Z Z (fun _=>bM true (.bool (decide _)) Z Z) (bS (aC ?_))
    refine aW Z (fun h50 => ?_) (fun h50 => ?_)
    ·refine cM (cZ (eL (aC (aA (aT Z Z (wq (bE Z Z (by omega) (by omega)) Z (bL Z Z (aB ?_))))))))
     refine bU (k2+1) (bI Z eC) (bX Z (bX Z (bX Z (bX Z (bX Z (bX Z gR)))))) ?_ ?_
     ·exact ⟨by omega,by rw [kA hcn,kA hcn];unfold yI;(have n1:¬ cn.low=xb.key:=by omega);(have n2:¬ cn.high=xb.key:=by omega);rw [if_neg n1,if_neg n2,if_neg n1,if_neg n2,Int.add_zero,Int.add_zero];exact M7.keep [true,true,false]⟩
     ·(show mc - (k2+1) < mc - k2;omega)
    ·refine aM (aC (aE (aA (dJ Z Z (dJ Z Z (wq (aD 0 gG Z) Z (wq (aD 0 iI Z) Z (wq (aK 2 (.int _ _) bZ M7 Z Z Z) Z (dM vA Z Z M7 (iY _ cn.low _ _ _ xs (R.mem M7)) (fun w8 M8=>(wq (bG (pa) dU Z Z hfa ((R.mem M8).below_len (aG aF hxa)) ((R.mem M8).someK (aG aF hxa))) Z (wq (dQ _ bR (R.mem M8) (aG aF hxa) Z) Z (aO gL M8 Z Z (fun b9 w9 M9=>(bC 3 _ bR M9 Z Z Z Z Z (aP Z) Z (fun w10 M10=>(aB (aC (aE (aA ?_))))))))))))))))))))
     refine dJ Z Z (dJ Z Z (wq (aD 0 gG Z) Z (wq (aD 1 lG Z) Z (wq (aK 2 (.int _ _) bZ M10 Z Z Z) Z (dM vA Z Z M10 (iY _ cn.high _ _ _ xs (R.mem M10)) (fun w11 M11=>(wq (bG (pb) dU Z Z hfb ((R.mem M11).below_len (aG aF hxb2)) ((R.mem M11).someK (aG aF hxb2))) Z (wq (dQ _ bR (R.mem M11) (aG aF hxb2) Z) Z (aO gL M11 Z Z (fun b12 w12 M12=>(bC 4 _ bR M12 Z Z Z Z Z (aP Z) Z (fun w13 M13=>(aB (aC (aE (gJ [(0,1),(1,1),(2,1),(3,0),(4,0),(5,1),(6,1),(7,1),(8,2),(9,0)] mixed M13 Z (by kernel_rfl) (fun w14 M14 => ?_)))))))))))))))))
     refine bQ Z Z Z (aV 2 fL M14 Z Z Z) (bQ Z Z Z (aV 3 bR M14 Z Z Z) (bQ Z Z Z (aV 4 bR M14 Z Z Z) (kB Z Z Z (eG Z Z Z (bQ Z Z Z (bG (i) dU Z Z Z ((R.mem M14).below_len (aG aF hxb)) ((R.mem M14).someK (aG aF hxb))) (bQ Z Z Z (aU 4 eS (R.mem M14) (jD ((R.mem M14).below_len (aG aF hxb))) Z) (bQ Z Z Z (dR (o:=4) (.int _ _) bB (R.mem M14) (aG aF hxb) Z Z) (dO [true,true,true,true,true,true] Z (by kernel_rfl) (wW bFa Z Z Z ?_)))))))))
     have hbm:0≤xb.mass∧xb.mass≤xa.mass+xb2.mass:=⟨(hb xb hbi).m.1,xQ hs hma hmb hbi qa.1 qb.1 (by omega)⟩
     have hmq:=(hb xb hbi).m
     have hsl:=aDl hc.n hbm
     have r1:=nO hsl hnx
     have r2:=nO hsl hny
     refine (aEt _ cn xa xb2 hc.n hoa hob xb.mass hmq).mono ?_
     rintro _ w15 ⟨v15,rfl,⟨rfl,hb15⟩⟩
     refine ⟨_,Z, ?_⟩
     have M15:=M14.callB hb15
     refine aB (aC ⟨dI, ?_⟩)
     refine nV Z Z Z (bS (aC (aE (aA (aT Z Z (wq (aD 2 jB Z) Z (wq (aD 0 cY Z) Z (wq (aK 2 (.int _ _) bB M15 Z Z Z) Z (wq (bK eF underlying2 Z (fU _ (by omega) (by omega))) Z (wq (fO Z Z (by omega) (by omega)) Z (dM mK Z Z M15 (fS _ _ 65536 (by decide) (by omega) (by omega)) (fun w16 M16=>(bL Z Z (aB (aC (aE (aA (aT Z Z (wq (aD 2 jB Z) Z (wq (aD 1 cW Z) Z (wq (aK 2 (.int _ _) bB M16 Z Z Z) Z ?_)))))))))))))))))))))
     refine wq (bK eF underlying2 Z (fU _ (by omega) (by omega))) Z (wq (fO Z Z (by omega) (by omega)) Z (dM mK Z Z M16 (fS _ _ 65536 (by decide) (by omega) (by omega)) (fun w17 M17=>(bL Z Z (aB (aC (aE (aE (gJ [(0,0),(1,0),(2,1),(3,0),(4,0),(5,1),(6,1),(7,1),(8,0)] mixed M17 Z (by kernel_rfl) (fun w18 M18=>(aX Z Z Z (fun _=>aD 0 gG Z) (aX Z Z Z (fun _=>aD 0 iI Z) (bQ Z Z Z (aK 2 (.int _ _) bZ M18 Z Z Z) (kB Z Z Z (eG Z Z Z (bQ Z Z Z (bG (i) dU Z Z Z ((R.mem M18).below_len (aG aF hxb)) ((R.mem M18).someK (aG aF hxb))) ?_))))))))))))))))
     refine bQ Z Z Z (aU 0 dZ (R.mem M18) (jD ((R.mem M18).below_len (aG aF hxb))) Z) (bQ Z Z Z (dR (o:=0) (.int _ _) bZ (R.mem M18) (aG aF hxb) Z Z) (aX Z Z Z (fun _=>cH (.bool (decide _)) Z Z Z) (bS (aC ?_))))
     refine aW Z (fun h98 => ?_) (fun h98 => ?_)
     ·refine aE (aA (aT Z Z (wq (sX Z (fU _ (by omega) (by omega))) Z (bL Z Z (aB (aC (aA (aT Z Z (wq (sX Z (fU _ (by omega) (by omega))) Z (bL Z Z (aB (aC (aE (aA (wq (aD 0 mO Z) Z (wq (aK 1 (.int _ _) kI M18 Z Z Z) Z (aT Z Z (wq (bE Z Z (by omega) (by omega)) Z (wq (aD 0 mO Z) Z (dA 1 (.int _ _) kI M18 Z Z Z Z Z Z (fun w19 M19=>(aB (aC (aA ?_))))))))))))))))))))))))
      refine wq (aD 1 mP Z) Z (wq (aK 1 (.int _ _) kI M19 Z Z Z) Z (aT Z Z (wq (bE Z Z (by omega) (by omega)) Z (wq (aD 1 mP Z) Z (dA 1 (.int _ _) kI M19 Z Z Z Z Z Z (fun w20 M20=>(aB (cS (aC (aA (aT Z Z (wq (bE Z Z (by omega) (by omega)) Z (bL Z Z (aB ?_))))))))))))))
      refine bU (k2+1) (bI Z eC) (bX Z (bX Z (bX Z (bX Z (bX Z (bX Z gR)))))) ?_ ?_
      ·exact ⟨by omega,by rw [kA hcn,kA hcn];unfold yI;(have n1:cn.low=xb.key:=by omega);rw [if_pos n1,if_pos n1,hba,hbb];exact M20.keep [true,true,false,false,false]⟩
      ·(show mc - (k2+1) < mc - k2;omega)
     ·refine aM (aC (aE (aA (wq (aD 0 mO Z) Z (wq (aK 1 (.int _ _) kI M18 Z Z Z) Z (aT Z Z (wq (bE Z Z (by omega) (by omega)) Z (wq (aD 0 mO Z) Z (dA 1 (.int _ _) kI M18 Z Z Z Z Z Z (fun w21 M21=>(aB (aC (aA (wq (aD 1 mP Z) Z (wq (aK 1 (.int _ _) kI M21 Z Z Z) Z (aT Z Z (wq (bE Z Z (by omega) (by omega)) Z (wq (aD 1 mP Z) Z (dA 1 (.int _ _) kI M21 Z Z Z Z Z Z (fun w22 M22=>(aB (cS ?_))))))))))))))))))))))
      refine aC (aA (aT Z Z (wq (bE Z Z (by omega) (by omega)) Z (bL Z Z (aB ?_)))))
      refine bU (k2+1) (bI Z eC) (bX Z (bX Z (bX Z (bX Z (bX Z (bX Z gR)))))) ?_ ?_
      ·exact ⟨by omega,by rw [kA hcn,kA hcn];unfold yI;(have n1:¬ cn.low=xb.key:=by omega);(have n2:cn.high=xb.key:=by omega);rw [if_neg n1,if_pos n2,if_neg n1,if_pos n2,hba,hbb];exact M22.keep [true,true,false,false,false]⟩
      ·(show mc - (k2+1) < mc - k2;omega)
   ·refine yY Z Z Z (yY Z Z Z (qY Z Z Z (yY Z Z Z (yY Z Z Z (qY Z Z Z (qY Z Z Z (qY Z Z Z (yY Z Z Z (aX Z Z Z (fun _=>bM false (.bool false) Z Z) (bS (aC (cB Z (aM (aC (aE (aA (dJ Z Z (dJ Z Z ?_))))))))))))))))))
    refine wq (aD 0 gG Z) Z (wq (aD 0 iI Z) Z (wq (aK 2 (.int _ _) bZ M7 Z Z Z) Z (dM vA Z Z M7 (iY _ cn.low _ _ _ xs (R.mem M7)) (fun w23 M23=>(wq (bG (pa) dU Z Z hfa ((R.mem M23).below_len (aG aF hxa)) ((R.mem M23).someK (aG aF hxa))) Z (wq (dQ _ bR (R.mem M23) (aG aF hxa) Z) Z (aO gL M23 Z Z (fun b24 w24 M24=>(bC 3 _ bR M24 Z Z Z Z Z (aP Z) Z (fun w25 M25=>(aB (aC (aE (aA (dJ Z Z (dJ Z Z (wq (aD 0 gG Z) Z ?_)))))))))))))))))
    refine wq (aD 1 lG Z) Z (wq (aK 2 (.int _ _) bZ M25 Z Z Z) Z (dM vA Z Z M25 (iY _ cn.high _ _ _ xs (R.mem M25)) (fun w26 M26=>(wq (bG (pb) dU Z Z hfb ((R.mem M26).below_len (aG aF hxb2)) ((R.mem M26).someK (aG aF hxb2))) Z (wq (dQ _ bR (R.mem M26) (aG aF hxb2) Z) Z (aO gL M26 Z Z (fun b27 w27 M27=>(bC 4 _ bR M27 Z Z Z Z Z (aP Z) Z (fun w28 M28=>(aB (aC (aE (gJ [(0,1),(1,1),(2,1),(3,0),(4,0),(5,1),(6,1),(7,1),(8,2),(9,0)] mixed M28 Z (by kernel_rfl) (fun w29 M29 => ?_))))))))))))))
    refine bQ Z Z Z (aV 2 fL M29 Z Z Z) (bQ Z Z Z (aV 3 bR M29 Z Z Z) (bQ Z Z Z (aV 4 bR M29 Z Z Z) (kB Z Z Z (eG Z Z Z (bQ Z Z Z (bG (i) dU Z Z Z ((R.mem M29).below_len (aG aF hxb)) ((R.mem M29).someK (aG aF hxb))) (bQ Z Z Z (aU 4 eS (R.mem M29) (jD ((R.mem M29).below_len (aG aF hxb))) Z) (bQ Z Z Z (dR (o:=4) (.int _ _) bB (R.mem M29) (aG aF hxb) Z Z) (dO [true,true,true,true,true,true] Z (by kernel_rfl) (wW bFa Z Z Z ?_)))))))))
    have hbm:0≤xb.mass∧xb.mass≤xa.mass+xb2.mass:=⟨(hb xb hbi).m.1,xQ hs hma hmb hbi qa.1 qb.1 (by omega)⟩
    have hmq:=(hb xb hbi).m
    have hsl:=aDl hc.n hbm
    have r1:=nO hsl hnx
    have r2:=nO hsl hny
    refine (aEt _ cn xa xb2 hc.n hoa hob xb.mass hmq).mono ?_
    rintro _ w30 ⟨v30,rfl,⟨rfl,hb30⟩⟩
    refine ⟨_,Z, ?_⟩
    have M30:=M29.callB hb30
    refine aB (aC ⟨dI, ?_⟩)
    refine nV Z Z Z (bS (aC (aE (aA (aT Z Z (wq (aD 2 jB Z) Z (wq (aD 0 cY Z) Z (wq (aK 2 (.int _ _) bB M30 Z Z Z) Z (wq (bK eF underlying2 Z (fU _ (by omega) (by omega))) Z (wq (fO Z Z (by omega) (by omega)) Z (dM mK Z Z M30 (fS _ _ 65536 (by decide) (by omega) (by omega)) (fun w31 M31=>(bL Z Z (aB (aC (aE (aA (aT Z Z (wq (aD 2 jB Z) Z (wq (aD 1 cW Z) Z (wq (aK 2 (.int _ _) bB M31 Z Z Z) Z ?_)))))))))))))))))))))
    refine wq (bK eF underlying2 Z (fU _ (by omega) (by omega))) Z (wq (fO Z Z (by omega) (by omega)) Z (dM mK Z Z M31 (fS _ _ 65536 (by decide) (by omega) (by omega)) (fun w32 M32=>(bL Z Z (aB (aC (aE (aE (gJ [(0,0),(1,0),(2,1),(3,0),(4,0),(5,1),(6,1),(7,1),(8,0)] mixed M32 Z (by kernel_rfl) (fun w33 M33=>(aX Z Z Z (fun _=>aD 0 gG Z) (aX Z Z Z (fun _=>aD 0 iI Z) (bQ Z Z Z (aK 2 (.int _ _) bZ M33 Z Z Z) (kB Z Z Z (eG Z Z Z (bQ Z Z Z (bG (i) dU Z Z Z ((R.mem M33).below_len (aG aF hxb)) ((R.mem M33).someK (aG aF hxb))) ?_))))))))))))))))
    refine bQ Z Z Z (aU 0 dZ (R.mem M33) (jD ((R.mem M33).below_len (aG aF hxb))) Z) (bQ Z Z Z (dR (o:=0) (.int _ _) bZ (R.mem M33) (aG aF hxb) Z Z) (aX Z Z Z (fun _=>cH (.bool (decide _)) Z Z Z) (bS (aC ?_))))
    refine aW Z (fun h98 => ?_) (fun h98 => ?_)
    ·refine aE (aA (aT Z Z (wq (sX Z (fU _ (by omega) (by omega))) Z (bL Z Z (aB (aC (aA (aT Z Z (wq (sX Z (fU _ (by omega) (by omega))) Z (bL Z Z (aB (aC (aE (aA (wq (aD 0 mO Z) Z (wq (aK 1 (.int _ _) kI M33 Z Z Z) Z (aT Z Z (wq (bE Z Z (by omega) (by omega)) Z (wq (aD 0 mO Z) Z (dA 1 (.int _ _) kI M33 Z Z Z Z Z Z (fun w34 M34=>(aB (aC (aA ?_))))))))))))))))))))))))
     refine wq (aD 1 mP Z) Z (wq (aK 1 (.int _ _) kI M34 Z Z Z) Z (aT Z Z (wq (bE Z Z (by omega) (by omega)) Z (wq (aD 1 mP Z) Z (dA 1 (.int _ _) kI M34 Z Z Z Z Z Z (fun w35 M35=>(aB (cS (aC (aA (aT Z Z (wq (bE Z Z (by omega) (by omega)) Z (bL Z Z (aB ?_))))))))))))))
     refine bU (k2+1) (bI Z eC) (bX Z (bX Z (bX Z (bX Z (bX Z (bX Z gR)))))) ?_ ?_
     ·exact ⟨by omega,by rw [kA hcn,kA hcn];unfold yI;(have n1:cn.low=xb.key:=by omega);rw [if_pos n1,if_pos n1,hba,hbb];exact M35.keep [true,true,false,false,false]⟩
     ·(show mc - (k2+1) < mc - k2;omega)
    ·refine aM (aC (aE (aA (wq (aD 0 mO Z) Z (wq (aK 1 (.int _ _) kI M33 Z Z Z) Z (aT Z Z (wq (bE Z Z (by omega) (by omega)) Z (wq (aD 0 mO Z) Z (dA 1 (.int _ _) kI M33 Z Z Z Z Z Z (fun w36 M36=>(aB (aC (aA (wq (aD 1 mP Z) Z (wq (aK 1 (.int _ _) kI M36 Z Z Z) Z (aT Z Z (wq (bE Z Z (by omega) (by omega)) Z (wq (aD 1 mP Z) Z (dA 1 (.int _ _) kI M36 Z Z Z Z Z Z (fun w37 M37=>(aB (cS ?_))))))))))))))))))))))
     refine aC (aA (aT Z Z (wq (bE Z Z (by omega) (by omega)) Z (bL Z Z (aB ?_)))))
     refine bU (k2+1) (bI Z eC) (bX Z (bX Z (bX Z (bX Z (bX Z (bX Z gR)))))) ?_ ?_
     ·exact ⟨by omega,by rw [kA hcn,kA hcn];unfold yI;(have n1:¬ cn.low=xb.key:=by omega);(have n2:cn.high=xb.key:=by omega);rw [if_neg n1,if_pos n2,if_neg n1,if_pos n2,hba,hbb];exact M37.keep [true,true,false,false,false]⟩
     ·(show mc - (k2+1) < mc - k2;omega)
  ·have hkn:k2=mc:=by omega
   rw [hkn,List.take_of_length_le (by omega)] at hM4
   refine cM (cZ (dF (eL (aC (aA (dJ rfl rfl (wq (aV 1 bQt hM4 rfl rfl rfl) rfl (bV [.agg (List.toArray _)] [cT (lI xs cs xb)] rfl aMl hM4 rfl rfl rfl rfl (cO rfl) (by decide) (fun b38 w38 M38=>(cP 0 [cT (lI xs cs xb)] aMl M38 rfl rfl rfl rfl rfl hq rfl (by simp [cT,Go.Bil.one]) (dN.ofMem 2 M38 rfl) (by omega) (fun A39 c39 e39 w39 M39 hR39=>(eI rfl rfl (aB (cS (aC (aA (aT rfl rfl (wq (bE rfl rfl (by omega) (by omega)) rfl (bL rfl rfl ?_)))))))))))))))))))
   refine aB ?_
   refine bU (i+1,⟨A39,q.n+1,c39,e39⟩) (bI Z (bI Z eC)) (bX Z (bX Z (bX Z gR))) ?_ ?_
   ·exact ⟨⟨by omega,by rw [cC hxb,List.map_append,List.map_append];exact hR39⟩,M39.keep [true,false,false]⟩
   ·(show n - (i+1) < n - i;omega)
 ·have hin:i=n:=by omega
  rw [List.take_of_length_le (by omega)] at hq
  refine cM (cZ (dF (eL (aC (aE (aA (dJ Z Z (eI Z Z (aB (aC (aR (cF (.slice _ _ _) Z ?_))))))))))))
  exact ⟨q,Z,hq,hM2⟩
theorem aKl (w:World) (A:Option Addr) (n c:Nat) (xs:List Body) (R:Rd w 10 A n (xs.map aF)) (hb:∀ b∈xs,Okb b) (hn:n≤1048576) :
  Calls prog 129 #[.slice A n c] w (gY (fun v w'=>∃ r:Row,v=.tuple #[.slice r.A r.n r.c,.bool (xs.any nH)]∧bA 39 10 r.A r.n r.c ((rZ xs).map aF) r.e∧Mem w [] [r.e] w')):=by
 have hlen:xs.length=n:=by simpa using R.len
 have hbd:=R.bound
 refine aI #[.tmp 2,.tmp 3] 47 func129 Z results129 ntmps129 Z ?_
 have M0:=Mem.refl w
 refine aE (aA (eI Z Z (wq (aJ (.bool false) Z) Z (aB (aC (aE (aA (eI Z Z ?_))))))))
 have M1:=M0.dummy default
 refine aB (aC (aE (aA (wq (aJ (.bool false) Z) Z (aB (aC (aE (aE (aA (bL Z Z (aB (aC (aS (dK (σ:=Nat × Row) [0,2,3] (fun (k,q)=>[(4,.slice q.A q.n q.c),(5,.bool ((xs.take k).any nH)),(6,.int .i64 (k:Int))]) (fun (k,q) w'=>(k≤n∧bA 39 10 q.A q.n q.c (((xs.take k).map qI).map aF) q.e)∧Mem w [] [q.e] w') (fun (k,q)=>n - k) (0,eN) (bI Z (bI (bv Z Z) (bI Z eC))) (⟨⟨by omega,bA.nil _ _ _⟩,M1⟩) ?_))))))))))))))
 rintro ⟨k,q⟩ ρ2 w2 ⟨⟨hk,hq⟩,hM2⟩
 have htl:=List.length_take_le k xs
 have hqn:(xs.take k).length=q.n:=by simpa using hq.1
 refine aE (aE (aA (aT Z Z (dJ Z Z (wq (bW underlying29 Z) Z (cV Z Z Z Z (aB (aC ?_))))))))
 refine aW Z (fun h12 => ?_) (fun h12 => ?_)
 ·obtain ⟨xb,hxb⟩:=cG (xs:=xs) (k:=k) hlen (by omega)
  have hob:=hb xb (List.mem_of_getElem? hxb)
  have hm:=hob.m
  have hv:=hob.v
  have hly:=fJ (xb.vy - 1024) (l:=16777216) (by decide)
  refine aM (aC (aE (aS (aE (aA (dJ Z Z (aT Z Z (wq (bG (k) dU Z Z Z ((R.mem hM2).below_len (aG aF hxb)) ((R.mem hM2).someK (aG aF hxb))) Z (wq (dQ _ bR (R.mem hM2) (aG aF hxb) Z) Z (aO gL hM2 Z Z (fun b3 w3 M3=>(bC 1 _ bR M3 Z Z Z Z Z (aP Z) Z (fun w4 M4=>(aB (aC (aE (aE (aA (wq (aD 4 eS Z) Z (wq (aK 1 (.int _ _) bB M4 Z Z Z) Z (cV Z Z Z Z (aB (aC ?_)))))))))))))))))))))))
  refine aW Z (fun h21 => ?_) (fun h21 => ?_)
  ·have hms:xb.mass≠0:=by omega
   have hgb:qI xb={ xb with vy:=kF (xb.vy - 1024) 16777216 }:=by unfold qI;rw [if_neg hms]
   refine aE (aA (wq (aD 8 eH Z) Z (wq (aD 1 cW Z) Z (wq (aK 1 (.int _ _) bB M4 Z Z Z) Z (wq (bK eF underlying2 Z (fU _ (by omega) (by omega))) Z (wq (gX Z Z (by omega) (by omega)) Z (bL Z Z (aB (aC (aE (aA (aT Z Z (dM zD Z Z M4 (lU _ (xb.vy - 1024) 16777216 ⟨by decide,by decide⟩) (fun w5 M5=>(wq (bK nU underlying21 Z (kM _ (by omega) (by omega))) Z (wq (aD 8 eH Z) Z (wq (aD 1 cW Z) Z (dA 1 (.int _ _) bB M5 Z Z Z Z Z Z (fun w6 M6 => ?_)))))))))))))))))))
   refine aB (aC (aA (wq (aH (.bool _) Z) Z (wq (aH (.bool _) Z) Z ?_))))
   refine kH 33 _ Z (fun g33 => ?_) (fun g33 => ?_)
   ·refine aQ rfl rfl (aQ rfl rfl (aQ rfl rfl (aQ rfl rfl (aQ rfl rfl (aQ rfl rfl (wq (bM true (.bool true) rfl rfl) rfl (wq (aJ (.bool true) rfl) rfl (aB (aC (aA (dJ rfl rfl (wq (aV 1 bR M6 rfl rfl rfl) rfl (bV [.agg (List.toArray _)] [aF { xb with vy:=kF (xb.vy - 1024) 16777216 }] rfl dU M6 rfl rfl rfl rfl (cO rfl) (by decide) (fun b7 w7 M7=>(cP 0 [aF { xb with vy:=kF (xb.vy - 1024) 16777216 }] dU M7 rfl rfl rfl rfl rfl hq rfl (by simp [aF,Go.Bil.one]) (dN.ofMem 2 M7 rfl) (by omega) (fun A8 c8 e8 w8 M8 hR8 => ?_))))))))))))))))
    rw [← hgb] at hR8
    refine eI Z Z (aB (cS (aC (aA (aT Z Z (wq (bE Z Z (by omega) (by omega)) Z (bL Z Z (aB ?_))))))))
    refine bU (k+1,⟨A8,q.n+1,c8,e8⟩) (bI Z (bI (bv Z (by rw [cC hxb,List.any_append,List.any_cons,List.any_nil,Bool.or_false];rw [show nH xb=decide (kF (xb.vy - 1024) 16777216≠xb.vy - 1024) by unfold nH;rw [decide_eq_true hms,Bool.true_and]];rw [g33];first | exact (Bool.true_or _).symm | exact (Bool.false_or _).symm)) (bI Z eC))) (bX Z (bX Z (bX Z gR))) ?_ ?_
    ·exact ⟨⟨by omega,by rw [cC hxb,List.map_append,List.map_append];exact hR8⟩,M8.keep [true,false,false]⟩
    ·(show n - (k+1) < n - k;omega)
   ·refine wq (aD 8 eH rfl) rfl (wq (aD 1 cW rfl) rfl (wq (aK 1 (.int _ _) bB M6 rfl rfl rfl) rfl (wq (bK eF underlying2 rfl (fU _ (by omega) (by omega))) rfl (aT rfl rfl (cV rfl rfl rfl rfl (wq (bM false (.bool (decide _)) rfl rfl) rfl (wq (aJ (.bool (decide _)) rfl) rfl (aB (aC (aA (dJ rfl rfl (wq (aV 1 bR M6 rfl rfl rfl) rfl (bV [.agg (List.toArray _)] [aF { xb with vy:=kF (xb.vy - 1024) 16777216 }] rfl dU M6 rfl rfl rfl rfl (cO rfl) (by decide) (fun b9 w9 M9=>(cP 0 [aF { xb with vy:=kF (xb.vy - 1024) 16777216 }] dU M9 rfl rfl rfl rfl rfl hq rfl (by simp [aF,Go.Bil.one]) (dN.ofMem 2 M9 rfl) (by omega) (fun A10 c10 e10 w10 M10 hR10 => ?_))))))))))))))))
    rw [← hgb] at hR10
    refine eI Z Z (aB (cS (aC (aA (aT Z Z (wq (bE Z Z (by omega) (by omega)) Z (bL Z Z (aB ?_))))))))
    refine bU (k+1,⟨A10,q.n+1,c10,e10⟩) (bI Z (bI (bv Z (by rw [cC hxb,List.any_append,List.any_cons,List.any_nil,Bool.or_false];rw [show nH xb=decide (kF (xb.vy - 1024) 16777216≠xb.vy - 1024) by unfold nH;rw [decide_eq_true hms,Bool.true_and]];rw [g33];first | exact (Bool.true_or _).symm | exact (Bool.false_or _).symm)) (bI Z eC))) (bX Z (bX Z (bX Z gR))) ?_ ?_
    ·exact ⟨⟨by omega,by rw [cC hxb,List.map_append,List.map_append];exact hR10⟩,M10.keep [true,false,false]⟩
    ·(show n - (k+1) < n - k;omega)
  ·have hms:¬ xb.mass≠0:=by omega
   have hgb:qI xb=xb:=by unfold qI;rw [if_pos (by omega)]
   refine aM (aC (aA (dJ rfl rfl (wq (aV 1 bR M4 rfl rfl rfl) rfl (bV [.agg (List.toArray _)] [aF xb] rfl dU M4 rfl rfl rfl rfl (cO rfl) (by decide) (fun b11 w11 M11=>(cP 0 [aF xb] dU M11 rfl rfl rfl rfl rfl hq rfl (by simp [aF,Go.Bil.one]) (dN.ofMem 2 M11 rfl) (by omega) (fun A12 c12 e12 w12 M12 hR12 => ?_))))))))
   rw [← hgb] at hR12
   refine eI Z Z (aB (cS (aC (aA (aT Z Z (wq (bE Z Z (by omega) (by omega)) Z (bL Z Z (aB ?_))))))))
   refine bU (k+1,⟨A12,q.n+1,c12,e12⟩) (bI Z (bI (bv Z (by rw [cC hxb,List.any_append,List.any_cons,List.any_nil,Bool.or_false];rw [show nH xb=false by unfold nH;rw [decide_eq_false hms,Bool.false_and],Bool.or_false])) (bI Z eC))) (bX Z (bX Z (bX Z gR))) ?_ ?_
   ·exact ⟨⟨by omega,by rw [cC hxb,List.map_append,List.map_append];exact hR12⟩,M12.keep [true,false,false]⟩
   ·(show n - (k+1) < n - k;omega)
 ·have hkn:k=n:=by omega
  rw [List.take_of_length_le (by omega)] at hq
  refine cM (cZ (dF (eL (aC (aE (aA (dJ Z Z (wq (aH (.bool _) Z) Z (eI Z Z (wq (aJ (.bool _) Z) Z (aB (aC (aR (gE (.slice _ _ _) (.bool _) Z Z ?_))))))))))))))
  exact ⟨q,wQ Z (congrArg Value.bool (by rw [List.take_of_length_le (by omega)])),hq,hM2⟩
theorem bVs {a b c a' b' c':Value} (h1:a=a') (h2:b=b') (h3:c=c'):Value.tuple #[a,b,c]=Value.tuple #[a',b',c']:=by rw [h1,h2,h3]
theorem aJa (xs:List Body):aBy xs=((xs.any nH || (iZ (rZ xs) (mM xs) 4).2) || aZe xs (mM xs) (mY xs)):=rfl
theorem aWm (w:World) (A:Option Addr) (n c:Nat) (xs:List Body) (R:Rd w 10 A n (xs.map aF)) (hb:∀ b∈xs,Okb b) (hn:n≤1048576) (G:Body→Int × Int) (hG:∀ b∈xs,(-1152921504606846976≤(G b).1∧(G b).1≤1152921504606846976) ∧ -1152921504606846976≤(G b).2∧(G b).2≤1152921504606846976) (C:Option Addr) (cm:Nat) (RS:Rd w 2 C n ((xs.map G).map cT)) :
  Calls prog 131 #[.slice A n c,.slice C n cm] w (gY (fun v w'=>∃ r:Row,v=.tuple #[.slice r.A r.n r.c,.bool (xs.any (fun b=>aKk b (G b).1 (G b).2))]∧bA 39 10 r.A r.n r.c ((xs.map (fun b=>wE b (G b).1 (G b).2)).map aF) r.e∧Mem w [] [r.e] w')):=by
 have hlen:xs.length=n:=by simpa using R.len
 have hbd:=R.bound
 refine aI #[.tmp 4,.tmp 5] 85 func131 Z results131 ntmps131 Z ?_
 have M0:=Mem.refl w
 refine aE (aA (eI Z Z (wq (aJ (.bool false) Z) Z (aB (aC (aE (aA (eI Z Z ?_))))))))
 have M1:=M0.dummy default
 refine aB (aC (aE (aA (wq (aJ (.bool false) Z) Z (aB (aC (aE (aE (aA (bL Z Z (aB (aC (aS (dK (σ:=Nat × Row) [0,1,4,5] (fun (k,q)=>[(6,.slice q.A q.n q.c),(7,.bool ((xs.take k).any (fun b=>aKk b (G b).1 (G b).2))),(8,.int .i64 (k:Int))]) (fun (k,q) w'=>(k≤n∧bA 39 10 q.A q.n q.c (((xs.take k).map (fun b=>wE b (G b).1 (G b).2)).map aF) q.e)∧Mem w [] [q.e] w') (fun (k,q)=>n - k) (0,eN) (bI Z (bI (bv Z Z) (bI Z eC))) (⟨⟨by omega,bA.nil _ _ _⟩,M1⟩) ?_))))))))))))))
 rintro ⟨k,q⟩ ρ2 w2 ⟨⟨hk,hq⟩,hM2⟩
 have htl:=List.length_take_le k xs
 have hqn:(xs.take k).length=q.n:=by simpa using hq.1
 refine aE (aE (aA (aT Z Z (dJ Z Z (wq (bW underlying29 Z) Z (cV Z Z Z Z (aB (aC ?_))))))))
 refine aW Z (fun h15 => ?_) (fun h15 => ?_)
 ·obtain ⟨xb,hxb⟩:=cG (xs:=xs) (k:=k) hlen (by omega)
  have hxm:=List.mem_of_getElem? hxb
  have hob:=hb xb hxm
  have hv:=hob.v
  have hpx:=hob.p
  have hgb:=hG xb hxm
  have hlx:=fJ (aKg xb (G xb).1) (l:=1073741824) (by decide)
  have hly:=fJ (aKh xb (G xb).2) (l:=1073741824) (by decide)
  refine aM (aC (aE (aS (aE (aA (dJ Z Z (aT Z Z (wq (bG (k) dU Z Z Z ((R.mem hM2).below_len (aG aF hxb)) ((R.mem hM2).someK (aG aF hxb))) Z (wq (dQ _ bR (R.mem hM2) (aG aF hxb) Z) Z (aO gL hM2 Z Z (fun b3 w3 M3=>(bC 1 _ bR M3 Z Z Z Z Z (aP Z) Z (fun w4 M4=>(aB (aC (aE (gJ [(0,0),(1,0),(2,1),(3,0),(4,0),(5,0),(6,1),(7,1),(8,1),(9,0),(10,0),(11,0),(12,1),(13,0),(14,2),(15,0),(16,0)] mixed M4 Z (by kernel_rfl) (fun w5 M5=>(aX Z Z Z (fun _=>aD 6 fZ Z) ?_)))))))))))))))))))
  refine aX Z Z Z (fun _=>aD 0 cY Z) (bQ Z Z Z (aK 1 (.int _ _) bB M5 Z Z Z) (aX Z Z Z (fun _=>bK eF underlying2 Z (fU _ (by omega) (by omega))) (kB Z Z Z (eG Z Z Z (bQ Z Z Z (bG (k) aMl Z Z Z ((RS.mem M5).below_len (aG cT (aG G hxb))) ((RS.mem M5).someK (aG cT (aG G hxb)))) (bQ Z Z Z (aU 0 mO (RS.mem M5) (jD ((RS.mem M5).below_len (aG cT (aG G hxb)))) Z) (bQ Z Z Z (dR (o:=0) (.int _ _) kI (RS.mem M5) (aG cT (aG G hxb)) Z Z) ?_)))))))
  refine aX Z Z Z (fun _=>bE Z Z (by omega) (by omega)) (aX Z Z Z (fun _=>aD 8 eH Z) (aX Z Z Z (fun _=>aD 0 cY Z) (bQ Z Z Z (aK 1 (.int _ _) bB M5 Z Z Z) (aX Z Z Z (fun _=>bK eF underlying2 Z (fU _ (by omega) (by omega))) (dO [true,false,false,false,false] Z (by kernel_rfl) (dM mK Z Z M5 (fS _ xb.vx 64 (by decide) (by omega) (by omega)) (fun w6 M6 => ?_)))))))
  refine aB (aC ⟨(dS (bH Z (dR (o:=0) (.int _ _) kI (RS.mem M6) (aG cT (aG G hxb)) Z Z)) (dS (bH Z (aU 0 mO (RS.mem M6) (jD ((RS.mem M6).below_len (aG cT (aG G hxb)))) Z)) (dS (bH Z (bG (k) aMl Z Z Z ((RS.mem M6).below_len (aG cT (aG G hxb))) ((RS.mem M6).someK (aG cT (aG G hxb))))) (dS (bH Z (aK 1 (.int _ _) bB M6 Z Z Z)) dI)))), ?_⟩)
  refine aX Z Z Z (fun _=>bE Z Z (by omega) (by omega)) (dX 37 (.int .i64 (aKg xb (G xb).1)) Z (nV Z Z Z (bS (aC (aE (gJ [(0,0),(1,0),(2,1),(3,0),(4,0),(5,0),(6,1),(7,1),(8,1),(9,0),(10,0),(11,0),(12,1),(13,0),(14,2),(15,0),(16,0)] mixed M6 Z (by kernel_rfl) (fun w7 M7=>(aX Z Z Z (fun _=>aD 6 fZ Z) (aX Z Z Z (fun _=>aD 1 cW Z) (bQ Z Z Z (aK 1 (.int _ _) bB M7 Z Z Z) (aX Z Z Z (fun _=>bK eF underlying2 Z (fU _ (by omega) (by omega))) (kB Z Z Z ?_))))))))))))
  refine eG Z Z Z (bQ Z Z Z (bG (k) aMl Z Z Z ((RS.mem M7).below_len (aG cT (aG G hxb))) ((RS.mem M7).someK (aG cT (aG G hxb)))) (bQ Z Z Z (aU 1 mP (RS.mem M7) (jD ((RS.mem M7).below_len (aG cT (aG G hxb)))) Z) (bQ Z Z Z (dR (o:=1) (.int _ _) kI (RS.mem M7) (aG cT (aG G hxb)) Z Z) (aX Z Z Z (fun _=>bE Z Z (by omega) (by omega)) (aX Z Z Z (fun _=>aD 8 eH Z) (aX Z Z Z (fun _=>aD 1 cW Z) (bQ Z Z Z (aK 1 (.int _ _) bB M7 Z Z Z) ?_)))))))
  refine aX Z Z Z (fun _=>bK eF underlying2 Z (fU _ (by omega) (by omega))) (dO [true,false,false,false,false] Z (by kernel_rfl) (dM mK Z Z M7 (fS _ xb.vy 64 (by decide) (by omega) (by omega)) (fun w8 M8 => ?_)))
  refine aB (aC ⟨(dS (bH Z (dR (o:=1) (.int _ _) kI (RS.mem M8) (aG cT (aG G hxb)) Z Z)) (dS (bH Z (aU 1 mP (RS.mem M8) (jD ((RS.mem M8).below_len (aG cT (aG G hxb)))) Z)) (dS (bH Z (bG (k) aMl Z Z Z ((RS.mem M8).below_len (aG cT (aG G hxb))) ((RS.mem M8).someK (aG cT (aG G hxb))))) (dS (bH Z (aK 1 (.int _ _) bB M8 Z Z Z)) dI)))), ?_⟩)
  refine aX Z Z Z (fun _=>bE Z Z (by omega) (by omega)) (dX 53 (.int .i64 (aKh xb (G xb).2)) Z (nV Z Z Z (bS (aC (aE (aA (aT Z Z (dM zD Z Z M8 (lU _ (aKg xb (G xb).1) 1073741824 ⟨by decide,by decide⟩) (fun w9 M9=>(wq (bK nU underlying21 Z (kM _ (by omega) (by omega))) Z (aT Z Z (dM zD Z Z M9 (lU _ (aKh xb (G xb).2) 1073741824 ⟨by decide,by decide⟩) (fun w10 M10=>(wq (bK nU underlying21 Z (kM _ (by omega) (by omega))) Z (wq (cI [(0,.int _ _),(1,.int _ _)] _ fK Z Z) Z ?_)))))))))))))))
  refine wq (aD 6 fZ Z) Z (wX 1 _ bP M10 Z Z Z Z Z (aP Z) (Nat.le_of_ble_eq_true Z) (fun w11 M11=>(aB (aC (aE (aA (wq (aH (.bool _) Z) Z (wq (aH (.bool _) Z) Z ?_))))))))
  refine kH 63 _ Z (fun g63 => ?_) (fun g63 => ?_)
  ·refine aQ Z Z (aQ Z Z (aQ Z Z (aQ Z Z (aQ Z Z (aQ Z Z (wq (bM true (.bool true) Z Z) Z (wq (aH (.bool true) Z) Z (aQ Z Z (aQ Z Z (aQ Z Z (aQ Z Z (aQ Z Z (aQ Z Z (wq (bM true (.bool true) Z Z) Z (wq (aJ (.bool true) Z) Z ?_)))))))))))))))
   refine aB (aC (aA (dJ rfl rfl (wq (aV 1 bR M11 rfl rfl rfl) rfl (bV [.agg (List.toArray _)] [aF (wE xb (G xb).1 (G xb).2)] rfl dU M11 rfl rfl rfl rfl (cO rfl) (by decide) (fun b12 w12 M12=>(cP 0 [aF (wE xb (G xb).1 (G xb).2)] dU M12 rfl rfl rfl rfl rfl hq rfl (by simp [aF,Go.Bil.one]) (dN.ofMem 2 M12 rfl) (by omega) (fun A13 c13 e13 w13 M13 hR13=>(eI rfl rfl (aB (cS (aC (aA (aT rfl rfl (wq (bE rfl rfl (by omega) (by omega)) rfl (bL rfl rfl (aB ?_)))))))))))))))))
   refine bU (k+1,⟨A13,q.n+1,c13,e13⟩) (bI Z (bI (bv Z (by rw [cC hxb,List.any_append,List.any_cons,List.any_nil,Bool.or_false];rw [g63,Bool.true_or])) (bI Z eC))) (bX Z (bX Z (bX Z (bX Z gR)))) ?_ ?_
   ·exact ⟨⟨by omega,by rw [cC hxb,List.map_append,List.map_append];exact hR13⟩,M13.keep [true,false,false]⟩
   ·(show n - (k+1) < n - k;omega)
  ·refine wq (aD 6 fZ Z) Z (wq (aD 0 cY Z) Z (wq (aK 1 (.int _ _) bB M11 Z Z Z) Z (wq (bK eF underlying2 Z (fU _ (by omega) (by omega))) Z (aT Z Z (cV Z Z Z Z (wq (bM false (.bool (decide _)) Z Z) Z (wq (aH (.bool (decide _)) Z) Z ?_)))))))
   refine dT 71 Z (fun g71 => ?_) (fun g71 => ?_)
   ·refine aQ rfl rfl (aQ rfl rfl (aQ rfl rfl (aQ rfl rfl (aQ rfl rfl (aQ rfl rfl (wq (bM true (.bool true) rfl rfl) rfl (wq (aJ (.bool true) rfl) rfl (aB (aC (aA (dJ rfl rfl (wq (aV 1 bR M11 rfl rfl rfl) rfl (bV [.agg (List.toArray _)] [aF (wE xb (G xb).1 (G xb).2)] rfl dU M11 rfl rfl rfl rfl (cO rfl) (by decide) (fun b14 w14 M14=>(cP 0 [aF (wE xb (G xb).1 (G xb).2)] dU M14 rfl rfl rfl rfl rfl hq rfl (by simp [aF,Go.Bil.one]) (dN.ofMem 2 M14 rfl) (by omega) (fun A15 c15 e15 w15 M15 hR15=>(eI rfl rfl ?_)))))))))))))))))
    refine aB (cS (aC (aA (aT Z Z (wq (bE Z Z (by omega) (by omega)) Z (bL Z Z (aB ?_)))))))
    refine bU (k+1,⟨A15,q.n+1,c15,e15⟩) (bI rfl (bI (bv rfl (by rw [cC hxb,List.any_append,List.any_cons,List.any_nil,Bool.or_false];rw [g63];simp [aKk,g71])) (bI rfl eC))) (bX rfl (bX rfl (bX rfl (bX rfl gR)))) ?_ ?_
    ·exact ⟨⟨by omega,by rw [cC hxb,List.map_append,List.map_append];exact hR15⟩,M15.keep [true,false,false]⟩
    ·(show n - (k+1) < n - k;omega)
   ·refine wq (aD 6 fZ rfl) rfl (wq (aD 1 cW rfl) rfl (wq (aK 1 (.int _ _) bB M11 rfl rfl rfl) rfl (wq (bK eF underlying2 rfl (fU _ (by omega) (by omega))) rfl (aT rfl rfl (cV rfl rfl rfl rfl (wq (bM false (.bool (decide _)) rfl rfl) rfl (wq (aJ (.bool (decide _)) rfl) rfl (aB (aC (aA (dJ rfl rfl (wq (aV 1 bR M11 rfl rfl rfl) rfl (bV [.agg (List.toArray _)] [aF (wE xb (G xb).1 (G xb).2)] rfl dU M11 rfl rfl rfl rfl (cO rfl) (by decide) (fun b16 w16 M16=>(cP 0 [aF (wE xb (G xb).1 (G xb).2)] dU M16 rfl rfl rfl rfl rfl hq rfl (by simp [aF,Go.Bil.one]) (dN.ofMem 2 M16 rfl) (by omega) (fun A17 c17 e17 w17 M17 hR17 => ?_))))))))))))))))
    refine eI Z Z (aB (cS (aC (aA (aT Z Z (wq (bE Z Z (by omega) (by omega)) Z (bL Z Z (aB ?_))))))))
    refine bU (k+1,⟨A17,q.n+1,c17,e17⟩) (bI rfl (bI (bv rfl (by rw [cC hxb,List.any_append,List.any_cons,List.any_nil,Bool.or_false];rw [g63];simp [aKk,g71])) (bI rfl eC))) (bX rfl (bX rfl (bX rfl (bX rfl gR)))) ?_ ?_
    ·exact ⟨⟨by omega,by rw [cC hxb,List.map_append,List.map_append];exact hR17⟩,M17.keep [true,false,false]⟩
    ·(show n - (k+1) < n - k;omega)
 ·have hkn:k=n:=by omega
  rw [List.take_of_length_le (by omega)] at hq
  refine cM (cZ (dF (eL (aC (aE (aA (dJ Z Z (wq (aH (.bool _) Z) Z (eI Z Z (wq (aJ (.bool _) Z) Z (aB (aC (aR (gE (.slice _ _ _) (.bool _) Z Z ?_))))))))))))))
  exact ⟨q,wQ Z (congrArg Value.bool (by rw [List.take_of_length_le (by omega)])),hq,hM2⟩
theorem aWn (w:World) (A:Option Addr) (n c:Nat) (xs:List Body) (R:Rd w 10 A n (xs.map aF)) (hb:∀ b∈xs,Okb b) (hs:dD xs) (hn:n≤4096) :
  Calls prog 97 #[.slice A n c] w (gY (fun v w'=>∃ r:Row,v=.tuple #[.slice r.A r.n r.c,.int .i64 ((mM xs).length:Int),.bool (aBy xs)]∧bA 39 10 r.A r.n r.c ((sO xs).map aF) r.e∧Mem w [] [r.e] w')):=by
 have hlen:xs.length=n:=by simpa using R.len
 have hnn:xs.length*xs.length≤4096*4096:=Nat.mul_le_mul (by omega) (by omega)
 have hcl:=aGh xs
 have hsq:=aXv (xs:=xs)
 refine aI #[.tmp 2,.tmp 3,.tmp 4] 43 func97 Z results97 ntmps97 Z ?_
 have M0:=Mem.refl w
 refine aE (aA (eI Z Z (bL Z Z (wq (aJ (.bool false) Z) Z (aB (aC (aE (aA (dJ Z Z (eJ bRu Z Z (bCs _ _ _ _ xs (R.mem M0) hb hs (by first | decide | omega)) ?_))))))))))
 rintro v1 w1 ⟨r,rfl,hr,hM1⟩
 have M1:Mem _ _ [_] _:=M0.call0 hM1
 have hrn:(mM xs).length=r.n:=by simpa using hr.1
 refine eI Z Z (aB (aC (aE (aA (dJ Z Z (eJ bRv Z Z (aKl _ A n c xs (R.mem M1) hb (by omega)) ?_))))))
 rintro v2 w2 ⟨g,rfl,hg,hM2⟩
 have M2:Mem _ _ [_,_] _:=M1.call0 hM2
 have hgn:(rZ xs).length=g.n:=by simpa using hg.1
 have hgl:=(mB xs).len
 refine wq (aH (.tuple (List.toArray _)) Z) Z (wq (bJ (.slice _ _ _) Z Z) Z (wq (bJ (.bool _) Z Z) Z (eI Z Z (wq (aJ (.bool _) Z) Z (aB (aC (aE (aA (dJ Z Z (dJ Z Z (eJ bRw Z Z (aSw _ g.A g.n g.c (rZ xs) (hg.rd M2 (aN (i:=1) Z)) ((mB xs).sorted hs) (aAw hb) (by omega) r.A r.n r.c (mM xs) (hr.rd M2 (aN (i:=0) Z)) (fun c h=>(mB xs).okc (tE hs hb c h)) (by omega)) ?_)))))))))))
 rintro v3 w3 ⟨⟨sA,sn,sc,se⟩,rfl,hsv,hM3⟩
 have hsn:(mY xs).length=sn:=by have h:=hsv.1;rwa [List.length_map] at h
 have hlk:Like xs (mY xs):=(mB xs).trans (kL _ _ 4)
 have hsl:=hlk.len
 obtain rfl:n=sn:=by omega
 have M3:Mem _ _ [_,_,_] _:=M2.call0 hM3
 refine wq (aH (.tuple (List.toArray _)) Z) Z (wq (bJ (.slice _ _ _) Z Z) Z (wq (bJ (.bool _) Z Z) Z (eI Z Z (wq (aJ (.bool _) Z) Z (aB (aC (aE (aA (dJ Z Z (dJ Z Z (dJ Z Z (eJ bRy Z Z (aOz _ A n c xs (R.mem M3) hs hb (by omega) r.A r.n r.c (mM xs) (hr.rd M3 (aN (i:=0) Z)) (tE hs hb) (by omega)) ?_))))))))))))
 rintro v4 w4 ⟨⟨qA,qn,qc,qe⟩,rfl,hq,hM4⟩
 have hqn:xs.length=qn:=by simpa using hq.1
 obtain rfl:n=qn:=by omega
 rw [aIw hlk] at hq
 have M4:Mem _ _ [_,_,_,_] _:=M3.call0 hM4
 refine eJ bRx Z Z (aWm _ sA n sc (mY xs) (hsv.rd M4 (aN (i:=2) Z)) (tZ (aAw hb) 4) (by omega) (lI xs (mM xs)) (aZr hs hb (tE hs hb) (by omega) hlk) qA qc (hq.rd M4 (aN (i:=3) Z))) ?_
 rintro v5 w5 ⟨m,rfl,hm,hM5⟩
 have M5:Mem _ _ [_,_,_,_,_] _:=M4.call0 hM5
 refine wq (aH (.tuple (List.toArray _)) Z) Z (wq (bJ (.slice _ _ _) Z Z) Z (wq (bJ (.bool _) Z Z) Z (eI Z Z (wq (aJ (.bool _) Z) Z (aB (aC (aE (aA (dJ Z Z (dJ Z Z (wq (bW underlying166 Z) Z (wq (aH (.bool _) Z) Z (wq (aH (.bool _) Z) Z ?_)))))))))))))
 refine kH 37 _ Z (fun g37 => ?_) (fun g37 => ?_)
 ·refine aQ Z Z (wq (bM true (.bool true) Z Z) Z (wq (aH (.bool true) Z) Z (aQ Z Z (wq (bM true (.bool true) Z Z) Z (eI Z Z (bL Z Z (wq (aJ (.bool true) Z) Z (aB (aC (aR (bHc (.slice _ _ _) (.int _ _) (.bool true) Z Z Z ?_)))))))))))
  exact ⟨m,bVs rfl (iE (by rw [hrn])) (congrArg Value.bool (by rw [aJa];first | (simp only [g37,Bool.true_or];done) | (simp only [g37,g40,Bool.false_or,Bool.true_or];done) | (rw [g37,g40];rfl))),hm,M5.keep [false,false,false,false,true]⟩
 ·refine wq (aH (.bool _) Z) Z (wq (bM false (.bool _) Z Z) Z (wq (aH (.bool _) Z) Z ?_))
  refine kH 40 _ Z (fun g40 => ?_) (fun g40 => ?_)
  ·refine aQ Z Z (wq (bM true (.bool true) Z Z) Z (eI Z Z (bL Z Z (wq (aJ (.bool true) Z) Z (aB (aC (aR (bHc (.slice _ _ _) (.int _ _) (.bool true) Z Z Z ?_))))))))
   exact ⟨m,bVs rfl (iE (by rw [hrn])) (congrArg Value.bool (by rw [aJa];first | (simp only [g37,Bool.true_or];done) | (simp only [g37,g40,Bool.false_or,Bool.true_or];done) | (rw [g37,g40];rfl))),hm,M5.keep [false,false,false,false,true]⟩
  ·refine wq (aH (.bool _) Z) Z (wq (bM false (.bool _) Z Z) Z (eI Z Z (bL Z Z (wq (aJ (.bool _) Z) Z (aB (aC (aR (bHc (.slice _ _ _) (.int _ _) (.bool _) Z Z Z ?_))))))))
   exact ⟨m,bVs rfl (iE (by rw [hrn])) (congrArg Value.bool (by rw [aJa];first | (simp only [g37,Bool.true_or];done) | (simp only [g37,g40,Bool.false_or,Bool.true_or];done) | (rw [g37,g40];rfl))),hm,M5.keep [false,false,false,false,true]⟩
end Go.Proofs.YtaoaknafiegfoaaGreatDoor
