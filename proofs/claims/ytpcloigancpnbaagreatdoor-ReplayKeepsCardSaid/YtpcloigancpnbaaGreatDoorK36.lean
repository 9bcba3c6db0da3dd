/- Part of the proof of a law of this seat (19 texts). No conditions. -/
import Derived.Test.YtpcloigancpnbaaGreatDoorK32
import Derived.Test.YtpcloigancpnbaaGreatDoorK35
set_option linter.unusedVariables false
set_option linter.unusedSimpArgs false
set_option linter.unnecessarySimpa false
set_option maxHeartbeats 100000000
namespace Go.Proofs.YtpcloigancpnbaaGreatDoor
open Go.Bil
open Go.RowKit (Below)
open Go.Proofs
open Go.Proofs.Tryz
theorem bEs (w:World) (b:Body) (hb:Okb b) (j:Int × Int) (hj1 : -2147483648≤j.1∧j.1≤2147483647) (hj2 : -2147483648≤j.2∧j.2≤2147483647) :
  Calls prog 79 #[(.agg (aF b).toArray),.agg [.int .i32 j.1,.int .i32 j.2].toArray] w (gH (fun v w'=>(∃ g:Bool,v=.tuple #[(.agg (aF (pushB b j)).toArray),.bool g])∧Below w.heap.size w w')):=by
 have hv:=hb.v
 have hm:=hb.m
 have hp1:=bKo hj1 hm
 have hp2:=bKo hj2 hm
 refine aI #[.cell 4 43,.tmp 5] 45 func79 Z results79 ntmps79 Z ?_
 have M0:=Mem.refl w
 refine aE (aA (bN (.agg (.mk _)) M0 Z Z Z (fun b1 w1 M1=>(bN (.agg (.mk _)) M1 Z Z Z (fun b2 w2 M2=>(aR fV M2 Z Z (fun b3 w3 M3=>(wq (aJ (.bool false) Z) Z (aB (aC (aE (aA (aR aXs M3 Z Z (fun b4 w4 M4=>(dA 3 (.bool false) sV M4 Z Z Z Z Z Z (fun w5 M5=>(aB (aC (aE (aA (wq (aD 8 eB Z) Z (wq (aD 0 cV Z) Z (wq (aK 0 (.int _ _) aY M5 Z Z Z) Z (wq (bH dY underlying2 Z (fJ _ (by omega) (by omega))) Z (wq (aD 0 cV Z) Z ?_)))))))))))))))))))))))))
 refine wq (aK 1 (.int _ _) aY M5 Z Z Z) Z (wq (bH dY underlying2 Z (fJ _ (by omega) (by omega))) Z (wq (aD 4 eM Z) Z (wq (aK 0 (.int _ _) aY M5 Z Z Z) Z (wq (bH dY underlying2 Z (fJ _ (by omega) (by omega))) Z (wq (fC Z Z (by omega) (by omega)) Z (wq (kK Z Z (by decide)) Z (aL 20 (.int .i64 (j.1*b.mass / 65536)) (iE (qT _)) (wq (bC Z Z (by omega) (by omega)) Z (bK Z Z (aB (aC (aE (aA (wq (aD 8 eB Z) Z (wq (aD 1 cS Z) Z (wq (aK 0 (.int _ _) aY M5 Z Z Z) Z ?_))))))))))))))))
 refine wq (bH dY underlying2 Z (fJ _ (by omega) (by omega))) Z (wq (aD 1 cS Z) Z (wq (aK 1 (.int _ _) aY M5 Z Z Z) Z (wq (bH dY underlying2 Z (fJ _ (by omega) (by omega))) Z (wq (aD 4 eM Z) Z (wq (aK 0 (.int _ _) aY M5 Z Z Z) Z (wq (bH dY underlying2 Z (fJ _ (by omega) (by omega))) Z (wq (fC Z Z (by omega) (by omega)) Z (wq (kK Z Z (by decide)) Z (aL 33 (.int .i64 (j.2*b.mass / 65536)) (iE (qT _)) (wq (bC Z Z (by omega) (by omega)) Z (bK Z Z (aB (aC (aE (aA ?_)))))))))))))))
 refine aQ Z Z (cC [.pointer _] [[.pointer (some ⟨b4,0,none⟩)]] Z aKx M5 Z Z Z Z (cU Z) (by decide) (fun b6 w6 M6 => ?_))
 have hlit36:=kZ (T:=164) (sz:=1) (b:=b6) (nn:=1) [[.pointer (some ⟨b4,0,none⟩)]] (by simp) rfl (by decide)
 refine eP aOn Z Z (oJ _ (b.vx+j.1*b.mass / 65536) 16777216 ⟨by decide,by decide⟩ b4 _ _ 1 (hlit36.rd M6 (bA (i:=4) Z)) (hlit36.awayB M6 4 3 Z Z Z) (M6.ownSeg 3 1)) ?_
 rintro v7 w7 ⟨rfl,hM7⟩
 have M7:Mem _ _ [_,_,_,_,_] _:=M6.seg 3 1 hM7
 refine aQ Z Z (cC [.pointer _] [[.pointer (some ⟨b4,0,none⟩)]] Z aKx M7 Z Z Z Z (cU Z) (by decide) (fun b8 w8 M8 => ?_))
 have hlit39:=kZ (T:=164) (sz:=1) (b:=b8) (nn:=1) [[.pointer (some ⟨b4,0,none⟩)]] (by simp) rfl (by decide)
 refine eP aOn Z Z (oJ _ (b.vy+j.2*b.mass / 65536) 16777216 ⟨by decide,by decide⟩ b4 _ _ 1 (hlit39.rd M8 (bA (i:=5) Z)) (hlit39.awayB M8 5 3 Z Z Z) (M8.ownSeg 3 1)) ?_
 rintro v9 w9 ⟨rfl,hM9⟩
 have M9:Mem _ _ [_,_,_,_,_,_] _:=M8.seg 3 1 hM9
 refine wq (cB [(0,.int _ _),(1,.int _ _)] _ eZ Z Z) Z (wq (aD 8 eB Z) Z (vB 0 _ bO M9 Z Z Z Z Z (aS Z) (Nat.le_of_ble_eq_true Z) (fun w10 M10=>(aB (aC (aE (fW [(0,1),(1,1),(2,2),(3,0)] mixed M10 Z (by kernel_rfl) (fun w11 M11=>(bP Z Z Z (aX 0 bQ M11 Z Z Z) (bP Z Z Z (aK 3 (.bool _) sV M11 Z Z Z) (dI [false,true] Z (by kernel_rfl) (bG 2 _ bQ M11 Z Z Z Z Z (aS Z) Z (fun w12 M12 => ?_)))))))))))))
 refine aB (aC ⟨(dS (bI Z (aK 3 (.bool _) sV M12 Z Z Z)) dJ), ?_⟩)
 refine aV Z Z Z (fun _=>aJ (.bool _) Z) (bS (aC (aO (tH (v2:=.bool _) 2 bQ M12 Z Z Z Z ?_))))
 exact ⟨⟨_,Z⟩,M12.below⟩
theorem aGv (w:World) (b:Body) (hb:Okb b) (j:Int × Int) (hj1 : -2147483648≤j.1∧j.1≤2147483647) (hj2 : -2147483648≤j.2∧j.2≤2147483647) :
  Calls prog 84 #[(.agg (aF b).toArray),.agg [.int .i32 j.1,.int .i32 j.2].toArray] w (gH (fun v w'=>(∃ g:Bool,v=.tuple #[(.agg (aF (pushB b j)).toArray),.bool g])∧Below w.heap.size w w')):=by
 have hv:=hb.v
 have hm:=hb.m
 have hp1:=bKo hj1 hm
 have hp2:=bKo hj2 hm
 have hlx:=eX (b.vx+j.1*b.mass / 65536) (l:=16777216) (by decide)
 have hly:=eX (b.vy+j.2*b.mass / 65536) (l:=16777216) (by decide)
 refine aI #[.cell 4 43,.tmp 5] 57 func84 Z results84 ntmps84 Z ?_
 have M0:=Mem.refl w
 refine aE (aA (bN (.agg (.mk _)) M0 Z Z Z (fun b1 w1 M1=>(bN (.agg (.mk _)) M1 Z Z Z (fun b2 w2 M2=>(aR fV M2 Z Z (fun b3 w3 M3=>(wq (aJ (.bool false) Z) Z (aB (aC (aE (fW [(0,0),(1,0),(2,1),(3,0),(4,0),(5,1),(6,0),(7,0),(8,1),(9,0),(10,0),(11,2),(12,0),(13,0)] mixed M3 Z (by kernel_rfl) (fun w4 M4=>(aV Z Z Z (fun _=>aD 8 eB Z) (aV Z Z Z (fun _=>aD 0 cV Z) (bP Z Z Z (aK 0 (.int _ _) aY M4 Z Z Z) (aV Z Z Z (fun _=>bH dY underlying2 Z (fJ _ (by omega) (by omega))) ?_)))))))))))))))))
 refine aV Z Z Z (fun _=>aD 0 cV Z) (bP Z Z Z (aK 1 (.int _ _) aY M4 Z Z Z) (aV Z Z Z (fun _=>bH dY underlying2 Z (fJ _ (by omega) (by omega))) (aV Z Z Z (fun _=>aD 4 eM Z) (bP Z Z Z (aK 0 (.int _ _) aY M4 Z Z Z) (aV Z Z Z (fun _=>bH dY underlying2 Z (fJ _ (by omega) (by omega))) (aV Z Z Z (fun _=>fC Z Z (by omega) (by omega)) (dI [true,true,false] Z (by kernel_rfl) (dN lQ Z Z M4 (fF _ (j.1*b.mass) 65536 (by decide) (by omega) (by omega)) (fun w5 M5 => ?_)))))))))
 refine aB (aC ⟨(dS (bI Z (aK 0 (.int _ _) aY M5 Z Z Z)) dJ), ?_⟩)
 refine aV Z Z Z (fun _=>bC Z Z (by omega) (by omega)) (mW Z Z Z (bS (aC (aE (fW [(0,0),(1,0),(2,1),(3,0),(4,0),(5,1),(6,0),(7,0),(8,1),(9,0),(10,0),(11,2),(12,0),(13,0)] mixed M5 Z (by kernel_rfl) (fun w6 M6=>(aV Z Z Z (fun _=>aD 8 eB Z) (aV Z Z Z (fun _=>aD 1 cS Z) (bP Z Z Z (aK 0 (.int _ _) aY M6 Z Z Z) (aV Z Z Z (fun _=>bH dY underlying2 Z (fJ _ (by omega) (by omega))) (aV Z Z Z (fun _=>aD 1 cS Z) (bP Z Z Z (aK 1 (.int _ _) aY M6 Z Z Z) ?_))))))))))))
 refine aV Z Z Z (fun _=>bH dY underlying2 Z (fJ _ (by omega) (by omega))) (aV Z Z Z (fun _=>aD 4 eM Z) (bP Z Z Z (aK 0 (.int _ _) aY M6 Z Z Z) (aV Z Z Z (fun _=>bH dY underlying2 Z (fJ _ (by omega) (by omega))) (aV Z Z Z (fun _=>fC Z Z (by omega) (by omega)) (dI [true,true,false] Z (by kernel_rfl) (dN lQ Z Z M6 (fF _ (j.2*b.mass) 65536 (by decide) (by omega) (by omega)) (fun w7 M7 => ?_)))))))
 refine aB (aC ⟨(dS (bI Z (aK 0 (.int _ _) aY M7 Z Z Z)) dJ), ?_⟩)
 refine aV Z Z Z (fun _=>bC Z Z (by omega) (by omega)) (mW Z Z Z (bS (aC (aE (aA (aQ Z Z (dN xM Z Z M7 (kY _ (b.vx+j.1*b.mass / 65536) 16777216 ⟨by decide,by decide⟩) (fun w8 M8=>(wq (bH mV underlying21 Z (jQ _ (by omega) (by omega))) Z (aQ Z Z (dN xM Z Z M8 (kY _ (b.vy+j.2*b.mass / 65536) 16777216 ⟨by decide,by decide⟩) (fun w9 M9=>(wq (bH mV underlying21 Z (jQ _ (by omega) (by omega))) Z (wq (cB [(0,.int _ _),(1,.int _ _)] _ eZ Z Z) Z (wq (aD 8 eB Z) Z ?_)))))))))))))))
 refine vB 0 _ bO M9 Z Z Z Z Z (aS Z) (Nat.le_of_ble_eq_true Z) (fun w10 M10=>(aB (aC (aE (fW [(0,1),(1,0),(2,0),(3,1),(4,0),(5,0),(6,0),(7,0),(8,0),(9,0),(10,1),(11,0),(12,0),(13,0),(14,0),(15,2),(16,0)] mixed M10 Z (by kernel_rfl) (fun w11 M11=>(bP Z Z Z (aX 0 bQ M11 Z Z Z) (aV Z Z Z (fun _=>aD 8 eB Z) (aV Z Z Z (fun _=>aD 0 cV Z) (bP Z Z Z (aK 0 (.int _ _) aY M11 Z Z Z) (aV Z Z Z (fun _=>bH dY underlying2 Z (fJ _ (by omega) (by omega))) ?_)))))))))))
 refine eD Z Z Z (aV Z Z Z (fun _=>cA (.bool (decide _)) Z Z Z) (aV Z Z Z (fun _=>aH (.bool (decide _)) Z) ?_))
 refine tL 49 Z (fun g49 => ?_) (fun g49 => ?_)
 ·refine xI Z Z Z (xI Z Z Z (pZ Z Z Z (xI Z Z Z (xI Z Z Z (xI Z Z Z (aV Z Z Z (fun _=>bR true (.bool true) Z Z) (dI [false,true,true] Z (by kernel_rfl) (bG 2 _ bQ M11 Z Z Z Z Z (aS Z) Z (fun w12 M12 => ?_)))))))))
  refine aB (aC ⟨(dS (.inr ⟨Z,Z⟩) dJ), ?_⟩)
  refine aV Z Z Z (fun _=>aJ (.bool true) Z) (bS (aC (aO (tH (v2:=.bool true) 2 bQ M12 Z Z Z Z ?_))))
  exact ⟨⟨_,Z⟩,M12.below⟩
 ·refine aV Z Z Z (fun _=>aD 8 eB Z) (aV Z Z Z (fun _=>aD 1 cS Z) (bP Z Z Z (aK 0 (.int _ _) aY M11 Z Z Z) (aV Z Z Z (fun _=>bH dY underlying2 Z (fJ _ (by omega) (by omega))) (eD Z Z Z (aV Z Z Z (fun _=>cA (.bool (decide _)) Z Z Z) (aV Z Z Z (fun _=>bR false (.bool (decide _)) Z Z) (dI [false,true,true] Z (by kernel_rfl) (bG 2 _ bQ M11 Z Z Z Z Z (aS Z) Z (fun w13 M13 => ?_)))))))))
  refine aB (aC ⟨(dS (bI Z (aK 0 (.int _ _) aY M13 Z Z Z)) dJ), ?_⟩)
  refine aV Z Z Z (fun _=>aJ (.bool (decide _)) Z) (bS (aC (aO (tH (v2:=.bool (decide _)) 2 bQ M13 Z Z Z Z ?_))))
  exact ⟨⟨_,Z⟩,M13.below⟩
theorem aHz (w:World) (b:Nat) :
  Calls prog 33 #[.pointer (some ⟨b,0,none⟩)] w (Rb w (.pointer (some ⟨b,0,none⟩))):=by
 refine aI #[.tmp 2] 8 func33 Z results33 ntmps33 Z ?_
 have M0:=Mem.refl w
 refine aE (aA (wq (aJ (.pointer _) Z) Z (aB (aC (aE (aE (aA (wq (aH (.pointer _) Z) Z (wq (gX false underlying61 Z Z) Z (aB (aC (cG Z (aM (aC (aE (aA (wq (aH (.pointer _) Z) Z (wq (bL Z) Z (wq (aD 0 zB Z) Z (wq (aJ (.pointer _) Z) Z (aB (aC (aO (cI (.pointer _) Z ?_))))))))))))))))))))))))
 exact ⟨Z,M0.below⟩
theorem bBf (w:World) (b:Nat) (r:StV) (vs:List Body) (hW:dB 43 r vs) (hO:Own [(some b,bc [.slice r.A r.n r.c,.map r.p] 73),r.er,r.em] w) (x:Body) (hx:InB x) :
  Calls prog 47 #[.pointer (some ⟨b,0,none⟩),(.agg (aF x).toArray)] w (gH (fun v w'=>∃ r':StV,v=.int .i64 (oU vs x).2∧dB 43 r' ((oU vs x).1)∧Mem w (bY [(some b,bc [.slice r.A r.n r.c,.map r.p] 73),r.er,r.em]) [(some b,bc [.slice r'.A r'.n r'.c,.map r'.p] 73),r'.er,r'.em] w')):=by
 obtain ⟨hG,m,hs,hR⟩:=hW
 refine aI #[.tmp 4] 15 func47 Z results47 ntmps47 Z ?_
 have M0:=hO.mem
 refine aE (aA (bN (.agg (.mk _)) M0 Z Z Z (fun b1 w1 M1=>(bK Z Z (aB (aC (aE (aE (aA (wq (aH (.pointer _) Z) Z (dN bDk Z Z M1 (aHz _ b) (fun w2 M2=>(wq (aJ (.pointer _) Z) Z (aB (aC (aE (aA (wq (aH (.pointer _) Z) Z (wq (xX true underlying88 Z Z) Z (aB (aC (cE Z (aE (fW [(0,0),(1,0),(2,0),(3,1),(4,2),(5,0)] mixed M2 Z (by kernel_rfl) (fun w3 M3=>(aV Z Z Z (fun _=>aH (.pointer _) Z) (aV Z Z Z (fun _=>bL Z) ?_)))))))))))))))))))))))))))
 refine aV Z Z Z (fun _=>aD 0 vQ Z) (bP Z Z Z (aX 3 bQ M3 Z Z Z) (dI [true] Z (by kernel_rfl) (eP bMy Z Z (aXq _ _ _ _ _ _ _ _ _ hs (M3.ownSeg 0 3) x) ?_)))
 rintro v4 w4 ⟨rfl,A4,n4,c4,p4,er4,em4,hs4,hM4⟩
 have M4:Mem _ _ [_,_,_,_] _:=M3.seg 0 3 hM4
 refine aB (aC ⟨dJ, ?_⟩)
 refine mW Z Z Z (bS (aC (aO (cO (cI (.int _ _) Z ?_)))))
 obtain ⟨q1,q2⟩:=hR.add x
 exact ⟨⟨A4,n4,c4,p4,er4,em4⟩,by rw [q2],aDx hs4 q1 (aVh (hG.inm hR) hx),M4.keep [true,true,true,false]⟩
theorem aNp (w:World) (b:Nat) (r:StV) (vs:List Body) (hW:dB 43 r vs) (hO:Own [(some b,bc [.slice r.A r.n r.c,.map r.p] 73),r.er,r.em] w) (key:Int) :
  Calls prog 50 #[.pointer (some ⟨b,0,none⟩),.int .u32 key] w (gH (fun v w'=>∃ r':StV,v=.int .i64 (iC vs key).2∧dB 43 r' ((iC vs key).1)∧Mem w (bY [(some b,bc [.slice r.A r.n r.c,.map r.p] 73),r.er,r.em]) [(some b,bc [.slice r'.A r'.n r'.c,.map r'.p] 73),r'.er,r'.em] w')):=by
 obtain ⟨hG,m,hs,hR⟩:=hW
 refine aI #[.tmp 4] 15 func50 Z results50 ntmps50 Z ?_
 have M0:=hO.mem
 refine aE (aA (bK Z Z (aB (aC (aE (aE (aA (wq (aH (.pointer _) Z) Z (dN bDk Z Z M0 (aHz _ b) (fun w1 M1=>(wq (aJ (.pointer _) Z) Z (aB (aC (aE (aA (wq (aH (.pointer _) Z) Z (wq (xX true underlying88 Z Z) Z (aB (aC (cE Z (aE (aA (wq (aH (.pointer _) Z) Z (wq (bL Z) Z (wq (aD 0 vQ Z) Z (aQ Z Z ?_))))))))))))))))))))))))))
 refine eP bUu Z Z (aUx _ _ _ _ _ _ _ _ _ hs (M1.ownSeg 0 3) key) ?_
 rintro v2 w2 ⟨rfl,A2,n2,c2,p2,er2,em2,hs2,hM2⟩
 have M2:Mem _ _ [_,_,_] _:=M1.seg 0 3 hM2
 refine bK Z Z (aB (aC (aO (cO (cI (.int _ _) Z ?_)))))
 obtain ⟨q1,q2⟩:=hR.remove key
 exact ⟨⟨A2,n2,c2,p2,er2,em2⟩,by rw [q2],aDx hs2 q1 (aGw hs.keys (hG.inm hR)),M2.keep [true,true,true]⟩
theorem aLi (w:World) (b:Nat) (r:StV) (vs:List Body) (hW:dB 43 r vs) (hO:Own [(some b,bc [.slice r.A r.n r.c,.map r.p] 73),r.er,r.em] w) (key:Int) :
  Calls prog 18 #[.pointer (some ⟨b,0,none⟩),.int .u32 key] w (gH (fun v w'=>v=.tuple #[(.agg (aF (qN vs key).body).toArray),.int .i64 (qN vs key).err]∧Mem w (bY [(some b,bc [.slice r.A r.n r.c,.map r.p] 73),r.er,r.em]) [(some b,bc [.slice r.A r.n r.c,.map r.p] 73),r.er,r.em] w')):=by
 obtain ⟨hG,m,hs,hR⟩:=hW
 refine aI #[.cell 4 43,.tmp 5] 19 func18 Z results18 ntmps18 Z ?_
 have M0:=hO.mem
 refine aE (aA (aR fV M0 Z Z (fun b1 w1 M1=>(bK Z Z (aB (aC (aE (aE (aA (wq (aH (.pointer _) Z) Z (dN bDk Z Z M1 (aHz _ b) (fun w2 M2=>(wq (aJ (.pointer _) Z) Z (aB (aC (aE (aA (wq (aH (.pointer _) Z) Z (wq (xX true underlying88 Z Z) Z (aB (aC (cE Z (aE (aA (wq (aH (.pointer _) Z) Z (wq (bL Z) Z (wq (aD 0 vQ Z) Z ?_)))))))))))))))))))))))))))
 refine aQ Z Z (eP bTn Z Z (bLv _ _ _ _ _ _ _ _ _ hs (M2.ownSeg 0 3) key) ?_)
 rintro v3 w3 ⟨⟨x3,rfl,hx3⟩,hM3⟩
 have M3:Mem _ _ [_,_,_,_] _:=M2.seg 0 3 hM3
 have hge:=bJq hR key
 obtain rfl:x3=(qN vs key).body:=by rw [hx3,hge]
 have hge2:(aFt m key).2=(qN vs key).err:=by rw [hge]
 refine wq (bM (.agg (.mk _)) Z Z) Z (wq (bM (.int _ _) Z Z) Z (aL 17 (.int .i64 (qN vs key).err) (iE hge2) (bG 3 _ bQ M3 Z Z Z Z Z (aS Z) Z (fun w4 M4=>(bK Z Z (aB (aC (aO (cO (tH (v2:=.int _ _) 3 bQ M4 Z Z Z Z ?_))))))))))
 exact ⟨Z,M4.keep [true,true,true,false]⟩
theorem aHy (w:World) (b:Nat) (r:StV) (vs:List Body) (hW:dB 43 r vs) (hO:Own [(some b,bc [.slice r.A r.n r.c,.map r.p] 73),r.er,r.em] w) :
  Calls prog 36 #[.pointer (some ⟨b,0,none⟩)] w (gH (fun v w'=>∃ q:Row,v=.slice q.A q.n q.c∧aZ 43 10 q.A q.n q.c ((vs).map aF) q.e∧Mem w (bY [(some b,bc [.slice r.A r.n r.c,.map r.p] 73),r.er,r.em]) [(some b,bc [.slice r.A r.n r.c,.map r.p] 73),r.er,r.em,q.e] w')):=by
 have hW':=hW
 obtain ⟨hG,m,hs,hR⟩:=hW
 refine aI #[.tmp 2] 10 func36 Z results36 ntmps36 Z ?_
 have M0:=hO.mem
 refine aE (aA (eH Z Z (aB (aC (aE (aE (aA (wq (aH (.pointer _) Z) Z (wq (gX false underlying61 Z Z) Z (aB (aC (cG Z (aM (aC (aE (aA (wq (aH (.pointer _) Z) Z (wq (bL Z) Z (wq (aD 0 zB Z) Z (wq (aD 0 vQ Z) Z (eP bTs Z Z (aUw _ _ _ _ _ _ _ _ _ hs (M0.ownSeg 0 3)) ?_)))))))))))))))))))))
 rintro v1 w1 ⟨A1,n1,c1,e1,rfl,hR1,hM1⟩
 have M1:Mem _ _ [_,_,_,_] _:=M0.seg 0 3 hM1
 rw [hR.eq] at hR1
 refine eH Z Z (aB (aC (aO (cI (.slice _ _ _) Z ?_))))
 exact ⟨⟨A1,n1,c1,e1⟩,Z,hR1,M1⟩
theorem nG (w:World) (b:Nat) (r:StV) (vs:List Body) (hW:dB 43 r vs) (hO:Own [(some b,bc [.slice r.A r.n r.c,.map r.p] 73),r.er,r.em] w) :
  Calls prog 22 #[.pointer (some ⟨b,0,none⟩)] w (gH (fun v w'=>∃ q:Row,v=.slice q.A q.n q.c∧aZ 5 1 q.A q.n q.c ((kH vs).map bB) q.e∧Mem w (bY [(some b,bc [.slice r.A r.n r.c,.map r.p] 73),r.er,r.em]) [(some b,bc [.slice r.A r.n r.c,.map r.p] 73),r.er,r.em,q.e] w')):=by
 have hW':=hW
 obtain ⟨hG,m,hs,hR⟩:=hW
 refine aI #[.tmp 2] 14 func22 Z results22 ntmps22 Z ?_
 have M0:=hO.mem
 refine aE (aA (eH Z Z (aB (aC (aE (aE (aA (wq (aH (.pointer _) Z) Z (wq (gX false underlying61 Z Z) Z (aB (aC (cG Z (aM (aC (aE (aA (wq (aH (.pointer _) Z) Z (eP bMu Z Z (aHy _ _ r _ hW' (M0.ownSeg 0 3)) ?_))))))))))))))))))
 rintro v1 w1 ⟨q,rfl,hq,hM1⟩
 have M1:Mem _ _ [_,_,_,_] _:=M0.seg 0 3 hM1
 have hqn:vs.length=q.n:=by simpa using hq.1
 have hvl:=hG.len
 refine eP bTo Z Z (aLz _ _ _ _ vs (hq.rd M1 (bA (i:=3) Z)) (by omega) hG.chk hG.inb) ?_
 rintro v2 w2 ⟨z,rfl,hz,hM2⟩
 have M2:Mem _ _ [_,_,_,_,_] _:=M1.call0 hM2
 refine wq (aH (.tuple (List.toArray _)) Z) Z (wq (bM (.slice _ _ _) Z Z) Z (wq (bM (.int _ _) Z Z) Z (eH Z Z (bK Z Z (aB (aC (aE (aA (dK Z Z (eH Z Z (aB (aC (aO (cI (.slice _ _ _) Z ?_))))))))))))))
 exact ⟨z,Z,hz,M2.keep [true,true,true,false,true]⟩
theorem aJj (w:World) (b:Nat) (r:StV) (vs:List Body) (hW:dB 43 r vs) (hO:Own [(some b,bc [.slice r.A r.n r.c,.map r.p] 73),r.er,r.em] w) (key:Int) (j:Int × Int) (hj1 : -2147483648≤j.1∧j.1≤2147483647) (hj2 : -2147483648≤j.2∧j.2≤2147483647) :
  Calls prog 55 #[.pointer (some ⟨b,0,none⟩),.int .u32 key,.agg [.int .i32 j.1,.int .i32 j.2].toArray] w (gH (fun v w'=>∃ r':StV,v=.int .i64 (rY vs key j).2∧dB 43 r' ((rY vs key j).1)∧Mem w (bY [(some b,bc [.slice r.A r.n r.c,.map r.p] 73),r.er,r.em]) [(some b,bc [.slice r'.A r'.n r'.c,.map r'.p] 73),r'.er,r'.em] w')):=by
 have hW':=hW
 obtain ⟨hG,m,hs,hR⟩:=hW
 refine aI #[.tmp 6] 30 func55 Z results55 ntmps55 Z ?_
 have M0:=hO.mem
 refine aE (aA (bN (.agg (.mk _)) M0 Z Z Z (fun b1 w1 M1=>(bK Z Z (aB (aC (aE (aA (wq (aH (.pointer _) Z) Z (aQ Z Z (eP bMo Z Z (aLi _ _ r vs hW' (M1.ownSeg 0 3) key) ?_)))))))))))
 rintro v2 w2 ⟨rfl,hM2⟩
 have M2:Mem _ _ [_,_,_,_] _:=M1.seg 0 3 hM2
 refine wq (aH (.tuple (List.toArray _)) Z) Z (wq (bM (.agg (.mk _)) Z Z) Z (wq (bM (.int _ _) Z Z) Z (aR fV M2 Z Z (fun b3 w3 M3=>(bG 4 _ bQ M3 Z Z Z Z Z (aS Z) Z (fun w4 M4=>(bK Z Z (aB (aC (aE (aE (aA (aQ Z Z (cX Z Z Z Z (aB (aC ?_))))))))))))))))
 refine aU Z (fun h16 => ?_) (fun h16 => ?_)
 ·refine aE (aA (aQ Z Z (bK Z Z (aB (aC (aO (cO (cI (.int _ _) Z ?_))))))))
  have hf:dO key vs < 0:=Decidable.byContradiction fun h=>h16 (by unfold qN;rw [if_neg h];rfl)
  exact ⟨r,by rw [uF j hf];unfold qN;rw [if_pos hf],by rw [uF j hf];exact hW',M4.keep [true,true,true,false,false]⟩
 ·have hf:¬ dO key vs < 0:=fun h=>h16 (by unfold qN;rw [if_pos h];decide)
  obtain ⟨i,bb,hbi,_,hfi⟩:=(eO key vs).resolve_left (fun h=>hf (by omega))
  have hgb:(qN vs key).body=bb:=by unfold qN;rw [if_neg hf];exact uZ hfi hbi
  obtain ⟨z1,z2,z3,z4⟩:=aWk hR hG j hfi hbi
  have hbo:=hG.okb bb (List.mem_of_getElem? hbi)
  refine aM (aC (aE (aA (wq (aX 4 bQ M4 Z Z Z) Z (aL 19 ((.agg (aF bb).toArray)) (congrArg (fun x=>Value.agg (aF x).toArray) hgb) (wq (aX 3 bO M4 Z Z Z) Z (eP bUw Z Z (bEs _ bb hbo j hj1 hj2) ?_)))))))
  rintro v5 w5 ⟨⟨gg,rfl⟩,hb5⟩
  have M5:=M4.callB hb5
  refine wq (aH (.tuple (List.toArray _)) Z) Z (wq (bM (.agg (.mk _)) Z Z) Z (wq (bM (.bool _) Z Z) Z (bG 4 _ bQ M5 Z Z Z Z Z (aS Z) Z (fun w6 M6=>(aB (aC (aE (fW [(0,0),(1,0),(2,0),(3,0),(4,1),(5,2),(6,0)] mixed M6 Z (by kernel_rfl) (fun w7 M7=>(aV Z Z Z (fun _=>aH (.pointer _) Z) (aV Z Z Z (fun _=>bL Z) (aV Z Z Z (fun _=>aD 0 zB Z) (aV Z Z Z (fun _=>aD 0 vQ Z) (bP Z Z Z (aX 4 bQ M7 Z Z Z) (dI [true] Z (by kernel_rfl) ?_)))))))))))))))
  refine eP bUy Z Z (bLw _ _ _ _ _ _ _ _ _ hs (M7.ownSeg 0 3) (pushB bb j)) ?_
  rintro v8 w8 ⟨rfl,A8,n8,c8,p8,er8,em8,hs8,hM8⟩
  have M8:Mem _ _ [_,_,_,_,_] _:=M7.seg 0 3 hM8
  refine aB (aC ⟨dJ, ?_⟩)
  refine mW Z Z Z (bS (aC (aO (cI (.int _ _) Z ?_))))
  exact ⟨⟨A8,n8,c8,p8,er8,em8⟩,by rw [z3,z2],aDx hs8 z1 (aXc (hG.inm hR) (aWv (hG.inb bb (List.mem_of_getElem? hbi)) j)),M8.keep [true,true,true,false,false]⟩
theorem xH (w:World) (b:Nat) (r:StV) (vs:List Body) (hW:dB 43 r vs) (hO:Own [(some b,bc [.slice r.A r.n r.c,.map r.p] 73),r.er,r.em] w) (A:Option Addr) (n c:Nat) (xs:List Body) (RA:Rd w 10 A n (xs.map aF)) (hX:GoodV xs) (hdA:0 < n→∀ q off,A=some ⟨q,off,none⟩→q∉bY [(some b,bc [.slice r.A r.n r.c,.map r.p] 73),r.er,r.em]) :
  Calls prog 41 #[.pointer (some ⟨b,0,none⟩),.slice A n c] w (gH (fun v w'=>∃ r':StV,v=.tuple #[]∧dB 43 r' (xs)∧Mem w (bY [(some b,bc [.slice r.A r.n r.c,.map r.p] 73),r.er,r.em]) [(some b,bc [.slice r'.A r'.n r'.c,.map r'.p] 73),r'.er,r'.em] w')):=by
 have hlen:xs.length=n:=by simpa using RA.len
 have hbd:=RA.bound
 have hxl:=hX.len
 refine aI #[] 23 func41 Z results41 ntmps41 Z ?_
 have M0:=hO.mem
 refine aE (aA (wq (aH (.pointer _) Z) Z (wq (cB [] _ bHh Z Z) Z (wq (bL Z) Z (wq (aD 0 zB Z) Z (bG 0 _ bTc M0 Z Z Z Z Z (aS Z) Z (fun w1 M1=>(aB (aC (aE (aA ?_)))))))))))
 have M2:Mem _ _ [_,_,_] _:=(((M1.keep [true,false,false]).dummy default).dummy default)
 refine dK Z Z (wq (cK underlying46 Z) Z (aQ Z Z (aB (aC (aP (dG (σ:=Nat × StV) [0,10,11] (fun (k,r2)=>[(12,.int .i64 (k:Int))]) (fun (k,r2) w'=>(k≤n∧StoreIs 43 r2.A r2.n r2.c r2.p r2.er r2.em (xs.take k))∧Mem w (bY [(some b,bc [.slice r.A r.n r.c,.map r.p] 73),r.er,r.em]) [(some b,bc [.slice r2.A r2.n r2.c,.map r2.p] 73),r2.er,r2.em] w') (fun (k,r2)=>n - k) (0,⟨none,0,0,none,(none,default),(none,default)⟩) (bE Z dZ) (⟨⟨by omega,(StoreIs.nil 43 default default)⟩,M2⟩) ?_))))))
 rintro ⟨k,r2⟩ ρ3 w3 ⟨⟨hk,hr⟩,hM3⟩
 refine aE (aA (cX Z Z Z Z (aB (aC (aE ?_)))))
 refine aU Z (fun h13 => ?_) (fun h13 => ?_)
 ·obtain ⟨xb,hxb⟩:=cF (xs:=xs) (k:=k) hlen (by omega)
  refine aM (aC (aE (aP (aE (aA (wq (bJ (k) dP Z Z Z ((RA.memY hM3 hdA).below_len (aG aF hxb)) ((RA.memY hM3 hdA).someK (aG aF hxb))) Z (wq (dW _ bQ (RA.memY hM3 hdA) (aG aF hxb) Z) Z (aR fV hM3 Z Z (fun b4 w4 M4=>(bG 3 _ bQ M4 Z Z Z Z Z (aS Z) Z (fun w5 M5=>(aB (aC (fW [(0,0),(1,0),(2,0),(3,0),(4,1),(5,2)] mixed M5 Z (by kernel_rfl) (fun w6 M6=>(aV Z Z Z (fun _=>aH (.pointer _) Z) (aV Z Z Z (fun _=>bL Z) (aV Z Z Z (fun _=>aD 0 zB Z) ?_))))))))))))))))))
  refine aV Z Z Z (fun _=>aD 0 vQ Z) (bP Z Z Z (aX 3 bQ M6 Z Z Z) (dI [true] Z (by kernel_rfl) (eP bMy Z Z (aXq _ _ _ _ _ _ _ _ _ hr (M6.ownSeg 0 3) xb) ?_)))
  rintro v7 w7 ⟨rfl,A7,n7,c7,p7,er7,em7,hs7,hM7⟩
  have M7:Mem _ _ [_,_,_,_] _:=M6.seg 0 3 hM7
  refine aB (aC ⟨dJ, ?_⟩)
  refine bS (cR (aC (aA (wq (bC Z Z (by omega) (by omega)) Z (aQ Z Z (aB ?_))))))
  refine bX (k+1,⟨A7,n7,c7,p7,er7,em7⟩) (bE Z dZ) (bZ Z (bZ Z (bZ Z gK))) ?_ ?_
  ·exact ⟨⟨by omega,by rw [← aNz hX (k+1) (by omega),aEj hxb,aNz hX k (by omega)];exact hs7⟩,M7.keep [true,true,true,false]⟩
  ·(show n - (k+1) < n - k;omega)
 ·obtain rfl:k=n:=by omega
  rw [List.take_of_length_le (by omega)] at hr
  refine cN (dC (dE (eJ (kI ?_))))
  exact ⟨r2,Z,⟨hX,xs,hr,zX hX.s⟩,hM3⟩
theorem aUs (w:World) (F:Rd w 2 (some ⟨0,0,none⟩) 1 [[.int .u32 73856093,.int .u32 19349663]]) (N:Rd w 4 (some ⟨3,0,none⟩) 1 [eC iU]) (b:Nat) (r:StV) (vs:List Body) (hW:dB 43 r vs) (hO:Own [(some b,bc [.slice r.A r.n r.c,.map r.p] 73),r.er,r.em] w) (hdF:0 < 1→∀ q off,(some ⟨0,0,none⟩:Option Addr)=some ⟨q,off,none⟩→q∉bY [(some b,bc [.slice r.A r.n r.c,.map r.p] 73),r.er,r.em]) (hdN:0 < 1→∀ q off,(some ⟨3,0,none⟩:Option Addr)=some ⟨q,off,none⟩→q∉bY [(some b,bc [.slice r.A r.n r.c,.map r.p] 73),r.er,r.em]) :
  Calls prog 57 #[.pointer (some ⟨b,0,none⟩)] w (gH (fun v w'=>∃ (r':StV) (t:Nat),v=.agg [.int .i64 (t:Int),.int .i64 ((lT vs).length:Int),.bool (aAd vs)].toArray∧dB 43 r' (rD vs)∧Mem w (bY [(some b,bc [.slice r.A r.n r.c,.map r.p] 73),r.er,r.em]) [(some b,bc [.slice r'.A r'.n r'.c,.map r'.p] 73),r'.er,r'.em] w')):=by
 have hW':=hW
 obtain ⟨hG,m,hs,hR⟩:=hW
 have hvl:=hG.len
 refine aI #[.cell 2 123] 18 func57 Z results57 ntmps57 Z ?_
 have M0:=hO.mem
 refine aE (aA (aR aEh M0 Z Z (fun b1 w1 M1=>(aB (aC (aE (aE (aA (wq (aH (.pointer _) Z) Z (wq (gX false underlying61 Z Z) Z (aB (aC (cG Z (aM (aC (aE (aA (wq (aH (.pointer _) Z) Z (eP bMu Z Z (aHy _ _ r _ hW' (M1.ownSeg 0 3)) ?_)))))))))))))))))))
 rintro v2 w2 ⟨q,rfl,hq,hM2⟩
 have M2:Mem _ _ [_,_,_,_,_] _:=M1.seg 0 3 hM2
 have hqn:vs.length=q.n:=by simpa using hq.1
 refine eP bUz Z Z (bAu _ (F.memY M2 hdF) (N.memY M2 hdN) _ _ _ vs (hq.rd M2 (bA (i:=4) Z)) hG.okb hG.s (by omega)) ?_
 rintro v3 w3 ⟨ra,ta,rfl,h1ta,h2ta,hra,hM3⟩
 have M3:Mem _ _ [_,_,_,_,_,_] _:=M2.call0 hM3
 refine wq (aH (.tuple (List.toArray _)) Z) Z (wq (bM (.slice _ _ _) Z Z) Z (wq (bM (.agg (.mk _)) Z Z) Z (aR aEh M3 Z Z (fun b4 w4 M4=>(eH Z Z (bG 6 _ tN M4 Z Z Z Z Z (aS Z) Z (fun w5 M5=>(aB (aC (aE (aA (wq (aH (.pointer _) Z) Z (dK Z Z (eP bMv Z Z (xH _ _ r _ hW' (M5.ownSeg 0 3) ra.A ra.n ra.c (rD vs) (hra.rd M5 (bA (i:=5) Z)) hG.step (hra.awayS M5 0 3 5 Z Z)) ?_))))))))))))))
 rintro v6 w6 ⟨r2,rfl,hw2,hM6⟩
 have M6:Mem _ _ [_,_,_,_,_,_,_] _:=M5.seg 0 3 hM6
 refine aB (aC (aE (aA (wq (aX 6 tN M6 Z Z Z) Z (bG 3 _ tN M6 Z Z Z Z Z (aS Z) Z (fun w7 M7=>(aB (aC (aO (eQ 3 tN M7 Z Z Z ?_))))))))))
 exact ⟨r2,ta,Z,hw2,M7.keep [true,true,true,false,false,false,false]⟩
theorem xG (w:World) (b:Nat) (r:StV) (vs:List Body) (hW:dB 43 r vs) (hO:Own [(some b,bc [.slice r.A r.n r.c,.map r.p] 73),r.er,r.em] w) (BA:Option Addr) (nn cc:Nat) (ls:List Int) (RS:Rd w 1 BA nn (ls.map bB)) (hB:iG ls) (hcap:nn≤cc) (hnn:nn≤1000000) (hdB:0 < nn→∀ q off,BA=some ⟨q,off,none⟩→q∉bY [(some b,bc [.slice r.A r.n r.c,.map r.p] 73),r.er,r.em]) :
  Calls prog 31 #[.pointer (some ⟨b,0,none⟩),.slice BA nn cc] w (gH (fun v w'=>∃ r':StV,v=.int .i64 (nJ ls).2∧dB 43 r' (pI vs ls)∧Mem w (bY [(some b,bc [.slice r.A r.n r.c,.map r.p] 73),r.er,r.em]) [(some b,bc [.slice r'.A r'.n r'.c,.map r'.p] 73),r'.er,r'.em] w')):=by
 have hW':=hW
 obtain ⟨hG,m,hs,hR⟩:=hW
 have hlen:ls.length=nn:=by simpa using RS.len
 refine aI #[.tmp 4] 20 func31 Z results31 ntmps31 Z ?_
 have M0:=hO.mem
 refine aE (aA (bK Z Z (aB (aC (aE (aE (aA (wq (aH (.pointer _) Z) Z (wq (gX false underlying61 Z Z) Z (aB (aC (cG Z (aM (aC (aE (aA (dK Z Z (eP bTq Z Z (aLy _ BA nn cc ls (RS.memY M0 hdB) hB hcap (by omega)) ?_))))))))))))))))))
 rintro v1 w1 ⟨q,rfl,hq,hM1⟩
 have M1:Mem _ _ [_,_,_,_] _:=M0.call0 hM1
 refine wq (aH (.tuple (List.toArray _)) Z) Z (wq (bM (.slice _ _ _) Z Z) Z (wq (bM (.int _ _) Z Z) Z (eH Z Z (bK Z Z (aB (aC (aE (aE (aA (aQ Z Z (cX Z Z Z Z (aB (aC ?_)))))))))))))
 refine aU Z (fun h15 => ?_) (fun h15 => ?_)
 ·refine aA (wq (aH (.pointer _) Z) Z (dK Z Z (eP bMv Z Z (xH _ _ r _ hW' (M1.ownSeg 0 3) q.A q.n q.c (nJ ls).1 (hq.rd M1 (bA (i:=3) Z)) (GoodV.dec hB (by omega) h15) (hq.awayS M1 0 3 3 Z Z)) ?_)))
  rintro v2 w2 ⟨r2,rfl,hw2,hM2⟩
  have M2:Mem _ _ [_,_,_,_] _:=M1.seg 0 3 hM2
  refine aB (aC (aE (aA (aQ Z Z (bK Z Z (aB (aC (aO (cI (.int _ _) Z ?_)))))))))
  exact ⟨r2,Z,by unfold pI;rw [if_pos h15];exact hw2,M2.keep [true,true,true,false]⟩
 ·refine aM (aC (aE (aA (aQ Z Z (bK Z Z (aB (aC (aO (cI (.int _ _) Z ?_)))))))))
  exact ⟨r,Z,by unfold pI;rw [if_neg h15];exact hW',M1.keep [true,true,true,false]⟩
theorem aJa (w:World) (q0:Row) (s:List Body) (hq0:aZ 43 10 q0.A q0.n q0.c ((s).map aF) q0.e) (hG:GoodV s) (hO:Own [q0.e] w) (key:Int) (j:Int × Int) (hj1 : -2147483648≤j.1∧j.1≤2147483647) (hj2 : -2147483648≤j.2∧j.2≤2147483647) :
  Calls prog 61 #[.slice q0.A q0.n q0.c,.int .u32 key,.agg [.int .i32 j.1,.int .i32 j.2].toArray] w (gH (fun v w'=>∃ q:Row,v=.tuple #[.slice q.A q.n q.c,.int .i64 (rY s key j).2]∧aZ 43 10 q.A q.n q.c (((rY s key j).1).map aF) q.e∧Mem w (bY [q0.e]) [q.e] w')):=by
 have hlen:s.length=q0.n:=by simpa using hq0.1
 have hsl:=hG.len
 refine aI #[.tmp 6,.tmp 7] 29 func61 Z results61 ntmps61 Z ?_
 have M0:=hO.mem
 refine aE (aA (bN (.agg (.mk _)) M0 Z Z Z (fun b1 w1 M1=>(eH Z Z (bK Z Z (aB (aC (aE (aA (dK Z Z (aQ Z Z (dN tG Z Z M1 (iD _ key _ _ _ s (hq0.rd M1 (bA (i:=0) Z))) (fun w2 M2=>(bK Z Z (aB (aC (aE (aE (aA (aQ Z Z (cX Z Z Z Z (aB (aC ?_)))))))))))))))))))))))
 refine aU Z (fun h15 => ?_) (fun h15 => ?_)
 ·refine aE (aA (dK Z Z (eH Z Z (bK Z Z (aB (aC (aO (cO (fX (.slice _ _ _) (.int _ _) Z Z ?_)))))))))
  exact ⟨q0,by rw [uF j h15],by rw [uF j h15];exact hq0,M2.keep [true,false]⟩
 ·obtain ⟨i,bb,hbi,_,hfi⟩:=(eO key s).resolve_left (fun h=>h15 (by omega))
  have hbo:=hG.okb bb (List.mem_of_getElem? hbi)
  have hie:rY s key j=(xW s (pushB bb j) false,0):=by unfold rY;rw [if_neg (by omega),uZ hfi hbi]
  refine aM (aC (aE (aLk [(0,0),(1,0),(2,1),(3,1),(4,1)] 5 9 [(6,0),(7,0),(8,0),(9,2),(10,2),(11,0)] [(5,2),(6,0),(7,0),(8,0),(10,2),(11,0)] mixed Z (by kernel_rfl) (fun w3 hb3 hh3 => ?_))))
  have M3:=M2.drew hb3 hh3
  refine sI Z Z Z (fun _=>aH (.slice _ _ _) Z) (sI Z Z Z (fun _=>aH (.int _ _) Z) (aAi Z Z Z (bJ (i) dP Z Z hfi ((hq0.rd M3 (bA (i:=0) Z)).below_len (aG aF hbi)) ((hq0.rd M3 (bA (i:=0) Z)).someK (aG aF hbi))) (aAi Z Z Z (dW _ bQ (hq0.rd M3 (bA (i:=0) Z)) (aG aF hbi) Z) (aAi Z Z Z (aX 1 bO M3 Z Z Z) ?_))))
  refine aDp ?_ ?_
  ·refine dI [true,true,true] Z (by kernel_rfl) (eP bNa Z Z (aGv _ bb hbo j hj1 hj2) ?_)
   rintro v4 w4 ⟨⟨gg,rfl⟩,hb4⟩
   have M4:=M3.callB hb4
   refine aB (aC ⟨dJ, ?_⟩)
   refine aV Z Z Z (fun _=>aH (.tuple (List.toArray _)) Z) (aV Z Z Z (fun _=>bM (.agg (.mk _)) Z Z) (aV Z Z Z (fun _=>bM (.bool _) Z Z) (dI [] Z (by kernel_rfl) (aR fV M4 Z Z (fun b5 w5 M5 => ?_)))))
   refine aB (aC ⟨dJ, ?_⟩)
   refine dI [] Z (by kernel_rfl) (bG 2 _ bQ M5 Z Z Z Z Z (aS Z) Z (fun w6 M6 => ?_))
   refine aB (aC ⟨dJ, ?_⟩)
   refine aV Z Z Z (fun _=>aJ (.bool _) Z) (bS (aC (aE (aA (dK Z Z (wq (aX 2 bQ M6 Z Z Z) Z (eP aVp Z Z (vZ _ (pushB bb j) false _ _ _ s (hq0.rd M6 (bA (i:=0) Z)) (by omega)) ?_)))))))
   rintro v7 w7 ⟨A7,n7,c7,e7,rfl,hR7,hM7⟩
   have M7:Mem _ _ [_,_,_,_] _:=M6.call0 hM7
   refine eH Z Z (bK Z Z (aB (aC (aO (fX (.slice _ _ _) (.int _ _) Z Z ?_)))))
   exact ⟨⟨A7,n7,c7,e7⟩,by rw [hie],by rw [hie];exact hR7,M7.keep [false,false,false,true]⟩
  ·refine dI [false,false,false] Z (by kernel_rfl) (aR fV M3 Z Z (fun b8 w8 M8 => ?_))
   refine aB (aC ⟨(dS (bI Z (aX 1 bO M8 Z Z Z)) (dS (bI Z (dW _ bQ (hq0.rd M8 (bA (i:=0) Z)) (aG aF hbi) Z)) (dS (bI Z (bJ (i) dP Z Z hfi ((hq0.rd M8 (bA (i:=0) Z)).below_len (aG aF hbi)) ((hq0.rd M8 (bA (i:=0) Z)).someK (aG aF hbi)))) dJ))), ?_⟩)
   refine dI [true,true,true] Z (by kernel_rfl) (eP bNa Z Z (aGv _ bb hbo j hj1 hj2) ?_)
   rintro v9 w9 ⟨⟨gg,rfl⟩,hb9⟩
   have M9:=M8.callB hb9
   refine aB (aC ⟨dJ, ?_⟩)
   refine aV Z Z Z (fun _=>aH (.tuple (List.toArray _)) Z) (aV Z Z Z (fun _=>bM (.agg (.mk _)) Z Z) (aV Z Z Z (fun _=>bM (.bool _) Z Z) (dI [] Z (by kernel_rfl) (bG 2 _ bQ M9 Z Z Z Z Z (aS Z) Z (fun w10 M10 => ?_)))))
   refine aB (aC ⟨dJ, ?_⟩)
   refine aV Z Z Z (fun _=>aJ (.bool _) Z) (bS (aC (aE (aA (dK Z Z (wq (aX 2 bQ M10 Z Z Z) Z (eP aVp Z Z (vZ _ (pushB bb j) false _ _ _ s (hq0.rd M10 (bA (i:=0) Z)) (by omega)) ?_)))))))
   rintro v11 w11 ⟨A11,n11,c11,e11,rfl,hR11,hM11⟩
   have M11:Mem _ _ [_,_,_,_] _:=M10.call0 hM11
   refine eH Z Z (bK Z Z (aB (aC (aO (fX (.slice _ _ _) (.int _ _) Z Z ?_)))))
   exact ⟨⟨A11,n11,c11,e11⟩,by rw [hie],by rw [hie];exact hR11,M11.keep [false,false,false,true]⟩
theorem bGj (w:World) (q0:Row) (s:List Body) (hq0:aZ 43 10 q0.A q0.n q0.c ((s).map aF) q0.e) (hG:GoodV s) (hO:Own [q0.e] w) (o:OpI) (BA:Option Addr) (nn cc:Nat) (hP:OpOk w o BA nn cc) (hnn:nn≤1000000) (hdB:0 < nn→∀ q off,BA=some ⟨q,off,none⟩→q∉bY [q0.e]) :
  Calls prog 38 #[.slice q0.A q0.n q0.c,.agg (dR o BA nn cc).toArray] w (gH (fun v w'=>∃ (q p:Row),v=.agg (bGl q.A q.n q.c p.A p.n p.c (doR s o).2).toArray∧aZ 43 10 q.A q.n q.c (((doR s o).1).map aF) q.e∧aZ 5 1 p.A p.n p.c (((doR s o).2.bytes).map bB) p.e∧Mem w (bY [q0.e]) [q.e,p.e] w')):=by
 have hlen:s.length=q0.n:=by simpa using hq0.1
 have hsl:=hG.len
 have hbl:=hP.len
 refine aI #[.cell 4 97] 93 func38 Z results38 ntmps38 Z ?_
 have M0:=hO.mem
 refine aE (aA (bN (.agg (.mk _)) M0 Z Z Z (fun b1 w1 M1=>(aR aVa M1 Z Z (fun b2 w2 M2=>(aB (aC (aE (aA (dK Z Z (wq (cB [(0,.slice _ _ _)] _ bHi Z Z) Z (aR aVa M2 Z Z (fun b3 w3 M3=>(bG 3 _ iO M3 Z Z Z Z Z (aS Z) Z (fun w4 M4=>(aB (aC (aE (aE (aA (wq (aD 0 bJg Z) Z (wq (aK 1 (.int _ _) fT M4 Z Z Z) Z (aB (aC (aP (aE (aA (cX Z Z Z Z (wq (aJ (.bool (decide _)) Z) Z (aB (aC ?_)))))))))))))))))))))))))))))))
 refine aU Z (fun h13 => ?_) (fun h13 => ?_)
 ·refine aA (dK Z Z (wq (aD 1 bJh Z) Z (wq (qZ 1 _ bQ M4 Z Z Z Z) Z (eP bUh Z Z (bAb _ _ _ _ _ s hq0 (M4.ownAt (i:=0) Z) o.body (by omega)) ?_))))
  rintro v5 w5 ⟨A5,n5,c5,e5,rfl,hR5,hM5⟩
  have M5:Mem _ _ [_,_,_,_] _:=M4.seg 0 1 hM5
  refine wq (aH (.tuple (List.toArray _)) Z) Z (wq (bM (.slice _ _ _) Z Z) Z (wq (bM (.int _ _) Z Z) Z (wq (aD 0 vR Z) Z (dA 3 (.slice _ _ _) gM M5 Z Z Z Z Z Z (fun w6 M6=>(wq (aD 1 vS Z) Z (dA 3 (.int _ _) fT M6 Z Z Z Z Z Z (fun w7 M7=>(aB (cR (aC (aE (aA (wq (aX 3 iO M7 Z Z Z) Z (bG 2 _ iO M7 Z Z Z Z Z (aS Z) Z (fun w8 M8=>(aB (aC (aO (eQ 2 iO M8 Z Z Z ?_))))))))))))))))))))
  exact ⟨⟨A5,n5,c5,e5⟩,⟨none,0,0,(none,default)⟩,by rw [bDv h13];rfl,by rw [bDv h13];exact hR5,by rw [bDv h13];exact aZ.nil _ _ _,(M8.keep [true,false,false,false]).dummy default⟩
 ·refine aE (aA (cX Z Z Z Z (wq (aJ (.bool (decide _)) Z) Z (aB (aC ?_)))))
  refine aU Z (fun h24 => ?_) (fun h24 => ?_)
  ·refine aA (dK Z Z (wq (aD 11 aMj Z) Z (wq (aK 1 (.int _ _) bV M4 Z Z Z) Z (eP bUi Z Z (aNd _ _ _ _ _ s hq0 (M4.ownAt (i:=0) Z) o.key (by omega)) ?_))))
   rintro v9 w9 ⟨A9,n9,c9,e9,rfl,hR9,hM9⟩
   have M9:Mem _ _ [_,_,_,_] _:=M4.seg 0 1 hM9
   refine wq (aH (.tuple (List.toArray _)) Z) Z (wq (bM (.slice _ _ _) Z Z) Z (wq (bM (.int _ _) Z Z) Z (wq (aD 0 vR Z) Z (dA 3 (.slice _ _ _) gM M9 Z Z Z Z Z Z (fun w10 M10=>(wq (aD 1 vS Z) Z (dA 3 (.int _ _) fT M10 Z Z Z Z Z Z (fun w11 M11=>(aB (cR (aC (aE (aA (wq (aX 3 iO M11 Z Z Z) Z (bG 2 _ iO M11 Z Z Z Z Z (aS Z) Z (fun w12 M12=>(aB (aC (aO (eQ 2 iO M12 Z Z Z ?_))))))))))))))))))))
   exact ⟨⟨A9,n9,c9,e9⟩,⟨none,0,0,(none,default)⟩,by rw [bDw h24];rfl,by rw [bDw h24];exact hR9,by rw [bDw h24];exact aZ.nil _ _ _,(M12.keep [true,false,false,false]).dummy default⟩
  ·refine aE (aA (cX Z Z Z Z (wq (aJ (.bool (decide _)) Z) Z (aB (aC ?_)))))
   refine aU Z (fun h35 => ?_) (fun h35 => ?_)
   ·refine aA (dK Z Z (wq (aD 11 aMj Z) Z (wq (aK 1 (.int _ _) bV M4 Z Z Z) Z (wq (aD 12 bJi Z) Z (wq (qZ 1 _ bO M4 Z Z Z Z) Z (eP bUj Z Z (aJa _ q0 s hq0 hG (M4.ownAt (i:=0) Z) o.key o.push hP.p1 hP.p2) ?_))))))
    rintro v13 w13 ⟨qi,rfl,hqi,hM13⟩
    have M13:Mem _ _ [_,_,_,_] _:=M4.seg 0 1 hM13
    refine wq (aH (.tuple (List.toArray _)) Z) Z (wq (bM (.slice _ _ _) Z Z) Z (wq (bM (.int _ _) Z Z) Z (wq (aD 0 vR Z) Z (dA 3 (.slice _ _ _) gM M13 Z Z Z Z Z Z (fun w14 M14=>(wq (aD 1 vS Z) Z (dA 3 (.int _ _) fT M14 Z Z Z Z Z Z (fun w15 M15=>(aB (cR (aC (aE (aA (wq (aX 3 iO M15 Z Z Z) Z (bG 2 _ iO M15 Z Z Z Z Z (aS Z) Z (fun w16 M16=>(aB (aC (aO (eQ 2 iO M16 Z Z Z ?_))))))))))))))))))))
    exact ⟨qi,⟨none,0,0,(none,default)⟩,by rw [bDx h35];rfl,by rw [bDx h35];exact hqi,by rw [bDx h35];exact aZ.nil _ _ _,(M16.keep [true,false,false,false]).dummy default⟩
   ·refine aE (aA (cX Z Z Z Z (wq (aJ (.bool (decide _)) Z) Z (aB (aC ?_)))))
    refine aU Z (fun h48 => ?_) (fun h48 => ?_)
    ·refine aA (dK Z Z (eP bUk Z Z (aTu _ _ _ _ s (hq0.rd M4 (bA (i:=0) Z)) hG.okb hG.s (by omega)) ?_))
     rintro v17 w17 ⟨rb,rfl,hrb,hM17⟩
     have M17:Mem _ _ [_,_,_,_,_] _:=M4.call0 hM17
     refine wq (aH (.tuple (List.toArray _)) Z) Z (wq (bM (.slice _ _ _) Z Z) Z (wq (bM (.int _ _) Z Z) Z (wq (bM (.bool _) Z Z) Z (wq (aD 0 vR Z) Z (dA 3 (.slice _ _ _) gM M17 Z Z Z Z Z Z (fun w18 M18=>(wq (aD 13 aWh Z) Z (dA 3 (.int _ _) fT M18 Z Z Z Z Z Z (fun w19 M19=>(wq (aD 14 aWi Z) Z (dA 3 (.bool _) sV M19 Z Z Z Z Z Z (fun w20 M20=>(aB (cR (aC (aE (aA (wq (aX 3 iO M20 Z Z Z) Z (bG 2 _ iO M20 Z Z Z Z Z (aS Z) Z (fun w21 M21 => ?_))))))))))))))))))))
     refine aB (aC (aO (eQ 2 iO M21 Z Z Z ?_)))
     exact ⟨rb,⟨none,0,0,(none,default)⟩,by rw [bDy h48];rfl,by rw [bDy h48];exact hrb,by rw [bDy h48];exact aZ.nil _ _ _,(M21.keep [false,false,false,false,true]).dummy default⟩
    ·refine aE (aA (cX Z Z Z Z (wq (aJ (.bool (decide _)) Z) Z (aB (aC ?_)))))
     refine aU Z (fun h59 => ?_) (fun h59 => ?_)
     ·refine aA (dK Z Z (eP bMr Z Z (aCx _ _ _ _ s (hq0.rd M4 (bA (i:=0) Z)) (by omega) hG.inb) ?_))
      rintro v22 w22 ⟨pb,rfl,hpb,hM22⟩
      have M22:Mem _ _ [_,_,_,_,_] _:=M4.call0 hM22
      refine wq (aD 12 aWg Z) Z (dA 3 (.slice _ _ _) kC M22 Z Z Z Z Z Z (fun w23 M23=>(aB (cR (aC (aE (aA (wq (aX 3 iO M23 Z Z Z) Z (bG 2 _ iO M23 Z Z Z Z Z (aS Z) Z (fun w24 M24=>(aB (aC (aO (eQ 2 iO M24 Z Z Z ?_))))))))))))))
      exact ⟨q0,pb,by rw [bDz h59];rfl,by rw [bDz h59];exact hq0,by rw [bDz h59];exact hpb,(M24.keep [true,false,false,false,true])⟩
     ·refine aE (aA (cX Z Z Z Z (wq (aJ (.bool (decide _)) Z) Z (aB (aC ?_)))))
      refine aU Z (fun h64 => ?_) (fun h64 => ?_)
      ·refine aE (aA (wq (aD 14 bJj Z) Z (wq (aK 1 (.slice _ _ _) kC M4 Z Z Z) Z (eP bUl Z Z (aNi _ BA nn cc o.bytes (hP.rd.memY M4 hdB) hP.byt hP.cap (by omega)) ?_))))
       rintro v25 w25 ⟨qd,rfl,hqd,hM25⟩
       have M25:Mem _ _ [_,_,_,_,_] _:=M4.call0 hM25
       refine wq (aH (.tuple (List.toArray _)) Z) Z (wq (bM (.slice _ _ _) Z Z) Z (wq (bM (.int _ _) Z Z) Z (eH Z Z (bK Z Z (aB (aC (aE (aA (aQ Z Z (wq (aD 1 vS Z) Z (dA 3 (.int _ _) fT M25 Z Z Z Z Z Z (fun w26 M26=>(aB (aC (aE (aA (aQ Z Z (cX Z Z Z Z (aB (aC ?_))))))))))))))))))))
       refine aU Z (fun h75 => ?_) (fun h75 => ?_)
       ·refine aA (dK Z Z (wq (aD 0 vR Z) Z (dA 3 (.slice _ _ _) gM M26 Z Z Z Z Z Z (fun w27 M27=>(aB (cR (aC (aE (aA (wq (aX 3 iO M27 Z Z Z) Z (bG 2 _ iO M27 Z Z Z Z Z (aS Z) Z (fun w28 M28=>(aB (aC (aO (eQ 2 iO M28 Z Z Z ?_))))))))))))))))
        exact ⟨qd,⟨none,0,0,(none,default)⟩,by rw [aOz h64];rfl,by rw [aOz h64];exact (by unfold pI;rw [if_pos h75];exact hqd),by rw [aOz h64];exact aZ.nil _ _ _,(M28.keep [false,false,false,false,true]).dummy default⟩
       ·refine aM (cR (aC (aE (aA (wq (aX 3 iO M26 Z Z Z) Z (bG 2 _ iO M26 Z Z Z Z Z (aS Z) Z (fun w29 M29=>(aB (aC (aO (eQ 2 iO M29 Z Z Z ?_)))))))))))
        exact ⟨q0,⟨none,0,0,(none,default)⟩,by rw [aOz h64];rfl,by rw [aOz h64];exact (by unfold pI;rw [if_neg h75];exact hq0),by rw [aOz h64];exact aZ.nil _ _ _,(M29.keep [true,false,false,false,false]).dummy default⟩
      ·refine aE (aA (cX Z Z Z Z (wq (aJ (.bool (decide _)) Z) Z (aB (aC ?_)))))
       refine aU Z (fun h78 => ?_) (fun h78 => ?_)
       ·refine aE (aA (dK Z Z (wq (aD 11 aMj Z) Z (wq (aK 1 (.int _ _) bV M4 Z Z Z) Z (dN tG Z Z M4 (iD _ o.key _ _ _ s (hq0.rd M4 (bA (i:=0) Z))) (fun w30 M30=>(bK Z Z (aB (aC (aE (aA (aQ Z Z (cX Z Z Z Z (aB (aC ?_)))))))))))))))
        refine aU Z (fun h85 => ?_) (fun h85 => ?_)
        ·refine aA (wq (aD 1 vS Z) Z (dA 3 (.int _ _) fT M30 Z Z Z Z Z Z (fun w31 M31=>(aB (cR (aC (aE (aA (wq (aX 3 iO M31 Z Z Z) Z (bG 2 _ iO M31 Z Z Z Z Z (aS Z) Z (fun w32 M32=>(aB (aC (aO (eQ 2 iO M32 Z Z Z ?_)))))))))))))))
         exact ⟨q0,⟨none,0,0,(none,default)⟩,by rw [aSp h78,aAy h85];rfl,by rw [aSp h78,aAy h85];exact hq0,by rw [aSp h78,aAy h85];exact aZ.nil _ _ _,(M32.keep [true,false,false,false]).dummy default⟩
        ·obtain ⟨i,bb,hbi,_,hfi⟩:=(eO o.key s).resolve_left (fun h=>h85 (by omega))
         refine aA (dK Z Z (aQ Z Z (wq (bJ (i) dP Z Z hfi ((hq0.rd M30 (bA (i:=0) Z)).below_len (aG aF hbi)) ((hq0.rd M30 (bA (i:=0) Z)).someK (aG aF hbi))) Z (wq (dW _ bQ (hq0.rd M30 (bA (i:=0) Z)) (aG aF hbi) Z) Z (wq (aD 2 bJf Z) Z (vB 3 _ bQ M30 Z Z Z Z Z (aS Z) (Nat.le_of_ble_eq_true Z) (fun w33 M33=>(aB (cR (aC (aE (aA (wq (aX 3 iO M33 Z Z Z) Z (bG 2 _ iO M33 Z Z Z Z Z (aS Z) Z (fun w34 M34=>(aB (aC (aO ?_))))))))))))))))))
         refine eQ 2 iO M34 Z Z Z ?_
         exact ⟨q0,⟨none,0,0,(none,default)⟩,by rw [aSp h78,aAz hfi hbi];rfl,by rw [aSp h78,aAz hfi hbi];exact hq0,by rw [aSp h78,aAz hfi hbi];exact aZ.nil _ _ _,(M34.keep [true,false,false,false]).dummy default⟩
       ·refine aM (cR (aC (aE (aA (wq (aX 3 iO M4 Z Z Z) Z (bG 2 _ iO M4 Z Z Z Z Z (aS Z) Z (fun w35 M35=>(aB (aC (aO (eQ 2 iO M35 Z Z Z ?_)))))))))))
        exact ⟨q0,⟨none,0,0,(none,default)⟩,by rw [bJc h13 h24 h35 h48 h59 h64 h78];rfl,by rw [bJc h13 h24 h35 h48 h59 h64 h78];exact hq0,by rw [bJc h13 h24 h35 h48 h59 h64 h78];exact aZ.nil _ _ _,(M35.keep [true,false,false,false]).dummy default⟩
theorem bEg (w:World) :
  Calls prog 46 #[(.func (.func 47) #[] #[]:Value),(.func (.func 48) #[] #[]:Value)] w (gH (fun v w'=>∃ fa ga:Nat,v=(.func (.func 75) #[] #[.pointer (some ⟨fa,0,none⟩),.pointer (some ⟨ga,0,none⟩)]:Value)∧Mem w [] [(some fa,bc [(.func (.func 47) #[] #[]:Value)] 111),(some ga,bc [(.func (.func 48) #[] #[]:Value)] 113)] w')):=by
 refine aI #[.tmp 4] 6 func46 Z results46 ntmps46 Z ?_
 have M0:=Mem.refl w
 refine aE (aA (bN (.func _ _ _) M0 Z Z Z (fun b1 w1 M1=>(bN (.func _ _ _) M1 Z Z Z (fun b2 w2 M2=>(wq (aJ (_) Z) Z (aB (aC (aE (aA (wq (dU [] [.pointer _,.pointer _] Z Z) Z (wq (aJ (.func _ _ _) Z) Z (aB (aC (aO (cI (.func _ _ _) Z ?_))))))))))))))))
 exact ⟨_,_,Z,M2⟩
theorem aPd (w:World) :
  Calls prog 49 #[(.func (.func 50) #[] #[]:Value),(.func (.func 51) #[] #[]:Value)] w (gH (fun v w'=>∃ fa ga:Nat,v=(.func (.func 76) #[] #[.pointer (some ⟨fa,0,none⟩),.pointer (some ⟨ga,0,none⟩)]:Value)∧Mem w [] [(some fa,bc [(.func (.func 50) #[] #[]:Value)] 115),(some ga,bc [(.func (.func 51) #[] #[]:Value)] 117)] w')):=by
 refine aI #[.tmp 4] 6 func49 Z results49 ntmps49 Z ?_
 have M0:=Mem.refl w
 refine aE (aA (bN (.func _ _ _) M0 Z Z Z (fun b1 w1 M1=>(bN (.func _ _ _) M1 Z Z Z (fun b2 w2 M2=>(wq (aJ (_) Z) Z (aB (aC (aE (aA (wq (dU [] [.pointer _,.pointer _] Z Z) Z (wq (aJ (.func _ _ _) Z) Z (aB (aC (aO (cI (.func _ _ _) Z ?_))))))))))))))))
 exact ⟨_,_,Z,M2⟩
theorem aMf (w:World) :
  Calls prog 52 #[(.func (.func 31) #[] #[]:Value),(.func (.func 53) #[] #[]:Value)] w (gH (fun v w'=>∃ fa ga:Nat,v=(.func (.func 78) #[] #[.pointer (some ⟨fa,0,none⟩),.pointer (some ⟨ga,0,none⟩)]:Value)∧Mem w [] [(some fa,bc [(.func (.func 31) #[] #[]:Value)] 119),(some ga,bc [(.func (.func 53) #[] #[]:Value)] 120)] w')):=by
 refine aI #[.tmp 4] 6 func52 Z results52 ntmps52 Z ?_
 have M0:=Mem.refl w
 refine aE (aA (bN (.func _ _ _) M0 Z Z Z (fun b1 w1 M1=>(bN (.func _ _ _) M1 Z Z Z (fun b2 w2 M2=>(wq (aJ (_) Z) Z (aB (aC (aE (aA (wq (dU [] [.pointer _,.pointer _] Z Z) Z (wq (aJ (.func _ _ _) Z) Z (aB (aC (aO (cI (.func _ _ _) Z ?_))))))))))))))))
 exact ⟨_,_,Z,M2⟩
theorem bRm (w:World) (o:OpI) (BA:Option Addr) (nn cc:Nat) :
  Calls prog 48 #[.agg (dR o BA nn cc).toArray] w (Rb w ((.agg (aF o.body).toArray))):=by
 refine aI #[.cell 2 43] 5 func48 Z results48 ntmps48 Z ?_
 have M0:=Mem.refl w
 refine aE (aA (bN (.agg (.mk _)) M0 Z Z Z (fun b1 w1 M1=>(aR fV M1 Z Z (fun b2 w2 M2=>(aB (aC (aE (aA (wq (aD 1 aWe Z) Z (wq (qZ 0 _ bQ M2 Z Z Z Z) Z (bG 1 _ bQ M2 Z Z Z Z Z (aS Z) Z (fun w3 M3=>(aB (aC (aO (eQ 1 bQ M3 Z Z Z ?_)))))))))))))))))
 exact ⟨Z,M3.below⟩
theorem bRn (w:World) (o:OpI) (BA:Option Addr) (nn cc:Nat) :
  Calls prog 51 #[.agg (dR o BA nn cc).toArray] w (Rb w (.int .u32 o.key)):=by
 refine aI #[.tmp 2] 5 func51 Z results51 ntmps51 Z ?_
 have M0:=Mem.refl w
 refine aE (aA (bN (.agg (.mk _)) M0 Z Z Z (fun b1 w1 M1=>(bK Z Z (aB (aC (aE (aA (wq (aD 11 aMi Z) Z (wq (aK 0 (.int _ _) bV M1 Z Z Z) Z (bK Z Z (aB (aC (aO (cI (.int _ _) Z ?_)))))))))))))))
 exact ⟨Z,M1.below⟩
theorem bRo (w:World) (o:OpI) (BA:Option Addr) (nn cc:Nat) :
  Calls prog 53 #[.agg (dR o BA nn cc).toArray] w (Rb w (.slice BA nn cc)):=by
 refine aI #[.tmp 2] 5 func53 Z results53 ntmps53 Z ?_
 have M0:=Mem.refl w
 refine aE (aA (bN (.agg (.mk _)) M0 Z Z Z (fun b1 w1 M1=>(eH Z Z (aB (aC (aE (aA (wq (aD 14 qR Z) Z (wq (aK 0 (.slice _ _ _) kC M1 Z Z Z) Z (eH Z Z (aB (aC (aO (cI (.slice _ _ _) Z ?_)))))))))))))))
 exact ⟨Z,M1.below⟩
def sQ (f1 g1 f2 g2 f3 g3:Nat) (k:Int):Option Value:=if k=5 then some (.func (.func 58) #[] #[]:Value) else if k=4 then some (.func (.func 56) #[] #[]:Value) else if k=3 then some (.func (.func 54) #[] #[]:Value) else if k=6 then some (.func (.func 78) #[] #[.pointer (some ⟨f3,0,none⟩),.pointer (some ⟨g3,0,none⟩)]:Value) else if k=2 then some (.func (.func 76) #[] #[.pointer (some ⟨f2,0,none⟩),.pointer (some ⟨g2,0,none⟩)]:Value) else if k=1 then some (.func (.func 75) #[] #[.pointer (some ⟨f1,0,none⟩),.pointer (some ⟨g1,0,none⟩)]:Value) else none
theorem bEw {f1 g1 f2 g2 f3 g3:Nat} {k:Int} (h:k=1):sQ f1 g1 f2 g2 f3 g3 k=some (.func (.func 75) #[] #[.pointer (some ⟨f1,0,none⟩),.pointer (some ⟨g1,0,none⟩)]:Value):=by subst h;rfl
theorem bEx {f1 g1 f2 g2 f3 g3:Nat} {k:Int} (h:k=2):sQ f1 g1 f2 g2 f3 g3 k=some (.func (.func 76) #[] #[.pointer (some ⟨f2,0,none⟩),.pointer (some ⟨g2,0,none⟩)]:Value):=by subst h;rfl
theorem bFb {f1 g1 f2 g2 f3 g3:Nat} {k:Int} (h:k=6):sQ f1 g1 f2 g2 f3 g3 k=some (.func (.func 78) #[] #[.pointer (some ⟨f3,0,none⟩),.pointer (some ⟨g3,0,none⟩)]:Value):=by subst h;rfl
theorem bEy {f1 g1 f2 g2 f3 g3:Nat} {k:Int} (h:k=3):sQ f1 g1 f2 g2 f3 g3 k=some (.func (.func 54) #[] #[]:Value):=by subst h;rfl
theorem bEz {f1 g1 f2 g2 f3 g3:Nat} {k:Int} (h:k=4):sQ f1 g1 f2 g2 f3 g3 k=some (.func (.func 56) #[] #[]:Value):=by subst h;rfl
theorem bFa {f1 g1 f2 g2 f3 g3:Nat} {k:Int} (h:k=5):sQ f1 g1 f2 g2 f3 g3 k=some (.func (.func 58) #[] #[]:Value):=by subst h;rfl
theorem bFc {f1 g1 f2 g2 f3 g3:Nat} {k:Int} (h:k < 1∨6 < k):sQ f1 g1 f2 g2 f3 g3 k=none:=by unfold sQ;rw [if_neg (by omega),if_neg (by omega),if_neg (by omega),if_neg (by omega),if_neg (by omega),if_neg (by omega)]
theorem kG (w:World) :
  Calls prog 37 #[] w (gH (fun v w'=>∃ (p:Option Nat) (e:eL) (f1 g1 f2 g2 f3 g3:Nat),v=.map p∧kT .i64 (fun v:Value=>v) (sQ f1 g1 f2 g2 f3 g3) p e∧Mem w [] [e,(some f1,bc [(.func (.func 47) #[] #[]:Value)] 111),(some g1,bc [(.func (.func 48) #[] #[]:Value)] 113),(some f2,bc [(.func (.func 50) #[] #[]:Value)] 115),(some g2,bc [(.func (.func 51) #[] #[]:Value)] 117),(some f3,bc [(.func (.func 31) #[] #[]:Value)] 119),(some g3,bc [(.func (.func 53) #[] #[]:Value)] 120)] w')):=by
 refine aI #[.tmp 0] 6 func37 Z results37 ntmps37 Z ?_
 have M0:=Mem.refl w
 refine aE (aA (wq (aJ (.map _) Z) Z (aB (aC (aE (aA (nS M0 Z Z (fun b1 w1 M1=>(eP bTt Z Z (bEg _) ?_)))))))))
 rintro v2 w2 ⟨f1,g1,rfl,hM2⟩
 have M2:Mem _ _ [_,_,_] _:=M1.call0 hM2
 refine pW (enc:=(fun v:Value=>v)) (v:=(.func _ _ _)) 0 sC M2 Z Z (kT.empty _ _ b1) Z Z Z Z (fun e3 w3 hm3 M3=>(eP bTw Z Z (aPd _) ?_))
 rintro v4 w4 ⟨f2,g2,rfl,hM4⟩
 have M4:Mem _ _ [_,_,_,_,_] _:=M3.call0 hM4
 refine pW (enc:=(fun v:Value=>v)) (v:=(.func _ _ _)) 0 sC M4 Z Z hm3 Z Z Z Z (fun e5 w5 hm5 M5=>(eP bUa Z Z (aMf _) ?_))
 rintro v6 w6 ⟨f3,g3,rfl,hM6⟩
 have M6:Mem _ _ [_,_,_,_,_,_,_] _:=M5.call0 hM6
 refine pW (enc:=(fun v:Value=>v)) (v:=(.func _ _ _)) 0 sC M6 Z Z hm5 Z Z Z Z (fun e7 w7 hm7 M7=>(pW (enc:=(fun v:Value=>v)) (v:=(.func _ _ _)) 0 sC M7 Z Z hm7 Z Z Z Z (fun e8 w8 hm8 M8=>(pW (enc:=(fun v:Value=>v)) (v:=(.func _ _ _)) 0 sC M8 Z Z hm8 Z Z Z Z (fun e9 w9 hm9 M9=>(pW (enc:=(fun v:Value=>v)) (v:=(.func _ _ _)) 0 sC M9 Z Z hm9 Z Z Z Z (fun e10 w10 hm10 M10=>(wq (aH (.map _) Z) Z (wq (aJ (.map _) Z) Z (aB (aC (aO (cI (.map _) Z ?_)))))))))))))
 exact ⟨_,_,f1,g1,f2,g2,f3,g3,Z,hm10,M10⟩
theorem bFj (w:World) (b:Nat) (r:StV) (vs:List Body) (hW:dB 43 r vs) (fa ga:Nat) (hO:Own [(some b,bc [.slice r.A r.n r.c,.map r.p] 73),r.er,r.em,(some fa,bc [(.func (.func 47) #[] #[]:Value)] 111),(some ga,bc [(.func (.func 48) #[] #[]:Value)] 113)] w) (o:OpI) (BA:Option Addr) (nn cc:Nat) (hP:OpOk w o BA nn cc) (hnn:nn≤1000000) (hdB:0 < nn→∀ q off,BA=some ⟨q,off,none⟩→q∉bY [(some b,bc [.slice r.A r.n r.c,.map r.p] 73),r.er,r.em,(some fa,bc [(.func (.func 47) #[] #[]:Value)] 111),(some ga,bc [(.func (.func 48) #[] #[]:Value)] 113)]) :
  Calls prog 75 #[.pointer (some ⟨b,0,none⟩),.agg (dR o BA nn cc).toArray,.pointer (some ⟨fa,0,none⟩),.pointer (some ⟨ga,0,none⟩)] w (gH (fun v w'=>∃ r':StV,v=.agg [.int .i64 (oU vs o.body).2,.slice none 0 0,.int .i64 0,.bool false].toArray∧dB 43 r' ((oU vs o.body).1)∧Mem w (bY [(some b,bc [.slice r.A r.n r.c,.map r.p] 73),r.er,r.em,(some fa,bc [(.func (.func 47) #[] #[]:Value)] 111),(some ga,bc [(.func (.func 48) #[] #[]:Value)] 113)]) [(some b,bc [.slice r'.A r'.n r'.c,.map r'.p] 73),r'.er,r'.em,(some fa,bc [(.func (.func 47) #[] #[]:Value)] 111),(some ga,bc [(.func (.func 48) #[] #[]:Value)] 113)] w')):=by
 have hG:=hW.1
 have hbl:=hP.len
 refine aI #[.cell 6 36] 14 func75 Z results75 ntmps75 Z ?_
 have M0:=hO.mem
 refine aE (aA (bN (.agg (.mk _)) M0 Z Z Z (fun b1 w1 M1=>(aR lC M1 Z Z (fun b2 w2 M2=>(aB (aC (aE (fW [(0,1),(1,0),(2,1),(3,1),(4,2),(5,2),(6,0),(7,2)] mixed M2 Z (by kernel_rfl) (fun w3 M3=>(bP Z Z Z (aK 3 (.func _ _ _) bFs M3 Z Z Z) (aV Z Z Z (fun _=>aH (.pointer _) Z) (bP Z Z Z (aK 4 (.func _ _ _) bRv M3 Z Z Z) (bP Z Z Z (aX 5 jW M3 Z Z Z) (dI [true,true,false] Z (by kernel_rfl) (dN bTv Z Z M3 (bRm _ o BA nn cc) (fun w4 M4 => ?_)))))))))))))))))
 refine aB (aC ⟨(dS (bI Z (aK 3 (.func _ _ _) bFs M4 Z Z Z)) dJ), ?_⟩)
 refine dI [true] Z (by kernel_rfl) (eP bTu Z Z (bBf _ _ r vs hW (M4.ownSeg 0 3) o.body hP.body) ?_)
 rintro v5 w5 ⟨r2,rfl,hw2,hM5⟩
 have M5:Mem _ _ [_,_,_,_,_,_,_] _:=M4.seg 0 3 hM5
 refine aB (aC ⟨dJ, ?_⟩)
 refine aV Z Z Z (fun _=>cB [(0,.int _ _)] _ qL Z Z) (dI [] Z (by kernel_rfl) (bG 6 _ gT M5 Z Z Z Z Z (aS Z) Z (fun w6 M6 => ?_)))
 refine aB (aC ⟨dJ, ?_⟩)
 refine bS (aC (aO (eQ 6 gT M6 Z Z Z ?_)))
 exact ⟨r2,Z,hw2,M6.keep [true,true,true,true,true,false,false]⟩
theorem aPx (w:World) (b:Nat) (r:StV) (vs:List Body) (hW:dB 43 r vs) (fa ga:Nat) (hO:Own [(some b,bc [.slice r.A r.n r.c,.map r.p] 73),r.er,r.em,(some fa,bc [(.func (.func 50) #[] #[]:Value)] 115),(some ga,bc [(.func (.func 51) #[] #[]:Value)] 117)] w) (o:OpI) (BA:Option Addr) (nn cc:Nat) (hP:OpOk w o BA nn cc) (hnn:nn≤1000000) (hdB:0 < nn→∀ q off,BA=some ⟨q,off,none⟩→q∉bY [(some b,bc [.slice r.A r.n r.c,.map r.p] 73),r.er,r.em,(some fa,bc [(.func (.func 50) #[] #[]:Value)] 115),(some ga,bc [(.func (.func 51) #[] #[]:Value)] 117)]) :
  Calls prog 76 #[.pointer (some ⟨b,0,none⟩),.agg (dR o BA nn cc).toArray,.pointer (some ⟨fa,0,none⟩),.pointer (some ⟨ga,0,none⟩)] w (gH (fun v w'=>∃ r':StV,v=.agg [.int .i64 (iC vs o.key).2,.slice none 0 0,.int .i64 0,.bool false].toArray∧dB 43 r' ((iC vs o.key).1)∧Mem w (bY [(some b,bc [.slice r.A r.n r.c,.map r.p] 73),r.er,r.em,(some fa,bc [(.func (.func 50) #[] #[]:Value)] 115),(some ga,bc [(.func (.func 51) #[] #[]:Value)] 117)]) [(some b,bc [.slice r'.A r'.n r'.c,.map r'.p] 73),r'.er,r'.em,(some fa,bc [(.func (.func 50) #[] #[]:Value)] 115),(some ga,bc [(.func (.func 51) #[] #[]:Value)] 117)] w')):=by
 have hG:=hW.1
 have hbl:=hP.len
 refine aI #[.cell 6 36] 14 func76 Z results76 ntmps76 Z ?_
 have M0:=hO.mem
 refine aE (aA (bN (.agg (.mk _)) M0 Z Z Z (fun b1 w1 M1=>(aR lC M1 Z Z (fun b2 w2 M2=>(aB (aC (aE (fW [(0,1),(1,0),(2,1),(3,1),(4,2),(5,2),(6,0),(7,2)] mixed M2 Z (by kernel_rfl) (fun w3 M3=>(bP Z Z Z (aK 3 (.func _ _ _) bFt M3 Z Z Z) (aV Z Z Z (fun _=>aH (.pointer _) Z) (bP Z Z Z (aK 4 (.func _ _ _) bRw M3 Z Z Z) (bP Z Z Z (aX 5 jW M3 Z Z Z) (dI [true,true,false] Z (by kernel_rfl) (dN bTz Z Z M3 (bRn _ o BA nn cc) (fun w4 M4 => ?_)))))))))))))))))
 refine aB (aC ⟨(dS (bI Z (aK 3 (.func _ _ _) bFt M4 Z Z Z)) dJ), ?_⟩)
 refine dI [true] Z (by kernel_rfl) (eP bTy Z Z (aNp _ _ r vs hW (M4.ownSeg 0 3) o.key) ?_)
 rintro v5 w5 ⟨r2,rfl,hw2,hM5⟩
 have M5:Mem _ _ [_,_,_,_,_,_,_] _:=M4.seg 0 3 hM5
 refine aB (aC ⟨dJ, ?_⟩)
 refine aV Z Z Z (fun _=>cB [(0,.int _ _)] _ qL Z Z) (dI [] Z (by kernel_rfl) (bG 6 _ gT M5 Z Z Z Z Z (aS Z) Z (fun w6 M6 => ?_)))
 refine aB (aC ⟨dJ, ?_⟩)
 refine bS (aC (aO (eQ 6 gT M6 Z Z Z ?_)))
 exact ⟨r2,Z,hw2,M6.keep [true,true,true,true,true,false,false]⟩
theorem aMp (w:World) (b:Nat) (r:StV) (vs:List Body) (hW:dB 43 r vs) (fa ga:Nat) (hO:Own [(some b,bc [.slice r.A r.n r.c,.map r.p] 73),r.er,r.em,(some fa,bc [(.func (.func 31) #[] #[]:Value)] 119),(some ga,bc [(.func (.func 53) #[] #[]:Value)] 120)] w) (o:OpI) (BA:Option Addr) (nn cc:Nat) (hP:OpOk w o BA nn cc) (hnn:nn≤1000000) (hdB:0 < nn→∀ q off,BA=some ⟨q,off,none⟩→q∉bY [(some b,bc [.slice r.A r.n r.c,.map r.p] 73),r.er,r.em,(some fa,bc [(.func (.func 31) #[] #[]:Value)] 119),(some ga,bc [(.func (.func 53) #[] #[]:Value)] 120)]) :
  Calls prog 78 #[.pointer (some ⟨b,0,none⟩),.agg (dR o BA nn cc).toArray,.pointer (some ⟨fa,0,none⟩),.pointer (some ⟨ga,0,none⟩)] w (gH (fun v w'=>∃ r':StV,v=.agg [.int .i64 (nJ o.bytes).2,.slice none 0 0,.int .i64 0,.bool false].toArray∧dB 43 r' (pI vs o.bytes)∧Mem w (bY [(some b,bc [.slice r.A r.n r.c,.map r.p] 73),r.er,r.em,(some fa,bc [(.func (.func 31) #[] #[]:Value)] 119),(some ga,bc [(.func (.func 53) #[] #[]:Value)] 120)]) [(some b,bc [.slice r'.A r'.n r'.c,.map r'.p] 73),r'.er,r'.em,(some fa,bc [(.func (.func 31) #[] #[]:Value)] 119),(some ga,bc [(.func (.func 53) #[] #[]:Value)] 120)] w')):=by
 have hG:=hW.1
 have hbl:=hP.len
 refine aI #[.cell 6 36] 14 func78 Z results78 ntmps78 Z ?_
 have M0:=hO.mem
 refine aE (aA (bN (.agg (.mk _)) M0 Z Z Z (fun b1 w1 M1=>(aR lC M1 Z Z (fun b2 w2 M2=>(aB (aC (aE (fW [(0,1),(1,0),(2,1),(3,1),(4,2),(5,2),(6,0),(7,2)] mixed M2 Z (by kernel_rfl) (fun w3 M3=>(bP Z Z Z (aK 3 (.func _ _ _) bFu M3 Z Z Z) (aV Z Z Z (fun _=>aH (.pointer _) Z) (bP Z Z Z (aK 4 (.func _ _ _) bRx M3 Z Z Z) (bP Z Z Z (aX 5 jW M3 Z Z Z) (dI [true,true,false] Z (by kernel_rfl) (dN bUb Z Z M3 (bRo _ o BA nn cc) (fun w4 M4 => ?_)))))))))))))))))
 refine aB (aC ⟨(dS (bI Z (aK 3 (.func _ _ _) bFu M4 Z Z Z)) dJ), ?_⟩)
 refine dI [true] Z (by kernel_rfl) (eP bMs Z Z (xG _ _ r vs hW (M4.ownSeg 0 3) BA nn cc o.bytes (hP.rd.memY M4 hdB) hP.byt hP.cap hnn (M4.away 0 3 hP.rd hdB)) ?_)
 rintro v5 w5 ⟨r2,rfl,hw2,hM5⟩
 have M5:Mem _ _ [_,_,_,_,_,_,_] _:=M4.seg 0 3 hM5
 refine aB (aC ⟨dJ, ?_⟩)
 refine aV Z Z Z (fun _=>cB [(0,.int _ _)] _ qL Z Z) (dI [] Z (by kernel_rfl) (bG 6 _ gT M5 Z Z Z Z Z (aS Z) Z (fun w6 M6 => ?_)))
 refine aB (aC ⟨dJ, ?_⟩)
 refine bS (aC (aO (eQ 6 gT M6 Z Z Z ?_)))
 exact ⟨r2,Z,hw2,M6.keep [true,true,true,true,true,false,false]⟩
theorem aMo (w:World)  (b:Nat) (r:StV) (vs:List Body) (hW:dB 43 r vs) (hO:Own [(some b,bc [.slice r.A r.n r.c,.map r.p] 73),r.er,r.em] w) (o:OpI) (BA:Option Addr) (nn cc:Nat) (hP:OpOk w o BA nn cc) (hnn:nn≤1000000) (hdB:0 < nn→∀ q off,BA=some ⟨q,off,none⟩→q∉bY [(some b,bc [.slice r.A r.n r.c,.map r.p] 73),r.er,r.em]) (hk:o.kind=3) :
  Calls prog 54 #[.pointer (some ⟨b,0,none⟩),.agg (dR o BA nn cc).toArray] w (gH (fun v w'=>∃ (r':StV) (p:Row),v=.agg (eG (jT vs o).2 p).toArray∧dB 43 r' (jT vs o).1∧aZ 5 1 p.A p.n p.c (((jT vs o).2.bytes).map bB) p.e∧Mem w (bY [(some b,bc [.slice r.A r.n r.c,.map r.p] 73),r.er,r.em]) [(some b,bc [.slice r'.A r'.n r'.c,.map r'.p] 73),r'.er,r'.em,p.e] w')):=by
 have hG:=hW.1
 have hbl:=hP.len
 refine aI #[.cell 4 36] 12 func54 Z results54 ntmps54 Z ?_
 have M0:=hO.mem
 refine aE (aA (bN (.agg (.mk _)) M0 Z Z Z (fun b1 w1 M1=>(aR lC M1 Z Z (fun b2 w2 M2=>(aB (aC (aE (aA (wq (aH (.pointer _) Z) Z (wq (aD 11 aMi Z) Z (wq (aK 3 (.int _ _) bV M2 Z Z Z) Z (wq (aD 12 aWf Z) Z (wq (qZ 3 _ bO M2 Z Z Z Z) Z (eP bUd Z Z (aJj _ _ r vs hW (M2.ownSeg 0 3) o.key o.push hP.p1 hP.p2) ?_)))))))))))))))
 rintro v3 w3 ⟨r2,rfl,hw2,hM3⟩
 have M3:Mem _ _ [_,_,_,_,_] _:=M2.seg 0 3 hM3
 refine wq (cB [(0,.int _ _)] _ qL Z Z) Z (bG 4 _ gT M3 Z Z Z Z Z (aS Z) Z (fun w4 M4=>(aB (aC (aO (eQ 4 gT M4 Z Z Z ?_))))))
 exact ⟨r2,⟨none,0,0,(none,default)⟩,by rw [bSh hk];rfl,by rw [bSh hk];exact hw2,by rw [bSh hk];exact aZ.nil _ _ _,(M4.keep [true,true,true,false,false]).dummy default⟩
theorem aZm (w:World) (F:Rd w 2 (some ⟨0,0,none⟩) 1 [[.int .u32 73856093,.int .u32 19349663]]) (N:Rd w 4 (some ⟨3,0,none⟩) 1 [eC iU]) (b:Nat) (r:StV) (vs:List Body) (hW:dB 43 r vs) (hO:Own [(some b,bc [.slice r.A r.n r.c,.map r.p] 73),r.er,r.em] w) (o:OpI) (BA:Option Addr) (nn cc:Nat) (hP:OpOk w o BA nn cc) (hnn:nn≤1000000) (hdB:0 < nn→∀ q off,BA=some ⟨q,off,none⟩→q∉bY [(some b,bc [.slice r.A r.n r.c,.map r.p] 73),r.er,r.em]) (hdF:0 < 1→∀ q off,(some ⟨0,0,none⟩:Option Addr)=some ⟨q,off,none⟩→q∉bY [(some b,bc [.slice r.A r.n r.c,.map r.p] 73),r.er,r.em]) (hdN:0 < 1→∀ q off,(some ⟨3,0,none⟩:Option Addr)=some ⟨q,off,none⟩→q∉bY [(some b,bc [.slice r.A r.n r.c,.map r.p] 73),r.er,r.em]) (hk:o.kind=4) :
  Calls prog 56 #[.pointer (some ⟨b,0,none⟩),.agg (dR o BA nn cc).toArray] w (gH (fun v w'=>∃ (r':StV) (p:Row),v=.agg (eG (jT vs o).2 p).toArray∧dB 43 r' (jT vs o).1∧aZ 5 1 p.A p.n p.c (((jT vs o).2.bytes).map bB) p.e∧Mem w (bY [(some b,bc [.slice r.A r.n r.c,.map r.p] 73),r.er,r.em]) [(some b,bc [.slice r'.A r'.n r'.c,.map r'.p] 73),r'.er,r'.em,p.e] w')):=by
 have hG:=hW.1
 have hbl:=hP.len
 refine aI #[.cell 4 36] 13 func56 Z results56 ntmps56 Z ?_
 have M0:=hO.mem
 refine aE (aA (bN (.agg (.mk _)) M0 Z Z Z (fun b1 w1 M1=>(aR lC M1 Z Z (fun b2 w2 M2=>(aB (aC (aE (aA (wq (aH (.pointer _) Z) Z (eP bUf Z Z (aUs _ (F.memY M2 hdF) (N.memY M2 hdN) _ r vs hW (M2.ownSeg 0 3) (M2.away 0 3 F hdF) (M2.away 0 3 N hdN)) ?_)))))))))))
 rintro v3 w3 ⟨r2,ts,rfl,hw2,hM3⟩
 have M3:Mem _ _ [_,_,_,_,_] _:=M2.seg 0 3 hM3
 refine aR aEh M3 Z Z (fun b4 w4 M4=>(bG 5 _ tN M4 Z Z Z Z Z (aS Z) Z (fun w5 M5=>(aB (aC (aE (aA (wq (aD 1 aPi Z) Z (wq (aK 5 (.int _ _) fT M5 Z Z Z) Z (wq (aD 2 yQ Z) Z (wq (aK 5 (.bool _) sV M5 Z Z Z) Z (wq (cB [(2,.int _ _),(3,.bool _)] _ qL Z Z) Z (bG 4 _ gT M5 Z Z Z Z Z (aS Z) Z (fun w6 M6=>(aB (aC (aO (eQ 4 gT M6 Z Z Z ?_))))))))))))))))))
 exact ⟨r2,⟨none,0,0,(none,default)⟩,by rw [bGt hk];rfl,by rw [bGt hk];exact hw2,by rw [bGt hk];exact aZ.nil _ _ _,(M6.keep [true,true,true,false,false,false]).dummy default⟩
theorem aIr (w:World)  (b:Nat) (r:StV) (vs:List Body) (hW:dB 43 r vs) (hO:Own [(some b,bc [.slice r.A r.n r.c,.map r.p] 73),r.er,r.em] w) (o:OpI) (BA:Option Addr) (nn cc:Nat) (hP:OpOk w o BA nn cc) (hnn:nn≤1000000) (hdB:0 < nn→∀ q off,BA=some ⟨q,off,none⟩→q∉bY [(some b,bc [.slice r.A r.n r.c,.map r.p] 73),r.er,r.em]) (hk:o.kind=5) :
  Calls prog 58 #[.pointer (some ⟨b,0,none⟩),.agg (dR o BA nn cc).toArray] w (gH (fun v w'=>∃ (r':StV) (p:Row),v=.agg (eG (jT vs o).2 p).toArray∧dB 43 r' (jT vs o).1∧aZ 5 1 p.A p.n p.c (((jT vs o).2.bytes).map bB) p.e∧Mem w (bY [(some b,bc [.slice r.A r.n r.c,.map r.p] 73),r.er,r.em]) [(some b,bc [.slice r'.A r'.n r'.c,.map r'.p] 73),r'.er,r'.em,p.e] w')):=by
 have hG:=hW.1
 have hbl:=hP.len
 refine aI #[.cell 4 36] 8 func58 Z results58 ntmps58 Z ?_
 have M0:=hO.mem
 refine aE (aA (bN (.agg (.mk _)) M0 Z Z Z (fun b1 w1 M1=>(aR lC M1 Z Z (fun b2 w2 M2=>(aB (aC (aE (aA (wq (aH (.pointer _) Z) Z (eP aVm Z Z (nG _ _ r vs hW (M2.ownSeg 0 3)) ?_)))))))))))
 rintro v3 w3 ⟨pb,rfl,hpb,hM3⟩
 have M3:Mem _ _ [_,_,_,_,_,_] _:=M2.seg 0 3 hM3
 refine wq (cB [(1,.slice _ _ _)] _ qL Z Z) Z (bG 4 _ gT M3 Z Z Z Z Z (aS Z) Z (fun w4 M4=>(aB (aC (aO (eQ 4 gT M4 Z Z Z ?_))))))
 exact ⟨r,pb,by rw [bSi hk];rfl,by rw [bSi hk];exact hW,by rw [bSi hk];exact hpb,(M4.keep [true,true,true,false,false,true])⟩
theorem aUe (w:World)  (b:Nat) (r:StV) (vs:List Body) (hW:dB 43 r vs) (hO:Own [(some b,bc [.slice r.A r.n r.c,.map r.p] 73),r.er,r.em] w) (o:OpI) (BA:Option Addr) (nn cc:Nat) (hP:OpOk w o BA nn cc) (hnn:nn≤1000000) (hdB:0 < nn→∀ q off,BA=some ⟨q,off,none⟩→q∉bY [(some b,bc [.slice r.A r.n r.c,.map r.p] 73),r.er,r.em]) (hk:o.kind=1) :
  Calls prog 23 #[.pointer (some ⟨b,0,none⟩),.agg (dR o BA nn cc).toArray] w (gH (fun v w'=>∃ (r':StV) (p:Row),v=.agg (eG (jT vs o).2 p).toArray∧dB 43 r' (jT vs o).1∧aZ 5 1 p.A p.n p.c (((jT vs o).2.bytes).map bB) p.e∧Mem w (bY [(some b,bc [.slice r.A r.n r.c,.map r.p] 73),r.er,r.em]) [(some b,bc [.slice r'.A r'.n r'.c,.map r'.p] 73),r'.er,r'.em,p.e] w')):=by
 have hG:=hW.1
 have hbl:=hP.len
 refine aI #[.cell 4 36] 21 func23 Z results23 ntmps23 Z ?_
 have M0:=hO.mem
 refine aE (aA (bN (.agg (.mk _)) M0 Z Z Z (fun b1 w1 M1=>(aR lC M1 Z Z (fun b2 w2 M2=>(aB (aC (aE (fW [(1,0),(2,1),(0,2),(3,1),(4,0),(5,0),(6,0),(7,0),(8,0)] mixed M2 Z (by kernel_rfl) (fun w3 M3=>(aV Z Z Z (fun _=>aD 0 pL Z) (bP Z Z Z (aK 3 (.int _ _) fT M3 Z Z Z) (dI [false] Z (by kernel_rfl) (eP aEs Z Z (kG _) ?_))))))))))))))
 rintro v4 w4 ⟨pm,em,f1,g1,f2,g2,f3,g3,rfl,hmap,hM4⟩
 have M4:Mem _ _ [_,_,_,_,_,_,_,_,_,_,_,_] _:=M3.call0 hM4
 refine aB (aC ⟨(dS (bI Z (aK 3 (.int _ _) fT M4 Z Z Z)) dJ), ?_⟩)
 refine bP Z Z Z (kX (enc:=(fun v:Value=>v)) .nilFunc 5 sC aVb M4 Z hmap Z Z) (dV 11 (.tuple [(.func (.func 75) #[] #[.pointer (some ⟨f1,0,none⟩),.pointer (some ⟨g1,0,none⟩)]:Value),.bool true].toArray) (pT (bEw hk)) (aV Z Z Z (fun _=>aH (.tuple (List.toArray _)) Z) (aV Z Z Z (fun _=>bM (.func _ _ _) Z Z) (aV Z Z Z (fun _=>bM (.bool true) Z Z) (aV Z Z Z (fun _=>aJ (.func _ _ _) Z) (aV Z Z Z (fun _=>aJ (.bool true) Z) (bS (aC (aE (aE (aA (wq (aH (.bool true) Z) Z ?_))))))))))))
 refine wq (gR false Z Z) Z (aB (aC (cG Z (aM (aC (aE (aA (wq (aH (.func _ _ _) Z) Z (wq (aH (.pointer _) Z) Z (wq (aX 3 jW M4 Z Z Z) Z (eP bUs Z Z (bFj _ _ r vs hW _ _ (M4.ownK [true,true,true,false,false,false,true,true,false,false,false,false]) o BA nn cc (hP.memY M4 hdB) hnn (M4.awayK [true,true,true,false,false,false,true,true,false,false,false,false] hP.rd hdB)) ?_)))))))))))
 rintro v5 w5 ⟨r2,rfl,hw2,hM5⟩
 have M5:Mem _ _ [_,_,_,_,_,_,_,_,_,_,_,_] _:=M4.callK [true,true,true,false,false,false,true,true,false,false,false,false] rfl hM5
 refine bG 6 _ gT M5 Z Z Z Z Z (aS Z) Z (fun w6 M6=>(aB (aC (aO (eQ 6 gT M6 Z Z Z ?_)))))
 exact ⟨r2,⟨none,0,0,(none,default)⟩,by rw [bLd hk];rfl,by rw [bLd hk];exact hw2,by rw [bLd hk];exact aZ.nil _ _ _,(M6.keep [true,true,true,false,false,false,false,false,false,false,false,false]).dummy default⟩
theorem aUf (w:World)  (b:Nat) (r:StV) (vs:List Body) (hW:dB 43 r vs) (hO:Own [(some b,bc [.slice r.A r.n r.c,.map r.p] 73),r.er,r.em] w) (o:OpI) (BA:Option Addr) (nn cc:Nat) (hP:OpOk w o BA nn cc) (hnn:nn≤1000000) (hdB:0 < nn→∀ q off,BA=some ⟨q,off,none⟩→q∉bY [(some b,bc [.slice r.A r.n r.c,.map r.p] 73),r.er,r.em]) (hk:o.kind=2) :
  Calls prog 23 #[.pointer (some ⟨b,0,none⟩),.agg (dR o BA nn cc).toArray] w (gH (fun v w'=>∃ (r':StV) (p:Row),v=.agg (eG (jT vs o).2 p).toArray∧dB 43 r' (jT vs o).1∧aZ 5 1 p.A p.n p.c (((jT vs o).2.bytes).map bB) p.e∧Mem w (bY [(some b,bc [.slice r.A r.n r.c,.map r.p] 73),r.er,r.em]) [(some b,bc [.slice r'.A r'.n r'.c,.map r'.p] 73),r'.er,r'.em,p.e] w')):=by
 have hG:=hW.1
 have hbl:=hP.len
 refine aI #[.cell 4 36] 21 func23 Z results23 ntmps23 Z ?_
 have M0:=hO.mem
 refine aE (aA (bN (.agg (.mk _)) M0 Z Z Z (fun b1 w1 M1=>(aR lC M1 Z Z (fun b2 w2 M2=>(aB (aC (aE (fW [(1,0),(2,1),(0,2),(3,1),(4,0),(5,0),(6,0),(7,0),(8,0)] mixed M2 Z (by kernel_rfl) (fun w3 M3=>(aV Z Z Z (fun _=>aD 0 pL Z) (bP Z Z Z (aK 3 (.int _ _) fT M3 Z Z Z) (dI [false] Z (by kernel_rfl) (eP aEs Z Z (kG _) ?_))))))))))))))
 rintro v4 w4 ⟨pm,em,f1,g1,f2,g2,f3,g3,rfl,hmap,hM4⟩
 have M4:Mem _ _ [_,_,_,_,_,_,_,_,_,_,_,_] _:=M3.call0 hM4
 refine aB (aC ⟨(dS (bI Z (aK 3 (.int _ _) fT M4 Z Z Z)) dJ), ?_⟩)
 refine bP Z Z Z (kX (enc:=(fun v:Value=>v)) .nilFunc 5 sC aVb M4 Z hmap Z Z) (dV 11 (.tuple [(.func (.func 76) #[] #[.pointer (some ⟨f2,0,none⟩),.pointer (some ⟨g2,0,none⟩)]:Value),.bool true].toArray) (pT (bEx hk)) (aV Z Z Z (fun _=>aH (.tuple (List.toArray _)) Z) (aV Z Z Z (fun _=>bM (.func _ _ _) Z Z) (aV Z Z Z (fun _=>bM (.bool true) Z Z) (aV Z Z Z (fun _=>aJ (.func _ _ _) Z) (aV Z Z Z (fun _=>aJ (.bool true) Z) (bS (aC (aE (aE (aA (wq (aH (.bool true) Z) Z ?_))))))))))))
 refine wq (gR false Z Z) Z (aB (aC (cG Z (aM (aC (aE (aA (wq (aH (.func _ _ _) Z) Z (wq (aH (.pointer _) Z) Z (wq (aX 3 jW M4 Z Z Z) Z (eP bUt Z Z (aPx _ _ r vs hW _ _ (M4.ownK [true,true,true,false,false,false,false,false,true,true,false,false]) o BA nn cc (hP.memY M4 hdB) hnn (M4.awayK [true,true,true,false,false,false,false,false,true,true,false,false] hP.rd hdB)) ?_)))))))))))
 rintro v5 w5 ⟨r2,rfl,hw2,hM5⟩
 have M5:Mem _ _ [_,_,_,_,_,_,_,_,_,_,_,_] _:=M4.callK [true,true,true,false,false,false,false,false,true,true,false,false] rfl hM5
 refine bG 6 _ gT M5 Z Z Z Z Z (aS Z) Z (fun w6 M6=>(aB (aC (aO (eQ 6 gT M6 Z Z Z ?_)))))
 exact ⟨r2,⟨none,0,0,(none,default)⟩,by rw [bSg hk];rfl,by rw [bSg hk];exact hw2,by rw [bSg hk];exact aZ.nil _ _ _,(M6.keep [true,true,true,false,false,false,false,false,false,false,false,false]).dummy default⟩
theorem aUj (w:World)  (b:Nat) (r:StV) (vs:List Body) (hW:dB 43 r vs) (hO:Own [(some b,bc [.slice r.A r.n r.c,.map r.p] 73),r.er,r.em] w) (o:OpI) (BA:Option Addr) (nn cc:Nat) (hP:OpOk w o BA nn cc) (hnn:nn≤1000000) (hdB:0 < nn→∀ q off,BA=some ⟨q,off,none⟩→q∉bY [(some b,bc [.slice r.A r.n r.c,.map r.p] 73),r.er,r.em]) (hk:o.kind=6) :
  Calls prog 23 #[.pointer (some ⟨b,0,none⟩),.agg (dR o BA nn cc).toArray] w (gH (fun v w'=>∃ (r':StV) (p:Row),v=.agg (eG (jT vs o).2 p).toArray∧dB 43 r' (jT vs o).1∧aZ 5 1 p.A p.n p.c (((jT vs o).2.bytes).map bB) p.e∧Mem w (bY [(some b,bc [.slice r.A r.n r.c,.map r.p] 73),r.er,r.em]) [(some b,bc [.slice r'.A r'.n r'.c,.map r'.p] 73),r'.er,r'.em,p.e] w')):=by
 have hG:=hW.1
 have hbl:=hP.len
 refine aI #[.cell 4 36] 21 func23 Z results23 ntmps23 Z ?_
 have M0:=hO.mem
 refine aE (aA (bN (.agg (.mk _)) M0 Z Z Z (fun b1 w1 M1=>(aR lC M1 Z Z (fun b2 w2 M2=>(aB (aC (aE (fW [(1,0),(2,1),(0,2),(3,1),(4,0),(5,0),(6,0),(7,0),(8,0)] mixed M2 Z (by kernel_rfl) (fun w3 M3=>(aV Z Z Z (fun _=>aD 0 pL Z) (bP Z Z Z (aK 3 (.int _ _) fT M3 Z Z Z) (dI [false] Z (by kernel_rfl) (eP aEs Z Z (kG _) ?_))))))))))))))
 rintro v4 w4 ⟨pm,em,f1,g1,f2,g2,f3,g3,rfl,hmap,hM4⟩
 have M4:Mem _ _ [_,_,_,_,_,_,_,_,_,_,_,_] _:=M3.call0 hM4
 refine aB (aC ⟨(dS (bI Z (aK 3 (.int _ _) fT M4 Z Z Z)) dJ), ?_⟩)
 refine bP Z Z Z (kX (enc:=(fun v:Value=>v)) .nilFunc 5 sC aVb M4 Z hmap Z Z) (dV 11 (.tuple [(.func (.func 78) #[] #[.pointer (some ⟨f3,0,none⟩),.pointer (some ⟨g3,0,none⟩)]:Value),.bool true].toArray) (pT (bFb hk)) (aV Z Z Z (fun _=>aH (.tuple (List.toArray _)) Z) (aV Z Z Z (fun _=>bM (.func _ _ _) Z Z) (aV Z Z Z (fun _=>bM (.bool true) Z Z) (aV Z Z Z (fun _=>aJ (.func _ _ _) Z) (aV Z Z Z (fun _=>aJ (.bool true) Z) (bS (aC (aE (aE (aA (wq (aH (.bool true) Z) Z ?_))))))))))))
 refine wq (gR false Z Z) Z (aB (aC (cG Z (aM (aC (aE (aA (wq (aH (.func _ _ _) Z) Z (wq (aH (.pointer _) Z) Z (wq (aX 3 jW M4 Z Z Z) Z (eP bUv Z Z (aMp _ _ r vs hW _ _ (M4.ownK [true,true,true,false,false,false,false,false,false,false,true,true]) o BA nn cc (hP.memY M4 hdB) hnn (M4.awayK [true,true,true,false,false,false,false,false,false,false,true,true] hP.rd hdB)) ?_)))))))))))
 rintro v5 w5 ⟨r2,rfl,hw2,hM5⟩
 have M5:Mem _ _ [_,_,_,_,_,_,_,_,_,_,_,_] _:=M4.callK [true,true,true,false,false,false,false,false,false,false,true,true] rfl hM5
 refine bG 6 _ gT M5 Z Z Z Z Z (aS Z) Z (fun w6 M6=>(aB (aC (aO (eQ 6 gT M6 Z Z Z ?_)))))
 exact ⟨r2,⟨none,0,0,(none,default)⟩,by rw [bSj hk];rfl,by rw [bSj hk];exact hw2,by rw [bSj hk];exact aZ.nil _ _ _,(M6.keep [true,true,true,false,false,false,false,false,false,false,false,false]).dummy default⟩
theorem aUg (w:World)  (b:Nat) (r:StV) (vs:List Body) (hW:dB 43 r vs) (hO:Own [(some b,bc [.slice r.A r.n r.c,.map r.p] 73),r.er,r.em] w) (o:OpI) (BA:Option Addr) (nn cc:Nat) (hP:OpOk w o BA nn cc) (hnn:nn≤1000000) (hdB:0 < nn→∀ q off,BA=some ⟨q,off,none⟩→q∉bY [(some b,bc [.slice r.A r.n r.c,.map r.p] 73),r.er,r.em]) (hk:o.kind=3) :
  Calls prog 23 #[.pointer (some ⟨b,0,none⟩),.agg (dR o BA nn cc).toArray] w (gH (fun v w'=>∃ (r':StV) (p:Row),v=.agg (eG (jT vs o).2 p).toArray∧dB 43 r' (jT vs o).1∧aZ 5 1 p.A p.n p.c (((jT vs o).2.bytes).map bB) p.e∧Mem w (bY [(some b,bc [.slice r.A r.n r.c,.map r.p] 73),r.er,r.em]) [(some b,bc [.slice r'.A r'.n r'.c,.map r'.p] 73),r'.er,r'.em,p.e] w')):=by
 have hG:=hW.1
 have hbl:=hP.len
 refine aI #[.cell 4 36] 21 func23 Z results23 ntmps23 Z ?_
 have M0:=hO.mem
 refine aE (aA (bN (.agg (.mk _)) M0 Z Z Z (fun b1 w1 M1=>(aR lC M1 Z Z (fun b2 w2 M2=>(aB (aC (aE (fW [(1,0),(2,1),(0,2),(3,1),(4,0),(5,0),(6,0),(7,0),(8,0)] mixed M2 Z (by kernel_rfl) (fun w3 M3=>(aV Z Z Z (fun _=>aD 0 pL Z) (bP Z Z Z (aK 3 (.int _ _) fT M3 Z Z Z) (dI [false] Z (by kernel_rfl) (eP aEs Z Z (kG _) ?_))))))))))))))
 rintro v4 w4 ⟨pm,em,f1,g1,f2,g2,f3,g3,rfl,hmap,hM4⟩
 have M4:Mem _ _ [_,_,_,_,_,_,_,_,_,_,_,_] _:=M3.call0 hM4
 refine aB (aC ⟨(dS (bI Z (aK 3 (.int _ _) fT M4 Z Z Z)) dJ), ?_⟩)
 refine bP Z Z Z (kX (enc:=(fun v:Value=>v)) .nilFunc 5 sC aVb M4 Z hmap Z Z) (dV 11 (.tuple [(.func (.func 54) #[] #[]:Value),.bool true].toArray) (pT (bEy hk)) (aV Z Z Z (fun _=>aH (.tuple (List.toArray _)) Z) (aV Z Z Z (fun _=>bM (.func _ _ _) Z Z) (aV Z Z Z (fun _=>bM (.bool true) Z Z) (aV Z Z Z (fun _=>aJ (.func _ _ _) Z) (aV Z Z Z (fun _=>aJ (.bool true) Z) (bS (aC (aE (aE (aA (wq (aH (.bool true) Z) Z (wq (gR false Z Z) Z (aB (aC ?_)))))))))))))))
 refine cG Z (aM (aC (aE (aA (wq (aH (.func _ _ _) Z) Z (wq (aH (.pointer _) Z) Z (wq (aX 3 jW M4 Z Z Z) Z (eP bUc Z Z (aMo _ _ r vs hW (M4.ownSeg 0 3) o BA nn cc (hP.memY M4 hdB) hnn (M4.away 0 3 hP.rd hdB)  hk) ?_))))))))
 rintro v5 w5 ⟨r2,p2,rfl,hw2,hp2,hM5⟩
 have M5:Mem _ _ [_,_,_,_,_,_,_,_,_,_,_,_,_] _:=M4.seg 0 3 hM5
 refine bG 4 _ gT M5 Z Z Z Z Z (aS Z) Z (fun w6 M6=>(aB (aC (aO (eQ 4 gT M6 Z Z Z ?_)))))
 exact ⟨r2,p2,Z,hw2,hp2,M6.keep [true,true,true,false,false,false,false,false,false,false,false,false,true]⟩
theorem aUh (w:World) (F:Rd w 2 (some ⟨0,0,none⟩) 1 [[.int .u32 73856093,.int .u32 19349663]]) (N:Rd w 4 (some ⟨3,0,none⟩) 1 [eC iU]) (b:Nat) (r:StV) (vs:List Body) (hW:dB 43 r vs) (hO:Own [(some b,bc [.slice r.A r.n r.c,.map r.p] 73),r.er,r.em] w) (o:OpI) (BA:Option Addr) (nn cc:Nat) (hP:OpOk w o BA nn cc) (hnn:nn≤1000000) (hdB:0 < nn→∀ q off,BA=some ⟨q,off,none⟩→q∉bY [(some b,bc [.slice r.A r.n r.c,.map r.p] 73),r.er,r.em]) (hdF:0 < 1→∀ q off,(some ⟨0,0,none⟩:Option Addr)=some ⟨q,off,none⟩→q∉bY [(some b,bc [.slice r.A r.n r.c,.map r.p] 73),r.er,r.em]) (hdN:0 < 1→∀ q off,(some ⟨3,0,none⟩:Option Addr)=some ⟨q,off,none⟩→q∉bY [(some b,bc [.slice r.A r.n r.c,.map r.p] 73),r.er,r.em]) (hk:o.kind=4) :
  Calls prog 23 #[.pointer (some ⟨b,0,none⟩),.agg (dR o BA nn cc).toArray] w (gH (fun v w'=>∃ (r':StV) (p:Row),v=.agg (eG (jT vs o).2 p).toArray∧dB 43 r' (jT vs o).1∧aZ 5 1 p.A p.n p.c (((jT vs o).2.bytes).map bB) p.e∧Mem w (bY [(some b,bc [.slice r.A r.n r.c,.map r.p] 73),r.er,r.em]) [(some b,bc [.slice r'.A r'.n r'.c,.map r'.p] 73),r'.er,r'.em,p.e] w')):=by
 have hG:=hW.1
 have hbl:=hP.len
 refine aI #[.cell 4 36] 21 func23 Z results23 ntmps23 Z ?_
 have M0:=hO.mem
 refine aE (aA (bN (.agg (.mk _)) M0 Z Z Z (fun b1 w1 M1=>(aR lC M1 Z Z (fun b2 w2 M2=>(aB (aC (aE (fW [(1,0),(2,1),(0,2),(3,1),(4,0),(5,0),(6,0),(7,0),(8,0)] mixed M2 Z (by kernel_rfl) (fun w3 M3=>(aV Z Z Z (fun _=>aD 0 pL Z) (bP Z Z Z (aK 3 (.int _ _) fT M3 Z Z Z) (dI [false] Z (by kernel_rfl) (eP aEs Z Z (kG _) ?_))))))))))))))
 rintro v4 w4 ⟨pm,em,f1,g1,f2,g2,f3,g3,rfl,hmap,hM4⟩
 have M4:Mem _ _ [_,_,_,_,_,_,_,_,_,_,_,_] _:=M3.call0 hM4
 refine aB (aC ⟨(dS (bI Z (aK 3 (.int _ _) fT M4 Z Z Z)) dJ), ?_⟩)
 refine bP Z Z Z (kX (enc:=(fun v:Value=>v)) .nilFunc 5 sC aVb M4 Z hmap Z Z) (dV 11 (.tuple [(.func (.func 56) #[] #[]:Value),.bool true].toArray) (pT (bEz hk)) (aV Z Z Z (fun _=>aH (.tuple (List.toArray _)) Z) (aV Z Z Z (fun _=>bM (.func _ _ _) Z Z) (aV Z Z Z (fun _=>bM (.bool true) Z Z) (aV Z Z Z (fun _=>aJ (.func _ _ _) Z) (aV Z Z Z (fun _=>aJ (.bool true) Z) (bS (aC (aE (aE (aA (wq (aH (.bool true) Z) Z (wq (gR false Z Z) Z (aB (aC ?_)))))))))))))))
 refine cG Z (aM (aC (aE (aA (wq (aH (.func _ _ _) Z) Z (wq (aH (.pointer _) Z) Z (wq (aX 3 jW M4 Z Z Z) Z (eP bUe Z Z (aZm _ (F.memY M4 hdF) (N.memY M4 hdN) _ r vs hW (M4.ownSeg 0 3) o BA nn cc (hP.memY M4 hdB) hnn (M4.away 0 3 hP.rd hdB) (M4.away 0 3 F hdF) (M4.away 0 3 N hdN) hk) ?_))))))))
 rintro v5 w5 ⟨r2,p2,rfl,hw2,hp2,hM5⟩
 have M5:Mem _ _ [_,_,_,_,_,_,_,_,_,_,_,_,_] _:=M4.seg 0 3 hM5
 refine bG 4 _ gT M5 Z Z Z Z Z (aS Z) Z (fun w6 M6=>(aB (aC (aO (eQ 4 gT M6 Z Z Z ?_)))))
 exact ⟨r2,p2,Z,hw2,hp2,M6.keep [true,true,true,false,false,false,false,false,false,false,false,false,true]⟩
theorem aUi (w:World)  (b:Nat) (r:StV) (vs:List Body) (hW:dB 43 r vs) (hO:Own [(some b,bc [.slice r.A r.n r.c,.map r.p] 73),r.er,r.em] w) (o:OpI) (BA:Option Addr) (nn cc:Nat) (hP:OpOk w o BA nn cc) (hnn:nn≤1000000) (hdB:0 < nn→∀ q off,BA=some ⟨q,off,none⟩→q∉bY [(some b,bc [.slice r.A r.n r.c,.map r.p] 73),r.er,r.em]) (hk:o.kind=5) :
  Calls prog 23 #[.pointer (some ⟨b,0,none⟩),.agg (dR o BA nn cc).toArray] w (gH (fun v w'=>∃ (r':StV) (p:Row),v=.agg (eG (jT vs o).2 p).toArray∧dB 43 r' (jT vs o).1∧aZ 5 1 p.A p.n p.c (((jT vs o).2.bytes).map bB) p.e∧Mem w (bY [(some b,bc [.slice r.A r.n r.c,.map r.p] 73),r.er,r.em]) [(some b,bc [.slice r'.A r'.n r'.c,.map r'.p] 73),r'.er,r'.em,p.e] w')):=by
 have hG:=hW.1
 have hbl:=hP.len
 refine aI #[.cell 4 36] 21 func23 Z results23 ntmps23 Z ?_
 have M0:=hO.mem
 refine aE (aA (bN (.agg (.mk _)) M0 Z Z Z (fun b1 w1 M1=>(aR lC M1 Z Z (fun b2 w2 M2=>(aB (aC (aE (fW [(1,0),(2,1),(0,2),(3,1),(4,0),(5,0),(6,0),(7,0),(8,0)] mixed M2 Z (by kernel_rfl) (fun w3 M3=>(aV Z Z Z (fun _=>aD 0 pL Z) (bP Z Z Z (aK 3 (.int _ _) fT M3 Z Z Z) (dI [false] Z (by kernel_rfl) (eP aEs Z Z (kG _) ?_))))))))))))))
 rintro v4 w4 ⟨pm,em,f1,g1,f2,g2,f3,g3,rfl,hmap,hM4⟩
 have M4:Mem _ _ [_,_,_,_,_,_,_,_,_,_,_,_] _:=M3.call0 hM4
 refine aB (aC ⟨(dS (bI Z (aK 3 (.int _ _) fT M4 Z Z Z)) dJ), ?_⟩)
 refine bP Z Z Z (kX (enc:=(fun v:Value=>v)) .nilFunc 5 sC aVb M4 Z hmap Z Z) (dV 11 (.tuple [(.func (.func 58) #[] #[]:Value),.bool true].toArray) (pT (bFa hk)) (aV Z Z Z (fun _=>aH (.tuple (List.toArray _)) Z) (aV Z Z Z (fun _=>bM (.func _ _ _) Z Z) (aV Z Z Z (fun _=>bM (.bool true) Z Z) (aV Z Z Z (fun _=>aJ (.func _ _ _) Z) (aV Z Z Z (fun _=>aJ (.bool true) Z) (bS (aC (aE (aE (aA (wq (aH (.bool true) Z) Z (wq (gR false Z Z) Z (aB (aC ?_)))))))))))))))
 refine cG Z (aM (aC (aE (aA (wq (aH (.func _ _ _) Z) Z (wq (aH (.pointer _) Z) Z (wq (aX 3 jW M4 Z Z Z) Z (eP bUg Z Z (aIr _ _ r vs hW (M4.ownSeg 0 3) o BA nn cc (hP.memY M4 hdB) hnn (M4.away 0 3 hP.rd hdB)  hk) ?_))))))))
 rintro v5 w5 ⟨r2,p2,rfl,hw2,hp2,hM5⟩
 have M5:Mem _ _ [_,_,_,_,_,_,_,_,_,_,_,_,_] _:=M4.seg 0 3 hM5
 refine bG 4 _ gT M5 Z Z Z Z Z (aS Z) Z (fun w6 M6=>(aB (aC (aO (eQ 4 gT M6 Z Z Z ?_)))))
 exact ⟨r2,p2,Z,hw2,hp2,M6.keep [true,true,true,false,false,false,false,false,false,false,false,false,true]⟩
theorem aUd (w:World)  (b:Nat) (r:StV) (vs:List Body) (hW:dB 43 r vs) (hO:Own [(some b,bc [.slice r.A r.n r.c,.map r.p] 73),r.er,r.em] w) (o:OpI) (BA:Option Addr) (nn cc:Nat) (hP:OpOk w o BA nn cc) (hdB:0 < nn→∀ q off,BA=some ⟨q,off,none⟩→q∉bY [(some b,bc [.slice r.A r.n r.c,.map r.p] 73),r.er,r.em]) (hk:o.kind < 1∨6 < o.kind) :
  Calls prog 23 #[.pointer (some ⟨b,0,none⟩),.agg (dR o BA nn cc).toArray] w (gH (fun v w'=>∃ (r':StV) (p:Row),v=.agg (eG (jT vs o).2 p).toArray∧dB 43 r' (jT vs o).1∧aZ 5 1 p.A p.n p.c (((jT vs o).2.bytes).map bB) p.e∧Mem w (bY [(some b,bc [.slice r.A r.n r.c,.map r.p] 73),r.er,r.em]) [(some b,bc [.slice r'.A r'.n r'.c,.map r'.p] 73),r'.er,r'.em,p.e] w')):=by
 have hG:=hW.1
 have hbl:=hP.len
 refine aI #[.cell 4 36] 21 func23 Z results23 ntmps23 Z ?_
 have M0:=hO.mem
 refine aE (aA (bN (.agg (.mk _)) M0 Z Z Z (fun b1 w1 M1=>(aR lC M1 Z Z (fun b2 w2 M2=>(aB (aC (aE (fW [(1,0),(2,1),(0,2),(3,1),(4,0),(5,0),(6,0),(7,0),(8,0)] mixed M2 Z (by kernel_rfl) (fun w3 M3=>(aV Z Z Z (fun _=>aD 0 pL Z) (bP Z Z Z (aK 3 (.int _ _) fT M3 Z Z Z) (dI [false] Z (by kernel_rfl) (eP aEs Z Z (kG _) ?_))))))))))))))
 rintro v4 w4 ⟨pm,em,f1,g1,f2,g2,f3,g3,rfl,hmap,hM4⟩
 have M4:Mem _ _ [_,_,_,_,_,_,_,_,_,_,_,_] _:=M3.call0 hM4
 refine aB (aC ⟨(dS (bI Z (aK 3 (.int _ _) fT M4 Z Z Z)) dJ), ?_⟩)
 refine bP Z Z Z (kX (enc:=(fun v:Value=>v)) .nilFunc 5 sC aVb M4 Z hmap Z Z) (dV 11 (.tuple [(.nilFunc:Value),.bool false].toArray) (aZk (bFc hk)) (aV Z Z Z (fun _=>aH (.tuple (List.toArray _)) Z) (aV Z Z Z (fun _=>bM (_) Z Z) (aV Z Z Z (fun _=>bM (.bool false) Z Z) (aV Z Z Z (fun _=>aJ (_) Z) (aV Z Z Z (fun _=>aJ (.bool false) Z) (bS (aC (aE (aE (aA (wq (aH (.bool false) Z) Z (wq (gR true Z Z) Z (aB (aC (cE Z (aE (aA ?_))))))))))))))))))
 refine wq (cB [(0,.int _ _)] _ qL Z Z) Z (bG 4 _ gT M4 Z Z Z Z Z (aS Z) Z (fun w5 M5=>(aB (aC (aO (cO (eQ 4 gT M5 Z Z Z ?_)))))))
 exact ⟨r,⟨none,0,0,(none,default)⟩,by rw [jO (by omega)];rfl,by rw [jO (by omega)];exact hW,by rw [jO (by omega)];exact aZ.nil _ _ _,(M5.keep [true,true,true,false,false,false,false,false,false,false,false,false]).dummy default⟩
theorem wB (w:World) (F:Rd w 2 (some ⟨0,0,none⟩) 1 [[.int .u32 73856093,.int .u32 19349663]]) (N:Rd w 4 (some ⟨3,0,none⟩) 1 [eC iU]) (b:Nat) (r:StV) (vs:List Body) (hW:dB 43 r vs) (hO:Own [(some b,bc [.slice r.A r.n r.c,.map r.p] 73),r.er,r.em] w) (o:OpI) (BA:Option Addr) (nn cc:Nat) (hP:OpOk w o BA nn cc) (hnn:nn≤1000000) (hdB:0 < nn→∀ q off,BA=some ⟨q,off,none⟩→q∉bY [(some b,bc [.slice r.A r.n r.c,.map r.p] 73),r.er,r.em]) (hdF:0 < 1→∀ q off,(some ⟨0,0,none⟩:Option Addr)=some ⟨q,off,none⟩→q∉bY [(some b,bc [.slice r.A r.n r.c,.map r.p] 73),r.er,r.em]) (hdN:0 < 1→∀ q off,(some ⟨3,0,none⟩:Option Addr)=some ⟨q,off,none⟩→q∉bY [(some b,bc [.slice r.A r.n r.c,.map r.p] 73),r.er,r.em]):Calls prog 23 #[.pointer (some ⟨b,0,none⟩),.agg (dR o BA nn cc).toArray] w (gH (fun v w'=>∃ (r':StV) (p:Row),v=.agg (eG (jT vs o).2 p).toArray∧dB 43 r' (jT vs o).1∧aZ 5 1 p.A p.n p.c (((jT vs o).2.bytes).map bB) p.e∧Mem w (bY [(some b,bc [.slice r.A r.n r.c,.map r.p] 73),r.er,r.em]) [(some b,bc [.slice r'.A r'.n r'.c,.map r'.p] 73),r'.er,r'.em,p.e] w')):=by
 by_cases h0:o.kind < 1∨6 < o.kind
 ·exact aUd w b r vs hW hO o BA nn cc hP hdB h0
 by_cases h1:o.kind=1
 ·exact aUe w b r vs hW hO o BA nn cc hP hnn hdB h1
 by_cases h2:o.kind=2
 ·exact aUf w b r vs hW hO o BA nn cc hP hnn hdB h2
 by_cases h3:o.kind=3
 ·exact aUg w b r vs hW hO o BA nn cc hP hnn hdB h3
 by_cases h4:o.kind=4
 ·exact aUh w F N b r vs hW hO o BA nn cc hP hnn hdB hdF hdN h4
 by_cases h5:o.kind=5
 ·exact aUi w b r vs hW hO o BA nn cc hP hnn hdB h5
 ·exact aUj w b r vs hW hO o BA nn cc hP hnn hdB (by omega)
theorem aHb (w:World) (F:Rd w 2 (some ⟨0,0,none⟩) 1 [[.int .u32 73856093,.int .u32 19349663]]) (N:Rd w 4 (some ⟨3,0,none⟩) 1 [eC iU]) (b:Nat) (r:StV) (vs:List Body) (hW:dB 43 r vs) (hO:Own [(some b,bc [.slice r.A r.n r.c,.map r.p] 73),r.er,r.em] w) (hdF:0 < 1→∀ q off,(some ⟨0,0,none⟩:Option Addr)=some ⟨q,off,none⟩→q∉bY [(some b,bc [.slice r.A r.n r.c,.map r.p] 73),r.er,r.em]) (hdN:0 < 1→∀ q off,(some ⟨3,0,none⟩:Option Addr)=some ⟨q,off,none⟩→q∉bY [(some b,bc [.slice r.A r.n r.c,.map r.p] 73),r.er,r.em]) (A:Option Addr) (n c:Nat) (l:List OpRow) (hl:OpsRd w A n l) (hby:∀ x∈l,x.n≤1000000) (hn:n≤1000000) (hdl:0 < n→∀ q off,A=some ⟨q,off,none⟩→q∉bY [(some b,bc [.slice r.A r.n r.c,.map r.p] 73),r.er,r.em]) (hdo:vD l (bY [(some b,bc [.slice r.A r.n r.c,.map r.p] 73),r.er,r.em])) :
  Calls prog 32 #[.pointer (some ⟨b,0,none⟩),.slice A n c] w (gH (fun v w'=>∃ (r':StV) (q:Row) (rs:List Row),v=.slice q.A q.n q.c∧dB 43 r' (iB vs (opsO l))∧aZ 36 4 q.A q.n q.c (kV (lZ vs (opsO l)) rs) q.e∧OutR 5 rs (lZ vs (opsO l))∧Mem w (bY [(some b,bc [.slice r.A r.n r.c,.map r.p] 73),r.er,r.em]) ([(some b,bc [.slice r'.A r'.n r'.c,.map r'.p] 73),r'.er,r'.em,q.e]++rs.map Row.e) w')):=by
 have hlen:l.length=n:=by simpa using hl.rd.len
 have hbd:=hl.rd.bound
 refine aI #[.tmp 4] 22 func32 Z results32 ntmps32 Z ?_
 have M0:=hO.mem
 refine aE (aA (eH Z Z (aB (aC (aE (aA (eH Z Z ?_)))))))
 have M1:=M0.dummy default
 refine aB (aC (aE (aE (aA (dK Z Z (wq (cK underlying25 Z) Z (aQ Z Z (aB (aC (aP (dG (σ:=Nat × StV × Row × List Row) [0,4,8,9] (fun (i,r',q,rs)=>[(5,.slice q.A q.n q.c),(10,.int .i64 (i:Int))]) (fun (i,r',q,rs) w'=>(i≤n∧dB 43 r' (iB vs ((opsO l).take i))∧aZ 36 4 q.A q.n q.c (kV ((lZ vs ((opsO l).take i))) rs) q.e∧OutR 5 rs (lZ vs ((opsO l).take i)))∧Mem w (bY [(some b,bc [.slice r.A r.n r.c,.map r.p] 73),r.er,r.em]) ([(some b,bc [.slice r'.A r'.n r'.c,.map r'.p] 73),r'.er,r'.em,q.e]++rs.map Row.e) w') (fun (i,r',q,rs)=>n - i) (0,r,fH,[]) (bE Z (bE Z dZ)) (⟨⟨by omega,hW,aZ.nil _ _ _,OutR.nil _⟩,M1⟩) ?_)))))))))))
 rintro ⟨i,r',q,rs⟩ ρ2 w2 ⟨⟨hi,hr,hq,hoR⟩,hM2⟩
 have hqn:(kV (lZ vs ((opsO l).take i)) rs).length=q.n:=hq.1
 rw [oO hoR.len,oQ,List.length_take,fE] at hqn
 refine aE (aA (cX Z Z Z Z (aB (aC (aE ?_)))))
 refine aU Z (fun h11 => ?_) (fun h11 => ?_)
 ·obtain ⟨x,hx⟩:=cF (xs:=l) (k:=i) hlen (by omega)
  have hxm:=List.mem_of_getElem? hx
  have hP:=hl.each x hxm
  have hxo:=pP hx
  refine aM (aC (aE (aP (aE (aA (wq (bJ (i) pC Z Z Z ((hl.rd.memY hM2 hdl).below_len (aG OpRow.cells hx)) ((hl.rd.memY hM2 hdl).someK (aG OpRow.cells hx))) Z (wq (dW _ jW (hl.rd.memY hM2 hdl) (aG OpRow.cells hx) Z) Z (aL 13 (.agg (dR x.o x.A x.n x.c).toArray) Z (aR aId hM2 Z Z (fun b3 w3 M3 => ?_))))))))))
  have M4:Mem _ _ ([_,_,_,_,_]++_) _:=Mem.front (L:=[_,_,_,_]) M3
  refine bG 4 _ jW M4 Z Z Z Z Z (aS Z) Z (fun w5 M5=>(aB (aC (aA (dK Z Z (wq (aH (.pointer _) Z) Z (wq (aX 4 jW M5 Z Z Z) Z (eP aVn Z Z (wB _ (F.memY M5 hdF) (N.memY M5 hdN) _ r' _ hr (M5.ownSeg 0 3) x.o x.A x.n x.c (hP.memY M5 (hdo x hxm)) (hby x hxm) (M5.away 0 3 hP.rd (hdo x hxm)) (M5.away 0 3 F hdF) (M5.away 0 3 N hdN)) ?_))))))))
  rintro v6 w6 ⟨r2,p2,rfl,hr2,hp2,hM6⟩
  have M6:Mem _ _ ([_,_,_,_,_,_]++_) _:=Mem.front (L:=[_,_,_,_,_]) (M5.seg 0 3 hM6)
  refine cC [.agg (List.toArray _)] [eG (jT (iB vs ((opsO l).take i)) x.o).2 p2] Z bAp M6 Z Z Z Z (cU Z) (by decide) (fun b7 w7 M7 => ?_)
  have M8:Mem _ _ ([_,_,_,_,_,_,_]++_) _:=Mem.front (L:=[_,_,_,_,_,_]) M7
  refine cW 3 [eG (jT (iB vs ((opsO l).take i)) x.o).2 p2] bAp M8 rfl rfl rfl rfl rfl hq rfl (by simp [eG,Go.Bil.one]) (dL.ofMem 6 M8 rfl) (by omega) (fun A9 c9 e9 w9 M9 hR9=>(eH rfl rfl (aB (cR (aC (aA (wq (bC rfl rfl (by omega) (by omega)) rfl (aQ rfl rfl (aB ?_)))))))))
  refine bX (i+1,r2,⟨A9,q.n+1,c9,e9⟩,rs++[p2]) (bE Z (bE Z dZ)) (bZ Z (bZ Z (bZ Z (bZ Z gK)))) ?_ ?_
  ·exact ⟨⟨by omega,by rw [mS hxo];exact hr2,by rw [jF hxo,pU hoR.len];exact hR9,by rw [jF hxo];exact hoR.add hp2⟩,Mem.pushNew (L:=[_,_,_,_]) p2 (Mem.keepL (L:=[_,_,_,_,_,_,_]) [true,true,true,true,false,true,false] M9)⟩
  ·(show n - (i+1) < n - i;omega)
 ·have hin:i=n:=by omega
  rw [hin,List.take_of_length_le (by rw [fE];omega)] at hr hq hoR
  refine cN (dC (dE (eJ (aC (aE (aA (dK Z Z (eH Z Z (aB (aC (aO (cI (.slice _ _ _) Z ?_))))))))))))
  exact ⟨r',q,rs,Z,hr,hq,hoR,hM2⟩
theorem bGk (w:World) (q0:Row) (s:List Body) (hq0:aZ 43 10 q0.A q0.n q0.c ((s).map aF) q0.e) (hG:GoodV s) (hO:Own [q0.e] w) (o:OpI) (BA:Option Addr) (nn cc:Nat) (hP:OpOk w o BA nn cc) (hnn:nn≤1000000) (hdB:0 < nn→∀ q off,BA=some ⟨q,off,none⟩→q∉bY [q0.e]) :
  Calls prog 25 #[.slice q0.A q0.n q0.c,.agg (dR o BA nn cc).toArray] w (gH (fun v w'=>∃ (q p:Row),v=.tuple #[.slice q.A q.n q.c,.agg (eG (jT s o).2 p).toArray]∧aZ 43 10 q.A q.n q.c (((jT s o).1).map aF) q.e∧aZ 5 1 p.A p.n p.c (((jT s o).2.bytes).map bB) p.e∧Mem w (bY [q0.e]) [q.e,p.e] w')):=by
 have hlen:s.length=q0.n:=by simpa using hq0.1
 have hsl:=hG.len
 have hbl:=hP.len
 refine aI #[.tmp 4,.cell 5 80] 42 func25 Z results25 ntmps25 Z ?_
 have M0:=hO.mem
 refine aE (aA (bN (.agg (.mk _)) M0 Z Z Z (fun b1 w1 M1=>(eH Z Z (aR bIc M1 Z Z (fun b2 w2 M2=>(aB (aC (aE (aE (aA (wq (aD 0 pN Z) Z (wq (aK 1 (.int _ _) fT M2 Z Z Z) Z (cX Z Z Z Z (wq (aH (.bool (decide _)) Z) Z ?_)))))))))))))))
 refine dQ 10 Z (fun g10 => ?_) (fun g10 => ?_)
 ·refine aN Z Z (aN Z Z (aN Z Z (wq (bR true (.bool true) Z Z) Z (aB (aC (cE Z (aE (aA (dK Z Z (wq (cB [(0,.int _ _)] _ aHo Z Z) Z (eH Z Z (bG 2 _ aBw M2 Z Z Z Z Z (aS Z) Z (fun w3 M3=>(aB (aC (aO (cO (aWd (.slice _ _ _) 2 aBw M3 Z Z Z Z ?_))))))))))))))))))
  have hun:¬ (1≤o.kind∧o.kind≤6):=by omega
  exact ⟨q0,⟨none,0,0,(none,default)⟩,by rw [jO hun];rfl,by rw [jO hun];exact hq0,by rw [jO hun];exact aZ.nil _ _ _,(M3.keep [true,false,false]).dummy default⟩
 ·refine wq (aD 0 pN Z) Z (wq (aK 1 (.int _ _) fT M2 Z Z Z) Z (cX Z Z Z Z (wq (bR false (.bool (decide _)) Z Z) Z (aB (aC ?_)))))
  refine aU Z (fun h14 => ?_) (fun h14 => ?_)
  ·refine aE (aA (dK Z Z (wq (cB [(0,.int _ _)] _ aHo Z Z) Z (eH Z Z (bG 2 _ aBw M2 Z Z Z Z Z (aS Z) Z (fun w4 M4=>(aB (aC (aO (cO (aWd (.slice _ _ _) 2 aBw M4 Z Z Z Z ?_)))))))))))
   have hun:¬ (1≤o.kind∧o.kind≤6):=by omega
   exact ⟨q0,⟨none,0,0,(none,default)⟩,by rw [jO hun];rfl,by rw [jO hun];exact hq0,by rw [jO hun];exact aZ.nil _ _ _,(M4.keep [true,false,false]).dummy default⟩
  ·refine aM (aC (aE (aA (dK Z Z (wq (aD 0 pN Z) Z (wq (aK 1 (.int _ _) fT M2 Z Z Z) Z (wq (gG Z Z (by omega) (by omega)) Z (wq (aD 1 vM Z) Z (wq (qZ 1 _ bQ M2 Z Z Z Z) Z (wq (aD 11 vN Z) Z (wq (aK 1 (.int _ _) bV M2 Z Z Z) Z (wq (aD 12 vO Z) Z (wq (qZ 1 _ bO M2 Z Z Z Z) Z (wq (aD 14 vP Z) Z (wq (aK 1 (.slice _ _ _) kC M2 Z Z Z) Z (wq (cB [(0,.int _ _),(1,.agg (List.toArray _)),(2,.int _ _),(3,.agg (List.toArray _)),(4,.slice _ _ _)] _ bHj Z Z) Z ?_))))))))))))))))
   refine aL 29 (.agg (dR { o with kind:=o.kind - 1 } BA nn cc).toArray) Z (eP bTp Z Z (bGj _ q0 s hq0 hG (M2.ownAt (i:=0) Z) { o with kind:=o.kind - 1 } BA nn cc ⟨hP.rd.memY M2 hdB,hP.cap,hP.byt,hP.body,hP.p1,hP.p2⟩ hnn hdB) ?_)
   rintro v5 w5 ⟨q2,p2,rfl,hq2,hp2,hM5⟩
   have M5:Mem _ _ [_,_,_,_] _:=M2.seg 0 1 hM5
   refine aR aVa M5 Z Z (fun b6 w6 M6=>(bG 4 _ iO M6 Z Z Z Z Z (aS Z) Z (fun w7 M7=>(aB (aC (aE (fW [(0,0),(1,1),(2,0),(3,1),(4,0),(5,1),(6,0),(7,1),(8,0),(9,1),(10,0),(11,0),(12,2)] mixed M7 Z (by kernel_rfl) (fun w8 M8=>(aV Z Z Z (fun _=>aD 0 vR Z) (bP Z Z Z (aK 4 (.slice _ _ _) gM M8 Z Z Z) (aV Z Z Z (fun _=>aD 1 vS Z) (bP Z Z Z (aK 4 (.int _ _) fT M8 Z Z Z) (aV Z Z Z (fun _=>aD 12 aWg Z) (bP Z Z Z (aK 4 (.slice _ _ _) kC M8 Z Z Z) ?_))))))))))))))
   refine aV Z Z Z (fun _=>aD 13 aWh Z) (bP Z Z Z (aK 4 (.int _ _) fT M8 Z Z Z) (aV Z Z Z (fun _=>aD 14 aWi Z) (bP Z Z Z (aK 4 (.bool _) sV M8 Z Z Z) (aV Z Z Z (fun _=>cB [(0,.int _ _),(1,.slice _ _ _),(2,.int _ _),(3,.bool _)] _ aHo Z Z) (aV Z Z Z (fun _=>aJ (.slice _ _ _) Z) (dI [true,true,true,true,true] Z (by kernel_rfl) (bG 2 _ aBw M8 Z Z Z Z Z (aS Z) Z (fun w9 M9 => ?_))))))))
   refine aB (aC ⟨dJ, ?_⟩)
   refine bS (aC (aO (aWd (.slice _ _ _) 2 aBw M9 Z Z Z Z ?_)))
   have hdo:¬ (o.kind < 1∨6 < o.kind):=by omega
   exact ⟨q2,p2,by rw [bGu hdo];rfl,by rw [bGu hdo];exact hq2,by rw [bGu hdo];exact hp2,M9.keep [true,false,false,true,false]⟩
theorem bAe (w:World) (q0:Row) (s:List Body) (hq0:aZ 43 10 q0.A q0.n q0.c ((s).map aF) q0.e) (hG:GoodV s) (hO:Own [q0.e] w) (A:Option Addr) (n c:Nat) (l:List OpRow) (hl:OpsRd w A n l) (hby:∀ x∈l,x.n≤1000000) (hn:n≤1000000) (hdl:0 < n→∀ q off,A=some ⟨q,off,none⟩→q∉bY [q0.e]) (hdo:vD l (bY [q0.e])) :
  Calls prog 10 #[.slice q0.A q0.n q0.c,.slice A n c] w (gH (fun v w'=>∃ (q o:Row) (rs:List Row),v=.tuple #[.slice q.A q.n q.c,.slice o.A o.n o.c]∧aZ 43 10 q.A q.n q.c (((iB s (opsO l))).map aF) q.e∧aZ 80 4 o.A o.n o.c (kV (lZ s (opsO l)) rs) o.e∧OutR 5 rs (lZ s (opsO l))∧Mem w (bY [q0.e]) ([q.e,o.e]++rs.map Row.e) w')):=by
 have hlen:l.length=n:=by simpa using hl.rd.len
 have hbd:=hl.rd.bound
 have hlo:∀ o∈opsO l,OkO o:=hl.okO hby
 refine aI #[.tmp 4,.tmp 5] 32 func10 Z results10 ntmps10 Z ?_
 have M0:=hO.mem
 refine aE (aA (eH Z Z (eH Z Z (aB (aC (aE (aA (eH Z Z ?_))))))))
 have M1:=M0.dummy default
 refine aB (aC (aE (aE (aA (bK Z Z (aB (aC (aP (dG (σ:=Nat × Row × Row × List Row) [1,4,5] (fun (i,q,o,rs)=>[(0,.slice q.A q.n q.c),(6,.slice o.A o.n o.c),(7,.int .i64 (i:Int))]) (fun (i,q,o,rs) w'=>(i≤n∧aZ 43 10 q.A q.n q.c (((iB s ((opsO l).take i))).map aF) q.e∧aZ 80 4 o.A o.n o.c (kV ((lZ s ((opsO l).take i))) rs) o.e∧OutR 5 rs (lZ s ((opsO l).take i)))∧Mem w (bY [q0.e]) ([q.e,o.e]++rs.map Row.e) w') (fun (i,q,o,rs)=>n - i) (0,q0,fH,[]) (bE Z (bE Z (bE Z dZ))) (⟨⟨by omega,hq0,aZ.nil _ _ _,OutR.nil _⟩,M1⟩) ?_)))))))))
 rintro ⟨i,q,o,rs⟩ ρ2 w2 ⟨⟨hi,hq,ho,hoR⟩,hM2⟩
 have hqn:(kV (lZ s ((opsO l).take i)) rs).length=o.n:=ho.1
 rw [oO hoR.len,oQ,List.length_take,fE] at hqn
 have hGi:GoodV (iB s ((opsO l).take i)):=zY hG (fun z hz=>hlo z (List.mem_of_mem_take hz))
 refine aE (aE (aA (aQ Z Z (dK Z Z (wq (cK underlying22 Z) Z (cX Z Z Z Z (aB (aC ?_))))))))
 refine aU Z (fun h13 => ?_) (fun h13 => ?_)
 ·obtain ⟨x,hx⟩:=cF (xs:=l) (k:=i) hlen (by omega)
  have hxm:=List.mem_of_getElem? hx
  have hP:=hl.each x hxm
  have hxo:=pP hx
  refine aM (aC (aE (aP (aE (aA (dK Z Z (dK Z Z (aQ Z Z (wq (bJ (i) lR Z Z Z ((hl.rd.memY hM2 hdl).below_len (aG OpRow.cells hx)) ((hl.rd.memY hM2 hdl).someK (aG OpRow.cells hx))) Z (wq (dW _ bTb (hl.rd.memY hM2 hdl) (aG OpRow.cells hx) Z) Z (aL 21 (.agg (dR x.o x.A x.n x.c).toArray) Z (eP bTj Z Z (bGk _ q _ hq hGi (hM2.ownAt (i:=0) Z) x.o x.A x.n x.c (hP.memY hM2 (hdo x hxm)) (hby x hxm) (hM2.away 0 1 hP.rd (hdo x hxm))) ?_))))))))))))
  rintro v3 w3 ⟨q2,p2,rfl,hq2,hp2,hM3⟩
  have M3:Mem _ _ ([_,_,_]++_) _:=Mem.front (L:=[_,_]) (hM2.seg 0 1 hM3)
  refine wq (aH (.tuple (List.toArray _)) Z) Z (wq (bM (.slice _ _ _) Z Z) Z (wq (bM (.agg (.mk _)) Z Z) Z (aR bIc M3 Z Z (fun b4 w4 M4 => ?_))))
  have M5:Mem _ _ ([_,_,_,_]++_) _:=Mem.front (L:=[_,_,_]) M4
  refine eH Z Z (bG 3 _ aBw M5 Z Z Z Z Z (aS Z) Z (fun w6 M6=>(aB (aC (aE (aA (dK Z Z (eH Z Z (aB (aC (aA (dK Z Z (wq (aX 3 aBw M6 Z Z Z) Z (cC [.agg (List.toArray _)] [eG (jT (iB s ((opsO l).take i)) x.o).2 p2] Z bVs M6 Z Z Z Z (cU Z) (by decide) (fun b7 w7 M7 => ?_)))))))))))))))
  have M8:Mem _ _ ([_,_,_,_,_]++_) _:=Mem.front (L:=[_,_,_,_]) M7
  refine cW 1 [eG (jT (iB s ((opsO l).take i)) x.o).2 p2] bVs M8 rfl rfl rfl rfl rfl ho rfl (by simp [eG,Go.Bil.one]) (dL.ofMem 4 M8 rfl) (by omega) (fun A9 c9 e9 w9 M9 hR9=>(eH rfl rfl (aB (cR (aC (aA (aQ rfl rfl (wq (bC rfl rfl (by omega) (by omega)) rfl (bK rfl rfl (aB ?_))))))))))
  refine bX (i+1,q2,⟨A9,o.n+1,c9,e9⟩,rs++[p2]) (bE Z (bE Z (bE Z dZ))) (bZ Z (bZ Z (bZ Z gK))) ?_ ?_
  ·exact ⟨⟨by omega,by rw [mS hxo];exact hq2,by rw [jF hxo,pU hoR.len];exact hR9,by rw [jF hxo];exact hoR.add hp2⟩,Mem.pushNew (L:=[_,_]) p2 (Mem.keepL (L:=[_,_,_,_,_]) [true,true,true,false,false] M9)⟩
  ·(show n - (i+1) < n - i;omega)
 ·have hin:i=n:=by omega
  rw [hin,List.take_of_length_le (by rw [fE];omega)] at hq ho hoR
  refine cN (dC (dE (eJ (aC (aE (aA (dK Z Z (dK Z Z (eH Z Z (eH Z Z (aB (aC (aO (fX (.slice _ _ _) (.slice _ _ _) Z Z ?_))))))))))))))
  exact ⟨q,o,rs,Z,hq,ho,hoR,hM2⟩
theorem aTv (w:World) (A:Option Addr) (n c:Nat) (l:List OpRow) (hl:OpsRd w A n l) (hby:∀ x∈l,x.n≤1000000) (hn:n≤1000000):Calls prog 10 #[.slice none 0 0,.slice A n c] w (fun ex w'=>∃ v,ex=.returned v∧(fun v w'=>∃ (q o:Row) (rs:List Row),v=.tuple #[.slice q.A q.n q.c,.slice o.A o.n o.c]∧aZ 43 10 q.A q.n q.c (((iB [] (opsO l))).map aF) q.e∧aZ 80 4 o.A o.n o.c (kV (lZ [] (opsO l)) rs) o.e∧OutR 5 rs (lZ [] (opsO l))∧Mem w [] ([q.e,o.e]++rs.map Row.e) w') v w'):=(bAe w fH [] (aZ.nil _ _ _) GoodV.nil (Own.dummy w default) A n c l hl hby hn (by simp [bY,fH]) (by intro x _ _ q off _;simp [bY,fH])).mono fun _ _ h=>h
theorem bVq:∃ fs,OpT prog 4 58 3 43 39 41 34 5 1 fs:=⟨_,underlying58,by kernel_rfl,by kernel_rfl,by kernel_rfl,by kernel_rfl,by kernel_rfl,by kernel_rfl,by kernel_rfl,by kernel_rfl,by kernel_rfl,by kernel_rfl,by kernel_rfl,by kernel_rfl,gC⟩
theorem xC (w:World) (A:Option Addr) (n c:Nat) (ls:List Int) (R:Rd w 1 A n (ls.map bB)) (hn:n≤1048576) :
  Calls prog 24 #[.slice A n c] w (gH (fun v w'=>∃ p:Row,v=.slice p.A p.n p.c∧aZ 5 1 p.A p.n p.c ((ls).map bB) p.e∧Mem w [] [p.e] w')):=by
 have hll:ls.length=n:=by simpa using R.len
 refine aI #[.tmp 2] 8 func24 Z results24 ntmps24 Z ?_
 have M0:=Mem.refl w
 refine aE (aA (eH Z Z (aB (aC (aE (aE (aA (dK Z Z (wq (zQ _ underlying34 Z Z) Z (aB (aC ?_)))))))))))
 refine iL _ Z (fun h4 => ?_) (fun h4 => ?_)
 ·refine aE (aA (eH Z Z (aB (aC (aO (cO (cI (.slice _ _ _) Z ?_)))))))
  have hA:A=none:=by cases A <;> simp_all
  have hl:ls=[]:=by
   rcases Nat.eq_zero_or_pos n with h | h
   ·exact List.eq_nil_of_length_eq_zero (by omega)
   ·have:=R.some h;rw [hA] at this;cases this
  subst hl
  exact ⟨fH,Z,aZ.nil _ _ _,M0.dummy default⟩
 ·refine aM (aC (aE (aA (cC [] [] Z gC M0 Z Z Z Z (cU Z) (by decide) (fun b1 w1 M1=>(dK Z Z (gJ 0 (ls.map bB) gC M1 Z Z Z Z Z (aZ.empty b1) (R.mem M1) (aEq ls) (by omega) (fun A2 c2 e2 w2 M2 hR2 hA2=>(eH Z Z (aB (aC (aO (cI (.slice _ _ _) Z ?_)))))))))))))
  exact ⟨⟨A2,0+n,c2,e2⟩,rfl,by simpa using hR2,M2⟩
theorem aBp (w:World) (o:OpI) (BA:Option Addr) (nn cc:Nat) (hP:OpOk w o BA nn cc) (hnn:nn≤1000000) :
  Calls prog 19 #[.agg (dR o BA nn cc).toArray] w (gH (fun v w'=>∃ p:Row,v=.agg (dR o p.A p.n p.c).toArray∧aZ 5 1 p.A p.n p.c ((o.bytes).map bB) p.e∧Mem w [] [p.e] w')):=by
 refine aI #[.cell 2 45] 8 func19 Z results19 ntmps19 Z ?_
 have M0:=Mem.refl w
 refine aE (aA (bN (.agg (.mk _)) M0 Z Z Z (fun b1 w1 M1=>(aR aId M1 Z Z (fun b2 w2 M2=>(aB (aC (aE (aA (wq (aD 14 qR Z) Z (wq (aK 0 (.slice _ _ _) kC M2 Z Z Z) Z (eP bMq Z Z (xC _ BA nn cc o.bytes (hP.rd.mem M2) (by omega)) ?_))))))))))))
 rintro v3 w3 ⟨p,rfl,hp,hM3⟩
 have M3:Mem _ _ [_,_,_] _:=M2.call0 hM3
 refine wq (aD 14 qR Z) Z (dA 0 (.slice _ _ _) kC M3 Z Z Z Z Z Z (fun w4 M4=>(aB (aC (aE (aA (wq (aX 0 jW M4 Z Z Z) Z (bG 1 _ jW M4 Z Z Z Z Z (aS Z) Z (fun w5 M5=>(aB (aC (aO (eQ 1 jW M5 Z Z Z ?_)))))))))))))
 exact ⟨p,Z,hp,M5.keep [false,false,true]⟩
theorem aOm (w:World) (A:Option Addr) (n c:Nat) (xs:List Int) (R:Rd w 1 A n (xs.map bB)) (hx:iG xs) (B:Option Addr) (m c':Nat) (ys:List Int) (R':Rd w 1 B m (ys.map bB)) (hy:iG ys) :
  Calls prog 30 #[.slice A n c,.slice B m c'] w (Rb w (.bool (decide (xs=ys)))):=by
 refine aI #[.tmp 4] 10 func30 Z results30 ntmps30 Z ?_
 have M0:=Mem.refl w
 refine aE (aA (wq (aJ (.bool false) Z) Z (aB (aC (aE (aA (dK Z Z (wq (aNc underlying34 underlying5 underlying9 (R.mem M0) Z) Z (dK Z Z (wq (aNc underlying34 underlying5 underlying9 (R'.mem M0) Z) Z (wq (bGh Z Z) Z (aL 9 (.bool (decide (xs=ys))) (bD (bVt hx hy)) (wq (aJ (.bool (decide _)) Z) Z (aB (aC (aO (cI (.bool (decide _)) Z ?_)))))))))))))))))
 exact ⟨Z,M0.below⟩
theorem bGi (w:World) (b xb wb:Nat) (A:Option Addr) (n c k:Nat) (eo:eL) (r:StV) (vs:List Body) (hW:dB 43 r vs) (qm:Row) (ms:List Row) (hqm:aZ 34 1 qm.A qm.n qm.c ((ms).map pS) qm.e) (hms:ms.length≤1000000) (z:Int) (hO:Own [(some xb,bc [.slice A n c,.int .i64 (k:Int),.slice qm.A qm.n qm.c] 28),eo,(some b,bc [.slice r.A r.n r.c,.map r.p] 73),r.er,r.em,(some wb,bc [.pointer (some ⟨b,0,none⟩)] 61),qm.e] w) :
  Calls prog 21 #[.int .i64 z,.pointer (some ⟨xb,0,none⟩),.pointer (some ⟨wb,0,none⟩)] w (gH (fun v w'=>∃ p q:Row,v=.tuple #[]∧aZ 5 1 p.A p.n p.c ((kH vs).map bB) p.e∧aZ 34 1 q.A q.n q.c ((ms++[p]).map pS) q.e∧Mem w (bY [(some xb,bc [.slice A n c,.int .i64 (k:Int),.slice qm.A qm.n qm.c] 28),eo,(some b,bc [.slice r.A r.n r.c,.map r.p] 73),r.er,r.em,(some wb,bc [.pointer (some ⟨b,0,none⟩)] 61),qm.e]) [(some xb,bc [.slice A n c,.int .i64 (k:Int),.slice q.A q.n q.c] 28),eo,(some b,bc [.slice r.A r.n r.c,.map r.p] 73),r.er,r.em,(some wb,bc [.pointer (some ⟨b,0,none⟩)] 61),q.e,p.e] w')):=by
 have hqn:(ms.map pS).length=qm.n:=hqm.1
 rw [List.length_map] at hqn
 refine aI #[] 11 func21 Z results21 ntmps21 Z ?_
 have M0:=hO.mem
 refine fW [(0,0),(1,1),(2,1),(3,2),(4,2),(5,2),(6,0),(7,2)] mixed M0 Z (by kernel_rfl) (fun w1 M1=>(aV Z Z Z (fun _=>aD 2 iZ Z) (bP Z Z Z (aK 0 (.slice _ _ _) gY M1 Z Z Z) (bP Z Z Z (aK 5 (.pointer _) aKn M1 Z Z Z) (dI [true,false] Z (by kernel_rfl) (eP aVm Z Z (nG _ _ r _ hW (M1.ownSeg 2 3)) ?_))))))
 rintro v2 w2 ⟨p,rfl,hp,hM2⟩
 have M2:Mem _ _ [_,_,_,_,_,_,_,_] _:=M1.seg 2 3 hM2
 refine aB (aC ⟨(dS (bI Z (aK 0 (.slice _ _ _) gY M2 Z Z Z)) dJ), ?_⟩)
 refine dI [false] Z (by kernel_rfl) (cC [.slice _ _ _] [pS p] Z uS M2 Z Z Z Z (cU Z) (by decide) (fun b3 w3 M3 => ?_))
 refine aB (aC ⟨(dS (bI Z (aK 0 (.slice _ _ _) gY M3 Z Z Z)) dJ), ?_⟩)
 refine dI [true] rfl (by kernel_rfl) (cW 6 [pS p] uS M3 rfl rfl rfl rfl rfl hqm rfl (by simp [pS,Go.Bil.one]) (dL.ofMem 8 M3 rfl) (by omega) (fun A4 c4 e4 w4 M4 hR4 => ?_))
 refine aB (aC ⟨dJ, ?_⟩)
 refine aV Z Z Z (fun _=>aD 2 iZ Z) (dI [] Z (by kernel_rfl) (dA 0 (.slice _ _ _) gY M4 Z Z Z Z Z Z (fun w5 M5 => ?_)))
 refine aB (aC ⟨dJ, ?_⟩)
 refine bS (kI ?_)
 exact ⟨p,⟨A4,qm.n+1,c4,e4⟩,Z,hp,by rw [List.map_append];exact hR4,M5.keep [true,true,true,true,true,true,true,true,false]⟩
theorem bLb (w:World) (F:Rd w 2 (some ⟨0,0,none⟩) 1 [[.int .u32 73856093,.int .u32 19349663]]) (N:Rd w 4 (some ⟨3,0,none⟩) 1 [eC iU]) (b xb wb k:Nat) (hkp:0 < k) (r:StV) (hW:dB 43 r []) (qo:Row) (l:List OpRow) (hqo:aZ 45 15 qo.A qo.n qo.c (l.map OpRow.cells) qo.e) (hea:∀ x∈l,OpOk w x.o x.A x.n x.c) (hby:∀ x∈l,x.n≤1000000) (hn:qo.n≤1000000) (hO:Own [(some xb,bc [.slice qo.A qo.n qo.c,.int .i64 (k:Int),.slice none 0 0] 28),qo.e,(some b,bc [.slice r.A r.n r.c,.map r.p] 73),r.er,r.em,(some wb,bc [.pointer (some ⟨b,0,none⟩)] 61)] w) (hdF:0 < 1→∀ q off,(some ⟨0,0,none⟩:Option Addr)=some ⟨q,off,none⟩→q∉bY [(some xb,bc [.slice qo.A qo.n qo.c,.int .i64 (k:Int),.slice none 0 0] 28),qo.e,(some b,bc [.slice r.A r.n r.c,.map r.p] 73),r.er,r.em,(some wb,bc [.pointer (some ⟨b,0,none⟩)] 61)]) (hdN:0 < 1→∀ q off,(some ⟨3,0,none⟩:Option Addr)=some ⟨q,off,none⟩→q∉bY [(some xb,bc [.slice qo.A qo.n qo.c,.int .i64 (k:Int),.slice none 0 0] 28),qo.e,(some b,bc [.slice r.A r.n r.c,.map r.p] 73),r.er,r.em,(some wb,bc [.pointer (some ⟨b,0,none⟩)] 61)]) (hdo:vD l (bY [(some xb,bc [.slice qo.A qo.n qo.c,.int .i64 (k:Int),.slice none 0 0] 28),qo.e,(some b,bc [.slice r.A r.n r.c,.map r.p] 73),r.er,r.em,(some wb,bc [.pointer (some ⟨b,0,none⟩)] 61)])) :
  Calls prog 20 #[.pointer (some ⟨b,0,none⟩),.slice qo.A qo.n qo.c,.int .i64 (k:Int),(.func (.func 21) #[] #[.pointer (some ⟨xb,0,none⟩),.pointer (some ⟨wb,0,none⟩)]:Value)] w (gH (fun v w'=>∃ (r':StV) (qm q:Row) (ms rs:List Row),v=.slice q.A q.n q.c∧dB 43 r' (iB [] (opsO l))∧aZ 34 1 qm.A qm.n qm.c ((ms).map pS) qm.e∧BytR 5 ms (fM (opsO l) k (qo.n / k))∧aZ 36 4 q.A q.n q.c (kV (lZ [] (opsO l)) rs) q.e∧OutR 5 rs (lZ [] (opsO l))∧Mem w (bY [(some xb,bc [.slice qo.A qo.n qo.c,.int .i64 (k:Int),.slice none 0 0] 28),qo.e,(some b,bc [.slice r.A r.n r.c,.map r.p] 73),r.er,r.em,(some wb,bc [.pointer (some ⟨b,0,none⟩)] 61)]) ([(some xb,bc [.slice qo.A qo.n qo.c,.int .i64 (k:Int),.slice qm.A qm.n qm.c] 28),qo.e,(some b,bc [.slice r'.A r'.n r'.c,.map r'.p] 73),r'.er,r'.em,(some wb,bc [.pointer (some ⟨b,0,none⟩)] 61),qm.e,q.e]++(rs.map Row.e++ms.map Row.e)) w')):=by
 have hlen:l.length=qo.n:=by have h:=hqo.1;rwa [List.length_map] at h
 refine aI #[.tmp 8] 37 func20 Z results20 ntmps20 Z ?_
 have M0:=hO.mem
 refine aE (aA (eH Z Z (aB (aC (aE (aA (eH Z Z ?_)))))))
 have M1:=(M0.dummy default).dummy default
 refine aB (aC (aE (aE (aA (dK Z Z (wq (cK underlying25 Z) Z (aQ Z Z (aB (aC (aP (dG (σ:=Nat × StV × Row × Row × List Row × List Row) [0,2,3,8,12,13] (fun (i,r',qm,q,ms,rs)=>[(9,.slice q.A q.n q.c),(14,.int .i64 (i:Int))]) (fun (i,r',qm,q,ms,rs) w'=>(i≤qo.n∧dB 43 r' (iB [] ((opsO l).take i))∧aZ 34 1 qm.A qm.n qm.c ((ms).map pS) qm.e∧BytR 5 ms (fM (opsO l) k (i / k))∧aZ 36 4 q.A q.n q.c (kV ((lZ [] ((opsO l).take i))) rs) q.e∧OutR 5 rs (lZ [] ((opsO l).take i)))∧Mem w (bY [(some xb,bc [.slice qo.A qo.n qo.c,.int .i64 (k:Int),.slice none 0 0] 28),qo.e,(some b,bc [.slice r.A r.n r.c,.map r.p] 73),r.er,r.em,(some wb,bc [.pointer (some ⟨b,0,none⟩)] 61)]) ([(some xb,bc [.slice qo.A qo.n qo.c,.int .i64 (k:Int),.slice qm.A qm.n qm.c] 28),qo.e,(some b,bc [.slice r'.A r'.n r'.c,.map r'.p] 73),r'.er,r'.em,(some wb,bc [.pointer (some ⟨b,0,none⟩)] 61),qm.e,q.e]++(rs.map Row.e++ms.map Row.e)) w') (fun (i,r',qm,q,ms,rs)=>qo.n - i) (0,r,fH,fH,[],[]) (bE Z (bE Z dZ)) (⟨⟨by omega,hW,aZ.nil _ _ _,by rw [Nat.zero_div];exact BytR.nil _,aZ.nil _ _ _,OutR.nil _⟩,M1⟩) ?_)))))))))))
 rintro ⟨i,r',qm,q,ms,rs⟩ ρ2 w2 ⟨⟨hi,hr,hqm,hmb,hq,hoR⟩,hM2⟩
 have hqn:(kV (lZ [] ((opsO l).take i)) rs).length=q.n:=hq.1
 rw [oO hoR.len,oQ,List.length_take,fE] at hqn
 have hml:ms.length≤1000000:=by rw [hmb.len,mP];exact Nat.le_trans (Nat.div_le_self i k) (by omega)
 refine aE (aA (cX Z Z Z Z (aB (aC (aE ?_)))))
 refine aU Z (fun h15 => ?_) (fun h15 => ?_)
 ·obtain ⟨x,hx⟩:=cF (xs:=l) (k:=i) hlen (by omega)
  have hxm:=List.mem_of_getElem? hx
  have hxo:=pP hx
  have hP:=hea x hxm
  refine aM (aC (aE (aP (aE (aA (aQ Z Z (wq (bJ (i) pC Z Z Z ((hqo.rd hM2 (bA (i:=1) Z)).below_len (aG OpRow.cells hx)) ((hqo.rd hM2 (bA (i:=1) Z)).someK (aG OpRow.cells hx))) Z (wq (dW _ jW (hqo.rd hM2 (bA (i:=1) Z)) (aG OpRow.cells hx) Z) Z (aR aId hM2 Z Z (fun b3 w3 M3 => ?_))))))))))
  have M4:Mem _ _ ([_,_,_,_,_,_,_,_,_]++_) _:=Mem.front (L:=[_,_,_,_,_,_,_,_]) M3
  refine bK Z Z (bG 8 _ jW M4 Z Z Z Z Z (aS Z) Z (fun w5 M5=>(aB (aC (aE (aA (dK Z Z (wq (aH (.pointer _) Z) Z (wq (aX 8 jW M5 Z Z Z) Z (aL 21 (.agg (dR x.o x.A x.n x.c).toArray) Z (eP aVn Z Z (wB _ (F.memY M5 hdF) (N.memY M5 hdN) _ r' _ hr (M5.ownSeg 2 3) x.o x.A x.n x.c (hP.memY M5 (hdo x hxm)) (hby x hxm) (M5.away 2 3 hP.rd (hdo x hxm)) (M5.away 2 3 F hdF) (M5.away 2 3 N hdN)) ?_)))))))))))
  rintro v6 w6 ⟨r2,p2,rfl,hr2,hp2,hM6⟩
  have M6:Mem _ _ ([_,_,_,_,_,_,_,_,_,_]++_) _:=Mem.front (L:=[_,_,_,_,_,_,_,_,_]) (M5.seg 2 3 hM6)
  refine cC [.agg (List.toArray _)] [eG (jT (iB [] ((opsO l).take i)) x.o).2 p2] Z bAp M6 Z Z Z Z (cU Z) (by decide) (fun b7 w7 M7 => ?_)
  have M8:Mem _ _ ([_,_,_,_,_,_,_,_,_,_,_]++_) _:=Mem.front (L:=[_,_,_,_,_,_,_,_,_,_]) M7
  refine cW 7 [eG (jT (iB [] ((opsO l).take i)) x.o).2 p2] bAp M8 rfl rfl rfl rfl rfl hq rfl (by simp [eG,Go.Bil.one]) (dL.ofMem 10 M8 rfl) (by omega) (fun A9 c9 e9 w9 M9 hR9=>(eH rfl rfl (aB (aC (aE (aA (aQ rfl rfl (wq (bC rfl rfl (by omega) (by omega)) rfl (aL 26 (.int .i64 ((i+1:Nat):Int)) (iE (by omega)) (aQ rfl rfl (wq (iJ rfl rfl (by omega)) rfl (aL 28 (.int .i64 (((i+1) % k:Nat):Int)) (iE (aAf rfl rfl)) (cX rfl rfl rfl rfl (aB (aC ?_)))))))))))))))
  refine aU Z (fun h29 => ?_) (fun h29 => ?_)
  ·have hz:=bRt h29
   refine aA (wq (aH (.func _ _ _) Z) Z (aQ Z Z (aQ Z Z (wq (gA Z Z (by omega)) Z (aL 33 (.int .i64 ((i / k:Nat):Int)) (iE (bKv Z (by omega))) (eP bTi Z Z (bGi _ b xb wb qo.A qo.n qo.c k qo.e r2 _ hr2 qm ms hqm hml _ (M9.ownSeg 0 7)) ?_))))))
   rintro v10 w10 ⟨pm,qm2,rfl,hpm,hqm2,hM10⟩
   have M10:Mem _ _ ([_,_,_,_,_,_,_,_,_,_,_,_]++_) _:=Mem.front (L:=[_,_,_,_,_,_,_,_,_,_,_]) (M9.seg 0 7 hM10)
   refine aB (cR (aC (aA (wq (bC Z Z (by omega) (by omega)) Z (aQ Z Z (aB ?_))))))
   obtain ⟨hmk1,_⟩:=aBh (l:=opsO l) hkp hz
   rw [mS hxo] at hmk1
   refine bX (i+1,r2,qm2,⟨A9,q.n+1,c9,e9⟩,ms++[pm],rs++[p2]) (bE Z (bE Z dZ)) (bZ Z (bZ Z (bZ Z (bZ Z (bZ Z (bZ Z gK)))))) ?_ ?_
   ·exact ⟨⟨by omega,by rw [mS hxo];exact hr2,hqm2,by rw [hmk1];exact hmb.add hpm,by rw [jF hxo,pU hoR.len];exact hR9,by rw [jF hxo];exact hoR.add hp2⟩,Mem.pushAB (L:=[_,_,_,_,_,_,_,_]) p2 pm (Mem.keepL (L:=[_,_,_,_,_,_,_,_,_,_,_,_]) [true,true,true,true,true,true,true,true,false,true,false,true] M10)⟩
   ·(show qo.n - (i+1) < qo.n - i;omega)
  ·have hz:=bRu h29
   refine aM (cR (aC (aA (wq (bC Z Z (by omega) (by omega)) Z (aQ Z Z (aB ?_))))))
   refine bX (i+1,r2,qm,⟨A9,q.n+1,c9,e9⟩,ms,rs++[p2]) (bE Z (bE Z dZ)) (bZ Z (bZ Z (bZ Z (bZ Z (bZ Z (bZ Z gK)))))) ?_ ?_
   ·exact ⟨⟨by omega,by rw [mS hxo];exact hr2,hqm,by rw [aGe hkp hz];exact hmb,by rw [jF hxo,pU hoR.len];exact hR9,by rw [jF hxo];exact hoR.add hp2⟩,Mem.pushA (L:=[_,_,_,_,_,_,_,_]) p2 (Mem.keepL (L:=[_,_,_,_,_,_,_,_,_,_,_]) [true,true,true,true,true,true,true,true,false,true,false] M9)⟩
   ·(show qo.n - (i+1) < qo.n - i;omega)
 ·have hin:i=qo.n:=by omega
  rw [hin] at hmb
  rw [hin,List.take_of_length_le (by rw [fE];omega)] at hr hq hoR
  refine cN (dC (dE (eJ (aC (aE (aA (dK Z Z (eH Z Z (aB (aC (aO (cI (.slice _ _ _) Z ?_))))))))))))
  exact ⟨r',qm,q,ms,rs,Z,hr,hqm,hmb,hq,hoR,hM2⟩
theorem aKv (w:World) (F:Rd w 2 (some ⟨0,0,none⟩) 1 [[.int .u32 73856093,.int .u32 19349663]]) (N:Rd w 4 (some ⟨3,0,none⟩) 1 [eC iU]) (A:Option Addr) (n c:Nat) (l:List OpRow) (hl:OpsRd w A n l) (hby:∀ x∈l,x.n≤1000000) (hn:n≤1000000) (z:Int) (k:Nat) (hz:max z 1=(k:Int)) :
  Calls prog 7 #[.slice A n c,.int .i64 z] w (gH (fun v w'=>∃ (qo qm q:Row) (ps ms rs:List Row),v=.tuple #[.agg [.slice qo.A qo.n qo.c,.int .i64 (k:Int),.slice qm.A qm.n qm.c].toArray,.slice q.A q.n q.c]∧LogR 45 34 5 (opsO l) k qo qm ps ms∧aZ 36 4 q.A q.n q.c (kV (lZ [] (opsO l)) rs) q.e∧OutR 5 rs (lZ [] (opsO l))∧Mem w [] ([qo.e,qm.e,q.e]++(ps.map Row.e++(rs.map Row.e++ms.map Row.e))) w')):=by
 have hlen:l.length=n:=by simpa using hl.rd.len
 have hbd:=hl.rd.bound
 have hkp:0 < k:=by omega
 have hgood:=hl.good hby
 refine aI #[.cell 4 28,.tmp 5] 38 func7 Z results7 ntmps7 Z ?_
 have M0:=Mem.refl w
 refine aE (aA (aR vC M0 Z Z (fun b1 w1 M1=>(eH Z Z (aB (aC (aE (aA (aQ Z Z (wq (pB Z Z ) Z (aL 12 (.int .i64 (k:Int)) (iE hz) (wq (cB [(1,.int _ _)] _ aHm Z Z) Z (aR vC M1 Z Z (fun b2 w2 M2=>(bG 1 _ lM M2 Z Z Z Z Z (aS Z) Z (fun w3 M3=>(aB (aC (aE (aE (aA (dK Z Z (wq (cK underlying25 Z) Z (aQ Z Z ?_))))))))))))))))))))))))
 have M4:=M3.dummy default
 refine aB (aC (aP (dG (σ:=Nat × Row × List Row) [4,5,6,14,15] (fun (i,qo,ps)=>[(16,.int .i64 (i:Int))]) (fun (i,qo,ps) w'=>(i≤n∧aZ 45 15 qo.A qo.n qo.c ((oM ((opsO l).take i) ps).map OpRow.cells) qo.e∧BytR 5 ps (((opsO l).take i).map OpI.bytes))∧Mem w [] ([(some b1,bc [.slice none 0 0,.int .i64 0,.slice none 0 0] 28),(some b2,bc [.slice qo.A qo.n qo.c,.int .i64 (k:Int),.slice none 0 0] 28),qo.e]++ps.map Row.e) w') (fun (i,qo,ps)=>n - i) (0,fH,[]) (bE Z dZ) (⟨⟨by omega,aZ.nil _ _ _,BytR.nil _⟩,M4⟩) ?_)))
 rintro ⟨i,qo,ps⟩ ρ5 w5 ⟨⟨hi,hqo,hpb⟩,hM5⟩
 have hpl:ps.length=((opsO l).take i).length:=by rw [hpb.len,List.length_map]
 have hqn:((oM ((opsO l).take i) ps).map OpRow.cells).length=qo.n:=hqo.1
 rw [List.length_map,vW hpl,List.length_take,fE] at hqn
 refine aE (aA (cX Z Z Z Z (aB (aC (aE ?_)))))
 refine aU Z (fun h17 => ?_) (fun h17 => ?_)
 ·obtain ⟨x,hx⟩:=cF (xs:=l) (k:=i) hlen (by omega)
  have hxm:=List.mem_of_getElem? hx
  have hxo:=pP hx
  have hP:=hl.each x hxm
  refine aM (aC (aE (aP (aE (aA (wq (bJ (i) pC Z Z Z ((hl.rd.mem hM5).below_len (aG OpRow.cells hx)) ((hl.rd.mem hM5).someK (aG OpRow.cells hx))) Z (wq (dW _ jW (hl.rd.mem hM5) (aG OpRow.cells hx) Z) Z (aR aId hM5 Z Z (fun b6 w6 M6 => ?_)))))))))
  have M7:Mem _ _ ([_,_,_,_]++_) _:=Mem.front (L:=[_,_,_]) M6
  refine bG 3 _ jW M7 Z Z Z Z Z (aS Z) Z (fun w8 M8=>(aB (aC (fW [(0,0),(1,1),(2,1),(3,2),(4,2),(5,2),(6,0),(7,2)] mixed M8 Z (by kernel_rfl) (fun w9 M9=>(aV Z Z Z (fun _=>aD 0 fP Z) (bP Z Z Z (aK 1 (.slice _ _ _) iI M9 Z Z Z) (bP Z Z Z (aX 3 jW M9 Z Z Z) (dV 22 (.agg (dR x.o x.A x.n x.c).toArray) Z (dI [true,false] Z (by kernel_rfl) (eP bCs Z Z (aBp _ x.o x.A x.n x.c (hP.mem M9) (hby x hxm)) ?_)))))))))))
  rintro v10 w10 ⟨p2,rfl,hp2,hM10⟩
  have M10:Mem _ _ ([_,_,_,_,_]++_) _:=Mem.front (L:=[_,_,_,_]) (M9.call0 hM10)
  refine aB (aC ⟨(dS (bI Z (aK 1 (.slice _ _ _) iI M10 Z Z Z)) dJ), ?_⟩)
  refine dI [false] Z (by kernel_rfl) (cC [.agg (List.toArray _)] [dR x.o p2.A p2.n p2.c] Z pC M10 Z Z Z Z (cU Z) (by decide) (fun b11 w11 M11 => ?_))
  have M12:Mem _ _ ([_,_,_,_,_,_]++_) _:=Mem.front (L:=[_,_,_,_,_]) M11
  refine aB (aC ⟨(dS (bI Z (aK 1 (.slice _ _ _) iI M12 Z Z Z)) dJ), ?_⟩)
  refine dI [true] rfl (by kernel_rfl) (cW 2 [dR x.o p2.A p2.n p2.c] pC M12 rfl rfl rfl rfl rfl hqo rfl (by simp [dR,aF,Go.Bil.one]) (dL.ofMem 5 M12 rfl) (by omega) (fun A13 c13 e13 w13 M13 hR13 => ?_))
  refine aB (aC ⟨dJ, ?_⟩)
  refine aV Z Z Z (fun _=>aD 0 fP Z) (dI [] Z (by kernel_rfl) (dA 1 (.slice _ _ _) iI M13 Z Z Z Z Z Z (fun w14 M14 => ?_)))
  refine aB (aC ⟨dJ, ?_⟩)
  refine bS (cR (aC (aA (wq (bC Z Z (by omega) (by omega)) Z (aQ Z Z (aB ?_))))))
  refine bX (i+1,⟨A13,qo.n+1,c13,e13⟩,ps++[p2]) (bE Z dZ) (bZ Z (bZ Z (bZ Z (bZ Z (bZ Z gK))))) ?_ ?_
  ·exact ⟨⟨by omega,by rw [cH hxo,uH hpl,List.map_append];exact hR13,by rw [cH hxo,List.map_append];exact hpb.add hp2⟩,Mem.pushNew (L:=[_,_,_]) p2 (Mem.keepL (L:=[_,_,_,_,_,_]) [true,true,true,false,true,false] M14)⟩
  ·(show n - (i+1) < n - i;omega)
 ·have hin:i=n:=by omega
  rw [hin,List.take_of_length_le (by rw [fE];omega)] at hqo hpb hpl
  refine cN (dC (dE (eJ (aC (aE (aA (aR aUz hM5 Z Z (fun b15 w15 M15 => ?_))))))))
  have M16:Mem _ _ ([_,_,_,_]++_) _:=Mem.front (L:=[_,_,_]) M15
  have M17:=Mem.dummyL (L:=[_,_,_,_,_]) (Mem.dummyL (L:=[_,_,_,_]) M16 default) default
  refine aR bIb M17 Z Z (fun b18 w18 M18 => ?_)
  have M19:Mem _ _ ([_,_,_,_,_,_,_]++_) _:=Mem.front (L:=[_,_,_,_,_,_]) M18
  refine dA 6 (.pointer _) aKn M19 Z Z Z Z Z Z (fun w20 M20=>(aB (aC (aE (aA (wq (aK 6 (.pointer _) aKn M20 Z Z Z) Z (wq (aD 0 fP Z) Z (wq (aK 1 (.slice _ _ _) iI M20 Z Z Z) Z (wq (aD 1 mZ Z) Z (wq (aK 1 (.int _ _) fT M20 Z Z Z) Z (wq (dU [] [.pointer _,.pointer _] Z Z) Z ?_)))))))))))
  have M21:Mem _ _ ([_,_,_,_,_,_,_]++(ps.map Row.e)) _:=M20
  refine eP bMp rfl rfl (bLb _ (F.mem M21) (N.mem M21) b15 b2 b18 k hkp ⟨none,0,0,none,(none,default),(none,default)⟩ (dB.new 43 default default) qo (oM (opsO l) ps) hqo (aDy hpb hgood hqo M21 (bA (i:=2) rfl) (jE sT)).each (aWp hpb hgood) (by omega) (M21.ownSeg 1 6) (M21.away 1 6 F (by simp)) (M21.away 1 6 N (by simp)) (bFp (L:=[_,_,_,_,_,_,_]) hpb M21 sT 1 6)) ?_
  rintro v22 w22 ⟨r2,qm,q,ms,rs,rfl,hr2,hqm,hmb,hq,hoR,hM22⟩
  have M22:Mem _ _ ([_,_,_,_,_,_,_,_,_]++_) _:=Mem.front (L:=[_,_,_,_,_,_,_]) (Mem.segU (L:=[_,_,_,_,_,_,_]) (B:=[_,_,_,_,_,_]) (A:=[_,_]) 1 6 M21 (Nat.le_of_ble_eq_true rfl) hM22)
  rw [zO hpl] at hr2 hmb hq hoR
  refine eH Z Z (aB (aC (aE (aA (wq (aX 1 lM M22 Z Z Z) Z (dK Z Z (bG 0 _ lM M22 Z Z Z Z Z (aS Z) Z (fun w23 M23=>(eH Z Z (aB (aC (aO (tH (v2:=.slice _ _ _) 0 lM M23 Z Z Z Z ?_)))))))))))))
  exact ⟨qo,qm,q,ps,ms,rs,Z,⟨hqo,hpb,hgood,hqm,by rw [show (opsO l).length=qo.n by rw [fE];omega];exact hmb⟩,hq,hoR,Mem.keepL (L:=[_,_,_,_,_,_,_,_,_]) [false,false,true,false,false,false,false,true,true] M23⟩
theorem bHt (w:World) (b xb wb gb:Nat) (A:Option Addr) (n c k:Nat) (B:Option Addr) (m d:Nat) (rs:List Row) (bs:List (List Int)) (hB:BytRd w B m rs bs) (r:StV) (vs:List Body) (hW:dB 43 r vs) (g:Int) (j:Nat) (hj:j < m) (hO:Own [(some xb,bc [.slice A n c,.int .i64 (k:Int),.slice B m d] 28),(some b,bc [.slice r.A r.n r.c,.map r.p] 73),r.er,r.em,(some wb,bc [.pointer (some ⟨b,0,none⟩)] 61),(some gb,bc [.int .i64 (g)] 3)] w) (hdB:0 < m→∀ q off,B=some ⟨q,off,none⟩→q∉bY [(some xb,bc [.slice A n c,.int .i64 (k:Int),.slice B m d] 28),(some b,bc [.slice r.A r.n r.c,.map r.p] 73),r.er,r.em,(some wb,bc [.pointer (some ⟨b,0,none⟩)] 61),(some gb,bc [.int .i64 (g)] 3)]) (pS:rN rs (bY [(some xb,bc [.slice A n c,.int .i64 (k:Int),.slice B m d] 28),(some b,bc [.slice r.A r.n r.c,.map r.p] 73),r.er,r.em,(some wb,bc [.pointer (some ⟨b,0,none⟩)] 61),(some gb,bc [.int .i64 (g)] 3)])) :
  Calls prog 29 #[.int .i64 (j:Int),.pointer (some ⟨gb,0,none⟩),.pointer (some ⟨wb,0,none⟩),.pointer (some ⟨xb,0,none⟩)] w (gH (fun v w'=>v=.tuple #[]∧Mem w (bY [(some xb,bc [.slice A n c,.int .i64 (k:Int),.slice B m d] 28),(some b,bc [.slice r.A r.n r.c,.map r.p] 73),r.er,r.em,(some wb,bc [.pointer (some ⟨b,0,none⟩)] 61),(some gb,bc [.int .i64 (g)] 3)]) [(some xb,bc [.slice A n c,.int .i64 (k:Int),.slice B m d] 28),(some b,bc [.slice r.A r.n r.c,.map r.p] 73),r.er,r.em,(some wb,bc [.pointer (some ⟨b,0,none⟩)] 61),(some gb,bc [.int .i64 (aHk g bs j (kH vs))] 3)] w')):=by
 obtain ⟨rj,bj,hrj,hbj,hhj,hrd,hbl,hcp⟩:=hB.at hj
 refine aI #[] 19 func29 Z results29 ntmps29 Z ?_
 have M0:=hO.mem
 refine aE (fW [(0,1),(1,0),(2,0),(3,1),(5,0),(6,1),(7,0),(8,1),(9,1),(4,2),(10,2),(11,0),(12,0)] mixed M0 Z (by kernel_rfl) (fun w1 M1=>(bP Z Z Z (aK 5 (.int _ _) fT M1 Z Z Z) (aV Z Z Z (fun _=>cA (.bool (decide _)) Z Z Z) (aV Z Z Z (fun _=>aH (.bool (decide _)) Z) ?_)))))
 refine tL 7 Z (fun g7 => ?_) (fun g7 => ?_)
 ·refine bP Z Z Z (aK 4 (.pointer _) aKn M1 Z Z Z) (aV Z Z Z (fun _=>aD 2 iZ Z) (bP Z Z Z (aK 0 (.slice _ _ _) gY M1 Z Z Z) (eD Z Z Z (bP Z Z Z (bJ (j) uS Z Z Z ((hB.rd.memY M1 hdB).below_len (hhj)) ((hB.rd.memY M1 hdB).someK (hhj))) (bP Z Z Z (fU (.slice _ _ _) kC (hB.rd.memY M1 hdB) (hhj) Z) (dI [false,false,false,true,true] Z (by kernel_rfl) (eP aVm Z Z (nG _ _ r _ hW (M1.ownSeg 1 3)) ?_)))))))
  rintro v2 w2 ⟨p,rfl,hp,hM2⟩
  have M2:Mem _ _ [_,_,_,_,_,_,_] _:=M1.seg 1 3 hM2
  refine aB (aC ⟨(dS (bI Z (fU (.slice _ _ _) kC (hB.rd.memY M2 hdB) (hhj) Z)) (dS (bI Z (bJ (j) uS Z Z Z ((hB.rd.memY M2 hdB).below_len (hhj)) ((hB.rd.memY M2 hdB).someK (hhj)))) (dS (bI Z (aK 0 (.slice _ _ _) gY M2 Z Z Z)) dJ))), ?_⟩)
  refine dI [true,true,true] Z (by kernel_rfl) (dN bTm Z Z M2 (aOm _ p.A p.n p.c (kH vs) (hp.rd M2 (bA (i:=6) Z)) (aJw _) rj.A rj.n rj.c bj (hrd.memY M2 (pS rj (List.mem_of_getElem? hrj))) hbl) (fun w3 M3 => ?_))
  refine aB (aC ⟨dJ, ?_⟩)
  refine aV Z Z Z (fun _=>pH Z) (aV Z Z Z (fun _=>bR true (.bool (decide _)) Z Z) (bS (aC ?_)))
  refine aU Z (fun h17 => ?_) (fun h17 => ?_)
  ·refine aA (aQ Z Z (dA 5 (.int _ _) fT M3 Z Z Z Z Z Z (fun w4 M4=>(aB (kI ?_)))))
   rw [show aHk g bs j (kH vs)=(j:Int) from if_pos ⟨g7,fun e=>h17 (by rw [hbj] at e;exact (Option.some.inj e).symm)⟩]
   exact ⟨Z,M4.keep [true,true,true,true,true,true,false]⟩
  ·refine aM (kI ?_)
   rw [show aHk g bs j (kH vs)=g from if_neg (fun h=>h.2 (by rw [hbj,Decidable.not_not.1 h17]))]
   exact ⟨Z,M3.keep [true,true,true,true,true,true,false]⟩
 ·refine pZ Z Z Z (xI Z Z Z (pZ Z Z Z (xI Z Z Z (pZ Z Z Z (pZ Z Z Z (dI [false,false,false,true,true] Z (by kernel_rfl) (aN Z Z ?_)))))))
  refine aB (aC ⟨(dS (.inr ⟨Z,Z⟩) (dS (.inr ⟨Z,Z⟩) (dS (.inr ⟨Z,Z⟩) dJ))), ?_⟩)
  refine dI [true,true,true] Z (by kernel_rfl) (aN Z Z ?_)
  refine aB (aC ⟨dJ, ?_⟩)
  refine xI Z Z Z (aV Z Z Z (fun _=>bR false (.bool false) Z Z) (bS (aC (cG Z (aM (kI ?_))))))
  rw [show aHk g bs j (kH vs)=g from if_neg (fun h=>g7 h.1)]
  exact ⟨Z,M1⟩
theorem bLc (w:World) (F:Rd w 2 (some ⟨0,0,none⟩) 1 [[.int .u32 73856093,.int .u32 19349663]]) (N:Rd w 4 (some ⟨3,0,none⟩) 1 [eC iU]) (b xb wb gb k:Nat) (hkp:0 < k) (A:Option Addr) (n c:Nat) (l:List OpRow) (hl:OpsRd w A n l) (B:Option Addr) (m d:Nat) (rs:List Row) (bs:List (List Int)) (hB:BytRd w B m rs bs) (r:StV) (hW:dB 43 r []) (hby:∀ x∈l,x.n≤1000000) (hn:n≤1000000) (hm:n / k≤m) (hO:Own [(some xb,bc [.slice A n c,.int .i64 (k:Int),.slice B m d] 28),(some b,bc [.slice r.A r.n r.c,.map r.p] 73),r.er,r.em,(some wb,bc [.pointer (some ⟨b,0,none⟩)] 61),(some gb,bc [.int .i64 (-1)] 3)] w) (hdF:0 < 1→∀ q off,(some ⟨0,0,none⟩:Option Addr)=some ⟨q,off,none⟩→q∉bY [(some xb,bc [.slice A n c,.int .i64 (k:Int),.slice B m d] 28),(some b,bc [.slice r.A r.n r.c,.map r.p] 73),r.er,r.em,(some wb,bc [.pointer (some ⟨b,0,none⟩)] 61),(some gb,bc [.int .i64 (-1)] 3)]) (hdN:0 < 1→∀ q off,(some ⟨3,0,none⟩:Option Addr)=some ⟨q,off,none⟩→q∉bY [(some xb,bc [.slice A n c,.int .i64 (k:Int),.slice B m d] 28),(some b,bc [.slice r.A r.n r.c,.map r.p] 73),r.er,r.em,(some wb,bc [.pointer (some ⟨b,0,none⟩)] 61),(some gb,bc [.int .i64 (-1)] 3)]) (hdB:0 < m→∀ q off,B=some ⟨q,off,none⟩→q∉bY [(some xb,bc [.slice A n c,.int .i64 (k:Int),.slice B m d] 28),(some b,bc [.slice r.A r.n r.c,.map r.p] 73),r.er,r.em,(some wb,bc [.pointer (some ⟨b,0,none⟩)] 61),(some gb,bc [.int .i64 (-1)] 3)]) (pS:rN rs (bY [(some xb,bc [.slice A n c,.int .i64 (k:Int),.slice B m d] 28),(some b,bc [.slice r.A r.n r.c,.map r.p] 73),r.er,r.em,(some wb,bc [.pointer (some ⟨b,0,none⟩)] 61),(some gb,bc [.int .i64 (-1)] 3)])) (hdl:0 < n→∀ q off,A=some ⟨q,off,none⟩→q∉bY [(some xb,bc [.slice A n c,.int .i64 (k:Int),.slice B m d] 28),(some b,bc [.slice r.A r.n r.c,.map r.p] 73),r.er,r.em,(some wb,bc [.pointer (some ⟨b,0,none⟩)] 61),(some gb,bc [.int .i64 (-1)] 3)]) (hdo:vD l (bY [(some xb,bc [.slice A n c,.int .i64 (k:Int),.slice B m d] 28),(some b,bc [.slice r.A r.n r.c,.map r.p] 73),r.er,r.em,(some wb,bc [.pointer (some ⟨b,0,none⟩)] 61),(some gb,bc [.int .i64 (-1)] 3)])) :
  Calls prog 20 #[.pointer (some ⟨b,0,none⟩),.slice A n c,.int .i64 (k:Int),(.func (.func 29) #[] #[.pointer (some ⟨gb,0,none⟩),.pointer (some ⟨wb,0,none⟩),.pointer (some ⟨xb,0,none⟩)]:Value)] w (gH (fun v w'=>∃ (r':StV) (q:Row),v=.slice q.A q.n q.c∧dB 43 r' (iB [] (opsO l))∧Mem w (bY [(some xb,bc [.slice A n c,.int .i64 (k:Int),.slice B m d] 28),(some b,bc [.slice r.A r.n r.c,.map r.p] 73),r.er,r.em,(some wb,bc [.pointer (some ⟨b,0,none⟩)] 61),(some gb,bc [.int .i64 (-1)] 3)]) [(some xb,bc [.slice A n c,.int .i64 (k:Int),.slice B m d] 28),(some b,bc [.slice r'.A r'.n r'.c,.map r'.p] 73),r'.er,r'.em,(some wb,bc [.pointer (some ⟨b,0,none⟩)] 61),(some gb,bc [.int .i64 (iX (opsO l) k bs (n / k))] 3)] w')):=by
 have hlen:l.length=n:=by simpa using hl.rd.len
 have hbd:=hl.rd.bound
 refine aI #[.tmp 8] 37 func20 Z results20 ntmps20 Z ?_
 have M0:=hO.mem
 refine aE (aA (eH Z Z (aB (aC (aE (aA (eH Z Z ?_)))))))
 have M1:=M0.dummy default
 refine aB (aC (aE (aE (aA (dK Z Z (wq (cK underlying25 Z) Z (aQ Z Z (aB (aC (aP (dG (σ:=Nat × StV × Row × List Row) [0,2,3,8,12,13] (fun (i,r',q,os)=>[(9,.slice q.A q.n q.c),(14,.int .i64 (i:Int))]) (fun (i,r',q,os) w'=>(i≤n∧dB 43 r' (iB [] ((opsO l).take i))∧aZ 36 4 q.A q.n q.c (kV ((lZ [] ((opsO l).take i))) os) q.e∧OutR 5 os (lZ [] ((opsO l).take i)))∧Mem w (bY [(some xb,bc [.slice A n c,.int .i64 (k:Int),.slice B m d] 28),(some b,bc [.slice r.A r.n r.c,.map r.p] 73),r.er,r.em,(some wb,bc [.pointer (some ⟨b,0,none⟩)] 61),(some gb,bc [.int .i64 (-1)] 3)]) ([(some xb,bc [.slice A n c,.int .i64 (k:Int),.slice B m d] 28),(some b,bc [.slice r'.A r'.n r'.c,.map r'.p] 73),r'.er,r'.em,(some wb,bc [.pointer (some ⟨b,0,none⟩)] 61),(some gb,bc [.int .i64 (iX (opsO l) k bs (i / k))] 3),q.e]++os.map Row.e) w') (fun (i,r',q,os)=>n - i) (0,r,fH,[]) (bE Z (bE Z dZ)) (⟨⟨by omega,hW,aZ.nil _ _ _,OutR.nil _⟩,by rw [Nat.zero_div];exact M1⟩) ?_)))))))))))
 rintro ⟨i,r',q,os⟩ ρ2 w2 ⟨⟨hi,hr,hq,hoR⟩,hM2⟩
 have hqn:(kV (lZ [] ((opsO l).take i)) os).length=q.n:=hq.1
 rw [oO hoR.len,oQ,List.length_take,fE] at hqn
 refine aE (aA (cX Z Z Z Z (aB (aC (aE ?_)))))
 refine aU Z (fun h15 => ?_) (fun h15 => ?_)
 ·obtain ⟨x,hx⟩:=cF (xs:=l) (k:=i) hlen (by omega)
  have hxm:=List.mem_of_getElem? hx
  have hxo:=pP hx
  have hP:=hl.each x hxm
  refine aM (aC (aE (aP (aE (aA (aQ Z Z (wq (bJ (i) pC Z Z Z ((hl.rd.memY hM2 hdl).below_len (aG OpRow.cells hx)) ((hl.rd.memY hM2 hdl).someK (aG OpRow.cells hx))) Z (wq (dW _ jW (hl.rd.memY hM2 hdl) (aG OpRow.cells hx) Z) Z (aR aId hM2 Z Z (fun b3 w3 M3 => ?_))))))))))
  have M4:Mem _ _ ([_,_,_,_,_,_,_,_]++_) _:=Mem.front (L:=[_,_,_,_,_,_,_]) M3
  refine bK Z Z (bG 7 _ jW M4 Z Z Z Z Z (aS Z) Z (fun w5 M5=>(aB (aC (aE (aA (dK Z Z (wq (aH (.pointer _) Z) Z (wq (aX 7 jW M5 Z Z Z) Z (aL 21 (.agg (dR x.o x.A x.n x.c).toArray) Z (eP aVn Z Z (wB _ (F.memY M5 hdF) (N.memY M5 hdN) _ r' _ hr (M5.ownSeg 1 3) x.o x.A x.n x.c (hP.memY M5 (hdo x hxm)) (hby x hxm) (M5.away 1 3 hP.rd (hdo x hxm)) (M5.away 1 3 F hdF) (M5.away 1 3 N hdN)) ?_)))))))))))
  rintro v6 w6 ⟨r2,p2,rfl,hr2,hp2,hM6⟩
  have M6:Mem _ _ ([_,_,_,_,_,_,_,_,_]++_) _:=Mem.front (L:=[_,_,_,_,_,_,_,_]) (M5.seg 1 3 hM6)
  refine cC [.agg (List.toArray _)] [eG (jT (iB [] ((opsO l).take i)) x.o).2 p2] Z bAp M6 Z Z Z Z (cU Z) (by decide) (fun b7 w7 M7 => ?_)
  have M8:Mem _ _ ([_,_,_,_,_,_,_,_,_,_]++_) _:=Mem.front (L:=[_,_,_,_,_,_,_,_,_]) M7
  refine cW 6 [eG (jT (iB [] ((opsO l).take i)) x.o).2 p2] bAp M8 rfl rfl rfl rfl rfl hq rfl (by simp [eG,Go.Bil.one]) (dL.ofMem 9 M8 rfl) (by omega) (fun A9 c9 e9 w9 M9 hR9=>(eH rfl rfl (aB (aC (aE (aA (aQ rfl rfl (wq (bC rfl rfl (by omega) (by omega)) rfl (aL 26 (.int .i64 ((i+1:Nat):Int)) (iE (by omega)) (aQ rfl rfl (wq (iJ rfl rfl (by omega)) rfl (aL 28 (.int .i64 (((i+1) % k:Nat):Int)) (iE (aAf rfl rfl)) (cX rfl rfl rfl rfl (aB (aC ?_)))))))))))))))
  refine aU Z (fun h29 => ?_) (fun h29 => ?_)
  ·have hz:=bRt h29
   have hjm:i / k < m:=by have h1:=(aBh (l:=opsO l) hkp hz).2;have h2:(i+1) / k≤n / k:=Nat.div_le_div_right (by omega);omega
   refine aA (wq (aH (.func _ _ _) Z) Z (aQ Z Z (aQ Z Z (wq (gA Z Z (by omega)) Z (aL 33 (.int .i64 ((i / k:Nat):Int)) (iE (bKv Z (by omega))) (eP bTl Z Z (bHt _ b xb wb gb A n c k B m d rs bs (hB.memY M9 hdB pS) r2 _ hr2 (iX (opsO l) k bs (i / k)) (i / k) hjm (M9.ownSeg 0 6) (M9.away 0 6 hB.rd hdB) (hB.seg M9 pS 0 6)) ?_))))))
   rintro v10 w10 ⟨rfl,hM10⟩
   have M10:Mem _ _ ([_,_,_,_,_,_,_,_,_,_]++_) _:=Mem.segE (L:=[_,_,_,_,_,_,_,_,_,_]) 0 6 M9 (Nat.le_of_ble_eq_true rfl) hM10
   refine aB (cR (aC (aA (wq (bC Z Z (by omega) (by omega)) Z (aQ Z Z (aB ?_))))))
   refine bX (i+1,r2,⟨A9,q.n+1,c9,e9⟩,os++[p2]) (bE Z (bE Z dZ)) (bZ Z (bZ Z (bZ Z (bZ Z (bZ Z (bZ Z gK)))))) ?_ ?_
   ·exact ⟨⟨by omega,by rw [mS hxo];exact hr2,by rw [jF hxo,pU hoR.len];exact hR9,by rw [jF hxo];exact hoR.add hp2⟩,by rw [bBh hkp hz,mS hxo];exact Mem.pushNew (L:=[_,_,_,_,_,_,_]) p2 (Mem.keepL (L:=[_,_,_,_,_,_,_,_,_,_]) [true,true,true,true,true,true,true,false,true,false] M10)⟩
   ·(show n - (i+1) < n - i;omega)
  ·have hz:=bRu h29
   refine aM (cR (aC (aA (wq (bC Z Z (by omega) (by omega)) Z (aQ Z Z (aB ?_))))))
   refine bX (i+1,r2,⟨A9,q.n+1,c9,e9⟩,os++[p2]) (bE Z (bE Z dZ)) (bZ Z (bZ Z (bZ Z (bZ Z (bZ Z (bZ Z gK)))))) ?_ ?_
   ·exact ⟨⟨by omega,by rw [mS hxo];exact hr2,by rw [jF hxo,pU hoR.len];exact hR9,by rw [jF hxo];exact hoR.add hp2⟩,by rw [aGe hkp hz];exact Mem.pushNew (L:=[_,_,_,_,_,_,_]) p2 (Mem.keepL (L:=[_,_,_,_,_,_,_,_,_,_]) [true,true,true,true,true,true,true,false,true,false] M9)⟩
   ·(show n - (i+1) < n - i;omega)
 ·have hin:i=n:=by omega
  rw [hin] at hM2
  rw [hin,List.take_of_length_le (by rw [fE];omega)] at hr hq hoR
  refine cN (dC (dE (eJ (aC (aE (aA (dK Z Z (eH Z Z (aB (aC (aO (cI (.slice _ _ _) Z ?_))))))))))))
  exact ⟨r',q,Z,hr,(Mem.noT hM2).keep [true,true,true,true,true,true,false]⟩
theorem bLr (w:World) (F:Rd w 2 (some ⟨0,0,none⟩) 1 [[.int .u32 73856093,.int .u32 19349663]]) (N:Rd w 4 (some ⟨3,0,none⟩) 1 [eC iU]) (A:Option Addr) (n c:Nat) (l:List OpRow) (hl:OpsRd w A n l) (hby:∀ x∈l,x.n≤1000000) (hn:n≤1000000) (B:Option Addr) (m d:Nat) (rs:List Row) (bs:List (List Int)) (hB:BytRd w B m rs bs) (z:Int) (hz:z < 1) :
  Calls prog 16 #[.agg [.slice A n c,.int .i64 z,.slice B m d].toArray] w (Rb w (.tuple #[.int .i64 0,.int .i64 1])):=by
 have hlen:l.length=n:=by simpa using hl.rd.len
 have hbd:=hl.rd.bound
 refine aI #[.tmp 2,.tmp 3] 35 func16 Z results16 ntmps16 Z ?_
 have M0:=Mem.refl w
 refine aE (aA (bN (.agg (.mk _)) M0 Z Z Z (fun b1 w1 M1=>(bK Z Z (bK Z Z (aB (aC (aE (aE (fW [(0,0),(1,1),(2,0),(3,0),(4,0),(5,1),(6,0),(7,0),(8,1),(9,0),(10,0),(11,1),(12,0),(13,0),(14,0)] mixed M1 Z (by kernel_rfl) (fun w2 M2=>(aV Z Z Z (fun _=>aD 1 mZ Z) (bP Z Z Z (aK 0 (.int _ _) fT M2 Z Z Z) (aV Z Z Z (fun _=>cA (.bool (decide _)) Z Z Z) (dV 8 (.bool true) (bT (by omega)).symm (aV Z Z Z (fun _=>aH (.bool true) Z) (xI Z Z Z (pZ Z Z Z ?_))))))))))))))))))
 refine xI Z Z Z (xI Z Z Z (pZ Z Z Z (xI Z Z Z (xI Z Z Z (pZ Z Z Z (xI Z Z Z (xI Z Z Z (aV Z Z Z (fun _=>bR true (.bool true) Z Z) (bS (aC (cE Z (aE (aA (bK Z Z (bK Z Z (aB (aC (aO (cO ?_)))))))))))))))))))
 refine fX (.int _ _) (.int _ _) Z Z ?_
 exact ⟨Z,M2.below⟩
theorem bSl (w:World) (F:Rd w 2 (some ⟨0,0,none⟩) 1 [[.int .u32 73856093,.int .u32 19349663]]) (N:Rd w 4 (some ⟨3,0,none⟩) 1 [eC iU]) (A:Option Addr) (n c:Nat) (l:List OpRow) (hl:OpsRd w A n l) (hby:∀ x∈l,x.n≤1000000) (hn:n≤1000000) (B:Option Addr) (m d:Nat) (rs:List Row) (bs:List (List Int)) (hB:BytRd w B m rs bs) (k:Nat) (hkp:0 < k) (hm:m=n / k) :
  Calls prog 16 #[.agg [.slice A n c,.int .i64 (k:Int),.slice B m d].toArray] w (Rb w (.tuple #[.int .i64 (aUq (opsO l) k bs).1,.int .i64 (aUq (opsO l) k bs).2])):=by
 have hlen:l.length=n:=by simpa using hl.rd.len
 have hbd:=hl.rd.bound
 refine aI #[.tmp 2,.tmp 3] 35 func16 Z results16 ntmps16 Z ?_
 have M0:=Mem.refl w
 refine aE (aA (bN (.agg (.mk _)) M0 Z Z Z (fun b1 w1 M1=>(bK Z Z (bK Z Z (aB (aC (aE (aE (fW [(0,0),(1,1),(2,0),(3,0),(4,0),(5,1),(6,0),(7,0),(8,1),(9,0),(10,0),(11,1),(12,0),(13,0),(14,0)] mixed M1 Z (by kernel_rfl) (fun w2 M2=>(aV Z Z Z (fun _=>aD 1 mZ Z) (bP Z Z Z (aK 0 (.int _ _) fT M2 Z Z Z) (aV Z Z Z (fun _=>cA (.bool (decide _)) Z Z Z) (dV 8 (.bool false) (bF (by omega)).symm (aV Z Z Z (fun _=>aH (.bool false) Z) (aV Z Z Z (fun _=>aD 2 iZ Z) ?_)))))))))))))))))
 refine bP Z Z Z (aK 0 (.slice _ _ _) gY M2 Z Z Z) (aV Z Z Z (fun _=>cK underlying26 Z) (aV Z Z Z (fun _=>aD 0 fP Z) (bP Z Z Z (aK 0 (.slice _ _ _) iI M2 Z Z Z) (aV Z Z Z (fun _=>cK underlying25 Z) (aV Z Z Z (fun _=>aD 1 mZ Z) (bP Z Z Z (aK 0 (.int _ _) fT M2 Z Z Z) (aV Z Z Z (fun _=>gA Z Z (by omega)) (dV 18 (.int .i64 ((n / k:Nat):Int)) (iE (bKv Z (by omega))) (aV Z Z Z (fun _=>cA (.bool (decide _)) Z Z Z) (dV 19 (.bool false) (bF (fun h=>h (by rw [hm]))).symm ?_))))))))))
 refine aV Z Z Z (fun _=>bR false (.bool false) Z Z) (bS (aC (cG Z (aM (aC (aE (aA (aR aUz M2 Z Z (fun b3 w3 M3 => ?_)))))))))
 have M4:=(M3.dummy default).dummy default
 refine aR bIb M4 rfl rfl (fun b5 w5 M5=>(aR bNv M5 rfl rfl (fun b6 w6 M6=>(dA 4 (.pointer _) aKn M6 rfl rfl rfl rfl rfl rfl (fun w7 M7=>(dA 5 (.int _ _) fT M7 rfl rfl rfl rfl rfl rfl (fun w8 M8=>(aB (aC (aE (aA (wq (aK 4 (.pointer _) aKn M8 rfl rfl rfl) rfl (wq (aD 0 fP rfl) rfl (wq (aK 0 (.slice _ _ _) iI M8 rfl rfl rfl) rfl (wq (aD 1 mZ rfl) rfl (wq (aK 0 (.int _ _) fT M8 rfl rfl rfl) rfl (wq (dU [] [.pointer _,.pointer _,.pointer _] rfl rfl) rfl (eP bMp rfl rfl (bLc _ (F.mem M8) (N.mem M8) b3 b1 b5 b6 k hkp A n c l (hl.mem M8) B m d rs bs (hB.mem M8) ⟨none,0,0,none,(none,default),(none,default)⟩ (dB.new 43 default default) hby hn (by rw [hm];exact Nat.le_refl _) (M8.ownSeg 0 6) (M8.away 0 6 F (by simp)) (M8.away 0 6 N (by simp)) (M8.away 0 6 hB.rd (by simp)) (hB.seg M8 (bBv rs) 0 6) (M8.away 0 6 hl.rd (by simp)) (fun x hx=>M8.away 0 6 (hl.each x hx).rd (by simp))) ?_))))))))))))))))))
 rintro v9 w9 ⟨r2,q,rfl,hr2,hM9⟩
 have M9:Mem _ _ [_,_,_,_,_,_] _:=M8.seg 0 6 hM9
 have hbm:bs.length=n / k:=by rw [hB.n_eq.1,hm]
 refine aB (aC (aE (aE (aA (wq (aK 5 (.int _ _) fT M9 Z Z Z) Z (cX Z Z Z Z (aB (aC ?_))))))))
 refine aU Z (fun h30 => ?_) (fun h30 => ?_)
 ·refine aE (aA (wq (aK 5 (.int _ _) fT M9 Z Z Z) Z (bK Z Z (bK Z Z (aB (aC (aO (cO (fX (.int _ _) (.int _ _) Z Z ?_)))))))))
  exact ⟨by unfold aUq;rw [hbm,if_pos h30],M9.below⟩
 ·refine aM (aC (aE (aA (wq (aD 2 iZ Z) Z (wq (aK 0 (.slice _ _ _) gY M9 Z Z Z) Z (wq (cK underlying26 Z) Z (bK Z Z (bK Z Z (aB (aC (aO (fX (.int _ _) (.int _ _) Z Z ?_))))))))))))
  exact ⟨by unfold aUq;rw [hbm,if_neg h30,← hm],M9.below⟩
theorem bGw (w:World) (F:Rd w 2 (some ⟨0,0,none⟩) 1 [[.int .u32 73856093,.int .u32 19349663]]) (N:Rd w 4 (some ⟨3,0,none⟩) 1 [eC iU]) (A:Option Addr) (n c:Nat) (l:List OpRow) (hl:OpsRd w A n l) (hcap:n≤c) (hby:∀ x∈l,x.n≤1000000) (hn:n≤1000000) (B:Option Addr) (m d:Nat) (rs:List Row) (bs:List (List Int)) (hB:BytRd w B m rs bs) (k:Nat) (z:Int) (hz:z < 0∨(n:Int) < z) :
  Calls prog 17 #[.agg [.slice A n c,.int .i64 (k:Int),.slice B m d].toArray,.int .i64 z] w (Rb w (.tuple #[.pointer none,.int .i64 1])):=by
 have hlen:l.length=n:=by simpa using hl.rd.len
 have hbd:=hl.rd.bound
 refine aI #[.tmp 4,.tmp 5] 43 func17 Z results17 ntmps17 Z ?_
 have M0:=Mem.refl w
 refine aE (aA (bN (.agg (.mk _)) M0 Z Z Z (fun b1 w1 M1=>(wq (aJ (.pointer _) Z) Z (bK Z Z (aB (aC (aE (aE (aA (aQ Z Z (cX Z Z Z Z (wq (aH (.bool (decide _)) Z) Z ?_)))))))))))))
 refine dQ 10 Z (fun g10 => ?_) (fun g10 => ?_)
 ·refine aN Z Z (aN Z Z (aN Z Z (aN Z Z (aN Z Z (wq (bR true (.bool true) Z Z) Z (aB (aC (cE Z (aE (aA (wq (aJ (.pointer _) Z) Z (bK Z Z (aB (aC (aO (cO (fX (.pointer _) (.int _ _) Z Z ?_)))))))))))))))))
  exact ⟨Z,M1.below⟩
 ·refine aQ Z Z (wq (aD 0 fP Z) Z (wq (aK 0 (.slice _ _ _) iI M1 Z Z Z) Z (wq (cK underlying25 Z) Z (cX Z Z Z Z (kR 15 Z (by omega) (wq (bR false (.bool true) Z Z) Z (aB (aC (cE Z (aE (aA (wq (aJ (.pointer _) Z) Z (bK Z Z (aB (aC (aO (cO (fX (.pointer _) (.int _ _) Z Z ?_))))))))))))))))))
  exact ⟨Z,M1.below⟩
theorem aXb (w:World) (F:Rd w 2 (some ⟨0,0,none⟩) 1 [[.int .u32 73856093,.int .u32 19349663]]) (N:Rd w 4 (some ⟨3,0,none⟩) 1 [eC iU]) (A:Option Addr) (n c:Nat) (l:List OpRow) (hl:OpsRd w A n l) (hcap:n≤c) (hby:∀ x∈l,x.n≤1000000) (hn:n≤1000000) (B:Option Addr) (m d:Nat) (rs:List Row) (bs:List (List Int)) (hB:BytRd w B m rs bs) (hlb:∀ b∈bs,b.length≤1000000) (k:Nat) (hkp:0 < k) (hm:n / k≤m) (nn:Nat) (hnn:nn≤n) :
  Calls prog 17 #[.agg [.slice A n c,.int .i64 (k:Int),.slice B m d].toArray,.int .i64 (nn:Int)] w (gH (fun v w'=>∃ (b:Nat) (r:StV),v=.tuple #[.pointer (some ⟨b,0,none⟩),.int .i64 0]∧dB 43 r (aHc (opsO l) k bs nn)∧Mem w [] [(some b,bc [.slice r.A r.n r.c,.map r.p] 73),r.er,r.em] w')):=by
 have hlen:l.length=n:=by simpa using hl.rd.len
 have hbd:=hl.rd.bound
 obtain ⟨a,ha⟩:∃ a,a=nn / k:=⟨_,rfl⟩
 have haN:a≤nn:=by rw [ha];exact Nat.div_le_self nn k
 have hak:a*k≤nn:=by rw [ha];exact Nat.div_mul_le_self nn k
 have ham:a≤m:=by rw [ha];exact Nat.le_trans (Nat.div_le_div_right hnn) hm
 have haki:(a:Int)*(k:Int)=((a*k:Nat):Int):=(Int.natCast_mul a k).symm
 have hS:=hl.sub (a*k) nn hak hnn hcap
 refine aI #[.tmp 4,.tmp 5] 43 func17 Z results17 ntmps17 Z ?_
 have M0:=Mem.refl w
 refine aE (aA (bN (.agg (.mk _)) M0 Z Z Z (fun b1 w1 M1=>(wq (aJ (.pointer _) Z) Z (bK Z Z (aB (aC (aE (aE (aA (aQ Z Z (cX Z Z Z Z (pD 9 Z (by omega) (wq (aH (.bool false) Z) Z (aQ Z Z (wq (aD 0 fP Z) Z (wq (aK 0 (.slice _ _ _) iI M1 Z Z Z) Z (wq (cK underlying25 Z) Z (cX Z Z Z Z (pD 15 Z (by omega) (wq (bR false (.bool false) Z Z) Z ?_)))))))))))))))))))))
 refine aB (aC (cG Z (aM (aC (aE (fW [(1,0),(2,0),(3,1),(4,0),(0,2),(5,0),(6,0)] mixed M1 Z (by kernel_rfl) (fun w2 M2=>(eD Z Z Z (aV Z Z Z (fun _=>aD 1 mZ Z) (bP Z Z Z (aK 0 (.int _ _) fT M2 Z Z Z) (aV Z Z Z (fun _=>gA Z Z (by omega)) (dV 21 (.int .i64 (a:Int)) (iE (bKv ha (by omega))) (dI [false] Z (by kernel_rfl) (aR aUz M2 Z Z (fun b3 w3 M3 => ?_)))))))))))))))
 refine aB (aC ⟨(dS (bI Z (aK 0 (.int _ _) fT M3 Z Z Z)) dJ), ?_⟩)
 have M4:=(M3.dummy default).dummy default
 refine aV Z Z Z (fun _=>aJ (.pointer _) Z) (mW Z Z Z (bS (aC (aE (aE (aA (aQ Z Z (cX Z Z Z Z (aB (aC ?_))))))))))
 refine aU Z (fun h23 => ?_) (fun h23 => ?_)
 ·have ha0:0 < a:=by omega
  obtain ⟨rj,bj,hrj,hbj,hhj,hrd,hbl,hcp⟩:=hB.at (j:=a - 1) (by omega)
  have hbjl:bj.length=rj.n:=by simpa using hrd.len
  have hbj6:=hlb bj (List.mem_of_getElem? hbj)
  refine aA (wq (aH (.pointer _) rfl) rfl (wq (aD 2 iZ rfl) rfl (wq (aK 0 (.slice _ _ _) gY M4 rfl rfl rfl) rfl (aQ rfl rfl (wq (gG rfl rfl (by omega) (by omega)) rfl (aL 28 (.int .i64 ((a - 1:Nat):Int)) (iE (by omega)) (wq (bJ ((a - 1)) uS rfl rfl rfl ((hB.rd.mem M4).below_len (hhj)) ((hB.rd.mem M4).someK (hhj))) rfl (wq (fU (.slice _ _ _) kC (hB.rd.mem M4) (hhj) rfl) rfl (eP bMs rfl rfl (xG _ _ ⟨none,0,0,none,(none,default),(none,default)⟩ _ (dB.new 43 default default) (M4.ownSeg 1 3) rj.A rj.n rj.c bj (hrd.mem M4) hbl hcp (by omega) (M4.away 1 3 hrd (by simp))) ?_)))))))))
  rintro v5 w5 ⟨r1,rfl,hr1,hM5⟩
  have M5:Mem _ _ [_,_,_,_] _:=M4.seg 1 3 hM5
  refine aB (aC (aE (aA (wq (aH (.pointer _) rfl) rfl (wq (aD 0 fP rfl) rfl (wq (aK 0 (.slice _ _ _) iI M5 rfl rfl rfl) rfl (aQ rfl rfl (wq (aD 1 mZ rfl) rfl (wq (aK 0 (.int _ _) fT M5 rfl rfl rfl) rfl (wq (fC rfl rfl (by rw [haki];omega) (by rw [haki];omega)) rfl (aL 38 (.int .i64 ((a*k:Nat):Int)) (iE haki) (aQ rfl rfl (wq (eS (((a*k:Nat):Int)) ((nn:Int)) pC rfl ⟨_,rfl⟩ ⟨_,rfl⟩ (by omega) (by omega) (by omega)) rfl (eP bMt rfl rfl (aHb _ (F.mem M5) (N.mem M5) _ r1 _ hr1 (M5.ownSeg 1 3) (M5.away 1 3 F (by simp)) (M5.away 1 3 N (by simp)) _ (nn - a*k) _ ((l.drop (a*k)).take (nn - a*k)) (hS.mem M5) (fun x hx=>hby x (List.mem_of_mem_drop (List.mem_of_mem_take hx))) (by omega) (M5.away 1 3 hS.rd (by simp)) (fun x hx=>M5.away 1 3 (hS.each x hx).rd (by simp))) ?_))))))))))))))
  rintro v6 w6 ⟨r2,q,os,rfl,hr2,hq,hoR,hM6⟩
  have M6:Mem _ _ ([_,_,_,_,_]++_) _:=M5.seg 1 3 hM6
  refine aB (aC (aE (aA (wq (aH (.pointer _) Z) Z (wq (aJ (.pointer _) Z) Z (bK Z Z (aB (aC (aO (fX (.pointer _) (.int _ _) Z Z ?_))))))))))
  exact ⟨_,r2,Z,by rw [bGx ha ha0 hbj,← aKo,← vY];exact hr2,(Mem.noT M6).keep [false,true,true,true,false]⟩
 ·have ha0:a=0:=by omega
  refine aM (aC (aE (aA (wq (aH (.pointer _) rfl) rfl (wq (aD 0 fP rfl) rfl (wq (aK 0 (.slice _ _ _) iI M4 rfl rfl rfl) rfl (aQ rfl rfl (wq (aD 1 mZ rfl) rfl (wq (aK 0 (.int _ _) fT M4 rfl rfl rfl) rfl (wq (fC rfl rfl (by rw [haki];omega) (by rw [haki];omega)) rfl (aL 38 (.int .i64 ((a*k:Nat):Int)) (iE haki) (aQ rfl rfl (wq (eS (((a*k:Nat):Int)) ((nn:Int)) pC rfl ⟨_,rfl⟩ ⟨_,rfl⟩ (by omega) (by omega) (by omega)) rfl (eP bMt rfl rfl (aHb _ (F.mem M4) (N.mem M4) _ ⟨none,0,0,none,(none,default),(none,default)⟩ _ (dB.new 43 default default) (M4.ownSeg 1 3) (M4.away 1 3 F (by simp)) (M4.away 1 3 N (by simp)) _ (nn - a*k) _ ((l.drop (a*k)).take (nn - a*k)) (hS.mem M4) (fun x hx=>hby x (List.mem_of_mem_drop (List.mem_of_mem_take hx))) (by omega) (M4.away 1 3 hS.rd (by simp)) (fun x hx=>M4.away 1 3 (hS.each x hx).rd (by simp))) ?_))))))))))))))
  rintro v7 w7 ⟨r2,q,os,rfl,hr2,hq,hoR,hM7⟩
  have M7:Mem _ _ ([_,_,_,_,_]++_) _:=M4.seg 1 3 hM7
  refine aB (aC (aE (aA (wq (aH (.pointer _) Z) Z (wq (aJ (.pointer _) Z) Z (bK Z Z (aB (aC (aO (fX (.pointer _) (.int _ _) Z Z ?_))))))))))
  exact ⟨_,r2,Z,by rw [bAl ha ha0,← aKo,← vY];exact hr2,(Mem.noT M7).keep [false,true,true,true,false]⟩
theorem aKu (w:World) (F:Rd w 2 (some ⟨0,0,none⟩) 1 [[.int .u32 73856093,.int .u32 19349663]]) (N:Rd w 4 (some ⟨3,0,none⟩) 1 [eC iU]) (A:Option Addr) (n c:Nat) (l:List OpRow) (hl:OpsRd w A n l) (hcap:n≤c) (hby:∀ x∈l,x.n≤1000000) (hn:n≤1000000) (k:Nat) (hkp:0 < k) (B:Option Addr) (m d:Nat) (rs:List Row) (hB:BytRd w B m rs (fM (opsO l) k ((opsO l).length / k))) (o:OpI) (BA:Option Addr) (nn cc:Nat) (hP:OpOk w o BA nn cc) (hnn:nn≤1000000) :
  Calls prog 9 #[.agg [.slice A n c,.int .i64 (k:Int),.slice B m d].toArray,.agg (dR o BA nn cc).toArray] w (gH (fun v w'=>∃ (qo qm p:Row) (ps ms:List Row),v=.tuple #[.agg [.slice qo.A qo.n qo.c,.int .i64 (k:Int),.slice qm.A qm.n qm.c].toArray,.agg (eG (jT (iB [] (opsO l)) o).2 p).toArray]∧LogR 45 34 5 (opsO l++[o]) k qo qm ps ms∧aZ 5 1 p.A p.n p.c (((jT (iB [] (opsO l)) o).2.bytes).map bB) p.e∧Mem w [] ([p.e,qo.e,qm.e]++(ps.map Row.e++ms.map Row.e)) w')):=by
 have hlen:l.length=n:=by simpa using hl.rd.len
 have hbd:=hl.rd.bound
 have hgood:=hl.good hby
 have hok:=hl.okO hby
 have hol:(opsO l).length=n:=by rw [fE];exact hlen
 have hmn:m=n / k:=by rw [← hB.n_eq.1,mP,hol]
 have hmle:n / k≤m:=by rw [hmn];exact Nat.le_refl _
 have hmb1:m≤1000000:=by rw [hmn];exact Nat.le_trans (Nat.div_le_self n k) hn
 have hsm:=aCm hok (k:=k) (n:=(opsO l).length / k)
 refine aI #[.cell 4 28,.cell 5 36] 85 func9 Z results9 ntmps9 Z ?_
 have M0:=Mem.refl w
 refine aE (aA (bN (.agg (.mk _)) M0 Z Z Z (fun b1 w1 M1=>(bN (.agg (.mk _)) M1 Z Z Z (fun b2 w2 M2=>(aR vC M2 Z Z (fun b3 w3 M3=>(aR lC M3 Z Z (fun b4 w4 M4=>(aB (aC (aE (aA (wq (aX 0 lM M4 Z Z Z) Z (wq (aD 0 fP Z) Z (wq (aK 0 (.slice _ _ _) iI M4 Z Z Z) Z (wq (cK underlying25 Z) Z (eP bCn Z Z (aXb _ (F.mem M4) (N.mem M4) A n c l (hl.mem M4) hcap hby hn B m d rs _ (hB.mem M4) hsm k hkp hmle n (Nat.le_refl _)) ?_))))))))))))))))))
 rintro v5 w5 ⟨wbk,r0,rfl,hr0,hM5⟩
 have M5:Mem _ _ [_,_,_,_,_,_,_] _:=M4.call0 hM5
 rw [aHd hok hkp (by omega),List.take_of_length_le (by omega)] at hr0
 refine wq (aH (.tuple (List.toArray _)) rfl) rfl (wq (bM (.pointer _) rfl rfl) rfl (wq (bM (.int _ _) rfl rfl) rfl (wq (aJ (.pointer _) rfl) rfl (bK rfl rfl (aB (aC (aE (aA (wq (aH (.pointer _) rfl) rfl (wq (aX 1 jW M5 rfl rfl rfl) rfl (aL 21 (.agg (dR o BA nn cc).toArray) rfl (eP aVn rfl rfl (wB _ (F.mem M5) (N.mem M5) _ r0 _ hr0 (M5.ownSeg 4 3) o BA nn cc (hP.mem M5) hnn (M5.away 4 3 hP.rd (by simp)) (M5.away 4 3 F (by simp)) (M5.away 4 3 N (by simp))) ?_))))))))))))
 rintro v6 w6 ⟨r1,pz,rfl,hr1,hpz,hM6⟩
 have M6:Mem _ _ [_,_,_,_,_,_,_,_] _:=M5.seg 4 3 hM6
 refine aR lC M6 Z Z (fun b7 w7 M7=>(bG 8 _ gT M7 Z Z Z Z Z (aS Z) Z (fun w8 M8=>(aB (aC (aE (aA (wq (aD 1 mZ Z) Z (wq (aK 0 (.int _ _) fT M8 Z Z Z) Z (wq (cB [(1,.int _ _)] _ aHm Z Z) Z (aR vC M8 Z Z (fun b9 w9 M9=>(bG 9 _ lM M9 Z Z Z Z Z (aS Z) Z (fun w10 M10=>(aB (aC (aE (aE (aA (wq (aD 0 fP Z) Z (wq (aK 0 (.slice _ _ _) iI M10 Z Z Z) Z (wq (cK underlying25 Z) Z (aQ Z Z ?_)))))))))))))))))))))))
 have M11:=(M10.dummy default).dummy default
 refine aB (aC (aP (dG (σ:=Nat × Row × List Row) [2,3,4,5,6,8,9,28] (fun (i,qo,ps)=>[(29,.int .i64 (i:Int))]) (fun (i,qo,ps) w'=>(i≤n∧aZ 45 15 qo.A qo.n qo.c ((oM ((opsO l).take i) ps).map OpRow.cells) qo.e∧BytR 5 ps (((opsO l).take i).map OpI.bytes))∧Mem w [] ([(some b1,bc [.slice A n c,.int .i64 (k:Int),.slice B m d] 28),(some b2,bc (dR o BA nn cc) 45),(some b3,bc [.slice none 0 0,.int .i64 0,.slice none 0 0] 28),(some b4,bc [.int .i64 0,.slice none 0 0,.int .i64 0,.bool false] 36),(some wbk,bc [.slice r1.A r1.n r1.c,.map r1.p] 73),r1.er,r1.em,pz.e,(some b7,bc (eG (jT (iB [] (opsO l)) o).2 pz) 36),(some b9,bc [.slice qo.A qo.n qo.c,.int .i64 (k:Int),.slice none 0 0] 28),qo.e,(none,default)]++ps.map Row.e) w') (fun (i,qo,ps)=>n - i) (0,fH,[]) (bE Z dZ) (⟨⟨by omega,aZ.nil _ _ _,BytR.nil _⟩,M11⟩) ?_)))
 rintro ⟨i,qo,ps⟩ ρ12 w12 ⟨⟨hi,hqo,hpb⟩,hM12⟩
 have hpl:ps.length=((opsO l).take i).length:=by rw [hpb.len,List.length_map]
 have hqn:((oM ((opsO l).take i) ps).map OpRow.cells).length=qo.n:=hqo.1
 rw [List.length_map,vW hpl,List.length_take,fE] at hqn
 refine aE (aA (cX Z Z Z Z (aB (aC (aE ?_)))))
 refine aU Z (fun h30 => ?_) (fun h30 => ?_)
 ·obtain ⟨x,hx⟩:=cF (xs:=l) (k:=i) hlen (by omega)
  have hxm:=List.mem_of_getElem? hx
  have hxo:=pP hx
  have hPx:=hl.each x hxm
  refine aM (aC (aE (aP (aE (aA (aQ Z Z (bK Z Z (aB (aC (mF [(0,0),(1,1),(2,0),(3,1),(4,0),(5,1),(6,1),(7,2),(8,2),(9,2),(10,0),(11,2)] mixed Z (by kernel_rfl) (fun w13 hb13 hh13 => ?_)))))))))))
  have M13:=hM12.drew hb13 hh13
  refine aV Z Z Z (fun _=>aD 0 fP Z) (bP Z Z Z (aK 9 (.slice _ _ _) iI M13 Z Z Z) (aV Z Z Z (fun _=>aD 0 fP Z) (bP Z Z Z (aK 0 (.slice _ _ _) iI M13 Z Z Z) (eD Z Z Z (bP Z Z Z (bJ (i) pC Z Z Z ((hl.rd.mem M13).below_len (aG OpRow.cells hx)) ((hl.rd.mem M13).someK (aG OpRow.cells hx))) (bP Z Z Z (dW _ jW (hl.rd.mem M13) (aG OpRow.cells hx) Z) (dV 38 (.agg (dR x.o x.A x.n x.c).toArray) Z (dI [true,true,true,false] Z (by kernel_rfl) (eP bCs Z Z (aBp _ x.o x.A x.n x.c (hPx.mem M13) (hby x hxm)) ?_)))))))))
  rintro v14 w14 ⟨p2,rfl,hp2,hM14⟩
  have M14:Mem _ _ ([_,_,_,_,_,_,_,_,_,_,_,_,_]++_) _:=Mem.front (L:=[_,_,_,_,_,_,_,_,_,_,_,_]) (M13.call0 hM14)
  refine aB (aC ⟨(dS (bI Z (aK 9 (.slice _ _ _) iI M14 Z Z Z)) dJ), ?_⟩)
  refine dI [false] Z (by kernel_rfl) (cC [.agg (List.toArray _)] [dR x.o p2.A p2.n p2.c] Z pC M14 Z Z Z Z (cU Z) (by decide) (fun b15 w15 M15 => ?_))
  have M16:Mem _ _ ([_,_,_,_,_,_,_,_,_,_,_,_,_,_]++_) _:=Mem.front (L:=[_,_,_,_,_,_,_,_,_,_,_,_,_]) M15
  refine aB (aC ⟨(dS (bI Z (aK 9 (.slice _ _ _) iI M16 Z Z Z)) dJ), ?_⟩)
  refine dI [true] rfl (by kernel_rfl) (cW 10 [dR x.o p2.A p2.n p2.c] pC M16 rfl rfl rfl rfl rfl hqo rfl (by simp [dR,aF,Go.Bil.one]) (dL.ofMem 13 M16 rfl) (by omega) (fun A17 c17 e17 w17 M17 hR17 => ?_))
  refine aB (aC ⟨dJ, ?_⟩)
  refine aV Z Z Z (fun _=>aD 0 fP Z) (dI [] Z (by kernel_rfl) (dA 9 (.slice _ _ _) iI M17 Z Z Z Z Z Z (fun w18 M18 => ?_)))
  refine aB (aC ⟨dJ, ?_⟩)
  refine bS (cR (aC (aA (wq (bC Z Z (by omega) (by omega)) Z (aQ Z Z (aB ?_))))))
  refine bX (i+1,⟨A17,qo.n+1,c17,e17⟩,ps++[p2]) (bE Z dZ) (bZ Z (bZ Z (bZ Z (bZ Z (bZ Z (bZ Z (bZ Z (bZ Z gK)))))))) ?_ ?_
  ·exact ⟨⟨by omega,by rw [cH hxo,uH hpl,List.map_append];exact hR17,by rw [cH hxo,List.map_append];exact hpb.add hp2⟩,Mem.pushNew (L:=[_,_,_,_,_,_,_,_,_,_,_,_]) p2 (Mem.keepL (L:=[_,_,_,_,_,_,_,_,_,_,_,_,_,_]) [true,true,true,true,true,true,true,true,true,true,true,true,true,false] M18)⟩
  ·(show n - (i+1) < n - i;omega)
 ·have hin:i=n:=by omega
  rw [hin,List.take_of_length_le (by omega)] at hqo hpb hpl
  refine cN (dC (dE (eJ (aC (aE (aE (aA (wq (aD 2 iZ Z) Z (wq (aK 0 (.slice _ _ _) gY hM12 Z Z Z) Z (wq (cK underlying26 Z) Z (aQ Z Z (aB (aC (aP (dG (σ:=Nat × Row × List Row) [2,3,4,5,6,8,9,46] (fun (i,qm,ms)=>[(47,.int .i64 (i:Int))]) (fun (i,qm,ms) w'=>(i≤m∧aZ 34 1 qm.A qm.n qm.c ((ms).map pS) qm.e∧BytR 5 ms ((fM (opsO l) k ((opsO l).length / k)).take i))∧Mem w [] ([(some b1,bc [.slice A n c,.int .i64 (k:Int),.slice B m d] 28),(some b2,bc (dR o BA nn cc) 45),(some b3,bc [.slice none 0 0,.int .i64 0,.slice none 0 0] 28),(some b4,bc [.int .i64 0,.slice none 0 0,.int .i64 0,.bool false] 36),(some wbk,bc [.slice r1.A r1.n r1.c,.map r1.p] 73),r1.er,r1.em,pz.e,(some b7,bc (eG (jT (iB [] (opsO l)) o).2 pz) 36),(some b9,bc [.slice qo.A qo.n qo.c,.int .i64 (k:Int),.slice qm.A qm.n qm.c] 28),qo.e,qm.e]++(ps.map Row.e++ms.map Row.e)) w') (fun (i,qm,ms)=>m - i) (0,fH,[]) (bE Z dZ) (⟨⟨by omega,aZ.nil _ _ _,BytR.nil _⟩,by rw [show ([]:List Row).map Row.e=[] from Z,List.append_nil];exact hM12⟩) ?_)))))))))))))))
  rintro ⟨i,qm,ms⟩ ρ19 w19 ⟨⟨hi,hqm,hmb⟩,hM19⟩
  have hmn2:(ms.map pS).length=qm.n:=hqm.1
  rw [List.length_map,hmb.len,List.length_take,hB.n_eq.1] at hmn2
  refine aE (aA (cX Z Z Z Z (aB (aC (aE ?_)))))
  refine aU Z (fun h48 => ?_) (fun h48 => ?_)
  ·obtain ⟨rj,bj,hrj,hbj,hhj,hrd,hbl,hcp⟩:=hB.at (j:=i) (by omega)
   have hbjl:bj.length=rj.n:=by simpa using hrd.len
   have hbj6:=hsm bj (List.mem_of_getElem? hbj)
   refine aM (aC (aE (aP (aE (aA (aQ Z Z (bK Z Z (aB (aC (mF [(0,0),(1,1),(2,0),(3,1),(4,0),(5,1),(6,1),(7,2),(8,2),(9,2),(10,0),(11,2)] mixed Z (by kernel_rfl) (fun w20 hb20 hh20 => ?_)))))))))))
   have M20:=hM19.drew hb20 hh20
   refine aV Z Z Z (fun _=>aD 2 iZ Z) (bP Z Z Z (aK 9 (.slice _ _ _) gY M20 Z Z Z) (aV Z Z Z (fun _=>aD 2 iZ Z) (bP Z Z Z (aK 0 (.slice _ _ _) gY M20 Z Z Z) (eD Z Z Z (bP Z Z Z (bJ (i) uS Z Z Z ((hB.rd.mem M20).below_len (hhj)) ((hB.rd.mem M20).someK (hhj))) (bP Z Z Z (fU (.slice _ _ _) kC (hB.rd.mem M20) (hhj) Z) (dI [true,true,true,false] Z (by kernel_rfl) (eP bMq Z Z (xC _ rj.A rj.n rj.c bj (hrd.mem M20) (by omega)) ?_))))))))
   rintro v21 w21 ⟨pm,rfl,hpm,hM21⟩
   have M21:Mem _ _ ([_,_,_,_,_,_,_,_,_,_,_,_,_]++_) _:=Mem.front (L:=[_,_,_,_,_,_,_,_,_,_,_,_]) (M20.call0 hM21)
   refine aB (aC ⟨(dS (bI Z (aK 9 (.slice _ _ _) gY M21 Z Z Z)) dJ), ?_⟩)
   refine dI [false] Z (by kernel_rfl) (cC [.slice _ _ _] [pS pm] Z uS M21 Z Z Z Z (cU Z) (by decide) (fun b22 w22 M22 => ?_))
   have M23:Mem _ _ ([_,_,_,_,_,_,_,_,_,_,_,_,_,_]++_) _:=Mem.front (L:=[_,_,_,_,_,_,_,_,_,_,_,_,_]) M22
   refine aB (aC ⟨(dS (bI Z (aK 9 (.slice _ _ _) gY M23 Z Z Z)) dJ), ?_⟩)
   refine dI [true] rfl (by kernel_rfl) (cW 11 [pS pm] uS M23 rfl rfl rfl rfl rfl hqm rfl (by simp [pS,Go.Bil.one]) (dL.ofMem 13 M23 rfl) (by omega) (fun A24 c24 e24 w24 M24 hR24 => ?_))
   refine aB (aC ⟨dJ, ?_⟩)
   refine aV Z Z Z (fun _=>aD 2 iZ Z) (dI [] Z (by kernel_rfl) (dA 9 (.slice _ _ _) gY M24 Z Z Z Z Z Z (fun w25 M25 => ?_)))
   refine aB (aC ⟨dJ, ?_⟩)
   refine bS (cR (aC (aA (wq (bC Z Z (by omega) (by omega)) Z (aQ Z Z (aB ?_))))))
   refine bX (i+1,⟨A24,qm.n+1,c24,e24⟩,ms++[pm]) (bE Z dZ) (bZ Z (bZ Z (bZ Z (bZ Z (bZ Z (bZ Z (bZ Z (bZ Z gK)))))))) ?_ ?_
   ·exact ⟨⟨by omega,by rw [List.map_append];exact hR24,by rw [cH hbj];exact hmb.add hpm⟩,Mem.pushB (L:=[_,_,_,_,_,_,_,_,_,_,_,_]) pm (Mem.keepL (L:=[_,_,_,_,_,_,_,_,_,_,_,_,_,_]) [true,true,true,true,true,true,true,true,true,true,true,true,true,false] M25)⟩
   ·(show m - (i+1) < m - i;omega)
  ·have him:i=m:=by omega
   rw [him,List.take_of_length_le (by rw [hB.n_eq.1];exact Nat.le_refl _)] at hmb
   refine cN (dC (dE (eJ (aC (aE (mF [(0,0),(1,1),(2,1),(3,2),(4,2),(5,2),(6,0),(7,2)] mixed Z (by kernel_rfl) (fun w26 hb26 hh26 => ?_)))))))
   have M26:=hM19.drew hb26 hh26
   refine aV Z Z Z (fun _=>aD 0 fP Z) (bP Z Z Z (aK 9 (.slice _ _ _) iI M26 Z Z Z) (bP Z Z Z (aX 1 jW M26 Z Z Z) (dV 64 (.agg (dR o BA nn cc).toArray) Z (dI [true,false] Z (by kernel_rfl) (eP bCs Z Z (aBp _ o BA nn cc (hP.mem M26) hnn) ?_)))))
   rintro v27 w27 ⟨p3,rfl,hp3,hM27⟩
   have M27:Mem _ _ ([_,_,_,_,_,_,_,_,_,_,_,_,_]++_) _:=Mem.front (L:=[_,_,_,_,_,_,_,_,_,_,_,_]) (M26.call0 hM27)
   refine aB (aC ⟨(dS (bI Z (aK 9 (.slice _ _ _) iI M27 Z Z Z)) dJ), ?_⟩)
   refine dI [false] Z (by kernel_rfl) (cC [.agg (List.toArray _)] [dR o p3.A p3.n p3.c] Z pC M27 Z Z Z Z (cU Z) (by decide) (fun b28 w28 M28 => ?_))
   have M29:Mem _ _ ([_,_,_,_,_,_,_,_,_,_,_,_,_,_]++_) _:=Mem.front (L:=[_,_,_,_,_,_,_,_,_,_,_,_,_]) M28
   refine aB (aC ⟨(dS (bI Z (aK 9 (.slice _ _ _) iI M29 Z Z Z)) dJ), ?_⟩)
   refine dI [true] rfl (by kernel_rfl) (cW 10 [dR o p3.A p3.n p3.c] pC M29 rfl rfl rfl rfl rfl hqo rfl (by simp [dR,aF,Go.Bil.one]) (dL.ofMem 13 M29 rfl) (by omega) (fun A30 c30 e30 w30 M30 hR30 => ?_))
   refine aB (aC ⟨dJ, ?_⟩)
   refine aV Z Z Z (fun _=>aD 0 fP Z) (dI [] Z (by kernel_rfl) (dA 9 (.slice _ _ _) iI M30 Z Z Z Z Z Z (fun w31 M31 => ?_)))
   refine aB (aC ⟨dJ, ?_⟩)
   refine bS (aC (aE (aE (aA (wq (aD 0 fP Z) Z (wq (aK 9 (.slice _ _ _) iI M31 Z Z Z) Z (wq (cK underlying25 Z) Z (aL 71 (.int .i64 ((n+1:Nat):Int)) (iE (by omega)) (wq (aD 1 mZ Z) Z (wq (aK 9 (.int _ _) fT M31 Z Z Z) Z (wq (iJ Z Z (by omega)) Z (aL 74 (.int .i64 (((n+1) % k:Nat):Int)) (iE (aAf Z Z)) (cX Z Z Z Z (aB (aC ?_)))))))))))))))
   refine aU Z (fun h75 => ?_) (fun h75 => ?_)
   ·have hz:=bRt h75
    rw [← hol] at hz
    refine fW [(0,0),(1,1),(2,0),(3,2),(4,2),(5,2),(6,0),(7,2)] mixed M31 Z (by kernel_rfl) (fun w32 M32=>(aV Z Z Z (fun _=>aD 2 iZ Z) (bP Z Z Z (aK 9 (.slice _ _ _) gY M32 Z Z Z) (aV Z Z Z (fun _=>aH (.pointer _) Z) (dI [false] Z (by kernel_rfl) (eP aVm Z Z (nG _ _ r1 _ hr1 (M32.ownSeg 4 3)) ?_))))))
    rintro v33 w33 ⟨pm2,rfl,hpm2,hM33⟩
    have M33:Mem _ _ ([_,_,_,_,_,_,_,_,_,_,_,_,_,_,_]++_) _:=Mem.front (L:=[_,_,_,_,_,_,_,_,_,_,_,_,_,_]) (M32.seg 4 3 hM33)
    refine aB (aC ⟨(dS (bI Z (aK 9 (.slice _ _ _) gY M33 Z Z Z)) dJ), ?_⟩)
    refine dI [false] Z (by kernel_rfl) (cC [.slice _ _ _] [pS pm2] Z uS M33 Z Z Z Z (cU Z) (by decide) (fun b34 w34 M34 => ?_))
    have M35:Mem _ _ ([_,_,_,_,_,_,_,_,_,_,_,_,_,_,_,_]++_) _:=Mem.front (L:=[_,_,_,_,_,_,_,_,_,_,_,_,_,_,_]) M34
    refine aB (aC ⟨(dS (bI Z (aK 9 (.slice _ _ _) gY M35 Z Z Z)) dJ), ?_⟩)
    refine dI [true] rfl (by kernel_rfl) (cW 11 [pS pm2] uS M35 rfl rfl rfl rfl rfl hqm rfl (by simp [pS,Go.Bil.one]) (dL.ofMem 15 M35 rfl) (by omega) (fun A36 c36 e36 w36 M36 hR36 => ?_))
    refine aB (aC ⟨dJ, ?_⟩)
    refine aV Z Z Z (fun _=>aD 2 iZ Z) (dI [] Z (by kernel_rfl) (dA 9 (.slice _ _ _) gY M36 Z Z Z Z Z Z (fun w37 M37 => ?_)))
    refine aB (aC ⟨dJ, ?_⟩)
    refine bS (aC (aE (fW [(0,1),(1,1),(2,2),(3,2)] mixed M37 Z (by kernel_rfl) (fun w38 M38=>(bP Z Z Z (aX 9 lM M38 Z Z Z) (bP Z Z Z (aX 8 gT M38 Z Z Z) (dI [false,true] Z (by kernel_rfl) (bG 2 _ lM M38 Z Z Z Z Z (aS Z) Z (fun w39 M39 => ?_)))))))))
    refine aB (aC ⟨(dS (bI Z (aX 8 gT M39 Z Z Z)) dJ), ?_⟩)
    refine dI [true] Z (by kernel_rfl) (bG 3 _ gT M39 Z Z Z Z Z (aS Z) Z (fun w40 M40 => ?_))
    refine aB (aC ⟨dJ, ?_⟩)
    refine bS (aC (aO (bNm 2 3 lM gT M40 Z Z Z Z Z Z ?_)))
    exact ⟨⟨A30,qo.n+1,c30,e30⟩,⟨A36,qm.n+1,c36,e36⟩,pz,ps++[p3],ms++[pm2],Z,⟨by rw [uH hpl,List.map_append];exact hR30,by rw [List.map_append];exact hpb.add hp3,aPn hgood (hP.good hnn),by rw [List.map_append];exact hR36,by rw [aIs hkp hz];exact hmb.add hpm2⟩,hpz,Mem.pushAB (L:=[_,_,_]) p3 pm2 (Mem.keepL (L:=[_,_,_,_,_,_,_,_,_,_,_,_,_,_,_,_]) [false,false,false,false,false,false,false,true,false,false,true,true,true,false,true,false] M40)⟩
   ·have hz:=bRu h75
    rw [← hol] at hz
    refine aM (aC (aE (fW [(0,1),(1,1),(2,2),(3,2)] mixed M31 Z (by kernel_rfl) (fun w41 M41=>(bP Z Z Z (aX 9 lM M41 Z Z Z) (bP Z Z Z (aX 8 gT M41 Z Z Z) (dI [false,true] Z (by kernel_rfl) (bG 2 _ lM M41 Z Z Z Z Z (aS Z) Z (fun w42 M42 => ?_)))))))))
    refine aB (aC ⟨(dS (bI Z (aX 8 gT M42 Z Z Z)) dJ), ?_⟩)
    refine dI [true] Z (by kernel_rfl) (bG 3 _ gT M42 Z Z Z Z Z (aS Z) Z (fun w43 M43 => ?_))
    refine aB (aC ⟨dJ, ?_⟩)
    refine bS (aC (aO (bNm 2 3 lM gT M43 Z Z Z Z Z Z ?_)))
    exact ⟨⟨A30,qo.n+1,c30,e30⟩,qm,pz,ps++[p3],ms,Z,⟨by rw [uH hpl,List.map_append];exact hR30,by rw [List.map_append];exact hpb.add hp3,aPn hgood (hP.good hnn),hqm,by rw [aMr hkp hz];exact hmb⟩,hpz,Mem.pushA (L:=[_,_,_]) p3 (Mem.keepL (L:=[_,_,_,_,_,_,_,_,_,_,_,_,_,_]) [false,false,false,false,false,false,false,true,false,false,true,true,true,false] M43)⟩
end Go.Proofs.YtpcloigancpnbaaGreatDoor
