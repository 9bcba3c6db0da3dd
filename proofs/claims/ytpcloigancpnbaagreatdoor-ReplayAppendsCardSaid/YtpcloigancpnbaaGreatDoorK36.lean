/- Part of the proof of a law of this seat (19 texts). No conditions. -/
import Derived.Test.YtpcloigancpnbaaGreatDoorK32
import Derived.Test.YtpcloigancpnbaaGreatDoorK35
set_option linter.unusedVariables false
set_option linter.unusedSimpArgs false
set_option linter.unnecessarySimpa false
set_option maxHeartbeats 100000000
namespace Go.Proofs.YtpcloigancpnbaaGreatDoor
open Go.Bil
open Go.RowKit (Below)
open Go.Proofs
open Go.Proofs.Tryz
theorem bFg (w:World) (b:Body) (hb:Okb b) (j:Int × Int) (hj1 : -2147483648≤j.1∧j.1≤2147483647) (hj2 : -2147483648≤j.2∧j.2≤2147483647) :
  Calls prog 79 #[(.agg (aF b).toArray),.agg [.int .i32 j.1,.int .i32 j.2].toArray] w (gK (fun v w'=>(∃ g:Bool,v=.tuple #[(.agg (aF (pushB b j)).toArray),.bool g])∧Below w.heap.size w w')):=by
 have hv:=hb.v
 have hm:=hb.m
 have hp1:=bLd hj1 hm
 have hp2:=bLd hj2 hm
 refine aI #[.cell 4 43,.tmp 5] 45 func79 Z results79 ntmps79 Z ?_
 have M0:=Mem.refl w
 refine aE (aA (bN (.agg (.mk _)) M0 Z Z Z (fun b1 w1 M1=>(bN (.agg (.mk _)) M1 Z Z Z (fun b2 w2 M2=>(aQ fX M2 Z Z (fun b3 w3 M3=>(wq (aJ (.bool false) Z) Z (aB (aC (aE (aA (aQ aYc M3 Z Z (fun b4 w4 M4=>(dB 3 (.bool false) qS M4 Z Z Z Z Z Z (fun w5 M5=>(aB (aC (aE (aA (wq (aD 8 eC Z) Z (wq (aD 0 cX Z) Z (wq (aK 0 (.int _ _) aY M5 Z Z Z) Z (wq (bG dZ underlying2 Z (fL _ (by omega) (by omega))) Z (wq (aD 0 cX Z) Z ?_)))))))))))))))))))))))))
 refine wq (aK 1 (.int _ _) aY M5 Z Z Z) Z (wq (bG dZ underlying2 Z (fL _ (by omega) (by omega))) Z (wq (aD 4 eK Z) Z (wq (aK 0 (.int _ _) aY M5 Z Z Z) Z (wq (bG dZ underlying2 Z (fL _ (by omega) (by omega))) Z (wq (fF Z Z (by omega) (by omega)) Z (wq (kQ Z Z (by decide)) Z (aL 20 (.int .i64 (j.1*b.mass / 65536)) (iE (qY _)) (wq (bA Z Z (by omega) (by omega)) Z (bJ Z Z (aB (aC (aE (aA (wq (aD 8 eC Z) Z (wq (aD 1 cV Z) Z (wq (aK 0 (.int _ _) aY M5 Z Z Z) Z ?_))))))))))))))))
 refine wq (bG dZ underlying2 Z (fL _ (by omega) (by omega))) Z (wq (aD 1 cV Z) Z (wq (aK 1 (.int _ _) aY M5 Z Z Z) Z (wq (bG dZ underlying2 Z (fL _ (by omega) (by omega))) Z (wq (aD 4 eK Z) Z (wq (aK 0 (.int _ _) aY M5 Z Z Z) Z (wq (bG dZ underlying2 Z (fL _ (by omega) (by omega))) Z (wq (fF Z Z (by omega) (by omega)) Z (wq (kQ Z Z (by decide)) Z (aL 33 (.int .i64 (j.2*b.mass / 65536)) (iE (qY _)) (wq (bA Z Z (by omega) (by omega)) Z (bJ Z Z (aB (aC (aE (aA ?_)))))))))))))))
 refine aR Z Z (bW [.pointer _] [[.pointer (some ⟨b4,0,none⟩)]] Z aKw M5 Z Z Z Z (cQ Z) (by decide) (fun b6 w6 M6 => ?_))
 have hlit36:=lE (T:=164) (sz:=1) (b:=b6) (nn:=1) [[.pointer (some ⟨b4,0,none⟩)]] (by simp) rfl (by decide)
 refine eL aOq Z Z (oW _ (b.vx+j.1*b.mass / 65536) 16777216 ⟨by decide,by decide⟩ b4 _ _ 1 (hlit36.rd M6 (bH (i:=4) Z)) (hlit36.awayB M6 4 3 Z Z Z) (M6.ownSeg 3 1)) ?_
 rintro v7 w7 ⟨rfl,hM7⟩
 have M7:Mem _ _ [_,_,_,_,_] _:=M6.seg 3 1 hM7
 refine aR Z Z (bW [.pointer _] [[.pointer (some ⟨b4,0,none⟩)]] Z aKw M7 Z Z Z Z (cQ Z) (by decide) (fun b8 w8 M8 => ?_))
 have hlit39:=lE (T:=164) (sz:=1) (b:=b8) (nn:=1) [[.pointer (some ⟨b4,0,none⟩)]] (by simp) rfl (by decide)
 refine eL aOq Z Z (oW _ (b.vy+j.2*b.mass / 65536) 16777216 ⟨by decide,by decide⟩ b4 _ _ 1 (hlit39.rd M8 (bH (i:=5) Z)) (hlit39.awayB M8 5 3 Z Z Z) (M8.ownSeg 3 1)) ?_
 rintro v9 w9 ⟨rfl,hM9⟩
 have M9:Mem _ _ [_,_,_,_,_,_] _:=M8.seg 3 1 hM9
 refine wq (cD [(0,.int _ _),(1,.int _ _)] _ fB Z Z) Z (wq (aD 8 eC Z) Z (vE 0 _ bO M9 Z Z Z Z Z (aO Z) (Nat.le_of_ble_eq_true Z) (fun w10 M10=>(aB (aC (aE (fY [(0,1),(1,1),(2,2),(3,0)] mixed M10 Z (by kernel_rfl) (fun w11 M11=>(bP Z Z Z (aU 0 bR M11 Z Z Z) (bP Z Z Z (aK 3 (.bool _) qS M11 Z Z Z) (dL [false,true] Z (by kernel_rfl) (bB 2 _ bR M11 Z Z Z Z Z (aO Z) Z (fun w12 M12 => ?_)))))))))))))
 refine aB (aC ⟨(dQ (bC Z (aK 3 (.bool _) qS M12 Z Z Z)) dG), ?_⟩)
 refine aX Z Z Z (fun _=>aJ (.bool _) Z) (bS (aC (aP (tO (v2:=.bool _) 2 bR M12 Z Z Z Z ?_))))
 exact ⟨⟨_,Z⟩,M12.below⟩
theorem aGx (w:World) (b:Body) (hb:Okb b) (j:Int × Int) (hj1 : -2147483648≤j.1∧j.1≤2147483647) (hj2 : -2147483648≤j.2∧j.2≤2147483647) :
  Calls prog 84 #[(.agg (aF b).toArray),.agg [.int .i32 j.1,.int .i32 j.2].toArray] w (gK (fun v w'=>(∃ g:Bool,v=.tuple #[(.agg (aF (pushB b j)).toArray),.bool g])∧Below w.heap.size w w')):=by
 have hv:=hb.v
 have hm:=hb.m
 have hp1:=bLd hj1 hm
 have hp2:=bLd hj2 hm
 have hlx:=fA (b.vx+j.1*b.mass / 65536) (l:=16777216) (by decide)
 have hly:=fA (b.vy+j.2*b.mass / 65536) (l:=16777216) (by decide)
 refine aI #[.cell 4 43,.tmp 5] 57 func84 Z results84 ntmps84 Z ?_
 have M0:=Mem.refl w
 refine aE (aA (bN (.agg (.mk _)) M0 Z Z Z (fun b1 w1 M1=>(bN (.agg (.mk _)) M1 Z Z Z (fun b2 w2 M2=>(aQ fX M2 Z Z (fun b3 w3 M3=>(wq (aJ (.bool false) Z) Z (aB (aC (aE (fY [(0,0),(1,0),(2,1),(3,0),(4,0),(5,1),(6,0),(7,0),(8,1),(9,0),(10,0),(11,2),(12,0),(13,0)] mixed M3 Z (by kernel_rfl) (fun w4 M4=>(aX Z Z Z (fun _=>aD 8 eC Z) (aX Z Z Z (fun _=>aD 0 cX Z) (bP Z Z Z (aK 0 (.int _ _) aY M4 Z Z Z) (aX Z Z Z (fun _=>bG dZ underlying2 Z (fL _ (by omega) (by omega))) ?_)))))))))))))))))
 refine aX Z Z Z (fun _=>aD 0 cX Z) (bP Z Z Z (aK 1 (.int _ _) aY M4 Z Z Z) (aX Z Z Z (fun _=>bG dZ underlying2 Z (fL _ (by omega) (by omega))) (aX Z Z Z (fun _=>aD 4 eK Z) (bP Z Z Z (aK 0 (.int _ _) aY M4 Z Z Z) (aX Z Z Z (fun _=>bG dZ underlying2 Z (fL _ (by omega) (by omega))) (aX Z Z Z (fun _=>fF Z Z (by omega) (by omega)) (dL [true,true,false] Z (by kernel_rfl) (dO lV Z Z M4 (fJ _ (j.1*b.mass) 65536 (by decide) (by omega) (by omega)) (fun w5 M5 => ?_)))))))))
 refine aB (aC ⟨(dQ (bC Z (aK 0 (.int _ _) aY M5 Z Z Z)) dG), ?_⟩)
 refine aX Z Z Z (fun _=>bA Z Z (by omega) (by omega)) (nF Z Z Z (bS (aC (aE (fY [(0,0),(1,0),(2,1),(3,0),(4,0),(5,1),(6,0),(7,0),(8,1),(9,0),(10,0),(11,2),(12,0),(13,0)] mixed M5 Z (by kernel_rfl) (fun w6 M6=>(aX Z Z Z (fun _=>aD 8 eC Z) (aX Z Z Z (fun _=>aD 1 cV Z) (bP Z Z Z (aK 0 (.int _ _) aY M6 Z Z Z) (aX Z Z Z (fun _=>bG dZ underlying2 Z (fL _ (by omega) (by omega))) (aX Z Z Z (fun _=>aD 1 cV Z) (bP Z Z Z (aK 1 (.int _ _) aY M6 Z Z Z) ?_))))))))))))
 refine aX Z Z Z (fun _=>bG dZ underlying2 Z (fL _ (by omega) (by omega))) (aX Z Z Z (fun _=>aD 4 eK Z) (bP Z Z Z (aK 0 (.int _ _) aY M6 Z Z Z) (aX Z Z Z (fun _=>bG dZ underlying2 Z (fL _ (by omega) (by omega))) (aX Z Z Z (fun _=>fF Z Z (by omega) (by omega)) (dL [true,true,false] Z (by kernel_rfl) (dO lV Z Z M6 (fJ _ (j.2*b.mass) 65536 (by decide) (by omega) (by omega)) (fun w7 M7 => ?_)))))))
 refine aB (aC ⟨(dQ (bC Z (aK 0 (.int _ _) aY M7 Z Z Z)) dG), ?_⟩)
 refine aX Z Z Z (fun _=>bA Z Z (by omega) (by omega)) (nF Z Z Z (bS (aC (aE (aA (aR Z Z (dO xN Z Z M7 (lD _ (b.vx+j.1*b.mass / 65536) 16777216 ⟨by decide,by decide⟩) (fun w8 M8=>(wq (bG nE underlying21 Z (jU _ (by omega) (by omega))) Z (aR Z Z (dO xN Z Z M8 (lD _ (b.vy+j.2*b.mass / 65536) 16777216 ⟨by decide,by decide⟩) (fun w9 M9=>(wq (bG nE underlying21 Z (jU _ (by omega) (by omega))) Z (wq (cD [(0,.int _ _),(1,.int _ _)] _ fB Z Z) Z (wq (aD 8 eC Z) Z ?_)))))))))))))))
 refine vE 0 _ bO M9 Z Z Z Z Z (aO Z) (Nat.le_of_ble_eq_true Z) (fun w10 M10=>(aB (aC (aE (fY [(0,1),(1,0),(2,0),(3,1),(4,0),(5,0),(6,0),(7,0),(8,0),(9,0),(10,1),(11,0),(12,0),(13,0),(14,0),(15,2),(16,0)] mixed M10 Z (by kernel_rfl) (fun w11 M11=>(bP Z Z Z (aU 0 bR M11 Z Z Z) (aX Z Z Z (fun _=>aD 8 eC Z) (aX Z Z Z (fun _=>aD 0 cX Z) (bP Z Z Z (aK 0 (.int _ _) aY M11 Z Z Z) (aX Z Z Z (fun _=>bG dZ underlying2 Z (fL _ (by omega) (by omega))) ?_)))))))))))
 refine eD Z Z Z (aX Z Z Z (fun _=>cE (.bool (decide _)) Z Z Z) (aX Z Z Z (fun _=>aH (.bool (decide _)) Z) ?_))
 refine yH 49 Z (fun g49 => ?_) (fun g49 => ?_)
 ·refine yG Z Z Z (yG Z Z Z (rW Z Z Z (yG Z Z Z (yG Z Z Z (yG Z Z Z (aX Z Z Z (fun _=>bQ true (.bool true) Z Z) (dL [false,true,true] Z (by kernel_rfl) (bB 2 _ bR M11 Z Z Z Z Z (aO Z) Z (fun w12 M12 => ?_)))))))))
  refine aB (aC ⟨(dQ (.inr ⟨Z,Z⟩) dG), ?_⟩)
  refine aX Z Z Z (fun _=>aJ (.bool true) Z) (bS (aC (aP (tO (v2:=.bool true) 2 bR M12 Z Z Z Z ?_))))
  exact ⟨⟨_,Z⟩,M12.below⟩
 ·refine aX Z Z Z (fun _=>aD 8 eC Z) (aX Z Z Z (fun _=>aD 1 cV Z) (bP Z Z Z (aK 0 (.int _ _) aY M11 Z Z Z) (aX Z Z Z (fun _=>bG dZ underlying2 Z (fL _ (by omega) (by omega))) (eD Z Z Z (aX Z Z Z (fun _=>cE (.bool (decide _)) Z Z Z) (aX Z Z Z (fun _=>bQ false (.bool (decide _)) Z Z) (dL [false,true,true] Z (by kernel_rfl) (bB 2 _ bR M11 Z Z Z Z Z (aO Z) Z (fun w13 M13 => ?_)))))))))
  refine aB (aC ⟨(dQ (bC Z (aK 0 (.int _ _) aY M13 Z Z Z)) dG), ?_⟩)
  refine aX Z Z Z (fun _=>aJ (.bool (decide _)) Z) (bS (aC (aP (tO (v2:=.bool (decide _)) 2 bR M13 Z Z Z Z ?_))))
  exact ⟨⟨_,Z⟩,M13.below⟩
theorem aHz (w:World) (b:Nat) :
  Calls prog 33 #[.pointer (some ⟨b,0,none⟩)] w (Rb w (.pointer (some ⟨b,0,none⟩))):=by
 refine aI #[.tmp 2] 8 func33 Z results33 ntmps33 Z ?_
 have M0:=Mem.refl w
 refine aE (aA (wq (aJ (.pointer _) Z) Z (aB (aC (aE (aE (aA (wq (aH (.pointer _) Z) Z (wq (iB false underlying61 Z Z) Z (aB (aC (cF Z (aM (aC (aE (aA (wq (aH (.pointer _) Z) Z (wq (bK Z) Z (wq (aD 0 zG Z) Z (wq (aJ (.pointer _) Z) Z (aB (aC (aP (cI (.pointer _) Z ?_))))))))))))))))))))))))
 exact ⟨Z,M0.below⟩
theorem bBp (w:World) (b:Nat) (r:StV) (vs:List Body) (hW:dC 43 r vs) (hO:Own [(some b,bc [.slice r.A r.n r.c,.map r.p] 73),r.er,r.em] w) (x:Body) (hx:InB x) :
  Calls prog 47 #[.pointer (some ⟨b,0,none⟩),(.agg (aF x).toArray)] w (gK (fun v w'=>∃ r':StV,v=.int .i64 (pD vs x).2∧dC 43 r' ((pD vs x).1)∧Mem w (bZ [(some b,bc [.slice r.A r.n r.c,.map r.p] 73),r.er,r.em]) [(some b,bc [.slice r'.A r'.n r'.c,.map r'.p] 73),r'.er,r'.em] w')):=by
 obtain ⟨hG,m,hs,hR⟩:=hW
 refine aI #[.tmp 4] 15 func47 Z results47 ntmps47 Z ?_
 have M0:=hO.mem
 refine aE (aA (bN (.agg (.mk _)) M0 Z Z Z (fun b1 w1 M1=>(bJ Z Z (aB (aC (aE (aE (aA (wq (aH (.pointer _) Z) Z (dO bDx Z Z M1 (aHz _ b) (fun w2 M2=>(wq (aJ (.pointer _) Z) Z (aB (aC (aE (aA (wq (aH (.pointer _) Z) Z (wq (xZ true underlying88 Z Z) Z (aB (aC (cG Z (aE (fY [(0,0),(1,0),(2,0),(3,1),(4,2),(5,0)] mixed M2 Z (by kernel_rfl) (fun w3 M3=>(aX Z Z Z (fun _=>aH (.pointer _) Z) (aX Z Z Z (fun _=>bK Z) ?_)))))))))))))))))))))))))))
 refine aX Z Z Z (fun _=>aD 0 vT Z) (bP Z Z Z (aU 3 bR M3 Z Z Z) (dL [true] Z (by kernel_rfl) (eL bNn Z Z (aYa _ _ _ _ _ _ _ _ _ hs (M3.ownSeg 0 3) x) ?_)))
 rintro v4 w4 ⟨rfl,A4,n4,c4,p4,er4,em4,hs4,hM4⟩
 have M4:Mem _ _ [_,_,_,_] _:=M3.seg 0 3 hM4
 refine aB (aC ⟨dG, ?_⟩)
 refine nF Z Z Z (bS (aC (aP (cN (cI (.int _ _) Z ?_)))))
 obtain ⟨q1,q2⟩:=hR.add x
 exact ⟨⟨A4,n4,c4,p4,er4,em4⟩,by rw [q2],aEc hs4 q1 (aVo (hG.inm hR) hx),M4.keep [true,true,true,false]⟩
theorem aNp (w:World) (b:Nat) (r:StV) (vs:List Body) (hW:dC 43 r vs) (hO:Own [(some b,bc [.slice r.A r.n r.c,.map r.p] 73),r.er,r.em] w) (key:Int) :
  Calls prog 50 #[.pointer (some ⟨b,0,none⟩),.int .u32 key] w (gK (fun v w'=>∃ r':StV,v=.int .i64 (iH vs key).2∧dC 43 r' ((iH vs key).1)∧Mem w (bZ [(some b,bc [.slice r.A r.n r.c,.map r.p] 73),r.er,r.em]) [(some b,bc [.slice r'.A r'.n r'.c,.map r'.p] 73),r'.er,r'.em] w')):=by
 obtain ⟨hG,m,hs,hR⟩:=hW
 refine aI #[.tmp 4] 15 func50 Z results50 ntmps50 Z ?_
 have M0:=hO.mem
 refine aE (aA (bJ Z Z (aB (aC (aE (aE (aA (wq (aH (.pointer _) Z) Z (dO bDx Z Z M0 (aHz _ b) (fun w1 M1=>(wq (aJ (.pointer _) Z) Z (aB (aC (aE (aA (wq (aH (.pointer _) Z) Z (wq (xZ true underlying88 Z Z) Z (aB (aC (cG Z (aE (aA (wq (aH (.pointer _) Z) Z (wq (bK Z) Z (wq (aD 0 vT Z) Z (aR Z Z ?_))))))))))))))))))))))))))
 refine eL bVn Z Z (aVf _ _ _ _ _ _ _ _ _ hs (M1.ownSeg 0 3) key) ?_
 rintro v2 w2 ⟨rfl,A2,n2,c2,p2,er2,em2,hs2,hM2⟩
 have M2:Mem _ _ [_,_,_] _:=M1.seg 0 3 hM2
 refine bJ Z Z (aB (aC (aP (cN (cI (.int _ _) Z ?_)))))
 obtain ⟨q1,q2⟩:=hR.remove key
 exact ⟨⟨A2,n2,c2,p2,er2,em2⟩,by rw [q2],aEc hs2 q1 (aGz hs.keys (hG.inm hR)),M2.keep [true,true,true]⟩
theorem aLh (w:World) (b:Nat) (r:StV) (vs:List Body) (hW:dC 43 r vs) (hO:Own [(some b,bc [.slice r.A r.n r.c,.map r.p] 73),r.er,r.em] w) (key:Int) :
  Calls prog 18 #[.pointer (some ⟨b,0,none⟩),.int .u32 key] w (gK (fun v w'=>v=.tuple #[(.agg (aF (qR vs key).body).toArray),.int .i64 (qR vs key).err]∧Mem w (bZ [(some b,bc [.slice r.A r.n r.c,.map r.p] 73),r.er,r.em]) [(some b,bc [.slice r.A r.n r.c,.map r.p] 73),r.er,r.em] w')):=by
 obtain ⟨hG,m,hs,hR⟩:=hW
 refine aI #[.cell 4 43,.tmp 5] 19 func18 Z results18 ntmps18 Z ?_
 have M0:=hO.mem
 refine aE (aA (aQ fX M0 Z Z (fun b1 w1 M1=>(bJ Z Z (aB (aC (aE (aE (aA (wq (aH (.pointer _) Z) Z (dO bDx Z Z M1 (aHz _ b) (fun w2 M2=>(wq (aJ (.pointer _) Z) Z (aB (aC (aE (aA (wq (aH (.pointer _) Z) Z (wq (xZ true underlying88 Z Z) Z (aB (aC (cG Z (aE (aA (wq (aH (.pointer _) Z) Z (wq (bK Z) Z (wq (aD 0 vT Z) Z ?_)))))))))))))))))))))))))))
 refine aR Z Z (eL bUh Z Z (bMk _ _ _ _ _ _ _ _ _ hs (M2.ownSeg 0 3) key) ?_)
 rintro v3 w3 ⟨⟨x3,rfl,hx3⟩,hM3⟩
 have M3:Mem _ _ [_,_,_,_] _:=M2.seg 0 3 hM3
 have hge:=bKh hR key
 obtain rfl:x3=(qR vs key).body:=by rw [hx3,hge]
 have hge2:(aFx m key).2=(qR vs key).err:=by rw [hge]
 refine wq (bM (.agg (.mk _)) Z Z) Z (wq (bM (.int _ _) Z Z) Z (aL 17 (.int .i64 (qR vs key).err) (iE hge2) (bB 3 _ bR M3 Z Z Z Z Z (aO Z) Z (fun w4 M4=>(bJ Z Z (aB (aC (aP (cN (tO (v2:=.int _ _) 3 bR M4 Z Z Z Z ?_))))))))))
 exact ⟨Z,M4.keep [true,true,true,false]⟩
theorem aHy (w:World) (b:Nat) (r:StV) (vs:List Body) (hW:dC 43 r vs) (hO:Own [(some b,bc [.slice r.A r.n r.c,.map r.p] 73),r.er,r.em] w) :
  Calls prog 36 #[.pointer (some ⟨b,0,none⟩)] w (gK (fun v w'=>∃ q:Row,v=.slice q.A q.n q.c∧aZ 43 10 q.A q.n q.c ((vs).map aF) q.e∧Mem w (bZ [(some b,bc [.slice r.A r.n r.c,.map r.p] 73),r.er,r.em]) [(some b,bc [.slice r.A r.n r.c,.map r.p] 73),r.er,r.em,q.e] w')):=by
 have hW':=hW
 obtain ⟨hG,m,hs,hR⟩:=hW
 refine aI #[.tmp 2] 10 func36 Z results36 ntmps36 Z ?_
 have M0:=hO.mem
 refine aE (aA (eG Z Z (aB (aC (aE (aE (aA (wq (aH (.pointer _) Z) Z (wq (iB false underlying61 Z Z) Z (aB (aC (cF Z (aM (aC (aE (aA (wq (aH (.pointer _) Z) Z (wq (bK Z) Z (wq (aD 0 zG Z) Z (wq (aD 0 vT Z) Z (eL bUm Z Z (aVe _ _ _ _ _ _ _ _ _ hs (M0.ownSeg 0 3)) ?_)))))))))))))))))))))
 rintro v1 w1 ⟨A1,n1,c1,e1,rfl,hR1,hM1⟩
 have M1:Mem _ _ [_,_,_,_] _:=M0.seg 0 3 hM1
 rw [hR.eq] at hR1
 refine eG Z Z (aB (aC (aP (cI (.slice _ _ _) Z ?_))))
 exact ⟨⟨A1,n1,c1,e1⟩,Z,hR1,M1⟩
theorem nP (w:World) (b:Nat) (r:StV) (vs:List Body) (hW:dC 43 r vs) (hO:Own [(some b,bc [.slice r.A r.n r.c,.map r.p] 73),r.er,r.em] w) :
  Calls prog 22 #[.pointer (some ⟨b,0,none⟩)] w (gK (fun v w'=>∃ q:Row,v=.slice q.A q.n q.c∧aZ 5 1 q.A q.n q.c ((kN vs).map bL) q.e∧Mem w (bZ [(some b,bc [.slice r.A r.n r.c,.map r.p] 73),r.er,r.em]) [(some b,bc [.slice r.A r.n r.c,.map r.p] 73),r.er,r.em,q.e] w')):=by
 have hW':=hW
 obtain ⟨hG,m,hs,hR⟩:=hW
 refine aI #[.tmp 2] 14 func22 Z results22 ntmps22 Z ?_
 have M0:=hO.mem
 refine aE (aA (eG Z Z (aB (aC (aE (aE (aA (wq (aH (.pointer _) Z) Z (wq (iB false underlying61 Z Z) Z (aB (aC (cF Z (aM (aC (aE (aA (wq (aH (.pointer _) Z) Z (eL bNj Z Z (aHy _ _ r _ hW' (M0.ownSeg 0 3)) ?_))))))))))))))))))
 rintro v1 w1 ⟨q,rfl,hq,hM1⟩
 have M1:Mem _ _ [_,_,_,_] _:=M0.seg 0 3 hM1
 have hqn:vs.length=q.n:=by simpa using hq.1
 have hvl:=hG.len
 refine eL bUi Z Z (aLz _ _ _ _ vs (hq.rd M1 (bH (i:=3) Z)) (by omega) hG.chk hG.inb) ?_
 rintro v2 w2 ⟨z,rfl,hz,hM2⟩
 have M2:Mem _ _ [_,_,_,_,_] _:=M1.call0 hM2
 refine wq (aH (.tuple (List.toArray _)) Z) Z (wq (bM (.slice _ _ _) Z Z) Z (wq (bM (.int _ _) Z Z) Z (eG Z Z (bJ Z Z (aB (aC (aE (aA (dK Z Z (eG Z Z (aB (aC (aP (cI (.slice _ _ _) Z ?_))))))))))))))
 exact ⟨z,Z,hz,M2.keep [true,true,true,false,true]⟩
theorem aJj (w:World) (b:Nat) (r:StV) (vs:List Body) (hW:dC 43 r vs) (hO:Own [(some b,bc [.slice r.A r.n r.c,.map r.p] 73),r.er,r.em] w) (key:Int) (j:Int × Int) (hj1 : -2147483648≤j.1∧j.1≤2147483647) (hj2 : -2147483648≤j.2∧j.2≤2147483647) :
  Calls prog 55 #[.pointer (some ⟨b,0,none⟩),.int .u32 key,.agg [.int .i32 j.1,.int .i32 j.2].toArray] w (gK (fun v w'=>∃ r':StV,v=.int .i64 (sH vs key j).2∧dC 43 r' ((sH vs key j).1)∧Mem w (bZ [(some b,bc [.slice r.A r.n r.c,.map r.p] 73),r.er,r.em]) [(some b,bc [.slice r'.A r'.n r'.c,.map r'.p] 73),r'.er,r'.em] w')):=by
 have hW':=hW
 obtain ⟨hG,m,hs,hR⟩:=hW
 refine aI #[.tmp 6] 30 func55 Z results55 ntmps55 Z ?_
 have M0:=hO.mem
 refine aE (aA (bN (.agg (.mk _)) M0 Z Z Z (fun b1 w1 M1=>(bJ Z Z (aB (aC (aE (aA (wq (aH (.pointer _) Z) Z (aR Z Z (eL bNd Z Z (aLh _ _ r vs hW' (M1.ownSeg 0 3) key) ?_)))))))))))
 rintro v2 w2 ⟨rfl,hM2⟩
 have M2:Mem _ _ [_,_,_,_] _:=M1.seg 0 3 hM2
 refine wq (aH (.tuple (List.toArray _)) Z) Z (wq (bM (.agg (.mk _)) Z Z) Z (wq (bM (.int _ _) Z Z) Z (aQ fX M2 Z Z (fun b3 w3 M3=>(bB 4 _ bR M3 Z Z Z Z Z (aO Z) Z (fun w4 M4=>(bJ Z Z (aB (aC (aE (aE (aA (aR Z Z (cY Z Z Z Z (aB (aC ?_))))))))))))))))
 refine aW Z (fun h16 => ?_) (fun h16 => ?_)
 ·refine aE (aA (aR Z Z (bJ Z Z (aB (aC (aP (cN (cI (.int _ _) Z ?_))))))))
  have hf:dR key vs < 0:=Decidable.byContradiction fun h=>h16 (by unfold qR;rw [if_neg h];rfl)
  exact ⟨r,by rw [uK j hf];unfold qR;rw [if_pos hf],by rw [uK j hf];exact hW',M4.keep [true,true,true,false,false]⟩
 ·have hf:¬ dR key vs < 0:=fun h=>h16 (by unfold qR;rw [if_pos h];decide)
  obtain ⟨i,bb,hbi,_,hfi⟩:=(eP key vs).resolve_left (fun h=>hf (by omega))
  have hgb:(qR vs key).body=bb:=by unfold qR;rw [if_neg hf];exact vC hfi hbi
  obtain ⟨z1,z2,z3,z4⟩:=aWw hR hG j hfi hbi
  have hbo:=hG.okb bb (List.mem_of_getElem? hbi)
  refine aM (aC (aE (aA (wq (aU 4 bR M4 Z Z Z) Z (aL 19 ((.agg (aF bb).toArray)) (congrArg (fun x=>Value.agg (aF x).toArray) hgb) (wq (aU 3 bO M4 Z Z Z) Z (eL bVp Z Z (bFg _ bb hbo j hj1 hj2) ?_)))))))
  rintro v5 w5 ⟨⟨gg,rfl⟩,hb5⟩
  have M5:=M4.callB hb5
  refine wq (aH (.tuple (List.toArray _)) Z) Z (wq (bM (.agg (.mk _)) Z Z) Z (wq (bM (.bool _) Z Z) Z (bB 4 _ bR M5 Z Z Z Z Z (aO Z) Z (fun w6 M6=>(aB (aC (aE (fY [(0,0),(1,0),(2,0),(3,0),(4,1),(5,2),(6,0)] mixed M6 Z (by kernel_rfl) (fun w7 M7=>(aX Z Z Z (fun _=>aH (.pointer _) Z) (aX Z Z Z (fun _=>bK Z) (aX Z Z Z (fun _=>aD 0 zG Z) (aX Z Z Z (fun _=>aD 0 vT Z) (bP Z Z Z (aU 4 bR M7 Z Z Z) (dL [true] Z (by kernel_rfl) ?_)))))))))))))))
  refine eL bVr Z Z (bMl _ _ _ _ _ _ _ _ _ hs (M7.ownSeg 0 3) (pushB bb j)) ?_
  rintro v8 w8 ⟨rfl,A8,n8,c8,p8,er8,em8,hs8,hM8⟩
  have M8:Mem _ _ [_,_,_,_,_] _:=M7.seg 0 3 hM8
  refine aB (aC ⟨dG, ?_⟩)
  refine nF Z Z Z (bS (aC (aP (cI (.int _ _) Z ?_))))
  exact ⟨⟨A8,n8,c8,p8,er8,em8⟩,by rw [z3,z2],aEc hs8 z1 (aXm (hG.inm hR) (aXf (hG.inb bb (List.mem_of_getElem? hbi)) j)),M8.keep [true,true,true,false,false]⟩
theorem xJ (w:World) (b:Nat) (r:StV) (vs:List Body) (hW:dC 43 r vs) (hO:Own [(some b,bc [.slice r.A r.n r.c,.map r.p] 73),r.er,r.em] w) (A:Option Addr) (n c:Nat) (xs:List Body) (RA:Rd w 10 A n (xs.map aF)) (hX:GoodV xs) (hdA:0 < n→∀ q off,A=some ⟨q,off,none⟩→q∉bZ [(some b,bc [.slice r.A r.n r.c,.map r.p] 73),r.er,r.em]) :
  Calls prog 41 #[.pointer (some ⟨b,0,none⟩),.slice A n c] w (gK (fun v w'=>∃ r':StV,v=.tuple #[]∧dC 43 r' (xs)∧Mem w (bZ [(some b,bc [.slice r.A r.n r.c,.map r.p] 73),r.er,r.em]) [(some b,bc [.slice r'.A r'.n r'.c,.map r'.p] 73),r'.er,r'.em] w')):=by
 have hlen:xs.length=n:=by simpa using RA.len
 have hbd:=RA.bound
 have hxl:=hX.len
 refine aI #[] 23 func41 Z results41 ntmps41 Z ?_
 have M0:=hO.mem
 refine aE (aA (wq (aH (.pointer _) Z) Z (wq (cD [] _ bHv Z Z) Z (wq (bK Z) Z (wq (aD 0 zG Z) Z (bB 0 _ bTw M0 Z Z Z Z Z (aO Z) Z (fun w1 M1=>(aB (aC (aE (aA ?_)))))))))))
 have M2:Mem _ _ [_,_,_] _:=(((M1.keep [true,false,false]).dummy default).dummy default)
 refine dK Z Z (wq (cK underlying46 Z) Z (aR Z Z (aB (aC (aS (dM (σ:=Nat × StV) [0,10,11] (fun (k,r2)=>[(12,.int .i64 (k:Int))]) (fun (k,r2) w'=>(k≤n∧StoreIs 43 r2.A r2.n r2.c r2.p r2.er r2.em (xs.take k))∧Mem w (bZ [(some b,bc [.slice r.A r.n r.c,.map r.p] 73),r.er,r.em]) [(some b,bc [.slice r2.A r2.n r2.c,.map r2.p] 73),r2.er,r2.em] w') (fun (k,r2)=>n - k) (0,⟨none,0,0,none,(none,default),(none,default)⟩) (bE Z eB) (⟨⟨by omega,(StoreIs.nil 43 default default)⟩,M2⟩) ?_))))))
 rintro ⟨k,r2⟩ ρ3 w3 ⟨⟨hk,hr⟩,hM3⟩
 refine aE (aA (cY Z Z Z Z (aB (aC (aE ?_)))))
 refine aW Z (fun h13 => ?_) (fun h13 => ?_)
 ·obtain ⟨xb,hxb⟩:=cT (xs:=xs) (k:=k) hlen (by omega)
  refine aM (aC (aE (aS (aE (aA (wq (bI (k) dS Z Z Z ((RA.memY hM3 hdA).below_len (aG aF hxb)) ((RA.memY hM3 hdA).someK (aG aF hxb))) Z (wq (dN _ bR (RA.memY hM3 hdA) (aG aF hxb) Z) Z (aQ fX hM3 Z Z (fun b4 w4 M4=>(bB 3 _ bR M4 Z Z Z Z Z (aO Z) Z (fun w5 M5=>(aB (aC (fY [(0,0),(1,0),(2,0),(3,0),(4,1),(5,2)] mixed M5 Z (by kernel_rfl) (fun w6 M6=>(aX Z Z Z (fun _=>aH (.pointer _) Z) (aX Z Z Z (fun _=>bK Z) (aX Z Z Z (fun _=>aD 0 zG Z) ?_))))))))))))))))))
  refine aX Z Z Z (fun _=>aD 0 vT Z) (bP Z Z Z (aU 3 bR M6 Z Z Z) (dL [true] Z (by kernel_rfl) (eL bNn Z Z (aYa _ _ _ _ _ _ _ _ _ hr (M6.ownSeg 0 3) xb) ?_)))
  rintro v7 w7 ⟨rfl,A7,n7,c7,p7,er7,em7,hs7,hM7⟩
  have M7:Mem _ _ [_,_,_,_] _:=M6.seg 0 3 hM7
  refine aB (aC ⟨dG, ?_⟩)
  refine bS (cU (aC (aA (wq (bA Z Z (by omega) (by omega)) Z (aR Z Z (aB ?_))))))
  refine bX (k+1,⟨A7,n7,c7,p7,er7,em7⟩) (bE Z eB) (cA Z (cA Z (cA Z gL))) ?_ ?_
  ·exact ⟨⟨by omega,by rw [← aOc hX (k+1) (by omega),aEo hxb,aOc hX k (by omega)];exact hs7⟩,M7.keep [true,true,true,false]⟩
  ·(show n - (k+1) < n - k;omega)
 ·obtain rfl:k=n:=by omega
  rw [List.take_of_length_le (by omega)] at hr
  refine cS (dE (dH (eO (kO ?_))))
  exact ⟨r2,Z,⟨hX,xs,hr,aAb hX.s⟩,hM3⟩
theorem aVb (w:World) (F:Rd w 2 (some ⟨0,0,none⟩) 1 [[.int .u32 73856093,.int .u32 19349663]]) (N:Rd w 4 (some ⟨3,0,none⟩) 1 [eF iY]) (b:Nat) (r:StV) (vs:List Body) (hW:dC 43 r vs) (hO:Own [(some b,bc [.slice r.A r.n r.c,.map r.p] 73),r.er,r.em] w) (hdF:0 < 1→∀ q off,(some ⟨0,0,none⟩:Option Addr)=some ⟨q,off,none⟩→q∉bZ [(some b,bc [.slice r.A r.n r.c,.map r.p] 73),r.er,r.em]) (hdN:0 < 1→∀ q off,(some ⟨3,0,none⟩:Option Addr)=some ⟨q,off,none⟩→q∉bZ [(some b,bc [.slice r.A r.n r.c,.map r.p] 73),r.er,r.em]) :
  Calls prog 57 #[.pointer (some ⟨b,0,none⟩)] w (gK (fun v w'=>∃ (r':StV) (t:Nat),v=.agg [.int .i64 (t:Int),.int .i64 ((lY vs).length:Int),.bool (aAi vs)].toArray∧dC 43 r' (rK vs)∧Mem w (bZ [(some b,bc [.slice r.A r.n r.c,.map r.p] 73),r.er,r.em]) [(some b,bc [.slice r'.A r'.n r'.c,.map r'.p] 73),r'.er,r'.em] w')):=by
 have hW':=hW
 obtain ⟨hG,m,hs,hR⟩:=hW
 have hvl:=hG.len
 refine aI #[.cell 2 123] 18 func57 Z results57 ntmps57 Z ?_
 have M0:=hO.mem
 refine aE (aA (aQ aEl M0 Z Z (fun b1 w1 M1=>(aB (aC (aE (aE (aA (wq (aH (.pointer _) Z) Z (wq (iB false underlying61 Z Z) Z (aB (aC (cF Z (aM (aC (aE (aA (wq (aH (.pointer _) Z) Z (eL bNj Z Z (aHy _ _ r _ hW' (M1.ownSeg 0 3)) ?_)))))))))))))))))))
 rintro v2 w2 ⟨q,rfl,hq,hM2⟩
 have M2:Mem _ _ [_,_,_,_,_] _:=M1.seg 0 3 hM2
 have hqn:vs.length=q.n:=by simpa using hq.1
 refine eL bVs Z Z (bBe _ (F.memY M2 hdF) (N.memY M2 hdN) _ _ _ vs (hq.rd M2 (bH (i:=4) Z)) hG.okb hG.s (by omega)) ?_
 rintro v3 w3 ⟨ra,ta,rfl,h1ta,h2ta,hra,hM3⟩
 have M3:Mem _ _ [_,_,_,_,_,_] _:=M2.call0 hM3
 refine wq (aH (.tuple (List.toArray _)) Z) Z (wq (bM (.slice _ _ _) Z Z) Z (wq (bM (.agg (.mk _)) Z Z) Z (aQ aEl M3 Z Z (fun b4 w4 M4=>(eG Z Z (bB 6 _ tT M4 Z Z Z Z Z (aO Z) Z (fun w5 M5=>(aB (aC (aE (aA (wq (aH (.pointer _) Z) Z (dK Z Z (eL bNk Z Z (xJ _ _ r _ hW' (M5.ownSeg 0 3) ra.A ra.n ra.c (rK vs) (hra.rd M5 (bH (i:=5) Z)) hG.step (hra.awayS M5 0 3 5 Z Z)) ?_))))))))))))))
 rintro v6 w6 ⟨r2,rfl,hw2,hM6⟩
 have M6:Mem _ _ [_,_,_,_,_,_,_] _:=M5.seg 0 3 hM6
 refine aB (aC (aE (aA (wq (aU 6 tT M6 Z Z Z) Z (bB 3 _ tT M6 Z Z Z Z Z (aO Z) Z (fun w7 M7=>(aB (aC (aP (eS 3 tT M7 Z Z Z ?_))))))))))
 exact ⟨r2,ta,Z,hw2,M7.keep [true,true,true,false,false,false,false]⟩
theorem xI (w:World) (b:Nat) (r:StV) (vs:List Body) (hW:dC 43 r vs) (hO:Own [(some b,bc [.slice r.A r.n r.c,.map r.p] 73),r.er,r.em] w) (BA:Option Addr) (nn cc:Nat) (ls:List Int) (RS:Rd w 1 BA nn (ls.map bL)) (hB:iK ls) (hcap:nn≤cc) (hnn:nn≤1000000) (hdB:0 < nn→∀ q off,BA=some ⟨q,off,none⟩→q∉bZ [(some b,bc [.slice r.A r.n r.c,.map r.p] 73),r.er,r.em]) :
  Calls prog 31 #[.pointer (some ⟨b,0,none⟩),.slice BA nn cc] w (gK (fun v w'=>∃ r':StV,v=.int .i64 (nS ls).2∧dC 43 r' (pR vs ls)∧Mem w (bZ [(some b,bc [.slice r.A r.n r.c,.map r.p] 73),r.er,r.em]) [(some b,bc [.slice r'.A r'.n r'.c,.map r'.p] 73),r'.er,r'.em] w')):=by
 have hW':=hW
 obtain ⟨hG,m,hs,hR⟩:=hW
 have hlen:ls.length=nn:=by simpa using RS.len
 refine aI #[.tmp 4] 20 func31 Z results31 ntmps31 Z ?_
 have M0:=hO.mem
 refine aE (aA (bJ Z Z (aB (aC (aE (aE (aA (wq (aH (.pointer _) Z) Z (wq (iB false underlying61 Z Z) Z (aB (aC (cF Z (aM (aC (aE (aA (dK Z Z (eL bUk Z Z (aLy _ BA nn cc ls (RS.memY M0 hdB) hB hcap (by omega)) ?_))))))))))))))))))
 rintro v1 w1 ⟨q,rfl,hq,hM1⟩
 have M1:Mem _ _ [_,_,_,_] _:=M0.call0 hM1
 refine wq (aH (.tuple (List.toArray _)) Z) Z (wq (bM (.slice _ _ _) Z Z) Z (wq (bM (.int _ _) Z Z) Z (eG Z Z (bJ Z Z (aB (aC (aE (aE (aA (aR Z Z (cY Z Z Z Z (aB (aC ?_)))))))))))))
 refine aW Z (fun h15 => ?_) (fun h15 => ?_)
 ·refine aA (wq (aH (.pointer _) Z) Z (dK Z Z (eL bNk Z Z (xJ _ _ r _ hW' (M1.ownSeg 0 3) q.A q.n q.c (nS ls).1 (hq.rd M1 (bH (i:=3) Z)) (GoodV.dec hB (by omega) h15) (hq.awayS M1 0 3 3 Z Z)) ?_)))
  rintro v2 w2 ⟨r2,rfl,hw2,hM2⟩
  have M2:Mem _ _ [_,_,_,_] _:=M1.seg 0 3 hM2
  refine aB (aC (aE (aA (aR Z Z (bJ Z Z (aB (aC (aP (cI (.int _ _) Z ?_)))))))))
  exact ⟨r2,Z,by unfold pR;rw [if_pos h15];exact hw2,M2.keep [true,true,true,false]⟩
 ·refine aM (aC (aE (aA (aR Z Z (bJ Z Z (aB (aC (aP (cI (.int _ _) Z ?_)))))))))
  exact ⟨r,Z,by unfold pR;rw [if_neg h15];exact hW',M1.keep [true,true,true,false]⟩
theorem aJa (w:World) (q0:Row) (s:List Body) (hq0:aZ 43 10 q0.A q0.n q0.c ((s).map aF) q0.e) (hG:GoodV s) (hO:Own [q0.e] w) (key:Int) (j:Int × Int) (hj1 : -2147483648≤j.1∧j.1≤2147483647) (hj2 : -2147483648≤j.2∧j.2≤2147483647) :
  Calls prog 61 #[.slice q0.A q0.n q0.c,.int .u32 key,.agg [.int .i32 j.1,.int .i32 j.2].toArray] w (gK (fun v w'=>∃ q:Row,v=.tuple #[.slice q.A q.n q.c,.int .i64 (sH s key j).2]∧aZ 43 10 q.A q.n q.c (((sH s key j).1).map aF) q.e∧Mem w (bZ [q0.e]) [q.e] w')):=by
 have hlen:s.length=q0.n:=by simpa using hq0.1
 have hsl:=hG.len
 refine aI #[.tmp 6,.tmp 7] 29 func61 Z results61 ntmps61 Z ?_
 have M0:=hO.mem
 refine aE (aA (bN (.agg (.mk _)) M0 Z Z Z (fun b1 w1 M1=>(eG Z Z (bJ Z Z (aB (aC (aE (aA (dK Z Z (aR Z Z (dO tN Z Z M1 (iI _ key _ _ _ s (hq0.rd M1 (bH (i:=0) Z))) (fun w2 M2=>(bJ Z Z (aB (aC (aE (aE (aA (aR Z Z (cY Z Z Z Z (aB (aC ?_)))))))))))))))))))))))
 refine aW Z (fun h15 => ?_) (fun h15 => ?_)
 ·refine aE (aA (dK Z Z (eG Z Z (bJ Z Z (aB (aC (aP (cN (gA (.slice _ _ _) (.int _ _) Z Z ?_)))))))))
  exact ⟨q0,by rw [uK j h15],by rw [uK j h15];exact hq0,M2.keep [true,false]⟩
 ·obtain ⟨i,bb,hbi,_,hfi⟩:=(eP key s).resolve_left (fun h=>h15 (by omega))
  have hbo:=hG.okb bb (List.mem_of_getElem? hbi)
  have hie:sH s key j=(xY s (pushB bb j) false,0):=by unfold sH;rw [if_neg (by omega),vC hfi hbi]
  refine aM (aC (aE (aLk [(0,0),(1,0),(2,1),(3,1),(4,1)] 5 9 [(6,0),(7,0),(8,0),(9,2),(10,2),(11,0)] [(5,2),(6,0),(7,0),(8,0),(10,2),(11,0)] mixed Z (by kernel_rfl) (fun w3 hb3 hh3 => ?_))))
  have M3:=M2.drew hb3 hh3
  refine sQ Z Z Z (fun _=>aH (.slice _ _ _) Z) (sQ Z Z Z (fun _=>aH (.int _ _) Z) (aAo Z Z Z (bI (i) dS Z Z hfi ((hq0.rd M3 (bH (i:=0) Z)).below_len (aG aF hbi)) ((hq0.rd M3 (bH (i:=0) Z)).someK (aG aF hbi))) (aAo Z Z Z (dN _ bR (hq0.rd M3 (bH (i:=0) Z)) (aG aF hbi) Z) (aAo Z Z Z (aU 1 bO M3 Z Z Z) ?_))))
  refine aDt ?_ ?_
  ·refine dL [true,true,true] Z (by kernel_rfl) (eL bNp Z Z (aGx _ bb hbo j hj1 hj2) ?_)
   rintro v4 w4 ⟨⟨gg,rfl⟩,hb4⟩
   have M4:=M3.callB hb4
   refine aB (aC ⟨dG, ?_⟩)
   refine aX Z Z Z (fun _=>aH (.tuple (List.toArray _)) Z) (aX Z Z Z (fun _=>bM (.agg (.mk _)) Z Z) (aX Z Z Z (fun _=>bM (.bool _) Z Z) (dL [] Z (by kernel_rfl) (aQ fX M4 Z Z (fun b5 w5 M5 => ?_)))))
   refine aB (aC ⟨dG, ?_⟩)
   refine dL [] Z (by kernel_rfl) (bB 2 _ bR M5 Z Z Z Z Z (aO Z) Z (fun w6 M6 => ?_))
   refine aB (aC ⟨dG, ?_⟩)
   refine aX Z Z Z (fun _=>aJ (.bool _) Z) (bS (aC (aE (aA (dK Z Z (wq (aU 2 bR M6 Z Z Z) Z (eL aVw Z Z (wB _ (pushB bb j) false _ _ _ s (hq0.rd M6 (bH (i:=0) Z)) (by omega)) ?_)))))))
   rintro v7 w7 ⟨A7,n7,c7,e7,rfl,hR7,hM7⟩
   have M7:Mem _ _ [_,_,_,_] _:=M6.call0 hM7
   refine eG Z Z (bJ Z Z (aB (aC (aP (gA (.slice _ _ _) (.int _ _) Z Z ?_)))))
   exact ⟨⟨A7,n7,c7,e7⟩,by rw [hie],by rw [hie];exact hR7,M7.keep [false,false,false,true]⟩
  ·refine dL [false,false,false] Z (by kernel_rfl) (aQ fX M3 Z Z (fun b8 w8 M8 => ?_))
   refine aB (aC ⟨(dQ (bC Z (aU 1 bO M8 Z Z Z)) (dQ (bC Z (dN _ bR (hq0.rd M8 (bH (i:=0) Z)) (aG aF hbi) Z)) (dQ (bC Z (bI (i) dS Z Z hfi ((hq0.rd M8 (bH (i:=0) Z)).below_len (aG aF hbi)) ((hq0.rd M8 (bH (i:=0) Z)).someK (aG aF hbi)))) dG))), ?_⟩)
   refine dL [true,true,true] Z (by kernel_rfl) (eL bNp Z Z (aGx _ bb hbo j hj1 hj2) ?_)
   rintro v9 w9 ⟨⟨gg,rfl⟩,hb9⟩
   have M9:=M8.callB hb9
   refine aB (aC ⟨dG, ?_⟩)
   refine aX Z Z Z (fun _=>aH (.tuple (List.toArray _)) Z) (aX Z Z Z (fun _=>bM (.agg (.mk _)) Z Z) (aX Z Z Z (fun _=>bM (.bool _) Z Z) (dL [] Z (by kernel_rfl) (bB 2 _ bR M9 Z Z Z Z Z (aO Z) Z (fun w10 M10 => ?_)))))
   refine aB (aC ⟨dG, ?_⟩)
   refine aX Z Z Z (fun _=>aJ (.bool _) Z) (bS (aC (aE (aA (dK Z Z (wq (aU 2 bR M10 Z Z Z) Z (eL aVw Z Z (wB _ (pushB bb j) false _ _ _ s (hq0.rd M10 (bH (i:=0) Z)) (by omega)) ?_)))))))
   rintro v11 w11 ⟨A11,n11,c11,e11,rfl,hR11,hM11⟩
   have M11:Mem _ _ [_,_,_,_] _:=M10.call0 hM11
   refine eG Z Z (bJ Z Z (aB (aC (aP (gA (.slice _ _ _) (.int _ _) Z Z ?_)))))
   exact ⟨⟨A11,n11,c11,e11⟩,by rw [hie],by rw [hie];exact hR11,M11.keep [false,false,false,true]⟩
theorem bGx (w:World) (q0:Row) (s:List Body) (hq0:aZ 43 10 q0.A q0.n q0.c ((s).map aF) q0.e) (hG:GoodV s) (hO:Own [q0.e] w) (o:OpI) (BA:Option Addr) (nn cc:Nat) (hP:OpOk w o BA nn cc) (hnn:nn≤1000000) (hdB:0 < nn→∀ q off,BA=some ⟨q,off,none⟩→q∉bZ [q0.e]) :
  Calls prog 38 #[.slice q0.A q0.n q0.c,.agg (dU o BA nn cc).toArray] w (gK (fun v w'=>∃ (q p:Row),v=.agg (bGz q.A q.n q.c p.A p.n p.c (doR s o).2).toArray∧aZ 43 10 q.A q.n q.c (((doR s o).1).map aF) q.e∧aZ 5 1 p.A p.n p.c (((doR s o).2.bytes).map bL) p.e∧Mem w (bZ [q0.e]) [q.e,p.e] w')):=by
 have hlen:s.length=q0.n:=by simpa using hq0.1
 have hsl:=hG.len
 have hbl:=hP.len
 refine aI #[.cell 4 97] 93 func38 Z results38 ntmps38 Z ?_
 have M0:=hO.mem
 refine aE (aA (bN (.agg (.mk _)) M0 Z Z Z (fun b1 w1 M1=>(aQ aVi M1 Z Z (fun b2 w2 M2=>(aB (aC (aE (aA (dK Z Z (wq (cD [(0,.slice _ _ _)] _ bHw Z Z) Z (aQ aVi M2 Z Z (fun b3 w3 M3=>(bB 3 _ iR M3 Z Z Z Z Z (aO Z) Z (fun w4 M4=>(aB (aC (aE (aE (aA (wq (aD 0 bJx Z) Z (wq (aK 1 (.int _ _) fQ M4 Z Z Z) Z (aB (aC (aS (aE (aA (cY Z Z Z Z (wq (aJ (.bool (decide _)) Z) Z (aB (aC ?_)))))))))))))))))))))))))))))))
 refine aW Z (fun h13 => ?_) (fun h13 => ?_)
 ·refine aA (dK Z Z (wq (aD 1 bJy Z) Z (wq (rG 1 _ bR M4 Z Z Z Z) Z (eL bVa Z Z (bAm _ _ _ _ _ s hq0 (M4.ownAt (i:=0) Z) o.body (by omega)) ?_))))
  rintro v5 w5 ⟨A5,n5,c5,e5,rfl,hR5,hM5⟩
  have M5:Mem _ _ [_,_,_,_] _:=M4.seg 0 1 hM5
  refine wq (aH (.tuple (List.toArray _)) Z) Z (wq (bM (.slice _ _ _) Z Z) Z (wq (bM (.int _ _) Z Z) Z (wq (aD 0 vU Z) Z (dB 3 (.slice _ _ _) gR M5 Z Z Z Z Z Z (fun w6 M6=>(wq (aD 1 vV Z) Z (dB 3 (.int _ _) fQ M6 Z Z Z Z Z Z (fun w7 M7=>(aB (cU (aC (aE (aA (wq (aU 3 iR M7 Z Z Z) Z (bB 2 _ iR M7 Z Z Z Z Z (aO Z) Z (fun w8 M8=>(aB (aC (aP (eS 2 iR M8 Z Z Z ?_))))))))))))))))))))
  exact ⟨⟨A5,n5,c5,e5⟩,⟨none,0,0,(none,default)⟩,by rw [bEi h13];rfl,by rw [bEi h13];exact hR5,by rw [bEi h13];exact aZ.nil _ _ _,(M8.keep [true,false,false,false]).dummy default⟩
 ·refine aE (aA (cY Z Z Z Z (wq (aJ (.bool (decide _)) Z) Z (aB (aC ?_)))))
  refine aW Z (fun h24 => ?_) (fun h24 => ?_)
  ·refine aA (dK Z Z (wq (aD 11 aMj Z) Z (wq (aK 1 (.int _ _) bV M4 Z Z Z) Z (eL bVb Z Z (aNc _ _ _ _ _ s hq0 (M4.ownAt (i:=0) Z) o.key (by omega)) ?_))))
   rintro v9 w9 ⟨A9,n9,c9,e9,rfl,hR9,hM9⟩
   have M9:Mem _ _ [_,_,_,_] _:=M4.seg 0 1 hM9
   refine wq (aH (.tuple (List.toArray _)) Z) Z (wq (bM (.slice _ _ _) Z Z) Z (wq (bM (.int _ _) Z Z) Z (wq (aD 0 vU Z) Z (dB 3 (.slice _ _ _) gR M9 Z Z Z Z Z Z (fun w10 M10=>(wq (aD 1 vV Z) Z (dB 3 (.int _ _) fQ M10 Z Z Z Z Z Z (fun w11 M11=>(aB (cU (aC (aE (aA (wq (aU 3 iR M11 Z Z Z) Z (bB 2 _ iR M11 Z Z Z Z Z (aO Z) Z (fun w12 M12=>(aB (aC (aP (eS 2 iR M12 Z Z Z ?_))))))))))))))))))))
   exact ⟨⟨A9,n9,c9,e9⟩,⟨none,0,0,(none,default)⟩,by rw [bEj h24];rfl,by rw [bEj h24];exact hR9,by rw [bEj h24];exact aZ.nil _ _ _,(M12.keep [true,false,false,false]).dummy default⟩
  ·refine aE (aA (cY Z Z Z Z (wq (aJ (.bool (decide _)) Z) Z (aB (aC ?_)))))
   refine aW Z (fun h35 => ?_) (fun h35 => ?_)
   ·refine aA (dK Z Z (wq (aD 11 aMj Z) Z (wq (aK 1 (.int _ _) bV M4 Z Z Z) Z (wq (aD 12 bJz Z) Z (wq (rG 1 _ bO M4 Z Z Z Z) Z (eL bVc Z Z (aJa _ q0 s hq0 hG (M4.ownAt (i:=0) Z) o.key o.push hP.p1 hP.p2) ?_))))))
    rintro v13 w13 ⟨qi,rfl,hqi,hM13⟩
    have M13:Mem _ _ [_,_,_,_] _:=M4.seg 0 1 hM13
    refine wq (aH (.tuple (List.toArray _)) Z) Z (wq (bM (.slice _ _ _) Z Z) Z (wq (bM (.int _ _) Z Z) Z (wq (aD 0 vU Z) Z (dB 3 (.slice _ _ _) gR M13 Z Z Z Z Z Z (fun w14 M14=>(wq (aD 1 vV Z) Z (dB 3 (.int _ _) fQ M14 Z Z Z Z Z Z (fun w15 M15=>(aB (cU (aC (aE (aA (wq (aU 3 iR M15 Z Z Z) Z (bB 2 _ iR M15 Z Z Z Z Z (aO Z) Z (fun w16 M16=>(aB (aC (aP (eS 2 iR M16 Z Z Z ?_))))))))))))))))))))
    exact ⟨qi,⟨none,0,0,(none,default)⟩,by rw [bEk h35];rfl,by rw [bEk h35];exact hqi,by rw [bEk h35];exact aZ.nil _ _ _,(M16.keep [true,false,false,false]).dummy default⟩
   ·refine aE (aA (cY Z Z Z Z (wq (aJ (.bool (decide _)) Z) Z (aB (aC ?_)))))
    refine aW Z (fun h48 => ?_) (fun h48 => ?_)
    ·refine aA (dK Z Z (eL bVd Z Z (aUd _ _ _ _ s (hq0.rd M4 (bH (i:=0) Z)) hG.okb hG.s (by omega)) ?_))
     rintro v17 w17 ⟨rb,rfl,hrb,hM17⟩
     have M17:Mem _ _ [_,_,_,_,_] _:=M4.call0 hM17
     refine wq (aH (.tuple (List.toArray _)) Z) Z (wq (bM (.slice _ _ _) Z Z) Z (wq (bM (.int _ _) Z Z) Z (wq (bM (.bool _) Z Z) Z (wq (aD 0 vU Z) Z (dB 3 (.slice _ _ _) gR M17 Z Z Z Z Z Z (fun w18 M18=>(wq (aD 13 aWt Z) Z (dB 3 (.int _ _) fQ M18 Z Z Z Z Z Z (fun w19 M19=>(wq (aD 14 aWu Z) Z (dB 3 (.bool _) qS M19 Z Z Z Z Z Z (fun w20 M20=>(aB (cU (aC (aE (aA (wq (aU 3 iR M20 Z Z Z) Z (bB 2 _ iR M20 Z Z Z Z Z (aO Z) Z (fun w21 M21 => ?_))))))))))))))))))))
     refine aB (aC (aP (eS 2 iR M21 Z Z Z ?_)))
     exact ⟨rb,⟨none,0,0,(none,default)⟩,by rw [bEl h48];rfl,by rw [bEl h48];exact hrb,by rw [bEl h48];exact aZ.nil _ _ _,(M21.keep [false,false,false,false,true]).dummy default⟩
    ·refine aE (aA (cY Z Z Z Z (wq (aJ (.bool (decide _)) Z) Z (aB (aC ?_)))))
     refine aW Z (fun h59 => ?_) (fun h59 => ?_)
     ·refine aA (dK Z Z (eL bNg Z Z (aDc _ _ _ _ s (hq0.rd M4 (bH (i:=0) Z)) (by omega) hG.inb) ?_))
      rintro v22 w22 ⟨pb,rfl,hpb,hM22⟩
      have M22:Mem _ _ [_,_,_,_,_] _:=M4.call0 hM22
      refine wq (aD 12 aWs Z) Z (dB 3 (.slice _ _ _) lR M22 Z Z Z Z Z Z (fun w23 M23=>(aB (cU (aC (aE (aA (wq (aU 3 iR M23 Z Z Z) Z (bB 2 _ iR M23 Z Z Z Z Z (aO Z) Z (fun w24 M24=>(aB (aC (aP (eS 2 iR M24 Z Z Z ?_))))))))))))))
      exact ⟨q0,pb,by rw [bEm h59];rfl,by rw [bEm h59];exact hq0,by rw [bEm h59];exact hpb,(M24.keep [true,false,false,false,true])⟩
     ·refine aE (aA (cY Z Z Z Z (wq (aJ (.bool (decide _)) Z) Z (aB (aC ?_)))))
      refine aW Z (fun h64 => ?_) (fun h64 => ?_)
      ·refine aE (aA (wq (aD 14 bKa Z) Z (wq (aK 1 (.slice _ _ _) lR M4 Z Z Z) Z (eL bVe Z Z (aNh _ BA nn cc o.bytes (hP.rd.memY M4 hdB) hP.byt hP.cap (by omega)) ?_))))
       rintro v25 w25 ⟨qd,rfl,hqd,hM25⟩
       have M25:Mem _ _ [_,_,_,_,_] _:=M4.call0 hM25
       refine wq (aH (.tuple (List.toArray _)) Z) Z (wq (bM (.slice _ _ _) Z Z) Z (wq (bM (.int _ _) Z Z) Z (eG Z Z (bJ Z Z (aB (aC (aE (aA (aR Z Z (wq (aD 1 vV Z) Z (dB 3 (.int _ _) fQ M25 Z Z Z Z Z Z (fun w26 M26=>(aB (aC (aE (aA (aR Z Z (cY Z Z Z Z (aB (aC ?_))))))))))))))))))))
       refine aW Z (fun h75 => ?_) (fun h75 => ?_)
       ·refine aA (dK Z Z (wq (aD 0 vU Z) Z (dB 3 (.slice _ _ _) gR M26 Z Z Z Z Z Z (fun w27 M27=>(aB (cU (aC (aE (aA (wq (aU 3 iR M27 Z Z Z) Z (bB 2 _ iR M27 Z Z Z Z Z (aO Z) Z (fun w28 M28=>(aB (aC (aP (eS 2 iR M28 Z Z Z ?_))))))))))))))))
        exact ⟨qd,⟨none,0,0,(none,default)⟩,by rw [aPc h64];rfl,by rw [aPc h64];exact (by unfold pR;rw [if_pos h75];exact hqd),by rw [aPc h64];exact aZ.nil _ _ _,(M28.keep [false,false,false,false,true]).dummy default⟩
       ·refine aM (cU (aC (aE (aA (wq (aU 3 iR M26 Z Z Z) Z (bB 2 _ iR M26 Z Z Z Z Z (aO Z) Z (fun w29 M29=>(aB (aC (aP (eS 2 iR M29 Z Z Z ?_)))))))))))
        exact ⟨q0,⟨none,0,0,(none,default)⟩,by rw [aPc h64];rfl,by rw [aPc h64];exact (by unfold pR;rw [if_neg h75];exact hq0),by rw [aPc h64];exact aZ.nil _ _ _,(M29.keep [true,false,false,false,false]).dummy default⟩
      ·refine aE (aA (cY Z Z Z Z (wq (aJ (.bool (decide _)) Z) Z (aB (aC ?_)))))
       refine aW Z (fun h78 => ?_) (fun h78 => ?_)
       ·refine aE (aA (dK Z Z (wq (aD 11 aMj Z) Z (wq (aK 1 (.int _ _) bV M4 Z Z Z) Z (dO tN Z Z M4 (iI _ o.key _ _ _ s (hq0.rd M4 (bH (i:=0) Z))) (fun w30 M30=>(bJ Z Z (aB (aC (aE (aA (aR Z Z (cY Z Z Z Z (aB (aC ?_)))))))))))))))
        refine aW Z (fun h85 => ?_) (fun h85 => ?_)
        ·refine aA (wq (aD 1 vV Z) Z (dB 3 (.int _ _) fQ M30 Z Z Z Z Z Z (fun w31 M31=>(aB (cU (aC (aE (aA (wq (aU 3 iR M31 Z Z Z) Z (bB 2 _ iR M31 Z Z Z Z Z (aO Z) Z (fun w32 M32=>(aB (aC (aP (eS 2 iR M32 Z Z Z ?_)))))))))))))))
         exact ⟨q0,⟨none,0,0,(none,default)⟩,by rw [aSw h78,aBe h85];rfl,by rw [aSw h78,aBe h85];exact hq0,by rw [aSw h78,aBe h85];exact aZ.nil _ _ _,(M32.keep [true,false,false,false]).dummy default⟩
        ·obtain ⟨i,bb,hbi,_,hfi⟩:=(eP o.key s).resolve_left (fun h=>h85 (by omega))
         refine aA (dK Z Z (aR Z Z (wq (bI (i) dS Z Z hfi ((hq0.rd M30 (bH (i:=0) Z)).below_len (aG aF hbi)) ((hq0.rd M30 (bH (i:=0) Z)).someK (aG aF hbi))) Z (wq (dN _ bR (hq0.rd M30 (bH (i:=0) Z)) (aG aF hbi) Z) Z (wq (aD 2 bJw Z) Z (vE 3 _ bR M30 Z Z Z Z Z (aO Z) (Nat.le_of_ble_eq_true Z) (fun w33 M33=>(aB (cU (aC (aE (aA (wq (aU 3 iR M33 Z Z Z) Z (bB 2 _ iR M33 Z Z Z Z Z (aO Z) Z (fun w34 M34=>(aB (aC (aP ?_))))))))))))))))))
         refine eS 2 iR M34 Z Z Z ?_
         exact ⟨q0,⟨none,0,0,(none,default)⟩,by rw [aSw h78,aBf hfi hbi];rfl,by rw [aSw h78,aBf hfi hbi];exact hq0,by rw [aSw h78,aBf hfi hbi];exact aZ.nil _ _ _,(M34.keep [true,false,false,false]).dummy default⟩
       ·refine aM (cU (aC (aE (aA (wq (aU 3 iR M4 Z Z Z) Z (bB 2 _ iR M4 Z Z Z Z Z (aO Z) Z (fun w35 M35=>(aB (aC (aP (eS 2 iR M35 Z Z Z ?_)))))))))))
        exact ⟨q0,⟨none,0,0,(none,default)⟩,by rw [bJr h13 h24 h35 h48 h59 h64 h78];rfl,by rw [bJr h13 h24 h35 h48 h59 h64 h78];exact hq0,by rw [bJr h13 h24 h35 h48 h59 h64 h78];exact aZ.nil _ _ _,(M35.keep [true,false,false,false]).dummy default⟩
theorem bEt (w:World) :
  Calls prog 46 #[(.func (.func 47) #[] #[]:Value),(.func (.func 48) #[] #[]:Value)] w (gK (fun v w'=>∃ fa ga:Nat,v=(.func (.func 75) #[] #[.pointer (some ⟨fa,0,none⟩),.pointer (some ⟨ga,0,none⟩)]:Value)∧Mem w [] [(some fa,bc [(.func (.func 47) #[] #[]:Value)] 111),(some ga,bc [(.func (.func 48) #[] #[]:Value)] 113)] w')):=by
 refine aI #[.tmp 4] 6 func46 Z results46 ntmps46 Z ?_
 have M0:=Mem.refl w
 refine aE (aA (bN (.func _ _ _) M0 Z Z Z (fun b1 w1 M1=>(bN (.func _ _ _) M1 Z Z Z (fun b2 w2 M2=>(wq (aJ (_) Z) Z (aB (aC (aE (aA (wq (dW [] [.pointer _,.pointer _] Z Z) Z (wq (aJ (.func _ _ _) Z) Z (aB (aC (aP (cI (.func _ _ _) Z ?_))))))))))))))))
 exact ⟨_,_,Z,M2⟩
theorem aPh (w:World) :
  Calls prog 49 #[(.func (.func 50) #[] #[]:Value),(.func (.func 51) #[] #[]:Value)] w (gK (fun v w'=>∃ fa ga:Nat,v=(.func (.func 76) #[] #[.pointer (some ⟨fa,0,none⟩),.pointer (some ⟨ga,0,none⟩)]:Value)∧Mem w [] [(some fa,bc [(.func (.func 50) #[] #[]:Value)] 115),(some ga,bc [(.func (.func 51) #[] #[]:Value)] 117)] w')):=by
 refine aI #[.tmp 4] 6 func49 Z results49 ntmps49 Z ?_
 have M0:=Mem.refl w
 refine aE (aA (bN (.func _ _ _) M0 Z Z Z (fun b1 w1 M1=>(bN (.func _ _ _) M1 Z Z Z (fun b2 w2 M2=>(wq (aJ (_) Z) Z (aB (aC (aE (aA (wq (dW [] [.pointer _,.pointer _] Z Z) Z (wq (aJ (.func _ _ _) Z) Z (aB (aC (aP (cI (.func _ _ _) Z ?_))))))))))))))))
 exact ⟨_,_,Z,M2⟩
theorem aMf (w:World) :
  Calls prog 52 #[(.func (.func 31) #[] #[]:Value),(.func (.func 53) #[] #[]:Value)] w (gK (fun v w'=>∃ fa ga:Nat,v=(.func (.func 78) #[] #[.pointer (some ⟨fa,0,none⟩),.pointer (some ⟨ga,0,none⟩)]:Value)∧Mem w [] [(some fa,bc [(.func (.func 31) #[] #[]:Value)] 119),(some ga,bc [(.func (.func 53) #[] #[]:Value)] 120)] w')):=by
 refine aI #[.tmp 4] 6 func52 Z results52 ntmps52 Z ?_
 have M0:=Mem.refl w
 refine aE (aA (bN (.func _ _ _) M0 Z Z Z (fun b1 w1 M1=>(bN (.func _ _ _) M1 Z Z Z (fun b2 w2 M2=>(wq (aJ (_) Z) Z (aB (aC (aE (aA (wq (dW [] [.pointer _,.pointer _] Z Z) Z (wq (aJ (.func _ _ _) Z) Z (aB (aC (aP (cI (.func _ _ _) Z ?_))))))))))))))))
 exact ⟨_,_,Z,M2⟩
theorem bSe (w:World) (o:OpI) (BA:Option Addr) (nn cc:Nat) :
  Calls prog 48 #[.agg (dU o BA nn cc).toArray] w (Rb w ((.agg (aF o.body).toArray))):=by
 refine aI #[.cell 2 43] 5 func48 Z results48 ntmps48 Z ?_
 have M0:=Mem.refl w
 refine aE (aA (bN (.agg (.mk _)) M0 Z Z Z (fun b1 w1 M1=>(aQ fX M1 Z Z (fun b2 w2 M2=>(aB (aC (aE (aA (wq (aD 1 aWm Z) Z (wq (rG 0 _ bR M2 Z Z Z Z) Z (bB 1 _ bR M2 Z Z Z Z Z (aO Z) Z (fun w3 M3=>(aB (aC (aP (eS 1 bR M3 Z Z Z ?_)))))))))))))))))
 exact ⟨Z,M3.below⟩
theorem bSf (w:World) (o:OpI) (BA:Option Addr) (nn cc:Nat) :
  Calls prog 51 #[.agg (dU o BA nn cc).toArray] w (Rb w (.int .u32 o.key)):=by
 refine aI #[.tmp 2] 5 func51 Z results51 ntmps51 Z ?_
 have M0:=Mem.refl w
 refine aE (aA (bN (.agg (.mk _)) M0 Z Z Z (fun b1 w1 M1=>(bJ Z Z (aB (aC (aE (aA (wq (aD 11 aMi Z) Z (wq (aK 0 (.int _ _) bV M1 Z Z Z) Z (bJ Z Z (aB (aC (aP (cI (.int _ _) Z ?_)))))))))))))))
 exact ⟨Z,M1.below⟩
theorem bSg (w:World) (o:OpI) (BA:Option Addr) (nn cc:Nat) :
  Calls prog 53 #[.agg (dU o BA nn cc).toArray] w (Rb w (.slice BA nn cc)):=by
 refine aI #[.tmp 2] 5 func53 Z results53 ntmps53 Z ?_
 have M0:=Mem.refl w
 refine aE (aA (bN (.agg (.mk _)) M0 Z Z Z (fun b1 w1 M1=>(eG Z Z (aB (aC (aE (aA (wq (aD 14 aEa Z) Z (wq (aK 0 (.slice _ _ _) lR M1 Z Z Z) Z (eG Z Z (aB (aC (aP (cI (.slice _ _ _) Z ?_)))))))))))))))
 exact ⟨Z,M1.below⟩
def sZ (f1 g1 f2 g2 f3 g3:Nat) (k:Int):Option Value:=if k=5 then some (.func (.func 58) #[] #[]:Value) else if k=4 then some (.func (.func 56) #[] #[]:Value) else if k=3 then some (.func (.func 54) #[] #[]:Value) else if k=6 then some (.func (.func 78) #[] #[.pointer (some ⟨f3,0,none⟩),.pointer (some ⟨g3,0,none⟩)]:Value) else if k=2 then some (.func (.func 76) #[] #[.pointer (some ⟨f2,0,none⟩),.pointer (some ⟨g2,0,none⟩)]:Value) else if k=1 then some (.func (.func 75) #[] #[.pointer (some ⟨f1,0,none⟩),.pointer (some ⟨g1,0,none⟩)]:Value) else none
theorem bFk {f1 g1 f2 g2 f3 g3:Nat} {k:Int} (h:k=1):sZ f1 g1 f2 g2 f3 g3 k=some (.func (.func 75) #[] #[.pointer (some ⟨f1,0,none⟩),.pointer (some ⟨g1,0,none⟩)]:Value):=by subst h;rfl
theorem bFl {f1 g1 f2 g2 f3 g3:Nat} {k:Int} (h:k=2):sZ f1 g1 f2 g2 f3 g3 k=some (.func (.func 76) #[] #[.pointer (some ⟨f2,0,none⟩),.pointer (some ⟨g2,0,none⟩)]:Value):=by subst h;rfl
theorem bFp {f1 g1 f2 g2 f3 g3:Nat} {k:Int} (h:k=6):sZ f1 g1 f2 g2 f3 g3 k=some (.func (.func 78) #[] #[.pointer (some ⟨f3,0,none⟩),.pointer (some ⟨g3,0,none⟩)]:Value):=by subst h;rfl
theorem bFm {f1 g1 f2 g2 f3 g3:Nat} {k:Int} (h:k=3):sZ f1 g1 f2 g2 f3 g3 k=some (.func (.func 54) #[] #[]:Value):=by subst h;rfl
theorem bFn {f1 g1 f2 g2 f3 g3:Nat} {k:Int} (h:k=4):sZ f1 g1 f2 g2 f3 g3 k=some (.func (.func 56) #[] #[]:Value):=by subst h;rfl
theorem bFo {f1 g1 f2 g2 f3 g3:Nat} {k:Int} (h:k=5):sZ f1 g1 f2 g2 f3 g3 k=some (.func (.func 58) #[] #[]:Value):=by subst h;rfl
theorem bFq {f1 g1 f2 g2 f3 g3:Nat} {k:Int} (h:k < 1∨6 < k):sZ f1 g1 f2 g2 f3 g3 k=none:=by unfold sZ;rw [if_neg (by omega),if_neg (by omega),if_neg (by omega),if_neg (by omega),if_neg (by omega),if_neg (by omega)]
theorem kM (w:World) :
  Calls prog 37 #[] w (gK (fun v w'=>∃ (p:Option Nat) (e:eN) (f1 g1 f2 g2 f3 g3:Nat),v=.map p∧kZ .i64 (fun v:Value=>v) (sZ f1 g1 f2 g2 f3 g3) p e∧Mem w [] [e,(some f1,bc [(.func (.func 47) #[] #[]:Value)] 111),(some g1,bc [(.func (.func 48) #[] #[]:Value)] 113),(some f2,bc [(.func (.func 50) #[] #[]:Value)] 115),(some g2,bc [(.func (.func 51) #[] #[]:Value)] 117),(some f3,bc [(.func (.func 31) #[] #[]:Value)] 119),(some g3,bc [(.func (.func 53) #[] #[]:Value)] 120)] w')):=by
 refine aI #[.tmp 0] 6 func37 Z results37 ntmps37 Z ?_
 have M0:=Mem.refl w
 refine aE (aA (wq (aJ (.map _) Z) Z (aB (aC (aE (aA (oG M0 Z Z (fun b1 w1 M1=>(eL bUn Z Z (bEt _) ?_)))))))))
 rintro v2 w2 ⟨f1,g1,rfl,hM2⟩
 have M2:Mem _ _ [_,_,_] _:=M1.call0 hM2
 refine qC (enc:=(fun v:Value=>v)) (v:=(.func _ _ _)) 0 sK M2 Z Z (kZ.empty _ _ b1) Z Z Z Z (fun e3 w3 hm3 M3=>(eL bUq Z Z (aPh _) ?_))
 rintro v4 w4 ⟨f2,g2,rfl,hM4⟩
 have M4:Mem _ _ [_,_,_,_,_] _:=M3.call0 hM4
 refine qC (enc:=(fun v:Value=>v)) (v:=(.func _ _ _)) 0 sK M4 Z Z hm3 Z Z Z Z (fun e5 w5 hm5 M5=>(eL bUt Z Z (aMf _) ?_))
 rintro v6 w6 ⟨f3,g3,rfl,hM6⟩
 have M6:Mem _ _ [_,_,_,_,_,_,_] _:=M5.call0 hM6
 refine qC (enc:=(fun v:Value=>v)) (v:=(.func _ _ _)) 0 sK M6 Z Z hm5 Z Z Z Z (fun e7 w7 hm7 M7=>(qC (enc:=(fun v:Value=>v)) (v:=(.func _ _ _)) 0 sK M7 Z Z hm7 Z Z Z Z (fun e8 w8 hm8 M8=>(qC (enc:=(fun v:Value=>v)) (v:=(.func _ _ _)) 0 sK M8 Z Z hm8 Z Z Z Z (fun e9 w9 hm9 M9=>(qC (enc:=(fun v:Value=>v)) (v:=(.func _ _ _)) 0 sK M9 Z Z hm9 Z Z Z Z (fun e10 w10 hm10 M10=>(wq (aH (.map _) Z) Z (wq (aJ (.map _) Z) Z (aB (aC (aP (cI (.map _) Z ?_)))))))))))))
 exact ⟨_,_,f1,g1,f2,g2,f3,g3,Z,hm10,M10⟩
theorem bFx (w:World) (b:Nat) (r:StV) (vs:List Body) (hW:dC 43 r vs) (fa ga:Nat) (hO:Own [(some b,bc [.slice r.A r.n r.c,.map r.p] 73),r.er,r.em,(some fa,bc [(.func (.func 47) #[] #[]:Value)] 111),(some ga,bc [(.func (.func 48) #[] #[]:Value)] 113)] w) (o:OpI) (BA:Option Addr) (nn cc:Nat) (hP:OpOk w o BA nn cc) (hnn:nn≤1000000) (hdB:0 < nn→∀ q off,BA=some ⟨q,off,none⟩→q∉bZ [(some b,bc [.slice r.A r.n r.c,.map r.p] 73),r.er,r.em,(some fa,bc [(.func (.func 47) #[] #[]:Value)] 111),(some ga,bc [(.func (.func 48) #[] #[]:Value)] 113)]) :
  Calls prog 75 #[.pointer (some ⟨b,0,none⟩),.agg (dU o BA nn cc).toArray,.pointer (some ⟨fa,0,none⟩),.pointer (some ⟨ga,0,none⟩)] w (gK (fun v w'=>∃ r':StV,v=.agg [.int .i64 (pD vs o.body).2,.slice none 0 0,.int .i64 0,.bool false].toArray∧dC 43 r' ((pD vs o.body).1)∧Mem w (bZ [(some b,bc [.slice r.A r.n r.c,.map r.p] 73),r.er,r.em,(some fa,bc [(.func (.func 47) #[] #[]:Value)] 111),(some ga,bc [(.func (.func 48) #[] #[]:Value)] 113)]) [(some b,bc [.slice r'.A r'.n r'.c,.map r'.p] 73),r'.er,r'.em,(some fa,bc [(.func (.func 47) #[] #[]:Value)] 111),(some ga,bc [(.func (.func 48) #[] #[]:Value)] 113)] w')):=by
 have hG:=hW.1
 have hbl:=hP.len
 refine aI #[.cell 6 36] 14 func75 Z results75 ntmps75 Z ?_
 have M0:=hO.mem
 refine aE (aA (bN (.agg (.mk _)) M0 Z Z Z (fun b1 w1 M1=>(aQ jW M1 Z Z (fun b2 w2 M2=>(aB (aC (aE (fY [(0,1),(1,0),(2,1),(3,1),(4,2),(5,2),(6,0),(7,2)] mixed M2 Z (by kernel_rfl) (fun w3 M3=>(bP Z Z Z (aK 3 (.func _ _ _) bGg M3 Z Z Z) (aX Z Z Z (fun _=>aH (.pointer _) Z) (bP Z Z Z (aK 4 (.func _ _ _) bSo M3 Z Z Z) (bP Z Z Z (aU 5 iQ M3 Z Z Z) (dL [true,true,false] Z (by kernel_rfl) (dO bUp Z Z M3 (bSe _ o BA nn cc) (fun w4 M4 => ?_)))))))))))))))))
 refine aB (aC ⟨(dQ (bC Z (aK 3 (.func _ _ _) bGg M4 Z Z Z)) dG), ?_⟩)
 refine dL [true] Z (by kernel_rfl) (eL bUo Z Z (bBp _ _ r vs hW (M4.ownSeg 0 3) o.body hP.body) ?_)
 rintro v5 w5 ⟨r2,rfl,hw2,hM5⟩
 have M5:Mem _ _ [_,_,_,_,_,_,_] _:=M4.seg 0 3 hM5
 refine aB (aC ⟨dG, ?_⟩)
 refine aX Z Z Z (fun _=>cD [(0,.int _ _)] _ qP Z Z) (dL [] Z (by kernel_rfl) (bB 6 _ fM M5 Z Z Z Z Z (aO Z) Z (fun w6 M6 => ?_)))
 refine aB (aC ⟨dG, ?_⟩)
 refine bS (aC (aP (eS 6 fM M6 Z Z Z ?_)))
 exact ⟨r2,Z,hw2,M6.keep [true,true,true,true,true,false,false]⟩
theorem aQb (w:World) (b:Nat) (r:StV) (vs:List Body) (hW:dC 43 r vs) (fa ga:Nat) (hO:Own [(some b,bc [.slice r.A r.n r.c,.map r.p] 73),r.er,r.em,(some fa,bc [(.func (.func 50) #[] #[]:Value)] 115),(some ga,bc [(.func (.func 51) #[] #[]:Value)] 117)] w) (o:OpI) (BA:Option Addr) (nn cc:Nat) (hP:OpOk w o BA nn cc) (hnn:nn≤1000000) (hdB:0 < nn→∀ q off,BA=some ⟨q,off,none⟩→q∉bZ [(some b,bc [.slice r.A r.n r.c,.map r.p] 73),r.er,r.em,(some fa,bc [(.func (.func 50) #[] #[]:Value)] 115),(some ga,bc [(.func (.func 51) #[] #[]:Value)] 117)]) :
  Calls prog 76 #[.pointer (some ⟨b,0,none⟩),.agg (dU o BA nn cc).toArray,.pointer (some ⟨fa,0,none⟩),.pointer (some ⟨ga,0,none⟩)] w (gK (fun v w'=>∃ r':StV,v=.agg [.int .i64 (iH vs o.key).2,.slice none 0 0,.int .i64 0,.bool false].toArray∧dC 43 r' ((iH vs o.key).1)∧Mem w (bZ [(some b,bc [.slice r.A r.n r.c,.map r.p] 73),r.er,r.em,(some fa,bc [(.func (.func 50) #[] #[]:Value)] 115),(some ga,bc [(.func (.func 51) #[] #[]:Value)] 117)]) [(some b,bc [.slice r'.A r'.n r'.c,.map r'.p] 73),r'.er,r'.em,(some fa,bc [(.func (.func 50) #[] #[]:Value)] 115),(some ga,bc [(.func (.func 51) #[] #[]:Value)] 117)] w')):=by
 have hG:=hW.1
 have hbl:=hP.len
 refine aI #[.cell 6 36] 14 func76 Z results76 ntmps76 Z ?_
 have M0:=hO.mem
 refine aE (aA (bN (.agg (.mk _)) M0 Z Z Z (fun b1 w1 M1=>(aQ jW M1 Z Z (fun b2 w2 M2=>(aB (aC (aE (fY [(0,1),(1,0),(2,1),(3,1),(4,2),(5,2),(6,0),(7,2)] mixed M2 Z (by kernel_rfl) (fun w3 M3=>(bP Z Z Z (aK 3 (.func _ _ _) bGh M3 Z Z Z) (aX Z Z Z (fun _=>aH (.pointer _) Z) (bP Z Z Z (aK 4 (.func _ _ _) bSp M3 Z Z Z) (bP Z Z Z (aU 5 iQ M3 Z Z Z) (dL [true,true,false] Z (by kernel_rfl) (dO bUs Z Z M3 (bSf _ o BA nn cc) (fun w4 M4 => ?_)))))))))))))))))
 refine aB (aC ⟨(dQ (bC Z (aK 3 (.func _ _ _) bGh M4 Z Z Z)) dG), ?_⟩)
 refine dL [true] Z (by kernel_rfl) (eL bUr Z Z (aNp _ _ r vs hW (M4.ownSeg 0 3) o.key) ?_)
 rintro v5 w5 ⟨r2,rfl,hw2,hM5⟩
 have M5:Mem _ _ [_,_,_,_,_,_,_] _:=M4.seg 0 3 hM5
 refine aB (aC ⟨dG, ?_⟩)
 refine aX Z Z Z (fun _=>cD [(0,.int _ _)] _ qP Z Z) (dL [] Z (by kernel_rfl) (bB 6 _ fM M5 Z Z Z Z Z (aO Z) Z (fun w6 M6 => ?_)))
 refine aB (aC ⟨dG, ?_⟩)
 refine bS (aC (aP (eS 6 fM M6 Z Z Z ?_)))
 exact ⟨r2,Z,hw2,M6.keep [true,true,true,true,true,false,false]⟩
theorem aMp (w:World) (b:Nat) (r:StV) (vs:List Body) (hW:dC 43 r vs) (fa ga:Nat) (hO:Own [(some b,bc [.slice r.A r.n r.c,.map r.p] 73),r.er,r.em,(some fa,bc [(.func (.func 31) #[] #[]:Value)] 119),(some ga,bc [(.func (.func 53) #[] #[]:Value)] 120)] w) (o:OpI) (BA:Option Addr) (nn cc:Nat) (hP:OpOk w o BA nn cc) (hnn:nn≤1000000) (hdB:0 < nn→∀ q off,BA=some ⟨q,off,none⟩→q∉bZ [(some b,bc [.slice r.A r.n r.c,.map r.p] 73),r.er,r.em,(some fa,bc [(.func (.func 31) #[] #[]:Value)] 119),(some ga,bc [(.func (.func 53) #[] #[]:Value)] 120)]) :
  Calls prog 78 #[.pointer (some ⟨b,0,none⟩),.agg (dU o BA nn cc).toArray,.pointer (some ⟨fa,0,none⟩),.pointer (some ⟨ga,0,none⟩)] w (gK (fun v w'=>∃ r':StV,v=.agg [.int .i64 (nS o.bytes).2,.slice none 0 0,.int .i64 0,.bool false].toArray∧dC 43 r' (pR vs o.bytes)∧Mem w (bZ [(some b,bc [.slice r.A r.n r.c,.map r.p] 73),r.er,r.em,(some fa,bc [(.func (.func 31) #[] #[]:Value)] 119),(some ga,bc [(.func (.func 53) #[] #[]:Value)] 120)]) [(some b,bc [.slice r'.A r'.n r'.c,.map r'.p] 73),r'.er,r'.em,(some fa,bc [(.func (.func 31) #[] #[]:Value)] 119),(some ga,bc [(.func (.func 53) #[] #[]:Value)] 120)] w')):=by
 have hG:=hW.1
 have hbl:=hP.len
 refine aI #[.cell 6 36] 14 func78 Z results78 ntmps78 Z ?_
 have M0:=hO.mem
 refine aE (aA (bN (.agg (.mk _)) M0 Z Z Z (fun b1 w1 M1=>(aQ jW M1 Z Z (fun b2 w2 M2=>(aB (aC (aE (fY [(0,1),(1,0),(2,1),(3,1),(4,2),(5,2),(6,0),(7,2)] mixed M2 Z (by kernel_rfl) (fun w3 M3=>(bP Z Z Z (aK 3 (.func _ _ _) bGi M3 Z Z Z) (aX Z Z Z (fun _=>aH (.pointer _) Z) (bP Z Z Z (aK 4 (.func _ _ _) bSq M3 Z Z Z) (bP Z Z Z (aU 5 iQ M3 Z Z Z) (dL [true,true,false] Z (by kernel_rfl) (dO bUu Z Z M3 (bSg _ o BA nn cc) (fun w4 M4 => ?_)))))))))))))))))
 refine aB (aC ⟨(dQ (bC Z (aK 3 (.func _ _ _) bGi M4 Z Z Z)) dG), ?_⟩)
 refine dL [true] Z (by kernel_rfl) (eL bNh Z Z (xI _ _ r vs hW (M4.ownSeg 0 3) BA nn cc o.bytes (hP.rd.memY M4 hdB) hP.byt hP.cap hnn (M4.away 0 3 hP.rd hdB)) ?_)
 rintro v5 w5 ⟨r2,rfl,hw2,hM5⟩
 have M5:Mem _ _ [_,_,_,_,_,_,_] _:=M4.seg 0 3 hM5
 refine aB (aC ⟨dG, ?_⟩)
 refine aX Z Z Z (fun _=>cD [(0,.int _ _)] _ qP Z Z) (dL [] Z (by kernel_rfl) (bB 6 _ fM M5 Z Z Z Z Z (aO Z) Z (fun w6 M6 => ?_)))
 refine aB (aC ⟨dG, ?_⟩)
 refine bS (aC (aP (eS 6 fM M6 Z Z Z ?_)))
 exact ⟨r2,Z,hw2,M6.keep [true,true,true,true,true,false,false]⟩
theorem aMo (w:World)  (b:Nat) (r:StV) (vs:List Body) (hW:dC 43 r vs) (hO:Own [(some b,bc [.slice r.A r.n r.c,.map r.p] 73),r.er,r.em] w) (o:OpI) (BA:Option Addr) (nn cc:Nat) (hP:OpOk w o BA nn cc) (hnn:nn≤1000000) (hdB:0 < nn→∀ q off,BA=some ⟨q,off,none⟩→q∉bZ [(some b,bc [.slice r.A r.n r.c,.map r.p] 73),r.er,r.em]) (hk:o.kind=3) :
  Calls prog 54 #[.pointer (some ⟨b,0,none⟩),.agg (dU o BA nn cc).toArray] w (gK (fun v w'=>∃ (r':StV) (p:Row),v=.agg (cC (hJ vs o).2 p).toArray∧dC 43 r' (hJ vs o).1∧aZ 5 1 p.A p.n p.c (((hJ vs o).2.bytes).map bL) p.e∧Mem w (bZ [(some b,bc [.slice r.A r.n r.c,.map r.p] 73),r.er,r.em]) [(some b,bc [.slice r'.A r'.n r'.c,.map r'.p] 73),r'.er,r'.em,p.e] w')):=by
 have hG:=hW.1
 have hbl:=hP.len
 refine aI #[.cell 4 36] 12 func54 Z results54 ntmps54 Z ?_
 have M0:=hO.mem
 refine aE (aA (bN (.agg (.mk _)) M0 Z Z Z (fun b1 w1 M1=>(aQ jW M1 Z Z (fun b2 w2 M2=>(aB (aC (aE (aA (wq (aH (.pointer _) Z) Z (wq (aD 11 aMi Z) Z (wq (aK 3 (.int _ _) bV M2 Z Z Z) Z (wq (aD 12 aWn Z) Z (wq (rG 3 _ bO M2 Z Z Z Z) Z (eL bUw Z Z (aJj _ _ r vs hW (M2.ownSeg 0 3) o.key o.push hP.p1 hP.p2) ?_)))))))))))))))
 rintro v3 w3 ⟨r2,rfl,hw2,hM3⟩
 have M3:Mem _ _ [_,_,_,_,_] _:=M2.seg 0 3 hM3
 refine wq (cD [(0,.int _ _)] _ qP Z Z) Z (bB 4 _ fM M3 Z Z Z Z Z (aO Z) Z (fun w4 M4=>(aB (aC (aP (eS 4 fM M4 Z Z Z ?_))))))
 exact ⟨r2,⟨none,0,0,(none,default)⟩,by rw [bTa hk];rfl,by rw [bTa hk];exact hw2,by rw [bTa hk];exact aZ.nil _ _ _,(M4.keep [true,true,true,false,false]).dummy default⟩
theorem aZy (w:World) (F:Rd w 2 (some ⟨0,0,none⟩) 1 [[.int .u32 73856093,.int .u32 19349663]]) (N:Rd w 4 (some ⟨3,0,none⟩) 1 [eF iY]) (b:Nat) (r:StV) (vs:List Body) (hW:dC 43 r vs) (hO:Own [(some b,bc [.slice r.A r.n r.c,.map r.p] 73),r.er,r.em] w) (o:OpI) (BA:Option Addr) (nn cc:Nat) (hP:OpOk w o BA nn cc) (hnn:nn≤1000000) (hdB:0 < nn→∀ q off,BA=some ⟨q,off,none⟩→q∉bZ [(some b,bc [.slice r.A r.n r.c,.map r.p] 73),r.er,r.em]) (hdF:0 < 1→∀ q off,(some ⟨0,0,none⟩:Option Addr)=some ⟨q,off,none⟩→q∉bZ [(some b,bc [.slice r.A r.n r.c,.map r.p] 73),r.er,r.em]) (hdN:0 < 1→∀ q off,(some ⟨3,0,none⟩:Option Addr)=some ⟨q,off,none⟩→q∉bZ [(some b,bc [.slice r.A r.n r.c,.map r.p] 73),r.er,r.em]) (hk:o.kind=4) :
  Calls prog 56 #[.pointer (some ⟨b,0,none⟩),.agg (dU o BA nn cc).toArray] w (gK (fun v w'=>∃ (r':StV) (p:Row),v=.agg (cC (hJ vs o).2 p).toArray∧dC 43 r' (hJ vs o).1∧aZ 5 1 p.A p.n p.c (((hJ vs o).2.bytes).map bL) p.e∧Mem w (bZ [(some b,bc [.slice r.A r.n r.c,.map r.p] 73),r.er,r.em]) [(some b,bc [.slice r'.A r'.n r'.c,.map r'.p] 73),r'.er,r'.em,p.e] w')):=by
 have hG:=hW.1
 have hbl:=hP.len
 refine aI #[.cell 4 36] 13 func56 Z results56 ntmps56 Z ?_
 have M0:=hO.mem
 refine aE (aA (bN (.agg (.mk _)) M0 Z Z Z (fun b1 w1 M1=>(aQ jW M1 Z Z (fun b2 w2 M2=>(aB (aC (aE (aA (wq (aH (.pointer _) Z) Z (eL bUy Z Z (aVb _ (F.memY M2 hdF) (N.memY M2 hdN) _ r vs hW (M2.ownSeg 0 3) (M2.away 0 3 F hdF) (M2.away 0 3 N hdN)) ?_)))))))))))
 rintro v3 w3 ⟨r2,ts,rfl,hw2,hM3⟩
 have M3:Mem _ _ [_,_,_,_,_] _:=M2.seg 0 3 hM3
 refine aQ aEl M3 Z Z (fun b4 w4 M4=>(bB 5 _ tT M4 Z Z Z Z Z (aO Z) Z (fun w5 M5=>(aB (aC (aE (aA (wq (aD 1 aPm Z) Z (wq (aK 5 (.int _ _) fQ M5 Z Z Z) Z (wq (aD 2 yV Z) Z (wq (aK 5 (.bool _) qS M5 Z Z Z) Z (wq (cD [(2,.int _ _),(3,.bool _)] _ qP Z Z) Z (bB 4 _ fM M5 Z Z Z Z Z (aO Z) Z (fun w6 M6=>(aB (aC (aP (eS 4 fM M6 Z Z Z ?_))))))))))))))))))
 exact ⟨r2,⟨none,0,0,(none,default)⟩,by rw [bHh hk];rfl,by rw [bHh hk];exact hw2,by rw [bHh hk];exact aZ.nil _ _ _,(M6.keep [true,true,true,false,false,false]).dummy default⟩
theorem aIq (w:World)  (b:Nat) (r:StV) (vs:List Body) (hW:dC 43 r vs) (hO:Own [(some b,bc [.slice r.A r.n r.c,.map r.p] 73),r.er,r.em] w) (o:OpI) (BA:Option Addr) (nn cc:Nat) (hP:OpOk w o BA nn cc) (hnn:nn≤1000000) (hdB:0 < nn→∀ q off,BA=some ⟨q,off,none⟩→q∉bZ [(some b,bc [.slice r.A r.n r.c,.map r.p] 73),r.er,r.em]) (hk:o.kind=5) :
  Calls prog 58 #[.pointer (some ⟨b,0,none⟩),.agg (dU o BA nn cc).toArray] w (gK (fun v w'=>∃ (r':StV) (p:Row),v=.agg (cC (hJ vs o).2 p).toArray∧dC 43 r' (hJ vs o).1∧aZ 5 1 p.A p.n p.c (((hJ vs o).2.bytes).map bL) p.e∧Mem w (bZ [(some b,bc [.slice r.A r.n r.c,.map r.p] 73),r.er,r.em]) [(some b,bc [.slice r'.A r'.n r'.c,.map r'.p] 73),r'.er,r'.em,p.e] w')):=by
 have hG:=hW.1
 have hbl:=hP.len
 refine aI #[.cell 4 36] 8 func58 Z results58 ntmps58 Z ?_
 have M0:=hO.mem
 refine aE (aA (bN (.agg (.mk _)) M0 Z Z Z (fun b1 w1 M1=>(aQ jW M1 Z Z (fun b2 w2 M2=>(aB (aC (aE (aA (wq (aH (.pointer _) Z) Z (eL aVt Z Z (nP _ _ r vs hW (M2.ownSeg 0 3)) ?_)))))))))))
 rintro v3 w3 ⟨pb,rfl,hpb,hM3⟩
 have M3:Mem _ _ [_,_,_,_,_,_] _:=M2.seg 0 3 hM3
 refine wq (cD [(1,.slice _ _ _)] _ qP Z Z) Z (bB 4 _ fM M3 Z Z Z Z Z (aO Z) Z (fun w4 M4=>(aB (aC (aP (eS 4 fM M4 Z Z Z ?_))))))
 exact ⟨r,pb,by rw [bTb hk];rfl,by rw [bTb hk];exact hW,by rw [bTb hk];exact hpb,(M4.keep [true,true,true,false,false,true])⟩
theorem aUn (w:World)  (b:Nat) (r:StV) (vs:List Body) (hW:dC 43 r vs) (hO:Own [(some b,bc [.slice r.A r.n r.c,.map r.p] 73),r.er,r.em] w) (o:OpI) (BA:Option Addr) (nn cc:Nat) (hP:OpOk w o BA nn cc) (hnn:nn≤1000000) (hdB:0 < nn→∀ q off,BA=some ⟨q,off,none⟩→q∉bZ [(some b,bc [.slice r.A r.n r.c,.map r.p] 73),r.er,r.em]) (hk:o.kind=1) :
  Calls prog 23 #[.pointer (some ⟨b,0,none⟩),.agg (dU o BA nn cc).toArray] w (gK (fun v w'=>∃ (r':StV) (p:Row),v=.agg (cC (hJ vs o).2 p).toArray∧dC 43 r' (hJ vs o).1∧aZ 5 1 p.A p.n p.c (((hJ vs o).2.bytes).map bL) p.e∧Mem w (bZ [(some b,bc [.slice r.A r.n r.c,.map r.p] 73),r.er,r.em]) [(some b,bc [.slice r'.A r'.n r'.c,.map r'.p] 73),r'.er,r'.em,p.e] w')):=by
 have hG:=hW.1
 have hbl:=hP.len
 refine aI #[.cell 4 36] 21 func23 Z results23 ntmps23 Z ?_
 have M0:=hO.mem
 refine aE (aA (bN (.agg (.mk _)) M0 Z Z Z (fun b1 w1 M1=>(aQ jW M1 Z Z (fun b2 w2 M2=>(aB (aC (aE (fY [(1,0),(2,1),(0,2),(3,1),(4,0),(5,0),(6,0),(7,0),(8,0)] mixed M2 Z (by kernel_rfl) (fun w3 M3=>(aX Z Z Z (fun _=>aD 0 qW Z) (bP Z Z Z (aK 3 (.int _ _) fQ M3 Z Z Z) (dL [false] Z (by kernel_rfl) (eL aEx Z Z (kM _) ?_))))))))))))))
 rintro v4 w4 ⟨pm,em,f1,g1,f2,g2,f3,g3,rfl,hmap,hM4⟩
 have M4:Mem _ _ [_,_,_,_,_,_,_,_,_,_,_,_] _:=M3.call0 hM4
 refine aB (aC ⟨(dQ (bC Z (aK 3 (.int _ _) fQ M4 Z Z Z)) dG), ?_⟩)
 refine bP Z Z Z (lC (enc:=(fun v:Value=>v)) .nilFunc 5 sK aVj M4 Z hmap Z Z) (dX 11 (.tuple [(.func (.func 75) #[] #[.pointer (some ⟨f1,0,none⟩),.pointer (some ⟨g1,0,none⟩)]:Value),.bool true].toArray) (pX (bFk hk)) (aX Z Z Z (fun _=>aH (.tuple (List.toArray _)) Z) (aX Z Z Z (fun _=>bM (.func _ _ _) Z Z) (aX Z Z Z (fun _=>bM (.bool true) Z Z) (aX Z Z Z (fun _=>aJ (.func _ _ _) Z) (aX Z Z Z (fun _=>aJ (.bool true) Z) (bS (aC (aE (aE (aA (wq (aH (.bool true) Z) Z ?_))))))))))))
 refine wq (gV false Z Z) Z (aB (aC (cF Z (aM (aC (aE (aA (wq (aH (.func _ _ _) Z) Z (wq (aH (.pointer _) Z) Z (wq (aU 3 iQ M4 Z Z Z) Z (eL bVl Z Z (bFx _ _ r vs hW _ _ (M4.ownK [true,true,true,false,false,false,true,true,false,false,false,false]) o BA nn cc (hP.memY M4 hdB) hnn (M4.awayK [true,true,true,false,false,false,true,true,false,false,false,false] hP.rd hdB)) ?_)))))))))))
 rintro v5 w5 ⟨r2,rfl,hw2,hM5⟩
 have M5:Mem _ _ [_,_,_,_,_,_,_,_,_,_,_,_] _:=M4.callK [true,true,true,false,false,false,true,true,false,false,false,false] rfl hM5
 refine bB 6 _ fM M5 Z Z Z Z Z (aO Z) Z (fun w6 M6=>(aB (aC (aP (eS 6 fM M6 Z Z Z ?_)))))
 exact ⟨r2,⟨none,0,0,(none,default)⟩,by rw [bLs hk];rfl,by rw [bLs hk];exact hw2,by rw [bLs hk];exact aZ.nil _ _ _,(M6.keep [true,true,true,false,false,false,false,false,false,false,false,false]).dummy default⟩
theorem aUo (w:World)  (b:Nat) (r:StV) (vs:List Body) (hW:dC 43 r vs) (hO:Own [(some b,bc [.slice r.A r.n r.c,.map r.p] 73),r.er,r.em] w) (o:OpI) (BA:Option Addr) (nn cc:Nat) (hP:OpOk w o BA nn cc) (hnn:nn≤1000000) (hdB:0 < nn→∀ q off,BA=some ⟨q,off,none⟩→q∉bZ [(some b,bc [.slice r.A r.n r.c,.map r.p] 73),r.er,r.em]) (hk:o.kind=2) :
  Calls prog 23 #[.pointer (some ⟨b,0,none⟩),.agg (dU o BA nn cc).toArray] w (gK (fun v w'=>∃ (r':StV) (p:Row),v=.agg (cC (hJ vs o).2 p).toArray∧dC 43 r' (hJ vs o).1∧aZ 5 1 p.A p.n p.c (((hJ vs o).2.bytes).map bL) p.e∧Mem w (bZ [(some b,bc [.slice r.A r.n r.c,.map r.p] 73),r.er,r.em]) [(some b,bc [.slice r'.A r'.n r'.c,.map r'.p] 73),r'.er,r'.em,p.e] w')):=by
 have hG:=hW.1
 have hbl:=hP.len
 refine aI #[.cell 4 36] 21 func23 Z results23 ntmps23 Z ?_
 have M0:=hO.mem
 refine aE (aA (bN (.agg (.mk _)) M0 Z Z Z (fun b1 w1 M1=>(aQ jW M1 Z Z (fun b2 w2 M2=>(aB (aC (aE (fY [(1,0),(2,1),(0,2),(3,1),(4,0),(5,0),(6,0),(7,0),(8,0)] mixed M2 Z (by kernel_rfl) (fun w3 M3=>(aX Z Z Z (fun _=>aD 0 qW Z) (bP Z Z Z (aK 3 (.int _ _) fQ M3 Z Z Z) (dL [false] Z (by kernel_rfl) (eL aEx Z Z (kM _) ?_))))))))))))))
 rintro v4 w4 ⟨pm,em,f1,g1,f2,g2,f3,g3,rfl,hmap,hM4⟩
 have M4:Mem _ _ [_,_,_,_,_,_,_,_,_,_,_,_] _:=M3.call0 hM4
 refine aB (aC ⟨(dQ (bC Z (aK 3 (.int _ _) fQ M4 Z Z Z)) dG), ?_⟩)
 refine bP Z Z Z (lC (enc:=(fun v:Value=>v)) .nilFunc 5 sK aVj M4 Z hmap Z Z) (dX 11 (.tuple [(.func (.func 76) #[] #[.pointer (some ⟨f2,0,none⟩),.pointer (some ⟨g2,0,none⟩)]:Value),.bool true].toArray) (pX (bFl hk)) (aX Z Z Z (fun _=>aH (.tuple (List.toArray _)) Z) (aX Z Z Z (fun _=>bM (.func _ _ _) Z Z) (aX Z Z Z (fun _=>bM (.bool true) Z Z) (aX Z Z Z (fun _=>aJ (.func _ _ _) Z) (aX Z Z Z (fun _=>aJ (.bool true) Z) (bS (aC (aE (aE (aA (wq (aH (.bool true) Z) Z ?_))))))))))))
 refine wq (gV false Z Z) Z (aB (aC (cF Z (aM (aC (aE (aA (wq (aH (.func _ _ _) Z) Z (wq (aH (.pointer _) Z) Z (wq (aU 3 iQ M4 Z Z Z) Z (eL bVm Z Z (aQb _ _ r vs hW _ _ (M4.ownK [true,true,true,false,false,false,false,false,true,true,false,false]) o BA nn cc (hP.memY M4 hdB) hnn (M4.awayK [true,true,true,false,false,false,false,false,true,true,false,false] hP.rd hdB)) ?_)))))))))))
 rintro v5 w5 ⟨r2,rfl,hw2,hM5⟩
 have M5:Mem _ _ [_,_,_,_,_,_,_,_,_,_,_,_] _:=M4.callK [true,true,true,false,false,false,false,false,true,true,false,false] rfl hM5
 refine bB 6 _ fM M5 Z Z Z Z Z (aO Z) Z (fun w6 M6=>(aB (aC (aP (eS 6 fM M6 Z Z Z ?_)))))
 exact ⟨r2,⟨none,0,0,(none,default)⟩,by rw [bSz hk];rfl,by rw [bSz hk];exact hw2,by rw [bSz hk];exact aZ.nil _ _ _,(M6.keep [true,true,true,false,false,false,false,false,false,false,false,false]).dummy default⟩
theorem aUs (w:World)  (b:Nat) (r:StV) (vs:List Body) (hW:dC 43 r vs) (hO:Own [(some b,bc [.slice r.A r.n r.c,.map r.p] 73),r.er,r.em] w) (o:OpI) (BA:Option Addr) (nn cc:Nat) (hP:OpOk w o BA nn cc) (hnn:nn≤1000000) (hdB:0 < nn→∀ q off,BA=some ⟨q,off,none⟩→q∉bZ [(some b,bc [.slice r.A r.n r.c,.map r.p] 73),r.er,r.em]) (hk:o.kind=6) :
  Calls prog 23 #[.pointer (some ⟨b,0,none⟩),.agg (dU o BA nn cc).toArray] w (gK (fun v w'=>∃ (r':StV) (p:Row),v=.agg (cC (hJ vs o).2 p).toArray∧dC 43 r' (hJ vs o).1∧aZ 5 1 p.A p.n p.c (((hJ vs o).2.bytes).map bL) p.e∧Mem w (bZ [(some b,bc [.slice r.A r.n r.c,.map r.p] 73),r.er,r.em]) [(some b,bc [.slice r'.A r'.n r'.c,.map r'.p] 73),r'.er,r'.em,p.e] w')):=by
 have hG:=hW.1
 have hbl:=hP.len
 refine aI #[.cell 4 36] 21 func23 Z results23 ntmps23 Z ?_
 have M0:=hO.mem
 refine aE (aA (bN (.agg (.mk _)) M0 Z Z Z (fun b1 w1 M1=>(aQ jW M1 Z Z (fun b2 w2 M2=>(aB (aC (aE (fY [(1,0),(2,1),(0,2),(3,1),(4,0),(5,0),(6,0),(7,0),(8,0)] mixed M2 Z (by kernel_rfl) (fun w3 M3=>(aX Z Z Z (fun _=>aD 0 qW Z) (bP Z Z Z (aK 3 (.int _ _) fQ M3 Z Z Z) (dL [false] Z (by kernel_rfl) (eL aEx Z Z (kM _) ?_))))))))))))))
 rintro v4 w4 ⟨pm,em,f1,g1,f2,g2,f3,g3,rfl,hmap,hM4⟩
 have M4:Mem _ _ [_,_,_,_,_,_,_,_,_,_,_,_] _:=M3.call0 hM4
 refine aB (aC ⟨(dQ (bC Z (aK 3 (.int _ _) fQ M4 Z Z Z)) dG), ?_⟩)
 refine bP Z Z Z (lC (enc:=(fun v:Value=>v)) .nilFunc 5 sK aVj M4 Z hmap Z Z) (dX 11 (.tuple [(.func (.func 78) #[] #[.pointer (some ⟨f3,0,none⟩),.pointer (some ⟨g3,0,none⟩)]:Value),.bool true].toArray) (pX (bFp hk)) (aX Z Z Z (fun _=>aH (.tuple (List.toArray _)) Z) (aX Z Z Z (fun _=>bM (.func _ _ _) Z Z) (aX Z Z Z (fun _=>bM (.bool true) Z Z) (aX Z Z Z (fun _=>aJ (.func _ _ _) Z) (aX Z Z Z (fun _=>aJ (.bool true) Z) (bS (aC (aE (aE (aA (wq (aH (.bool true) Z) Z ?_))))))))))))
 refine wq (gV false Z Z) Z (aB (aC (cF Z (aM (aC (aE (aA (wq (aH (.func _ _ _) Z) Z (wq (aH (.pointer _) Z) Z (wq (aU 3 iQ M4 Z Z Z) Z (eL bVo Z Z (aMp _ _ r vs hW _ _ (M4.ownK [true,true,true,false,false,false,false,false,false,false,true,true]) o BA nn cc (hP.memY M4 hdB) hnn (M4.awayK [true,true,true,false,false,false,false,false,false,false,true,true] hP.rd hdB)) ?_)))))))))))
 rintro v5 w5 ⟨r2,rfl,hw2,hM5⟩
 have M5:Mem _ _ [_,_,_,_,_,_,_,_,_,_,_,_] _:=M4.callK [true,true,true,false,false,false,false,false,false,false,true,true] rfl hM5
 refine bB 6 _ fM M5 Z Z Z Z Z (aO Z) Z (fun w6 M6=>(aB (aC (aP (eS 6 fM M6 Z Z Z ?_)))))
 exact ⟨r2,⟨none,0,0,(none,default)⟩,by rw [bTc hk];rfl,by rw [bTc hk];exact hw2,by rw [bTc hk];exact aZ.nil _ _ _,(M6.keep [true,true,true,false,false,false,false,false,false,false,false,false]).dummy default⟩
theorem aUp (w:World)  (b:Nat) (r:StV) (vs:List Body) (hW:dC 43 r vs) (hO:Own [(some b,bc [.slice r.A r.n r.c,.map r.p] 73),r.er,r.em] w) (o:OpI) (BA:Option Addr) (nn cc:Nat) (hP:OpOk w o BA nn cc) (hnn:nn≤1000000) (hdB:0 < nn→∀ q off,BA=some ⟨q,off,none⟩→q∉bZ [(some b,bc [.slice r.A r.n r.c,.map r.p] 73),r.er,r.em]) (hk:o.kind=3) :
  Calls prog 23 #[.pointer (some ⟨b,0,none⟩),.agg (dU o BA nn cc).toArray] w (gK (fun v w'=>∃ (r':StV) (p:Row),v=.agg (cC (hJ vs o).2 p).toArray∧dC 43 r' (hJ vs o).1∧aZ 5 1 p.A p.n p.c (((hJ vs o).2.bytes).map bL) p.e∧Mem w (bZ [(some b,bc [.slice r.A r.n r.c,.map r.p] 73),r.er,r.em]) [(some b,bc [.slice r'.A r'.n r'.c,.map r'.p] 73),r'.er,r'.em,p.e] w')):=by
 have hG:=hW.1
 have hbl:=hP.len
 refine aI #[.cell 4 36] 21 func23 Z results23 ntmps23 Z ?_
 have M0:=hO.mem
 refine aE (aA (bN (.agg (.mk _)) M0 Z Z Z (fun b1 w1 M1=>(aQ jW M1 Z Z (fun b2 w2 M2=>(aB (aC (aE (fY [(1,0),(2,1),(0,2),(3,1),(4,0),(5,0),(6,0),(7,0),(8,0)] mixed M2 Z (by kernel_rfl) (fun w3 M3=>(aX Z Z Z (fun _=>aD 0 qW Z) (bP Z Z Z (aK 3 (.int _ _) fQ M3 Z Z Z) (dL [false] Z (by kernel_rfl) (eL aEx Z Z (kM _) ?_))))))))))))))
 rintro v4 w4 ⟨pm,em,f1,g1,f2,g2,f3,g3,rfl,hmap,hM4⟩
 have M4:Mem _ _ [_,_,_,_,_,_,_,_,_,_,_,_] _:=M3.call0 hM4
 refine aB (aC ⟨(dQ (bC Z (aK 3 (.int _ _) fQ M4 Z Z Z)) dG), ?_⟩)
 refine bP Z Z Z (lC (enc:=(fun v:Value=>v)) .nilFunc 5 sK aVj M4 Z hmap Z Z) (dX 11 (.tuple [(.func (.func 54) #[] #[]:Value),.bool true].toArray) (pX (bFm hk)) (aX Z Z Z (fun _=>aH (.tuple (List.toArray _)) Z) (aX Z Z Z (fun _=>bM (.func _ _ _) Z Z) (aX Z Z Z (fun _=>bM (.bool true) Z Z) (aX Z Z Z (fun _=>aJ (.func _ _ _) Z) (aX Z Z Z (fun _=>aJ (.bool true) Z) (bS (aC (aE (aE (aA (wq (aH (.bool true) Z) Z (wq (gV false Z Z) Z (aB (aC ?_)))))))))))))))
 refine cF Z (aM (aC (aE (aA (wq (aH (.func _ _ _) Z) Z (wq (aH (.pointer _) Z) Z (wq (aU 3 iQ M4 Z Z Z) Z (eL bUv Z Z (aMo _ _ r vs hW (M4.ownSeg 0 3) o BA nn cc (hP.memY M4 hdB) hnn (M4.away 0 3 hP.rd hdB)  hk) ?_))))))))
 rintro v5 w5 ⟨r2,p2,rfl,hw2,hp2,hM5⟩
 have M5:Mem _ _ [_,_,_,_,_,_,_,_,_,_,_,_,_] _:=M4.seg 0 3 hM5
 refine bB 4 _ fM M5 Z Z Z Z Z (aO Z) Z (fun w6 M6=>(aB (aC (aP (eS 4 fM M6 Z Z Z ?_)))))
 exact ⟨r2,p2,Z,hw2,hp2,M6.keep [true,true,true,false,false,false,false,false,false,false,false,false,true]⟩
theorem aUq (w:World) (F:Rd w 2 (some ⟨0,0,none⟩) 1 [[.int .u32 73856093,.int .u32 19349663]]) (N:Rd w 4 (some ⟨3,0,none⟩) 1 [eF iY]) (b:Nat) (r:StV) (vs:List Body) (hW:dC 43 r vs) (hO:Own [(some b,bc [.slice r.A r.n r.c,.map r.p] 73),r.er,r.em] w) (o:OpI) (BA:Option Addr) (nn cc:Nat) (hP:OpOk w o BA nn cc) (hnn:nn≤1000000) (hdB:0 < nn→∀ q off,BA=some ⟨q,off,none⟩→q∉bZ [(some b,bc [.slice r.A r.n r.c,.map r.p] 73),r.er,r.em]) (hdF:0 < 1→∀ q off,(some ⟨0,0,none⟩:Option Addr)=some ⟨q,off,none⟩→q∉bZ [(some b,bc [.slice r.A r.n r.c,.map r.p] 73),r.er,r.em]) (hdN:0 < 1→∀ q off,(some ⟨3,0,none⟩:Option Addr)=some ⟨q,off,none⟩→q∉bZ [(some b,bc [.slice r.A r.n r.c,.map r.p] 73),r.er,r.em]) (hk:o.kind=4) :
  Calls prog 23 #[.pointer (some ⟨b,0,none⟩),.agg (dU o BA nn cc).toArray] w (gK (fun v w'=>∃ (r':StV) (p:Row),v=.agg (cC (hJ vs o).2 p).toArray∧dC 43 r' (hJ vs o).1∧aZ 5 1 p.A p.n p.c (((hJ vs o).2.bytes).map bL) p.e∧Mem w (bZ [(some b,bc [.slice r.A r.n r.c,.map r.p] 73),r.er,r.em]) [(some b,bc [.slice r'.A r'.n r'.c,.map r'.p] 73),r'.er,r'.em,p.e] w')):=by
 have hG:=hW.1
 have hbl:=hP.len
 refine aI #[.cell 4 36] 21 func23 Z results23 ntmps23 Z ?_
 have M0:=hO.mem
 refine aE (aA (bN (.agg (.mk _)) M0 Z Z Z (fun b1 w1 M1=>(aQ jW M1 Z Z (fun b2 w2 M2=>(aB (aC (aE (fY [(1,0),(2,1),(0,2),(3,1),(4,0),(5,0),(6,0),(7,0),(8,0)] mixed M2 Z (by kernel_rfl) (fun w3 M3=>(aX Z Z Z (fun _=>aD 0 qW Z) (bP Z Z Z (aK 3 (.int _ _) fQ M3 Z Z Z) (dL [false] Z (by kernel_rfl) (eL aEx Z Z (kM _) ?_))))))))))))))
 rintro v4 w4 ⟨pm,em,f1,g1,f2,g2,f3,g3,rfl,hmap,hM4⟩
 have M4:Mem _ _ [_,_,_,_,_,_,_,_,_,_,_,_] _:=M3.call0 hM4
 refine aB (aC ⟨(dQ (bC Z (aK 3 (.int _ _) fQ M4 Z Z Z)) dG), ?_⟩)
 refine bP Z Z Z (lC (enc:=(fun v:Value=>v)) .nilFunc 5 sK aVj M4 Z hmap Z Z) (dX 11 (.tuple [(.func (.func 56) #[] #[]:Value),.bool true].toArray) (pX (bFn hk)) (aX Z Z Z (fun _=>aH (.tuple (List.toArray _)) Z) (aX Z Z Z (fun _=>bM (.func _ _ _) Z Z) (aX Z Z Z (fun _=>bM (.bool true) Z Z) (aX Z Z Z (fun _=>aJ (.func _ _ _) Z) (aX Z Z Z (fun _=>aJ (.bool true) Z) (bS (aC (aE (aE (aA (wq (aH (.bool true) Z) Z (wq (gV false Z Z) Z (aB (aC ?_)))))))))))))))
 refine cF Z (aM (aC (aE (aA (wq (aH (.func _ _ _) Z) Z (wq (aH (.pointer _) Z) Z (wq (aU 3 iQ M4 Z Z Z) Z (eL bUx Z Z (aZy _ (F.memY M4 hdF) (N.memY M4 hdN) _ r vs hW (M4.ownSeg 0 3) o BA nn cc (hP.memY M4 hdB) hnn (M4.away 0 3 hP.rd hdB) (M4.away 0 3 F hdF) (M4.away 0 3 N hdN) hk) ?_))))))))
 rintro v5 w5 ⟨r2,p2,rfl,hw2,hp2,hM5⟩
 have M5:Mem _ _ [_,_,_,_,_,_,_,_,_,_,_,_,_] _:=M4.seg 0 3 hM5
 refine bB 4 _ fM M5 Z Z Z Z Z (aO Z) Z (fun w6 M6=>(aB (aC (aP (eS 4 fM M6 Z Z Z ?_)))))
 exact ⟨r2,p2,Z,hw2,hp2,M6.keep [true,true,true,false,false,false,false,false,false,false,false,false,true]⟩
theorem aUr (w:World)  (b:Nat) (r:StV) (vs:List Body) (hW:dC 43 r vs) (hO:Own [(some b,bc [.slice r.A r.n r.c,.map r.p] 73),r.er,r.em] w) (o:OpI) (BA:Option Addr) (nn cc:Nat) (hP:OpOk w o BA nn cc) (hnn:nn≤1000000) (hdB:0 < nn→∀ q off,BA=some ⟨q,off,none⟩→q∉bZ [(some b,bc [.slice r.A r.n r.c,.map r.p] 73),r.er,r.em]) (hk:o.kind=5) :
  Calls prog 23 #[.pointer (some ⟨b,0,none⟩),.agg (dU o BA nn cc).toArray] w (gK (fun v w'=>∃ (r':StV) (p:Row),v=.agg (cC (hJ vs o).2 p).toArray∧dC 43 r' (hJ vs o).1∧aZ 5 1 p.A p.n p.c (((hJ vs o).2.bytes).map bL) p.e∧Mem w (bZ [(some b,bc [.slice r.A r.n r.c,.map r.p] 73),r.er,r.em]) [(some b,bc [.slice r'.A r'.n r'.c,.map r'.p] 73),r'.er,r'.em,p.e] w')):=by
 have hG:=hW.1
 have hbl:=hP.len
 refine aI #[.cell 4 36] 21 func23 Z results23 ntmps23 Z ?_
 have M0:=hO.mem
 refine aE (aA (bN (.agg (.mk _)) M0 Z Z Z (fun b1 w1 M1=>(aQ jW M1 Z Z (fun b2 w2 M2=>(aB (aC (aE (fY [(1,0),(2,1),(0,2),(3,1),(4,0),(5,0),(6,0),(7,0),(8,0)] mixed M2 Z (by kernel_rfl) (fun w3 M3=>(aX Z Z Z (fun _=>aD 0 qW Z) (bP Z Z Z (aK 3 (.int _ _) fQ M3 Z Z Z) (dL [false] Z (by kernel_rfl) (eL aEx Z Z (kM _) ?_))))))))))))))
 rintro v4 w4 ⟨pm,em,f1,g1,f2,g2,f3,g3,rfl,hmap,hM4⟩
 have M4:Mem _ _ [_,_,_,_,_,_,_,_,_,_,_,_] _:=M3.call0 hM4
 refine aB (aC ⟨(dQ (bC Z (aK 3 (.int _ _) fQ M4 Z Z Z)) dG), ?_⟩)
 refine bP Z Z Z (lC (enc:=(fun v:Value=>v)) .nilFunc 5 sK aVj M4 Z hmap Z Z) (dX 11 (.tuple [(.func (.func 58) #[] #[]:Value),.bool true].toArray) (pX (bFo hk)) (aX Z Z Z (fun _=>aH (.tuple (List.toArray _)) Z) (aX Z Z Z (fun _=>bM (.func _ _ _) Z Z) (aX Z Z Z (fun _=>bM (.bool true) Z Z) (aX Z Z Z (fun _=>aJ (.func _ _ _) Z) (aX Z Z Z (fun _=>aJ (.bool true) Z) (bS (aC (aE (aE (aA (wq (aH (.bool true) Z) Z (wq (gV false Z Z) Z (aB (aC ?_)))))))))))))))
 refine cF Z (aM (aC (aE (aA (wq (aH (.func _ _ _) Z) Z (wq (aH (.pointer _) Z) Z (wq (aU 3 iQ M4 Z Z Z) Z (eL bUz Z Z (aIq _ _ r vs hW (M4.ownSeg 0 3) o BA nn cc (hP.memY M4 hdB) hnn (M4.away 0 3 hP.rd hdB)  hk) ?_))))))))
 rintro v5 w5 ⟨r2,p2,rfl,hw2,hp2,hM5⟩
 have M5:Mem _ _ [_,_,_,_,_,_,_,_,_,_,_,_,_] _:=M4.seg 0 3 hM5
 refine bB 4 _ fM M5 Z Z Z Z Z (aO Z) Z (fun w6 M6=>(aB (aC (aP (eS 4 fM M6 Z Z Z ?_)))))
 exact ⟨r2,p2,Z,hw2,hp2,M6.keep [true,true,true,false,false,false,false,false,false,false,false,false,true]⟩
theorem aUm (w:World)  (b:Nat) (r:StV) (vs:List Body) (hW:dC 43 r vs) (hO:Own [(some b,bc [.slice r.A r.n r.c,.map r.p] 73),r.er,r.em] w) (o:OpI) (BA:Option Addr) (nn cc:Nat) (hP:OpOk w o BA nn cc) (hdB:0 < nn→∀ q off,BA=some ⟨q,off,none⟩→q∉bZ [(some b,bc [.slice r.A r.n r.c,.map r.p] 73),r.er,r.em]) (hk:o.kind < 1∨6 < o.kind) :
  Calls prog 23 #[.pointer (some ⟨b,0,none⟩),.agg (dU o BA nn cc).toArray] w (gK (fun v w'=>∃ (r':StV) (p:Row),v=.agg (cC (hJ vs o).2 p).toArray∧dC 43 r' (hJ vs o).1∧aZ 5 1 p.A p.n p.c (((hJ vs o).2.bytes).map bL) p.e∧Mem w (bZ [(some b,bc [.slice r.A r.n r.c,.map r.p] 73),r.er,r.em]) [(some b,bc [.slice r'.A r'.n r'.c,.map r'.p] 73),r'.er,r'.em,p.e] w')):=by
 have hG:=hW.1
 have hbl:=hP.len
 refine aI #[.cell 4 36] 21 func23 Z results23 ntmps23 Z ?_
 have M0:=hO.mem
 refine aE (aA (bN (.agg (.mk _)) M0 Z Z Z (fun b1 w1 M1=>(aQ jW M1 Z Z (fun b2 w2 M2=>(aB (aC (aE (fY [(1,0),(2,1),(0,2),(3,1),(4,0),(5,0),(6,0),(7,0),(8,0)] mixed M2 Z (by kernel_rfl) (fun w3 M3=>(aX Z Z Z (fun _=>aD 0 qW Z) (bP Z Z Z (aK 3 (.int _ _) fQ M3 Z Z Z) (dL [false] Z (by kernel_rfl) (eL aEx Z Z (kM _) ?_))))))))))))))
 rintro v4 w4 ⟨pm,em,f1,g1,f2,g2,f3,g3,rfl,hmap,hM4⟩
 have M4:Mem _ _ [_,_,_,_,_,_,_,_,_,_,_,_] _:=M3.call0 hM4
 refine aB (aC ⟨(dQ (bC Z (aK 3 (.int _ _) fQ M4 Z Z Z)) dG), ?_⟩)
 refine bP Z Z Z (lC (enc:=(fun v:Value=>v)) .nilFunc 5 sK aVj M4 Z hmap Z Z) (dX 11 (.tuple [(.nilFunc:Value),.bool false].toArray) (aZw (bFq hk)) (aX Z Z Z (fun _=>aH (.tuple (List.toArray _)) Z) (aX Z Z Z (fun _=>bM (_) Z Z) (aX Z Z Z (fun _=>bM (.bool false) Z Z) (aX Z Z Z (fun _=>aJ (_) Z) (aX Z Z Z (fun _=>aJ (.bool false) Z) (bS (aC (aE (aE (aA (wq (aH (.bool false) Z) Z (wq (gV true Z Z) Z (aB (aC (cG Z (aE (aA ?_))))))))))))))))))
 refine wq (cD [(0,.int _ _)] _ qP Z Z) Z (bB 4 _ fM M4 Z Z Z Z Z (aO Z) Z (fun w5 M5=>(aB (aC (aP (cN (eS 4 fM M5 Z Z Z ?_)))))))
 exact ⟨r,⟨none,0,0,(none,default)⟩,by rw [jS (by omega)];rfl,by rw [jS (by omega)];exact hW,by rw [jS (by omega)];exact aZ.nil _ _ _,(M5.keep [true,true,true,false,false,false,false,false,false,false,false,false]).dummy default⟩
theorem wD (w:World) (F:Rd w 2 (some ⟨0,0,none⟩) 1 [[.int .u32 73856093,.int .u32 19349663]]) (N:Rd w 4 (some ⟨3,0,none⟩) 1 [eF iY]) (b:Nat) (r:StV) (vs:List Body) (hW:dC 43 r vs) (hO:Own [(some b,bc [.slice r.A r.n r.c,.map r.p] 73),r.er,r.em] w) (o:OpI) (BA:Option Addr) (nn cc:Nat) (hP:OpOk w o BA nn cc) (hnn:nn≤1000000) (hdB:0 < nn→∀ q off,BA=some ⟨q,off,none⟩→q∉bZ [(some b,bc [.slice r.A r.n r.c,.map r.p] 73),r.er,r.em]) (hdF:0 < 1→∀ q off,(some ⟨0,0,none⟩:Option Addr)=some ⟨q,off,none⟩→q∉bZ [(some b,bc [.slice r.A r.n r.c,.map r.p] 73),r.er,r.em]) (hdN:0 < 1→∀ q off,(some ⟨3,0,none⟩:Option Addr)=some ⟨q,off,none⟩→q∉bZ [(some b,bc [.slice r.A r.n r.c,.map r.p] 73),r.er,r.em]):Calls prog 23 #[.pointer (some ⟨b,0,none⟩),.agg (dU o BA nn cc).toArray] w (gK (fun v w'=>∃ (r':StV) (p:Row),v=.agg (cC (hJ vs o).2 p).toArray∧dC 43 r' (hJ vs o).1∧aZ 5 1 p.A p.n p.c (((hJ vs o).2.bytes).map bL) p.e∧Mem w (bZ [(some b,bc [.slice r.A r.n r.c,.map r.p] 73),r.er,r.em]) [(some b,bc [.slice r'.A r'.n r'.c,.map r'.p] 73),r'.er,r'.em,p.e] w')):=by
 by_cases h0:o.kind < 1∨6 < o.kind
 ·exact aUm w b r vs hW hO o BA nn cc hP hdB h0
 by_cases h1:o.kind=1
 ·exact aUn w b r vs hW hO o BA nn cc hP hnn hdB h1
 by_cases h2:o.kind=2
 ·exact aUo w b r vs hW hO o BA nn cc hP hnn hdB h2
 by_cases h3:o.kind=3
 ·exact aUp w b r vs hW hO o BA nn cc hP hnn hdB h3
 by_cases h4:o.kind=4
 ·exact aUq w F N b r vs hW hO o BA nn cc hP hnn hdB hdF hdN h4
 by_cases h5:o.kind=5
 ·exact aUr w b r vs hW hO o BA nn cc hP hnn hdB h5
 ·exact aUs w b r vs hW hO o BA nn cc hP hnn hdB (by omega)
theorem aHe (w:World) (F:Rd w 2 (some ⟨0,0,none⟩) 1 [[.int .u32 73856093,.int .u32 19349663]]) (N:Rd w 4 (some ⟨3,0,none⟩) 1 [eF iY]) (b:Nat) (r:StV) (vs:List Body) (hW:dC 43 r vs) (hO:Own [(some b,bc [.slice r.A r.n r.c,.map r.p] 73),r.er,r.em] w) (hdF:0 < 1→∀ q off,(some ⟨0,0,none⟩:Option Addr)=some ⟨q,off,none⟩→q∉bZ [(some b,bc [.slice r.A r.n r.c,.map r.p] 73),r.er,r.em]) (hdN:0 < 1→∀ q off,(some ⟨3,0,none⟩:Option Addr)=some ⟨q,off,none⟩→q∉bZ [(some b,bc [.slice r.A r.n r.c,.map r.p] 73),r.er,r.em]) (A:Option Addr) (n c:Nat) (l:List OpRow) (hl:OpsRd w A n l) (hby:∀ x∈l,x.n≤1000000) (hn:n≤1000000) (hdl:0 < n→∀ q off,A=some ⟨q,off,none⟩→q∉bZ [(some b,bc [.slice r.A r.n r.c,.map r.p] 73),r.er,r.em]) (hdo:vF l (bZ [(some b,bc [.slice r.A r.n r.c,.map r.p] 73),r.er,r.em])) :
  Calls prog 32 #[.pointer (some ⟨b,0,none⟩),.slice A n c] w (gK (fun v w'=>∃ (r':StV) (q:Row) (rs:List Row),v=.slice q.A q.n q.c∧dC 43 r' (eX vs (opsO l))∧aZ 36 4 q.A q.n q.c (jX (kW vs (opsO l)) rs) q.e∧OutR 5 rs (kW vs (opsO l))∧Mem w (bZ [(some b,bc [.slice r.A r.n r.c,.map r.p] 73),r.er,r.em]) ([(some b,bc [.slice r'.A r'.n r'.c,.map r'.p] 73),r'.er,r'.em,q.e]++rs.map Row.e) w')):=by
 have hlen:l.length=n:=by simpa using hl.rd.len
 have hbd:=hl.rd.bound
 refine aI #[.tmp 4] 22 func32 Z results32 ntmps32 Z ?_
 have M0:=hO.mem
 refine aE (aA (eG Z Z (aB (aC (aE (aA (eG Z Z ?_)))))))
 have M1:=M0.dummy default
 refine aB (aC (aE (aE (aA (dK Z Z (wq (cK underlying25 Z) Z (aR Z Z (aB (aC (aS (dM (σ:=Nat × StV × Row × List Row) [0,4,8,9] (fun (i,r',q,rs)=>[(5,.slice q.A q.n q.c),(10,.int .i64 (i:Int))]) (fun (i,r',q,rs) w'=>(i≤n∧dC 43 r' (eX vs ((opsO l).take i))∧aZ 36 4 q.A q.n q.c (jX ((kW vs ((opsO l).take i))) rs) q.e∧OutR 5 rs (kW vs ((opsO l).take i)))∧Mem w (bZ [(some b,bc [.slice r.A r.n r.c,.map r.p] 73),r.er,r.em]) ([(some b,bc [.slice r'.A r'.n r'.c,.map r'.p] 73),r'.er,r'.em,q.e]++rs.map Row.e) w') (fun (i,r',q,rs)=>n - i) (0,r,fE,[]) (bE Z (bE Z eB)) (⟨⟨by omega,hW,aZ.nil _ _ _,OutR.nil _⟩,M1⟩) ?_)))))))))))
 rintro ⟨i,r',q,rs⟩ ρ2 w2 ⟨⟨hi,hr,hq,hoR⟩,hM2⟩
 have hqn:(jX (kW vs ((opsO l).take i)) rs).length=q.n:=hq.1
 rw [mG hoR.len,mH,List.length_take,fH] at hqn
 refine aE (aA (cY Z Z Z Z (aB (aC (aE ?_)))))
 refine aW Z (fun h11 => ?_) (fun h11 => ?_)
 ·obtain ⟨x,hx⟩:=cT (xs:=l) (k:=i) hlen (by omega)
  have hxm:=List.mem_of_getElem? hx
  have hP:=hl.each x hxm
  have hxo:=oN hx
  refine aM (aC (aE (aS (aE (aA (wq (bI (i) pL Z Z Z ((hl.rd.memY hM2 hdl).below_len (aG OpRow.cells hx)) ((hl.rd.memY hM2 hdl).someK (aG OpRow.cells hx))) Z (wq (dN _ iQ (hl.rd.memY hM2 hdl) (aG OpRow.cells hx) Z) Z (aL 13 (.agg (dU x.o x.A x.n x.c).toArray) Z (aQ aId hM2 Z Z (fun b3 w3 M3 => ?_))))))))))
  have M4:Mem _ _ ([_,_,_,_,_]++_) _:=Mem.front (L:=[_,_,_,_]) M3
  refine bB 4 _ iQ M4 Z Z Z Z Z (aO Z) Z (fun w5 M5=>(aB (aC (aA (dK Z Z (wq (aH (.pointer _) Z) Z (wq (aU 4 iQ M5 Z Z Z) Z (eL aVu Z Z (wD _ (F.memY M5 hdF) (N.memY M5 hdN) _ r' _ hr (M5.ownSeg 0 3) x.o x.A x.n x.c (hP.memY M5 (hdo x hxm)) (hby x hxm) (M5.away 0 3 hP.rd (hdo x hxm)) (M5.away 0 3 F hdF) (M5.away 0 3 N hdN)) ?_))))))))
  rintro v6 w6 ⟨r2,p2,rfl,hr2,hp2,hM6⟩
  have M6:Mem _ _ ([_,_,_,_,_,_]++_) _:=Mem.front (L:=[_,_,_,_,_]) (M5.seg 0 3 hM6)
  refine bW [.agg (List.toArray _)] [cC (hJ (eX vs ((opsO l).take i)) x.o).2 p2] Z qU M6 Z Z Z Z (cQ Z) (by decide) (fun b7 w7 M7 => ?_)
  have M8:Mem _ _ ([_,_,_,_,_,_,_]++_) _:=Mem.front (L:=[_,_,_,_,_,_]) M7
  refine cO 3 [cC (hJ (eX vs ((opsO l).take i)) x.o).2 p2] qU M8 rfl rfl rfl rfl rfl hq rfl (by simp [cC,Go.Bil.one]) (dI.ofMem 6 M8 rfl) (by omega) (fun A9 c9 e9 w9 M9 hR9=>(eG rfl rfl (aB (cU (aC (aA (wq (bA rfl rfl (by omega) (by omega)) rfl (aR rfl rfl (aB ?_)))))))))
  refine bX (i+1,r2,⟨A9,q.n+1,c9,e9⟩,rs++[p2]) (bE Z (bE Z eB)) (cA Z (cA Z (cA Z (cA Z gL)))) ?_ ?_
  ·exact ⟨⟨by omega,by rw [mY hxo];exact hr2,by rw [eT hxo,jJ hoR.len];exact hR9,by rw [eT hxo];exact hoR.add hp2⟩,Mem.pushNew (L:=[_,_,_,_]) p2 (Mem.keepL (L:=[_,_,_,_,_,_,_]) [true,true,true,true,false,true,false] M9)⟩
  ·(show n - (i+1) < n - i;omega)
 ·have hin:i=n:=by omega
  rw [hin,List.take_of_length_le (by rw [fH];omega)] at hr hq hoR
  refine cS (dE (dH (eO (aC (aE (aA (dK Z Z (eG Z Z (aB (aC (aP (cI (.slice _ _ _) Z ?_))))))))))))
  exact ⟨r',q,rs,Z,hr,hq,hoR,hM2⟩
theorem bGy (w:World) (q0:Row) (s:List Body) (hq0:aZ 43 10 q0.A q0.n q0.c ((s).map aF) q0.e) (hG:GoodV s) (hO:Own [q0.e] w) (o:OpI) (BA:Option Addr) (nn cc:Nat) (hP:OpOk w o BA nn cc) (hnn:nn≤1000000) (hdB:0 < nn→∀ q off,BA=some ⟨q,off,none⟩→q∉bZ [q0.e]) :
  Calls prog 25 #[.slice q0.A q0.n q0.c,.agg (dU o BA nn cc).toArray] w (gK (fun v w'=>∃ (q p:Row),v=.tuple #[.slice q.A q.n q.c,.agg (cC (hJ s o).2 p).toArray]∧aZ 43 10 q.A q.n q.c (((hJ s o).1).map aF) q.e∧aZ 5 1 p.A p.n p.c (((hJ s o).2.bytes).map bL) p.e∧Mem w (bZ [q0.e]) [q.e,p.e] w')):=by
 have hlen:s.length=q0.n:=by simpa using hq0.1
 have hsl:=hG.len
 have hbl:=hP.len
 refine aI #[.tmp 4,.cell 5 80] 42 func25 Z results25 ntmps25 Z ?_
 have M0:=hO.mem
 refine aE (aA (bN (.agg (.mk _)) M0 Z Z Z (fun b1 w1 M1=>(eG Z Z (aQ bIq M1 Z Z (fun b2 w2 M2=>(aB (aC (aE (aE (aA (wq (aD 0 pT Z) Z (wq (aK 1 (.int _ _) fQ M2 Z Z Z) Z (cY Z Z Z Z (wq (aH (.bool (decide _)) Z) Z ?_)))))))))))))))
 refine dT 10 Z (fun g10 => ?_) (fun g10 => ?_)
 ·refine aN Z Z (aN Z Z (aN Z Z (wq (bQ true (.bool true) Z Z) Z (aB (aC (cG Z (aE (aA (dK Z Z (wq (cD [(0,.int _ _)] _ aAk Z Z) Z (eG Z Z (bB 2 _ yK M2 Z Z Z Z Z (aO Z) Z (fun w3 M3=>(aB (aC (aP (cN (aWk (.slice _ _ _) 2 yK M3 Z Z Z Z ?_))))))))))))))))))
  have hun:¬ (1≤o.kind∧o.kind≤6):=by omega
  exact ⟨q0,⟨none,0,0,(none,default)⟩,by rw [jS hun];rfl,by rw [jS hun];exact hq0,by rw [jS hun];exact aZ.nil _ _ _,(M3.keep [true,false,false]).dummy default⟩
 ·refine wq (aD 0 pT Z) Z (wq (aK 1 (.int _ _) fQ M2 Z Z Z) Z (cY Z Z Z Z (wq (bQ false (.bool (decide _)) Z Z) Z (aB (aC ?_)))))
  refine aW Z (fun h14 => ?_) (fun h14 => ?_)
  ·refine aE (aA (dK Z Z (wq (cD [(0,.int _ _)] _ aAk Z Z) Z (eG Z Z (bB 2 _ yK M2 Z Z Z Z Z (aO Z) Z (fun w4 M4=>(aB (aC (aP (cN (aWk (.slice _ _ _) 2 yK M4 Z Z Z Z ?_)))))))))))
   have hun:¬ (1≤o.kind∧o.kind≤6):=by omega
   exact ⟨q0,⟨none,0,0,(none,default)⟩,by rw [jS hun];rfl,by rw [jS hun];exact hq0,by rw [jS hun];exact aZ.nil _ _ _,(M4.keep [true,false,false]).dummy default⟩
  ·refine aM (aC (aE (aA (dK Z Z (wq (aD 0 pT Z) Z (wq (aK 1 (.int _ _) fQ M2 Z Z Z) Z (wq (gJ Z Z (by omega) (by omega)) Z (wq (aD 1 vP Z) Z (wq (rG 1 _ bR M2 Z Z Z Z) Z (wq (aD 11 vQ Z) Z (wq (aK 1 (.int _ _) bV M2 Z Z Z) Z (wq (aD 12 vR Z) Z (wq (rG 1 _ bO M2 Z Z Z Z) Z (wq (aD 14 vS Z) Z (wq (aK 1 (.slice _ _ _) lR M2 Z Z Z) Z (wq (cD [(0,.int _ _),(1,.agg (List.toArray _)),(2,.int _ _),(3,.agg (List.toArray _)),(4,.slice _ _ _)] _ bHx Z Z) Z ?_))))))))))))))))
   refine aL 29 (.agg (dU { o with kind:=o.kind - 1 } BA nn cc).toArray) Z (eL bUj Z Z (bGx _ q0 s hq0 hG (M2.ownAt (i:=0) Z) { o with kind:=o.kind - 1 } BA nn cc ⟨hP.rd.memY M2 hdB,hP.cap,hP.byt,hP.body,hP.p1,hP.p2⟩ hnn hdB) ?_)
   rintro v5 w5 ⟨q2,p2,rfl,hq2,hp2,hM5⟩
   have M5:Mem _ _ [_,_,_,_] _:=M2.seg 0 1 hM5
   refine aQ aVi M5 Z Z (fun b6 w6 M6=>(bB 4 _ iR M6 Z Z Z Z Z (aO Z) Z (fun w7 M7=>(aB (aC (aE (fY [(0,0),(1,1),(2,0),(3,1),(4,0),(5,1),(6,0),(7,1),(8,0),(9,1),(10,0),(11,0),(12,2)] mixed M7 Z (by kernel_rfl) (fun w8 M8=>(aX Z Z Z (fun _=>aD 0 vU Z) (bP Z Z Z (aK 4 (.slice _ _ _) gR M8 Z Z Z) (aX Z Z Z (fun _=>aD 1 vV Z) (bP Z Z Z (aK 4 (.int _ _) fQ M8 Z Z Z) (aX Z Z Z (fun _=>aD 12 aWs Z) (bP Z Z Z (aK 4 (.slice _ _ _) lR M8 Z Z Z) ?_))))))))))))))
   refine aX Z Z Z (fun _=>aD 13 aWt Z) (bP Z Z Z (aK 4 (.int _ _) fQ M8 Z Z Z) (aX Z Z Z (fun _=>aD 14 aWu Z) (bP Z Z Z (aK 4 (.bool _) qS M8 Z Z Z) (aX Z Z Z (fun _=>cD [(0,.int _ _),(1,.slice _ _ _),(2,.int _ _),(3,.bool _)] _ aAk Z Z) (aX Z Z Z (fun _=>aJ (.slice _ _ _) Z) (dL [true,true,true,true,true] Z (by kernel_rfl) (bB 2 _ yK M8 Z Z Z Z Z (aO Z) Z (fun w9 M9 => ?_))))))))
   refine aB (aC ⟨dG, ?_⟩)
   refine bS (aC (aP (aWk (.slice _ _ _) 2 yK M9 Z Z Z Z ?_)))
   have hdo:¬ (o.kind < 1∨6 < o.kind):=by omega
   exact ⟨q2,p2,by rw [bHi hdo];rfl,by rw [bHi hdo];exact hq2,by rw [bHi hdo];exact hp2,M9.keep [true,false,false,true,false]⟩
theorem bAp (w:World) (q0:Row) (s:List Body) (hq0:aZ 43 10 q0.A q0.n q0.c ((s).map aF) q0.e) (hG:GoodV s) (hO:Own [q0.e] w) (A:Option Addr) (n c:Nat) (l:List OpRow) (hl:OpsRd w A n l) (hby:∀ x∈l,x.n≤1000000) (hn:n≤1000000) (hdl:0 < n→∀ q off,A=some ⟨q,off,none⟩→q∉bZ [q0.e]) (hdo:vF l (bZ [q0.e])) :
  Calls prog 10 #[.slice q0.A q0.n q0.c,.slice A n c] w (gK (fun v w'=>∃ (q o:Row) (rs:List Row),v=.tuple #[.slice q.A q.n q.c,.slice o.A o.n o.c]∧aZ 43 10 q.A q.n q.c (((eX s (opsO l))).map aF) q.e∧aZ 80 4 o.A o.n o.c (jX (kW s (opsO l)) rs) o.e∧OutR 5 rs (kW s (opsO l))∧Mem w (bZ [q0.e]) ([q.e,o.e]++rs.map Row.e) w')):=by
 have hlen:l.length=n:=by simpa using hl.rd.len
 have hbd:=hl.rd.bound
 have hlo:∀ o∈opsO l,OkO o:=hl.okO hby
 refine aI #[.tmp 4,.tmp 5] 32 func10 Z results10 ntmps10 Z ?_
 have M0:=hO.mem
 refine aE (aA (eG Z Z (eG Z Z (aB (aC (aE (aA (eG Z Z ?_))))))))
 have M1:=M0.dummy default
 refine aB (aC (aE (aE (aA (bJ Z Z (aB (aC (aS (dM (σ:=Nat × Row × Row × List Row) [1,4,5] (fun (i,q,o,rs)=>[(0,.slice q.A q.n q.c),(6,.slice o.A o.n o.c),(7,.int .i64 (i:Int))]) (fun (i,q,o,rs) w'=>(i≤n∧aZ 43 10 q.A q.n q.c (((eX s ((opsO l).take i))).map aF) q.e∧aZ 80 4 o.A o.n o.c (jX ((kW s ((opsO l).take i))) rs) o.e∧OutR 5 rs (kW s ((opsO l).take i)))∧Mem w (bZ [q0.e]) ([q.e,o.e]++rs.map Row.e) w') (fun (i,q,o,rs)=>n - i) (0,q0,fE,[]) (bE Z (bE Z (bE Z eB))) (⟨⟨by omega,hq0,aZ.nil _ _ _,OutR.nil _⟩,M1⟩) ?_)))))))))
 rintro ⟨i,q,o,rs⟩ ρ2 w2 ⟨⟨hi,hq,ho,hoR⟩,hM2⟩
 have hqn:(jX (kW s ((opsO l).take i)) rs).length=o.n:=ho.1
 rw [mG hoR.len,mH,List.length_take,fH] at hqn
 have hGi:GoodV (eX s ((opsO l).take i)):=aAc hG (fun z hz=>hlo z (List.mem_of_mem_take hz))
 refine aE (aE (aA (aR Z Z (dK Z Z (wq (cK underlying22 Z) Z (cY Z Z Z Z (aB (aC ?_))))))))
 refine aW Z (fun h13 => ?_) (fun h13 => ?_)
 ·obtain ⟨x,hx⟩:=cT (xs:=l) (k:=i) hlen (by omega)
  have hxm:=List.mem_of_getElem? hx
  have hP:=hl.each x hxm
  have hxo:=oN hx
  refine aM (aC (aE (aS (aE (aA (dK Z Z (dK Z Z (aR Z Z (wq (bI (i) lW Z Z Z ((hl.rd.memY hM2 hdl).below_len (aG OpRow.cells hx)) ((hl.rd.memY hM2 hdl).someK (aG OpRow.cells hx))) Z (wq (dN _ bTv (hl.rd.memY hM2 hdl) (aG OpRow.cells hx) Z) Z (aL 21 (.agg (dU x.o x.A x.n x.c).toArray) Z (eL bUc Z Z (bGy _ q _ hq hGi (hM2.ownAt (i:=0) Z) x.o x.A x.n x.c (hP.memY hM2 (hdo x hxm)) (hby x hxm) (hM2.away 0 1 hP.rd (hdo x hxm))) ?_))))))))))))
  rintro v3 w3 ⟨q2,p2,rfl,hq2,hp2,hM3⟩
  have M3:Mem _ _ ([_,_,_]++_) _:=Mem.front (L:=[_,_]) (hM2.seg 0 1 hM3)
  refine wq (aH (.tuple (List.toArray _)) Z) Z (wq (bM (.slice _ _ _) Z Z) Z (wq (bM (.agg (.mk _)) Z Z) Z (aQ bIq M3 Z Z (fun b4 w4 M4 => ?_))))
  have M5:Mem _ _ ([_,_,_,_]++_) _:=Mem.front (L:=[_,_,_]) M4
  refine eG Z Z (bB 3 _ yK M5 Z Z Z Z Z (aO Z) Z (fun w6 M6=>(aB (aC (aE (aA (dK Z Z (eG Z Z (aB (aC (aA (dK Z Z (wq (aU 3 yK M6 Z Z Z) Z (bW [.agg (List.toArray _)] [cC (hJ (eX s ((opsO l).take i)) x.o).2 p2] Z bTd M6 Z Z Z Z (cQ Z) (by decide) (fun b7 w7 M7 => ?_)))))))))))))))
  have M8:Mem _ _ ([_,_,_,_,_]++_) _:=Mem.front (L:=[_,_,_,_]) M7
  refine cO 1 [cC (hJ (eX s ((opsO l).take i)) x.o).2 p2] bTd M8 rfl rfl rfl rfl rfl ho rfl (by simp [cC,Go.Bil.one]) (dI.ofMem 4 M8 rfl) (by omega) (fun A9 c9 e9 w9 M9 hR9=>(eG rfl rfl (aB (cU (aC (aA (aR rfl rfl (wq (bA rfl rfl (by omega) (by omega)) rfl (bJ rfl rfl (aB ?_))))))))))
  refine bX (i+1,q2,⟨A9,o.n+1,c9,e9⟩,rs++[p2]) (bE Z (bE Z (bE Z eB))) (cA Z (cA Z (cA Z gL))) ?_ ?_
  ·exact ⟨⟨by omega,by rw [mY hxo];exact hq2,by rw [eT hxo,jJ hoR.len];exact hR9,by rw [eT hxo];exact hoR.add hp2⟩,Mem.pushNew (L:=[_,_]) p2 (Mem.keepL (L:=[_,_,_,_,_]) [true,true,true,false,false] M9)⟩
  ·(show n - (i+1) < n - i;omega)
 ·have hin:i=n:=by omega
  rw [hin,List.take_of_length_le (by rw [fH];omega)] at hq ho hoR
  refine cS (dE (dH (eO (aC (aE (aA (dK Z Z (dK Z Z (eG Z Z (eG Z Z (aB (aC (aP (gA (.slice _ _ _) (.slice _ _ _) Z Z ?_))))))))))))))
  exact ⟨q,o,rs,Z,hq,ho,hoR,hM2⟩
theorem aUe (w:World) (z:ResI) (r r':Row) (RB:Rd w 1 r.A r.n (z.bytes.map bL)) (RB':Rd w 1 r'.A r'.n (z.bytes.map bL)) :
  Calls prog 28 #[.agg (cC z r).toArray,.agg (cC z r').toArray] w (Rb w (.bool true)):=by
 refine aI #[.tmp 4] 31 func28 Z results28 ntmps28 Z ?_
 have M0:=Mem.refl w
 refine aE (aA (bN (.agg (.mk _)) M0 Z Z Z (fun b1 w1 M1=>(bN (.agg (.mk _)) M1 Z Z Z (fun b2 w2 M2=>(wq (aJ (.bool false) Z) Z (aB (aC (aE (aA (wq (aD 0 aWo Z) Z (wq (aK 0 (.int _ _) fQ M2 Z Z Z) Z (wq (aD 0 aWo Z) Z (wq (aK 1 (.int _ _) fQ M2 Z Z Z) Z (cY Z Z Z Z (kT 9 Z Z (wq (aH (.bool true) Z) Z (wq (aD 1 aWp Z) Z (wq (aK 0 (.slice _ _ _) lR M2 Z Z Z) Z (wq (aD 1 aWp Z) Z (wq (aK 1 (.slice _ _ _) lR M2 Z Z Z) Z ?_)))))))))))))))))))))
 refine dO bCs Z Z M2 (yA _ _ _ _ z.bytes (RB.mem M2) _ _ _ z.bytes (RB'.mem M2)) (fun w3 M3=>(kT 15 Z Z (wq (bQ true (.bool true) Z Z) Z (wq (aH (.bool true) Z) Z (wq (aD 2 aWq Z) Z (wq (aK 0 (.int _ _) fQ M3 Z Z Z) Z (wq (aD 2 aWq Z) Z (wq (aK 1 (.int _ _) fQ M3 Z Z Z) Z (cY Z Z Z Z (kT 22 Z Z (wq (bQ true (.bool true) Z Z) Z (wq (aH (.bool true) Z) Z (wq (aD 3 aWr Z) Z (wq (aK 0 (.bool _) qS M3 Z Z Z) Z (wq (aD 3 aWr Z) Z (wq (aK 1 (.bool _) qS M3 Z Z Z) Z ?_))))))))))))))))
 refine wq (tF _ underlying4 rfl rfl rfl) rfl (aL 29 (.bool true) (bv rfl (by simp)) (wq (bQ true (.bool true) rfl rfl) rfl (wq (aJ (.bool true) rfl) rfl (aB (aC (aP (cI (.bool true) rfl ?_)))))))
 exact ⟨Z,M3.below⟩
theorem aGy (w:World) (A:Option Addr) (n c:Nat) (l:List OpRow) (hl:OpsRd w A n l) (hby:∀ x∈l,x.n≤1000000) (hn:n≤1000000):Calls prog 10 #[.slice none 0 0,.slice A n c] w (fun ex w'=>∃ v,ex=.returned v∧(fun v w'=>∃ (q o:Row) (rs:List Row),v=.tuple #[.slice q.A q.n q.c,.slice o.A o.n o.c]∧aZ 43 10 q.A q.n q.c (((eX [] (opsO l))).map aF) q.e∧aZ 80 4 o.A o.n o.c (jX (kW [] (opsO l)) rs) o.e∧OutR 5 rs (kW [] (opsO l))∧Mem w [] ([q.e,o.e]++rs.map Row.e) w') v w'):=(bAp w fE [] (aZ.nil _ _ _) GoodV.nil (Own.dummy w default) A n c l hl hby hn (by simp [bZ,fE]) (by intro x _ _ q off _;simp [bZ,fE])).mono fun _ _ h=>h
theorem bWi:∃ fs,OpT prog 4 58 3 43 39 41 34 5 1 fs:=⟨_,underlying58,by kernel_rfl,by kernel_rfl,by kernel_rfl,by kernel_rfl,by kernel_rfl,by kernel_rfl,by kernel_rfl,by kernel_rfl,by kernel_rfl,by kernel_rfl,by kernel_rfl,by kernel_rfl,gW⟩
theorem xE (w:World) (A:Option Addr) (n c:Nat) (ls:List Int) (R:Rd w 1 A n (ls.map bL)) (hn:n≤1048576) :
  Calls prog 24 #[.slice A n c] w (gK (fun v w'=>∃ p:Row,v=.slice p.A p.n p.c∧aZ 5 1 p.A p.n p.c ((ls).map bL) p.e∧Mem w [] [p.e] w')):=by
 have hll:ls.length=n:=by simpa using R.len
 refine aI #[.tmp 2] 8 func24 Z results24 ntmps24 Z ?_
 have M0:=Mem.refl w
 refine aE (aA (eG Z Z (aB (aC (aE (aE (aA (dK Z Z (wq (zU _ underlying34 Z Z) Z (aB (aC ?_)))))))))))
 refine iV _ Z (fun h4 => ?_) (fun h4 => ?_)
 ·refine aE (aA (eG Z Z (aB (aC (aP (cN (cI (.slice _ _ _) Z ?_)))))))
  have hA:A=none:=by cases A <;> simp_all
  have hl:ls=[]:=by
   rcases Nat.eq_zero_or_pos n with h | h
   ·exact List.eq_nil_of_length_eq_zero (by omega)
   ·have:=R.some h;rw [hA] at this;cases this
  subst hl
  exact ⟨fE,Z,aZ.nil _ _ _,M0.dummy default⟩
 ·refine aM (aC (aE (aA (bW [] [] Z gW M0 Z Z Z Z (cQ Z) (by decide) (fun b1 w1 M1=>(dK Z Z (gO 0 (ls.map bL) gW M1 Z Z Z Z Z (aZ.empty b1) (R.mem M1) (aEv ls) (by omega) (fun A2 c2 e2 w2 M2 hR2 hA2=>(eG Z Z (aB (aC (aP (cI (.slice _ _ _) Z ?_)))))))))))))
  exact ⟨⟨A2,0+n,c2,e2⟩,rfl,by simpa using hR2,M2⟩
theorem aBu (w:World) (o:OpI) (BA:Option Addr) (nn cc:Nat) (hP:OpOk w o BA nn cc) (hnn:nn≤1000000) :
  Calls prog 19 #[.agg (dU o BA nn cc).toArray] w (gK (fun v w'=>∃ p:Row,v=.agg (dU o p.A p.n p.c).toArray∧aZ 5 1 p.A p.n p.c ((o.bytes).map bL) p.e∧Mem w [] [p.e] w')):=by
 refine aI #[.cell 2 45] 8 func19 Z results19 ntmps19 Z ?_
 have M0:=Mem.refl w
 refine aE (aA (bN (.agg (.mk _)) M0 Z Z Z (fun b1 w1 M1=>(aQ aId M1 Z Z (fun b2 w2 M2=>(aB (aC (aE (aA (wq (aD 14 aEa Z) Z (wq (aK 0 (.slice _ _ _) lR M2 Z Z Z) Z (eL bNf Z Z (xE _ BA nn cc o.bytes (hP.rd.mem M2) (by omega)) ?_))))))))))))
 rintro v3 w3 ⟨p,rfl,hp,hM3⟩
 have M3:Mem _ _ [_,_,_] _:=M2.call0 hM3
 refine wq (aD 14 aEa Z) Z (dB 0 (.slice _ _ _) lR M3 Z Z Z Z Z Z (fun w4 M4=>(aB (aC (aE (aA (wq (aU 0 iQ M4 Z Z Z) Z (bB 1 _ iQ M4 Z Z Z Z Z (aO Z) Z (fun w5 M5=>(aB (aC (aP (eS 1 iQ M5 Z Z Z ?_)))))))))))))
 exact ⟨p,Z,hp,M5.keep [false,false,true]⟩
theorem aOp (w:World) (A:Option Addr) (n c:Nat) (xs:List Int) (R:Rd w 1 A n (xs.map bL)) (hx:iK xs) (B:Option Addr) (m c':Nat) (ys:List Int) (R':Rd w 1 B m (ys.map bL)) (hy:iK ys) :
  Calls prog 30 #[.slice A n c,.slice B m c'] w (Rb w (.bool (decide (xs=ys)))):=by
 refine aI #[.tmp 4] 10 func30 Z results30 ntmps30 Z ?_
 have M0:=Mem.refl w
 refine aE (aA (wq (aJ (.bool false) Z) Z (aB (aC (aE (aA (dK Z Z (wq (aNb underlying34 underlying5 underlying9 (R.mem M0) Z) Z (dK Z Z (wq (aNb underlying34 underlying5 underlying9 (R'.mem M0) Z) Z (wq (bGv Z Z) Z (aL 9 (.bool (decide (xs=ys))) (bD (bWk hx hy)) (wq (aJ (.bool (decide _)) Z) Z (aB (aC (aP (cI (.bool (decide _)) Z ?_)))))))))))))))))
 exact ⟨Z,M0.below⟩
theorem bGw (w:World) (b xb wb:Nat) (A:Option Addr) (n c k:Nat) (eo:eN) (r:StV) (vs:List Body) (hW:dC 43 r vs) (qm:Row) (ms:List Row) (hqm:aZ 34 1 qm.A qm.n qm.c ((ms).map wQ) qm.e) (hms:ms.length≤1000000) (z:Int) (hO:Own [(some xb,bc [.slice A n c,.int .i64 (k:Int),.slice qm.A qm.n qm.c] 28),eo,(some b,bc [.slice r.A r.n r.c,.map r.p] 73),r.er,r.em,(some wb,bc [.pointer (some ⟨b,0,none⟩)] 61),qm.e] w) :
  Calls prog 21 #[.int .i64 z,.pointer (some ⟨xb,0,none⟩),.pointer (some ⟨wb,0,none⟩)] w (gK (fun v w'=>∃ p q:Row,v=.tuple #[]∧aZ 5 1 p.A p.n p.c ((kN vs).map bL) p.e∧aZ 34 1 q.A q.n q.c ((ms++[p]).map wQ) q.e∧Mem w (bZ [(some xb,bc [.slice A n c,.int .i64 (k:Int),.slice qm.A qm.n qm.c] 28),eo,(some b,bc [.slice r.A r.n r.c,.map r.p] 73),r.er,r.em,(some wb,bc [.pointer (some ⟨b,0,none⟩)] 61),qm.e]) [(some xb,bc [.slice A n c,.int .i64 (k:Int),.slice q.A q.n q.c] 28),eo,(some b,bc [.slice r.A r.n r.c,.map r.p] 73),r.er,r.em,(some wb,bc [.pointer (some ⟨b,0,none⟩)] 61),q.e,p.e] w')):=by
 have hqn:(ms.map wQ).length=qm.n:=hqm.1
 rw [List.length_map] at hqn
 refine aI #[] 11 func21 Z results21 ntmps21 Z ?_
 have M0:=hO.mem
 refine fY [(0,0),(1,1),(2,1),(3,2),(4,2),(5,2),(6,0),(7,2)] mixed M0 Z (by kernel_rfl) (fun w1 M1=>(aX Z Z Z (fun _=>aD 2 kJ Z) (bP Z Z Z (aK 0 (.slice _ _ _) iZ M1 Z Z Z) (bP Z Z Z (aK 5 (.pointer _) aKn M1 Z Z Z) (dL [true,false] Z (by kernel_rfl) (eL aVt Z Z (nP _ _ r _ hW (M1.ownSeg 2 3)) ?_))))))
 rintro v2 w2 ⟨p,rfl,hp,hM2⟩
 have M2:Mem _ _ [_,_,_,_,_,_,_,_] _:=M1.seg 2 3 hM2
 refine aB (aC ⟨(dQ (bC Z (aK 0 (.slice _ _ _) iZ M2 Z Z Z)) dG), ?_⟩)
 refine dL [false] Z (by kernel_rfl) (bW [.slice _ _ _] [wQ p] Z aAf M2 Z Z Z Z (cQ Z) (by decide) (fun b3 w3 M3 => ?_))
 refine aB (aC ⟨(dQ (bC Z (aK 0 (.slice _ _ _) iZ M3 Z Z Z)) dG), ?_⟩)
 refine dL [true] rfl (by kernel_rfl) (cO 6 [wQ p] aAf M3 rfl rfl rfl rfl rfl hqm rfl (by simp [wQ,Go.Bil.one]) (dI.ofMem 8 M3 rfl) (by omega) (fun A4 c4 e4 w4 M4 hR4 => ?_))
 refine aB (aC ⟨dG, ?_⟩)
 refine aX Z Z Z (fun _=>aD 2 kJ Z) (dL [] Z (by kernel_rfl) (dB 0 (.slice _ _ _) iZ M4 Z Z Z Z Z Z (fun w5 M5 => ?_)))
 refine aB (aC ⟨dG, ?_⟩)
 refine bS (kO ?_)
 exact ⟨p,⟨A4,qm.n+1,c4,e4⟩,Z,hp,by rw [List.map_append];exact hR4,M5.keep [true,true,true,true,true,true,true,true,false]⟩
theorem bLq (w:World) (F:Rd w 2 (some ⟨0,0,none⟩) 1 [[.int .u32 73856093,.int .u32 19349663]]) (N:Rd w 4 (some ⟨3,0,none⟩) 1 [eF iY]) (b xb wb k:Nat) (hkp:0 < k) (r:StV) (hW:dC 43 r []) (qo:Row) (l:List OpRow) (hqo:aZ 45 15 qo.A qo.n qo.c (l.map OpRow.cells) qo.e) (hea:∀ x∈l,OpOk w x.o x.A x.n x.c) (hby:∀ x∈l,x.n≤1000000) (hn:qo.n≤1000000) (hO:Own [(some xb,bc [.slice qo.A qo.n qo.c,.int .i64 (k:Int),.slice none 0 0] 28),qo.e,(some b,bc [.slice r.A r.n r.c,.map r.p] 73),r.er,r.em,(some wb,bc [.pointer (some ⟨b,0,none⟩)] 61)] w) (hdF:0 < 1→∀ q off,(some ⟨0,0,none⟩:Option Addr)=some ⟨q,off,none⟩→q∉bZ [(some xb,bc [.slice qo.A qo.n qo.c,.int .i64 (k:Int),.slice none 0 0] 28),qo.e,(some b,bc [.slice r.A r.n r.c,.map r.p] 73),r.er,r.em,(some wb,bc [.pointer (some ⟨b,0,none⟩)] 61)]) (hdN:0 < 1→∀ q off,(some ⟨3,0,none⟩:Option Addr)=some ⟨q,off,none⟩→q∉bZ [(some xb,bc [.slice qo.A qo.n qo.c,.int .i64 (k:Int),.slice none 0 0] 28),qo.e,(some b,bc [.slice r.A r.n r.c,.map r.p] 73),r.er,r.em,(some wb,bc [.pointer (some ⟨b,0,none⟩)] 61)]) (hdo:vF l (bZ [(some xb,bc [.slice qo.A qo.n qo.c,.int .i64 (k:Int),.slice none 0 0] 28),qo.e,(some b,bc [.slice r.A r.n r.c,.map r.p] 73),r.er,r.em,(some wb,bc [.pointer (some ⟨b,0,none⟩)] 61)])) :
  Calls prog 20 #[.pointer (some ⟨b,0,none⟩),.slice qo.A qo.n qo.c,.int .i64 (k:Int),(.func (.func 21) #[] #[.pointer (some ⟨xb,0,none⟩),.pointer (some ⟨wb,0,none⟩)]:Value)] w (gK (fun v w'=>∃ (r':StV) (qm q:Row) (ms rs:List Row),v=.slice q.A q.n q.c∧dC 43 r' (eX [] (opsO l))∧aZ 34 1 qm.A qm.n qm.c ((ms).map wQ) qm.e∧BytR 5 ms (fT (opsO l) k (qo.n / k))∧aZ 36 4 q.A q.n q.c (jX (kW [] (opsO l)) rs) q.e∧OutR 5 rs (kW [] (opsO l))∧Mem w (bZ [(some xb,bc [.slice qo.A qo.n qo.c,.int .i64 (k:Int),.slice none 0 0] 28),qo.e,(some b,bc [.slice r.A r.n r.c,.map r.p] 73),r.er,r.em,(some wb,bc [.pointer (some ⟨b,0,none⟩)] 61)]) ([(some xb,bc [.slice qo.A qo.n qo.c,.int .i64 (k:Int),.slice qm.A qm.n qm.c] 28),qo.e,(some b,bc [.slice r'.A r'.n r'.c,.map r'.p] 73),r'.er,r'.em,(some wb,bc [.pointer (some ⟨b,0,none⟩)] 61),qm.e,q.e]++(rs.map Row.e++ms.map Row.e)) w')):=by
 have hlen:l.length=qo.n:=by have h:=hqo.1;rwa [List.length_map] at h
 refine aI #[.tmp 8] 37 func20 Z results20 ntmps20 Z ?_
 have M0:=hO.mem
 refine aE (aA (eG Z Z (aB (aC (aE (aA (eG Z Z ?_)))))))
 have M1:=(M0.dummy default).dummy default
 refine aB (aC (aE (aE (aA (dK Z Z (wq (cK underlying25 Z) Z (aR Z Z (aB (aC (aS (dM (σ:=Nat × StV × Row × Row × List Row × List Row) [0,2,3,8,12,13] (fun (i,r',qm,q,ms,rs)=>[(9,.slice q.A q.n q.c),(14,.int .i64 (i:Int))]) (fun (i,r',qm,q,ms,rs) w'=>(i≤qo.n∧dC 43 r' (eX [] ((opsO l).take i))∧aZ 34 1 qm.A qm.n qm.c ((ms).map wQ) qm.e∧BytR 5 ms (fT (opsO l) k (i / k))∧aZ 36 4 q.A q.n q.c (jX ((kW [] ((opsO l).take i))) rs) q.e∧OutR 5 rs (kW [] ((opsO l).take i)))∧Mem w (bZ [(some xb,bc [.slice qo.A qo.n qo.c,.int .i64 (k:Int),.slice none 0 0] 28),qo.e,(some b,bc [.slice r.A r.n r.c,.map r.p] 73),r.er,r.em,(some wb,bc [.pointer (some ⟨b,0,none⟩)] 61)]) ([(some xb,bc [.slice qo.A qo.n qo.c,.int .i64 (k:Int),.slice qm.A qm.n qm.c] 28),qo.e,(some b,bc [.slice r'.A r'.n r'.c,.map r'.p] 73),r'.er,r'.em,(some wb,bc [.pointer (some ⟨b,0,none⟩)] 61),qm.e,q.e]++(rs.map Row.e++ms.map Row.e)) w') (fun (i,r',qm,q,ms,rs)=>qo.n - i) (0,r,fE,fE,[],[]) (bE Z (bE Z eB)) (⟨⟨by omega,hW,aZ.nil _ _ _,by rw [Nat.zero_div];exact BytR.nil _,aZ.nil _ _ _,OutR.nil _⟩,M1⟩) ?_)))))))))))
 rintro ⟨i,r',qm,q,ms,rs⟩ ρ2 w2 ⟨⟨hi,hr,hqm,hmb,hq,hoR⟩,hM2⟩
 have hqn:(jX (kW [] ((opsO l).take i)) rs).length=q.n:=hq.1
 rw [mG hoR.len,mH,List.length_take,fH] at hqn
 have hml:ms.length≤1000000:=by rw [hmb.len,pY];exact Nat.le_trans (Nat.div_le_self i k) (by omega)
 refine aE (aA (cY Z Z Z Z (aB (aC (aE ?_)))))
 refine aW Z (fun h15 => ?_) (fun h15 => ?_)
 ·obtain ⟨x,hx⟩:=cT (xs:=l) (k:=i) hlen (by omega)
  have hxm:=List.mem_of_getElem? hx
  have hxo:=oN hx
  have hP:=hea x hxm
  refine aM (aC (aE (aS (aE (aA (aR Z Z (wq (bI (i) pL Z Z Z ((hqo.rd hM2 (bH (i:=1) Z)).below_len (aG OpRow.cells hx)) ((hqo.rd hM2 (bH (i:=1) Z)).someK (aG OpRow.cells hx))) Z (wq (dN _ iQ (hqo.rd hM2 (bH (i:=1) Z)) (aG OpRow.cells hx) Z) Z (aQ aId hM2 Z Z (fun b3 w3 M3 => ?_))))))))))
  have M4:Mem _ _ ([_,_,_,_,_,_,_,_,_]++_) _:=Mem.front (L:=[_,_,_,_,_,_,_,_]) M3
  refine bJ Z Z (bB 8 _ iQ M4 Z Z Z Z Z (aO Z) Z (fun w5 M5=>(aB (aC (aE (aA (dK Z Z (wq (aH (.pointer _) Z) Z (wq (aU 8 iQ M5 Z Z Z) Z (aL 21 (.agg (dU x.o x.A x.n x.c).toArray) Z (eL aVu Z Z (wD _ (F.memY M5 hdF) (N.memY M5 hdN) _ r' _ hr (M5.ownSeg 2 3) x.o x.A x.n x.c (hP.memY M5 (hdo x hxm)) (hby x hxm) (M5.away 2 3 hP.rd (hdo x hxm)) (M5.away 2 3 F hdF) (M5.away 2 3 N hdN)) ?_)))))))))))
  rintro v6 w6 ⟨r2,p2,rfl,hr2,hp2,hM6⟩
  have M6:Mem _ _ ([_,_,_,_,_,_,_,_,_,_]++_) _:=Mem.front (L:=[_,_,_,_,_,_,_,_,_]) (M5.seg 2 3 hM6)
  refine bW [.agg (List.toArray _)] [cC (hJ (eX [] ((opsO l).take i)) x.o).2 p2] Z qU M6 Z Z Z Z (cQ Z) (by decide) (fun b7 w7 M7 => ?_)
  have M8:Mem _ _ ([_,_,_,_,_,_,_,_,_,_,_]++_) _:=Mem.front (L:=[_,_,_,_,_,_,_,_,_,_]) M7
  refine cO 7 [cC (hJ (eX [] ((opsO l).take i)) x.o).2 p2] qU M8 rfl rfl rfl rfl rfl hq rfl (by simp [cC,Go.Bil.one]) (dI.ofMem 10 M8 rfl) (by omega) (fun A9 c9 e9 w9 M9 hR9=>(eG rfl rfl (aB (aC (aE (aA (aR rfl rfl (wq (bA rfl rfl (by omega) (by omega)) rfl (aL 26 (.int .i64 ((i+1:Nat):Int)) (iE (by omega)) (aR rfl rfl (wq (iM rfl rfl (by omega)) rfl (aL 28 (.int .i64 (((i+1) % k:Nat):Int)) (iE (aAl rfl rfl)) (cY rfl rfl rfl rfl (aB (aC ?_)))))))))))))))
  refine aW Z (fun h29 => ?_) (fun h29 => ?_)
  ·have hz:=bSm h29
   refine aA (wq (aH (.func _ _ _) Z) Z (aR Z Z (aR Z Z (wq (gD Z Z (by omega)) Z (aL 33 (.int .i64 ((i / k:Nat):Int)) (iE (bLk Z (by omega))) (eL bUb Z Z (bGw _ b xb wb qo.A qo.n qo.c k qo.e r2 _ hr2 qm ms hqm hml _ (M9.ownSeg 0 7)) ?_))))))
   rintro v10 w10 ⟨pm,qm2,rfl,hpm,hqm2,hM10⟩
   have M10:Mem _ _ ([_,_,_,_,_,_,_,_,_,_,_,_]++_) _:=Mem.front (L:=[_,_,_,_,_,_,_,_,_,_,_]) (M9.seg 0 7 hM10)
   refine aB (cU (aC (aA (wq (bA Z Z (by omega) (by omega)) Z (aR Z Z (aB ?_))))))
   obtain ⟨hmk1,_⟩:=aBn (l:=opsO l) hkp hz
   rw [mY hxo] at hmk1
   refine bX (i+1,r2,qm2,⟨A9,q.n+1,c9,e9⟩,ms++[pm],rs++[p2]) (bE Z (bE Z eB)) (cA Z (cA Z (cA Z (cA Z (cA Z (cA Z gL)))))) ?_ ?_
   ·exact ⟨⟨by omega,by rw [mY hxo];exact hr2,hqm2,by rw [hmk1];exact hmb.add hpm,by rw [eT hxo,jJ hoR.len];exact hR9,by rw [eT hxo];exact hoR.add hp2⟩,Mem.pushAB (L:=[_,_,_,_,_,_,_,_]) p2 pm (Mem.keepL (L:=[_,_,_,_,_,_,_,_,_,_,_,_]) [true,true,true,true,true,true,true,true,false,true,false,true] M10)⟩
   ·(show qo.n - (i+1) < qo.n - i;omega)
  ·have hz:=bSn h29
   refine aM (cU (aC (aA (wq (bA Z Z (by omega) (by omega)) Z (aR Z Z (aB ?_))))))
   refine bX (i+1,r2,qm,⟨A9,q.n+1,c9,e9⟩,ms,rs++[p2]) (bE Z (bE Z eB)) (cA Z (cA Z (cA Z (cA Z (cA Z (cA Z gL)))))) ?_ ?_
   ·exact ⟨⟨by omega,by rw [mY hxo];exact hr2,hqm,by rw [aGg hkp hz];exact hmb,by rw [eT hxo,jJ hoR.len];exact hR9,by rw [eT hxo];exact hoR.add hp2⟩,Mem.pushA (L:=[_,_,_,_,_,_,_,_]) p2 (Mem.keepL (L:=[_,_,_,_,_,_,_,_,_,_,_]) [true,true,true,true,true,true,true,true,false,true,false] M9)⟩
   ·(show qo.n - (i+1) < qo.n - i;omega)
 ·have hin:i=qo.n:=by omega
  rw [hin] at hmb
  rw [hin,List.take_of_length_le (by rw [fH];omega)] at hr hq hoR
  refine cS (dE (dH (eO (aC (aE (aA (dK Z Z (eG Z Z (aB (aC (aP (cI (.slice _ _ _) Z ?_))))))))))))
  exact ⟨r',qm,q,ms,rs,Z,hr,hqm,hmb,hq,hoR,hM2⟩
theorem aKu (w:World) (F:Rd w 2 (some ⟨0,0,none⟩) 1 [[.int .u32 73856093,.int .u32 19349663]]) (N:Rd w 4 (some ⟨3,0,none⟩) 1 [eF iY]) (A:Option Addr) (n c:Nat) (l:List OpRow) (hl:OpsRd w A n l) (hby:∀ x∈l,x.n≤1000000) (hn:n≤1000000) (z:Int) (k:Nat) (hz:max z 1=(k:Int)) :
  Calls prog 7 #[.slice A n c,.int .i64 z] w (gK (fun v w'=>∃ (qo qm q:Row) (ps ms rs:List Row),v=.tuple #[.agg [.slice qo.A qo.n qo.c,.int .i64 (k:Int),.slice qm.A qm.n qm.c].toArray,.slice q.A q.n q.c]∧LogR 45 34 5 (opsO l) k qo qm ps ms∧aZ 36 4 q.A q.n q.c (jX (kW [] (opsO l)) rs) q.e∧OutR 5 rs (kW [] (opsO l))∧Mem w [] ([qo.e,qm.e,q.e]++(ps.map Row.e++(rs.map Row.e++ms.map Row.e))) w')):=by
 have hlen:l.length=n:=by simpa using hl.rd.len
 have hbd:=hl.rd.bound
 have hkp:0 < k:=by omega
 have hgood:=hl.good hby
 refine aI #[.cell 4 28,.tmp 5] 38 func7 Z results7 ntmps7 Z ?_
 have M0:=Mem.refl w
 refine aE (aA (aQ pM M0 Z Z (fun b1 w1 M1=>(eG Z Z (aB (aC (aE (aA (aR Z Z (wq (pK Z Z ) Z (aL 12 (.int .i64 (k:Int)) (iE hz) (wq (cD [(1,.int _ _)] _ aHo Z Z) Z (aQ pM M1 Z Z (fun b2 w2 M2=>(bB 1 _ fZ M2 Z Z Z Z Z (aO Z) Z (fun w3 M3=>(aB (aC (aE (aE (aA (dK Z Z (wq (cK underlying25 Z) Z (aR Z Z ?_))))))))))))))))))))))))
 have M4:=M3.dummy default
 refine aB (aC (aS (dM (σ:=Nat × Row × List Row) [4,5,6,14,15] (fun (i,qo,ps)=>[(16,.int .i64 (i:Int))]) (fun (i,qo,ps) w'=>(i≤n∧aZ 45 15 qo.A qo.n qo.c ((rU ((opsO l).take i) ps).map OpRow.cells) qo.e∧BytR 5 ps (((opsO l).take i).map OpI.bytes))∧Mem w [] ([(some b1,bc [.slice none 0 0,.int .i64 0,.slice none 0 0] 28),(some b2,bc [.slice qo.A qo.n qo.c,.int .i64 (k:Int),.slice none 0 0] 28),qo.e]++ps.map Row.e) w') (fun (i,qo,ps)=>n - i) (0,fE,[]) (bE Z eB) (⟨⟨by omega,aZ.nil _ _ _,BytR.nil _⟩,M4⟩) ?_)))
 rintro ⟨i,qo,ps⟩ ρ5 w5 ⟨⟨hi,hqo,hpb⟩,hM5⟩
 have hpl:ps.length=((opsO l).take i).length:=by rw [hpb.len,List.length_map]
 have hqn:((rU ((opsO l).take i) ps).map OpRow.cells).length=qo.n:=hqo.1
 rw [List.length_map,vZ hpl,List.length_take,fH] at hqn
 refine aE (aA (cY Z Z Z Z (aB (aC (aE ?_)))))
 refine aW Z (fun h17 => ?_) (fun h17 => ?_)
 ·obtain ⟨x,hx⟩:=cT (xs:=l) (k:=i) hlen (by omega)
  have hxm:=List.mem_of_getElem? hx
  have hxo:=oN hx
  have hP:=hl.each x hxm
  refine aM (aC (aE (aS (aE (aA (wq (bI (i) pL Z Z Z ((hl.rd.mem hM5).below_len (aG OpRow.cells hx)) ((hl.rd.mem hM5).someK (aG OpRow.cells hx))) Z (wq (dN _ iQ (hl.rd.mem hM5) (aG OpRow.cells hx) Z) Z (aQ aId hM5 Z Z (fun b6 w6 M6 => ?_)))))))))
  have M7:Mem _ _ ([_,_,_,_]++_) _:=Mem.front (L:=[_,_,_]) M6
  refine bB 3 _ iQ M7 Z Z Z Z Z (aO Z) Z (fun w8 M8=>(aB (aC (fY [(0,0),(1,1),(2,1),(3,2),(4,2),(5,2),(6,0),(7,2)] mixed M8 Z (by kernel_rfl) (fun w9 M9=>(aX Z Z Z (fun _=>aD 0 gH Z) (bP Z Z Z (aK 1 (.slice _ _ _) jF M9 Z Z Z) (bP Z Z Z (aU 3 iQ M9 Z Z Z) (dX 22 (.agg (dU x.o x.A x.n x.c).toArray) Z (dL [true,false] Z (by kernel_rfl) (eL bDf Z Z (aBu _ x.o x.A x.n x.c (hP.mem M9) (hby x hxm)) ?_)))))))))))
  rintro v10 w10 ⟨p2,rfl,hp2,hM10⟩
  have M10:Mem _ _ ([_,_,_,_,_]++_) _:=Mem.front (L:=[_,_,_,_]) (M9.call0 hM10)
  refine aB (aC ⟨(dQ (bC Z (aK 1 (.slice _ _ _) jF M10 Z Z Z)) dG), ?_⟩)
  refine dL [false] Z (by kernel_rfl) (bW [.agg (List.toArray _)] [dU x.o p2.A p2.n p2.c] Z pL M10 Z Z Z Z (cQ Z) (by decide) (fun b11 w11 M11 => ?_))
  have M12:Mem _ _ ([_,_,_,_,_,_]++_) _:=Mem.front (L:=[_,_,_,_,_]) M11
  refine aB (aC ⟨(dQ (bC Z (aK 1 (.slice _ _ _) jF M12 Z Z Z)) dG), ?_⟩)
  refine dL [true] rfl (by kernel_rfl) (cO 2 [dU x.o p2.A p2.n p2.c] pL M12 rfl rfl rfl rfl rfl hqo rfl (by simp [dU,aF,Go.Bil.one]) (dI.ofMem 5 M12 rfl) (by omega) (fun A13 c13 e13 w13 M13 hR13 => ?_))
  refine aB (aC ⟨dG, ?_⟩)
  refine aX Z Z Z (fun _=>aD 0 gH Z) (dL [] Z (by kernel_rfl) (dB 1 (.slice _ _ _) jF M13 Z Z Z Z Z Z (fun w14 M14 => ?_)))
  refine aB (aC ⟨dG, ?_⟩)
  refine bS (cU (aC (aA (wq (bA Z Z (by omega) (by omega)) Z (aR Z Z (aB ?_))))))
  refine bX (i+1,⟨A13,qo.n+1,c13,e13⟩,ps++[p2]) (bE Z eB) (cA Z (cA Z (cA Z (cA Z (cA Z gL))))) ?_ ?_
  ·exact ⟨⟨by omega,by rw [cB hxo,uM hpl,List.map_append];exact hR13,by rw [cB hxo,List.map_append];exact hpb.add hp2⟩,Mem.pushNew (L:=[_,_,_]) p2 (Mem.keepL (L:=[_,_,_,_,_,_]) [true,true,true,false,true,false] M14)⟩
  ·(show n - (i+1) < n - i;omega)
 ·have hin:i=n:=by omega
  rw [hin,List.take_of_length_le (by rw [fH];omega)] at hqo hpb hpl
  refine cS (dE (dH (eO (aC (aE (aA (aQ aVh hM5 Z Z (fun b15 w15 M15 => ?_))))))))
  have M16:Mem _ _ ([_,_,_,_]++_) _:=Mem.front (L:=[_,_,_]) M15
  have M17:=Mem.dummyL (L:=[_,_,_,_,_]) (Mem.dummyL (L:=[_,_,_,_]) M16 default) default
  refine aQ bIp M17 Z Z (fun b18 w18 M18 => ?_)
  have M19:Mem _ _ ([_,_,_,_,_,_,_]++_) _:=Mem.front (L:=[_,_,_,_,_,_]) M18
  refine dB 6 (.pointer _) aKn M19 Z Z Z Z Z Z (fun w20 M20=>(aB (aC (aE (aA (wq (aK 6 (.pointer _) aKn M20 Z Z Z) Z (wq (aD 0 gH Z) Z (wq (aK 1 (.slice _ _ _) jF M20 Z Z Z) Z (wq (aD 1 nI Z) Z (wq (aK 1 (.int _ _) fQ M20 Z Z Z) Z (wq (dW [] [.pointer _,.pointer _] Z Z) Z ?_)))))))))))
  have M21:Mem _ _ ([_,_,_,_,_,_,_]++(ps.map Row.e)) _:=M20
  refine eL bNe rfl rfl (bLq _ (F.mem M21) (N.mem M21) b15 b2 b18 k hkp ⟨none,0,0,none,(none,default),(none,default)⟩ (dC.new 43 default default) qo (rU (opsO l) ps) hqo (aMv hpb hgood hqo M21 (bH (i:=2) rfl) (fP mD)).each (bGd hpb hgood) (by omega) (M21.ownSeg 1 6) (M21.away 1 6 F (by simp)) (M21.away 1 6 N (by simp)) (bGc (L:=[_,_,_,_,_,_,_]) hpb M21 mD 1 6)) ?_
  rintro v22 w22 ⟨r2,qm,q,ms,rs,rfl,hr2,hqm,hmb,hq,hoR,hM22⟩
  have M22:Mem _ _ ([_,_,_,_,_,_,_,_,_]++_) _:=Mem.front (L:=[_,_,_,_,_,_,_]) (Mem.segU (L:=[_,_,_,_,_,_,_]) (B:=[_,_,_,_,_,_]) (A:=[_,_]) 1 6 M21 (Nat.le_of_ble_eq_true rfl) hM22)
  rw [aGr hpl] at hr2 hmb hq hoR
  refine eG Z Z (aB (aC (aE (aA (wq (aU 1 fZ M22 Z Z Z) Z (dK Z Z (bB 0 _ fZ M22 Z Z Z Z Z (aO Z) Z (fun w23 M23=>(eG Z Z (aB (aC (aP (tO (v2:=.slice _ _ _) 0 fZ M23 Z Z Z Z ?_)))))))))))))
  exact ⟨qo,qm,q,ps,ms,rs,Z,⟨hqo,hpb,hgood,hqm,by rw [show (opsO l).length=qo.n by rw [fH];omega];exact hmb⟩,hq,hoR,Mem.keepL (L:=[_,_,_,_,_,_,_,_,_]) [false,false,true,false,false,false,false,true,true] M23⟩
theorem bIh (w:World) (b xb wb gb:Nat) (A:Option Addr) (n c k:Nat) (B:Option Addr) (m d:Nat) (rs:List Row) (bs:List (List Int)) (hB:BytRd w B m rs bs) (r:StV) (vs:List Body) (hW:dC 43 r vs) (g:Int) (j:Nat) (hj:j < m) (hO:Own [(some xb,bc [.slice A n c,.int .i64 (k:Int),.slice B m d] 28),(some b,bc [.slice r.A r.n r.c,.map r.p] 73),r.er,r.em,(some wb,bc [.pointer (some ⟨b,0,none⟩)] 61),(some gb,bc [.int .i64 (g)] 3)] w) (hdB:0 < m→∀ q off,B=some ⟨q,off,none⟩→q∉bZ [(some xb,bc [.slice A n c,.int .i64 (k:Int),.slice B m d] 28),(some b,bc [.slice r.A r.n r.c,.map r.p] 73),r.er,r.em,(some wb,bc [.pointer (some ⟨b,0,none⟩)] 61),(some gb,bc [.int .i64 (g)] 3)]) (wQ:rV rs (bZ [(some xb,bc [.slice A n c,.int .i64 (k:Int),.slice B m d] 28),(some b,bc [.slice r.A r.n r.c,.map r.p] 73),r.er,r.em,(some wb,bc [.pointer (some ⟨b,0,none⟩)] 61),(some gb,bc [.int .i64 (g)] 3)])) :
  Calls prog 29 #[.int .i64 (j:Int),.pointer (some ⟨gb,0,none⟩),.pointer (some ⟨wb,0,none⟩),.pointer (some ⟨xb,0,none⟩)] w (gK (fun v w'=>v=.tuple #[]∧Mem w (bZ [(some xb,bc [.slice A n c,.int .i64 (k:Int),.slice B m d] 28),(some b,bc [.slice r.A r.n r.c,.map r.p] 73),r.er,r.em,(some wb,bc [.pointer (some ⟨b,0,none⟩)] 61),(some gb,bc [.int .i64 (g)] 3)]) [(some xb,bc [.slice A n c,.int .i64 (k:Int),.slice B m d] 28),(some b,bc [.slice r.A r.n r.c,.map r.p] 73),r.er,r.em,(some wb,bc [.pointer (some ⟨b,0,none⟩)] 61),(some gb,bc [.int .i64 (aHm g bs j (kN vs))] 3)] w')):=by
 obtain ⟨rj,bj,hrj,hbj,hhj,hrd,hbl,hcp⟩:=hB.at hj
 refine aI #[] 19 func29 Z results29 ntmps29 Z ?_
 have M0:=hO.mem
 refine aE (fY [(0,1),(1,0),(2,0),(3,1),(5,0),(6,1),(7,0),(8,1),(9,1),(4,2),(10,2),(11,0),(12,0)] mixed M0 Z (by kernel_rfl) (fun w1 M1=>(bP Z Z Z (aK 5 (.int _ _) fQ M1 Z Z Z) (aX Z Z Z (fun _=>cE (.bool (decide _)) Z Z Z) (aX Z Z Z (fun _=>aH (.bool (decide _)) Z) ?_)))))
 refine yH 7 Z (fun g7 => ?_) (fun g7 => ?_)
 ·refine bP Z Z Z (aK 4 (.pointer _) aKn M1 Z Z Z) (aX Z Z Z (fun _=>aD 2 kJ Z) (bP Z Z Z (aK 0 (.slice _ _ _) iZ M1 Z Z Z) (eD Z Z Z (bP Z Z Z (bI (j) aAf Z Z Z ((hB.rd.memY M1 hdB).below_len (hhj)) ((hB.rd.memY M1 hdB).someK (hhj))) (bP Z Z Z (iC (.slice _ _ _) lR (hB.rd.memY M1 hdB) (hhj) Z) (dL [false,false,false,true,true] Z (by kernel_rfl) (eL aVt Z Z (nP _ _ r _ hW (M1.ownSeg 1 3)) ?_)))))))
  rintro v2 w2 ⟨p,rfl,hp,hM2⟩
  have M2:Mem _ _ [_,_,_,_,_,_,_] _:=M1.seg 1 3 hM2
  refine aB (aC ⟨(dQ (bC Z (iC (.slice _ _ _) lR (hB.rd.memY M2 hdB) (hhj) Z)) (dQ (bC Z (bI (j) aAf Z Z Z ((hB.rd.memY M2 hdB).below_len (hhj)) ((hB.rd.memY M2 hdB).someK (hhj)))) (dQ (bC Z (aK 0 (.slice _ _ _) iZ M2 Z Z Z)) dG))), ?_⟩)
  refine dL [true,true,true] Z (by kernel_rfl) (dO bUg Z Z M2 (aOp _ p.A p.n p.c (kN vs) (hp.rd M2 (bH (i:=6) Z)) (aJw _) rj.A rj.n rj.c bj (hrd.memY M2 (wQ rj (List.mem_of_getElem? hrj))) hbl) (fun w3 M3 => ?_))
  refine aB (aC ⟨dG, ?_⟩)
  refine aX Z Z Z (fun _=>pQ Z) (aX Z Z Z (fun _=>bQ true (.bool (decide _)) Z Z) (bS (aC ?_)))
  refine aW Z (fun h17 => ?_) (fun h17 => ?_)
  ·refine aA (aR Z Z (dB 5 (.int _ _) fQ M3 Z Z Z Z Z Z (fun w4 M4=>(aB (kO ?_)))))
   rw [show aHm g bs j (kN vs)=(j:Int) from if_pos ⟨g7,fun e=>h17 (by rw [hbj] at e;exact (Option.some.inj e).symm)⟩]
   exact ⟨Z,M4.keep [true,true,true,true,true,true,false]⟩
  ·refine aM (kO ?_)
   rw [show aHm g bs j (kN vs)=g from if_neg (fun h=>h.2 (by rw [hbj,Decidable.not_not.1 h17]))]
   exact ⟨Z,M3.keep [true,true,true,true,true,true,false]⟩
 ·refine rW Z Z Z (yG Z Z Z (rW Z Z Z (yG Z Z Z (rW Z Z Z (rW Z Z Z (dL [false,false,false,true,true] Z (by kernel_rfl) (aN Z Z ?_)))))))
  refine aB (aC ⟨(dQ (.inr ⟨Z,Z⟩) (dQ (.inr ⟨Z,Z⟩) (dQ (.inr ⟨Z,Z⟩) dG))), ?_⟩)
  refine dL [true,true,true] Z (by kernel_rfl) (aN Z Z ?_)
  refine aB (aC ⟨dG, ?_⟩)
  refine yG Z Z Z (aX Z Z Z (fun _=>bQ false (.bool false) Z Z) (bS (aC (cF Z (aM (kO ?_))))))
  rw [show aHm g bs j (kN vs)=g from if_neg (fun h=>g7 h.1)]
  exact ⟨Z,M1⟩
theorem bLr (w:World) (F:Rd w 2 (some ⟨0,0,none⟩) 1 [[.int .u32 73856093,.int .u32 19349663]]) (N:Rd w 4 (some ⟨3,0,none⟩) 1 [eF iY]) (b xb wb gb k:Nat) (hkp:0 < k) (A:Option Addr) (n c:Nat) (l:List OpRow) (hl:OpsRd w A n l) (B:Option Addr) (m d:Nat) (rs:List Row) (bs:List (List Int)) (hB:BytRd w B m rs bs) (r:StV) (hW:dC 43 r []) (hby:∀ x∈l,x.n≤1000000) (hn:n≤1000000) (hm:n / k≤m) (hO:Own [(some xb,bc [.slice A n c,.int .i64 (k:Int),.slice B m d] 28),(some b,bc [.slice r.A r.n r.c,.map r.p] 73),r.er,r.em,(some wb,bc [.pointer (some ⟨b,0,none⟩)] 61),(some gb,bc [.int .i64 (-1)] 3)] w) (hdF:0 < 1→∀ q off,(some ⟨0,0,none⟩:Option Addr)=some ⟨q,off,none⟩→q∉bZ [(some xb,bc [.slice A n c,.int .i64 (k:Int),.slice B m d] 28),(some b,bc [.slice r.A r.n r.c,.map r.p] 73),r.er,r.em,(some wb,bc [.pointer (some ⟨b,0,none⟩)] 61),(some gb,bc [.int .i64 (-1)] 3)]) (hdN:0 < 1→∀ q off,(some ⟨3,0,none⟩:Option Addr)=some ⟨q,off,none⟩→q∉bZ [(some xb,bc [.slice A n c,.int .i64 (k:Int),.slice B m d] 28),(some b,bc [.slice r.A r.n r.c,.map r.p] 73),r.er,r.em,(some wb,bc [.pointer (some ⟨b,0,none⟩)] 61),(some gb,bc [.int .i64 (-1)] 3)]) (hdB:0 < m→∀ q off,B=some ⟨q,off,none⟩→q∉bZ [(some xb,bc [.slice A n c,.int .i64 (k:Int),.slice B m d] 28),(some b,bc [.slice r.A r.n r.c,.map r.p] 73),r.er,r.em,(some wb,bc [.pointer (some ⟨b,0,none⟩)] 61),(some gb,bc [.int .i64 (-1)] 3)]) (wQ:rV rs (bZ [(some xb,bc [.slice A n c,.int .i64 (k:Int),.slice B m d] 28),(some b,bc [.slice r.A r.n r.c,.map r.p] 73),r.er,r.em,(some wb,bc [.pointer (some ⟨b,0,none⟩)] 61),(some gb,bc [.int .i64 (-1)] 3)])) (hdl:0 < n→∀ q off,A=some ⟨q,off,none⟩→q∉bZ [(some xb,bc [.slice A n c,.int .i64 (k:Int),.slice B m d] 28),(some b,bc [.slice r.A r.n r.c,.map r.p] 73),r.er,r.em,(some wb,bc [.pointer (some ⟨b,0,none⟩)] 61),(some gb,bc [.int .i64 (-1)] 3)]) (hdo:vF l (bZ [(some xb,bc [.slice A n c,.int .i64 (k:Int),.slice B m d] 28),(some b,bc [.slice r.A r.n r.c,.map r.p] 73),r.er,r.em,(some wb,bc [.pointer (some ⟨b,0,none⟩)] 61),(some gb,bc [.int .i64 (-1)] 3)])) :
  Calls prog 20 #[.pointer (some ⟨b,0,none⟩),.slice A n c,.int .i64 (k:Int),(.func (.func 29) #[] #[.pointer (some ⟨gb,0,none⟩),.pointer (some ⟨wb,0,none⟩),.pointer (some ⟨xb,0,none⟩)]:Value)] w (gK (fun v w'=>∃ (r':StV) (q:Row),v=.slice q.A q.n q.c∧dC 43 r' (eX [] (opsO l))∧Mem w (bZ [(some xb,bc [.slice A n c,.int .i64 (k:Int),.slice B m d] 28),(some b,bc [.slice r.A r.n r.c,.map r.p] 73),r.er,r.em,(some wb,bc [.pointer (some ⟨b,0,none⟩)] 61),(some gb,bc [.int .i64 (-1)] 3)]) [(some xb,bc [.slice A n c,.int .i64 (k:Int),.slice B m d] 28),(some b,bc [.slice r'.A r'.n r'.c,.map r'.p] 73),r'.er,r'.em,(some wb,bc [.pointer (some ⟨b,0,none⟩)] 61),(some gb,bc [.int .i64 (jC (opsO l) k bs (n / k))] 3)] w')):=by
 have hlen:l.length=n:=by simpa using hl.rd.len
 have hbd:=hl.rd.bound
 refine aI #[.tmp 8] 37 func20 Z results20 ntmps20 Z ?_
 have M0:=hO.mem
 refine aE (aA (eG Z Z (aB (aC (aE (aA (eG Z Z ?_)))))))
 have M1:=M0.dummy default
 refine aB (aC (aE (aE (aA (dK Z Z (wq (cK underlying25 Z) Z (aR Z Z (aB (aC (aS (dM (σ:=Nat × StV × Row × List Row) [0,2,3,8,12,13] (fun (i,r',q,os)=>[(9,.slice q.A q.n q.c),(14,.int .i64 (i:Int))]) (fun (i,r',q,os) w'=>(i≤n∧dC 43 r' (eX [] ((opsO l).take i))∧aZ 36 4 q.A q.n q.c (jX ((kW [] ((opsO l).take i))) os) q.e∧OutR 5 os (kW [] ((opsO l).take i)))∧Mem w (bZ [(some xb,bc [.slice A n c,.int .i64 (k:Int),.slice B m d] 28),(some b,bc [.slice r.A r.n r.c,.map r.p] 73),r.er,r.em,(some wb,bc [.pointer (some ⟨b,0,none⟩)] 61),(some gb,bc [.int .i64 (-1)] 3)]) ([(some xb,bc [.slice A n c,.int .i64 (k:Int),.slice B m d] 28),(some b,bc [.slice r'.A r'.n r'.c,.map r'.p] 73),r'.er,r'.em,(some wb,bc [.pointer (some ⟨b,0,none⟩)] 61),(some gb,bc [.int .i64 (jC (opsO l) k bs (i / k))] 3),q.e]++os.map Row.e) w') (fun (i,r',q,os)=>n - i) (0,r,fE,[]) (bE Z (bE Z eB)) (⟨⟨by omega,hW,aZ.nil _ _ _,OutR.nil _⟩,by rw [Nat.zero_div];exact M1⟩) ?_)))))))))))
 rintro ⟨i,r',q,os⟩ ρ2 w2 ⟨⟨hi,hr,hq,hoR⟩,hM2⟩
 have hqn:(jX (kW [] ((opsO l).take i)) os).length=q.n:=hq.1
 rw [mG hoR.len,mH,List.length_take,fH] at hqn
 refine aE (aA (cY Z Z Z Z (aB (aC (aE ?_)))))
 refine aW Z (fun h15 => ?_) (fun h15 => ?_)
 ·obtain ⟨x,hx⟩:=cT (xs:=l) (k:=i) hlen (by omega)
  have hxm:=List.mem_of_getElem? hx
  have hxo:=oN hx
  have hP:=hl.each x hxm
  refine aM (aC (aE (aS (aE (aA (aR Z Z (wq (bI (i) pL Z Z Z ((hl.rd.memY hM2 hdl).below_len (aG OpRow.cells hx)) ((hl.rd.memY hM2 hdl).someK (aG OpRow.cells hx))) Z (wq (dN _ iQ (hl.rd.memY hM2 hdl) (aG OpRow.cells hx) Z) Z (aQ aId hM2 Z Z (fun b3 w3 M3 => ?_))))))))))
  have M4:Mem _ _ ([_,_,_,_,_,_,_,_]++_) _:=Mem.front (L:=[_,_,_,_,_,_,_]) M3
  refine bJ Z Z (bB 7 _ iQ M4 Z Z Z Z Z (aO Z) Z (fun w5 M5=>(aB (aC (aE (aA (dK Z Z (wq (aH (.pointer _) Z) Z (wq (aU 7 iQ M5 Z Z Z) Z (aL 21 (.agg (dU x.o x.A x.n x.c).toArray) Z (eL aVu Z Z (wD _ (F.memY M5 hdF) (N.memY M5 hdN) _ r' _ hr (M5.ownSeg 1 3) x.o x.A x.n x.c (hP.memY M5 (hdo x hxm)) (hby x hxm) (M5.away 1 3 hP.rd (hdo x hxm)) (M5.away 1 3 F hdF) (M5.away 1 3 N hdN)) ?_)))))))))))
  rintro v6 w6 ⟨r2,p2,rfl,hr2,hp2,hM6⟩
  have M6:Mem _ _ ([_,_,_,_,_,_,_,_,_]++_) _:=Mem.front (L:=[_,_,_,_,_,_,_,_]) (M5.seg 1 3 hM6)
  refine bW [.agg (List.toArray _)] [cC (hJ (eX [] ((opsO l).take i)) x.o).2 p2] Z qU M6 Z Z Z Z (cQ Z) (by decide) (fun b7 w7 M7 => ?_)
  have M8:Mem _ _ ([_,_,_,_,_,_,_,_,_,_]++_) _:=Mem.front (L:=[_,_,_,_,_,_,_,_,_]) M7
  refine cO 6 [cC (hJ (eX [] ((opsO l).take i)) x.o).2 p2] qU M8 rfl rfl rfl rfl rfl hq rfl (by simp [cC,Go.Bil.one]) (dI.ofMem 9 M8 rfl) (by omega) (fun A9 c9 e9 w9 M9 hR9=>(eG rfl rfl (aB (aC (aE (aA (aR rfl rfl (wq (bA rfl rfl (by omega) (by omega)) rfl (aL 26 (.int .i64 ((i+1:Nat):Int)) (iE (by omega)) (aR rfl rfl (wq (iM rfl rfl (by omega)) rfl (aL 28 (.int .i64 (((i+1) % k:Nat):Int)) (iE (aAl rfl rfl)) (cY rfl rfl rfl rfl (aB (aC ?_)))))))))))))))
  refine aW Z (fun h29 => ?_) (fun h29 => ?_)
  ·have hz:=bSm h29
   have hjm:i / k < m:=by have h1:=(aBn (l:=opsO l) hkp hz).2;have h2:(i+1) / k≤n / k:=Nat.div_le_div_right (by omega);omega
   refine aA (wq (aH (.func _ _ _) Z) Z (aR Z Z (aR Z Z (wq (gD Z Z (by omega)) Z (aL 33 (.int .i64 ((i / k:Nat):Int)) (iE (bLk Z (by omega))) (eL bUf Z Z (bIh _ b xb wb gb A n c k B m d rs bs (hB.memY M9 hdB wQ) r2 _ hr2 (jC (opsO l) k bs (i / k)) (i / k) hjm (M9.ownSeg 0 6) (M9.away 0 6 hB.rd hdB) (hB.seg M9 wQ 0 6)) ?_))))))
   rintro v10 w10 ⟨rfl,hM10⟩
   have M10:Mem _ _ ([_,_,_,_,_,_,_,_,_,_]++_) _:=Mem.segE (L:=[_,_,_,_,_,_,_,_,_,_]) 0 6 M9 (Nat.le_of_ble_eq_true rfl) hM10
   refine aB (cU (aC (aA (wq (bA Z Z (by omega) (by omega)) Z (aR Z Z (aB ?_))))))
   refine bX (i+1,r2,⟨A9,q.n+1,c9,e9⟩,os++[p2]) (bE Z (bE Z eB)) (cA Z (cA Z (cA Z (cA Z (cA Z (cA Z gL)))))) ?_ ?_
   ·exact ⟨⟨by omega,by rw [mY hxo];exact hr2,by rw [eT hxo,jJ hoR.len];exact hR9,by rw [eT hxo];exact hoR.add hp2⟩,by rw [bBr hkp hz,mY hxo];exact Mem.pushNew (L:=[_,_,_,_,_,_,_]) p2 (Mem.keepL (L:=[_,_,_,_,_,_,_,_,_,_]) [true,true,true,true,true,true,true,false,true,false] M10)⟩
   ·(show n - (i+1) < n - i;omega)
  ·have hz:=bSn h29
   refine aM (cU (aC (aA (wq (bA Z Z (by omega) (by omega)) Z (aR Z Z (aB ?_))))))
   refine bX (i+1,r2,⟨A9,q.n+1,c9,e9⟩,os++[p2]) (bE Z (bE Z eB)) (cA Z (cA Z (cA Z (cA Z (cA Z (cA Z gL)))))) ?_ ?_
   ·exact ⟨⟨by omega,by rw [mY hxo];exact hr2,by rw [eT hxo,jJ hoR.len];exact hR9,by rw [eT hxo];exact hoR.add hp2⟩,by rw [aGg hkp hz];exact Mem.pushNew (L:=[_,_,_,_,_,_,_]) p2 (Mem.keepL (L:=[_,_,_,_,_,_,_,_,_,_]) [true,true,true,true,true,true,true,false,true,false] M9)⟩
   ·(show n - (i+1) < n - i;omega)
 ·have hin:i=n:=by omega
  rw [hin] at hM2
  rw [hin,List.take_of_length_le (by rw [fH];omega)] at hr hq hoR
  refine cS (dE (dH (eO (aC (aE (aA (dK Z Z (eG Z Z (aB (aC (aP (cI (.slice _ _ _) Z ?_))))))))))))
  exact ⟨r',q,Z,hr,(Mem.noT hM2).keep [true,true,true,true,true,true,false]⟩
theorem bMg (w:World) (F:Rd w 2 (some ⟨0,0,none⟩) 1 [[.int .u32 73856093,.int .u32 19349663]]) (N:Rd w 4 (some ⟨3,0,none⟩) 1 [eF iY]) (A:Option Addr) (n c:Nat) (l:List OpRow) (hl:OpsRd w A n l) (hby:∀ x∈l,x.n≤1000000) (hn:n≤1000000) (B:Option Addr) (m d:Nat) (rs:List Row) (bs:List (List Int)) (hB:BytRd w B m rs bs) (z:Int) (hz:z < 1) :
  Calls prog 16 #[.agg [.slice A n c,.int .i64 z,.slice B m d].toArray] w (Rb w (.tuple #[.int .i64 0,.int .i64 1])):=by
 have hlen:l.length=n:=by simpa using hl.rd.len
 have hbd:=hl.rd.bound
 refine aI #[.tmp 2,.tmp 3] 35 func16 Z results16 ntmps16 Z ?_
 have M0:=Mem.refl w
 refine aE (aA (bN (.agg (.mk _)) M0 Z Z Z (fun b1 w1 M1=>(bJ Z Z (bJ Z Z (aB (aC (aE (aE (fY [(0,0),(1,1),(2,0),(3,0),(4,0),(5,1),(6,0),(7,0),(8,1),(9,0),(10,0),(11,1),(12,0),(13,0),(14,0)] mixed M1 Z (by kernel_rfl) (fun w2 M2=>(aX Z Z Z (fun _=>aD 1 nI Z) (bP Z Z Z (aK 0 (.int _ _) fQ M2 Z Z Z) (aX Z Z Z (fun _=>cE (.bool (decide _)) Z Z Z) (dX 8 (.bool true) (bT (by omega)).symm (aX Z Z Z (fun _=>aH (.bool true) Z) (yG Z Z Z (rW Z Z Z ?_))))))))))))))))))
 refine yG Z Z Z (yG Z Z Z (rW Z Z Z (yG Z Z Z (yG Z Z Z (rW Z Z Z (yG Z Z Z (yG Z Z Z (aX Z Z Z (fun _=>bQ true (.bool true) Z Z) (bS (aC (cG Z (aE (aA (bJ Z Z (bJ Z Z (aB (aC (aP (cN ?_)))))))))))))))))))
 refine gA (.int _ _) (.int _ _) Z Z ?_
 exact ⟨Z,M2.below⟩
theorem bTf (w:World) (F:Rd w 2 (some ⟨0,0,none⟩) 1 [[.int .u32 73856093,.int .u32 19349663]]) (N:Rd w 4 (some ⟨3,0,none⟩) 1 [eF iY]) (A:Option Addr) (n c:Nat) (l:List OpRow) (hl:OpsRd w A n l) (hby:∀ x∈l,x.n≤1000000) (hn:n≤1000000) (B:Option Addr) (m d:Nat) (rs:List Row) (bs:List (List Int)) (hB:BytRd w B m rs bs) (k:Nat) (hkp:0 < k) (hm:m=n / k) :
  Calls prog 16 #[.agg [.slice A n c,.int .i64 (k:Int),.slice B m d].toArray] w (Rb w (.tuple #[.int .i64 (aUz (opsO l) k bs).1,.int .i64 (aUz (opsO l) k bs).2])):=by
 have hlen:l.length=n:=by simpa using hl.rd.len
 have hbd:=hl.rd.bound
 refine aI #[.tmp 2,.tmp 3] 35 func16 Z results16 ntmps16 Z ?_
 have M0:=Mem.refl w
 refine aE (aA (bN (.agg (.mk _)) M0 Z Z Z (fun b1 w1 M1=>(bJ Z Z (bJ Z Z (aB (aC (aE (aE (fY [(0,0),(1,1),(2,0),(3,0),(4,0),(5,1),(6,0),(7,0),(8,1),(9,0),(10,0),(11,1),(12,0),(13,0),(14,0)] mixed M1 Z (by kernel_rfl) (fun w2 M2=>(aX Z Z Z (fun _=>aD 1 nI Z) (bP Z Z Z (aK 0 (.int _ _) fQ M2 Z Z Z) (aX Z Z Z (fun _=>cE (.bool (decide _)) Z Z Z) (dX 8 (.bool false) (bF (by omega)).symm (aX Z Z Z (fun _=>aH (.bool false) Z) (aX Z Z Z (fun _=>aD 2 kJ Z) ?_)))))))))))))))))
 refine bP Z Z Z (aK 0 (.slice _ _ _) iZ M2 Z Z Z) (aX Z Z Z (fun _=>cK underlying26 Z) (aX Z Z Z (fun _=>aD 0 gH Z) (bP Z Z Z (aK 0 (.slice _ _ _) jF M2 Z Z Z) (aX Z Z Z (fun _=>cK underlying25 Z) (aX Z Z Z (fun _=>aD 1 nI Z) (bP Z Z Z (aK 0 (.int _ _) fQ M2 Z Z Z) (aX Z Z Z (fun _=>gD Z Z (by omega)) (dX 18 (.int .i64 ((n / k:Nat):Int)) (iE (bLk Z (by omega))) (aX Z Z Z (fun _=>cE (.bool (decide _)) Z Z Z) (dX 19 (.bool false) (bF (fun h=>h (by rw [hm]))).symm ?_))))))))))
 refine aX Z Z Z (fun _=>bQ false (.bool false) Z Z) (bS (aC (cF Z (aM (aC (aE (aA (aQ aVh M2 Z Z (fun b3 w3 M3 => ?_)))))))))
 have M4:=(M3.dummy default).dummy default
 refine aQ bIp M4 rfl rfl (fun b5 w5 M5=>(aQ bOk M5 rfl rfl (fun b6 w6 M6=>(dB 4 (.pointer _) aKn M6 rfl rfl rfl rfl rfl rfl (fun w7 M7=>(dB 5 (.int _ _) fQ M7 rfl rfl rfl rfl rfl rfl (fun w8 M8=>(aB (aC (aE (aA (wq (aK 4 (.pointer _) aKn M8 rfl rfl rfl) rfl (wq (aD 0 gH rfl) rfl (wq (aK 0 (.slice _ _ _) jF M8 rfl rfl rfl) rfl (wq (aD 1 nI rfl) rfl (wq (aK 0 (.int _ _) fQ M8 rfl rfl rfl) rfl (wq (dW [] [.pointer _,.pointer _,.pointer _] rfl rfl) rfl (eL bNe rfl rfl (bLr _ (F.mem M8) (N.mem M8) b3 b1 b5 b6 k hkp A n c l (hl.mem M8) B m d rs bs (hB.mem M8) ⟨none,0,0,none,(none,default),(none,default)⟩ (dC.new 43 default default) hby hn (by rw [hm];exact Nat.le_refl _) (M8.ownSeg 0 6) (M8.away 0 6 F (by simp)) (M8.away 0 6 N (by simp)) (M8.away 0 6 hB.rd (by simp)) (hB.seg M8 (bCi rs) 0 6) (M8.away 0 6 hl.rd (by simp)) (fun x hx=>M8.away 0 6 (hl.each x hx).rd (by simp))) ?_))))))))))))))))))
 rintro v9 w9 ⟨r2,q,rfl,hr2,hM9⟩
 have M9:Mem _ _ [_,_,_,_,_,_] _:=M8.seg 0 6 hM9
 have hbm:bs.length=n / k:=by rw [hB.n_eq.1,hm]
 refine aB (aC (aE (aE (aA (wq (aK 5 (.int _ _) fQ M9 Z Z Z) Z (cY Z Z Z Z (aB (aC ?_))))))))
 refine aW Z (fun h30 => ?_) (fun h30 => ?_)
 ·refine aE (aA (wq (aK 5 (.int _ _) fQ M9 Z Z Z) Z (bJ Z Z (bJ Z Z (aB (aC (aP (cN (gA (.int _ _) (.int _ _) Z Z ?_)))))))))
  exact ⟨by unfold aUz;rw [hbm,if_pos h30],M9.below⟩
 ·refine aM (aC (aE (aA (wq (aD 2 kJ Z) Z (wq (aK 0 (.slice _ _ _) iZ M9 Z Z Z) Z (wq (cK underlying26 Z) Z (bJ Z Z (bJ Z Z (aB (aC (aP (gA (.int _ _) (.int _ _) Z Z ?_))))))))))))
  exact ⟨by unfold aUz;rw [hbm,if_neg h30,← hm],M9.below⟩
theorem bHk (w:World) (F:Rd w 2 (some ⟨0,0,none⟩) 1 [[.int .u32 73856093,.int .u32 19349663]]) (N:Rd w 4 (some ⟨3,0,none⟩) 1 [eF iY]) (A:Option Addr) (n c:Nat) (l:List OpRow) (hl:OpsRd w A n l) (hcap:n≤c) (hby:∀ x∈l,x.n≤1000000) (hn:n≤1000000) (B:Option Addr) (m d:Nat) (rs:List Row) (bs:List (List Int)) (hB:BytRd w B m rs bs) (k:Nat) (z:Int) (hz:z < 0∨(n:Int) < z) :
  Calls prog 17 #[.agg [.slice A n c,.int .i64 (k:Int),.slice B m d].toArray,.int .i64 z] w (Rb w (.tuple #[.pointer none,.int .i64 1])):=by
 have hlen:l.length=n:=by simpa using hl.rd.len
 have hbd:=hl.rd.bound
 refine aI #[.tmp 4,.tmp 5] 43 func17 Z results17 ntmps17 Z ?_
 have M0:=Mem.refl w
 refine aE (aA (bN (.agg (.mk _)) M0 Z Z Z (fun b1 w1 M1=>(wq (aJ (.pointer _) Z) Z (bJ Z Z (aB (aC (aE (aE (aA (aR Z Z (cY Z Z Z Z (wq (aH (.bool (decide _)) Z) Z ?_)))))))))))))
 refine dT 10 Z (fun g10 => ?_) (fun g10 => ?_)
 ·refine aN Z Z (aN Z Z (aN Z Z (aN Z Z (aN Z Z (wq (bQ true (.bool true) Z Z) Z (aB (aC (cG Z (aE (aA (wq (aJ (.pointer _) Z) Z (bJ Z Z (aB (aC (aP (cN (gA (.pointer _) (.int _ _) Z Z ?_)))))))))))))))))
  exact ⟨Z,M1.below⟩
 ·refine aR Z Z (wq (aD 0 gH Z) Z (wq (aK 0 (.slice _ _ _) jF M1 Z Z Z) Z (wq (cK underlying25 Z) Z (cY Z Z Z Z (kT 15 Z (by omega) (wq (bQ false (.bool true) Z Z) Z (aB (aC (cG Z (aE (aA (wq (aJ (.pointer _) Z) Z (bJ Z Z (aB (aC (aP (cN (gA (.pointer _) (.int _ _) Z Z ?_))))))))))))))))))
  exact ⟨Z,M1.below⟩
theorem aXl (w:World) (F:Rd w 2 (some ⟨0,0,none⟩) 1 [[.int .u32 73856093,.int .u32 19349663]]) (N:Rd w 4 (some ⟨3,0,none⟩) 1 [eF iY]) (A:Option Addr) (n c:Nat) (l:List OpRow) (hl:OpsRd w A n l) (hcap:n≤c) (hby:∀ x∈l,x.n≤1000000) (hn:n≤1000000) (B:Option Addr) (m d:Nat) (rs:List Row) (bs:List (List Int)) (hB:BytRd w B m rs bs) (hlb:∀ b∈bs,b.length≤1000000) (k:Nat) (hkp:0 < k) (hm:n / k≤m) (nn:Nat) (hnn:nn≤n) :
  Calls prog 17 #[.agg [.slice A n c,.int .i64 (k:Int),.slice B m d].toArray,.int .i64 (nn:Int)] w (gK (fun v w'=>∃ (b:Nat) (r:StV),v=.tuple #[.pointer (some ⟨b,0,none⟩),.int .i64 0]∧dC 43 r (aHf (opsO l) k bs nn)∧Mem w [] [(some b,bc [.slice r.A r.n r.c,.map r.p] 73),r.er,r.em] w')):=by
 have hlen:l.length=n:=by simpa using hl.rd.len
 have hbd:=hl.rd.bound
 obtain ⟨a,ha⟩:∃ a,a=nn / k:=⟨_,rfl⟩
 have haN:a≤nn:=by rw [ha];exact Nat.div_le_self nn k
 have hak:a*k≤nn:=by rw [ha];exact Nat.div_mul_le_self nn k
 have ham:a≤m:=by rw [ha];exact Nat.le_trans (Nat.div_le_div_right hnn) hm
 have haki:(a:Int)*(k:Int)=((a*k:Nat):Int):=(Int.natCast_mul a k).symm
 have hS:=hl.sub (a*k) nn hak hnn hcap
 refine aI #[.tmp 4,.tmp 5] 43 func17 Z results17 ntmps17 Z ?_
 have M0:=Mem.refl w
 refine aE (aA (bN (.agg (.mk _)) M0 Z Z Z (fun b1 w1 M1=>(wq (aJ (.pointer _) Z) Z (bJ Z Z (aB (aC (aE (aE (aA (aR Z Z (cY Z Z Z Z (oZ 9 Z (by omega) (wq (aH (.bool false) Z) Z (aR Z Z (wq (aD 0 gH Z) Z (wq (aK 0 (.slice _ _ _) jF M1 Z Z Z) Z (wq (cK underlying25 Z) Z (cY Z Z Z Z (oZ 15 Z (by omega) (wq (bQ false (.bool false) Z Z) Z ?_)))))))))))))))))))))
 refine aB (aC (cF Z (aM (aC (aE (fY [(1,0),(2,0),(3,1),(4,0),(0,2),(5,0),(6,0)] mixed M1 Z (by kernel_rfl) (fun w2 M2=>(eD Z Z Z (aX Z Z Z (fun _=>aD 1 nI Z) (bP Z Z Z (aK 0 (.int _ _) fQ M2 Z Z Z) (aX Z Z Z (fun _=>gD Z Z (by omega)) (dX 21 (.int .i64 (a:Int)) (iE (bLk ha (by omega))) (dL [false] Z (by kernel_rfl) (aQ aVh M2 Z Z (fun b3 w3 M3 => ?_)))))))))))))))
 refine aB (aC ⟨(dQ (bC Z (aK 0 (.int _ _) fQ M3 Z Z Z)) dG), ?_⟩)
 have M4:=(M3.dummy default).dummy default
 refine aX Z Z Z (fun _=>aJ (.pointer _) Z) (nF Z Z Z (bS (aC (aE (aE (aA (aR Z Z (cY Z Z Z Z (aB (aC ?_))))))))))
 refine aW Z (fun h23 => ?_) (fun h23 => ?_)
 ·have ha0:0 < a:=by omega
  obtain ⟨rj,bj,hrj,hbj,hhj,hrd,hbl,hcp⟩:=hB.at (j:=a - 1) (by omega)
  have hbjl:bj.length=rj.n:=by simpa using hrd.len
  have hbj6:=hlb bj (List.mem_of_getElem? hbj)
  refine aA (wq (aH (.pointer _) rfl) rfl (wq (aD 2 kJ rfl) rfl (wq (aK 0 (.slice _ _ _) iZ M4 rfl rfl rfl) rfl (aR rfl rfl (wq (gJ rfl rfl (by omega) (by omega)) rfl (aL 28 (.int .i64 ((a - 1:Nat):Int)) (iE (by omega)) (wq (bI ((a - 1)) aAf rfl rfl rfl ((hB.rd.mem M4).below_len (hhj)) ((hB.rd.mem M4).someK (hhj))) rfl (wq (iC (.slice _ _ _) lR (hB.rd.mem M4) (hhj) rfl) rfl (eL bNh rfl rfl (xI _ _ ⟨none,0,0,none,(none,default),(none,default)⟩ _ (dC.new 43 default default) (M4.ownSeg 1 3) rj.A rj.n rj.c bj (hrd.mem M4) hbl hcp (by omega) (M4.away 1 3 hrd (by simp))) ?_)))))))))
  rintro v5 w5 ⟨r1,rfl,hr1,hM5⟩
  have M5:Mem _ _ [_,_,_,_] _:=M4.seg 1 3 hM5
  refine aB (aC (aE (aA (wq (aH (.pointer _) rfl) rfl (wq (aD 0 gH rfl) rfl (wq (aK 0 (.slice _ _ _) jF M5 rfl rfl rfl) rfl (aR rfl rfl (wq (aD 1 nI rfl) rfl (wq (aK 0 (.int _ _) fQ M5 rfl rfl rfl) rfl (wq (fF rfl rfl (by rw [haki];omega) (by rw [haki];omega)) rfl (aL 38 (.int .i64 ((a*k:Nat):Int)) (iE haki) (aR rfl rfl (wq (eV (((a*k:Nat):Int)) ((nn:Int)) pL rfl ⟨_,rfl⟩ ⟨_,rfl⟩ (by omega) (by omega) (by omega)) rfl (eL bNi rfl rfl (aHe _ (F.mem M5) (N.mem M5) _ r1 _ hr1 (M5.ownSeg 1 3) (M5.away 1 3 F (by simp)) (M5.away 1 3 N (by simp)) _ (nn - a*k) _ ((l.drop (a*k)).take (nn - a*k)) (hS.mem M5) (fun x hx=>hby x (List.mem_of_mem_drop (List.mem_of_mem_take hx))) (by omega) (M5.away 1 3 hS.rd (by simp)) (fun x hx=>M5.away 1 3 (hS.each x hx).rd (by simp))) ?_))))))))))))))
  rintro v6 w6 ⟨r2,q,os,rfl,hr2,hq,hoR,hM6⟩
  have M6:Mem _ _ ([_,_,_,_,_]++_) _:=M5.seg 1 3 hM6
  refine aB (aC (aE (aA (wq (aH (.pointer _) Z) Z (wq (aJ (.pointer _) Z) Z (bJ Z Z (aB (aC (aP (gA (.pointer _) (.int _ _) Z Z ?_))))))))))
  exact ⟨_,r2,Z,by rw [bHl ha ha0 hbj,← aKo,← wA];exact hr2,(Mem.noT M6).keep [false,true,true,true,false]⟩
 ·have ha0:a=0:=by omega
  refine aM (aC (aE (aA (wq (aH (.pointer _) rfl) rfl (wq (aD 0 gH rfl) rfl (wq (aK 0 (.slice _ _ _) jF M4 rfl rfl rfl) rfl (aR rfl rfl (wq (aD 1 nI rfl) rfl (wq (aK 0 (.int _ _) fQ M4 rfl rfl rfl) rfl (wq (fF rfl rfl (by rw [haki];omega) (by rw [haki];omega)) rfl (aL 38 (.int .i64 ((a*k:Nat):Int)) (iE haki) (aR rfl rfl (wq (eV (((a*k:Nat):Int)) ((nn:Int)) pL rfl ⟨_,rfl⟩ ⟨_,rfl⟩ (by omega) (by omega) (by omega)) rfl (eL bNi rfl rfl (aHe _ (F.mem M4) (N.mem M4) _ ⟨none,0,0,none,(none,default),(none,default)⟩ _ (dC.new 43 default default) (M4.ownSeg 1 3) (M4.away 1 3 F (by simp)) (M4.away 1 3 N (by simp)) _ (nn - a*k) _ ((l.drop (a*k)).take (nn - a*k)) (hS.mem M4) (fun x hx=>hby x (List.mem_of_mem_drop (List.mem_of_mem_take hx))) (by omega) (M4.away 1 3 hS.rd (by simp)) (fun x hx=>M4.away 1 3 (hS.each x hx).rd (by simp))) ?_))))))))))))))
  rintro v7 w7 ⟨r2,q,os,rfl,hr2,hq,hoR,hM7⟩
  have M7:Mem _ _ ([_,_,_,_,_]++_) _:=M4.seg 1 3 hM7
  refine aB (aC (aE (aA (wq (aH (.pointer _) Z) Z (wq (aJ (.pointer _) Z) Z (bJ Z Z (aB (aC (aP (gA (.pointer _) (.int _ _) Z Z ?_))))))))))
  exact ⟨_,r2,Z,by rw [bAw ha ha0,← aKo,← wA];exact hr2,(Mem.noT M7).keep [false,true,true,true,false]⟩
theorem pZ (w:World) (F:Rd w 2 (some ⟨0,0,none⟩) 1 [[.int .u32 73856093,.int .u32 19349663]]) (N:Rd w 4 (some ⟨3,0,none⟩) 1 [eF iY]) (A:Option Addr) (n c:Nat) (l:List OpRow) (hl:OpsRd w A n l) (hcap:n≤c) (hby:∀ x∈l,x.n≤1000000) (hn:n≤1000000) (k:Nat) (hkp:0 < k) (B:Option Addr) (m d:Nat) (rs:List Row) (hB:BytRd w B m rs (fT (opsO l) k ((opsO l).length / k))) (o:OpI) (BA:Option Addr) (nn cc:Nat) (hP:OpOk w o BA nn cc) (hnn:nn≤1000000) :
  Calls prog 9 #[.agg [.slice A n c,.int .i64 (k:Int),.slice B m d].toArray,.agg (dU o BA nn cc).toArray] w (gK (fun v w'=>∃ (qo qm p:Row) (ps ms:List Row),v=.tuple #[.agg [.slice qo.A qo.n qo.c,.int .i64 (k:Int),.slice qm.A qm.n qm.c].toArray,.agg (cC (hJ (eX [] (opsO l)) o).2 p).toArray]∧LogR 45 34 5 (opsO l++[o]) k qo qm ps ms∧aZ 5 1 p.A p.n p.c (((hJ (eX [] (opsO l)) o).2.bytes).map bL) p.e∧Mem w [] ([p.e,qo.e,qm.e]++(ps.map Row.e++ms.map Row.e)) w')):=by
 have hlen:l.length=n:=by simpa using hl.rd.len
 have hbd:=hl.rd.bound
 have hgood:=hl.good hby
 have hok:=hl.okO hby
 have hol:(opsO l).length=n:=by rw [fH];exact hlen
 have hmn:m=n / k:=by rw [← hB.n_eq.1,pY,hol]
 have hmle:n / k≤m:=by rw [hmn];exact Nat.le_refl _
 have hmb1:m≤1000000:=by rw [hmn];exact Nat.le_trans (Nat.div_le_self n k) hn
 have hsm:=aCr hok (k:=k) (n:=(opsO l).length / k)
 refine aI #[.cell 4 28,.cell 5 36] 85 func9 Z results9 ntmps9 Z ?_
 have M0:=Mem.refl w
 refine aE (aA (bN (.agg (.mk _)) M0 Z Z Z (fun b1 w1 M1=>(bN (.agg (.mk _)) M1 Z Z Z (fun b2 w2 M2=>(aQ pM M2 Z Z (fun b3 w3 M3=>(aQ jW M3 Z Z (fun b4 w4 M4=>(aB (aC (aE (aA (wq (aU 0 fZ M4 Z Z Z) Z (wq (aD 0 gH Z) Z (wq (aK 0 (.slice _ _ _) jF M4 Z Z Z) Z (wq (cK underlying25 Z) Z (eL bDa Z Z (aXl _ (F.mem M4) (N.mem M4) A n c l (hl.mem M4) hcap hby hn B m d rs _ (hB.mem M4) hsm k hkp hmle n (Nat.le_refl _)) ?_))))))))))))))))))
 rintro v5 w5 ⟨wbk,r0,rfl,hr0,hM5⟩
 have M5:Mem _ _ [_,_,_,_,_,_,_] _:=M4.call0 hM5
 rw [aHg hok hkp (by omega),List.take_of_length_le (by omega)] at hr0
 refine wq (aH (.tuple (List.toArray _)) rfl) rfl (wq (bM (.pointer _) rfl rfl) rfl (wq (bM (.int _ _) rfl rfl) rfl (wq (aJ (.pointer _) rfl) rfl (bJ rfl rfl (aB (aC (aE (aA (wq (aH (.pointer _) rfl) rfl (wq (aU 1 iQ M5 rfl rfl rfl) rfl (aL 21 (.agg (dU o BA nn cc).toArray) rfl (eL aVu rfl rfl (wD _ (F.mem M5) (N.mem M5) _ r0 _ hr0 (M5.ownSeg 4 3) o BA nn cc (hP.mem M5) hnn (M5.away 4 3 hP.rd (by simp)) (M5.away 4 3 F (by simp)) (M5.away 4 3 N (by simp))) ?_))))))))))))
 rintro v6 w6 ⟨r1,pz,rfl,hr1,hpz,hM6⟩
 have M6:Mem _ _ [_,_,_,_,_,_,_,_] _:=M5.seg 4 3 hM6
 refine aQ jW M6 Z Z (fun b7 w7 M7=>(bB 8 _ fM M7 Z Z Z Z Z (aO Z) Z (fun w8 M8=>(aB (aC (aE (aA (wq (aD 1 nI Z) Z (wq (aK 0 (.int _ _) fQ M8 Z Z Z) Z (wq (cD [(1,.int _ _)] _ aHo Z Z) Z (aQ pM M8 Z Z (fun b9 w9 M9=>(bB 9 _ fZ M9 Z Z Z Z Z (aO Z) Z (fun w10 M10=>(aB (aC (aE (aE (aA (wq (aD 0 gH Z) Z (wq (aK 0 (.slice _ _ _) jF M10 Z Z Z) Z (wq (cK underlying25 Z) Z (aR Z Z ?_)))))))))))))))))))))))
 have M11:=(M10.dummy default).dummy default
 refine aB (aC (aS (dM (σ:=Nat × Row × List Row) [2,3,4,5,6,8,9,28] (fun (i,qo,ps)=>[(29,.int .i64 (i:Int))]) (fun (i,qo,ps) w'=>(i≤n∧aZ 45 15 qo.A qo.n qo.c ((rU ((opsO l).take i) ps).map OpRow.cells) qo.e∧BytR 5 ps (((opsO l).take i).map OpI.bytes))∧Mem w [] ([(some b1,bc [.slice A n c,.int .i64 (k:Int),.slice B m d] 28),(some b2,bc (dU o BA nn cc) 45),(some b3,bc [.slice none 0 0,.int .i64 0,.slice none 0 0] 28),(some b4,bc [.int .i64 0,.slice none 0 0,.int .i64 0,.bool false] 36),(some wbk,bc [.slice r1.A r1.n r1.c,.map r1.p] 73),r1.er,r1.em,pz.e,(some b7,bc (cC (hJ (eX [] (opsO l)) o).2 pz) 36),(some b9,bc [.slice qo.A qo.n qo.c,.int .i64 (k:Int),.slice none 0 0] 28),qo.e,(none,default)]++ps.map Row.e) w') (fun (i,qo,ps)=>n - i) (0,fE,[]) (bE Z eB) (⟨⟨by omega,aZ.nil _ _ _,BytR.nil _⟩,M11⟩) ?_)))
 rintro ⟨i,qo,ps⟩ ρ12 w12 ⟨⟨hi,hqo,hpb⟩,hM12⟩
 have hpl:ps.length=((opsO l).take i).length:=by rw [hpb.len,List.length_map]
 have hqn:((rU ((opsO l).take i) ps).map OpRow.cells).length=qo.n:=hqo.1
 rw [List.length_map,vZ hpl,List.length_take,fH] at hqn
 refine aE (aA (cY Z Z Z Z (aB (aC (aE ?_)))))
 refine aW Z (fun h30 => ?_) (fun h30 => ?_)
 ·obtain ⟨x,hx⟩:=cT (xs:=l) (k:=i) hlen (by omega)
  have hxm:=List.mem_of_getElem? hx
  have hxo:=oN hx
  have hPx:=hl.each x hxm
  refine aM (aC (aE (aS (aE (aA (aR Z Z (bJ Z Z (aB (aC (lT [(0,0),(1,1),(2,0),(3,1),(4,0),(5,1),(6,1),(7,2),(8,2),(9,2),(10,0),(11,2)] mixed Z (by kernel_rfl) (fun w13 hb13 hh13 => ?_)))))))))))
  have M13:=hM12.drew hb13 hh13
  refine aX Z Z Z (fun _=>aD 0 gH Z) (bP Z Z Z (aK 9 (.slice _ _ _) jF M13 Z Z Z) (aX Z Z Z (fun _=>aD 0 gH Z) (bP Z Z Z (aK 0 (.slice _ _ _) jF M13 Z Z Z) (eD Z Z Z (bP Z Z Z (bI (i) pL Z Z Z ((hl.rd.mem M13).below_len (aG OpRow.cells hx)) ((hl.rd.mem M13).someK (aG OpRow.cells hx))) (bP Z Z Z (dN _ iQ (hl.rd.mem M13) (aG OpRow.cells hx) Z) (dX 38 (.agg (dU x.o x.A x.n x.c).toArray) Z (dL [true,true,true,false] Z (by kernel_rfl) (eL bDf Z Z (aBu _ x.o x.A x.n x.c (hPx.mem M13) (hby x hxm)) ?_)))))))))
  rintro v14 w14 ⟨p2,rfl,hp2,hM14⟩
  have M14:Mem _ _ ([_,_,_,_,_,_,_,_,_,_,_,_,_]++_) _:=Mem.front (L:=[_,_,_,_,_,_,_,_,_,_,_,_]) (M13.call0 hM14)
  refine aB (aC ⟨(dQ (bC Z (aK 9 (.slice _ _ _) jF M14 Z Z Z)) dG), ?_⟩)
  refine dL [false] Z (by kernel_rfl) (bW [.agg (List.toArray _)] [dU x.o p2.A p2.n p2.c] Z pL M14 Z Z Z Z (cQ Z) (by decide) (fun b15 w15 M15 => ?_))
  have M16:Mem _ _ ([_,_,_,_,_,_,_,_,_,_,_,_,_,_]++_) _:=Mem.front (L:=[_,_,_,_,_,_,_,_,_,_,_,_,_]) M15
  refine aB (aC ⟨(dQ (bC Z (aK 9 (.slice _ _ _) jF M16 Z Z Z)) dG), ?_⟩)
  refine dL [true] rfl (by kernel_rfl) (cO 10 [dU x.o p2.A p2.n p2.c] pL M16 rfl rfl rfl rfl rfl hqo rfl (by simp [dU,aF,Go.Bil.one]) (dI.ofMem 13 M16 rfl) (by omega) (fun A17 c17 e17 w17 M17 hR17 => ?_))
  refine aB (aC ⟨dG, ?_⟩)
  refine aX Z Z Z (fun _=>aD 0 gH Z) (dL [] Z (by kernel_rfl) (dB 9 (.slice _ _ _) jF M17 Z Z Z Z Z Z (fun w18 M18 => ?_)))
  refine aB (aC ⟨dG, ?_⟩)
  refine bS (cU (aC (aA (wq (bA Z Z (by omega) (by omega)) Z (aR Z Z (aB ?_))))))
  refine bX (i+1,⟨A17,qo.n+1,c17,e17⟩,ps++[p2]) (bE Z eB) (cA Z (cA Z (cA Z (cA Z (cA Z (cA Z (cA Z (cA Z gL)))))))) ?_ ?_
  ·exact ⟨⟨by omega,by rw [cB hxo,uM hpl,List.map_append];exact hR17,by rw [cB hxo,List.map_append];exact hpb.add hp2⟩,Mem.pushNew (L:=[_,_,_,_,_,_,_,_,_,_,_,_]) p2 (Mem.keepL (L:=[_,_,_,_,_,_,_,_,_,_,_,_,_,_]) [true,true,true,true,true,true,true,true,true,true,true,true,true,false] M18)⟩
  ·(show n - (i+1) < n - i;omega)
 ·have hin:i=n:=by omega
  rw [hin,List.take_of_length_le (by omega)] at hqo hpb hpl
  refine cS (dE (dH (eO (aC (aE (aE (aA (wq (aD 2 kJ Z) Z (wq (aK 0 (.slice _ _ _) iZ hM12 Z Z Z) Z (wq (cK underlying26 Z) Z (aR Z Z (aB (aC (aS (dM (σ:=Nat × Row × List Row) [2,3,4,5,6,8,9,46] (fun (i,qm,ms)=>[(47,.int .i64 (i:Int))]) (fun (i,qm,ms) w'=>(i≤m∧aZ 34 1 qm.A qm.n qm.c ((ms).map wQ) qm.e∧BytR 5 ms ((fT (opsO l) k ((opsO l).length / k)).take i))∧Mem w [] ([(some b1,bc [.slice A n c,.int .i64 (k:Int),.slice B m d] 28),(some b2,bc (dU o BA nn cc) 45),(some b3,bc [.slice none 0 0,.int .i64 0,.slice none 0 0] 28),(some b4,bc [.int .i64 0,.slice none 0 0,.int .i64 0,.bool false] 36),(some wbk,bc [.slice r1.A r1.n r1.c,.map r1.p] 73),r1.er,r1.em,pz.e,(some b7,bc (cC (hJ (eX [] (opsO l)) o).2 pz) 36),(some b9,bc [.slice qo.A qo.n qo.c,.int .i64 (k:Int),.slice qm.A qm.n qm.c] 28),qo.e,qm.e]++(ps.map Row.e++ms.map Row.e)) w') (fun (i,qm,ms)=>m - i) (0,fE,[]) (bE Z eB) (⟨⟨by omega,aZ.nil _ _ _,BytR.nil _⟩,by rw [show ([]:List Row).map Row.e=[] from Z,List.append_nil];exact hM12⟩) ?_)))))))))))))))
  rintro ⟨i,qm,ms⟩ ρ19 w19 ⟨⟨hi,hqm,hmb⟩,hM19⟩
  have hmn2:(ms.map wQ).length=qm.n:=hqm.1
  rw [List.length_map,hmb.len,List.length_take,hB.n_eq.1] at hmn2
  refine aE (aA (cY Z Z Z Z (aB (aC (aE ?_)))))
  refine aW Z (fun h48 => ?_) (fun h48 => ?_)
  ·obtain ⟨rj,bj,hrj,hbj,hhj,hrd,hbl,hcp⟩:=hB.at (j:=i) (by omega)
   have hbjl:bj.length=rj.n:=by simpa using hrd.len
   have hbj6:=hsm bj (List.mem_of_getElem? hbj)
   refine aM (aC (aE (aS (aE (aA (aR Z Z (bJ Z Z (aB (aC (lT [(0,0),(1,1),(2,0),(3,1),(4,0),(5,1),(6,1),(7,2),(8,2),(9,2),(10,0),(11,2)] mixed Z (by kernel_rfl) (fun w20 hb20 hh20 => ?_)))))))))))
   have M20:=hM19.drew hb20 hh20
   refine aX Z Z Z (fun _=>aD 2 kJ Z) (bP Z Z Z (aK 9 (.slice _ _ _) iZ M20 Z Z Z) (aX Z Z Z (fun _=>aD 2 kJ Z) (bP Z Z Z (aK 0 (.slice _ _ _) iZ M20 Z Z Z) (eD Z Z Z (bP Z Z Z (bI (i) aAf Z Z Z ((hB.rd.mem M20).below_len (hhj)) ((hB.rd.mem M20).someK (hhj))) (bP Z Z Z (iC (.slice _ _ _) lR (hB.rd.mem M20) (hhj) Z) (dL [true,true,true,false] Z (by kernel_rfl) (eL bNf Z Z (xE _ rj.A rj.n rj.c bj (hrd.mem M20) (by omega)) ?_))))))))
   rintro v21 w21 ⟨pm,rfl,hpm,hM21⟩
   have M21:Mem _ _ ([_,_,_,_,_,_,_,_,_,_,_,_,_]++_) _:=Mem.front (L:=[_,_,_,_,_,_,_,_,_,_,_,_]) (M20.call0 hM21)
   refine aB (aC ⟨(dQ (bC Z (aK 9 (.slice _ _ _) iZ M21 Z Z Z)) dG), ?_⟩)
   refine dL [false] Z (by kernel_rfl) (bW [.slice _ _ _] [wQ pm] Z aAf M21 Z Z Z Z (cQ Z) (by decide) (fun b22 w22 M22 => ?_))
   have M23:Mem _ _ ([_,_,_,_,_,_,_,_,_,_,_,_,_,_]++_) _:=Mem.front (L:=[_,_,_,_,_,_,_,_,_,_,_,_,_]) M22
   refine aB (aC ⟨(dQ (bC Z (aK 9 (.slice _ _ _) iZ M23 Z Z Z)) dG), ?_⟩)
   refine dL [true] rfl (by kernel_rfl) (cO 11 [wQ pm] aAf M23 rfl rfl rfl rfl rfl hqm rfl (by simp [wQ,Go.Bil.one]) (dI.ofMem 13 M23 rfl) (by omega) (fun A24 c24 e24 w24 M24 hR24 => ?_))
   refine aB (aC ⟨dG, ?_⟩)
   refine aX Z Z Z (fun _=>aD 2 kJ Z) (dL [] Z (by kernel_rfl) (dB 9 (.slice _ _ _) iZ M24 Z Z Z Z Z Z (fun w25 M25 => ?_)))
   refine aB (aC ⟨dG, ?_⟩)
   refine bS (cU (aC (aA (wq (bA Z Z (by omega) (by omega)) Z (aR Z Z (aB ?_))))))
   refine bX (i+1,⟨A24,qm.n+1,c24,e24⟩,ms++[pm]) (bE Z eB) (cA Z (cA Z (cA Z (cA Z (cA Z (cA Z (cA Z (cA Z gL)))))))) ?_ ?_
   ·exact ⟨⟨by omega,by rw [List.map_append];exact hR24,by rw [cB hbj];exact hmb.add hpm⟩,Mem.pushB (L:=[_,_,_,_,_,_,_,_,_,_,_,_]) pm (Mem.keepL (L:=[_,_,_,_,_,_,_,_,_,_,_,_,_,_]) [true,true,true,true,true,true,true,true,true,true,true,true,true,false] M25)⟩
   ·(show m - (i+1) < m - i;omega)
  ·have him:i=m:=by omega
   rw [him,List.take_of_length_le (by rw [hB.n_eq.1];exact Nat.le_refl _)] at hmb
   refine cS (dE (dH (eO (aC (aE (lT [(0,0),(1,1),(2,1),(3,2),(4,2),(5,2),(6,0),(7,2)] mixed Z (by kernel_rfl) (fun w26 hb26 hh26 => ?_)))))))
   have M26:=hM19.drew hb26 hh26
   refine aX Z Z Z (fun _=>aD 0 gH Z) (bP Z Z Z (aK 9 (.slice _ _ _) jF M26 Z Z Z) (bP Z Z Z (aU 1 iQ M26 Z Z Z) (dX 64 (.agg (dU o BA nn cc).toArray) Z (dL [true,false] Z (by kernel_rfl) (eL bDf Z Z (aBu _ o BA nn cc (hP.mem M26) hnn) ?_)))))
   rintro v27 w27 ⟨p3,rfl,hp3,hM27⟩
   have M27:Mem _ _ ([_,_,_,_,_,_,_,_,_,_,_,_,_]++_) _:=Mem.front (L:=[_,_,_,_,_,_,_,_,_,_,_,_]) (M26.call0 hM27)
   refine aB (aC ⟨(dQ (bC Z (aK 9 (.slice _ _ _) jF M27 Z Z Z)) dG), ?_⟩)
   refine dL [false] Z (by kernel_rfl) (bW [.agg (List.toArray _)] [dU o p3.A p3.n p3.c] Z pL M27 Z Z Z Z (cQ Z) (by decide) (fun b28 w28 M28 => ?_))
   have M29:Mem _ _ ([_,_,_,_,_,_,_,_,_,_,_,_,_,_]++_) _:=Mem.front (L:=[_,_,_,_,_,_,_,_,_,_,_,_,_]) M28
   refine aB (aC ⟨(dQ (bC Z (aK 9 (.slice _ _ _) jF M29 Z Z Z)) dG), ?_⟩)
   refine dL [true] rfl (by kernel_rfl) (cO 10 [dU o p3.A p3.n p3.c] pL M29 rfl rfl rfl rfl rfl hqo rfl (by simp [dU,aF,Go.Bil.one]) (dI.ofMem 13 M29 rfl) (by omega) (fun A30 c30 e30 w30 M30 hR30 => ?_))
   refine aB (aC ⟨dG, ?_⟩)
   refine aX Z Z Z (fun _=>aD 0 gH Z) (dL [] Z (by kernel_rfl) (dB 9 (.slice _ _ _) jF M30 Z Z Z Z Z Z (fun w31 M31 => ?_)))
   refine aB (aC ⟨dG, ?_⟩)
   refine bS (aC (aE (aE (aA (wq (aD 0 gH Z) Z (wq (aK 9 (.slice _ _ _) jF M31 Z Z Z) Z (wq (cK underlying25 Z) Z (aL 71 (.int .i64 ((n+1:Nat):Int)) (iE (by omega)) (wq (aD 1 nI Z) Z (wq (aK 9 (.int _ _) fQ M31 Z Z Z) Z (wq (iM Z Z (by omega)) Z (aL 74 (.int .i64 (((n+1) % k:Nat):Int)) (iE (aAl Z Z)) (cY Z Z Z Z (aB (aC ?_)))))))))))))))
   refine aW Z (fun h75 => ?_) (fun h75 => ?_)
   ·have hz:=bSm h75
    rw [← hol] at hz
    refine fY [(0,0),(1,1),(2,0),(3,2),(4,2),(5,2),(6,0),(7,2)] mixed M31 Z (by kernel_rfl) (fun w32 M32=>(aX Z Z Z (fun _=>aD 2 kJ Z) (bP Z Z Z (aK 9 (.slice _ _ _) iZ M32 Z Z Z) (aX Z Z Z (fun _=>aH (.pointer _) Z) (dL [false] Z (by kernel_rfl) (eL aVt Z Z (nP _ _ r1 _ hr1 (M32.ownSeg 4 3)) ?_))))))
    rintro v33 w33 ⟨pm2,rfl,hpm2,hM33⟩
    have M33:Mem _ _ ([_,_,_,_,_,_,_,_,_,_,_,_,_,_,_]++_) _:=Mem.front (L:=[_,_,_,_,_,_,_,_,_,_,_,_,_,_]) (M32.seg 4 3 hM33)
    refine aB (aC ⟨(dQ (bC Z (aK 9 (.slice _ _ _) iZ M33 Z Z Z)) dG), ?_⟩)
    refine dL [false] Z (by kernel_rfl) (bW [.slice _ _ _] [wQ pm2] Z aAf M33 Z Z Z Z (cQ Z) (by decide) (fun b34 w34 M34 => ?_))
    have M35:Mem _ _ ([_,_,_,_,_,_,_,_,_,_,_,_,_,_,_,_]++_) _:=Mem.front (L:=[_,_,_,_,_,_,_,_,_,_,_,_,_,_,_]) M34
    refine aB (aC ⟨(dQ (bC Z (aK 9 (.slice _ _ _) iZ M35 Z Z Z)) dG), ?_⟩)
    refine dL [true] rfl (by kernel_rfl) (cO 11 [wQ pm2] aAf M35 rfl rfl rfl rfl rfl hqm rfl (by simp [wQ,Go.Bil.one]) (dI.ofMem 15 M35 rfl) (by omega) (fun A36 c36 e36 w36 M36 hR36 => ?_))
    refine aB (aC ⟨dG, ?_⟩)
    refine aX Z Z Z (fun _=>aD 2 kJ Z) (dL [] Z (by kernel_rfl) (dB 9 (.slice _ _ _) iZ M36 Z Z Z Z Z Z (fun w37 M37 => ?_)))
    refine aB (aC ⟨dG, ?_⟩)
    refine bS (aC (aE (fY [(0,1),(1,1),(2,2),(3,2)] mixed M37 Z (by kernel_rfl) (fun w38 M38=>(bP Z Z Z (aU 9 fZ M38 Z Z Z) (bP Z Z Z (aU 8 fM M38 Z Z Z) (dL [false,true] Z (by kernel_rfl) (bB 2 _ fZ M38 Z Z Z Z Z (aO Z) Z (fun w39 M39 => ?_)))))))))
    refine aB (aC ⟨(dQ (bC Z (aU 8 fM M39 Z Z Z)) dG), ?_⟩)
    refine dL [true] Z (by kernel_rfl) (bB 3 _ fM M39 Z Z Z Z Z (aO Z) Z (fun w40 M40 => ?_))
    refine aB (aC ⟨dG, ?_⟩)
    refine bS (aC (aP (bOb 2 3 fZ fM M40 Z Z Z Z Z Z ?_)))
    exact ⟨⟨A30,qo.n+1,c30,e30⟩,⟨A36,qm.n+1,c36,e36⟩,pz,ps++[p3],ms++[pm2],Z,⟨by rw [uM hpl,List.map_append];exact hR30,by rw [List.map_append];exact hpb.add hp3,aPr hgood (hP.good hnn),by rw [List.map_append];exact hR36,by rw [aIr hkp hz];exact hmb.add hpm2⟩,hpz,Mem.pushAB (L:=[_,_,_]) p3 pm2 (Mem.keepL (L:=[_,_,_,_,_,_,_,_,_,_,_,_,_,_,_,_]) [false,false,false,false,false,false,false,true,false,false,true,true,true,false,true,false] M40)⟩
   ·have hz:=bSn h75
    rw [← hol] at hz
    refine aM (aC (aE (fY [(0,1),(1,1),(2,2),(3,2)] mixed M31 Z (by kernel_rfl) (fun w41 M41=>(bP Z Z Z (aU 9 fZ M41 Z Z Z) (bP Z Z Z (aU 8 fM M41 Z Z Z) (dL [false,true] Z (by kernel_rfl) (bB 2 _ fZ M41 Z Z Z Z Z (aO Z) Z (fun w42 M42 => ?_)))))))))
    refine aB (aC ⟨(dQ (bC Z (aU 8 fM M42 Z Z Z)) dG), ?_⟩)
    refine dL [true] Z (by kernel_rfl) (bB 3 _ fM M42 Z Z Z Z Z (aO Z) Z (fun w43 M43 => ?_))
    refine aB (aC ⟨dG, ?_⟩)
    refine bS (aC (aP (bOb 2 3 fZ fM M43 Z Z Z Z Z Z ?_)))
    exact ⟨⟨A30,qo.n+1,c30,e30⟩,qm,pz,ps++[p3],ms,Z,⟨by rw [uM hpl,List.map_append];exact hR30,by rw [List.map_append];exact hpb.add hp3,aPr hgood (hP.good hnn),hqm,by rw [aMr hkp hz];exact hmb⟩,hpz,Mem.pushA (L:=[_,_,_]) p3 (Mem.keepL (L:=[_,_,_,_,_,_,_,_,_,_,_,_,_,_]) [false,false,false,false,false,false,false,true,false,false,true,true,true,false] M43)⟩
end Go.Proofs.YtpcloigancpnbaaGreatDoor
