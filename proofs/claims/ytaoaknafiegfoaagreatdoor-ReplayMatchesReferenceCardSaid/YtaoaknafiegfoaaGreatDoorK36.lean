/- Part of the proof of a law of this seat (19 texts). No conditions. -/
import Derived.Test.YtaoaknafiegfoaaGreatDoorK32
import Derived.Test.YtaoaknafiegfoaaGreatDoorK35
set_option linter.unusedVariables false
set_option linter.unusedSimpArgs false
set_option linter.unnecessarySimpa false
set_option maxHeartbeats 100000000
namespace Go.Proofs.YtaoaknafiegfoaaGreatDoor
open Go.Bil
open Go.RowKit (Below)
open Go.Proofs
open Go.Proofs.Tryz
theorem bHs (w:World) (b:Body) (hb:Okb b) (j:Int × Int) (hj1 : -2147483648≤j.1∧j.1≤2147483647) (hj2 : -2147483648≤j.2∧j.2≤2147483647) :
  Calls prog 124 #[(.agg (aF b).toArray),.agg [.int .i32 j.1,.int .i32 j.2].toArray] w (gY (fun v w'=>(∃ g:Bool,v=.tuple #[(.agg (aF (pushB b j)).toArray),.bool g])∧Below w.heap.size w w')):=by
 have hv:=hb.v
 have hm:=hb.m
 have hp1:=bNl hj1 hm
 have hp2:=bNl hj2 hm
 refine aI #[.cell 4 39,.tmp 5] 45 func124 Z results124 ntmps124 Z ?_
 have M0:=Mem.refl w
 refine aE (aA (bO (.agg (.mk _)) M0 Z Z Z (fun b1 w1 M1=>(bO (.agg (.mk _)) M1 Z Z Z (fun b2 w2 M2=>(aO gL M2 Z Z (fun b3 w3 M3=>(wq (aJ (.bool false) Z) Z (aB (aC (aE (aA (aO bAi M3 Z Z (fun b4 w4 M4=>(dA 3 (.bool false) rR M4 Z Z Z Z Z Z (fun w5 M5=>(aB (aC (aE (aA (wq (aD 8 eH Z) Z (wq (aD 0 cY Z) Z (wq (aK 0 (.int _ _) bB M5 Z Z Z) Z (wq (bK eF underlying2 Z (fU _ (by omega) (by omega))) Z (wq (aD 0 cY Z) Z ?_)))))))))))))))))))))))))
 refine wq (aK 1 (.int _ _) bB M5 Z Z Z) Z (wq (bK eF underlying2 Z (fU _ (by omega) (by omega))) Z (wq (aD 4 eS Z) Z (wq (aK 0 (.int _ _) bB M5 Z Z Z) Z (wq (bK eF underlying2 Z (fU _ (by omega) (by omega))) Z (wq (fO Z Z (by omega) (by omega)) Z (wq (lH Z Z (by decide)) Z (aL 20 (.int .i64 (j.1*b.mass / 65536)) (iE (sB _)) (wq (bE Z Z (by omega) (by omega)) Z (bL Z Z (aB (aC (aE (aA (wq (aD 8 eH Z) Z (wq (aD 1 cW Z) Z (wq (aK 0 (.int _ _) bB M5 Z Z Z) Z ?_))))))))))))))))
 refine wq (bK eF underlying2 Z (fU _ (by omega) (by omega))) Z (wq (aD 1 cW Z) Z (wq (aK 1 (.int _ _) bB M5 Z Z Z) Z (wq (bK eF underlying2 Z (fU _ (by omega) (by omega))) Z (wq (aD 4 eS Z) Z (wq (aK 0 (.int _ _) bB M5 Z Z Z) Z (wq (bK eF underlying2 Z (fU _ (by omega) (by omega))) Z (wq (fO Z Z (by omega) (by omega)) Z (wq (lH Z Z (by decide)) Z (aL 33 (.int .i64 (j.2*b.mass / 65536)) (iE (sB _)) (wq (bE Z Z (by omega) (by omega)) Z (bL Z Z (aB (aC (aE (aA ?_)))))))))))))))
 refine aT Z Z (bV [.pointer _] [[.pointer (some ⟨b4,0,none⟩)]] Z aMm M5 Z Z Z Z (cO Z) (by decide) (fun b6 w6 M6 => ?_))
 have hlit36:=lV (T:=174) (sz:=1) (b:=b6) (nn:=1) [[.pointer (some ⟨b4,0,none⟩)]] (by simp) rfl (by decide)
 refine eJ aGl Z Z (pQ _ (b.vx+j.1*b.mass / 65536) 16777216 ⟨by decide,by decide⟩ b4 _ _ 1 (hlit36.rd M6 (aN (i:=4) Z)) (hlit36.awayB M6 4 3 Z Z Z) (M6.ownSeg 3 1)) ?_
 rintro v7 w7 ⟨rfl,hM7⟩
 have M7:Mem _ _ [_,_,_,_,_] _:=M6.seg 3 1 hM7
 refine aT Z Z (bV [.pointer _] [[.pointer (some ⟨b4,0,none⟩)]] Z aMm M7 Z Z Z Z (cO Z) (by decide) (fun b8 w8 M8 => ?_))
 have hlit39:=lV (T:=174) (sz:=1) (b:=b8) (nn:=1) [[.pointer (some ⟨b4,0,none⟩)]] (by simp) rfl (by decide)
 refine eJ aGl Z Z (pQ _ (b.vy+j.2*b.mass / 65536) 16777216 ⟨by decide,by decide⟩ b4 _ _ 1 (hlit39.rd M8 (aN (i:=5) Z)) (hlit39.awayB M8 5 3 Z Z Z) (M8.ownSeg 3 1)) ?_
 rintro v9 w9 ⟨rfl,hM9⟩
 have M9:Mem _ _ [_,_,_,_,_,_] _:=M8.seg 3 1 hM9
 refine wq (cI [(0,.int _ _),(1,.int _ _)] _ fK Z Z) Z (wq (aD 8 eH Z) Z (wX 0 _ bP M9 Z Z Z Z Z (aP Z) (Nat.le_of_ble_eq_true Z) (fun w10 M10=>(aB (aC (aE (gJ [(0,1),(1,1),(2,2),(3,0)] mixed M10 Z (by kernel_rfl) (fun w11 M11=>(bQ Z Z Z (aV 0 bR M11 Z Z Z) (bQ Z Z Z (aK 3 (.bool _) rR M11 Z Z Z) (dO [false,true] Z (by kernel_rfl) (bC 2 _ bR M11 Z Z Z Z Z (aP Z) Z (fun w12 M12 => ?_)))))))))))))
 refine aB (aC ⟨(dS (bH Z (aK 3 (.bool _) rR M12 Z Z Z)) dI), ?_⟩)
 refine aX Z Z Z (fun _=>aJ (.bool _) Z) (bS (aC (aR (vB (v2:=.bool _) 2 bR M12 Z Z Z Z ?_))))
 exact ⟨⟨_,Z⟩,M12.below⟩
theorem aIo (w:World) (b:Body) (hb:Okb b) (j:Int × Int) (hj1 : -2147483648≤j.1∧j.1≤2147483647) (hj2 : -2147483648≤j.2∧j.2≤2147483647) :
  Calls prog 127 #[(.agg (aF b).toArray),.agg [.int .i32 j.1,.int .i32 j.2].toArray] w (gY (fun v w'=>(∃ g:Bool,v=.tuple #[(.agg (aF (pushB b j)).toArray),.bool g])∧Below w.heap.size w w')):=by
 have hv:=hb.v
 have hm:=hb.m
 have hp1:=bNl hj1 hm
 have hp2:=bNl hj2 hm
 have hlx:=fJ (b.vx+j.1*b.mass / 65536) (l:=16777216) (by decide)
 have hly:=fJ (b.vy+j.2*b.mass / 65536) (l:=16777216) (by decide)
 refine aI #[.cell 4 39,.tmp 5] 57 func127 Z results127 ntmps127 Z ?_
 have M0:=Mem.refl w
 refine aE (aA (bO (.agg (.mk _)) M0 Z Z Z (fun b1 w1 M1=>(bO (.agg (.mk _)) M1 Z Z Z (fun b2 w2 M2=>(aO gL M2 Z Z (fun b3 w3 M3=>(wq (aJ (.bool false) Z) Z (aB (aC (aE (gJ [(0,0),(1,0),(2,1),(3,0),(4,0),(5,1),(6,0),(7,0),(8,1),(9,0),(10,0),(11,2),(12,0),(13,0)] mixed M3 Z (by kernel_rfl) (fun w4 M4=>(aX Z Z Z (fun _=>aD 8 eH Z) (aX Z Z Z (fun _=>aD 0 cY Z) (bQ Z Z Z (aK 0 (.int _ _) bB M4 Z Z Z) (aX Z Z Z (fun _=>bK eF underlying2 Z (fU _ (by omega) (by omega))) ?_)))))))))))))))))
 refine aX Z Z Z (fun _=>aD 0 cY Z) (bQ Z Z Z (aK 1 (.int _ _) bB M4 Z Z Z) (aX Z Z Z (fun _=>bK eF underlying2 Z (fU _ (by omega) (by omega))) (aX Z Z Z (fun _=>aD 4 eS Z) (bQ Z Z Z (aK 0 (.int _ _) bB M4 Z Z Z) (aX Z Z Z (fun _=>bK eF underlying2 Z (fU _ (by omega) (by omega))) (aX Z Z Z (fun _=>fO Z Z (by omega) (by omega)) (dO [true,true,false] Z (by kernel_rfl) (dM mK Z Z M4 (fS _ (j.1*b.mass) 65536 (by decide) (by omega) (by omega)) (fun w5 M5 => ?_)))))))))
 refine aB (aC ⟨(dS (bH Z (aK 0 (.int _ _) bB M5 Z Z Z)) dI), ?_⟩)
 refine aX Z Z Z (fun _=>bE Z Z (by omega) (by omega)) (nV Z Z Z (bS (aC (aE (gJ [(0,0),(1,0),(2,1),(3,0),(4,0),(5,1),(6,0),(7,0),(8,1),(9,0),(10,0),(11,2),(12,0),(13,0)] mixed M5 Z (by kernel_rfl) (fun w6 M6=>(aX Z Z Z (fun _=>aD 8 eH Z) (aX Z Z Z (fun _=>aD 1 cW Z) (bQ Z Z Z (aK 0 (.int _ _) bB M6 Z Z Z) (aX Z Z Z (fun _=>bK eF underlying2 Z (fU _ (by omega) (by omega))) (aX Z Z Z (fun _=>aD 1 cW Z) (bQ Z Z Z (aK 1 (.int _ _) bB M6 Z Z Z) ?_))))))))))))
 refine aX Z Z Z (fun _=>bK eF underlying2 Z (fU _ (by omega) (by omega))) (aX Z Z Z (fun _=>aD 4 eS Z) (bQ Z Z Z (aK 0 (.int _ _) bB M6 Z Z Z) (aX Z Z Z (fun _=>bK eF underlying2 Z (fU _ (by omega) (by omega))) (aX Z Z Z (fun _=>fO Z Z (by omega) (by omega)) (dO [true,true,false] Z (by kernel_rfl) (dM mK Z Z M6 (fS _ (j.2*b.mass) 65536 (by decide) (by omega) (by omega)) (fun w7 M7 => ?_)))))))
 refine aB (aC ⟨(dS (bH Z (aK 0 (.int _ _) bB M7 Z Z Z)) dI), ?_⟩)
 refine aX Z Z Z (fun _=>bE Z Z (by omega) (by omega)) (nV Z Z Z (bS (aC (aE (aA (aT Z Z (dM zD Z Z M7 (lU _ (b.vx+j.1*b.mass / 65536) 16777216 ⟨by decide,by decide⟩) (fun w8 M8=>(wq (bK nU underlying21 Z (kM _ (by omega) (by omega))) Z (aT Z Z (dM zD Z Z M8 (lU _ (b.vy+j.2*b.mass / 65536) 16777216 ⟨by decide,by decide⟩) (fun w9 M9=>(wq (bK nU underlying21 Z (kM _ (by omega) (by omega))) Z (wq (cI [(0,.int _ _),(1,.int _ _)] _ fK Z Z) Z (wq (aD 8 eH Z) Z ?_)))))))))))))))
 refine wX 0 _ bP M9 Z Z Z Z Z (aP Z) (Nat.le_of_ble_eq_true Z) (fun w10 M10=>(aB (aC (aE (gJ [(0,1),(1,0),(2,0),(3,1),(4,0),(5,0),(6,0),(7,0),(8,0),(9,0),(10,1),(11,0),(12,0),(13,0),(14,0),(15,2),(16,0)] mixed M10 Z (by kernel_rfl) (fun w11 M11=>(bQ Z Z Z (aV 0 bR M11 Z Z Z) (aX Z Z Z (fun _=>aD 8 eH Z) (aX Z Z Z (fun _=>aD 0 cY Z) (bQ Z Z Z (aK 0 (.int _ _) bB M11 Z Z Z) (aX Z Z Z (fun _=>bK eF underlying2 Z (fU _ (by omega) (by omega))) ?_)))))))))))
 refine eG Z Z Z (aX Z Z Z (fun _=>cH (.bool (decide _)) Z Z Z) (aX Z Z Z (fun _=>aH (.bool (decide _)) Z) ?_))
 refine vH 49 Z (fun g49 => ?_) (fun g49 => ?_)
 ·refine yY Z Z Z (yY Z Z Z (qY Z Z Z (yY Z Z Z (yY Z Z Z (yY Z Z Z (aX Z Z Z (fun _=>bM true (.bool true) Z Z) (dO [false,true,true] Z (by kernel_rfl) (bC 2 _ bR M11 Z Z Z Z Z (aP Z) Z (fun w12 M12 => ?_)))))))))
  refine aB (aC ⟨(dS (.inr ⟨Z,Z⟩) dI), ?_⟩)
  refine aX Z Z Z (fun _=>aJ (.bool true) Z) (bS (aC (aR (vB (v2:=.bool true) 2 bR M12 Z Z Z Z ?_))))
  exact ⟨⟨_,Z⟩,M12.below⟩
 ·refine aX Z Z Z (fun _=>aD 8 eH Z) (aX Z Z Z (fun _=>aD 1 cW Z) (bQ Z Z Z (aK 0 (.int _ _) bB M11 Z Z Z) (aX Z Z Z (fun _=>bK eF underlying2 Z (fU _ (by omega) (by omega))) (eG Z Z Z (aX Z Z Z (fun _=>cH (.bool (decide _)) Z Z Z) (aX Z Z Z (fun _=>bM false (.bool (decide _)) Z Z) (dO [false,true,true] Z (by kernel_rfl) (bC 2 _ bR M11 Z Z Z Z Z (aP Z) Z (fun w13 M13 => ?_)))))))))
  refine aB (aC ⟨(dS (bH Z (aK 0 (.int _ _) bB M13 Z Z Z)) dI), ?_⟩)
  refine aX Z Z Z (fun _=>aJ (.bool (decide _)) Z) (bS (aC (aR (vB (v2:=.bool (decide _)) 2 bR M13 Z Z Z Z ?_))))
  exact ⟨⟨_,Z⟩,M13.below⟩
theorem aJn (w:World) (b:Nat) :
  Calls prog 60 #[.pointer (some ⟨b,0,none⟩)] w (Rb w (.pointer (some ⟨b,0,none⟩))):=by
 refine aI #[.tmp 2] 8 func60 Z results60 ntmps60 Z ?_
 have M0:=Mem.refl w
 refine aE (aA (wq (aJ (.pointer _) Z) Z (aB (aC (aE (aE (aA (wq (aH (.pointer _) Z) Z (wq (gT false underlying25 Z Z) Z (aB (aC (cB Z (aM (aC (aE (aA (wq (aH (.pointer _) Z) Z (wq (bN Z) Z (wq (aD 0 vX Z) Z (wq (aJ (.pointer _) Z) Z (aB (aC (aR (cF (.pointer _) Z ?_))))))))))))))))))))))))
 exact ⟨Z,M0.below⟩
theorem bDu (w:World) (b:Nat) (r:StV) (vs:List Body) (hW:dG 39 r vs) (hO:Own [(some b,bc [.slice r.A r.n r.c,.map r.p] 107),r.er,r.em] w) (x:Body) (hx:InB x) :
  Calls prog 26 #[.pointer (some ⟨b,0,none⟩),(.agg (aF x).toArray)] w (gY (fun v w'=>∃ r':StV,v=.int .i64 (pY vs x).2∧dG 39 r' ((pY vs x).1)∧Mem w (cD [(some b,bc [.slice r.A r.n r.c,.map r.p] 107),r.er,r.em]) [(some b,bc [.slice r'.A r'.n r'.c,.map r'.p] 107),r'.er,r'.em] w')):=by
 obtain ⟨hG,m,hs,hR⟩:=hW
 refine aI #[.tmp 4] 15 func26 Z results26 ntmps26 Z ?_
 have M0:=hO.mem
 refine aE (aA (bO (.agg (.mk _)) M0 Z Z Z (fun b1 w1 M1=>(bL Z Z (aB (aC (aE (aE (aA (wq (aH (.pointer _) Z) Z (dM bGg Z Z M1 (aJn _ b) (fun w2 M2=>(wq (aJ (.pointer _) Z) Z (aB (aC (aE (aA (wq (aH (.pointer _) Z) Z (wq (uP true underlying119 Z Z) Z (aB (aC (cE Z (aE (gJ [(0,0),(1,0),(2,0),(3,1),(4,2),(5,0)] mixed M2 Z (by kernel_rfl) (fun w3 M3=>(aX Z Z Z (fun _=>aH (.pointer _) Z) (aX Z Z Z (fun _=>bN Z) ?_)))))))))))))))))))))))))))
 refine aX Z Z Z (fun _=>aD 0 tH Z) (bQ Z Z Z (aV 3 bR M3 Z Z Z) (dO [true] Z (by kernel_rfl) (eJ bPm Z Z (bAg _ _ _ _ _ _ _ _ _ hs (M3.ownSeg 0 3) x) ?_)))
 rintro v4 w4 ⟨rfl,A4,n4,c4,p4,er4,em4,hs4,hM4⟩
 have M4:Mem _ _ [_,_,_,_] _:=M3.seg 0 3 hM4
 refine aB (aC ⟨dI, ?_⟩)
 refine nV Z Z Z (bS (aC (aR (cK (cF (.int _ _) Z ?_)))))
 obtain ⟨q1,q2⟩:=hR.add x
 exact ⟨⟨A4,n4,c4,p4,er4,em4⟩,by rw [q2],aFs hs4 q1 (aXt (hG.inm hR) hx),M4.keep [true,true,true,false]⟩
theorem aPj (w:World) (b:Nat) (r:StV) (vs:List Body) (hW:dG 39 r vs) (hO:Own [(some b,bc [.slice r.A r.n r.c,.map r.p] 107),r.er,r.em] w) (key:Int) :
  Calls prog 86 #[.pointer (some ⟨b,0,none⟩),.int .u32 key] w (gY (fun v w'=>∃ r':StV,v=.int .i64 (iX vs key).2∧dG 39 r' ((iX vs key).1)∧Mem w (cD [(some b,bc [.slice r.A r.n r.c,.map r.p] 107),r.er,r.em]) [(some b,bc [.slice r'.A r'.n r'.c,.map r'.p] 107),r'.er,r'.em] w')):=by
 obtain ⟨hG,m,hs,hR⟩:=hW
 refine aI #[.tmp 4] 15 func86 Z results86 ntmps86 Z ?_
 have M0:=hO.mem
 refine aE (aA (bL Z Z (aB (aC (aE (aE (aA (wq (aH (.pointer _) Z) Z (dM bGg Z Z M0 (aJn _ b) (fun w1 M1=>(wq (aJ (.pointer _) Z) Z (aB (aC (aE (aA (wq (aH (.pointer _) Z) Z (wq (uP true underlying119 Z Z) Z (aB (aC (cE Z (aE (aA (wq (aH (.pointer _) Z) Z (wq (bN Z) Z (wq (aD 0 tH Z) Z (aT Z Z ?_))))))))))))))))))))))))))
 refine eJ bRq Z Z (aXm _ _ _ _ _ _ _ _ _ hs (M1.ownSeg 0 3) key) ?_
 rintro v2 w2 ⟨rfl,A2,n2,c2,p2,er2,em2,hs2,hM2⟩
 have M2:Mem _ _ [_,_,_] _:=M1.seg 0 3 hM2
 refine bL Z Z (aB (aC (aR (cK (cF (.int _ _) Z ?_)))))
 obtain ⟨q1,q2⟩:=hR.remove key
 exact ⟨⟨A2,n2,c2,p2,er2,em2⟩,by rw [q2],aFs hs2 q1 (aIp hs.keys (hG.inm hR)),M2.keep [true,true,true]⟩
theorem aMy (w:World) (b:Nat) (r:StV) (vs:List Body) (hW:dG 39 r vs) (hO:Own [(some b,bc [.slice r.A r.n r.c,.map r.p] 107),r.er,r.em] w) (key:Int) :
  Calls prog 69 #[.pointer (some ⟨b,0,none⟩),.int .u32 key] w (gY (fun v w'=>v=.tuple #[(.agg (aF (rQ vs key).body).toArray),.int .i64 (rQ vs key).err]∧Mem w (cD [(some b,bc [.slice r.A r.n r.c,.map r.p] 107),r.er,r.em]) [(some b,bc [.slice r.A r.n r.c,.map r.p] 107),r.er,r.em] w')):=by
 obtain ⟨hG,m,hs,hR⟩:=hW
 refine aI #[.cell 4 39,.tmp 5] 19 func69 Z results69 ntmps69 Z ?_
 have M0:=hO.mem
 refine aE (aA (aO gL M0 Z Z (fun b1 w1 M1=>(bL Z Z (aB (aC (aE (aE (aA (wq (aH (.pointer _) Z) Z (dM bGg Z Z M1 (aJn _ b) (fun w2 M2=>(wq (aJ (.pointer _) Z) Z (aB (aC (aE (aA (wq (aH (.pointer _) Z) Z (wq (uP true underlying119 Z Z) Z (aB (aC (cE Z (aE (aA (wq (aH (.pointer _) Z) Z (wq (bN Z) Z (wq (aD 0 tH Z) Z ?_)))))))))))))))))))))))))))
 refine aT Z Z (eJ bRm Z Z (bOr _ _ _ _ _ _ _ _ _ hs (M2.ownSeg 0 3) key) ?_)
 rintro v3 w3 ⟨⟨x3,rfl,hx3⟩,hM3⟩
 have M3:Mem _ _ [_,_,_,_] _:=M2.seg 0 3 hM3
 have hge:=bMn hR key
 obtain rfl:x3=(rQ vs key).body:=by rw [hx3,hge]
 have hge2:(aHq m key).2=(rQ vs key).err:=by rw [hge]
 refine wq (bJ (.agg (.mk _)) Z Z) Z (wq (bJ (.int _ _) Z Z) Z (aL 17 (.int .i64 (rQ vs key).err) (iE hge2) (bC 3 _ bR M3 Z Z Z Z Z (aP Z) Z (fun w4 M4=>(bL Z Z (aB (aC (aR (cK (vB (v2:=.int _ _) 3 bR M4 Z Z Z Z ?_))))))))))
 exact ⟨Z,M4.keep [true,true,true,false]⟩
theorem zW (w:World) (b:Nat) (r:StV) (vs:List Body) (hW:dG 39 r vs) (hO:Own [(some b,bc [.slice r.A r.n r.c,.map r.p] 107),r.er,r.em] w) :
  Calls prog 38 #[.pointer (some ⟨b,0,none⟩)] w (gY (fun v w'=>∃ q:Row,v=.slice q.A q.n q.c∧bA 39 10 q.A q.n q.c ((vs).map aF) q.e∧Mem w (cD [(some b,bc [.slice r.A r.n r.c,.map r.p] 107),r.er,r.em]) [(some b,bc [.slice r.A r.n r.c,.map r.p] 107),r.er,r.em,q.e] w')):=by
 have hW':=hW
 obtain ⟨hG,m,hs,hR⟩:=hW
 refine aI #[.tmp 2] 10 func38 Z results38 ntmps38 Z ?_
 have M0:=hO.mem
 refine aE (aA (eI Z Z (aB (aC (aE (aE (aA (wq (aH (.pointer _) Z) Z (wq (gT false underlying25 Z Z) Z (aB (aC (cB Z (aM (aC (aE (aA (wq (aH (.pointer _) Z) Z (wq (bN Z) Z (wq (aD 0 vX Z) Z (wq (aD 0 tH Z) Z (eJ bWv Z Z (aXl _ _ _ _ _ _ _ _ _ hs (M0.ownSeg 0 3)) ?_)))))))))))))))))))))
 rintro v1 w1 ⟨A1,n1,c1,e1,rfl,hR1,hM1⟩
 have M1:Mem _ _ [_,_,_,_] _:=M0.seg 0 3 hM1
 rw [hR.eq] at hR1
 refine eI Z Z (aB (aC (aR (cF (.slice _ _ _) Z ?_))))
 exact ⟨⟨A1,n1,c1,e1⟩,Z,hR1,M1⟩
theorem oJ (w:World) (b:Nat) (r:StV) (vs:List Body) (hW:dG 39 r vs) (hO:Own [(some b,bc [.slice r.A r.n r.c,.map r.p] 107),r.er,r.em] w) :
  Calls prog 24 #[.pointer (some ⟨b,0,none⟩)] w (gY (fun v w'=>∃ q:Row,v=.slice q.A q.n q.c∧bA 5 1 q.A q.n q.c ((lE vs).map aZ) q.e∧Mem w (cD [(some b,bc [.slice r.A r.n r.c,.map r.p] 107),r.er,r.em]) [(some b,bc [.slice r.A r.n r.c,.map r.p] 107),r.er,r.em,q.e] w')):=by
 have hW':=hW
 obtain ⟨hG,m,hs,hR⟩:=hW
 refine aI #[.tmp 2] 14 func24 Z results24 ntmps24 Z ?_
 have M0:=hO.mem
 refine aE (aA (eI Z Z (aB (aC (aE (aE (aA (wq (aH (.pointer _) Z) Z (wq (gT false underlying25 Z Z) Z (aB (aC (cB Z (aM (aC (aE (aA (wq (aH (.pointer _) Z) Z (eJ bGe Z Z (zW _ _ r _ hW' (M0.ownSeg 0 3)) ?_))))))))))))))))))
 rintro v1 w1 ⟨q,rfl,hq,hM1⟩
 have M1:Mem _ _ [_,_,_,_] _:=M0.seg 0 3 hM1
 have hqn:vs.length=q.n:=by simpa using hq.1
 have hvl:=hG.len
 refine eJ bWq Z Z (aNr _ _ _ _ vs (hq.rd M1 (aN (i:=3) Z)) (by omega) hG.chk hG.inb) ?_
 rintro v2 w2 ⟨z,rfl,hz,hM2⟩
 have M2:Mem _ _ [_,_,_,_,_] _:=M1.call0 hM2
 refine wq (aH (.tuple (List.toArray _)) Z) Z (wq (bJ (.slice _ _ _) Z Z) Z (wq (bJ (.int _ _) Z Z) Z (eI Z Z (bL Z Z (aB (aC (aE (aA (dJ Z Z (eI Z Z (aB (aC (aR (cF (.slice _ _ _) Z ?_))))))))))))))
 exact ⟨z,Z,hz,M2.keep [true,true,true,false,true]⟩
theorem aKv (w:World) (b:Nat) (r:StV) (vs:List Body) (hW:dG 39 r vs) (hO:Own [(some b,bc [.slice r.A r.n r.c,.map r.p] 107),r.er,r.em] w) (key:Int) (j:Int × Int) (hj1 : -2147483648≤j.1∧j.1≤2147483647) (hj2 : -2147483648≤j.2∧j.2≤2147483647) :
  Calls prog 91 #[.pointer (some ⟨b,0,none⟩),.int .u32 key,.agg [.int .i32 j.1,.int .i32 j.2].toArray] w (gY (fun v w'=>∃ r':StV,v=.int .i64 (tQ vs key j).2∧dG 39 r' ((tQ vs key j).1)∧Mem w (cD [(some b,bc [.slice r.A r.n r.c,.map r.p] 107),r.er,r.em]) [(some b,bc [.slice r'.A r'.n r'.c,.map r'.p] 107),r'.er,r'.em] w')):=by
 have hW':=hW
 obtain ⟨hG,m,hs,hR⟩:=hW
 refine aI #[.tmp 6] 30 func91 Z results91 ntmps91 Z ?_
 have M0:=hO.mem
 refine aE (aA (bO (.agg (.mk _)) M0 Z Z Z (fun b1 w1 M1=>(bL Z Z (aB (aC (aE (aA (wq (aH (.pointer _) Z) Z (aT Z Z (eJ bPn Z Z (aMy _ _ r vs hW' (M1.ownSeg 0 3) key) ?_)))))))))))
 rintro v2 w2 ⟨rfl,hM2⟩
 have M2:Mem _ _ [_,_,_,_] _:=M1.seg 0 3 hM2
 refine wq (aH (.tuple (List.toArray _)) Z) Z (wq (bJ (.agg (.mk _)) Z Z) Z (wq (bJ (.int _ _) Z Z) Z (aO gL M2 Z Z (fun b3 w3 M3=>(bC 4 _ bR M3 Z Z Z Z Z (aP Z) Z (fun w4 M4=>(bL Z Z (aB (aC (aE (aE (aA (aT Z Z (cV Z Z Z Z (aB (aC ?_))))))))))))))))
 refine aW Z (fun h16 => ?_) (fun h16 => ?_)
 ·refine aE (aA (aT Z Z (bL Z Z (aB (aC (aR (cK (cF (.int _ _) Z ?_))))))))
  have hf:dV key vs < 0:=Decidable.byContradiction fun h=>h16 (by unfold rQ;rw [if_neg h];rfl)
  exact ⟨r,by rw [wA j hf];unfold rQ;rw [if_pos hf],by rw [wA j hf];exact hW',M4.keep [true,true,true,false,false]⟩
 ·have hf:¬ dV key vs < 0:=fun h=>h16 (by unfold rQ;rw [if_pos h];decide)
  obtain ⟨i,bb,hbi,_,hfi⟩:=(eX key vs).resolve_left (fun h=>hf (by omega))
  have hgb:(rQ vs key).body=bb:=by unfold rQ;rw [if_neg hf];exact wU hfi hbi
  obtain ⟨z1,z2,z3,z4⟩:=aZa hR hG j hfi hbi
  have hbo:=hG.okb bb (List.mem_of_getElem? hbi)
  refine aM (aC (aE (aA (wq (aV 4 bR M4 Z Z Z) Z (aL 19 ((.agg (aF bb).toArray)) (congrArg (fun x=>Value.agg (aF x).toArray) hgb) (wq (aV 3 bP M4 Z Z Z) Z (eJ bRs Z Z (bHs _ bb hbo j hj1 hj2) ?_)))))))
  rintro v5 w5 ⟨⟨gg,rfl⟩,hb5⟩
  have M5:=M4.callB hb5
  refine wq (aH (.tuple (List.toArray _)) Z) Z (wq (bJ (.agg (.mk _)) Z Z) Z (wq (bJ (.bool _) Z Z) Z (bC 4 _ bR M5 Z Z Z Z Z (aP Z) Z (fun w6 M6=>(aB (aC (aE (gJ [(0,0),(1,0),(2,0),(3,0),(4,1),(5,2),(6,0)] mixed M6 Z (by kernel_rfl) (fun w7 M7=>(aX Z Z Z (fun _=>aH (.pointer _) Z) (aX Z Z Z (fun _=>bN Z) (aX Z Z Z (fun _=>aD 0 vX Z) (aX Z Z Z (fun _=>aD 0 tH Z) (bQ Z Z Z (aV 4 bR M7 Z Z Z) (dO [true] Z (by kernel_rfl) ?_)))))))))))))))
  refine eJ bRt Z Z (bOs _ _ _ _ _ _ _ _ _ hs (M7.ownSeg 0 3) (pushB bb j)) ?_
  rintro v8 w8 ⟨rfl,A8,n8,c8,p8,er8,em8,hs8,hM8⟩
  have M8:Mem _ _ [_,_,_,_,_] _:=M7.seg 0 3 hM8
  refine aB (aC ⟨dI, ?_⟩)
  refine nV Z Z Z (bS (aC (aR (cF (.int _ _) Z ?_))))
  exact ⟨⟨A8,n8,c8,p8,er8,em8⟩,by rw [z3,z2],aFs hs8 z1 (aZp (hG.inm hR) (aZj (hG.inb bb (List.mem_of_getElem? hbi)) j)),M8.keep [true,true,true,false,false]⟩
theorem yX (w:World) (b:Nat) (r:StV) (vs:List Body) (hW:dG 39 r vs) (hO:Own [(some b,bc [.slice r.A r.n r.c,.map r.p] 107),r.er,r.em] w) (A:Option Addr) (n c:Nat) (xs:List Body) (RA:Rd w 10 A n (xs.map aF)) (hX:GoodV xs) (hdA:0 < n→∀ q off,A=some ⟨q,off,none⟩→q∉cD [(some b,bc [.slice r.A r.n r.c,.map r.p] 107),r.er,r.em]) :
  Calls prog 78 #[.pointer (some ⟨b,0,none⟩),.slice A n c] w (gY (fun v w'=>∃ r':StV,v=.tuple #[]∧dG 39 r' (xs)∧Mem w (cD [(some b,bc [.slice r.A r.n r.c,.map r.p] 107),r.er,r.em]) [(some b,bc [.slice r'.A r'.n r'.c,.map r'.p] 107),r'.er,r'.em] w')):=by
 have hlen:xs.length=n:=by simpa using RA.len
 have hbd:=RA.bound
 have hxl:=hX.len
 refine aI #[] 23 func78 Z results78 ntmps78 Z ?_
 have M0:=hO.mem
 refine aE (aA (wq (aH (.pointer _) Z) Z (wq (cI [] _ bDi Z Z) Z (wq (bN Z) Z (wq (aD 0 vX Z) Z (bC 0 _ bQs M0 Z Z Z Z Z (aP Z) Z (fun w1 M1=>(aB (aC (aE (aA ?_)))))))))))
 have M2:Mem _ _ [_,_,_] _:=(((M1.keep [true,false,false]).dummy default).dummy default)
 refine dJ Z Z (wq (bW underlying29 Z) Z (aT Z Z (aB (aC (aS (dK (σ:=Nat × StV) [0,10,11] (fun (k,r2)=>[(12,.int .i64 (k:Int))]) (fun (k,r2) w'=>(k≤n∧StoreIs 39 r2.A r2.n r2.c r2.p r2.er r2.em (xs.take k))∧Mem w (cD [(some b,bc [.slice r.A r.n r.c,.map r.p] 107),r.er,r.em]) [(some b,bc [.slice r2.A r2.n r2.c,.map r2.p] 107),r2.er,r2.em] w') (fun (k,r2)=>n - k) (0,⟨none,0,0,none,(none,default),(none,default)⟩) (bI Z eC) (⟨⟨by omega,(StoreIs.nil 39 default default)⟩,M2⟩) ?_))))))
 rintro ⟨k,r2⟩ ρ3 w3 ⟨⟨hk,hr⟩,hM3⟩
 refine aE (aA (cV Z Z Z Z (aB (aC (aE ?_)))))
 refine aW Z (fun h13 => ?_) (fun h13 => ?_)
 ·obtain ⟨xb,hxb⟩:=cG (xs:=xs) (k:=k) hlen (by omega)
  refine aM (aC (aE (aS (aE (aA (wq (bG (k) dU Z Z Z ((RA.memY hM3 hdA).below_len (aG aF hxb)) ((RA.memY hM3 hdA).someK (aG aF hxb))) Z (wq (dQ _ bR (RA.memY hM3 hdA) (aG aF hxb) Z) Z (aO gL hM3 Z Z (fun b4 w4 M4=>(bC 3 _ bR M4 Z Z Z Z Z (aP Z) Z (fun w5 M5=>(aB (aC (gJ [(0,0),(1,0),(2,0),(3,0),(4,1),(5,2)] mixed M5 Z (by kernel_rfl) (fun w6 M6=>(aX Z Z Z (fun _=>aH (.pointer _) Z) (aX Z Z Z (fun _=>bN Z) (aX Z Z Z (fun _=>aD 0 vX Z) ?_))))))))))))))))))
  refine aX Z Z Z (fun _=>aD 0 tH Z) (bQ Z Z Z (aV 3 bR M6 Z Z Z) (dO [true] Z (by kernel_rfl) (eJ bPm Z Z (bAg _ _ _ _ _ _ _ _ _ hr (M6.ownSeg 0 3) xb) ?_)))
  rintro v7 w7 ⟨rfl,A7,n7,c7,p7,er7,em7,hs7,hM7⟩
  have M7:Mem _ _ [_,_,_,_] _:=M6.seg 0 3 hM7
  refine aB (aC ⟨dI, ?_⟩)
  refine bS (cS (aC (aA (wq (bE Z Z (by omega) (by omega)) Z (aT Z Z (aB ?_))))))
  refine bU (k+1,⟨A7,n7,c7,p7,er7,em7⟩) (bI Z eC) (bX Z (bX Z (bX Z gR))) ?_ ?_
  ·exact ⟨⟨by omega,by rw [← aPy hX (k+1) (by omega),aGe hxb,aPy hX k (by omega)];exact hs7⟩,M7.keep [true,true,true,false]⟩
  ·(show n - (k+1) < n - k;omega)
 ·obtain rfl:k=n:=by omega
  rw [List.take_of_length_le (by omega)] at hr
  refine cM (cZ (dF (eL (lF ?_))))
  exact ⟨r2,Z,⟨hX,xs,hr,aBq hX.s⟩,hM3⟩
theorem aXi (w:World) (F:Rd w 2 (some ⟨0,0,none⟩) 1 [[.int .u32 73856093,.int .u32 19349663]]) (N:Rd w 4 (some ⟨3,0,none⟩) 1 [dY gZ]) (b:Nat) (r:StV) (vs:List Body) (hW:dG 39 r vs) (hO:Own [(some b,bc [.slice r.A r.n r.c,.map r.p] 107),r.er,r.em] w) (hdF:0 < 1→∀ q off,(some ⟨0,0,none⟩:Option Addr)=some ⟨q,off,none⟩→q∉cD [(some b,bc [.slice r.A r.n r.c,.map r.p] 107),r.er,r.em]) (hdN:0 < 1→∀ q off,(some ⟨3,0,none⟩:Option Addr)=some ⟨q,off,none⟩→q∉cD [(some b,bc [.slice r.A r.n r.c,.map r.p] 107),r.er,r.em]) :
  Calls prog 53 #[.pointer (some ⟨b,0,none⟩)] w (gY (fun v w'=>∃ (r':StV) (t:Nat),v=.agg [.int .i64 (t:Int),.int .i64 ((mM vs).length:Int),.bool (aBy vs)].toArray∧dG 39 r' (sO vs)∧Mem w (cD [(some b,bc [.slice r.A r.n r.c,.map r.p] 107),r.er,r.em]) [(some b,bc [.slice r'.A r'.n r'.c,.map r'.p] 107),r'.er,r'.em] w')):=by
 have hW':=hW
 obtain ⟨hG,m,hs,hR⟩:=hW
 have hvl:=hG.len
 refine aI #[.cell 2 58] 18 func53 Z results53 ntmps53 Z ?_
 have M0:=hO.mem
 refine aE (aA (aO aPp M0 Z Z (fun b1 w1 M1=>(aB (aC (aE (aE (aA (wq (aH (.pointer _) Z) Z (wq (gT false underlying25 Z Z) Z (aB (aC (cB Z (aM (aC (aE (aA (wq (aH (.pointer _) Z) Z (eJ bGe Z Z (zW _ _ r _ hW' (M1.ownSeg 0 3)) ?_)))))))))))))))))))
 rintro v2 w2 ⟨q,rfl,hq,hM2⟩
 have M2:Mem _ _ [_,_,_,_,_] _:=M1.seg 0 3 hM2
 have hqn:vs.length=q.n:=by simpa using hq.1
 refine eJ bWs Z Z (bDh _ (F.memY M2 hdF) (N.memY M2 hdN) _ _ _ vs (hq.rd M2 (aN (i:=4) Z)) hG.okb hG.s (by omega)) ?_
 rintro v3 w3 ⟨ra,ta,rfl,h1ta,h2ta,hra,hM3⟩
 have M3:Mem _ _ [_,_,_,_,_,_] _:=M2.call0 hM3
 refine wq (aH (.tuple (List.toArray _)) Z) Z (wq (bJ (.slice _ _ _) Z Z) Z (wq (bJ (.agg (.mk _)) Z Z) Z (aO aPp M3 Z Z (fun b4 w4 M4=>(eI Z Z (bC 6 _ aDq M4 Z Z Z Z Z (aP Z) Z (fun w5 M5=>(aB (aC (aE (aA (wq (aH (.pointer _) Z) Z (dJ Z Z (eJ bPr Z Z (yX _ _ r _ hW' (M5.ownSeg 0 3) ra.A ra.n ra.c (sO vs) (hra.rd M5 (aN (i:=5) Z)) hG.step (hra.awayS M5 0 3 5 Z Z)) ?_))))))))))))))
 rintro v6 w6 ⟨r2,rfl,hw2,hM6⟩
 have M6:Mem _ _ [_,_,_,_,_,_,_] _:=M5.seg 0 3 hM6
 refine aB (aC (aE (aA (wq (aV 6 aDq M6 Z Z Z) Z (bC 3 _ aDq M6 Z Z Z Z Z (aP Z) Z (fun w7 M7=>(aB (aC (aR (fA 3 aDq M7 Z Z Z ?_))))))))))
 exact ⟨r2,ta,Z,hw2,M7.keep [true,true,true,false,false,false,false]⟩
theorem yW (w:World) (b:Nat) (r:StV) (vs:List Body) (hW:dG 39 r vs) (hO:Own [(some b,bc [.slice r.A r.n r.c,.map r.p] 107),r.er,r.em] w) (BA:Option Addr) (nn cc:Nat) (ls:List Int) (RS:Rd w 1 BA nn (ls.map aZ)) (hB:gU ls) (hcap:nn≤cc) (hnn:nn≤1000000) (hdB:0 < nn→∀ q off,BA=some ⟨q,off,none⟩→q∉cD [(some b,bc [.slice r.A r.n r.c,.map r.p] 107),r.er,r.em]) :
  Calls prog 74 #[.pointer (some ⟨b,0,none⟩),.slice BA nn cc] w (gY (fun v w'=>∃ r':StV,v=.int .i64 (oM ls).2∧dG 39 r' (qJ vs ls)∧Mem w (cD [(some b,bc [.slice r.A r.n r.c,.map r.p] 107),r.er,r.em]) [(some b,bc [.slice r'.A r'.n r'.c,.map r'.p] 107),r'.er,r'.em] w')):=by
 have hW':=hW
 obtain ⟨hG,m,hs,hR⟩:=hW
 have hlen:ls.length=nn:=by simpa using RS.len
 refine aI #[.tmp 4] 20 func74 Z results74 ntmps74 Z ?_
 have M0:=hO.mem
 refine aE (aA (bL Z Z (aB (aC (aE (aE (aA (wq (aH (.pointer _) Z) Z (wq (gT false underlying25 Z Z) Z (aB (aC (cB Z (aM (aC (aE (aA (dJ Z Z (eJ bWn Z Z (aNq _ BA nn cc ls (RS.memY M0 hdB) hB hcap (by omega)) ?_))))))))))))))))))
 rintro v1 w1 ⟨q,rfl,hq,hM1⟩
 have M1:Mem _ _ [_,_,_,_] _:=M0.call0 hM1
 refine wq (aH (.tuple (List.toArray _)) Z) Z (wq (bJ (.slice _ _ _) Z Z) Z (wq (bJ (.int _ _) Z Z) Z (eI Z Z (bL Z Z (aB (aC (aE (aE (aA (aT Z Z (cV Z Z Z Z (aB (aC ?_)))))))))))))
 refine aW Z (fun h15 => ?_) (fun h15 => ?_)
 ·refine aA (wq (aH (.pointer _) Z) Z (dJ Z Z (eJ bPr Z Z (yX _ _ r _ hW' (M1.ownSeg 0 3) q.A q.n q.c (oM ls).1 (hq.rd M1 (aN (i:=3) Z)) (GoodV.dec hB (by omega) h15) (hq.awayS M1 0 3 3 Z Z)) ?_)))
  rintro v2 w2 ⟨r2,rfl,hw2,hM2⟩
  have M2:Mem _ _ [_,_,_,_] _:=M1.seg 0 3 hM2
  refine aB (aC (aE (aA (aT Z Z (bL Z Z (aB (aC (aR (cF (.int _ _) Z ?_)))))))))
  exact ⟨r2,Z,by unfold qJ;rw [if_pos h15];exact hw2,M2.keep [true,true,true,false]⟩
 ·refine aM (aC (aE (aA (aT Z Z (bL Z Z (aB (aC (aR (cF (.int _ _) Z ?_)))))))))
  exact ⟨r,Z,by unfold qJ;rw [if_neg h15];exact hW',M1.keep [true,true,true,false]⟩
theorem aKm (w:World) (q0:Row) (s:List Body) (hq0:bA 39 10 q0.A q0.n q0.c ((s).map aF) q0.e) (hG:GoodV s) (hO:Own [q0.e] w) (key:Int) (j:Int × Int) (hj1 : -2147483648≤j.1∧j.1≤2147483647) (hj2 : -2147483648≤j.2∧j.2≤2147483647) :
  Calls prog 96 #[.slice q0.A q0.n q0.c,.int .u32 key,.agg [.int .i32 j.1,.int .i32 j.2].toArray] w (gY (fun v w'=>∃ q:Row,v=.tuple #[.slice q.A q.n q.c,.int .i64 (tQ s key j).2]∧bA 39 10 q.A q.n q.c (((tQ s key j).1).map aF) q.e∧Mem w (cD [q0.e]) [q.e] w')):=by
 have hlen:s.length=q0.n:=by simpa using hq0.1
 have hsl:=hG.len
 refine aI #[.tmp 6,.tmp 7] 29 func96 Z results96 ntmps96 Z ?_
 have M0:=hO.mem
 refine aE (aA (bO (.agg (.mk _)) M0 Z Z Z (fun b1 w1 M1=>(eI Z Z (bL Z Z (aB (aC (aE (aA (dJ Z Z (aT Z Z (dM vA Z Z M1 (iY _ key _ _ _ s (hq0.rd M1 (aN (i:=0) Z))) (fun w2 M2=>(bL Z Z (aB (aC (aE (aE (aA (aT Z Z (cV Z Z Z Z (aB (aC ?_)))))))))))))))))))))))
 refine aW Z (fun h15 => ?_) (fun h15 => ?_)
 ·refine aE (aA (dJ Z Z (eI Z Z (bL Z Z (aB (aC (aR (cK (gE (.slice _ _ _) (.int _ _) Z Z ?_)))))))))
  exact ⟨q0,by rw [wA j h15],by rw [wA j h15];exact hq0,M2.keep [true,false]⟩
 ·obtain ⟨i,bb,hbi,_,hfi⟩:=(eX key s).resolve_left (fun h=>h15 (by omega))
  have hbo:=hG.okb bb (List.mem_of_getElem? hbi)
  have hie:tQ s key j=(zQ s (pushB bb j) false,0):=by unfold tQ;rw [if_neg (by omega),wU hfi hbi]
  refine aM (aC (aE (aGd [(0,0),(1,0),(2,1),(3,1),(4,1)] 5 9 [(6,0),(7,0),(8,0),(9,2),(10,2),(11,0)] [(5,2),(6,0),(7,0),(8,0),(10,2),(11,0)] mixed Z (by kernel_rfl) (fun w3 hb3 hh3 => ?_))))
  have M3:=M2.drew hb3 hh3
  refine rP Z Z Z (fun _=>aH (.slice _ _ _) Z) (rP Z Z Z (fun _=>aH (.int _ _) Z) (yF Z Z Z (bG (i) dU Z Z hfi ((hq0.rd M3 (aN (i:=0) Z)).below_len (aG aF hbi)) ((hq0.rd M3 (aN (i:=0) Z)).someK (aG aF hbi))) (yF Z Z Z (dQ _ bR (hq0.rd M3 (aN (i:=0) Z)) (aG aF hbi) Z) (yF Z Z Z (aV 1 bP M3 Z Z Z) ?_))))
  refine zZ ?_ ?_
  ·refine dO [true,true,true] Z (by kernel_rfl) (eJ bEy Z Z (aIo _ bb hbo j hj1 hj2) ?_)
   rintro v4 w4 ⟨⟨gg,rfl⟩,hb4⟩
   have M4:=M3.callB hb4
   refine aB (aC ⟨dI, ?_⟩)
   refine aX Z Z Z (fun _=>aH (.tuple (List.toArray _)) Z) (aX Z Z Z (fun _=>bJ (.agg (.mk _)) Z Z) (aX Z Z Z (fun _=>bJ (.bool _) Z Z) (dO [] Z (by kernel_rfl) (aO gL M4 Z Z (fun b5 w5 M5 => ?_)))))
   refine aB (aC ⟨dI, ?_⟩)
   refine dO [] Z (by kernel_rfl) (bC 2 _ bR M5 Z Z Z Z Z (aP Z) Z (fun w6 M6 => ?_))
   refine aB (aC ⟨dI, ?_⟩)
   refine aX Z Z Z (fun _=>aJ (.bool _) Z) (bS (aC (aE (aA (dJ Z Z (wq (aV 2 bR M6 Z Z Z) Z (eJ aNf Z Z (xR _ (pushB bb j) false _ _ _ s (hq0.rd M6 (aN (i:=0) Z)) (by omega)) ?_)))))))
   rintro v7 w7 ⟨A7,n7,c7,e7,rfl,hR7,hM7⟩
   have M7:Mem _ _ [_,_,_,_] _:=M6.call0 hM7
   refine eI Z Z (bL Z Z (aB (aC (aR (gE (.slice _ _ _) (.int _ _) Z Z ?_)))))
   exact ⟨⟨A7,n7,c7,e7⟩,by rw [hie],by rw [hie];exact hR7,M7.keep [false,false,false,true]⟩
  ·refine dO [false,false,false] Z (by kernel_rfl) (aO gL M3 Z Z (fun b8 w8 M8 => ?_))
   refine aB (aC ⟨(dS (bH Z (aV 1 bP M8 Z Z Z)) (dS (bH Z (dQ _ bR (hq0.rd M8 (aN (i:=0) Z)) (aG aF hbi) Z)) (dS (bH Z (bG (i) dU Z Z hfi ((hq0.rd M8 (aN (i:=0) Z)).below_len (aG aF hbi)) ((hq0.rd M8 (aN (i:=0) Z)).someK (aG aF hbi)))) dI))), ?_⟩)
   refine dO [true,true,true] Z (by kernel_rfl) (eJ bEy Z Z (aIo _ bb hbo j hj1 hj2) ?_)
   rintro v9 w9 ⟨⟨gg,rfl⟩,hb9⟩
   have M9:=M8.callB hb9
   refine aB (aC ⟨dI, ?_⟩)
   refine aX Z Z Z (fun _=>aH (.tuple (List.toArray _)) Z) (aX Z Z Z (fun _=>bJ (.agg (.mk _)) Z Z) (aX Z Z Z (fun _=>bJ (.bool _) Z Z) (dO [] Z (by kernel_rfl) (bC 2 _ bR M9 Z Z Z Z Z (aP Z) Z (fun w10 M10 => ?_)))))
   refine aB (aC ⟨dI, ?_⟩)
   refine aX Z Z Z (fun _=>aJ (.bool _) Z) (bS (aC (aE (aA (dJ Z Z (wq (aV 2 bR M10 Z Z Z) Z (eJ aNf Z Z (xR _ (pushB bb j) false _ _ _ s (hq0.rd M10 (aN (i:=0) Z)) (by omega)) ?_)))))))
   rintro v11 w11 ⟨A11,n11,c11,e11,rfl,hR11,hM11⟩
   have M11:Mem _ _ [_,_,_,_] _:=M10.call0 hM11
   refine eI Z Z (bL Z Z (aB (aC (aR (gE (.slice _ _ _) (.int _ _) Z Z ?_)))))
   exact ⟨⟨A11,n11,c11,e11⟩,by rw [hie],by rw [hie];exact hR11,M11.keep [false,false,false,true]⟩
theorem bJk (w:World) (q0:Row) (s:List Body) (hq0:bA 39 10 q0.A q0.n q0.c ((s).map aF) q0.e) (hG:GoodV s) (hO:Own [q0.e] w) (o:OpI) (BA:Option Addr) (nn cc:Nat) (hP:OpOk w o BA nn cc) (hnn:nn≤1000000) (hdB:0 < nn→∀ q off,BA=some ⟨q,off,none⟩→q∉cD [q0.e]) :
  Calls prog 56 #[.slice q0.A q0.n q0.c,.agg (dW o BA nn cc).toArray] w (gY (fun v w'=>∃ (q p:Row),v=.agg (bJm q.A q.n q.c p.A p.n p.c (doR s o).2).toArray∧bA 39 10 q.A q.n q.c (((doR s o).1).map aF) q.e∧bA 5 1 p.A p.n p.c (((doR s o).2.bytes).map aZ) p.e∧Mem w (cD [q0.e]) [q.e,p.e] w')):=by
 have hlen:s.length=q0.n:=by simpa using hq0.1
 have hsl:=hG.len
 have hbl:=hP.len
 refine aI #[.cell 4 112] 93 func56 Z results56 ntmps56 Z ?_
 have M0:=hO.mem
 refine aE (aA (bO (.agg (.mk _)) M0 Z Z Z (fun b1 w1 M1=>(aO aPm M1 Z Z (fun b2 w2 M2=>(aB (aC (aE (aA (dJ Z Z (wq (cI [(0,.slice _ _ _)] _ bDj Z Z) Z (aO aPm M2 Z Z (fun b3 w3 M3=>(bC 3 _ gM M3 Z Z Z Z Z (aP Z) Z (fun w4 M4=>(aB (aC (aE (aE (aA (wq (aD 0 bHe Z) Z (wq (aK 1 (.int _ _) fE M4 Z Z Z) Z (aB (aC (aS (aE (aA (cV Z Z Z Z (wq (aJ (.bool (decide _)) Z) Z (aB (aC ?_)))))))))))))))))))))))))))))))
 refine aW Z (fun h13 => ?_) (fun h13 => ?_)
 ·refine aA (dJ Z Z (wq (aD 1 bHf Z) Z (wq (sJ 1 _ bR M4 Z Z Z Z) Z (eJ bXm Z Z (bCq _ _ _ _ _ s hq0 (M4.ownAt (i:=0) Z) o.body (by omega)) ?_))))
  rintro v5 w5 ⟨A5,n5,c5,e5,rfl,hR5,hM5⟩
  have M5:Mem _ _ [_,_,_,_] _:=M4.seg 0 1 hM5
  refine wq (aH (.tuple (List.toArray _)) Z) Z (wq (bJ (.slice _ _ _) Z Z) Z (wq (bJ (.int _ _) Z Z) Z (wq (aD 0 tI Z) Z (dA 3 (.slice _ _ _) iD M5 Z Z Z Z Z Z (fun w6 M6=>(wq (aD 1 tJ Z) Z (dA 3 (.int _ _) fE M6 Z Z Z Z Z Z (fun w7 M7=>(aB (cS (aC (aE (aA (wq (aV 3 gM M7 Z Z Z) Z (bC 2 _ gM M7 Z Z Z Z Z (aP Z) Z (fun w8 M8=>(aB (aC (aR (fA 2 gM M8 Z Z Z ?_))))))))))))))))))))
  exact ⟨⟨A5,n5,c5,e5⟩,⟨none,0,0,(none,default)⟩,by rw [bGp h13];rfl,by rw [bGp h13];exact hR5,by rw [bGp h13];exact bA.nil _ _ _,(M8.keep [true,false,false,false]).dummy default⟩
 ·refine aE (aA (cV Z Z Z Z (wq (aJ (.bool (decide _)) Z) Z (aB (aC ?_)))))
  refine aW Z (fun h24 => ?_) (fun h24 => ?_)
  ·refine aA (dJ Z Z (wq (aD 11 aHd Z) Z (wq (aK 1 (.int _ _) bZ M4 Z Z Z) Z (eJ bXn Z Z (aOv _ _ _ _ _ s hq0 (M4.ownAt (i:=0) Z) o.key (by omega)) ?_))))
   rintro v9 w9 ⟨A9,n9,c9,e9,rfl,hR9,hM9⟩
   have M9:Mem _ _ [_,_,_,_] _:=M4.seg 0 1 hM9
   refine wq (aH (.tuple (List.toArray _)) Z) Z (wq (bJ (.slice _ _ _) Z Z) Z (wq (bJ (.int _ _) Z Z) Z (wq (aD 0 tI Z) Z (dA 3 (.slice _ _ _) iD M9 Z Z Z Z Z Z (fun w10 M10=>(wq (aD 1 tJ Z) Z (dA 3 (.int _ _) fE M10 Z Z Z Z Z Z (fun w11 M11=>(aB (cS (aC (aE (aA (wq (aV 3 gM M11 Z Z Z) Z (bC 2 _ gM M11 Z Z Z Z Z (aP Z) Z (fun w12 M12=>(aB (aC (aR (fA 2 gM M12 Z Z Z ?_))))))))))))))))))))
   exact ⟨⟨A9,n9,c9,e9⟩,⟨none,0,0,(none,default)⟩,by rw [bGq h24];rfl,by rw [bGq h24];exact hR9,by rw [bGq h24];exact bA.nil _ _ _,(M12.keep [true,false,false,false]).dummy default⟩
  ·refine aE (aA (cV Z Z Z Z (wq (aJ (.bool (decide _)) Z) Z (aB (aC ?_)))))
   refine aW Z (fun h35 => ?_) (fun h35 => ?_)
   ·refine aA (dJ Z Z (wq (aD 11 aHd Z) Z (wq (aK 1 (.int _ _) bZ M4 Z Z Z) Z (wq (aD 12 bHg Z) Z (wq (sJ 1 _ bP M4 Z Z Z Z) Z (eJ bXo Z Z (aKm _ q0 s hq0 hG (M4.ownAt (i:=0) Z) o.key o.push hP.p1 hP.p2) ?_))))))
    rintro v13 w13 ⟨qi,rfl,hqi,hM13⟩
    have M13:Mem _ _ [_,_,_,_] _:=M4.seg 0 1 hM13
    refine wq (aH (.tuple (List.toArray _)) Z) Z (wq (bJ (.slice _ _ _) Z Z) Z (wq (bJ (.int _ _) Z Z) Z (wq (aD 0 tI Z) Z (dA 3 (.slice _ _ _) iD M13 Z Z Z Z Z Z (fun w14 M14=>(wq (aD 1 tJ Z) Z (dA 3 (.int _ _) fE M14 Z Z Z Z Z Z (fun w15 M15=>(aB (cS (aC (aE (aA (wq (aV 3 gM M15 Z Z Z) Z (bC 2 _ gM M15 Z Z Z Z Z (aP Z) Z (fun w16 M16=>(aB (aC (aR (fA 2 gM M16 Z Z Z ?_))))))))))))))))))))
    exact ⟨qi,⟨none,0,0,(none,default)⟩,by rw [bGr h35];rfl,by rw [bGr h35];exact hqi,by rw [bGr h35];exact bA.nil _ _ _,(M16.keep [true,false,false,false]).dummy default⟩
   ·refine aE (aA (cV Z Z Z Z (wq (aJ (.bool (decide _)) Z) Z (aB (aC ?_)))))
    refine aW Z (fun h48 => ?_) (fun h48 => ?_)
    ·refine aA (dJ Z Z (eJ bXp Z Z (aWn _ _ _ _ s (hq0.rd M4 (aN (i:=0) Z)) hG.okb hG.s (by omega)) ?_))
     rintro v17 w17 ⟨rb,rfl,hrb,hM17⟩
     have M17:Mem _ _ [_,_,_,_,_] _:=M4.call0 hM17
     refine wq (aH (.tuple (List.toArray _)) Z) Z (wq (bJ (.slice _ _ _) Z Z) Z (wq (bJ (.int _ _) Z Z) Z (wq (bJ (.bool _) Z Z) Z (wq (aD 0 tI Z) Z (dA 3 (.slice _ _ _) iD M17 Z Z Z Z Z Z (fun w18 M18=>(wq (aD 13 aRk Z) Z (dA 3 (.int _ _) fE M18 Z Z Z Z Z Z (fun w19 M19=>(wq (aD 14 aRl Z) Z (dA 3 (.bool _) rR M19 Z Z Z Z Z Z (fun w20 M20=>(aB (cS (aC (aE (aA (wq (aV 3 gM M20 Z Z Z) Z (bC 2 _ gM M20 Z Z Z Z Z (aP Z) Z (fun w21 M21 => ?_))))))))))))))))))))
     refine aB (aC (aR (fA 2 gM M21 Z Z Z ?_)))
     exact ⟨rb,⟨none,0,0,(none,default)⟩,by rw [bGs h48];rfl,by rw [bGs h48];exact hrb,by rw [bGs h48];exact bA.nil _ _ _,(M21.keep [false,false,false,false,true]).dummy default⟩
    ·refine aE (aA (cV Z Z Z Z (wq (aJ (.bool (decide _)) Z) Z (aB (aC ?_)))))
     refine aW Z (fun h59 => ?_) (fun h59 => ?_)
     ·refine aA (dJ Z Z (eJ bPi Z Z (aEu _ _ _ _ s (hq0.rd M4 (aN (i:=0) Z)) (by omega) hG.inb) ?_))
      rintro v22 w22 ⟨pb,rfl,hpb,hM22⟩
      have M22:Mem _ _ [_,_,_,_,_] _:=M4.call0 hM22
      refine wq (aD 12 aRj Z) Z (dA 3 (.slice _ _ _) iR M22 Z Z Z Z Z Z (fun w23 M23=>(aB (cS (aC (aE (aA (wq (aV 3 gM M23 Z Z Z) Z (bC 2 _ gM M23 Z Z Z Z Z (aP Z) Z (fun w24 M24=>(aB (aC (aR (fA 2 gM M24 Z Z Z ?_))))))))))))))
      exact ⟨q0,pb,by rw [bGt h59];rfl,by rw [bGt h59];exact hq0,by rw [bGt h59];exact hpb,(M24.keep [true,false,false,false,true])⟩
     ·refine aE (aA (cV Z Z Z Z (wq (aJ (.bool (decide _)) Z) Z (aB (aC ?_)))))
      refine aW Z (fun h64 => ?_) (fun h64 => ?_)
      ·refine aE (aA (wq (aD 14 bHh Z) Z (wq (aK 1 (.slice _ _ _) iR M4 Z Z Z) Z (eJ bXq Z Z (aPa _ BA nn cc o.bytes (hP.rd.memY M4 hdB) hP.byt hP.cap (by omega)) ?_))))
       rintro v25 w25 ⟨qd,rfl,hqd,hM25⟩
       have M25:Mem _ _ [_,_,_,_,_] _:=M4.call0 hM25
       refine wq (aH (.tuple (List.toArray _)) Z) Z (wq (bJ (.slice _ _ _) Z Z) Z (wq (bJ (.int _ _) Z Z) Z (eI Z Z (bL Z Z (aB (aC (aE (aA (aT Z Z (wq (aD 1 tJ Z) Z (dA 3 (.int _ _) fE M25 Z Z Z Z Z Z (fun w26 M26=>(aB (aC (aE (aA (aT Z Z (cV Z Z Z Z (aB (aC ?_))))))))))))))))))))
       refine aW Z (fun h75 => ?_) (fun h75 => ?_)
       ·refine aA (dJ Z Z (wq (aD 0 tI Z) Z (dA 3 (.slice _ _ _) iD M26 Z Z Z Z Z Z (fun w27 M27=>(aB (cS (aC (aE (aA (wq (aV 3 gM M27 Z Z Z) Z (bC 2 _ gM M27 Z Z Z Z Z (aP Z) Z (fun w28 M28=>(aB (aC (aR (fA 2 gM M28 Z Z Z ?_))))))))))))))))
        exact ⟨qd,⟨none,0,0,(none,default)⟩,by rw [aRa h64];rfl,by rw [aRa h64];exact (by unfold qJ;rw [if_pos h75];exact hqd),by rw [aRa h64];exact bA.nil _ _ _,(M28.keep [false,false,false,false,true]).dummy default⟩
       ·refine aM (cS (aC (aE (aA (wq (aV 3 gM M26 Z Z Z) Z (bC 2 _ gM M26 Z Z Z Z Z (aP Z) Z (fun w29 M29=>(aB (aC (aR (fA 2 gM M29 Z Z Z ?_)))))))))))
        exact ⟨q0,⟨none,0,0,(none,default)⟩,by rw [aRa h64];rfl,by rw [aRa h64];exact (by unfold qJ;rw [if_neg h75];exact hq0),by rw [aRa h64];exact bA.nil _ _ _,(M29.keep [true,false,false,false,false]).dummy default⟩
      ·refine aE (aA (cV Z Z Z Z (wq (aJ (.bool (decide _)) Z) Z (aB (aC ?_)))))
       refine aW Z (fun h78 => ?_) (fun h78 => ?_)
       ·refine aE (aA (dJ Z Z (wq (aD 11 aHd Z) Z (wq (aK 1 (.int _ _) bZ M4 Z Z Z) Z (dM vA Z Z M4 (iY _ o.key _ _ _ s (hq0.rd M4 (aN (i:=0) Z))) (fun w30 M30=>(bL Z Z (aB (aC (aE (aA (aT Z Z (cV Z Z Z Z (aB (aC ?_)))))))))))))))
        refine aW Z (fun h85 => ?_) (fun h85 => ?_)
        ·refine aA (wq (aD 1 tJ Z) Z (dA 3 (.int _ _) fE M30 Z Z Z Z Z Z (fun w31 M31=>(aB (cS (aC (aE (aA (wq (aV 3 gM M31 Z Z Z) Z (bC 2 _ gM M31 Z Z Z Z Z (aP Z) Z (fun w32 M32=>(aB (aC (aR (fA 2 gM M32 Z Z Z ?_)))))))))))))))
         exact ⟨q0,⟨none,0,0,(none,default)⟩,by rw [aVe h78,aCs h85];rfl,by rw [aVe h78,aCs h85];exact hq0,by rw [aVe h78,aCs h85];exact bA.nil _ _ _,(M32.keep [true,false,false,false]).dummy default⟩
        ·obtain ⟨i,bb,hbi,_,hfi⟩:=(eX o.key s).resolve_left (fun h=>h85 (by omega))
         refine aA (dJ Z Z (aT Z Z (wq (bG (i) dU Z Z hfi ((hq0.rd M30 (aN (i:=0) Z)).below_len (aG aF hbi)) ((hq0.rd M30 (aN (i:=0) Z)).someK (aG aF hbi))) Z (wq (dQ _ bR (hq0.rd M30 (aN (i:=0) Z)) (aG aF hbi) Z) Z (wq (aD 2 bHd Z) Z (wX 3 _ bR M30 Z Z Z Z Z (aP Z) (Nat.le_of_ble_eq_true Z) (fun w33 M33=>(aB (cS (aC (aE (aA (wq (aV 3 gM M33 Z Z Z) Z (bC 2 _ gM M33 Z Z Z Z Z (aP Z) Z (fun w34 M34=>(aB (aC (aR ?_))))))))))))))))))
         refine fA 2 gM M34 Z Z Z ?_
         exact ⟨q0,⟨none,0,0,(none,default)⟩,by rw [aVe h78,aCt hfi hbi];rfl,by rw [aVe h78,aCt hfi hbi];exact hq0,by rw [aVe h78,aCt hfi hbi];exact bA.nil _ _ _,(M34.keep [true,false,false,false]).dummy default⟩
       ·refine aM (cS (aC (aE (aA (wq (aV 3 gM M4 Z Z Z) Z (bC 2 _ gM M4 Z Z Z Z Z (aP Z) Z (fun w35 M35=>(aB (aC (aR (fA 2 gM M35 Z Z Z ?_)))))))))))
        exact ⟨q0,⟨none,0,0,(none,default)⟩,by rw [bMb h13 h24 h35 h48 h59 h64 h78];rfl,by rw [bMb h13 h24 h35 h48 h59 h64 h78];exact hq0,by rw [bMb h13 h24 h35 h48 h59 h64 h78];exact bA.nil _ _ _,(M35.keep [true,false,false,false]).dummy default⟩
theorem bHb (w:World) :
  Calls prog 83 #[(.func (.func 26) #[] #[]:Value),(.func (.func 84) #[] #[]:Value)] w (gY (fun v w'=>∃ fa ga:Nat,v=(.func (.func 120) #[] #[.pointer (some ⟨fa,0,none⟩),.pointer (some ⟨ga,0,none⟩)]:Value)∧Mem w [] [(some fa,bc [(.func (.func 26) #[] #[]:Value)] 143),(some ga,bc [(.func (.func 84) #[] #[]:Value)] 144)] w')):=by
 refine aI #[.tmp 4] 6 func83 Z results83 ntmps83 Z ?_
 have M0:=Mem.refl w
 refine aE (aA (bO (.func _ _ _) M0 Z Z Z (fun b1 w1 M1=>(bO (.func _ _ _) M1 Z Z Z (fun b2 w2 M2=>(wq (aJ (_) Z) Z (aB (aC (aE (aA (wq (eB [] [.pointer _,.pointer _] Z Z) Z (wq (aJ (.func _ _ _) Z) Z (aB (aC (aR (cF (.func _ _ _) Z ?_))))))))))))))))
 exact ⟨_,_,Z,M2⟩
theorem aRe (w:World) :
  Calls prog 85 #[(.func (.func 86) #[] #[]:Value),(.func (.func 87) #[] #[]:Value)] w (gY (fun v w'=>∃ fa ga:Nat,v=(.func (.func 121) #[] #[.pointer (some ⟨fa,0,none⟩),.pointer (some ⟨ga,0,none⟩)]:Value)∧Mem w [] [(some fa,bc [(.func (.func 86) #[] #[]:Value)] 146),(some ga,bc [(.func (.func 87) #[] #[]:Value)] 148)] w')):=by
 refine aI #[.tmp 4] 6 func85 Z results85 ntmps85 Z ?_
 have M0:=Mem.refl w
 refine aE (aA (bO (.func _ _ _) M0 Z Z Z (fun b1 w1 M1=>(bO (.func _ _ _) M1 Z Z Z (fun b2 w2 M2=>(wq (aJ (_) Z) Z (aB (aC (aE (aA (wq (eB [] [.pointer _,.pointer _] Z Z) Z (wq (aJ (.func _ _ _) Z) Z (aB (aC (aR (cF (.func _ _ _) Z ?_))))))))))))))))
 exact ⟨_,_,Z,M2⟩
theorem aNx (w:World) :
  Calls prog 88 #[(.func (.func 74) #[] #[]:Value),(.func (.func 89) #[] #[]:Value)] w (gY (fun v w'=>∃ fa ga:Nat,v=(.func (.func 123) #[] #[.pointer (some ⟨fa,0,none⟩),.pointer (some ⟨ga,0,none⟩)]:Value)∧Mem w [] [(some fa,bc [(.func (.func 74) #[] #[]:Value)] 150),(some ga,bc [(.func (.func 89) #[] #[]:Value)] 151)] w')):=by
 refine aI #[.tmp 4] 6 func88 Z results88 ntmps88 Z ?_
 have M0:=Mem.refl w
 refine aE (aA (bO (.func _ _ _) M0 Z Z Z (fun b1 w1 M1=>(bO (.func _ _ _) M1 Z Z Z (fun b2 w2 M2=>(wq (aJ (_) Z) Z (aB (aC (aE (aA (wq (eB [] [.pointer _,.pointer _] Z Z) Z (wq (aJ (.func _ _ _) Z) Z (aB (aC (aR (cF (.func _ _ _) Z ?_))))))))))))))))
 exact ⟨_,_,Z,M2⟩
theorem bUs (w:World) (o:OpI) (BA:Option Addr) (nn cc:Nat) :
  Calls prog 84 #[.agg (dW o BA nn cc).toArray] w (Rb w ((.agg (aF o.body).toArray))):=by
 refine aI #[.cell 2 39] 5 func84 Z results84 ntmps84 Z ?_
 have M0:=Mem.refl w
 refine aE (aA (bO (.agg (.mk _)) M0 Z Z Z (fun b1 w1 M1=>(aO gL M1 Z Z (fun b2 w2 M2=>(aB (aC (aE (aA (wq (aD 1 aYr Z) Z (wq (sJ 0 _ bR M2 Z Z Z Z) Z (bC 1 _ bR M2 Z Z Z Z Z (aP Z) Z (fun w3 M3=>(aB (aC (aR (fA 1 bR M3 Z Z Z ?_)))))))))))))))))
 exact ⟨Z,M3.below⟩
theorem bUt (w:World) (o:OpI) (BA:Option Addr) (nn cc:Nat) :
  Calls prog 87 #[.agg (dW o BA nn cc).toArray] w (Rb w (.int .u32 o.key)):=by
 refine aI #[.tmp 2] 5 func87 Z results87 ntmps87 Z ?_
 have M0:=Mem.refl w
 refine aE (aA (bO (.agg (.mk _)) M0 Z Z Z (fun b1 w1 M1=>(bL Z Z (aB (aC (aE (aA (wq (aD 11 aOa Z) Z (wq (aK 0 (.int _ _) bZ M1 Z Z Z) Z (bL Z Z (aB (aC (aR (cF (.int _ _) Z ?_)))))))))))))))
 exact ⟨Z,M1.below⟩
theorem bUu (w:World) (o:OpI) (BA:Option Addr) (nn cc:Nat) :
  Calls prog 89 #[.agg (dW o BA nn cc).toArray] w (Rb w (.slice BA nn cc)):=by
 refine aI #[.tmp 2] 5 func89 Z results89 ntmps89 Z ?_
 have M0:=Mem.refl w
 refine aE (aA (bO (.agg (.mk _)) M0 Z Z Z (fun b1 w1 M1=>(eI Z Z (aB (aC (aE (aA (wq (aD 14 rX Z) Z (wq (aK 0 (.slice _ _ _) iR M1 Z Z Z) Z (eI Z Z (aB (aC (aR (cF (.slice _ _ _) Z ?_)))))))))))))))
 exact ⟨Z,M1.below⟩
def uJ (f1 g1 f2 g2 f3 g3:Nat) (k:Int):Option Value:=if k=5 then some (.func (.func 93) #[] #[]:Value) else if k=4 then some (.func (.func 92) #[] #[]:Value) else if k=3 then some (.func (.func 90) #[] #[]:Value) else if k=6 then some (.func (.func 123) #[] #[.pointer (some ⟨f3,0,none⟩),.pointer (some ⟨g3,0,none⟩)]:Value) else if k=2 then some (.func (.func 121) #[] #[.pointer (some ⟨f2,0,none⟩),.pointer (some ⟨g2,0,none⟩)]:Value) else if k=1 then some (.func (.func 120) #[] #[.pointer (some ⟨f1,0,none⟩),.pointer (some ⟨g1,0,none⟩)]:Value) else none
theorem bHw {f1 g1 f2 g2 f3 g3:Nat} {k:Int} (h:k=1):uJ f1 g1 f2 g2 f3 g3 k=some (.func (.func 120) #[] #[.pointer (some ⟨f1,0,none⟩),.pointer (some ⟨g1,0,none⟩)]:Value):=by subst h;rfl
theorem bHx {f1 g1 f2 g2 f3 g3:Nat} {k:Int} (h:k=2):uJ f1 g1 f2 g2 f3 g3 k=some (.func (.func 121) #[] #[.pointer (some ⟨f2,0,none⟩),.pointer (some ⟨g2,0,none⟩)]:Value):=by subst h;rfl
theorem bIb {f1 g1 f2 g2 f3 g3:Nat} {k:Int} (h:k=6):uJ f1 g1 f2 g2 f3 g3 k=some (.func (.func 123) #[] #[.pointer (some ⟨f3,0,none⟩),.pointer (some ⟨g3,0,none⟩)]:Value):=by subst h;rfl
theorem bHy {f1 g1 f2 g2 f3 g3:Nat} {k:Int} (h:k=3):uJ f1 g1 f2 g2 f3 g3 k=some (.func (.func 90) #[] #[]:Value):=by subst h;rfl
theorem bHz {f1 g1 f2 g2 f3 g3:Nat} {k:Int} (h:k=4):uJ f1 g1 f2 g2 f3 g3 k=some (.func (.func 92) #[] #[]:Value):=by subst h;rfl
theorem bIa {f1 g1 f2 g2 f3 g3:Nat} {k:Int} (h:k=5):uJ f1 g1 f2 g2 f3 g3 k=some (.func (.func 93) #[] #[]:Value):=by subst h;rfl
theorem bIc {f1 g1 f2 g2 f3 g3:Nat} {k:Int} (h:k < 1∨6 < k):uJ f1 g1 f2 g2 f3 g3 k=none:=by unfold uJ;rw [if_neg (by omega),if_neg (by omega),if_neg (by omega),if_neg (by omega),if_neg (by omega),if_neg (by omega)]
theorem lD (w:World) :
  Calls prog 55 #[] w (gY (fun v w'=>∃ (p:Option Nat) (e:eQ) (f1 g1 f2 g2 f3 g3:Nat),v=.map p∧lQ .i64 (fun v:Value=>v) (uJ f1 g1 f2 g2 f3 g3) p e∧Mem w [] [e,(some f1,bc [(.func (.func 26) #[] #[]:Value)] 143),(some g1,bc [(.func (.func 84) #[] #[]:Value)] 144),(some f2,bc [(.func (.func 86) #[] #[]:Value)] 146),(some g2,bc [(.func (.func 87) #[] #[]:Value)] 148),(some f3,bc [(.func (.func 74) #[] #[]:Value)] 150),(some g3,bc [(.func (.func 89) #[] #[]:Value)] 151)] w')):=by
 refine aI #[.tmp 0] 6 func55 Z results55 ntmps55 Z ?_
 have M0:=Mem.refl w
 refine aE (aA (wq (aJ (.map _) Z) Z (aB (aC (aE (aA (pB M0 Z Z (fun b1 w1 M1=>(eJ bXb Z Z (bHb _) ?_)))))))))
 rintro v2 w2 ⟨f1,g1,rfl,hM2⟩
 have M2:Mem _ _ [_,_,_] _:=M1.call0 hM2
 refine qV (enc:=(fun v:Value=>v)) (v:=(.func _ _ _)) 0 oW M2 Z Z (lQ.empty _ _ b1) Z Z Z Z (fun e3 w3 hm3 M3=>(eJ bXd Z Z (aRe _) ?_))
 rintro v4 w4 ⟨f2,g2,rfl,hM4⟩
 have M4:Mem _ _ [_,_,_,_,_] _:=M3.call0 hM4
 refine qV (enc:=(fun v:Value=>v)) (v:=(.func _ _ _)) 0 oW M4 Z Z hm3 Z Z Z Z (fun e5 w5 hm5 M5=>(eJ bXg Z Z (aNx _) ?_))
 rintro v6 w6 ⟨f3,g3,rfl,hM6⟩
 have M6:Mem _ _ [_,_,_,_,_,_,_] _:=M5.call0 hM6
 refine qV (enc:=(fun v:Value=>v)) (v:=(.func _ _ _)) 0 oW M6 Z Z hm5 Z Z Z Z (fun e7 w7 hm7 M7=>(qV (enc:=(fun v:Value=>v)) (v:=(.func _ _ _)) 0 oW M7 Z Z hm7 Z Z Z Z (fun e8 w8 hm8 M8=>(qV (enc:=(fun v:Value=>v)) (v:=(.func _ _ _)) 0 oW M8 Z Z hm8 Z Z Z Z (fun e9 w9 hm9 M9=>(qV (enc:=(fun v:Value=>v)) (v:=(.func _ _ _)) 0 oW M9 Z Z hm9 Z Z Z Z (fun e10 w10 hm10 M10=>(wq (aH (.map _) Z) Z (wq (aJ (.map _) Z) Z (aB (aC (aR (cF (.map _) Z ?_)))))))))))))
 exact ⟨_,_,f1,g1,f2,g2,f3,g3,Z,hm10,M10⟩
theorem bIj (w:World) (b:Nat) (r:StV) (vs:List Body) (hW:dG 39 r vs) (fa ga:Nat) (hO:Own [(some b,bc [.slice r.A r.n r.c,.map r.p] 107),r.er,r.em,(some fa,bc [(.func (.func 26) #[] #[]:Value)] 143),(some ga,bc [(.func (.func 84) #[] #[]:Value)] 144)] w) (o:OpI) (BA:Option Addr) (nn cc:Nat) (hP:OpOk w o BA nn cc) (hnn:nn≤1000000) (hdB:0 < nn→∀ q off,BA=some ⟨q,off,none⟩→q∉cD [(some b,bc [.slice r.A r.n r.c,.map r.p] 107),r.er,r.em,(some fa,bc [(.func (.func 26) #[] #[]:Value)] 143),(some ga,bc [(.func (.func 84) #[] #[]:Value)] 144)]) :
  Calls prog 120 #[.pointer (some ⟨b,0,none⟩),.agg (dW o BA nn cc).toArray,.pointer (some ⟨fa,0,none⟩),.pointer (some ⟨ga,0,none⟩)] w (gY (fun v w'=>∃ r':StV,v=.agg [.int .i64 (pY vs o.body).2,.slice none 0 0,.int .i64 0,.bool false].toArray∧dG 39 r' ((pY vs o.body).1)∧Mem w (cD [(some b,bc [.slice r.A r.n r.c,.map r.p] 107),r.er,r.em,(some fa,bc [(.func (.func 26) #[] #[]:Value)] 143),(some ga,bc [(.func (.func 84) #[] #[]:Value)] 144)]) [(some b,bc [.slice r'.A r'.n r'.c,.map r'.p] 107),r'.er,r'.em,(some fa,bc [(.func (.func 26) #[] #[]:Value)] 143),(some ga,bc [(.func (.func 84) #[] #[]:Value)] 144)] w')):=by
 have hG:=hW.1
 have hbl:=hP.len
 refine aI #[.cell 6 33] 14 func120 Z results120 ntmps120 Z ?_
 have M0:=hO.mem
 refine aE (aA (bO (.agg (.mk _)) M0 Z Z Z (fun b1 w1 M1=>(aO jW M1 Z Z (fun b2 w2 M2=>(aB (aC (aE (gJ [(0,1),(1,0),(2,1),(3,1),(4,2),(5,2),(6,0),(7,2)] mixed M2 Z (by kernel_rfl) (fun w3 M3=>(bQ Z Z Z (aK 3 (.func _ _ _) bIr M3 Z Z Z) (aX Z Z Z (fun _=>aH (.pointer _) Z) (bQ Z Z Z (aK 4 (.func _ _ _) bVc M3 Z Z Z) (bQ Z Z Z (aV 5 jI M3 Z Z Z) (dO [true,true,false] Z (by kernel_rfl) (dM bXc Z Z M3 (bUs _ o BA nn cc) (fun w4 M4 => ?_)))))))))))))))))
 refine aB (aC ⟨(dS (bH Z (aK 3 (.func _ _ _) bIr M4 Z Z Z)) dI), ?_⟩)
 refine dO [true] Z (by kernel_rfl) (eJ bWk Z Z (bDu _ _ r vs hW (M4.ownSeg 0 3) o.body hP.body) ?_)
 rintro v5 w5 ⟨r2,rfl,hw2,hM5⟩
 have M5:Mem _ _ [_,_,_,_,_,_,_] _:=M4.seg 0 3 hM5
 refine aB (aC ⟨dI, ?_⟩)
 refine aX Z Z Z (fun _=>cI [(0,.int _ _)] _ rN Z Z) (dO [] Z (by kernel_rfl) (bC 6 _ fV M5 Z Z Z Z Z (aP Z) Z (fun w6 M6 => ?_)))
 refine aB (aC ⟨dI, ?_⟩)
 refine bS (aC (aR (fA 6 fV M6 Z Z Z ?_)))
 exact ⟨r2,Z,hw2,M6.keep [true,true,true,true,true,false,false]⟩
theorem aSb (w:World) (b:Nat) (r:StV) (vs:List Body) (hW:dG 39 r vs) (fa ga:Nat) (hO:Own [(some b,bc [.slice r.A r.n r.c,.map r.p] 107),r.er,r.em,(some fa,bc [(.func (.func 86) #[] #[]:Value)] 146),(some ga,bc [(.func (.func 87) #[] #[]:Value)] 148)] w) (o:OpI) (BA:Option Addr) (nn cc:Nat) (hP:OpOk w o BA nn cc) (hnn:nn≤1000000) (hdB:0 < nn→∀ q off,BA=some ⟨q,off,none⟩→q∉cD [(some b,bc [.slice r.A r.n r.c,.map r.p] 107),r.er,r.em,(some fa,bc [(.func (.func 86) #[] #[]:Value)] 146),(some ga,bc [(.func (.func 87) #[] #[]:Value)] 148)]) :
  Calls prog 121 #[.pointer (some ⟨b,0,none⟩),.agg (dW o BA nn cc).toArray,.pointer (some ⟨fa,0,none⟩),.pointer (some ⟨ga,0,none⟩)] w (gY (fun v w'=>∃ r':StV,v=.agg [.int .i64 (iX vs o.key).2,.slice none 0 0,.int .i64 0,.bool false].toArray∧dG 39 r' ((iX vs o.key).1)∧Mem w (cD [(some b,bc [.slice r.A r.n r.c,.map r.p] 107),r.er,r.em,(some fa,bc [(.func (.func 86) #[] #[]:Value)] 146),(some ga,bc [(.func (.func 87) #[] #[]:Value)] 148)]) [(some b,bc [.slice r'.A r'.n r'.c,.map r'.p] 107),r'.er,r'.em,(some fa,bc [(.func (.func 86) #[] #[]:Value)] 146),(some ga,bc [(.func (.func 87) #[] #[]:Value)] 148)] w')):=by
 have hG:=hW.1
 have hbl:=hP.len
 refine aI #[.cell 6 33] 14 func121 Z results121 ntmps121 Z ?_
 have M0:=hO.mem
 refine aE (aA (bO (.agg (.mk _)) M0 Z Z Z (fun b1 w1 M1=>(aO jW M1 Z Z (fun b2 w2 M2=>(aB (aC (aE (gJ [(0,1),(1,0),(2,1),(3,1),(4,2),(5,2),(6,0),(7,2)] mixed M2 Z (by kernel_rfl) (fun w3 M3=>(bQ Z Z Z (aK 3 (.func _ _ _) bIs M3 Z Z Z) (aX Z Z Z (fun _=>aH (.pointer _) Z) (bQ Z Z Z (aK 4 (.func _ _ _) bVd M3 Z Z Z) (bQ Z Z Z (aV 5 jI M3 Z Z Z) (dO [true,true,false] Z (by kernel_rfl) (dM bXf Z Z M3 (bUt _ o BA nn cc) (fun w4 M4 => ?_)))))))))))))))))
 refine aB (aC ⟨(dS (bH Z (aK 3 (.func _ _ _) bIs M4 Z Z Z)) dI), ?_⟩)
 refine dO [true] Z (by kernel_rfl) (eJ bXe Z Z (aPj _ _ r vs hW (M4.ownSeg 0 3) o.key) ?_)
 rintro v5 w5 ⟨r2,rfl,hw2,hM5⟩
 have M5:Mem _ _ [_,_,_,_,_,_,_] _:=M4.seg 0 3 hM5
 refine aB (aC ⟨dI, ?_⟩)
 refine aX Z Z Z (fun _=>cI [(0,.int _ _)] _ rN Z Z) (dO [] Z (by kernel_rfl) (bC 6 _ fV M5 Z Z Z Z Z (aP Z) Z (fun w6 M6 => ?_)))
 refine aB (aC ⟨dI, ?_⟩)
 refine bS (aC (aR (fA 6 fV M6 Z Z Z ?_)))
 exact ⟨r2,Z,hw2,M6.keep [true,true,true,true,true,false,false]⟩
theorem aOh (w:World) (b:Nat) (r:StV) (vs:List Body) (hW:dG 39 r vs) (fa ga:Nat) (hO:Own [(some b,bc [.slice r.A r.n r.c,.map r.p] 107),r.er,r.em,(some fa,bc [(.func (.func 74) #[] #[]:Value)] 150),(some ga,bc [(.func (.func 89) #[] #[]:Value)] 151)] w) (o:OpI) (BA:Option Addr) (nn cc:Nat) (hP:OpOk w o BA nn cc) (hnn:nn≤1000000) (hdB:0 < nn→∀ q off,BA=some ⟨q,off,none⟩→q∉cD [(some b,bc [.slice r.A r.n r.c,.map r.p] 107),r.er,r.em,(some fa,bc [(.func (.func 74) #[] #[]:Value)] 150),(some ga,bc [(.func (.func 89) #[] #[]:Value)] 151)]) :
  Calls prog 123 #[.pointer (some ⟨b,0,none⟩),.agg (dW o BA nn cc).toArray,.pointer (some ⟨fa,0,none⟩),.pointer (some ⟨ga,0,none⟩)] w (gY (fun v w'=>∃ r':StV,v=.agg [.int .i64 (oM o.bytes).2,.slice none 0 0,.int .i64 0,.bool false].toArray∧dG 39 r' (qJ vs o.bytes)∧Mem w (cD [(some b,bc [.slice r.A r.n r.c,.map r.p] 107),r.er,r.em,(some fa,bc [(.func (.func 74) #[] #[]:Value)] 150),(some ga,bc [(.func (.func 89) #[] #[]:Value)] 151)]) [(some b,bc [.slice r'.A r'.n r'.c,.map r'.p] 107),r'.er,r'.em,(some fa,bc [(.func (.func 74) #[] #[]:Value)] 150),(some ga,bc [(.func (.func 89) #[] #[]:Value)] 151)] w')):=by
 have hG:=hW.1
 have hbl:=hP.len
 refine aI #[.cell 6 33] 14 func123 Z results123 ntmps123 Z ?_
 have M0:=hO.mem
 refine aE (aA (bO (.agg (.mk _)) M0 Z Z Z (fun b1 w1 M1=>(aO jW M1 Z Z (fun b2 w2 M2=>(aB (aC (aE (gJ [(0,1),(1,0),(2,1),(3,1),(4,2),(5,2),(6,0),(7,2)] mixed M2 Z (by kernel_rfl) (fun w3 M3=>(bQ Z Z Z (aK 3 (.func _ _ _) bIt M3 Z Z Z) (aX Z Z Z (fun _=>aH (.pointer _) Z) (bQ Z Z Z (aK 4 (.func _ _ _) bVe M3 Z Z Z) (bQ Z Z Z (aV 5 jI M3 Z Z Z) (dO [true,true,false] Z (by kernel_rfl) (dM bXh Z Z M3 (bUu _ o BA nn cc) (fun w4 M4 => ?_)))))))))))))))))
 refine aB (aC ⟨(dS (bH Z (aK 3 (.func _ _ _) bIt M4 Z Z Z)) dI), ?_⟩)
 refine dO [true] Z (by kernel_rfl) (eJ bPp Z Z (yW _ _ r vs hW (M4.ownSeg 0 3) BA nn cc o.bytes (hP.rd.memY M4 hdB) hP.byt hP.cap hnn (M4.away 0 3 hP.rd hdB)) ?_)
 rintro v5 w5 ⟨r2,rfl,hw2,hM5⟩
 have M5:Mem _ _ [_,_,_,_,_,_,_] _:=M4.seg 0 3 hM5
 refine aB (aC ⟨dI, ?_⟩)
 refine aX Z Z Z (fun _=>cI [(0,.int _ _)] _ rN Z Z) (dO [] Z (by kernel_rfl) (bC 6 _ fV M5 Z Z Z Z Z (aP Z) Z (fun w6 M6 => ?_)))
 refine aB (aC ⟨dI, ?_⟩)
 refine bS (aC (aR (fA 6 fV M6 Z Z Z ?_)))
 exact ⟨r2,Z,hw2,M6.keep [true,true,true,true,true,false,false]⟩
theorem aOg (w:World)  (b:Nat) (r:StV) (vs:List Body) (hW:dG 39 r vs) (hO:Own [(some b,bc [.slice r.A r.n r.c,.map r.p] 107),r.er,r.em] w) (o:OpI) (BA:Option Addr) (nn cc:Nat) (hP:OpOk w o BA nn cc) (hnn:nn≤1000000) (hdB:0 < nn→∀ q off,BA=some ⟨q,off,none⟩→q∉cD [(some b,bc [.slice r.A r.n r.c,.map r.p] 107),r.er,r.em]) (hk:o.kind=3) :
  Calls prog 90 #[.pointer (some ⟨b,0,none⟩),.agg (dW o BA nn cc).toArray] w (gY (fun v w'=>∃ (r':StV) (p:Row),v=.agg (cJ (iM vs o).2 p).toArray∧dG 39 r' (iM vs o).1∧bA 5 1 p.A p.n p.c (((iM vs o).2.bytes).map aZ) p.e∧Mem w (cD [(some b,bc [.slice r.A r.n r.c,.map r.p] 107),r.er,r.em]) [(some b,bc [.slice r'.A r'.n r'.c,.map r'.p] 107),r'.er,r'.em,p.e] w')):=by
 have hG:=hW.1
 have hbl:=hP.len
 refine aI #[.cell 4 33] 12 func90 Z results90 ntmps90 Z ?_
 have M0:=hO.mem
 refine aE (aA (bO (.agg (.mk _)) M0 Z Z Z (fun b1 w1 M1=>(aO jW M1 Z Z (fun b2 w2 M2=>(aB (aC (aE (aA (wq (aH (.pointer _) Z) Z (wq (aD 11 aOa Z) Z (wq (aK 3 (.int _ _) bZ M2 Z Z Z) Z (wq (aD 12 aYs Z) Z (wq (sJ 3 _ bP M2 Z Z Z Z) Z (eJ bXj Z Z (aKv _ _ r vs hW (M2.ownSeg 0 3) o.key o.push hP.p1 hP.p2) ?_)))))))))))))))
 rintro v3 w3 ⟨r2,rfl,hw2,hM3⟩
 have M3:Mem _ _ [_,_,_,_,_] _:=M2.seg 0 3 hM3
 refine wq (cI [(0,.int _ _)] _ rN Z Z) Z (bC 4 _ fV M3 Z Z Z Z Z (aP Z) Z (fun w4 M4=>(aB (aC (aR (fA 4 fV M4 Z Z Z ?_))))))
 exact ⟨r2,⟨none,0,0,(none,default)⟩,by rw [bVo hk];rfl,by rw [bVo hk];exact hw2,by rw [bVo hk];exact bA.nil _ _ _,(M4.keep [true,true,true,false,false]).dummy default⟩
theorem bCc (w:World) (F:Rd w 2 (some ⟨0,0,none⟩) 1 [[.int .u32 73856093,.int .u32 19349663]]) (N:Rd w 4 (some ⟨3,0,none⟩) 1 [dY gZ]) (b:Nat) (r:StV) (vs:List Body) (hW:dG 39 r vs) (hO:Own [(some b,bc [.slice r.A r.n r.c,.map r.p] 107),r.er,r.em] w) (o:OpI) (BA:Option Addr) (nn cc:Nat) (hP:OpOk w o BA nn cc) (hnn:nn≤1000000) (hdB:0 < nn→∀ q off,BA=some ⟨q,off,none⟩→q∉cD [(some b,bc [.slice r.A r.n r.c,.map r.p] 107),r.er,r.em]) (hdF:0 < 1→∀ q off,(some ⟨0,0,none⟩:Option Addr)=some ⟨q,off,none⟩→q∉cD [(some b,bc [.slice r.A r.n r.c,.map r.p] 107),r.er,r.em]) (hdN:0 < 1→∀ q off,(some ⟨3,0,none⟩:Option Addr)=some ⟨q,off,none⟩→q∉cD [(some b,bc [.slice r.A r.n r.c,.map r.p] 107),r.er,r.em]) (hk:o.kind=4) :
  Calls prog 92 #[.pointer (some ⟨b,0,none⟩),.agg (dW o BA nn cc).toArray] w (gY (fun v w'=>∃ (r':StV) (p:Row),v=.agg (cJ (iM vs o).2 p).toArray∧dG 39 r' (iM vs o).1∧bA 5 1 p.A p.n p.c (((iM vs o).2.bytes).map aZ) p.e∧Mem w (cD [(some b,bc [.slice r.A r.n r.c,.map r.p] 107),r.er,r.em]) [(some b,bc [.slice r'.A r'.n r'.c,.map r'.p] 107),r'.er,r'.em,p.e] w')):=by
 have hG:=hW.1
 have hbl:=hP.len
 refine aI #[.cell 4 33] 13 func92 Z results92 ntmps92 Z ?_
 have M0:=hO.mem
 refine aE (aA (bO (.agg (.mk _)) M0 Z Z Z (fun b1 w1 M1=>(aO jW M1 Z Z (fun b2 w2 M2=>(aB (aC (aE (aA (wq (aH (.pointer _) Z) Z (eJ bWm Z Z (aXi _ (F.memY M2 hdF) (N.memY M2 hdN) _ r vs hW (M2.ownSeg 0 3) (M2.away 0 3 F hdF) (M2.away 0 3 N hdN)) ?_)))))))))))
 rintro v3 w3 ⟨r2,ts,rfl,hw2,hM3⟩
 have M3:Mem _ _ [_,_,_,_,_] _:=M2.seg 0 3 hM3
 refine aO aPp M3 Z Z (fun b4 w4 M4=>(bC 5 _ aDq M4 Z Z Z Z Z (aP Z) Z (fun w5 M5=>(aB (aC (aE (aA (wq (aD 1 aYx Z) Z (wq (aK 5 (.int _ _) fE M5 Z Z Z) Z (wq (aD 2 aFr Z) Z (wq (aK 5 (.bool _) rR M5 Z Z Z) Z (wq (cI [(2,.int _ _),(3,.bool _)] _ rN Z Z) Z (bC 4 _ fV M5 Z Z Z Z Z (aP Z) Z (fun w6 M6=>(aB (aC (aR (fA 4 fV M6 Z Z Z ?_))))))))))))))))))
 exact ⟨r2,⟨none,0,0,(none,default)⟩,by rw [bJv hk];rfl,by rw [bJv hk];exact hw2,by rw [bJv hk];exact bA.nil _ _ _,(M6.keep [true,true,true,false,false,false]).dummy default⟩
theorem aKd (w:World)  (b:Nat) (r:StV) (vs:List Body) (hW:dG 39 r vs) (hO:Own [(some b,bc [.slice r.A r.n r.c,.map r.p] 107),r.er,r.em] w) (o:OpI) (BA:Option Addr) (nn cc:Nat) (hP:OpOk w o BA nn cc) (hnn:nn≤1000000) (hdB:0 < nn→∀ q off,BA=some ⟨q,off,none⟩→q∉cD [(some b,bc [.slice r.A r.n r.c,.map r.p] 107),r.er,r.em]) (hk:o.kind=5) :
  Calls prog 93 #[.pointer (some ⟨b,0,none⟩),.agg (dW o BA nn cc).toArray] w (gY (fun v w'=>∃ (r':StV) (p:Row),v=.agg (cJ (iM vs o).2 p).toArray∧dG 39 r' (iM vs o).1∧bA 5 1 p.A p.n p.c (((iM vs o).2.bytes).map aZ) p.e∧Mem w (cD [(some b,bc [.slice r.A r.n r.c,.map r.p] 107),r.er,r.em]) [(some b,bc [.slice r'.A r'.n r'.c,.map r'.p] 107),r'.er,r'.em,p.e] w')):=by
 have hG:=hW.1
 have hbl:=hP.len
 refine aI #[.cell 4 33] 8 func93 Z results93 ntmps93 Z ?_
 have M0:=hO.mem
 refine aE (aA (bO (.agg (.mk _)) M0 Z Z Z (fun b1 w1 M1=>(aO jW M1 Z Z (fun b2 w2 M2=>(aB (aC (aE (aA (wq (aH (.pointer _) Z) Z (eJ aXz Z Z (oJ _ _ r vs hW (M2.ownSeg 0 3)) ?_)))))))))))
 rintro v3 w3 ⟨pb,rfl,hpb,hM3⟩
 have M3:Mem _ _ [_,_,_,_,_,_] _:=M2.seg 0 3 hM3
 refine wq (cI [(1,.slice _ _ _)] _ rN Z Z) Z (bC 4 _ fV M3 Z Z Z Z Z (aP Z) Z (fun w4 M4=>(aB (aC (aR (fA 4 fV M4 Z Z Z ?_))))))
 exact ⟨r,pb,by rw [bVp hk];rfl,by rw [bVp hk];exact hW,by rw [bVp hk];exact hpb,(M4.keep [true,true,true,false,false,true])⟩
theorem aWw (w:World)  (b:Nat) (r:StV) (vs:List Body) (hW:dG 39 r vs) (hO:Own [(some b,bc [.slice r.A r.n r.c,.map r.p] 107),r.er,r.em] w) (o:OpI) (BA:Option Addr) (nn cc:Nat) (hP:OpOk w o BA nn cc) (hnn:nn≤1000000) (hdB:0 < nn→∀ q off,BA=some ⟨q,off,none⟩→q∉cD [(some b,bc [.slice r.A r.n r.c,.map r.p] 107),r.er,r.em]) (hk:o.kind=1) :
  Calls prog 20 #[.pointer (some ⟨b,0,none⟩),.agg (dW o BA nn cc).toArray] w (gY (fun v w'=>∃ (r':StV) (p:Row),v=.agg (cJ (iM vs o).2 p).toArray∧dG 39 r' (iM vs o).1∧bA 5 1 p.A p.n p.c (((iM vs o).2.bytes).map aZ) p.e∧Mem w (cD [(some b,bc [.slice r.A r.n r.c,.map r.p] 107),r.er,r.em]) [(some b,bc [.slice r'.A r'.n r'.c,.map r'.p] 107),r'.er,r'.em,p.e] w')):=by
 have hG:=hW.1
 have hbl:=hP.len
 refine aI #[.cell 4 33] 21 func20 Z results20 ntmps20 Z ?_
 have M0:=hO.mem
 refine aE (aA (bO (.agg (.mk _)) M0 Z Z Z (fun b1 w1 M1=>(aO jW M1 Z Z (fun b2 w2 M2=>(aB (aC (aE (gJ [(1,0),(2,1),(0,2),(3,1),(4,0),(5,0),(6,0),(7,0),(8,0)] mixed M2 Z (by kernel_rfl) (fun w3 M3=>(aX Z Z Z (fun _=>aD 0 qL Z) (bQ Z Z Z (aK 3 (.int _ _) fE M3 Z Z Z) (dO [false] Z (by kernel_rfl) (eJ aGo Z Z (lD _) ?_))))))))))))))
 rintro v4 w4 ⟨pm,em,f1,g1,f2,g2,f3,g3,rfl,hmap,hM4⟩
 have M4:Mem _ _ [_,_,_,_,_,_,_,_,_,_,_,_] _:=M3.call0 hM4
 refine aB (aC ⟨(dS (bH Z (aK 3 (.int _ _) fE M4 Z Z Z)) dI), ?_⟩)
 refine bQ Z Z Z (lT (enc:=(fun v:Value=>v)) .nilFunc 5 oW aXo M4 Z hmap Z Z) (dX 11 (.tuple [(.func (.func 120) #[] #[.pointer (some ⟨f1,0,none⟩),.pointer (some ⟨g1,0,none⟩)]:Value),.bool true].toArray) (qR (bHw hk)) (aX Z Z Z (fun _=>aH (.tuple (List.toArray _)) Z) (aX Z Z Z (fun _=>bJ (.func _ _ _) Z Z) (aX Z Z Z (fun _=>bJ (.bool true) Z Z) (aX Z Z Z (fun _=>aJ (.func _ _ _) Z) (aX Z Z Z (fun _=>aJ (.bool true) Z) (bS (aC (aE (aE (aA (wq (aH (.bool true) Z) Z ?_))))))))))))
 refine wq (fB false Z Z) Z (aB (aC (cB Z (aM (aC (aE (aA (wq (aH (.func _ _ _) Z) Z (wq (aH (.pointer _) Z) Z (wq (aV 3 jI M4 Z Z Z) Z (eJ bRo Z Z (bIj _ _ r vs hW _ _ (M4.ownK [true,true,true,false,false,false,true,true,false,false,false,false]) o BA nn cc (hP.memY M4 hdB) hnn (M4.awayK [true,true,true,false,false,false,true,true,false,false,false,false] hP.rd hdB)) ?_)))))))))))
 rintro v5 w5 ⟨r2,rfl,hw2,hM5⟩
 have M5:Mem _ _ [_,_,_,_,_,_,_,_,_,_,_,_] _:=M4.callK [true,true,true,false,false,false,true,true,false,false,false,false] rfl hM5
 refine bC 6 _ fV M5 Z Z Z Z Z (aP Z) Z (fun w6 M6=>(aB (aC (aR (fA 6 fV M6 Z Z Z ?_)))))
 exact ⟨r2,⟨none,0,0,(none,default)⟩,by rw [bOa hk];rfl,by rw [bOa hk];exact hw2,by rw [bOa hk];exact bA.nil _ _ _,(M6.keep [true,true,true,false,false,false,false,false,false,false,false,false]).dummy default⟩
theorem aWx (w:World)  (b:Nat) (r:StV) (vs:List Body) (hW:dG 39 r vs) (hO:Own [(some b,bc [.slice r.A r.n r.c,.map r.p] 107),r.er,r.em] w) (o:OpI) (BA:Option Addr) (nn cc:Nat) (hP:OpOk w o BA nn cc) (hnn:nn≤1000000) (hdB:0 < nn→∀ q off,BA=some ⟨q,off,none⟩→q∉cD [(some b,bc [.slice r.A r.n r.c,.map r.p] 107),r.er,r.em]) (hk:o.kind=2) :
  Calls prog 20 #[.pointer (some ⟨b,0,none⟩),.agg (dW o BA nn cc).toArray] w (gY (fun v w'=>∃ (r':StV) (p:Row),v=.agg (cJ (iM vs o).2 p).toArray∧dG 39 r' (iM vs o).1∧bA 5 1 p.A p.n p.c (((iM vs o).2.bytes).map aZ) p.e∧Mem w (cD [(some b,bc [.slice r.A r.n r.c,.map r.p] 107),r.er,r.em]) [(some b,bc [.slice r'.A r'.n r'.c,.map r'.p] 107),r'.er,r'.em,p.e] w')):=by
 have hG:=hW.1
 have hbl:=hP.len
 refine aI #[.cell 4 33] 21 func20 Z results20 ntmps20 Z ?_
 have M0:=hO.mem
 refine aE (aA (bO (.agg (.mk _)) M0 Z Z Z (fun b1 w1 M1=>(aO jW M1 Z Z (fun b2 w2 M2=>(aB (aC (aE (gJ [(1,0),(2,1),(0,2),(3,1),(4,0),(5,0),(6,0),(7,0),(8,0)] mixed M2 Z (by kernel_rfl) (fun w3 M3=>(aX Z Z Z (fun _=>aD 0 qL Z) (bQ Z Z Z (aK 3 (.int _ _) fE M3 Z Z Z) (dO [false] Z (by kernel_rfl) (eJ aGo Z Z (lD _) ?_))))))))))))))
 rintro v4 w4 ⟨pm,em,f1,g1,f2,g2,f3,g3,rfl,hmap,hM4⟩
 have M4:Mem _ _ [_,_,_,_,_,_,_,_,_,_,_,_] _:=M3.call0 hM4
 refine aB (aC ⟨(dS (bH Z (aK 3 (.int _ _) fE M4 Z Z Z)) dI), ?_⟩)
 refine bQ Z Z Z (lT (enc:=(fun v:Value=>v)) .nilFunc 5 oW aXo M4 Z hmap Z Z) (dX 11 (.tuple [(.func (.func 121) #[] #[.pointer (some ⟨f2,0,none⟩),.pointer (some ⟨g2,0,none⟩)]:Value),.bool true].toArray) (qR (bHx hk)) (aX Z Z Z (fun _=>aH (.tuple (List.toArray _)) Z) (aX Z Z Z (fun _=>bJ (.func _ _ _) Z Z) (aX Z Z Z (fun _=>bJ (.bool true) Z Z) (aX Z Z Z (fun _=>aJ (.func _ _ _) Z) (aX Z Z Z (fun _=>aJ (.bool true) Z) (bS (aC (aE (aE (aA (wq (aH (.bool true) Z) Z ?_))))))))))))
 refine wq (fB false Z Z) Z (aB (aC (cB Z (aM (aC (aE (aA (wq (aH (.func _ _ _) Z) Z (wq (aH (.pointer _) Z) Z (wq (aV 3 jI M4 Z Z Z) Z (eJ bRp Z Z (aSb _ _ r vs hW _ _ (M4.ownK [true,true,true,false,false,false,false,false,true,true,false,false]) o BA nn cc (hP.memY M4 hdB) hnn (M4.awayK [true,true,true,false,false,false,false,false,true,true,false,false] hP.rd hdB)) ?_)))))))))))
 rintro v5 w5 ⟨r2,rfl,hw2,hM5⟩
 have M5:Mem _ _ [_,_,_,_,_,_,_,_,_,_,_,_] _:=M4.callK [true,true,true,false,false,false,false,false,true,true,false,false] rfl hM5
 refine bC 6 _ fV M5 Z Z Z Z Z (aP Z) Z (fun w6 M6=>(aB (aC (aR (fA 6 fV M6 Z Z Z ?_)))))
 exact ⟨r2,⟨none,0,0,(none,default)⟩,by rw [bVn hk];rfl,by rw [bVn hk];exact hw2,by rw [bVn hk];exact bA.nil _ _ _,(M6.keep [true,true,true,false,false,false,false,false,false,false,false,false]).dummy default⟩
theorem aXb (w:World)  (b:Nat) (r:StV) (vs:List Body) (hW:dG 39 r vs) (hO:Own [(some b,bc [.slice r.A r.n r.c,.map r.p] 107),r.er,r.em] w) (o:OpI) (BA:Option Addr) (nn cc:Nat) (hP:OpOk w o BA nn cc) (hnn:nn≤1000000) (hdB:0 < nn→∀ q off,BA=some ⟨q,off,none⟩→q∉cD [(some b,bc [.slice r.A r.n r.c,.map r.p] 107),r.er,r.em]) (hk:o.kind=6) :
  Calls prog 20 #[.pointer (some ⟨b,0,none⟩),.agg (dW o BA nn cc).toArray] w (gY (fun v w'=>∃ (r':StV) (p:Row),v=.agg (cJ (iM vs o).2 p).toArray∧dG 39 r' (iM vs o).1∧bA 5 1 p.A p.n p.c (((iM vs o).2.bytes).map aZ) p.e∧Mem w (cD [(some b,bc [.slice r.A r.n r.c,.map r.p] 107),r.er,r.em]) [(some b,bc [.slice r'.A r'.n r'.c,.map r'.p] 107),r'.er,r'.em,p.e] w')):=by
 have hG:=hW.1
 have hbl:=hP.len
 refine aI #[.cell 4 33] 21 func20 Z results20 ntmps20 Z ?_
 have M0:=hO.mem
 refine aE (aA (bO (.agg (.mk _)) M0 Z Z Z (fun b1 w1 M1=>(aO jW M1 Z Z (fun b2 w2 M2=>(aB (aC (aE (gJ [(1,0),(2,1),(0,2),(3,1),(4,0),(5,0),(6,0),(7,0),(8,0)] mixed M2 Z (by kernel_rfl) (fun w3 M3=>(aX Z Z Z (fun _=>aD 0 qL Z) (bQ Z Z Z (aK 3 (.int _ _) fE M3 Z Z Z) (dO [false] Z (by kernel_rfl) (eJ aGo Z Z (lD _) ?_))))))))))))))
 rintro v4 w4 ⟨pm,em,f1,g1,f2,g2,f3,g3,rfl,hmap,hM4⟩
 have M4:Mem _ _ [_,_,_,_,_,_,_,_,_,_,_,_] _:=M3.call0 hM4
 refine aB (aC ⟨(dS (bH Z (aK 3 (.int _ _) fE M4 Z Z Z)) dI), ?_⟩)
 refine bQ Z Z Z (lT (enc:=(fun v:Value=>v)) .nilFunc 5 oW aXo M4 Z hmap Z Z) (dX 11 (.tuple [(.func (.func 123) #[] #[.pointer (some ⟨f3,0,none⟩),.pointer (some ⟨g3,0,none⟩)]:Value),.bool true].toArray) (qR (bIb hk)) (aX Z Z Z (fun _=>aH (.tuple (List.toArray _)) Z) (aX Z Z Z (fun _=>bJ (.func _ _ _) Z Z) (aX Z Z Z (fun _=>bJ (.bool true) Z Z) (aX Z Z Z (fun _=>aJ (.func _ _ _) Z) (aX Z Z Z (fun _=>aJ (.bool true) Z) (bS (aC (aE (aE (aA (wq (aH (.bool true) Z) Z ?_))))))))))))
 refine wq (fB false Z Z) Z (aB (aC (cB Z (aM (aC (aE (aA (wq (aH (.func _ _ _) Z) Z (wq (aH (.pointer _) Z) Z (wq (aV 3 jI M4 Z Z Z) Z (eJ bRr Z Z (aOh _ _ r vs hW _ _ (M4.ownK [true,true,true,false,false,false,false,false,false,false,true,true]) o BA nn cc (hP.memY M4 hdB) hnn (M4.awayK [true,true,true,false,false,false,false,false,false,false,true,true] hP.rd hdB)) ?_)))))))))))
 rintro v5 w5 ⟨r2,rfl,hw2,hM5⟩
 have M5:Mem _ _ [_,_,_,_,_,_,_,_,_,_,_,_] _:=M4.callK [true,true,true,false,false,false,false,false,false,false,true,true] rfl hM5
 refine bC 6 _ fV M5 Z Z Z Z Z (aP Z) Z (fun w6 M6=>(aB (aC (aR (fA 6 fV M6 Z Z Z ?_)))))
 exact ⟨r2,⟨none,0,0,(none,default)⟩,by rw [bVq hk];rfl,by rw [bVq hk];exact hw2,by rw [bVq hk];exact bA.nil _ _ _,(M6.keep [true,true,true,false,false,false,false,false,false,false,false,false]).dummy default⟩
theorem aWy (w:World)  (b:Nat) (r:StV) (vs:List Body) (hW:dG 39 r vs) (hO:Own [(some b,bc [.slice r.A r.n r.c,.map r.p] 107),r.er,r.em] w) (o:OpI) (BA:Option Addr) (nn cc:Nat) (hP:OpOk w o BA nn cc) (hnn:nn≤1000000) (hdB:0 < nn→∀ q off,BA=some ⟨q,off,none⟩→q∉cD [(some b,bc [.slice r.A r.n r.c,.map r.p] 107),r.er,r.em]) (hk:o.kind=3) :
  Calls prog 20 #[.pointer (some ⟨b,0,none⟩),.agg (dW o BA nn cc).toArray] w (gY (fun v w'=>∃ (r':StV) (p:Row),v=.agg (cJ (iM vs o).2 p).toArray∧dG 39 r' (iM vs o).1∧bA 5 1 p.A p.n p.c (((iM vs o).2.bytes).map aZ) p.e∧Mem w (cD [(some b,bc [.slice r.A r.n r.c,.map r.p] 107),r.er,r.em]) [(some b,bc [.slice r'.A r'.n r'.c,.map r'.p] 107),r'.er,r'.em,p.e] w')):=by
 have hG:=hW.1
 have hbl:=hP.len
 refine aI #[.cell 4 33] 21 func20 Z results20 ntmps20 Z ?_
 have M0:=hO.mem
 refine aE (aA (bO (.agg (.mk _)) M0 Z Z Z (fun b1 w1 M1=>(aO jW M1 Z Z (fun b2 w2 M2=>(aB (aC (aE (gJ [(1,0),(2,1),(0,2),(3,1),(4,0),(5,0),(6,0),(7,0),(8,0)] mixed M2 Z (by kernel_rfl) (fun w3 M3=>(aX Z Z Z (fun _=>aD 0 qL Z) (bQ Z Z Z (aK 3 (.int _ _) fE M3 Z Z Z) (dO [false] Z (by kernel_rfl) (eJ aGo Z Z (lD _) ?_))))))))))))))
 rintro v4 w4 ⟨pm,em,f1,g1,f2,g2,f3,g3,rfl,hmap,hM4⟩
 have M4:Mem _ _ [_,_,_,_,_,_,_,_,_,_,_,_] _:=M3.call0 hM4
 refine aB (aC ⟨(dS (bH Z (aK 3 (.int _ _) fE M4 Z Z Z)) dI), ?_⟩)
 refine bQ Z Z Z (lT (enc:=(fun v:Value=>v)) .nilFunc 5 oW aXo M4 Z hmap Z Z) (dX 11 (.tuple [(.func (.func 90) #[] #[]:Value),.bool true].toArray) (qR (bHy hk)) (aX Z Z Z (fun _=>aH (.tuple (List.toArray _)) Z) (aX Z Z Z (fun _=>bJ (.func _ _ _) Z Z) (aX Z Z Z (fun _=>bJ (.bool true) Z Z) (aX Z Z Z (fun _=>aJ (.func _ _ _) Z) (aX Z Z Z (fun _=>aJ (.bool true) Z) (bS (aC (aE (aE (aA (wq (aH (.bool true) Z) Z (wq (fB false Z Z) Z (aB (aC ?_)))))))))))))))
 refine cB Z (aM (aC (aE (aA (wq (aH (.func _ _ _) Z) Z (wq (aH (.pointer _) Z) Z (wq (aV 3 jI M4 Z Z Z) Z (eJ bXi Z Z (aOg _ _ r vs hW (M4.ownSeg 0 3) o BA nn cc (hP.memY M4 hdB) hnn (M4.away 0 3 hP.rd hdB)  hk) ?_))))))))
 rintro v5 w5 ⟨r2,p2,rfl,hw2,hp2,hM5⟩
 have M5:Mem _ _ [_,_,_,_,_,_,_,_,_,_,_,_,_] _:=M4.seg 0 3 hM5
 refine bC 4 _ fV M5 Z Z Z Z Z (aP Z) Z (fun w6 M6=>(aB (aC (aR (fA 4 fV M6 Z Z Z ?_)))))
 exact ⟨r2,p2,Z,hw2,hp2,M6.keep [true,true,true,false,false,false,false,false,false,false,false,false,true]⟩
theorem aWz (w:World) (F:Rd w 2 (some ⟨0,0,none⟩) 1 [[.int .u32 73856093,.int .u32 19349663]]) (N:Rd w 4 (some ⟨3,0,none⟩) 1 [dY gZ]) (b:Nat) (r:StV) (vs:List Body) (hW:dG 39 r vs) (hO:Own [(some b,bc [.slice r.A r.n r.c,.map r.p] 107),r.er,r.em] w) (o:OpI) (BA:Option Addr) (nn cc:Nat) (hP:OpOk w o BA nn cc) (hnn:nn≤1000000) (hdB:0 < nn→∀ q off,BA=some ⟨q,off,none⟩→q∉cD [(some b,bc [.slice r.A r.n r.c,.map r.p] 107),r.er,r.em]) (hdF:0 < 1→∀ q off,(some ⟨0,0,none⟩:Option Addr)=some ⟨q,off,none⟩→q∉cD [(some b,bc [.slice r.A r.n r.c,.map r.p] 107),r.er,r.em]) (hdN:0 < 1→∀ q off,(some ⟨3,0,none⟩:Option Addr)=some ⟨q,off,none⟩→q∉cD [(some b,bc [.slice r.A r.n r.c,.map r.p] 107),r.er,r.em]) (hk:o.kind=4) :
  Calls prog 20 #[.pointer (some ⟨b,0,none⟩),.agg (dW o BA nn cc).toArray] w (gY (fun v w'=>∃ (r':StV) (p:Row),v=.agg (cJ (iM vs o).2 p).toArray∧dG 39 r' (iM vs o).1∧bA 5 1 p.A p.n p.c (((iM vs o).2.bytes).map aZ) p.e∧Mem w (cD [(some b,bc [.slice r.A r.n r.c,.map r.p] 107),r.er,r.em]) [(some b,bc [.slice r'.A r'.n r'.c,.map r'.p] 107),r'.er,r'.em,p.e] w')):=by
 have hG:=hW.1
 have hbl:=hP.len
 refine aI #[.cell 4 33] 21 func20 Z results20 ntmps20 Z ?_
 have M0:=hO.mem
 refine aE (aA (bO (.agg (.mk _)) M0 Z Z Z (fun b1 w1 M1=>(aO jW M1 Z Z (fun b2 w2 M2=>(aB (aC (aE (gJ [(1,0),(2,1),(0,2),(3,1),(4,0),(5,0),(6,0),(7,0),(8,0)] mixed M2 Z (by kernel_rfl) (fun w3 M3=>(aX Z Z Z (fun _=>aD 0 qL Z) (bQ Z Z Z (aK 3 (.int _ _) fE M3 Z Z Z) (dO [false] Z (by kernel_rfl) (eJ aGo Z Z (lD _) ?_))))))))))))))
 rintro v4 w4 ⟨pm,em,f1,g1,f2,g2,f3,g3,rfl,hmap,hM4⟩
 have M4:Mem _ _ [_,_,_,_,_,_,_,_,_,_,_,_] _:=M3.call0 hM4
 refine aB (aC ⟨(dS (bH Z (aK 3 (.int _ _) fE M4 Z Z Z)) dI), ?_⟩)
 refine bQ Z Z Z (lT (enc:=(fun v:Value=>v)) .nilFunc 5 oW aXo M4 Z hmap Z Z) (dX 11 (.tuple [(.func (.func 92) #[] #[]:Value),.bool true].toArray) (qR (bHz hk)) (aX Z Z Z (fun _=>aH (.tuple (List.toArray _)) Z) (aX Z Z Z (fun _=>bJ (.func _ _ _) Z Z) (aX Z Z Z (fun _=>bJ (.bool true) Z Z) (aX Z Z Z (fun _=>aJ (.func _ _ _) Z) (aX Z Z Z (fun _=>aJ (.bool true) Z) (bS (aC (aE (aE (aA (wq (aH (.bool true) Z) Z (wq (fB false Z Z) Z (aB (aC ?_)))))))))))))))
 refine cB Z (aM (aC (aE (aA (wq (aH (.func _ _ _) Z) Z (wq (aH (.pointer _) Z) Z (wq (aV 3 jI M4 Z Z Z) Z (eJ bXk Z Z (bCc _ (F.memY M4 hdF) (N.memY M4 hdN) _ r vs hW (M4.ownSeg 0 3) o BA nn cc (hP.memY M4 hdB) hnn (M4.away 0 3 hP.rd hdB) (M4.away 0 3 F hdF) (M4.away 0 3 N hdN) hk) ?_))))))))
 rintro v5 w5 ⟨r2,p2,rfl,hw2,hp2,hM5⟩
 have M5:Mem _ _ [_,_,_,_,_,_,_,_,_,_,_,_,_] _:=M4.seg 0 3 hM5
 refine bC 4 _ fV M5 Z Z Z Z Z (aP Z) Z (fun w6 M6=>(aB (aC (aR (fA 4 fV M6 Z Z Z ?_)))))
 exact ⟨r2,p2,Z,hw2,hp2,M6.keep [true,true,true,false,false,false,false,false,false,false,false,false,true]⟩
theorem aXa (w:World)  (b:Nat) (r:StV) (vs:List Body) (hW:dG 39 r vs) (hO:Own [(some b,bc [.slice r.A r.n r.c,.map r.p] 107),r.er,r.em] w) (o:OpI) (BA:Option Addr) (nn cc:Nat) (hP:OpOk w o BA nn cc) (hnn:nn≤1000000) (hdB:0 < nn→∀ q off,BA=some ⟨q,off,none⟩→q∉cD [(some b,bc [.slice r.A r.n r.c,.map r.p] 107),r.er,r.em]) (hk:o.kind=5) :
  Calls prog 20 #[.pointer (some ⟨b,0,none⟩),.agg (dW o BA nn cc).toArray] w (gY (fun v w'=>∃ (r':StV) (p:Row),v=.agg (cJ (iM vs o).2 p).toArray∧dG 39 r' (iM vs o).1∧bA 5 1 p.A p.n p.c (((iM vs o).2.bytes).map aZ) p.e∧Mem w (cD [(some b,bc [.slice r.A r.n r.c,.map r.p] 107),r.er,r.em]) [(some b,bc [.slice r'.A r'.n r'.c,.map r'.p] 107),r'.er,r'.em,p.e] w')):=by
 have hG:=hW.1
 have hbl:=hP.len
 refine aI #[.cell 4 33] 21 func20 Z results20 ntmps20 Z ?_
 have M0:=hO.mem
 refine aE (aA (bO (.agg (.mk _)) M0 Z Z Z (fun b1 w1 M1=>(aO jW M1 Z Z (fun b2 w2 M2=>(aB (aC (aE (gJ [(1,0),(2,1),(0,2),(3,1),(4,0),(5,0),(6,0),(7,0),(8,0)] mixed M2 Z (by kernel_rfl) (fun w3 M3=>(aX Z Z Z (fun _=>aD 0 qL Z) (bQ Z Z Z (aK 3 (.int _ _) fE M3 Z Z Z) (dO [false] Z (by kernel_rfl) (eJ aGo Z Z (lD _) ?_))))))))))))))
 rintro v4 w4 ⟨pm,em,f1,g1,f2,g2,f3,g3,rfl,hmap,hM4⟩
 have M4:Mem _ _ [_,_,_,_,_,_,_,_,_,_,_,_] _:=M3.call0 hM4
 refine aB (aC ⟨(dS (bH Z (aK 3 (.int _ _) fE M4 Z Z Z)) dI), ?_⟩)
 refine bQ Z Z Z (lT (enc:=(fun v:Value=>v)) .nilFunc 5 oW aXo M4 Z hmap Z Z) (dX 11 (.tuple [(.func (.func 93) #[] #[]:Value),.bool true].toArray) (qR (bIa hk)) (aX Z Z Z (fun _=>aH (.tuple (List.toArray _)) Z) (aX Z Z Z (fun _=>bJ (.func _ _ _) Z Z) (aX Z Z Z (fun _=>bJ (.bool true) Z Z) (aX Z Z Z (fun _=>aJ (.func _ _ _) Z) (aX Z Z Z (fun _=>aJ (.bool true) Z) (bS (aC (aE (aE (aA (wq (aH (.bool true) Z) Z (wq (fB false Z Z) Z (aB (aC ?_)))))))))))))))
 refine cB Z (aM (aC (aE (aA (wq (aH (.func _ _ _) Z) Z (wq (aH (.pointer _) Z) Z (wq (aV 3 jI M4 Z Z Z) Z (eJ bXl Z Z (aKd _ _ r vs hW (M4.ownSeg 0 3) o BA nn cc (hP.memY M4 hdB) hnn (M4.away 0 3 hP.rd hdB)  hk) ?_))))))))
 rintro v5 w5 ⟨r2,p2,rfl,hw2,hp2,hM5⟩
 have M5:Mem _ _ [_,_,_,_,_,_,_,_,_,_,_,_,_] _:=M4.seg 0 3 hM5
 refine bC 4 _ fV M5 Z Z Z Z Z (aP Z) Z (fun w6 M6=>(aB (aC (aR (fA 4 fV M6 Z Z Z ?_)))))
 exact ⟨r2,p2,Z,hw2,hp2,M6.keep [true,true,true,false,false,false,false,false,false,false,false,false,true]⟩
theorem aWv (w:World)  (b:Nat) (r:StV) (vs:List Body) (hW:dG 39 r vs) (hO:Own [(some b,bc [.slice r.A r.n r.c,.map r.p] 107),r.er,r.em] w) (o:OpI) (BA:Option Addr) (nn cc:Nat) (hP:OpOk w o BA nn cc) (hdB:0 < nn→∀ q off,BA=some ⟨q,off,none⟩→q∉cD [(some b,bc [.slice r.A r.n r.c,.map r.p] 107),r.er,r.em]) (hk:o.kind < 1∨6 < o.kind) :
  Calls prog 20 #[.pointer (some ⟨b,0,none⟩),.agg (dW o BA nn cc).toArray] w (gY (fun v w'=>∃ (r':StV) (p:Row),v=.agg (cJ (iM vs o).2 p).toArray∧dG 39 r' (iM vs o).1∧bA 5 1 p.A p.n p.c (((iM vs o).2.bytes).map aZ) p.e∧Mem w (cD [(some b,bc [.slice r.A r.n r.c,.map r.p] 107),r.er,r.em]) [(some b,bc [.slice r'.A r'.n r'.c,.map r'.p] 107),r'.er,r'.em,p.e] w')):=by
 have hG:=hW.1
 have hbl:=hP.len
 refine aI #[.cell 4 33] 21 func20 Z results20 ntmps20 Z ?_
 have M0:=hO.mem
 refine aE (aA (bO (.agg (.mk _)) M0 Z Z Z (fun b1 w1 M1=>(aO jW M1 Z Z (fun b2 w2 M2=>(aB (aC (aE (gJ [(1,0),(2,1),(0,2),(3,1),(4,0),(5,0),(6,0),(7,0),(8,0)] mixed M2 Z (by kernel_rfl) (fun w3 M3=>(aX Z Z Z (fun _=>aD 0 qL Z) (bQ Z Z Z (aK 3 (.int _ _) fE M3 Z Z Z) (dO [false] Z (by kernel_rfl) (eJ aGo Z Z (lD _) ?_))))))))))))))
 rintro v4 w4 ⟨pm,em,f1,g1,f2,g2,f3,g3,rfl,hmap,hM4⟩
 have M4:Mem _ _ [_,_,_,_,_,_,_,_,_,_,_,_] _:=M3.call0 hM4
 refine aB (aC ⟨(dS (bH Z (aK 3 (.int _ _) fE M4 Z Z Z)) dI), ?_⟩)
 refine bQ Z Z Z (lT (enc:=(fun v:Value=>v)) .nilFunc 5 oW aXo M4 Z hmap Z Z) (dX 11 (.tuple [(.nilFunc:Value),.bool false].toArray) (bCa (bIc hk)) (aX Z Z Z (fun _=>aH (.tuple (List.toArray _)) Z) (aX Z Z Z (fun _=>bJ (_) Z Z) (aX Z Z Z (fun _=>bJ (.bool false) Z Z) (aX Z Z Z (fun _=>aJ (_) Z) (aX Z Z Z (fun _=>aJ (.bool false) Z) (bS (aC (aE (aE (aA (wq (aH (.bool false) Z) Z (wq (fB true Z Z) Z (aB (aC (cE Z (aE (aA ?_))))))))))))))))))
 refine wq (cI [(0,.int _ _)] _ rN Z Z) Z (bC 4 _ fV M4 Z Z Z Z Z (aP Z) Z (fun w5 M5=>(aB (aC (aR (cK (fA 4 fV M5 Z Z Z ?_)))))))
 exact ⟨r,⟨none,0,0,(none,default)⟩,by rw [kK (by omega)];rfl,by rw [kK (by omega)];exact hW,by rw [kK (by omega)];exact bA.nil _ _ _,(M5.keep [true,true,true,false,false,false,false,false,false,false,false,false]).dummy default⟩
theorem xT (w:World) (F:Rd w 2 (some ⟨0,0,none⟩) 1 [[.int .u32 73856093,.int .u32 19349663]]) (N:Rd w 4 (some ⟨3,0,none⟩) 1 [dY gZ]) (b:Nat) (r:StV) (vs:List Body) (hW:dG 39 r vs) (hO:Own [(some b,bc [.slice r.A r.n r.c,.map r.p] 107),r.er,r.em] w) (o:OpI) (BA:Option Addr) (nn cc:Nat) (hP:OpOk w o BA nn cc) (hnn:nn≤1000000) (hdB:0 < nn→∀ q off,BA=some ⟨q,off,none⟩→q∉cD [(some b,bc [.slice r.A r.n r.c,.map r.p] 107),r.er,r.em]) (hdF:0 < 1→∀ q off,(some ⟨0,0,none⟩:Option Addr)=some ⟨q,off,none⟩→q∉cD [(some b,bc [.slice r.A r.n r.c,.map r.p] 107),r.er,r.em]) (hdN:0 < 1→∀ q off,(some ⟨3,0,none⟩:Option Addr)=some ⟨q,off,none⟩→q∉cD [(some b,bc [.slice r.A r.n r.c,.map r.p] 107),r.er,r.em]):Calls prog 20 #[.pointer (some ⟨b,0,none⟩),.agg (dW o BA nn cc).toArray] w (gY (fun v w'=>∃ (r':StV) (p:Row),v=.agg (cJ (iM vs o).2 p).toArray∧dG 39 r' (iM vs o).1∧bA 5 1 p.A p.n p.c (((iM vs o).2.bytes).map aZ) p.e∧Mem w (cD [(some b,bc [.slice r.A r.n r.c,.map r.p] 107),r.er,r.em]) [(some b,bc [.slice r'.A r'.n r'.c,.map r'.p] 107),r'.er,r'.em,p.e] w')):=by
 by_cases h0:o.kind < 1∨6 < o.kind
 ·exact aWv w b r vs hW hO o BA nn cc hP hdB h0
 by_cases h1:o.kind=1
 ·exact aWw w b r vs hW hO o BA nn cc hP hnn hdB h1
 by_cases h2:o.kind=2
 ·exact aWx w b r vs hW hO o BA nn cc hP hnn hdB h2
 by_cases h3:o.kind=3
 ·exact aWy w b r vs hW hO o BA nn cc hP hnn hdB h3
 by_cases h4:o.kind=4
 ·exact aWz w F N b r vs hW hO o BA nn cc hP hnn hdB hdF hdN h4
 by_cases h5:o.kind=5
 ·exact aXa w b r vs hW hO o BA nn cc hP hnn hdB h5
 ·exact aXb w b r vs hW hO o BA nn cc hP hnn hdB (by omega)
theorem aIu (w:World) (F:Rd w 2 (some ⟨0,0,none⟩) 1 [[.int .u32 73856093,.int .u32 19349663]]) (N:Rd w 4 (some ⟨3,0,none⟩) 1 [dY gZ]) (b:Nat) (r:StV) (vs:List Body) (hW:dG 39 r vs) (hO:Own [(some b,bc [.slice r.A r.n r.c,.map r.p] 107),r.er,r.em] w) (hdF:0 < 1→∀ q off,(some ⟨0,0,none⟩:Option Addr)=some ⟨q,off,none⟩→q∉cD [(some b,bc [.slice r.A r.n r.c,.map r.p] 107),r.er,r.em]) (hdN:0 < 1→∀ q off,(some ⟨3,0,none⟩:Option Addr)=some ⟨q,off,none⟩→q∉cD [(some b,bc [.slice r.A r.n r.c,.map r.p] 107),r.er,r.em]) (A:Option Addr) (n c:Nat) (l:List OpRow) (hl:OpsRd w A n l) (hby:∀ x∈l,x.n≤1000000) (hn:n≤1000000) (hdl:0 < n→∀ q off,A=some ⟨q,off,none⟩→q∉cD [(some b,bc [.slice r.A r.n r.c,.map r.p] 107),r.er,r.em]) (hdo:wY l (cD [(some b,bc [.slice r.A r.n r.c,.map r.p] 107),r.er,r.em])) :
  Calls prog 33 #[.pointer (some ⟨b,0,none⟩),.slice A n c] w (gY (fun v w'=>∃ (r':StV) (q:Row) (rs:List Row),v=.slice q.A q.n q.c∧dG 39 r' (fH vs (opsO l))∧bA 33 4 q.A q.n q.c (iS (kO vs (opsO l)) rs) q.e∧OutR 5 rs (kO vs (opsO l))∧Mem w (cD [(some b,bc [.slice r.A r.n r.c,.map r.p] 107),r.er,r.em]) ([(some b,bc [.slice r'.A r'.n r'.c,.map r'.p] 107),r'.er,r'.em,q.e]++rs.map Row.e) w')):=by
 have hlen:l.length=n:=by simpa using hl.rd.len
 have hbd:=hl.rd.bound
 refine aI #[.tmp 4] 22 func33 Z results33 ntmps33 Z ?_
 have M0:=hO.mem
 refine aE (aA (eI Z Z (aB (aC (aE (aA (eI Z Z ?_)))))))
 have M1:=M0.dummy default
 refine aB (aC (aE (aE (aA (dJ Z Z (wq (bW underlying27 Z) Z (aT Z Z (aB (aC (aS (dK (σ:=Nat × StV × Row × List Row) [0,4,8,9] (fun (i,r',q,rs)=>[(5,.slice q.A q.n q.c),(10,.int .i64 (i:Int))]) (fun (i,r',q,rs) w'=>(i≤n∧dG 39 r' (fH vs ((opsO l).take i))∧bA 33 4 q.A q.n q.c (iS ((kO vs ((opsO l).take i))) rs) q.e∧OutR 5 rs (kO vs ((opsO l).take i)))∧Mem w (cD [(some b,bc [.slice r.A r.n r.c,.map r.p] 107),r.er,r.em]) ([(some b,bc [.slice r'.A r'.n r'.c,.map r'.p] 107),r'.er,r'.em,q.e]++rs.map Row.e) w') (fun (i,r',q,rs)=>n - i) (0,r,eN,[]) (bI Z (bI Z eC)) (⟨⟨by omega,hW,bA.nil _ _ _,OutR.nil _⟩,M1⟩) ?_)))))))))))
 rintro ⟨i,r',q,rs⟩ ρ2 w2 ⟨⟨hi,hr,hq,hoR⟩,hM2⟩
 have hqn:(iS (kO vs ((opsO l).take i)) rs).length=q.n:=hq.1
 rw [iT hoR.len,iU,List.length_take,dE] at hqn
 refine aE (aA (cV Z Z Z Z (aB (aC (aE ?_)))))
 refine aW Z (fun h11 => ?_) (fun h11 => ?_)
 ·obtain ⟨x,hx⟩:=cG (xs:=l) (k:=i) hlen (by omega)
  have hxm:=List.mem_of_getElem? hx
  have hP:=hl.each x hxm
  have hxo:=pH hx
  refine aM (aC (aE (aS (aE (aA (wq (bG (i) nS Z Z Z ((hl.rd.memY hM2 hdl).below_len (aG OpRow.cells hx)) ((hl.rd.memY hM2 hdl).someK (aG OpRow.cells hx))) Z (wq (dQ _ jI (hl.rd.memY hM2 hdl) (aG OpRow.cells hx) Z) Z (aL 13 (.agg (dW x.o x.A x.n x.c).toArray) Z (aO aJq hM2 Z Z (fun b3 w3 M3 => ?_))))))))))
  have M4:Mem _ _ ([_,_,_,_,_]++_) _:=Mem.front (L:=[_,_,_,_]) M3
  refine bC 4 _ jI M4 Z Z Z Z Z (aP Z) Z (fun w5 M5=>(aB (aC (aA (dJ Z Z (wq (aH (.pointer _) Z) Z (wq (aV 4 jI M5 Z Z Z) Z (eJ aXy Z Z (xT _ (F.memY M5 hdF) (N.memY M5 hdN) _ r' _ hr (M5.ownSeg 0 3) x.o x.A x.n x.c (hP.memY M5 (hdo x hxm)) (hby x hxm) (M5.away 0 3 hP.rd (hdo x hxm)) (M5.away 0 3 F hdF) (M5.away 0 3 N hdN)) ?_))))))))
  rintro v6 w6 ⟨r2,p2,rfl,hr2,hp2,hM6⟩
  have M6:Mem _ _ ([_,_,_,_,_,_]++_) _:=Mem.front (L:=[_,_,_,_,_]) (M5.seg 0 3 hM6)
  refine bV [.agg (List.toArray _)] [cJ (iM (fH vs ((opsO l).take i)) x.o).2 p2] Z rT M6 Z Z Z Z (cO Z) (by decide) (fun b7 w7 M7 => ?_)
  have M8:Mem _ _ ([_,_,_,_,_,_,_]++_) _:=Mem.front (L:=[_,_,_,_,_,_]) M7
  refine cP 3 [cJ (iM (fH vs ((opsO l).take i)) x.o).2 p2] rT M8 rfl rfl rfl rfl rfl hq rfl (by simp [cJ,Go.Bil.one]) (dN.ofMem 6 M8 rfl) (by omega) (fun A9 c9 e9 w9 M9 hR9=>(eI rfl rfl (aB (cS (aC (aA (wq (bE rfl rfl (by omega) (by omega)) rfl (aT rfl rfl (aB ?_)))))))))
  refine bU (i+1,r2,⟨A9,q.n+1,c9,e9⟩,rs++[p2]) (bI Z (bI Z eC)) (bX Z (bX Z (bX Z (bX Z gR)))) ?_ ?_
  ·exact ⟨⟨by omega,by rw [nM hxo];exact hr2,by rw [fC hxo,jZ hoR.len];exact hR9,by rw [fC hxo];exact hoR.add hp2⟩,Mem.pushNew (L:=[_,_,_,_]) p2 (Mem.keepL (L:=[_,_,_,_,_,_,_]) [true,true,true,true,false,true,false] M9)⟩
  ·(show n - (i+1) < n - i;omega)
 ·have hin:i=n:=by omega
  rw [hin,List.take_of_length_le (by rw [dE];omega)] at hr hq hoR
  refine cM (cZ (dF (eL (aC (aE (aA (dJ Z Z (eI Z Z (aB (aC (aR (cF (.slice _ _ _) Z ?_))))))))))))
  exact ⟨r',q,rs,Z,hr,hq,hoR,hM2⟩
theorem bJl (w:World) (q0:Row) (s:List Body) (hq0:bA 39 10 q0.A q0.n q0.c ((s).map aF) q0.e) (hG:GoodV s) (hO:Own [q0.e] w) (o:OpI) (BA:Option Addr) (nn cc:Nat) (hP:OpOk w o BA nn cc) (hnn:nn≤1000000) (hdB:0 < nn→∀ q off,BA=some ⟨q,off,none⟩→q∉cD [q0.e]) :
  Calls prog 21 #[.slice q0.A q0.n q0.c,.agg (dW o BA nn cc).toArray] w (gY (fun v w'=>∃ (q p:Row),v=.tuple #[.slice q.A q.n q.c,.agg (cJ (iM s o).2 p).toArray]∧bA 39 10 q.A q.n q.c (((iM s o).1).map aF) q.e∧bA 5 1 p.A p.n p.c (((iM s o).2.bytes).map aZ) p.e∧Mem w (cD [q0.e]) [q.e,p.e] w')):=by
 have hlen:s.length=q0.n:=by simpa using hq0.1
 have hsl:=hG.len
 have hbl:=hP.len
 refine aI #[.tmp 4,.cell 5 43] 42 func21 Z results21 ntmps21 Z ?_
 have M0:=hO.mem
 refine aE (aA (bO (.agg (.mk _)) M0 Z Z Z (fun b1 w1 M1=>(eI Z Z (aO bLa M1 Z Z (fun b2 w2 M2=>(aB (aC (aE (aE (aA (wq (aD 0 qM Z) Z (wq (aK 1 (.int _ _) fE M2 Z Z Z) Z (cV Z Z Z Z (wq (aH (.bool (decide _)) Z) Z ?_)))))))))))))))
 refine dT 10 Z (fun g10 => ?_) (fun g10 => ?_)
 ·refine aQ Z Z (aQ Z Z (aQ Z Z (wq (bM true (.bool true) Z Z) Z (aB (aC (cE Z (aE (aA (dJ Z Z (wq (cI [(0,.int _ _)] _ aBz Z Z) Z (eI Z Z (bC 2 _ aAc M2 Z Z Z Z Z (aP Z) Z (fun w3 M3=>(aB (aC (aR (cK (aYp (.slice _ _ _) 2 aAc M3 Z Z Z Z ?_))))))))))))))))))
  have hun:¬ (1≤o.kind∧o.kind≤6):=by omega
  exact ⟨q0,⟨none,0,0,(none,default)⟩,by rw [kK hun];rfl,by rw [kK hun];exact hq0,by rw [kK hun];exact bA.nil _ _ _,(M3.keep [true,false,false]).dummy default⟩
 ·refine wq (aD 0 qM Z) Z (wq (aK 1 (.int _ _) fE M2 Z Z Z) Z (cV Z Z Z Z (wq (bM false (.bool (decide _)) Z Z) Z (aB (aC ?_)))))
  refine aW Z (fun h14 => ?_) (fun h14 => ?_)
  ·refine aE (aA (dJ Z Z (wq (cI [(0,.int _ _)] _ aBz Z Z) Z (eI Z Z (bC 2 _ aAc M2 Z Z Z Z Z (aP Z) Z (fun w4 M4=>(aB (aC (aR (cK (aYp (.slice _ _ _) 2 aAc M4 Z Z Z Z ?_)))))))))))
   have hun:¬ (1≤o.kind∧o.kind≤6):=by omega
   exact ⟨q0,⟨none,0,0,(none,default)⟩,by rw [kK hun];rfl,by rw [kK hun];exact hq0,by rw [kK hun];exact bA.nil _ _ _,(M4.keep [true,false,false]).dummy default⟩
  ·refine aM (aC (aE (aA (dJ Z Z (wq (aD 0 qM Z) Z (wq (aK 1 (.int _ _) fE M2 Z Z Z) Z (wq (gX Z Z (by omega) (by omega)) Z (wq (aD 1 xJ Z) Z (wq (sJ 1 _ bR M2 Z Z Z Z) Z (wq (aD 11 xK Z) Z (wq (aK 1 (.int _ _) bZ M2 Z Z Z) Z (wq (aD 12 xL Z) Z (wq (sJ 1 _ bP M2 Z Z Z Z) Z (wq (aD 14 xM Z) Z (wq (aK 1 (.slice _ _ _) iR M2 Z Z Z) Z (wq (cI [(0,.int _ _),(1,.agg (List.toArray _)),(2,.int _ _),(3,.agg (List.toArray _)),(4,.slice _ _ _)] _ bDk Z Z) Z ?_))))))))))))))))
   refine aL 29 (.agg (dW { o with kind:=o.kind - 1 } BA nn cc).toArray) Z (eJ bWo Z Z (bJk _ q0 s hq0 hG (M2.ownAt (i:=0) Z) { o with kind:=o.kind - 1 } BA nn cc ⟨hP.rd.memY M2 hdB,hP.cap,hP.byt,hP.body,hP.p1,hP.p2⟩ hnn hdB) ?_)
   rintro v5 w5 ⟨q2,p2,rfl,hq2,hp2,hM5⟩
   have M5:Mem _ _ [_,_,_,_] _:=M2.seg 0 1 hM5
   refine aO aPm M5 Z Z (fun b6 w6 M6=>(bC 4 _ gM M6 Z Z Z Z Z (aP Z) Z (fun w7 M7=>(aB (aC (aE (gJ [(0,0),(1,1),(2,0),(3,1),(4,0),(5,1),(6,0),(7,1),(8,0),(9,1),(10,0),(11,0),(12,2)] mixed M7 Z (by kernel_rfl) (fun w8 M8=>(aX Z Z Z (fun _=>aD 0 tI Z) (bQ Z Z Z (aK 4 (.slice _ _ _) iD M8 Z Z Z) (aX Z Z Z (fun _=>aD 1 tJ Z) (bQ Z Z Z (aK 4 (.int _ _) fE M8 Z Z Z) (aX Z Z Z (fun _=>aD 12 aRj Z) (bQ Z Z Z (aK 4 (.slice _ _ _) iR M8 Z Z Z) ?_))))))))))))))
   refine aX Z Z Z (fun _=>aD 13 aRk Z) (bQ Z Z Z (aK 4 (.int _ _) fE M8 Z Z Z) (aX Z Z Z (fun _=>aD 14 aRl Z) (bQ Z Z Z (aK 4 (.bool _) rR M8 Z Z Z) (aX Z Z Z (fun _=>cI [(0,.int _ _),(1,.slice _ _ _),(2,.int _ _),(3,.bool _)] _ aBz Z Z) (aX Z Z Z (fun _=>aJ (.slice _ _ _) Z) (dO [true,true,true,true,true] Z (by kernel_rfl) (bC 2 _ aAc M8 Z Z Z Z Z (aP Z) Z (fun w9 M9 => ?_))))))))
   refine aB (aC ⟨dI, ?_⟩)
   refine bS (aC (aR (aYp (.slice _ _ _) 2 aAc M9 Z Z Z Z ?_)))
   have hdo:¬ (o.kind < 1∨6 < o.kind):=by omega
   exact ⟨q2,p2,by rw [bJw hdo];rfl,by rw [bJw hdo];exact hq2,by rw [bJw hdo];exact hp2,M9.keep [true,false,false,true,false]⟩
theorem bCt (w:World) (q0:Row) (s:List Body) (hq0:bA 39 10 q0.A q0.n q0.c ((s).map aF) q0.e) (hG:GoodV s) (hO:Own [q0.e] w) (A:Option Addr) (n c:Nat) (l:List OpRow) (hl:OpsRd w A n l) (hby:∀ x∈l,x.n≤1000000) (hn:n≤1000000) (hdl:0 < n→∀ q off,A=some ⟨q,off,none⟩→q∉cD [q0.e]) (hdo:wY l (cD [q0.e])) :
  Calls prog 35 #[.slice q0.A q0.n q0.c,.slice A n c] w (gY (fun v w'=>∃ (q o:Row) (rs:List Row),v=.tuple #[.slice q.A q.n q.c,.slice o.A o.n o.c]∧bA 39 10 q.A q.n q.c (((fH s (opsO l))).map aF) q.e∧bA 43 4 o.A o.n o.c (iS (kO s (opsO l)) rs) o.e∧OutR 5 rs (kO s (opsO l))∧Mem w (cD [q0.e]) ([q.e,o.e]++rs.map Row.e) w')):=by
 have hlen:l.length=n:=by simpa using hl.rd.len
 have hbd:=hl.rd.bound
 have hlo:∀ o∈opsO l,OkO o:=hl.okO hby
 refine aI #[.tmp 4,.tmp 5] 32 func35 Z results35 ntmps35 Z ?_
 have M0:=hO.mem
 refine aE (aA (eI Z Z (eI Z Z (aB (aC (aE (aA (eI Z Z ?_))))))))
 have M1:=M0.dummy default
 refine aB (aC (aE (aE (aA (bL Z Z (aB (aC (aS (dK (σ:=Nat × Row × Row × List Row) [1,4,5] (fun (i,q,o,rs)=>[(0,.slice q.A q.n q.c),(6,.slice o.A o.n o.c),(7,.int .i64 (i:Int))]) (fun (i,q,o,rs) w'=>(i≤n∧bA 39 10 q.A q.n q.c (((fH s ((opsO l).take i))).map aF) q.e∧bA 43 4 o.A o.n o.c (iS ((kO s ((opsO l).take i))) rs) o.e∧OutR 5 rs (kO s ((opsO l).take i)))∧Mem w (cD [q0.e]) ([q.e,o.e]++rs.map Row.e) w') (fun (i,q,o,rs)=>n - i) (0,q0,eN,[]) (bI Z (bI Z (bI Z eC))) (⟨⟨by omega,hq0,bA.nil _ _ _,OutR.nil _⟩,M1⟩) ?_)))))))))
 rintro ⟨i,q,o,rs⟩ ρ2 w2 ⟨⟨hi,hq,ho,hoR⟩,hM2⟩
 have hqn:(iS (kO s ((opsO l).take i)) rs).length=o.n:=ho.1
 rw [iT hoR.len,iU,List.length_take,dE] at hqn
 have hGi:GoodV (fH s ((opsO l).take i)):=aBs hG (fun z hz=>hlo z (List.mem_of_mem_take hz))
 refine aE (aE (aA (aT Z Z (dJ Z Z (wq (bW underlying22 Z) Z (cV Z Z Z Z (aB (aC ?_))))))))
 refine aW Z (fun h13 => ?_) (fun h13 => ?_)
 ·obtain ⟨x,hx⟩:=cG (xs:=l) (k:=i) hlen (by omega)
  have hxm:=List.mem_of_getElem? hx
  have hP:=hl.each x hxm
  have hxo:=pH hx
  refine aM (aC (aE (aS (aE (aA (dJ Z Z (dJ Z Z (aT Z Z (wq (bG (i) kU Z Z Z ((hl.rd.memY hM2 hdl).below_len (aG OpRow.cells hx)) ((hl.rd.memY hM2 hdl).someK (aG OpRow.cells hx))) Z (wq (dQ _ bWi (hl.rd.memY hM2 hdl) (aG OpRow.cells hx) Z) Z (aL 21 (.agg (dW x.o x.A x.n x.c).toArray) Z (eJ bWj Z Z (bJl _ q _ hq hGi (hM2.ownAt (i:=0) Z) x.o x.A x.n x.c (hP.memY hM2 (hdo x hxm)) (hby x hxm) (hM2.away 0 1 hP.rd (hdo x hxm))) ?_))))))))))))
  rintro v3 w3 ⟨q2,p2,rfl,hq2,hp2,hM3⟩
  have M3:Mem _ _ ([_,_,_]++_) _:=Mem.front (L:=[_,_]) (hM2.seg 0 1 hM3)
  refine wq (aH (.tuple (List.toArray _)) Z) Z (wq (bJ (.slice _ _ _) Z Z) Z (wq (bJ (.agg (.mk _)) Z Z) Z (aO bLa M3 Z Z (fun b4 w4 M4 => ?_))))
  have M5:Mem _ _ ([_,_,_,_]++_) _:=Mem.front (L:=[_,_,_]) M4
  refine eI Z Z (bC 3 _ aAc M5 Z Z Z Z Z (aP Z) Z (fun w6 M6=>(aB (aC (aE (aA (dJ Z Z (eI Z Z (aB (aC (aA (dJ Z Z (wq (aV 3 aAc M6 Z Z Z) Z (bV [.agg (List.toArray _)] [cJ (iM (fH s ((opsO l).take i)) x.o).2 p2] Z bVr M6 Z Z Z Z (cO Z) (by decide) (fun b7 w7 M7 => ?_)))))))))))))))
  have M8:Mem _ _ ([_,_,_,_,_]++_) _:=Mem.front (L:=[_,_,_,_]) M7
  refine cP 1 [cJ (iM (fH s ((opsO l).take i)) x.o).2 p2] bVr M8 rfl rfl rfl rfl rfl ho rfl (by simp [cJ,Go.Bil.one]) (dN.ofMem 4 M8 rfl) (by omega) (fun A9 c9 e9 w9 M9 hR9=>(eI rfl rfl (aB (cS (aC (aA (aT rfl rfl (wq (bE rfl rfl (by omega) (by omega)) rfl (bL rfl rfl (aB ?_))))))))))
  refine bU (i+1,q2,⟨A9,o.n+1,c9,e9⟩,rs++[p2]) (bI Z (bI Z (bI Z eC))) (bX Z (bX Z (bX Z gR))) ?_ ?_
  ·exact ⟨⟨by omega,by rw [nM hxo];exact hq2,by rw [fC hxo,jZ hoR.len];exact hR9,by rw [fC hxo];exact hoR.add hp2⟩,Mem.pushNew (L:=[_,_]) p2 (Mem.keepL (L:=[_,_,_,_,_]) [true,true,true,false,false] M9)⟩
  ·(show n - (i+1) < n - i;omega)
 ·have hin:i=n:=by omega
  rw [hin,List.take_of_length_le (by rw [dE];omega)] at hq ho hoR
  refine cM (cZ (dF (eL (aC (aE (aA (dJ Z Z (dJ Z Z (eI Z Z (eI Z Z (aB (aC (aR (gE (.slice _ _ _) (.slice _ _ _) Z Z ?_))))))))))))))
  exact ⟨q,o,rs,Z,hq,ho,hoR,hM2⟩
theorem aWo (w:World) (z:ResI) (r r':Row) (RB:Rd w 1 r.A r.n (z.bytes.map aZ)) (RB':Rd w 1 r'.A r'.n (z.bytes.map aZ)) :
  Calls prog 57 #[.agg (cJ z r).toArray,.agg (cJ z r').toArray] w (Rb w (.bool true)):=by
 refine aI #[.tmp 4] 31 func57 Z results57 ntmps57 Z ?_
 have M0:=Mem.refl w
 refine aE (aA (bO (.agg (.mk _)) M0 Z Z Z (fun b1 w1 M1=>(bO (.agg (.mk _)) M1 Z Z Z (fun b2 w2 M2=>(wq (aJ (.bool false) Z) Z (aB (aC (aE (aA (wq (aD 0 aYt Z) Z (wq (aK 0 (.int _ _) fE M2 Z Z Z) Z (wq (aD 0 aYt Z) Z (wq (aK 1 (.int _ _) fE M2 Z Z Z) Z (cV Z Z Z Z (jU 9 Z Z (wq (aH (.bool true) Z) Z (wq (aD 1 aYu Z) Z (wq (aK 0 (.slice _ _ _) iR M2 Z Z Z) Z (wq (aD 1 aYu Z) Z (wq (aK 1 (.slice _ _ _) iR M2 Z Z Z) Z ?_)))))))))))))))))))))
 refine dM aQm Z Z M2 (rI _ _ _ _ z.bytes (RB.mem M2) _ _ _ z.bytes (RB'.mem M2)) (fun w3 M3=>(jU 15 Z Z (wq (bM true (.bool true) Z Z) Z (wq (aH (.bool true) Z) Z (wq (aD 2 aYv Z) Z (wq (aK 0 (.int _ _) fE M3 Z Z Z) Z (wq (aD 2 aYv Z) Z (wq (aK 1 (.int _ _) fE M3 Z Z Z) Z (cV Z Z Z Z (jU 22 Z Z (wq (bM true (.bool true) Z Z) Z (wq (aH (.bool true) Z) Z (wq (aD 3 aYw Z) Z (wq (aK 0 (.bool _) rR M3 Z Z Z) Z (wq (aD 3 aYw Z) Z (wq (aK 1 (.bool _) rR M3 Z Z Z) Z ?_))))))))))))))))
 refine wq (uO _ underlying4 rfl rfl rfl) rfl (aL 29 (.bool true) (bv rfl (by simp)) (wq (bM true (.bool true) rfl rfl) rfl (wq (aJ (.bool true) rfl) rfl (aB (aC (aR (cF (.bool true) rfl ?_)))))))
 exact ⟨Z,M3.below⟩
theorem rJ (w:World) (A:Option Addr) (n c:Nat) (l:List OpRow) (hl:OpsRd w A n l) (hby:∀ x∈l,x.n≤1000000) (hn:n≤1000000):Calls prog 35 #[.slice none 0 0,.slice A n c] w (fun ex w'=>∃ v,ex=.returned v∧(fun v w'=>∃ (q o:Row) (rs:List Row),v=.tuple #[.slice q.A q.n q.c,.slice o.A o.n o.c]∧bA 39 10 q.A q.n q.c (((fH [] (opsO l))).map aF) q.e∧bA 43 4 o.A o.n o.c (iS (kO [] (opsO l)) rs) o.e∧OutR 5 rs (kO [] (opsO l))∧Mem w [] ([q.e,o.e]++rs.map Row.e) w') v w'):=(bCt w eN [] (bA.nil _ _ _) GoodV.nil (Own.dummy w default) A n c l hl hby hn (by simp [cD,eN]) (by intro x _ _ q off _;simp [cD,eN])).mono fun _ _ h=>h
theorem aSi:∃ fs,OpT prog 4 46 3 39 35 37 31 5 1 fs:=⟨_,underlying46,by kernel_rfl,by kernel_rfl,by kernel_rfl,by kernel_rfl,by kernel_rfl,by kernel_rfl,by kernel_rfl,by kernel_rfl,by kernel_rfl,by kernel_rfl,by kernel_rfl,by kernel_rfl,gI⟩
theorem yT (w:World) (A:Option Addr) (n c:Nat) (ls:List Int) (R:Rd w 1 A n (ls.map aZ)) (hn:n≤1048576) :
  Calls prog 77 #[.slice A n c] w (gY (fun v w'=>∃ p:Row,v=.slice p.A p.n p.c∧bA 5 1 p.A p.n p.c ((ls).map aZ) p.e∧Mem w [] [p.e] w')):=by
 have hll:ls.length=n:=by simpa using R.len
 refine aI #[.tmp 2] 8 func77 Z results77 ntmps77 Z ?_
 have M0:=Mem.refl w
 refine aE (aA (eI Z Z (aB (aC (aE (aE (aA (dJ Z Z (wq (aBj _ underlying31 Z Z) Z (aB (aC ?_)))))))))))
 refine iN _ Z (fun h4 => ?_) (fun h4 => ?_)
 ·refine aE (aA (eI Z Z (aB (aC (aR (cK (cF (.slice _ _ _) Z ?_)))))))
  have hA:A=none:=by cases A <;> simp_all
  have hl:ls=[]:=by
   rcases Nat.eq_zero_or_pos n with h | h
   ·exact List.eq_nil_of_length_eq_zero (by omega)
   ·have:=R.some h;rw [hA] at this;cases this
  subst hl
  exact ⟨eN,Z,bA.nil _ _ _,M0.dummy default⟩
 ·refine aM (aC (aE (aA (bV [] [] Z gI M0 Z Z Z Z (cO Z) (by decide) (fun b1 w1 M1=>(dJ Z Z (gK 0 (ls.map aZ) gI M1 Z Z Z Z Z (bA.empty b1) (R.mem M1) (zC ls) (by omega) (fun A2 c2 e2 w2 M2 hR2 hA2=>(eI Z Z (aB (aC (aR (cF (.slice _ _ _) Z ?_)))))))))))))
  exact ⟨⟨A2,0+n,c2,e2⟩,rfl,by simpa using hR2,M2⟩
theorem aDj (w:World) (o:OpI) (BA:Option Addr) (nn cc:Nat) (hP:OpOk w o BA nn cc) (hnn:nn≤1000000) :
  Calls prog 70 #[.agg (dW o BA nn cc).toArray] w (gY (fun v w'=>∃ p:Row,v=.agg (dW o p.A p.n p.c).toArray∧bA 5 1 p.A p.n p.c ((o.bytes).map aZ) p.e∧Mem w [] [p.e] w')):=by
 refine aI #[.cell 2 41] 8 func70 Z results70 ntmps70 Z ?_
 have M0:=Mem.refl w
 refine aE (aA (bO (.agg (.mk _)) M0 Z Z Z (fun b1 w1 M1=>(aO aJq M1 Z Z (fun b2 w2 M2=>(aB (aC (aE (aA (wq (aD 14 rX Z) Z (wq (aK 0 (.slice _ _ _) iR M2 Z Z Z) Z (eJ bPq Z Z (yT _ BA nn cc o.bytes (hP.rd.mem M2) (by omega)) ?_))))))))))))
 rintro v3 w3 ⟨p,rfl,hp,hM3⟩
 have M3:Mem _ _ [_,_,_] _:=M2.call0 hM3
 refine wq (aD 14 rX Z) Z (dA 0 (.slice _ _ _) iR M3 Z Z Z Z Z Z (fun w4 M4=>(aB (aC (aE (aA (wq (aV 0 jI M4 Z Z Z) Z (bC 1 _ jI M4 Z Z Z Z Z (aP Z) Z (fun w5 M5=>(aB (aC (aR (fA 1 jI M5 Z Z Z ?_)))))))))))))
 exact ⟨p,Z,hp,M5.keep [false,false,true]⟩
theorem aQl (w:World) (A:Option Addr) (n c:Nat) (xs:List Int) (R:Rd w 1 A n (xs.map aZ)) (hx:gU xs) (B:Option Addr) (m c':Nat) (ys:List Int) (R':Rd w 1 B m (ys.map aZ)) (hy:gU ys) :
  Calls prog 76 #[.slice A n c,.slice B m c'] w (Rb w (.bool (decide (xs=ys)))):=by
 refine aI #[.tmp 4] 10 func76 Z results76 ntmps76 Z ?_
 have M0:=Mem.refl w
 refine aE (aA (wq (aJ (.bool false) Z) Z (aB (aC (aE (aA (dJ Z Z (wq (aOu underlying31 underlying5 underlying9 (R.mem M0) Z) Z (dJ Z Z (wq (aOu underlying31 underlying5 underlying9 (R'.mem M0) Z) Z (wq (bJi Z Z) Z (aL 9 (.bool (decide (xs=ys))) (bD (bYc hx hy)) (wq (aJ (.bool (decide _)) Z) Z (aB (aC (aR (cF (.bool (decide _)) Z ?_)))))))))))))))))
 exact ⟨Z,M0.below⟩
theorem bJj (w:World) (b xb wb:Nat) (A:Option Addr) (n c k:Nat) (eo:eQ) (r:StV) (vs:List Body) (hW:dG 39 r vs) (qm:Row) (ms:List Row) (hqm:bA 31 1 qm.A qm.n qm.c ((ms).map kX) qm.e) (hms:ms.length≤1000000) (z:Int) (hO:Own [(some xb,bc [.slice A n c,.int .i64 (k:Int),.slice qm.A qm.n qm.c] 75),eo,(some b,bc [.slice r.A r.n r.c,.map r.p] 107),r.er,r.em,(some wb,bc [.pointer (some ⟨b,0,none⟩)] 25),qm.e] w) :
  Calls prog 72 #[.int .i64 z,.pointer (some ⟨xb,0,none⟩),.pointer (some ⟨wb,0,none⟩)] w (gY (fun v w'=>∃ p q:Row,v=.tuple #[]∧bA 5 1 p.A p.n p.c ((lE vs).map aZ) p.e∧bA 31 1 q.A q.n q.c ((ms++[p]).map kX) q.e∧Mem w (cD [(some xb,bc [.slice A n c,.int .i64 (k:Int),.slice qm.A qm.n qm.c] 75),eo,(some b,bc [.slice r.A r.n r.c,.map r.p] 107),r.er,r.em,(some wb,bc [.pointer (some ⟨b,0,none⟩)] 25),qm.e]) [(some xb,bc [.slice A n c,.int .i64 (k:Int),.slice q.A q.n q.c] 75),eo,(some b,bc [.slice r.A r.n r.c,.map r.p] 107),r.er,r.em,(some wb,bc [.pointer (some ⟨b,0,none⟩)] 25),q.e,p.e] w')):=by
 have hqn:(ms.map kX).length=qm.n:=hqm.1
 rw [List.length_map] at hqn
 refine aI #[] 11 func72 Z results72 ntmps72 Z ?_
 have M0:=hO.mem
 refine gJ [(0,0),(1,1),(2,1),(3,2),(4,2),(5,2),(6,0),(7,2)] mixed M0 Z (by kernel_rfl) (fun w1 M1=>(aX Z Z Z (fun _=>aD 2 gB Z) (bQ Z Z Z (aK 0 (.slice _ _ _) eV M1 Z Z Z) (bQ Z Z Z (aK 5 (.pointer _) aMd M1 Z Z Z) (dO [true,false] Z (by kernel_rfl) (eJ aXz Z Z (oJ _ _ r _ hW (M1.ownSeg 2 3)) ?_))))))
 rintro v2 w2 ⟨p,rfl,hp,hM2⟩
 have M2:Mem _ _ [_,_,_,_,_,_,_,_] _:=M1.seg 2 3 hM2
 refine aB (aC ⟨(dS (bH Z (aK 0 (.slice _ _ _) eV M2 Z Z Z)) dI), ?_⟩)
 refine dO [false] Z (by kernel_rfl) (bV [.slice _ _ _] [kX p] Z nT M2 Z Z Z Z (cO Z) (by decide) (fun b3 w3 M3 => ?_))
 refine aB (aC ⟨(dS (bH Z (aK 0 (.slice _ _ _) eV M3 Z Z Z)) dI), ?_⟩)
 refine dO [true] rfl (by kernel_rfl) (cP 6 [kX p] nT M3 rfl rfl rfl rfl rfl hqm rfl (by simp [kX,Go.Bil.one]) (dN.ofMem 8 M3 rfl) (by omega) (fun A4 c4 e4 w4 M4 hR4 => ?_))
 refine aB (aC ⟨dI, ?_⟩)
 refine aX Z Z Z (fun _=>aD 2 gB Z) (dO [] Z (by kernel_rfl) (dA 0 (.slice _ _ _) eV M4 Z Z Z Z Z Z (fun w5 M5 => ?_)))
 refine aB (aC ⟨dI, ?_⟩)
 refine bS (lF ?_)
 exact ⟨p,⟨A4,qm.n+1,c4,e4⟩,Z,hp,by rw [List.map_append];exact hR4,M5.keep [true,true,true,true,true,true,true,true,false]⟩
theorem bNx (w:World) (F:Rd w 2 (some ⟨0,0,none⟩) 1 [[.int .u32 73856093,.int .u32 19349663]]) (N:Rd w 4 (some ⟨3,0,none⟩) 1 [dY gZ]) (b xb wb k:Nat) (hkp:0 < k) (r:StV) (hW:dG 39 r []) (qo:Row) (l:List OpRow) (hqo:bA 41 15 qo.A qo.n qo.c (l.map OpRow.cells) qo.e) (hea:∀ x∈l,OpOk w x.o x.A x.n x.c) (hby:∀ x∈l,x.n≤1000000) (hn:qo.n≤1000000) (hO:Own [(some xb,bc [.slice qo.A qo.n qo.c,.int .i64 (k:Int),.slice none 0 0] 75),qo.e,(some b,bc [.slice r.A r.n r.c,.map r.p] 107),r.er,r.em,(some wb,bc [.pointer (some ⟨b,0,none⟩)] 25)] w) (hdF:0 < 1→∀ q off,(some ⟨0,0,none⟩:Option Addr)=some ⟨q,off,none⟩→q∉cD [(some xb,bc [.slice qo.A qo.n qo.c,.int .i64 (k:Int),.slice none 0 0] 75),qo.e,(some b,bc [.slice r.A r.n r.c,.map r.p] 107),r.er,r.em,(some wb,bc [.pointer (some ⟨b,0,none⟩)] 25)]) (hdN:0 < 1→∀ q off,(some ⟨3,0,none⟩:Option Addr)=some ⟨q,off,none⟩→q∉cD [(some xb,bc [.slice qo.A qo.n qo.c,.int .i64 (k:Int),.slice none 0 0] 75),qo.e,(some b,bc [.slice r.A r.n r.c,.map r.p] 107),r.er,r.em,(some wb,bc [.pointer (some ⟨b,0,none⟩)] 25)]) (hdo:wY l (cD [(some xb,bc [.slice qo.A qo.n qo.c,.int .i64 (k:Int),.slice none 0 0] 75),qo.e,(some b,bc [.slice r.A r.n r.c,.map r.p] 107),r.er,r.em,(some wb,bc [.pointer (some ⟨b,0,none⟩)] 25)])) :
  Calls prog 71 #[.pointer (some ⟨b,0,none⟩),.slice qo.A qo.n qo.c,.int .i64 (k:Int),(.func (.func 72) #[] #[.pointer (some ⟨xb,0,none⟩),.pointer (some ⟨wb,0,none⟩)]:Value)] w (gY (fun v w'=>∃ (r':StV) (qm q:Row) (ms rs:List Row),v=.slice q.A q.n q.c∧dG 39 r' (fH [] (opsO l))∧bA 31 1 qm.A qm.n qm.c ((ms).map kX) qm.e∧BytR 5 ms (fD (opsO l) k (qo.n / k))∧bA 33 4 q.A q.n q.c (iS (kO [] (opsO l)) rs) q.e∧OutR 5 rs (kO [] (opsO l))∧Mem w (cD [(some xb,bc [.slice qo.A qo.n qo.c,.int .i64 (k:Int),.slice none 0 0] 75),qo.e,(some b,bc [.slice r.A r.n r.c,.map r.p] 107),r.er,r.em,(some wb,bc [.pointer (some ⟨b,0,none⟩)] 25)]) ([(some xb,bc [.slice qo.A qo.n qo.c,.int .i64 (k:Int),.slice qm.A qm.n qm.c] 75),qo.e,(some b,bc [.slice r'.A r'.n r'.c,.map r'.p] 107),r'.er,r'.em,(some wb,bc [.pointer (some ⟨b,0,none⟩)] 25),qm.e,q.e]++(rs.map Row.e++ms.map Row.e)) w')):=by
 have hlen:l.length=qo.n:=by have h:=hqo.1;rwa [List.length_map] at h
 refine aI #[.tmp 8] 37 func71 Z results71 ntmps71 Z ?_
 have M0:=hO.mem
 refine aE (aA (eI Z Z (aB (aC (aE (aA (eI Z Z ?_)))))))
 have M1:=(M0.dummy default).dummy default
 refine aB (aC (aE (aE (aA (dJ Z Z (wq (bW underlying27 Z) Z (aT Z Z (aB (aC (aS (dK (σ:=Nat × StV × Row × Row × List Row × List Row) [0,2,3,8,12,13] (fun (i,r',qm,q,ms,rs)=>[(9,.slice q.A q.n q.c),(14,.int .i64 (i:Int))]) (fun (i,r',qm,q,ms,rs) w'=>(i≤qo.n∧dG 39 r' (fH [] ((opsO l).take i))∧bA 31 1 qm.A qm.n qm.c ((ms).map kX) qm.e∧BytR 5 ms (fD (opsO l) k (i / k))∧bA 33 4 q.A q.n q.c (iS ((kO [] ((opsO l).take i))) rs) q.e∧OutR 5 rs (kO [] ((opsO l).take i)))∧Mem w (cD [(some xb,bc [.slice qo.A qo.n qo.c,.int .i64 (k:Int),.slice none 0 0] 75),qo.e,(some b,bc [.slice r.A r.n r.c,.map r.p] 107),r.er,r.em,(some wb,bc [.pointer (some ⟨b,0,none⟩)] 25)]) ([(some xb,bc [.slice qo.A qo.n qo.c,.int .i64 (k:Int),.slice qm.A qm.n qm.c] 75),qo.e,(some b,bc [.slice r'.A r'.n r'.c,.map r'.p] 107),r'.er,r'.em,(some wb,bc [.pointer (some ⟨b,0,none⟩)] 25),qm.e,q.e]++(rs.map Row.e++ms.map Row.e)) w') (fun (i,r',qm,q,ms,rs)=>qo.n - i) (0,r,eN,eN,[],[]) (bI Z (bI Z eC)) (⟨⟨by omega,hW,bA.nil _ _ _,by rw [Nat.zero_div];exact BytR.nil _,bA.nil _ _ _,OutR.nil _⟩,M1⟩) ?_)))))))))))
 rintro ⟨i,r',qm,q,ms,rs⟩ ρ2 w2 ⟨⟨hi,hr,hqm,hmb,hq,hoR⟩,hM2⟩
 have hqn:(iS (kO [] ((opsO l).take i)) rs).length=q.n:=hq.1
 rw [iT hoR.len,iU,List.length_take,dE] at hqn
 have hml:ms.length≤1000000:=by rw [hmb.len,iV];exact Nat.le_trans (Nat.div_le_self i k) (by omega)
 refine aE (aA (cV Z Z Z Z (aB (aC (aE ?_)))))
 refine aW Z (fun h15 => ?_) (fun h15 => ?_)
 ·obtain ⟨x,hx⟩:=cG (xs:=l) (k:=i) hlen (by omega)
  have hxm:=List.mem_of_getElem? hx
  have hxo:=pH hx
  have hP:=hea x hxm
  refine aM (aC (aE (aS (aE (aA (aT Z Z (wq (bG (i) nS Z Z Z ((hqo.rd hM2 (aN (i:=1) Z)).below_len (aG OpRow.cells hx)) ((hqo.rd hM2 (aN (i:=1) Z)).someK (aG OpRow.cells hx))) Z (wq (dQ _ jI (hqo.rd hM2 (aN (i:=1) Z)) (aG OpRow.cells hx) Z) Z (aO aJq hM2 Z Z (fun b3 w3 M3 => ?_))))))))))
  have M4:Mem _ _ ([_,_,_,_,_,_,_,_,_]++_) _:=Mem.front (L:=[_,_,_,_,_,_,_,_]) M3
  refine bL Z Z (bC 8 _ jI M4 Z Z Z Z Z (aP Z) Z (fun w5 M5=>(aB (aC (aE (aA (dJ Z Z (wq (aH (.pointer _) Z) Z (wq (aV 8 jI M5 Z Z Z) Z (aL 21 (.agg (dW x.o x.A x.n x.c).toArray) Z (eJ aXy Z Z (xT _ (F.memY M5 hdF) (N.memY M5 hdN) _ r' _ hr (M5.ownSeg 2 3) x.o x.A x.n x.c (hP.memY M5 (hdo x hxm)) (hby x hxm) (M5.away 2 3 hP.rd (hdo x hxm)) (M5.away 2 3 F hdF) (M5.away 2 3 N hdN)) ?_)))))))))))
  rintro v6 w6 ⟨r2,p2,rfl,hr2,hp2,hM6⟩
  have M6:Mem _ _ ([_,_,_,_,_,_,_,_,_,_]++_) _:=Mem.front (L:=[_,_,_,_,_,_,_,_,_]) (M5.seg 2 3 hM6)
  refine bV [.agg (List.toArray _)] [cJ (iM (fH [] ((opsO l).take i)) x.o).2 p2] Z rT M6 Z Z Z Z (cO Z) (by decide) (fun b7 w7 M7 => ?_)
  have M8:Mem _ _ ([_,_,_,_,_,_,_,_,_,_,_]++_) _:=Mem.front (L:=[_,_,_,_,_,_,_,_,_,_]) M7
  refine cP 7 [cJ (iM (fH [] ((opsO l).take i)) x.o).2 p2] rT M8 rfl rfl rfl rfl rfl hq rfl (by simp [cJ,Go.Bil.one]) (dN.ofMem 10 M8 rfl) (by omega) (fun A9 c9 e9 w9 M9 hR9=>(eI rfl rfl (aB (aC (aE (aA (aT rfl rfl (wq (bE rfl rfl (by omega) (by omega)) rfl (aL 26 (.int .i64 ((i+1:Nat):Int)) (iE (by omega)) (aT rfl rfl (wq (iL rfl rfl (by omega)) rfl (aL 28 (.int .i64 (((i+1) % k:Nat):Int)) (iE (pU rfl rfl)) (cV rfl rfl rfl rfl (aB (aC ?_)))))))))))))))
  refine aW Z (fun h29 => ?_) (fun h29 => ?_)
  ·have hz:=bVa h29
   refine aA (wq (aH (.func _ _ _) Z) Z (aT Z Z (aT Z Z (wq (gO Z Z (by omega)) Z (aL 33 (.int .i64 ((i / k:Nat):Int)) (iE (bJf Z (by omega))) (eJ bWw Z Z (bJj _ b xb wb qo.A qo.n qo.c k qo.e r2 _ hr2 qm ms hqm hml _ (M9.ownSeg 0 7)) ?_))))))
   rintro v10 w10 ⟨pm,qm2,rfl,hpm,hqm2,hM10⟩
   have M10:Mem _ _ ([_,_,_,_,_,_,_,_,_,_,_,_]++_) _:=Mem.front (L:=[_,_,_,_,_,_,_,_,_,_,_]) (M9.seg 0 7 hM10)
   refine aB (cS (aC (aA (wq (bE Z Z (by omega) (by omega)) Z (aT Z Z (aB ?_))))))
   obtain ⟨hmk1,_⟩:=aDc (l:=opsO l) hkp hz
   rw [nM hxo] at hmk1
   refine bU (i+1,r2,qm2,⟨A9,q.n+1,c9,e9⟩,ms++[pm],rs++[p2]) (bI Z (bI Z eC)) (bX Z (bX Z (bX Z (bX Z (bX Z (bX Z gR)))))) ?_ ?_
   ·exact ⟨⟨by omega,by rw [nM hxo];exact hr2,hqm2,by rw [hmk1];exact hmb.add hpm,by rw [fC hxo,jZ hoR.len];exact hR9,by rw [fC hxo];exact hoR.add hp2⟩,Mem.pushAB (L:=[_,_,_,_,_,_,_,_]) p2 pm (Mem.keepL (L:=[_,_,_,_,_,_,_,_,_,_,_,_]) [true,true,true,true,true,true,true,true,false,true,false,true] M10)⟩
   ·(show qo.n - (i+1) < qo.n - i;omega)
  ·have hz:=bVb h29
   refine aM (cS (aC (aA (wq (bE Z Z (by omega) (by omega)) Z (aT Z Z (aB ?_))))))
   refine bU (i+1,r2,qm,⟨A9,q.n+1,c9,e9⟩,ms,rs++[p2]) (bI Z (bI Z eC)) (bX Z (bX Z (bX Z (bX Z (bX Z (bX Z gR)))))) ?_ ?_
   ·exact ⟨⟨by omega,by rw [nM hxo];exact hr2,hqm,by rw [aHx hkp hz];exact hmb,by rw [fC hxo,jZ hoR.len];exact hR9,by rw [fC hxo];exact hoR.add hp2⟩,Mem.pushA (L:=[_,_,_,_,_,_,_,_]) p2 (Mem.keepL (L:=[_,_,_,_,_,_,_,_,_,_,_]) [true,true,true,true,true,true,true,true,false,true,false] M9)⟩
   ·(show qo.n - (i+1) < qo.n - i;omega)
 ·have hin:i=qo.n:=by omega
  rw [hin] at hmb
  rw [hin,List.take_of_length_le (by rw [dE];omega)] at hr hq hoR
  refine cM (cZ (dF (eL (aC (aE (aA (dJ Z Z (eI Z Z (aB (aC (aR (cF (.slice _ _ _) Z ?_))))))))))))
  exact ⟨r',qm,q,ms,rs,Z,hr,hqm,hmb,hq,hoR,hM2⟩
theorem qT (w:World) (F:Rd w 2 (some ⟨0,0,none⟩) 1 [[.int .u32 73856093,.int .u32 19349663]]) (N:Rd w 4 (some ⟨3,0,none⟩) 1 [dY gZ]) (A:Option Addr) (n c:Nat) (l:List OpRow) (hl:OpsRd w A n l) (hby:∀ x∈l,x.n≤1000000) (hn:n≤1000000) (z:Int) (k:Nat) (hz:max z 1=(k:Int)) :
  Calls prog 42 #[.slice A n c,.int .i64 z] w (gY (fun v w'=>∃ (qo qm q:Row) (ps ms rs:List Row),v=.tuple #[.agg [.slice qo.A qo.n qo.c,.int .i64 (k:Int),.slice qm.A qm.n qm.c].toArray,.slice q.A q.n q.c]∧LogR 41 31 5 (opsO l) k qo qm ps ms∧bA 33 4 q.A q.n q.c (iS (kO [] (opsO l)) rs) q.e∧OutR 5 rs (kO [] (opsO l))∧Mem w [] ([qo.e,qm.e,q.e]++(ps.map Row.e++(rs.map Row.e++ms.map Row.e))) w')):=by
 have hlen:l.length=n:=by simpa using hl.rd.len
 have hbd:=hl.rd.bound
 have hkp:0 < k:=by omega
 have hgood:=hl.good hby
 refine aI #[.cell 4 75,.tmp 5] 38 func42 Z results42 ntmps42 Z ?_
 have M0:=Mem.refl w
 refine aE (aA (aO jX M0 Z Z (fun b1 w1 M1=>(eI Z Z (aB (aC (aE (aA (aT Z Z (wq (qF Z Z ) Z (aL 12 (.int .i64 (k:Int)) (iE hz) (wq (cI [(1,.int _ _)] _ wO Z Z) Z (aO jX M1 Z Z (fun b2 w2 M2=>(bC 1 _ eK M2 Z Z Z Z Z (aP Z) Z (fun w3 M3=>(aB (aC (aE (aE (aA (dJ Z Z (wq (bW underlying27 Z) Z (aT Z Z ?_))))))))))))))))))))))))
 have M4:=M3.dummy default
 refine aB (aC (aS (dK (σ:=Nat × Row × List Row) [4,5,6,14,15] (fun (i,qo,ps)=>[(16,.int .i64 (i:Int))]) (fun (i,qo,ps) w'=>(i≤n∧bA 41 15 qo.A qo.n qo.c ((kN ((opsO l).take i) ps).map OpRow.cells) qo.e∧BytR 5 ps (((opsO l).take i).map OpI.bytes))∧Mem w [] ([(some b1,bc [.slice none 0 0,.int .i64 0,.slice none 0 0] 75),(some b2,bc [.slice qo.A qo.n qo.c,.int .i64 (k:Int),.slice none 0 0] 75),qo.e]++ps.map Row.e) w') (fun (i,qo,ps)=>n - i) (0,eN,[]) (bI Z eC) (⟨⟨by omega,bA.nil _ _ _,BytR.nil _⟩,M4⟩) ?_)))
 rintro ⟨i,qo,ps⟩ ρ5 w5 ⟨⟨hi,hqo,hpb⟩,hM5⟩
 have hpl:ps.length=((opsO l).take i).length:=by rw [hpb.len,List.length_map]
 have hqn:((kN ((opsO l).take i) ps).map OpRow.cells).length=qo.n:=hqo.1
 rw [List.length_map,mV hpl,List.length_take,dE] at hqn
 refine aE (aA (cV Z Z Z Z (aB (aC (aE ?_)))))
 refine aW Z (fun h17 => ?_) (fun h17 => ?_)
 ·obtain ⟨x,hx⟩:=cG (xs:=l) (k:=i) hlen (by omega)
  have hxm:=List.mem_of_getElem? hx
  have hxo:=pH hx
  have hP:=hl.each x hxm
  refine aM (aC (aE (aS (aE (aA (wq (bG (i) nS Z Z Z ((hl.rd.mem hM5).below_len (aG OpRow.cells hx)) ((hl.rd.mem hM5).someK (aG OpRow.cells hx))) Z (wq (dQ _ jI (hl.rd.mem hM5) (aG OpRow.cells hx) Z) Z (aO aJq hM5 Z Z (fun b6 w6 M6 => ?_)))))))))
  have M7:Mem _ _ ([_,_,_,_]++_) _:=Mem.front (L:=[_,_,_]) M6
  refine bC 3 _ jI M7 Z Z Z Z Z (aP Z) Z (fun w8 M8=>(aB (aC (gJ [(0,0),(1,1),(2,1),(3,2),(4,2),(5,2),(6,0),(7,2)] mixed M8 Z (by kernel_rfl) (fun w9 M9=>(aX Z Z Z (fun _=>aD 0 gA Z) (bQ Z Z Z (aK 1 (.slice _ _ _) iW M9 Z Z Z) (bQ Z Z Z (aV 3 jI M9 Z Z Z) (dX 22 (.agg (dW x.o x.A x.n x.c).toArray) Z (dO [true,false] Z (by kernel_rfl) (eJ bGh Z Z (aDj _ x.o x.A x.n x.c (hP.mem M9) (hby x hxm)) ?_)))))))))))
  rintro v10 w10 ⟨p2,rfl,hp2,hM10⟩
  have M10:Mem _ _ ([_,_,_,_,_]++_) _:=Mem.front (L:=[_,_,_,_]) (M9.call0 hM10)
  refine aB (aC ⟨(dS (bH Z (aK 1 (.slice _ _ _) iW M10 Z Z Z)) dI), ?_⟩)
  refine dO [false] Z (by kernel_rfl) (bV [.agg (List.toArray _)] [dW x.o p2.A p2.n p2.c] Z nS M10 Z Z Z Z (cO Z) (by decide) (fun b11 w11 M11 => ?_))
  have M12:Mem _ _ ([_,_,_,_,_,_]++_) _:=Mem.front (L:=[_,_,_,_,_]) M11
  refine aB (aC ⟨(dS (bH Z (aK 1 (.slice _ _ _) iW M12 Z Z Z)) dI), ?_⟩)
  refine dO [true] rfl (by kernel_rfl) (cP 2 [dW x.o p2.A p2.n p2.c] nS M12 rfl rfl rfl rfl rfl hqo rfl (by simp [dW,aF,Go.Bil.one]) (dN.ofMem 5 M12 rfl) (by omega) (fun A13 c13 e13 w13 M13 hR13 => ?_))
  refine aB (aC ⟨dI, ?_⟩)
  refine aX Z Z Z (fun _=>aD 0 gA Z) (dO [] Z (by kernel_rfl) (dA 1 (.slice _ _ _) iW M13 Z Z Z Z Z Z (fun w14 M14 => ?_)))
  refine aB (aC ⟨dI, ?_⟩)
  refine bS (cS (aC (aA (wq (bE Z Z (by omega) (by omega)) Z (aT Z Z (aB ?_))))))
  refine bU (i+1,⟨A13,qo.n+1,c13,e13⟩,ps++[p2]) (bI Z eC) (bX Z (bX Z (bX Z (bX Z (bX Z gR))))) ?_ ?_
  ·exact ⟨⟨by omega,by rw [cC hxo,wC hpl,List.map_append];exact hR13,by rw [cC hxo,List.map_append];exact hpb.add hp2⟩,Mem.pushNew (L:=[_,_,_]) p2 (Mem.keepL (L:=[_,_,_,_,_,_]) [true,true,true,false,true,false] M14)⟩
  ·(show n - (i+1) < n - i;omega)
 ·have hin:i=n:=by omega
  rw [hin,List.take_of_length_le (by rw [dE];omega)] at hqo hpb hpl
  refine cM (cZ (dF (eL (aC (aE (aA (aO aPl hM5 Z Z (fun b15 w15 M15 => ?_))))))))
  have M16:Mem _ _ ([_,_,_,_]++_) _:=Mem.front (L:=[_,_,_]) M15
  have M17:=Mem.dummyL (L:=[_,_,_,_,_]) (Mem.dummyL (L:=[_,_,_,_]) M16 default) default
  refine aO bKz M17 Z Z (fun b18 w18 M18 => ?_)
  have M19:Mem _ _ ([_,_,_,_,_,_,_]++_) _:=Mem.front (L:=[_,_,_,_,_,_]) M18
  refine dA 6 (.pointer _) aMd M19 Z Z Z Z Z Z (fun w20 M20=>(aB (aC (aE (aA (wq (aK 6 (.pointer _) aMd M20 Z Z Z) Z (wq (aD 0 gA Z) Z (wq (aK 1 (.slice _ _ _) iW M20 Z Z Z) Z (wq (aD 1 lN Z) Z (wq (aK 1 (.int _ _) fE M20 Z Z Z) Z (wq (eB [] [.pointer _,.pointer _] Z Z) Z ?_)))))))))))
  have M21:Mem _ _ ([_,_,_,_,_,_,_]++(ps.map Row.e)) _:=M20
  refine eJ bPo rfl rfl (bNx _ (F.mem M21) (N.mem M21) b15 b2 b18 k hkp ⟨none,0,0,none,(none,default),(none,default)⟩ (dG.new 39 default default) qo (kN (opsO l) ps) hqo (qO hpb hgood hqo M21 (aN (i:=2) rfl) (dC fY)).each (aBg hpb hgood) (by omega) (M21.ownSeg 1 6) (M21.away 1 6 F (by simp)) (M21.away 1 6 N (by simp)) (bIo (L:=[_,_,_,_,_,_,_]) hpb M21 fY 1 6)) ?_
  rintro v22 w22 ⟨r2,qm,q,ms,rs,rfl,hr2,hqm,hmb,hq,hoR,hM22⟩
  have M22:Mem _ _ ([_,_,_,_,_,_,_,_,_]++_) _:=Mem.front (L:=[_,_,_,_,_,_,_]) (Mem.segU (L:=[_,_,_,_,_,_,_]) (B:=[_,_,_,_,_,_]) (A:=[_,_]) 1 6 M21 (Nat.le_of_ble_eq_true rfl) hM22)
  rw [oD hpl] at hr2 hmb hq hoR
  refine eI Z Z (aB (aC (aE (aA (wq (aV 1 eK M22 Z Z Z) Z (dJ Z Z (bC 0 _ eK M22 Z Z Z Z Z (aP Z) Z (fun w23 M23=>(eI Z Z (aB (aC (aR (vB (v2:=.slice _ _ _) 0 eK M23 Z Z Z Z ?_)))))))))))))
  exact ⟨qo,qm,q,ps,ms,rs,Z,⟨hqo,hpb,hgood,hqm,by rw [show (opsO l).length=qo.n by rw [dE];omega];exact hmb⟩,hq,hoR,Mem.keepL (L:=[_,_,_,_,_,_,_,_,_]) [false,false,true,false,false,false,false,true,true] M23⟩
theorem bKs (w:World) (b xb wb gb:Nat) (A:Option Addr) (n c k:Nat) (B:Option Addr) (m d:Nat) (rs:List Row) (bs:List (List Int)) (hB:BytRd w B m rs bs) (r:StV) (vs:List Body) (hW:dG 39 r vs) (g:Int) (j:Nat) (hj:j < m) (hO:Own [(some xb,bc [.slice A n c,.int .i64 (k:Int),.slice B m d] 75),(some b,bc [.slice r.A r.n r.c,.map r.p] 107),r.er,r.em,(some wb,bc [.pointer (some ⟨b,0,none⟩)] 25),(some gb,bc [.int .i64 (g)] 3)] w) (hdB:0 < m→∀ q off,B=some ⟨q,off,none⟩→q∉cD [(some xb,bc [.slice A n c,.int .i64 (k:Int),.slice B m d] 75),(some b,bc [.slice r.A r.n r.c,.map r.p] 107),r.er,r.em,(some wb,bc [.pointer (some ⟨b,0,none⟩)] 25),(some gb,bc [.int .i64 (g)] 3)]) (kX:tD rs (cD [(some xb,bc [.slice A n c,.int .i64 (k:Int),.slice B m d] 75),(some b,bc [.slice r.A r.n r.c,.map r.p] 107),r.er,r.em,(some wb,bc [.pointer (some ⟨b,0,none⟩)] 25),(some gb,bc [.int .i64 (g)] 3)])) :
  Calls prog 75 #[.int .i64 (j:Int),.pointer (some ⟨gb,0,none⟩),.pointer (some ⟨wb,0,none⟩),.pointer (some ⟨xb,0,none⟩)] w (gY (fun v w'=>v=.tuple #[]∧Mem w (cD [(some xb,bc [.slice A n c,.int .i64 (k:Int),.slice B m d] 75),(some b,bc [.slice r.A r.n r.c,.map r.p] 107),r.er,r.em,(some wb,bc [.pointer (some ⟨b,0,none⟩)] 25),(some gb,bc [.int .i64 (g)] 3)]) [(some xb,bc [.slice A n c,.int .i64 (k:Int),.slice B m d] 75),(some b,bc [.slice r.A r.n r.c,.map r.p] 107),r.er,r.em,(some wb,bc [.pointer (some ⟨b,0,none⟩)] 25),(some gb,bc [.int .i64 (aJb g bs j (lE vs))] 3)] w')):=by
 obtain ⟨rj,bj,hrj,hbj,hhj,hrd,hbl,hcp⟩:=hB.at hj
 refine aI #[] 19 func75 Z results75 ntmps75 Z ?_
 have M0:=hO.mem
 refine aE (gJ [(0,1),(1,0),(2,0),(3,1),(5,0),(6,1),(7,0),(8,1),(9,1),(4,2),(10,2),(11,0),(12,0)] mixed M0 Z (by kernel_rfl) (fun w1 M1=>(bQ Z Z Z (aK 5 (.int _ _) fE M1 Z Z Z) (aX Z Z Z (fun _=>cH (.bool (decide _)) Z Z Z) (aX Z Z Z (fun _=>aH (.bool (decide _)) Z) ?_)))))
 refine vH 7 Z (fun g7 => ?_) (fun g7 => ?_)
 ·refine bQ Z Z Z (aK 4 (.pointer _) aMd M1 Z Z Z) (aX Z Z Z (fun _=>aD 2 gB Z) (bQ Z Z Z (aK 0 (.slice _ _ _) eV M1 Z Z Z) (eG Z Z Z (bQ Z Z Z (bG (j) nT Z Z Z ((hB.rd.memY M1 hdB).below_len (hhj)) ((hB.rd.memY M1 hdB).someK (hhj))) (bQ Z Z Z (fG (.slice _ _ _) iR (hB.rd.memY M1 hdB) (hhj) Z) (dO [false,false,false,true,true] Z (by kernel_rfl) (eJ aXz Z Z (oJ _ _ r _ hW (M1.ownSeg 1 3)) ?_)))))))
  rintro v2 w2 ⟨p,rfl,hp,hM2⟩
  have M2:Mem _ _ [_,_,_,_,_,_,_] _:=M1.seg 1 3 hM2
  refine aB (aC ⟨(dS (bH Z (fG (.slice _ _ _) iR (hB.rd.memY M2 hdB) (hhj) Z)) (dS (bH Z (bG (j) nT Z Z Z ((hB.rd.memY M2 hdB).below_len (hhj)) ((hB.rd.memY M2 hdB).someK (hhj)))) (dS (bH Z (aK 0 (.slice _ _ _) eV M2 Z Z Z)) dI))), ?_⟩)
  refine dO [true,true,true] Z (by kernel_rfl) (dM bWz Z Z M2 (aQl _ p.A p.n p.c (lE vs) (hp.rd M2 (aN (i:=6) Z)) (xG _) rj.A rj.n rj.c bj (hrd.memY M2 (kX rj (List.mem_of_getElem? hrj))) hbl) (fun w3 M3 => ?_))
  refine aB (aC ⟨dI, ?_⟩)
  refine aX Z Z Z (fun _=>pT Z) (aX Z Z Z (fun _=>bM true (.bool (decide _)) Z Z) (bS (aC ?_)))
  refine aW Z (fun h17 => ?_) (fun h17 => ?_)
  ·refine aA (aT Z Z (dA 5 (.int _ _) fE M3 Z Z Z Z Z Z (fun w4 M4=>(aB (lF ?_)))))
   rw [show aJb g bs j (lE vs)=(j:Int) from if_pos ⟨g7,fun e=>h17 (by rw [hbj] at e;exact (Option.some.inj e).symm)⟩]
   exact ⟨Z,M4.keep [true,true,true,true,true,true,false]⟩
  ·refine aM (lF ?_)
   rw [show aJb g bs j (lE vs)=g from if_neg (fun h=>h.2 (by rw [hbj,Decidable.not_not.1 h17]))]
   exact ⟨Z,M3.keep [true,true,true,true,true,true,false]⟩
 ·refine qY Z Z Z (yY Z Z Z (qY Z Z Z (yY Z Z Z (qY Z Z Z (qY Z Z Z (dO [false,false,false,true,true] Z (by kernel_rfl) (aQ Z Z ?_)))))))
  refine aB (aC ⟨(dS (.inr ⟨Z,Z⟩) (dS (.inr ⟨Z,Z⟩) (dS (.inr ⟨Z,Z⟩) dI))), ?_⟩)
  refine dO [true,true,true] Z (by kernel_rfl) (aQ Z Z ?_)
  refine aB (aC ⟨dI, ?_⟩)
  refine yY Z Z Z (aX Z Z Z (fun _=>bM false (.bool false) Z Z) (bS (aC (cB Z (aM (lF ?_))))))
  rw [show aJb g bs j (lE vs)=g from if_neg (fun h=>g7 h.1)]
  exact ⟨Z,M1⟩
theorem bNy (w:World) (F:Rd w 2 (some ⟨0,0,none⟩) 1 [[.int .u32 73856093,.int .u32 19349663]]) (N:Rd w 4 (some ⟨3,0,none⟩) 1 [dY gZ]) (b xb wb gb k:Nat) (hkp:0 < k) (A:Option Addr) (n c:Nat) (l:List OpRow) (hl:OpsRd w A n l) (B:Option Addr) (m d:Nat) (rs:List Row) (bs:List (List Int)) (hB:BytRd w B m rs bs) (r:StV) (hW:dG 39 r []) (hby:∀ x∈l,x.n≤1000000) (hn:n≤1000000) (hm:n / k≤m) (hO:Own [(some xb,bc [.slice A n c,.int .i64 (k:Int),.slice B m d] 75),(some b,bc [.slice r.A r.n r.c,.map r.p] 107),r.er,r.em,(some wb,bc [.pointer (some ⟨b,0,none⟩)] 25),(some gb,bc [.int .i64 (-1)] 3)] w) (hdF:0 < 1→∀ q off,(some ⟨0,0,none⟩:Option Addr)=some ⟨q,off,none⟩→q∉cD [(some xb,bc [.slice A n c,.int .i64 (k:Int),.slice B m d] 75),(some b,bc [.slice r.A r.n r.c,.map r.p] 107),r.er,r.em,(some wb,bc [.pointer (some ⟨b,0,none⟩)] 25),(some gb,bc [.int .i64 (-1)] 3)]) (hdN:0 < 1→∀ q off,(some ⟨3,0,none⟩:Option Addr)=some ⟨q,off,none⟩→q∉cD [(some xb,bc [.slice A n c,.int .i64 (k:Int),.slice B m d] 75),(some b,bc [.slice r.A r.n r.c,.map r.p] 107),r.er,r.em,(some wb,bc [.pointer (some ⟨b,0,none⟩)] 25),(some gb,bc [.int .i64 (-1)] 3)]) (hdB:0 < m→∀ q off,B=some ⟨q,off,none⟩→q∉cD [(some xb,bc [.slice A n c,.int .i64 (k:Int),.slice B m d] 75),(some b,bc [.slice r.A r.n r.c,.map r.p] 107),r.er,r.em,(some wb,bc [.pointer (some ⟨b,0,none⟩)] 25),(some gb,bc [.int .i64 (-1)] 3)]) (kX:tD rs (cD [(some xb,bc [.slice A n c,.int .i64 (k:Int),.slice B m d] 75),(some b,bc [.slice r.A r.n r.c,.map r.p] 107),r.er,r.em,(some wb,bc [.pointer (some ⟨b,0,none⟩)] 25),(some gb,bc [.int .i64 (-1)] 3)])) (hdl:0 < n→∀ q off,A=some ⟨q,off,none⟩→q∉cD [(some xb,bc [.slice A n c,.int .i64 (k:Int),.slice B m d] 75),(some b,bc [.slice r.A r.n r.c,.map r.p] 107),r.er,r.em,(some wb,bc [.pointer (some ⟨b,0,none⟩)] 25),(some gb,bc [.int .i64 (-1)] 3)]) (hdo:wY l (cD [(some xb,bc [.slice A n c,.int .i64 (k:Int),.slice B m d] 75),(some b,bc [.slice r.A r.n r.c,.map r.p] 107),r.er,r.em,(some wb,bc [.pointer (some ⟨b,0,none⟩)] 25),(some gb,bc [.int .i64 (-1)] 3)])) :
  Calls prog 71 #[.pointer (some ⟨b,0,none⟩),.slice A n c,.int .i64 (k:Int),(.func (.func 75) #[] #[.pointer (some ⟨gb,0,none⟩),.pointer (some ⟨wb,0,none⟩),.pointer (some ⟨xb,0,none⟩)]:Value)] w (gY (fun v w'=>∃ (r':StV) (q:Row),v=.slice q.A q.n q.c∧dG 39 r' (fH [] (opsO l))∧Mem w (cD [(some xb,bc [.slice A n c,.int .i64 (k:Int),.slice B m d] 75),(some b,bc [.slice r.A r.n r.c,.map r.p] 107),r.er,r.em,(some wb,bc [.pointer (some ⟨b,0,none⟩)] 25),(some gb,bc [.int .i64 (-1)] 3)]) [(some xb,bc [.slice A n c,.int .i64 (k:Int),.slice B m d] 75),(some b,bc [.slice r'.A r'.n r'.c,.map r'.p] 107),r'.er,r'.em,(some wb,bc [.pointer (some ⟨b,0,none⟩)] 25),(some gb,bc [.int .i64 (jH (opsO l) k bs (n / k))] 3)] w')):=by
 have hlen:l.length=n:=by simpa using hl.rd.len
 have hbd:=hl.rd.bound
 refine aI #[.tmp 8] 37 func71 Z results71 ntmps71 Z ?_
 have M0:=hO.mem
 refine aE (aA (eI Z Z (aB (aC (aE (aA (eI Z Z ?_)))))))
 have M1:=M0.dummy default
 refine aB (aC (aE (aE (aA (dJ Z Z (wq (bW underlying27 Z) Z (aT Z Z (aB (aC (aS (dK (σ:=Nat × StV × Row × List Row) [0,2,3,8,12,13] (fun (i,r',q,os)=>[(9,.slice q.A q.n q.c),(14,.int .i64 (i:Int))]) (fun (i,r',q,os) w'=>(i≤n∧dG 39 r' (fH [] ((opsO l).take i))∧bA 33 4 q.A q.n q.c (iS ((kO [] ((opsO l).take i))) os) q.e∧OutR 5 os (kO [] ((opsO l).take i)))∧Mem w (cD [(some xb,bc [.slice A n c,.int .i64 (k:Int),.slice B m d] 75),(some b,bc [.slice r.A r.n r.c,.map r.p] 107),r.er,r.em,(some wb,bc [.pointer (some ⟨b,0,none⟩)] 25),(some gb,bc [.int .i64 (-1)] 3)]) ([(some xb,bc [.slice A n c,.int .i64 (k:Int),.slice B m d] 75),(some b,bc [.slice r'.A r'.n r'.c,.map r'.p] 107),r'.er,r'.em,(some wb,bc [.pointer (some ⟨b,0,none⟩)] 25),(some gb,bc [.int .i64 (jH (opsO l) k bs (i / k))] 3),q.e]++os.map Row.e) w') (fun (i,r',q,os)=>n - i) (0,r,eN,[]) (bI Z (bI Z eC)) (⟨⟨by omega,hW,bA.nil _ _ _,OutR.nil _⟩,by rw [Nat.zero_div];exact M1⟩) ?_)))))))))))
 rintro ⟨i,r',q,os⟩ ρ2 w2 ⟨⟨hi,hr,hq,hoR⟩,hM2⟩
 have hqn:(iS (kO [] ((opsO l).take i)) os).length=q.n:=hq.1
 rw [iT hoR.len,iU,List.length_take,dE] at hqn
 refine aE (aA (cV Z Z Z Z (aB (aC (aE ?_)))))
 refine aW Z (fun h15 => ?_) (fun h15 => ?_)
 ·obtain ⟨x,hx⟩:=cG (xs:=l) (k:=i) hlen (by omega)
  have hxm:=List.mem_of_getElem? hx
  have hxo:=pH hx
  have hP:=hl.each x hxm
  refine aM (aC (aE (aS (aE (aA (aT Z Z (wq (bG (i) nS Z Z Z ((hl.rd.memY hM2 hdl).below_len (aG OpRow.cells hx)) ((hl.rd.memY hM2 hdl).someK (aG OpRow.cells hx))) Z (wq (dQ _ jI (hl.rd.memY hM2 hdl) (aG OpRow.cells hx) Z) Z (aO aJq hM2 Z Z (fun b3 w3 M3 => ?_))))))))))
  have M4:Mem _ _ ([_,_,_,_,_,_,_,_]++_) _:=Mem.front (L:=[_,_,_,_,_,_,_]) M3
  refine bL Z Z (bC 7 _ jI M4 Z Z Z Z Z (aP Z) Z (fun w5 M5=>(aB (aC (aE (aA (dJ Z Z (wq (aH (.pointer _) Z) Z (wq (aV 7 jI M5 Z Z Z) Z (aL 21 (.agg (dW x.o x.A x.n x.c).toArray) Z (eJ aXy Z Z (xT _ (F.memY M5 hdF) (N.memY M5 hdN) _ r' _ hr (M5.ownSeg 1 3) x.o x.A x.n x.c (hP.memY M5 (hdo x hxm)) (hby x hxm) (M5.away 1 3 hP.rd (hdo x hxm)) (M5.away 1 3 F hdF) (M5.away 1 3 N hdN)) ?_)))))))))))
  rintro v6 w6 ⟨r2,p2,rfl,hr2,hp2,hM6⟩
  have M6:Mem _ _ ([_,_,_,_,_,_,_,_,_]++_) _:=Mem.front (L:=[_,_,_,_,_,_,_,_]) (M5.seg 1 3 hM6)
  refine bV [.agg (List.toArray _)] [cJ (iM (fH [] ((opsO l).take i)) x.o).2 p2] Z rT M6 Z Z Z Z (cO Z) (by decide) (fun b7 w7 M7 => ?_)
  have M8:Mem _ _ ([_,_,_,_,_,_,_,_,_,_]++_) _:=Mem.front (L:=[_,_,_,_,_,_,_,_,_]) M7
  refine cP 6 [cJ (iM (fH [] ((opsO l).take i)) x.o).2 p2] rT M8 rfl rfl rfl rfl rfl hq rfl (by simp [cJ,Go.Bil.one]) (dN.ofMem 9 M8 rfl) (by omega) (fun A9 c9 e9 w9 M9 hR9=>(eI rfl rfl (aB (aC (aE (aA (aT rfl rfl (wq (bE rfl rfl (by omega) (by omega)) rfl (aL 26 (.int .i64 ((i+1:Nat):Int)) (iE (by omega)) (aT rfl rfl (wq (iL rfl rfl (by omega)) rfl (aL 28 (.int .i64 (((i+1) % k:Nat):Int)) (iE (pU rfl rfl)) (cV rfl rfl rfl rfl (aB (aC ?_)))))))))))))))
  refine aW Z (fun h29 => ?_) (fun h29 => ?_)
  ·have hz:=bVa h29
   have hjm:i / k < m:=by have h1:=(aDc (l:=opsO l) hkp hz).2;have h2:(i+1) / k≤n / k:=Nat.div_le_div_right (by omega);omega
   refine aA (wq (aH (.func _ _ _) Z) Z (aT Z Z (aT Z Z (wq (gO Z Z (by omega)) Z (aL 33 (.int .i64 ((i / k:Nat):Int)) (iE (bJf Z (by omega))) (eJ bWy Z Z (bKs _ b xb wb gb A n c k B m d rs bs (hB.memY M9 hdB kX) r2 _ hr2 (jH (opsO l) k bs (i / k)) (i / k) hjm (M9.ownSeg 0 6) (M9.away 0 6 hB.rd hdB) (hB.seg M9 kX 0 6)) ?_))))))
   rintro v10 w10 ⟨rfl,hM10⟩
   have M10:Mem _ _ ([_,_,_,_,_,_,_,_,_,_]++_) _:=Mem.segE (L:=[_,_,_,_,_,_,_,_,_,_]) 0 6 M9 (Nat.le_of_ble_eq_true rfl) hM10
   refine aB (cS (aC (aA (wq (bE Z Z (by omega) (by omega)) Z (aT Z Z (aB ?_))))))
   refine bU (i+1,r2,⟨A9,q.n+1,c9,e9⟩,os++[p2]) (bI Z (bI Z eC)) (bX Z (bX Z (bX Z (bX Z (bX Z (bX Z gR)))))) ?_ ?_
   ·exact ⟨⟨by omega,by rw [nM hxo];exact hr2,by rw [fC hxo,jZ hoR.len];exact hR9,by rw [fC hxo];exact hoR.add hp2⟩,by rw [bDw hkp hz,nM hxo];exact Mem.pushNew (L:=[_,_,_,_,_,_,_]) p2 (Mem.keepL (L:=[_,_,_,_,_,_,_,_,_,_]) [true,true,true,true,true,true,true,false,true,false] M10)⟩
   ·(show n - (i+1) < n - i;omega)
  ·have hz:=bVb h29
   refine aM (cS (aC (aA (wq (bE Z Z (by omega) (by omega)) Z (aT Z Z (aB ?_))))))
   refine bU (i+1,r2,⟨A9,q.n+1,c9,e9⟩,os++[p2]) (bI Z (bI Z eC)) (bX Z (bX Z (bX Z (bX Z (bX Z (bX Z gR)))))) ?_ ?_
   ·exact ⟨⟨by omega,by rw [nM hxo];exact hr2,by rw [fC hxo,jZ hoR.len];exact hR9,by rw [fC hxo];exact hoR.add hp2⟩,by rw [aHx hkp hz];exact Mem.pushNew (L:=[_,_,_,_,_,_,_]) p2 (Mem.keepL (L:=[_,_,_,_,_,_,_,_,_,_]) [true,true,true,true,true,true,true,false,true,false] M9)⟩
   ·(show n - (i+1) < n - i;omega)
 ·have hin:i=n:=by omega
  rw [hin] at hM2
  rw [hin,List.take_of_length_le (by rw [dE];omega)] at hr hq hoR
  refine cM (cZ (dF (eL (aC (aE (aA (dJ Z Z (eI Z Z (aB (aC (aR (cF (.slice _ _ _) Z ?_))))))))))))
  exact ⟨r',q,Z,hr,(Mem.noT hM2).keep [true,true,true,true,true,true,false]⟩
theorem aPg (w:World) (F:Rd w 2 (some ⟨0,0,none⟩) 1 [[.int .u32 73856093,.int .u32 19349663]]) (N:Rd w 4 (some ⟨3,0,none⟩) 1 [dY gZ]) (A:Option Addr) (n c:Nat) (l:List OpRow) (hl:OpsRd w A n l) (hby:∀ x∈l,x.n≤1000000) (hn:n≤1000000) (B:Option Addr) (m d:Nat) (rs:List Row) (bs:List (List Int)) (hB:BytRd w B m rs bs) (z:Int) (hz:z < 1) :
  Calls prog 49 #[.agg [.slice A n c,.int .i64 z,.slice B m d].toArray] w (Rb w (.tuple #[.int .i64 0,.int .i64 1])):=by
 have hlen:l.length=n:=by simpa using hl.rd.len
 have hbd:=hl.rd.bound
 refine aI #[.tmp 2,.tmp 3] 35 func49 Z results49 ntmps49 Z ?_
 have M0:=Mem.refl w
 refine aE (aA (bO (.agg (.mk _)) M0 Z Z Z (fun b1 w1 M1=>(bL Z Z (bL Z Z (aB (aC (aE (aE (gJ [(0,0),(1,1),(2,0),(3,0),(4,0),(5,1),(6,0),(7,0),(8,1),(9,0),(10,0),(11,1),(12,0),(13,0),(14,0)] mixed M1 Z (by kernel_rfl) (fun w2 M2=>(aX Z Z Z (fun _=>aD 1 lN Z) (bQ Z Z Z (aK 0 (.int _ _) fE M2 Z Z Z) (aX Z Z Z (fun _=>cH (.bool (decide _)) Z Z Z) (dX 8 (.bool true) (bT (by omega)).symm (aX Z Z Z (fun _=>aH (.bool true) Z) (yY Z Z Z (qY Z Z Z ?_))))))))))))))))))
 refine yY Z Z Z (yY Z Z Z (qY Z Z Z (yY Z Z Z (yY Z Z Z (qY Z Z Z (yY Z Z Z (yY Z Z Z (aX Z Z Z (fun _=>bM true (.bool true) Z Z) (bS (aC (cE Z (aE (aA (bL Z Z (bL Z Z (aB (aC (aR (cK ?_)))))))))))))))))))
 refine gE (.int _ _) (.int _ _) Z Z ?_
 exact ⟨Z,M2.below⟩
theorem bAb (w:World) (F:Rd w 2 (some ⟨0,0,none⟩) 1 [[.int .u32 73856093,.int .u32 19349663]]) (N:Rd w 4 (some ⟨3,0,none⟩) 1 [dY gZ]) (A:Option Addr) (n c:Nat) (l:List OpRow) (hl:OpsRd w A n l) (hby:∀ x∈l,x.n≤1000000) (hn:n≤1000000) (B:Option Addr) (m d:Nat) (rs:List Row) (bs:List (List Int)) (hB:BytRd w B m rs bs) (k:Nat) (hkp:0 < k) (hm:m≠n / k) :
  Calls prog 49 #[.agg [.slice A n c,.int .i64 (k:Int),.slice B m d].toArray] w (Rb w (.tuple #[.int .i64 0,.int .i64 1])):=by
 have hlen:l.length=n:=by simpa using hl.rd.len
 have hbd:=hl.rd.bound
 refine aI #[.tmp 2,.tmp 3] 35 func49 Z results49 ntmps49 Z ?_
 have M0:=Mem.refl w
 refine aE (aA (bO (.agg (.mk _)) M0 Z Z Z (fun b1 w1 M1=>(bL Z Z (bL Z Z (aB (aC (aE (aE (gJ [(0,0),(1,1),(2,0),(3,0),(4,0),(5,1),(6,0),(7,0),(8,1),(9,0),(10,0),(11,1),(12,0),(13,0),(14,0)] mixed M1 Z (by kernel_rfl) (fun w2 M2=>(aX Z Z Z (fun _=>aD 1 lN Z) (bQ Z Z Z (aK 0 (.int _ _) fE M2 Z Z Z) (aX Z Z Z (fun _=>cH (.bool (decide _)) Z Z Z) (dX 8 (.bool false) (bF (by omega)).symm (aX Z Z Z (fun _=>aH (.bool false) Z) (aX Z Z Z (fun _=>aD 2 gB Z) ?_)))))))))))))))))
 refine bQ Z Z Z (aK 0 (.slice _ _ _) eV M2 Z Z Z) (aX Z Z Z (fun _=>bW underlying73 Z) (aX Z Z Z (fun _=>aD 0 gA Z) (bQ Z Z Z (aK 0 (.slice _ _ _) iW M2 Z Z Z) (aX Z Z Z (fun _=>bW underlying27 Z) (aX Z Z Z (fun _=>aD 1 lN Z) (bQ Z Z Z (aK 0 (.int _ _) fE M2 Z Z Z) (aX Z Z Z (fun _=>gO Z Z (by omega)) (dX 18 (.int .i64 ((n / k:Nat):Int)) (iE (bJf Z (by omega))) (aX Z Z Z (fun _=>cH (.bool (decide _)) Z Z Z) (dX 19 (.bool true) (bT (fun h=>hm (Int.ofNat.inj h))).symm ?_))))))))))
 refine aX Z Z Z (fun _=>bM false (.bool true) Z Z) (bS (aC (cE Z (aE (aA (bL Z Z (bL Z Z (aB (aC (aR (cK (gE (.int _ _) (.int _ _) Z Z ?_))))))))))))
 exact ⟨Z,M2.below⟩
theorem aPh (w:World) (F:Rd w 2 (some ⟨0,0,none⟩) 1 [[.int .u32 73856093,.int .u32 19349663]]) (N:Rd w 4 (some ⟨3,0,none⟩) 1 [dY gZ]) (A:Option Addr) (n c:Nat) (l:List OpRow) (hl:OpsRd w A n l) (hby:∀ x∈l,x.n≤1000000) (hn:n≤1000000) (B:Option Addr) (m d:Nat) (rs:List Row) (bs:List (List Int)) (hB:BytRd w B m rs bs) (k:Nat) (hkp:0 < k) (hm:m=n / k) :
  Calls prog 49 #[.agg [.slice A n c,.int .i64 (k:Int),.slice B m d].toArray] w (Rb w (.tuple #[.int .i64 (vG (opsO l) k bs).1,.int .i64 (vG (opsO l) k bs).2])):=by
 have hlen:l.length=n:=by simpa using hl.rd.len
 have hbd:=hl.rd.bound
 refine aI #[.tmp 2,.tmp 3] 35 func49 Z results49 ntmps49 Z ?_
 have M0:=Mem.refl w
 refine aE (aA (bO (.agg (.mk _)) M0 Z Z Z (fun b1 w1 M1=>(bL Z Z (bL Z Z (aB (aC (aE (aE (gJ [(0,0),(1,1),(2,0),(3,0),(4,0),(5,1),(6,0),(7,0),(8,1),(9,0),(10,0),(11,1),(12,0),(13,0),(14,0)] mixed M1 Z (by kernel_rfl) (fun w2 M2=>(aX Z Z Z (fun _=>aD 1 lN Z) (bQ Z Z Z (aK 0 (.int _ _) fE M2 Z Z Z) (aX Z Z Z (fun _=>cH (.bool (decide _)) Z Z Z) (dX 8 (.bool false) (bF (by omega)).symm (aX Z Z Z (fun _=>aH (.bool false) Z) (aX Z Z Z (fun _=>aD 2 gB Z) ?_)))))))))))))))))
 refine bQ Z Z Z (aK 0 (.slice _ _ _) eV M2 Z Z Z) (aX Z Z Z (fun _=>bW underlying73 Z) (aX Z Z Z (fun _=>aD 0 gA Z) (bQ Z Z Z (aK 0 (.slice _ _ _) iW M2 Z Z Z) (aX Z Z Z (fun _=>bW underlying27 Z) (aX Z Z Z (fun _=>aD 1 lN Z) (bQ Z Z Z (aK 0 (.int _ _) fE M2 Z Z Z) (aX Z Z Z (fun _=>gO Z Z (by omega)) (dX 18 (.int .i64 ((n / k:Nat):Int)) (iE (bJf Z (by omega))) (aX Z Z Z (fun _=>cH (.bool (decide _)) Z Z Z) (dX 19 (.bool false) (bF (fun h=>h (by rw [hm]))).symm ?_))))))))))
 refine aX Z Z Z (fun _=>bM false (.bool false) Z Z) (bS (aC (cB Z (aM (aC (aE (aA (aO aPl M2 Z Z (fun b3 w3 M3 => ?_)))))))))
 have M4:=(M3.dummy default).dummy default
 refine aO bKz M4 rfl rfl (fun b5 w5 M5=>(aO bQl M5 rfl rfl (fun b6 w6 M6=>(dA 4 (.pointer _) aMd M6 rfl rfl rfl rfl rfl rfl (fun w7 M7=>(dA 5 (.int _ _) fE M7 rfl rfl rfl rfl rfl rfl (fun w8 M8=>(aB (aC (aE (aA (wq (aK 4 (.pointer _) aMd M8 rfl rfl rfl) rfl (wq (aD 0 gA rfl) rfl (wq (aK 0 (.slice _ _ _) iW M8 rfl rfl rfl) rfl (wq (aD 1 lN rfl) rfl (wq (aK 0 (.int _ _) fE M8 rfl rfl rfl) rfl (wq (eB [] [.pointer _,.pointer _,.pointer _] rfl rfl) rfl (eJ bPo rfl rfl (bNy _ (F.mem M8) (N.mem M8) b3 b1 b5 b6 k hkp A n c l (hl.mem M8) B m d rs bs (hB.mem M8) ⟨none,0,0,none,(none,default),(none,default)⟩ (dG.new 39 default default) hby hn (by rw [hm];exact Nat.le_refl _) (M8.ownSeg 0 6) (M8.away 0 6 F (by simp)) (M8.away 0 6 N (by simp)) (M8.away 0 6 hB.rd (by simp)) (hB.seg M8 (bEo rs) 0 6) (M8.away 0 6 hl.rd (by simp)) (fun x hx=>M8.away 0 6 (hl.each x hx).rd (by simp))) ?_))))))))))))))))))
 rintro v9 w9 ⟨r2,q,rfl,hr2,hM9⟩
 have M9:Mem _ _ [_,_,_,_,_,_] _:=M8.seg 0 6 hM9
 have hbm:bs.length=n / k:=by rw [hB.n_eq.1,hm]
 refine aB (aC (aE (aE (aA (wq (aK 5 (.int _ _) fE M9 Z Z Z) Z (cV Z Z Z Z (aB (aC ?_))))))))
 refine aW Z (fun h30 => ?_) (fun h30 => ?_)
 ·refine aE (aA (wq (aK 5 (.int _ _) fE M9 Z Z Z) Z (bL Z Z (bL Z Z (aB (aC (aR (cK (gE (.int _ _) (.int _ _) Z Z ?_)))))))))
  exact ⟨by unfold vG;rw [hbm,if_pos h30],M9.below⟩
 ·refine aM (aC (aE (aA (wq (aD 2 gB Z) Z (wq (aK 0 (.slice _ _ _) eV M9 Z Z Z) Z (wq (bW underlying73 Z) Z (bL Z Z (bL Z Z (aB (aC (aR (gE (.int _ _) (.int _ _) Z Z ?_))))))))))))
  exact ⟨by unfold vG;rw [hbm,if_neg h30,← hm],M9.below⟩
theorem aTf (w:World) (F:Rd w 2 (some ⟨0,0,none⟩) 1 [[.int .u32 73856093,.int .u32 19349663]]) (N:Rd w 4 (some ⟨3,0,none⟩) 1 [dY gZ]) (A:Option Addr) (n c:Nat) (l:List OpRow) (hl:OpsRd w A n l) (hcap:n≤c) (hby:∀ x∈l,x.n≤1000000) (hn:n≤1000000) (B:Option Addr) (m d:Nat) (rs:List Row) (bs:List (List Int)) (hB:BytRd w B m rs bs) (k:Nat) (z:Int) (hz:z < 0∨(n:Int) < z) :
  Calls prog 48 #[.agg [.slice A n c,.int .i64 (k:Int),.slice B m d].toArray,.int .i64 z] w (Rb w (.tuple #[.pointer none,.int .i64 1])):=by
 have hlen:l.length=n:=by simpa using hl.rd.len
 have hbd:=hl.rd.bound
 refine aI #[.tmp 4,.tmp 5] 43 func48 Z results48 ntmps48 Z ?_
 have M0:=Mem.refl w
 refine aE (aA (bO (.agg (.mk _)) M0 Z Z Z (fun b1 w1 M1=>(wq (aJ (.pointer _) Z) Z (bL Z Z (aB (aC (aE (aE (aA (aT Z Z (cV Z Z Z Z (wq (aH (.bool (decide _)) Z) Z ?_)))))))))))))
 refine dT 10 Z (fun g10 => ?_) (fun g10 => ?_)
 ·refine aQ Z Z (aQ Z Z (aQ Z Z (aQ Z Z (aQ Z Z (wq (bM true (.bool true) Z Z) Z (aB (aC (cE Z (aE (aA (wq (aJ (.pointer _) Z) Z (bL Z Z (aB (aC (aR (cK (gE (.pointer _) (.int _ _) Z Z ?_)))))))))))))))))
  exact ⟨Z,M1.below⟩
 ·refine aT Z Z (wq (aD 0 gA Z) Z (wq (aK 0 (.slice _ _ _) iW M1 Z Z Z) Z (wq (bW underlying27 Z) Z (cV Z Z Z Z (jU 15 Z (by omega) (wq (bM false (.bool true) Z Z) Z (aB (aC (cE Z (aE (aA (wq (aJ (.pointer _) Z) Z (bL Z Z (aB (aC (aR (cK (gE (.pointer _) (.int _ _) Z Z ?_))))))))))))))))))
  exact ⟨Z,M1.below⟩
theorem aPd (w:World) (F:Rd w 2 (some ⟨0,0,none⟩) 1 [[.int .u32 73856093,.int .u32 19349663]]) (N:Rd w 4 (some ⟨3,0,none⟩) 1 [dY gZ]) (A:Option Addr) (n c:Nat) (l:List OpRow) (hl:OpsRd w A n l) (hcap:n≤c) (hby:∀ x∈l,x.n≤1000000) (hn:n≤1000000) (B:Option Addr) (m d:Nat) (rs:List Row) (bs:List (List Int)) (hB:BytRd w B m rs bs) (hlb:∀ b∈bs,b.length≤1000000) (k:Nat) (hkp:0 < k) (hm:n / k≤m) (nn:Nat) (hnn:nn≤n) :
  Calls prog 48 #[.agg [.slice A n c,.int .i64 (k:Int),.slice B m d].toArray,.int .i64 (nn:Int)] w (gY (fun v w'=>∃ (b:Nat) (r:StV),v=.tuple #[.pointer (some ⟨b,0,none⟩),.int .i64 0]∧dG 39 r (aIv (opsO l) k bs nn)∧Mem w [] [(some b,bc [.slice r.A r.n r.c,.map r.p] 107),r.er,r.em] w')):=by
 have hlen:l.length=n:=by simpa using hl.rd.len
 have hbd:=hl.rd.bound
 obtain ⟨a,ha⟩:∃ a,a=nn / k:=⟨_,rfl⟩
 have haN:a≤nn:=by rw [ha];exact Nat.div_le_self nn k
 have hak:a*k≤nn:=by rw [ha];exact Nat.div_mul_le_self nn k
 have ham:a≤m:=by rw [ha];exact Nat.le_trans (Nat.div_le_div_right hnn) hm
 have haki:(a:Int)*(k:Int)=((a*k:Nat):Int):=(Int.natCast_mul a k).symm
 have hS:=hl.sub (a*k) nn hak hnn hcap
 refine aI #[.tmp 4,.tmp 5] 43 func48 Z results48 ntmps48 Z ?_
 have M0:=Mem.refl w
 refine aE (aA (bO (.agg (.mk _)) M0 Z Z Z (fun b1 w1 M1=>(wq (aJ (.pointer _) Z) Z (bL Z Z (aB (aC (aE (aE (aA (aT Z Z (cV Z Z Z Z (nP 9 Z (by omega) (wq (aH (.bool false) Z) Z (aT Z Z (wq (aD 0 gA Z) Z (wq (aK 0 (.slice _ _ _) iW M1 Z Z Z) Z (wq (bW underlying27 Z) Z (cV Z Z Z Z (nP 15 Z (by omega) (wq (bM false (.bool false) Z Z) Z ?_)))))))))))))))))))))
 refine aB (aC (cB Z (aM (aC (aE (gJ [(1,0),(2,0),(3,1),(4,0),(0,2),(5,0),(6,0)] mixed M1 Z (by kernel_rfl) (fun w2 M2=>(eG Z Z Z (aX Z Z Z (fun _=>aD 1 lN Z) (bQ Z Z Z (aK 0 (.int _ _) fE M2 Z Z Z) (aX Z Z Z (fun _=>gO Z Z (by omega)) (dX 21 (.int .i64 (a:Int)) (iE (bJf ha (by omega))) (dO [false] Z (by kernel_rfl) (aO aPl M2 Z Z (fun b3 w3 M3 => ?_)))))))))))))))
 refine aB (aC ⟨(dS (bH Z (aK 0 (.int _ _) fE M3 Z Z Z)) dI), ?_⟩)
 have M4:=(M3.dummy default).dummy default
 refine aX Z Z Z (fun _=>aJ (.pointer _) Z) (nV Z Z Z (bS (aC (aE (aE (aA (aT Z Z (cV Z Z Z Z (aB (aC ?_))))))))))
 refine aW Z (fun h23 => ?_) (fun h23 => ?_)
 ·have ha0:0 < a:=by omega
  obtain ⟨rj,bj,hrj,hbj,hhj,hrd,hbl,hcp⟩:=hB.at (j:=a - 1) (by omega)
  have hbjl:bj.length=rj.n:=by simpa using hrd.len
  have hbj6:=hlb bj (List.mem_of_getElem? hbj)
  refine aA (wq (aH (.pointer _) rfl) rfl (wq (aD 2 gB rfl) rfl (wq (aK 0 (.slice _ _ _) eV M4 rfl rfl rfl) rfl (aT rfl rfl (wq (gX rfl rfl (by omega) (by omega)) rfl (aL 28 (.int .i64 ((a - 1:Nat):Int)) (iE (by omega)) (wq (bG ((a - 1)) nT rfl rfl rfl ((hB.rd.mem M4).below_len (hhj)) ((hB.rd.mem M4).someK (hhj))) rfl (wq (fG (.slice _ _ _) iR (hB.rd.mem M4) (hhj) rfl) rfl (eJ bPp rfl rfl (yW _ _ ⟨none,0,0,none,(none,default),(none,default)⟩ _ (dG.new 39 default default) (M4.ownSeg 1 3) rj.A rj.n rj.c bj (hrd.mem M4) hbl hcp (by omega) (M4.away 1 3 hrd (by simp))) ?_)))))))))
  rintro v5 w5 ⟨r1,rfl,hr1,hM5⟩
  have M5:Mem _ _ [_,_,_,_] _:=M4.seg 1 3 hM5
  refine aB (aC (aE (aA (wq (aH (.pointer _) rfl) rfl (wq (aD 0 gA rfl) rfl (wq (aK 0 (.slice _ _ _) iW M5 rfl rfl rfl) rfl (aT rfl rfl (wq (aD 1 lN rfl) rfl (wq (aK 0 (.int _ _) fE M5 rfl rfl rfl) rfl (wq (fO rfl rfl (by rw [haki];omega) (by rw [haki];omega)) rfl (aL 38 (.int .i64 ((a*k:Nat):Int)) (iE haki) (aT rfl rfl (wq (fF (((a*k:Nat):Int)) ((nn:Int)) nS rfl ⟨_,rfl⟩ ⟨_,rfl⟩ (by omega) (by omega) (by omega)) rfl (eJ bPk rfl rfl (aIu _ (F.mem M5) (N.mem M5) _ r1 _ hr1 (M5.ownSeg 1 3) (M5.away 1 3 F (by simp)) (M5.away 1 3 N (by simp)) _ (nn - a*k) _ ((l.drop (a*k)).take (nn - a*k)) (hS.mem M5) (fun x hx=>hby x (List.mem_of_mem_drop (List.mem_of_mem_take hx))) (by omega) (M5.away 1 3 hS.rd (by simp)) (fun x hx=>M5.away 1 3 (hS.each x hx).rd (by simp))) ?_))))))))))))))
  rintro v6 w6 ⟨r2,q,os,rfl,hr2,hq,hoR,hM6⟩
  have M6:Mem _ _ ([_,_,_,_,_]++_) _:=M5.seg 1 3 hM6
  refine aB (aC (aE (aA (wq (aH (.pointer _) Z) Z (wq (aJ (.pointer _) Z) Z (bL Z Z (aB (aC (aR (gE (.pointer _) (.int _ _) Z Z ?_))))))))))
  exact ⟨_,r2,Z,by rw [bJy ha ha0 hbj,← aMf,← tV];exact hr2,(Mem.noT M6).keep [false,true,true,true,false]⟩
 ·have ha0:a=0:=by omega
  refine aM (aC (aE (aA (wq (aH (.pointer _) rfl) rfl (wq (aD 0 gA rfl) rfl (wq (aK 0 (.slice _ _ _) iW M4 rfl rfl rfl) rfl (aT rfl rfl (wq (aD 1 lN rfl) rfl (wq (aK 0 (.int _ _) fE M4 rfl rfl rfl) rfl (wq (fO rfl rfl (by rw [haki];omega) (by rw [haki];omega)) rfl (aL 38 (.int .i64 ((a*k:Nat):Int)) (iE haki) (aT rfl rfl (wq (fF (((a*k:Nat):Int)) ((nn:Int)) nS rfl ⟨_,rfl⟩ ⟨_,rfl⟩ (by omega) (by omega) (by omega)) rfl (eJ bPk rfl rfl (aIu _ (F.mem M4) (N.mem M4) _ ⟨none,0,0,none,(none,default),(none,default)⟩ _ (dG.new 39 default default) (M4.ownSeg 1 3) (M4.away 1 3 F (by simp)) (M4.away 1 3 N (by simp)) _ (nn - a*k) _ ((l.drop (a*k)).take (nn - a*k)) (hS.mem M4) (fun x hx=>hby x (List.mem_of_mem_drop (List.mem_of_mem_take hx))) (by omega) (M4.away 1 3 hS.rd (by simp)) (fun x hx=>M4.away 1 3 (hS.each x hx).rd (by simp))) ?_))))))))))))))
  rintro v7 w7 ⟨r2,q,os,rfl,hr2,hq,hoR,hM7⟩
  have M7:Mem _ _ ([_,_,_,_,_]++_) _:=M4.seg 1 3 hM7
  refine aB (aC (aE (aA (wq (aH (.pointer _) Z) Z (wq (aJ (.pointer _) Z) Z (bL Z Z (aB (aC (aR (gE (.pointer _) (.int _ _) Z Z ?_))))))))))
  exact ⟨_,r2,Z,by rw [bCz ha ha0,← aMf,← tV];exact hr2,(Mem.noT M7).keep [false,true,true,true,false]⟩
theorem pA (w:World) (F:Rd w 2 (some ⟨0,0,none⟩) 1 [[.int .u32 73856093,.int .u32 19349663]]) (N:Rd w 4 (some ⟨3,0,none⟩) 1 [dY gZ]) (A:Option Addr) (n c:Nat) (l:List OpRow) (hl:OpsRd w A n l) (hcap:n≤c) (hby:∀ x∈l,x.n≤1000000) (hn:n≤1000000) (k:Nat) (hkp:0 < k) (B:Option Addr) (m d:Nat) (rs:List Row) (hB:BytRd w B m rs (fD (opsO l) k ((opsO l).length / k))) (o:OpI) (BA:Option Addr) (nn cc:Nat) (hP:OpOk w o BA nn cc) (hnn:nn≤1000000) :
  Calls prog 51 #[.agg [.slice A n c,.int .i64 (k:Int),.slice B m d].toArray,.agg (dW o BA nn cc).toArray] w (gY (fun v w'=>∃ (qo qm p:Row) (ps ms:List Row),v=.tuple #[.agg [.slice qo.A qo.n qo.c,.int .i64 (k:Int),.slice qm.A qm.n qm.c].toArray,.agg (cJ (iM (fH [] (opsO l)) o).2 p).toArray]∧LogR 41 31 5 (opsO l++[o]) k qo qm ps ms∧bA 5 1 p.A p.n p.c (((iM (fH [] (opsO l)) o).2.bytes).map aZ) p.e∧Mem w [] ([p.e,qo.e,qm.e]++(ps.map Row.e++ms.map Row.e)) w')):=by
 have hlen:l.length=n:=by simpa using hl.rd.len
 have hbd:=hl.rd.bound
 have hgood:=hl.good hby
 have hok:=hl.okO hby
 have hol:(opsO l).length=n:=by rw [dE];exact hlen
 have hmn:m=n / k:=by rw [← hB.n_eq.1,iV,hol]
 have hmle:n / k≤m:=by rw [hmn];exact Nat.le_refl _
 have hmb1:m≤1000000:=by rw [hmn];exact Nat.le_trans (Nat.div_le_self n k) hn
 have hsm:=sE hok (k:=k) (n:=(opsO l).length / k)
 refine aI #[.cell 4 75,.cell 5 33] 85 func51 Z results51 ntmps51 Z ?_
 have M0:=Mem.refl w
 refine aE (aA (bO (.agg (.mk _)) M0 Z Z Z (fun b1 w1 M1=>(bO (.agg (.mk _)) M1 Z Z Z (fun b2 w2 M2=>(aO jX M2 Z Z (fun b3 w3 M3=>(aO jW M3 Z Z (fun b4 w4 M4=>(aB (aC (aE (aA (wq (aV 0 eK M4 Z Z Z) Z (wq (aD 0 gA Z) Z (wq (aK 0 (.slice _ _ _) iW M4 Z Z Z) Z (wq (bW underlying27 Z) Z (eJ aQo Z Z (aPd _ (F.mem M4) (N.mem M4) A n c l (hl.mem M4) hcap hby hn B m d rs _ (hB.mem M4) hsm k hkp hmle n (Nat.le_refl _)) ?_))))))))))))))))))
 rintro v5 w5 ⟨wbk,r0,rfl,hr0,hM5⟩
 have M5:Mem _ _ [_,_,_,_,_,_,_] _:=M4.call0 hM5
 rw [zT hok hkp (by omega),List.take_of_length_le (by omega)] at hr0
 refine wq (aH (.tuple (List.toArray _)) rfl) rfl (wq (bJ (.pointer _) rfl rfl) rfl (wq (bJ (.int _ _) rfl rfl) rfl (wq (aJ (.pointer _) rfl) rfl (bL rfl rfl (aB (aC (aE (aA (wq (aH (.pointer _) rfl) rfl (wq (aV 1 jI M5 rfl rfl rfl) rfl (aL 21 (.agg (dW o BA nn cc).toArray) rfl (eJ aXy rfl rfl (xT _ (F.mem M5) (N.mem M5) _ r0 _ hr0 (M5.ownSeg 4 3) o BA nn cc (hP.mem M5) hnn (M5.away 4 3 hP.rd (by simp)) (M5.away 4 3 F (by simp)) (M5.away 4 3 N (by simp))) ?_))))))))))))
 rintro v6 w6 ⟨r1,pz,rfl,hr1,hpz,hM6⟩
 have M6:Mem _ _ [_,_,_,_,_,_,_,_] _:=M5.seg 4 3 hM6
 refine aO jW M6 Z Z (fun b7 w7 M7=>(bC 8 _ fV M7 Z Z Z Z Z (aP Z) Z (fun w8 M8=>(aB (aC (aE (aA (wq (aD 1 lN Z) Z (wq (aK 0 (.int _ _) fE M8 Z Z Z) Z (wq (cI [(1,.int _ _)] _ wO Z Z) Z (aO jX M8 Z Z (fun b9 w9 M9=>(bC 9 _ eK M9 Z Z Z Z Z (aP Z) Z (fun w10 M10=>(aB (aC (aE (aE (aA (wq (aD 0 gA Z) Z (wq (aK 0 (.slice _ _ _) iW M10 Z Z Z) Z (wq (bW underlying27 Z) Z (aT Z Z ?_)))))))))))))))))))))))
 have M11:=(M10.dummy default).dummy default
 refine aB (aC (aS (dK (σ:=Nat × Row × List Row) [2,3,4,5,6,8,9,28] (fun (i,qo,ps)=>[(29,.int .i64 (i:Int))]) (fun (i,qo,ps) w'=>(i≤n∧bA 41 15 qo.A qo.n qo.c ((kN ((opsO l).take i) ps).map OpRow.cells) qo.e∧BytR 5 ps (((opsO l).take i).map OpI.bytes))∧Mem w [] ([(some b1,bc [.slice A n c,.int .i64 (k:Int),.slice B m d] 75),(some b2,bc (dW o BA nn cc) 41),(some b3,bc [.slice none 0 0,.int .i64 0,.slice none 0 0] 75),(some b4,bc [.int .i64 0,.slice none 0 0,.int .i64 0,.bool false] 33),(some wbk,bc [.slice r1.A r1.n r1.c,.map r1.p] 107),r1.er,r1.em,pz.e,(some b7,bc (cJ (iM (fH [] (opsO l)) o).2 pz) 33),(some b9,bc [.slice qo.A qo.n qo.c,.int .i64 (k:Int),.slice none 0 0] 75),qo.e,(none,default)]++ps.map Row.e) w') (fun (i,qo,ps)=>n - i) (0,eN,[]) (bI Z eC) (⟨⟨by omega,bA.nil _ _ _,BytR.nil _⟩,M11⟩) ?_)))
 rintro ⟨i,qo,ps⟩ ρ12 w12 ⟨⟨hi,hqo,hpb⟩,hM12⟩
 have hpl:ps.length=((opsO l).take i).length:=by rw [hpb.len,List.length_map]
 have hqn:((kN ((opsO l).take i) ps).map OpRow.cells).length=qo.n:=hqo.1
 rw [List.length_map,mV hpl,List.length_take,dE] at hqn
 refine aE (aA (cV Z Z Z Z (aB (aC (aE ?_)))))
 refine aW Z (fun h30 => ?_) (fun h30 => ?_)
 ·obtain ⟨x,hx⟩:=cG (xs:=l) (k:=i) hlen (by omega)
  have hxm:=List.mem_of_getElem? hx
  have hxo:=pH hx
  have hPx:=hl.each x hxm
  refine aM (aC (aE (aS (aE (aA (aT Z Z (bL Z Z (aB (aC (kY [(0,0),(1,1),(2,0),(3,1),(4,0),(5,1),(6,1),(7,2),(8,2),(9,2),(10,0),(11,2)] mixed Z (by kernel_rfl) (fun w13 hb13 hh13 => ?_)))))))))))
  have M13:=hM12.drew hb13 hh13
  refine aX Z Z Z (fun _=>aD 0 gA Z) (bQ Z Z Z (aK 9 (.slice _ _ _) iW M13 Z Z Z) (aX Z Z Z (fun _=>aD 0 gA Z) (bQ Z Z Z (aK 0 (.slice _ _ _) iW M13 Z Z Z) (eG Z Z Z (bQ Z Z Z (bG (i) nS Z Z Z ((hl.rd.mem M13).below_len (aG OpRow.cells hx)) ((hl.rd.mem M13).someK (aG OpRow.cells hx))) (bQ Z Z Z (dQ _ jI (hl.rd.mem M13) (aG OpRow.cells hx) Z) (dX 38 (.agg (dW x.o x.A x.n x.c).toArray) Z (dO [true,true,true,false] Z (by kernel_rfl) (eJ bGh Z Z (aDj _ x.o x.A x.n x.c (hPx.mem M13) (hby x hxm)) ?_)))))))))
  rintro v14 w14 ⟨p2,rfl,hp2,hM14⟩
  have M14:Mem _ _ ([_,_,_,_,_,_,_,_,_,_,_,_,_]++_) _:=Mem.front (L:=[_,_,_,_,_,_,_,_,_,_,_,_]) (M13.call0 hM14)
  refine aB (aC ⟨(dS (bH Z (aK 9 (.slice _ _ _) iW M14 Z Z Z)) dI), ?_⟩)
  refine dO [false] Z (by kernel_rfl) (bV [.agg (List.toArray _)] [dW x.o p2.A p2.n p2.c] Z nS M14 Z Z Z Z (cO Z) (by decide) (fun b15 w15 M15 => ?_))
  have M16:Mem _ _ ([_,_,_,_,_,_,_,_,_,_,_,_,_,_]++_) _:=Mem.front (L:=[_,_,_,_,_,_,_,_,_,_,_,_,_]) M15
  refine aB (aC ⟨(dS (bH Z (aK 9 (.slice _ _ _) iW M16 Z Z Z)) dI), ?_⟩)
  refine dO [true] rfl (by kernel_rfl) (cP 10 [dW x.o p2.A p2.n p2.c] nS M16 rfl rfl rfl rfl rfl hqo rfl (by simp [dW,aF,Go.Bil.one]) (dN.ofMem 13 M16 rfl) (by omega) (fun A17 c17 e17 w17 M17 hR17 => ?_))
  refine aB (aC ⟨dI, ?_⟩)
  refine aX Z Z Z (fun _=>aD 0 gA Z) (dO [] Z (by kernel_rfl) (dA 9 (.slice _ _ _) iW M17 Z Z Z Z Z Z (fun w18 M18 => ?_)))
  refine aB (aC ⟨dI, ?_⟩)
  refine bS (cS (aC (aA (wq (bE Z Z (by omega) (by omega)) Z (aT Z Z (aB ?_))))))
  refine bU (i+1,⟨A17,qo.n+1,c17,e17⟩,ps++[p2]) (bI Z eC) (bX Z (bX Z (bX Z (bX Z (bX Z (bX Z (bX Z (bX Z gR)))))))) ?_ ?_
  ·exact ⟨⟨by omega,by rw [cC hxo,wC hpl,List.map_append];exact hR17,by rw [cC hxo,List.map_append];exact hpb.add hp2⟩,Mem.pushNew (L:=[_,_,_,_,_,_,_,_,_,_,_,_]) p2 (Mem.keepL (L:=[_,_,_,_,_,_,_,_,_,_,_,_,_,_]) [true,true,true,true,true,true,true,true,true,true,true,true,true,false] M18)⟩
  ·(show n - (i+1) < n - i;omega)
 ·have hin:i=n:=by omega
  rw [hin,List.take_of_length_le (by omega)] at hqo hpb hpl
  refine cM (cZ (dF (eL (aC (aE (aE (aA (wq (aD 2 gB Z) Z (wq (aK 0 (.slice _ _ _) eV hM12 Z Z Z) Z (wq (bW underlying73 Z) Z (aT Z Z (aB (aC (aS (dK (σ:=Nat × Row × List Row) [2,3,4,5,6,8,9,46] (fun (i,qm,ms)=>[(47,.int .i64 (i:Int))]) (fun (i,qm,ms) w'=>(i≤m∧bA 31 1 qm.A qm.n qm.c ((ms).map kX) qm.e∧BytR 5 ms ((fD (opsO l) k ((opsO l).length / k)).take i))∧Mem w [] ([(some b1,bc [.slice A n c,.int .i64 (k:Int),.slice B m d] 75),(some b2,bc (dW o BA nn cc) 41),(some b3,bc [.slice none 0 0,.int .i64 0,.slice none 0 0] 75),(some b4,bc [.int .i64 0,.slice none 0 0,.int .i64 0,.bool false] 33),(some wbk,bc [.slice r1.A r1.n r1.c,.map r1.p] 107),r1.er,r1.em,pz.e,(some b7,bc (cJ (iM (fH [] (opsO l)) o).2 pz) 33),(some b9,bc [.slice qo.A qo.n qo.c,.int .i64 (k:Int),.slice qm.A qm.n qm.c] 75),qo.e,qm.e]++(ps.map Row.e++ms.map Row.e)) w') (fun (i,qm,ms)=>m - i) (0,eN,[]) (bI Z eC) (⟨⟨by omega,bA.nil _ _ _,BytR.nil _⟩,by rw [show ([]:List Row).map Row.e=[] from Z,List.append_nil];exact hM12⟩) ?_)))))))))))))))
  rintro ⟨i,qm,ms⟩ ρ19 w19 ⟨⟨hi,hqm,hmb⟩,hM19⟩
  have hmn2:(ms.map kX).length=qm.n:=hqm.1
  rw [List.length_map,hmb.len,List.length_take,hB.n_eq.1] at hmn2
  refine aE (aA (cV Z Z Z Z (aB (aC (aE ?_)))))
  refine aW Z (fun h48 => ?_) (fun h48 => ?_)
  ·obtain ⟨rj,bj,hrj,hbj,hhj,hrd,hbl,hcp⟩:=hB.at (j:=i) (by omega)
   have hbjl:bj.length=rj.n:=by simpa using hrd.len
   have hbj6:=hsm bj (List.mem_of_getElem? hbj)
   refine aM (aC (aE (aS (aE (aA (aT Z Z (bL Z Z (aB (aC (kY [(0,0),(1,1),(2,0),(3,1),(4,0),(5,1),(6,1),(7,2),(8,2),(9,2),(10,0),(11,2)] mixed Z (by kernel_rfl) (fun w20 hb20 hh20 => ?_)))))))))))
   have M20:=hM19.drew hb20 hh20
   refine aX Z Z Z (fun _=>aD 2 gB Z) (bQ Z Z Z (aK 9 (.slice _ _ _) eV M20 Z Z Z) (aX Z Z Z (fun _=>aD 2 gB Z) (bQ Z Z Z (aK 0 (.slice _ _ _) eV M20 Z Z Z) (eG Z Z Z (bQ Z Z Z (bG (i) nT Z Z Z ((hB.rd.mem M20).below_len (hhj)) ((hB.rd.mem M20).someK (hhj))) (bQ Z Z Z (fG (.slice _ _ _) iR (hB.rd.mem M20) (hhj) Z) (dO [true,true,true,false] Z (by kernel_rfl) (eJ bPq Z Z (yT _ rj.A rj.n rj.c bj (hrd.mem M20) (by omega)) ?_))))))))
   rintro v21 w21 ⟨pm,rfl,hpm,hM21⟩
   have M21:Mem _ _ ([_,_,_,_,_,_,_,_,_,_,_,_,_]++_) _:=Mem.front (L:=[_,_,_,_,_,_,_,_,_,_,_,_]) (M20.call0 hM21)
   refine aB (aC ⟨(dS (bH Z (aK 9 (.slice _ _ _) eV M21 Z Z Z)) dI), ?_⟩)
   refine dO [false] Z (by kernel_rfl) (bV [.slice _ _ _] [kX pm] Z nT M21 Z Z Z Z (cO Z) (by decide) (fun b22 w22 M22 => ?_))
   have M23:Mem _ _ ([_,_,_,_,_,_,_,_,_,_,_,_,_,_]++_) _:=Mem.front (L:=[_,_,_,_,_,_,_,_,_,_,_,_,_]) M22
   refine aB (aC ⟨(dS (bH Z (aK 9 (.slice _ _ _) eV M23 Z Z Z)) dI), ?_⟩)
   refine dO [true] rfl (by kernel_rfl) (cP 11 [kX pm] nT M23 rfl rfl rfl rfl rfl hqm rfl (by simp [kX,Go.Bil.one]) (dN.ofMem 13 M23 rfl) (by omega) (fun A24 c24 e24 w24 M24 hR24 => ?_))
   refine aB (aC ⟨dI, ?_⟩)
   refine aX Z Z Z (fun _=>aD 2 gB Z) (dO [] Z (by kernel_rfl) (dA 9 (.slice _ _ _) eV M24 Z Z Z Z Z Z (fun w25 M25 => ?_)))
   refine aB (aC ⟨dI, ?_⟩)
   refine bS (cS (aC (aA (wq (bE Z Z (by omega) (by omega)) Z (aT Z Z (aB ?_))))))
   refine bU (i+1,⟨A24,qm.n+1,c24,e24⟩,ms++[pm]) (bI Z eC) (bX Z (bX Z (bX Z (bX Z (bX Z (bX Z (bX Z (bX Z gR)))))))) ?_ ?_
   ·exact ⟨⟨by omega,by rw [List.map_append];exact hR24,by rw [cC hbj];exact hmb.add hpm⟩,Mem.pushB (L:=[_,_,_,_,_,_,_,_,_,_,_,_]) pm (Mem.keepL (L:=[_,_,_,_,_,_,_,_,_,_,_,_,_,_]) [true,true,true,true,true,true,true,true,true,true,true,true,true,false] M25)⟩
   ·(show m - (i+1) < m - i;omega)
  ·have him:i=m:=by omega
   rw [him,List.take_of_length_le (by rw [hB.n_eq.1];exact Nat.le_refl _)] at hmb
   refine cM (cZ (dF (eL (aC (aE (kY [(0,0),(1,1),(2,1),(3,2),(4,2),(5,2),(6,0),(7,2)] mixed Z (by kernel_rfl) (fun w26 hb26 hh26 => ?_)))))))
   have M26:=hM19.drew hb26 hh26
   refine aX Z Z Z (fun _=>aD 0 gA Z) (bQ Z Z Z (aK 9 (.slice _ _ _) iW M26 Z Z Z) (bQ Z Z Z (aV 1 jI M26 Z Z Z) (dX 64 (.agg (dW o BA nn cc).toArray) Z (dO [true,false] Z (by kernel_rfl) (eJ bGh Z Z (aDj _ o BA nn cc (hP.mem M26) hnn) ?_)))))
   rintro v27 w27 ⟨p3,rfl,hp3,hM27⟩
   have M27:Mem _ _ ([_,_,_,_,_,_,_,_,_,_,_,_,_]++_) _:=Mem.front (L:=[_,_,_,_,_,_,_,_,_,_,_,_]) (M26.call0 hM27)
   refine aB (aC ⟨(dS (bH Z (aK 9 (.slice _ _ _) iW M27 Z Z Z)) dI), ?_⟩)
   refine dO [false] Z (by kernel_rfl) (bV [.agg (List.toArray _)] [dW o p3.A p3.n p3.c] Z nS M27 Z Z Z Z (cO Z) (by decide) (fun b28 w28 M28 => ?_))
   have M29:Mem _ _ ([_,_,_,_,_,_,_,_,_,_,_,_,_,_]++_) _:=Mem.front (L:=[_,_,_,_,_,_,_,_,_,_,_,_,_]) M28
   refine aB (aC ⟨(dS (bH Z (aK 9 (.slice _ _ _) iW M29 Z Z Z)) dI), ?_⟩)
   refine dO [true] rfl (by kernel_rfl) (cP 10 [dW o p3.A p3.n p3.c] nS M29 rfl rfl rfl rfl rfl hqo rfl (by simp [dW,aF,Go.Bil.one]) (dN.ofMem 13 M29 rfl) (by omega) (fun A30 c30 e30 w30 M30 hR30 => ?_))
   refine aB (aC ⟨dI, ?_⟩)
   refine aX Z Z Z (fun _=>aD 0 gA Z) (dO [] Z (by kernel_rfl) (dA 9 (.slice _ _ _) iW M30 Z Z Z Z Z Z (fun w31 M31 => ?_)))
   refine aB (aC ⟨dI, ?_⟩)
   refine bS (aC (aE (aE (aA (wq (aD 0 gA Z) Z (wq (aK 9 (.slice _ _ _) iW M31 Z Z Z) Z (wq (bW underlying27 Z) Z (aL 71 (.int .i64 ((n+1:Nat):Int)) (iE (by omega)) (wq (aD 1 lN Z) Z (wq (aK 9 (.int _ _) fE M31 Z Z Z) Z (wq (iL Z Z (by omega)) Z (aL 74 (.int .i64 (((n+1) % k:Nat):Int)) (iE (pU Z Z)) (cV Z Z Z Z (aB (aC ?_)))))))))))))))
   refine aW Z (fun h75 => ?_) (fun h75 => ?_)
   ·have hz:=bVa h75
    rw [← hol] at hz
    refine gJ [(0,0),(1,1),(2,0),(3,2),(4,2),(5,2),(6,0),(7,2)] mixed M31 Z (by kernel_rfl) (fun w32 M32=>(aX Z Z Z (fun _=>aD 2 gB Z) (bQ Z Z Z (aK 9 (.slice _ _ _) eV M32 Z Z Z) (aX Z Z Z (fun _=>aH (.pointer _) Z) (dO [false] Z (by kernel_rfl) (eJ aXz Z Z (oJ _ _ r1 _ hr1 (M32.ownSeg 4 3)) ?_))))))
    rintro v33 w33 ⟨pm2,rfl,hpm2,hM33⟩
    have M33:Mem _ _ ([_,_,_,_,_,_,_,_,_,_,_,_,_,_,_]++_) _:=Mem.front (L:=[_,_,_,_,_,_,_,_,_,_,_,_,_,_]) (M32.seg 4 3 hM33)
    refine aB (aC ⟨(dS (bH Z (aK 9 (.slice _ _ _) eV M33 Z Z Z)) dI), ?_⟩)
    refine dO [false] Z (by kernel_rfl) (bV [.slice _ _ _] [kX pm2] Z nT M33 Z Z Z Z (cO Z) (by decide) (fun b34 w34 M34 => ?_))
    have M35:Mem _ _ ([_,_,_,_,_,_,_,_,_,_,_,_,_,_,_,_]++_) _:=Mem.front (L:=[_,_,_,_,_,_,_,_,_,_,_,_,_,_,_]) M34
    refine aB (aC ⟨(dS (bH Z (aK 9 (.slice _ _ _) eV M35 Z Z Z)) dI), ?_⟩)
    refine dO [true] rfl (by kernel_rfl) (cP 11 [kX pm2] nT M35 rfl rfl rfl rfl rfl hqm rfl (by simp [kX,Go.Bil.one]) (dN.ofMem 15 M35 rfl) (by omega) (fun A36 c36 e36 w36 M36 hR36 => ?_))
    refine aB (aC ⟨dI, ?_⟩)
    refine aX Z Z Z (fun _=>aD 2 gB Z) (dO [] Z (by kernel_rfl) (dA 9 (.slice _ _ _) eV M36 Z Z Z Z Z Z (fun w37 M37 => ?_)))
    refine aB (aC ⟨dI, ?_⟩)
    refine bS (aC (aE (gJ [(0,1),(1,1),(2,2),(3,2)] mixed M37 Z (by kernel_rfl) (fun w38 M38=>(bQ Z Z Z (aV 9 eK M38 Z Z Z) (bQ Z Z Z (aV 8 fV M38 Z Z Z) (dO [false,true] Z (by kernel_rfl) (bC 2 _ eK M38 Z Z Z Z Z (aP Z) Z (fun w39 M39 => ?_)))))))))
    refine aB (aC ⟨(dS (bH Z (aV 8 fV M39 Z Z Z)) dI), ?_⟩)
    refine dO [true] Z (by kernel_rfl) (bC 3 _ fV M39 Z Z Z Z Z (aP Z) Z (fun w40 M40 => ?_))
    refine aB (aC ⟨dI, ?_⟩)
    refine bS (aC (aR (bQd 2 3 eK fV M40 Z Z Z Z Z Z ?_)))
    exact ⟨⟨A30,qo.n+1,c30,e30⟩,⟨A36,qm.n+1,c36,e36⟩,pz,ps++[p3],ms++[pm2],Z,⟨by rw [wC hpl,List.map_append];exact hR30,by rw [List.map_append];exact hpb.add hp3,aRq hgood (hP.good hnn),by rw [List.map_append];exact hR36,by rw [aKe hkp hz];exact hmb.add hpm2⟩,hpz,Mem.pushAB (L:=[_,_,_]) p3 pm2 (Mem.keepL (L:=[_,_,_,_,_,_,_,_,_,_,_,_,_,_,_,_]) [false,false,false,false,false,false,false,true,false,false,true,true,true,false,true,false] M40)⟩
   ·have hz:=bVb h75
    rw [← hol] at hz
    refine aM (aC (aE (gJ [(0,1),(1,1),(2,2),(3,2)] mixed M31 Z (by kernel_rfl) (fun w41 M41=>(bQ Z Z Z (aV 9 eK M41 Z Z Z) (bQ Z Z Z (aV 8 fV M41 Z Z Z) (dO [false,true] Z (by kernel_rfl) (bC 2 _ eK M41 Z Z Z Z Z (aP Z) Z (fun w42 M42 => ?_)))))))))
    refine aB (aC ⟨(dS (bH Z (aV 8 fV M42 Z Z Z)) dI), ?_⟩)
    refine dO [true] Z (by kernel_rfl) (bC 3 _ fV M42 Z Z Z Z Z (aP Z) Z (fun w43 M43 => ?_))
    refine aB (aC ⟨dI, ?_⟩)
    refine bS (aC (aR (bQd 2 3 eK fV M43 Z Z Z Z Z Z ?_)))
    exact ⟨⟨A30,qo.n+1,c30,e30⟩,qm,pz,ps++[p3],ms,Z,⟨by rw [wC hpl,List.map_append];exact hR30,by rw [List.map_append];exact hpb.add hp3,aRq hgood (hP.good hnn),hqm,by rw [aOj hkp hz];exact hmb⟩,hpz,Mem.pushA (L:=[_,_,_]) p3 (Mem.keepL (L:=[_,_,_,_,_,_,_,_,_,_,_,_,_,_]) [false,false,false,false,false,false,false,true,false,false,true,true,true,false] M43)⟩
end Go.Proofs.YtaoaknafiegfoaaGreatDoor
