/- Part of the proof of a law of this seat (22 texts). No conditions. -/
import Derived.Test.YtaoaknafiegfoaaGreatDoorK31
import Derived.Test.YtaoaknafiegfoaaGreatDoorK34
set_option linter.unusedVariables false
set_option linter.unusedSimpArgs false
set_option linter.unnecessarySimpa false
set_option maxHeartbeats 100000000
namespace Go.Proofs.YtaoaknafiegfoaaGreatDoor
open Go.Bil
open Go.RowKit (Below)
open Go.Proofs
open Go.Proofs.Tryz
theorem aZz (w:World) (b:Body) (hb:Okb b) (j:Int × Int) (hj1 : -2147483648≤j.1∧j.1≤2147483647) (hj2 : -2147483648≤j.2∧j.2≤2147483647) :
  Calls prog 124 #[(.agg (aF b).toArray),.agg [.int .i32 j.1,.int .i32 j.2].toArray] w (fE (fun v w'=>(∃ g:Bool,v=.tuple #[(.agg (aF (pushB b j)).toArray),.bool g])∧Below w.heap.size w w')):=by
 have hv:=hb.v
 have hm:=hb.m
 have hp1:=bMi hj1 hm
 have hp2:=bMi hj2 hm
 refine aH #[.cell 4 39,.tmp 5] 45 func124 Z results124 ntmps124 Z ?_
 have M0:=Mem.refl w
 refine aD (aA (bH (.agg (.mk _)) M0 Z Z Z (fun b1 w1 M1=>(bH (.agg (.mk _)) M1 Z Z Z (fun b2 w2 M2=>(aM iD M2 Z Z (fun b3 w3 M3=>(wq (aI (.bool false) Z) Z (aB (aC (aD (aA (aM aOp M3 Z Z (fun b4 w4 M4=>(dN 3 (.bool false) oG M4 Z Z Z Z Z Z (fun w5 M5=>(aB (aC (aD (aA (wq (aE 8 fS Z) Z (wq (aE 0 eB Z) Z (wq (aK 0 (.int _ _) aY M5 Z Z Z) Z (wq (bV gI underlying2 Z (kO _ (by omega) (by omega))) Z (wq (aE 0 eB Z) Z ?_)))))))))))))))))))))))))
 refine wq (aK 1 (.int _ _) aY M5 Z Z Z) Z (wq (bV gI underlying2 Z (kO _ (by omega) (by omega))) Z (wq (aE 4 fR Z) Z (wq (aK 0 (.int _ _) aY M5 Z Z Z) Z (wq (bV gI underlying2 Z (kO _ (by omega) (by omega))) Z (wq (fY Z Z (by omega) (by omega)) Z (wq (hJ Z Z (by decide)) Z (aS 20 (.int .i64 (j.1*b.mass / 65536)) (iE (mY _)) (wq (bM Z Z (by omega) (by omega)) Z (bP Z Z (aB (aC (aD (aA (wq (aE 8 fS Z) Z (wq (aE 1 dQ Z) Z (wq (aK 0 (.int _ _) aY M5 Z Z Z) Z ?_))))))))))))))))
 refine wq (bV gI underlying2 Z (kO _ (by omega) (by omega))) Z (wq (aE 1 dQ Z) Z (wq (aK 1 (.int _ _) aY M5 Z Z Z) Z (wq (bV gI underlying2 Z (kO _ (by omega) (by omega))) Z (wq (aE 4 fR Z) Z (wq (aK 0 (.int _ _) aY M5 Z Z Z) Z (wq (bV gI underlying2 Z (kO _ (by omega) (by omega))) Z (wq (fY Z Z (by omega) (by omega)) Z (wq (hJ Z Z (by decide)) Z (aS 33 (.int .i64 (j.2*b.mass / 65536)) (iE (mY _)) (wq (bM Z Z (by omega) (by omega)) Z (bP Z Z (aB (aC (aD (aA ?_)))))))))))))))
 refine aX Z Z (cP [.pointer _] [[.pointer (some ⟨b4,0,none⟩)]] Z aDr M5 Z Z Z Z (cW Z) (by decide) (fun b6 w6 M6 => ?_))
 have hlit36:=kC (T:=174) (sz:=1) (b:=b6) (nn:=1) [[.pointer (some ⟨b4,0,none⟩)]] (by simp) rfl (by decide)
 refine dU zN Z Z (lA _ (b.vx+j.1*b.mass / 65536) 16777216 ⟨by decide,by decide⟩ b4 _ _ 1 (hlit36.rd M6 (aV (i:=4) Z)) (hlit36.awayB M6 4 3 Z Z Z) (M6.ownSeg 3 1)) ?_
 rintro v7 w7 ⟨rfl,hM7⟩
 have M7:Mem _ _ [_,_,_,_,_] _:=M6.seg 3 1 hM7
 refine aX Z Z (cP [.pointer _] [[.pointer (some ⟨b4,0,none⟩)]] Z aDr M7 Z Z Z Z (cW Z) (by decide) (fun b8 w8 M8 => ?_))
 have hlit39:=kC (T:=174) (sz:=1) (b:=b8) (nn:=1) [[.pointer (some ⟨b4,0,none⟩)]] (by simp) rfl (by decide)
 refine dU zN Z Z (lA _ (b.vy+j.2*b.mass / 65536) 16777216 ⟨by decide,by decide⟩ b4 _ _ 1 (hlit39.rd M8 (aV (i:=5) Z)) (hlit39.awayB M8 5 3 Z Z Z) (M8.ownSeg 3 1)) ?_
 rintro v9 w9 ⟨rfl,hM9⟩
 have M9:Mem _ _ [_,_,_,_,_,_] _:=M8.seg 3 1 hM9
 refine wq (cE [(0,.int _ _),(1,.int _ _)] _ fD Z Z) Z (wq (aE 8 fS Z) Z (aGj 0 _ bL M9 Z Z Z Z Z (aQ Z) (Nat.le_of_ble_eq_true Z) (fun w10 M10=>(aB (aC (aD (gJ [(0,1),(1,1),(2,2),(3,0)] mixed M10 Z (by kernel_rfl) (fun w11 M11=>(bS Z Z Z (bB 0 bU M11 Z Z Z) (bS Z Z Z (aK 3 (.bool _) oG M11 Z Z Z) (dD [false,true] Z (by kernel_rfl) (aZ 2 _ bU M11 Z Z Z Z Z (aQ Z) Z (fun w12 M12 => ?_)))))))))))))
 refine aB (aC ⟨(eH (bJ Z (aK 3 (.bool _) oG M12 Z Z Z)) dE), ?_⟩)
 refine aU Z Z Z (fun _=>aI (.bool _) Z) (bZ (aC (aP (zZ (v2:=.bool _) 2 bU M12 Z Z Z Z ?_))))
 exact ⟨⟨_,Z⟩,M12.below⟩
theorem yU (w:World) (b:Nat) :
  Calls prog 60 #[.pointer (some ⟨b,0,none⟩)] w (Rb w (.pointer (some ⟨b,0,none⟩))):=by
 refine aH #[.tmp 2] 8 func60 Z results60 ntmps60 Z ?_
 have M0:=Mem.refl w
 refine aD (aA (wq (aI (.pointer _) Z) Z (aB (aC (aD (aD (aA (wq (aG (.pointer _) Z) Z (wq (eK false underlying25 Z Z) Z (aB (aC (bW Z (aL (aC (aD (aA (wq (aG (.pointer _) Z) Z (wq (aO Z) Z (wq (aE 0 qP Z) Z (wq (aI (.pointer _) Z) Z (aB (aC (aP (cB (.pointer _) Z ?_))))))))))))))))))))))))
 exact ⟨Z,M0.below⟩
theorem aRp (w:World) (b:Nat) (r:StV) (vs:List Body) (hW:bQ 39 r vs) (hO:Own [(some b,bc [.slice r.A r.n r.c,.map r.p] 107),r.er,r.em] w) (x:Body) (hx:InB x) :
  Calls prog 26 #[.pointer (some ⟨b,0,none⟩),(.agg (aF x).toArray)] w (fE (fun v w'=>∃ r':StV,v=.int .i64 (pZ vs x).2∧bQ 39 r' ((pZ vs x).1)∧Mem w (bI [(some b,bc [.slice r.A r.n r.c,.map r.p] 107),r.er,r.em]) [(some b,bc [.slice r'.A r'.n r'.c,.map r'.p] 107),r'.er,r'.em] w')):=by
 obtain ⟨hG,m,hs,hR⟩:=hW
 refine aH #[.tmp 4] 15 func26 Z results26 ntmps26 Z ?_
 have M0:=hO.mem
 refine aD (aA (bH (.agg (.mk _)) M0 Z Z Z (fun b1 w1 M1=>(bP Z Z (aB (aC (aD (aD (aA (wq (aG (.pointer _) Z) Z (dI aVc Z Z M1 (yU _ b) (fun w2 M2=>(wq (aI (.pointer _) Z) Z (aB (aC (aD (aA (wq (aG (.pointer _) Z) Z (wq (sS true underlying119 Z Z) Z (aB (aC (cU Z (aD (gJ [(0,0),(1,0),(2,0),(3,1),(4,2),(5,0)] mixed M2 Z (by kernel_rfl) (fun w3 M3=>(aU Z Z Z (fun _=>aG (.pointer _) Z) (aU Z Z Z (fun _=>aO Z) ?_)))))))))))))))))))))))))))
 refine aU Z Z Z (fun _=>aE 0 oC Z) (bS Z Z Z (bB 3 bU M3 Z Z Z) (dD [true] Z (by kernel_rfl) (dU bFa Z Z (aPt _ _ _ _ _ _ _ _ _ hs (M3.ownSeg 0 3) x) ?_)))
 rintro v4 w4 ⟨rfl,A4,n4,c4,p4,er4,em4,hs4,hM4⟩
 have M4:Mem _ _ [_,_,_,_] _:=M3.seg 0 3 hM4
 refine aB (aC ⟨dE, ?_⟩)
 refine qB Z Z Z (bZ (aC (aP (cL (cB (.int _ _) Z ?_)))))
 obtain ⟨q1,q2⟩:=hR.add x
 exact ⟨⟨A4,n4,c4,p4,er4,em4⟩,by rw [q2],yG hs4 q1 (aQm (hG.inm hR) hx),M4.keep [true,true,true,false]⟩
theorem aFt (w:World) (b:Nat) (r:StV) (vs:List Body) (hW:bQ 39 r vs) (hO:Own [(some b,bc [.slice r.A r.n r.c,.map r.p] 107),r.er,r.em] w) (key:Int) :
  Calls prog 86 #[.pointer (some ⟨b,0,none⟩),.int .u32 key] w (fE (fun v w'=>∃ r':StV,v=.int .i64 (iJ vs key).2∧bQ 39 r' ((iJ vs key).1)∧Mem w (bI [(some b,bc [.slice r.A r.n r.c,.map r.p] 107),r.er,r.em]) [(some b,bc [.slice r'.A r'.n r'.c,.map r'.p] 107),r'.er,r'.em] w')):=by
 obtain ⟨hG,m,hs,hR⟩:=hW
 refine aH #[.tmp 4] 15 func86 Z results86 ntmps86 Z ?_
 have M0:=hO.mem
 refine aD (aA (bP Z Z (aB (aC (aD (aD (aA (wq (aG (.pointer _) Z) Z (dI aVc Z Z M0 (yU _ b) (fun w1 M1=>(wq (aI (.pointer _) Z) Z (aB (aC (aD (aA (wq (aG (.pointer _) Z) Z (wq (sS true underlying119 Z Z) Z (aB (aC (cU Z (aD (aA (wq (aG (.pointer _) Z) Z (wq (aO Z) Z (wq (aE 0 oC Z) Z (aX Z Z ?_))))))))))))))))))))))))))
 refine dU bJk Z Z (aLk _ _ _ _ _ _ _ _ _ hs (M1.ownSeg 0 3) key) ?_
 rintro v2 w2 ⟨rfl,A2,n2,c2,p2,er2,em2,hs2,hM2⟩
 have M2:Mem _ _ [_,_,_] _:=M1.seg 0 3 hM2
 refine bP Z Z (aB (aC (aP (cL (cB (.int _ _) Z ?_)))))
 obtain ⟨q1,q2⟩:=hR.remove key
 exact ⟨⟨A2,n2,c2,p2,er2,em2⟩,by rw [q2],yG hs2 q1 (zA hs.keys (hG.inm hR)),M2.keep [true,true,true]⟩
theorem aRa (w:World) (b:Nat) (r:StV) (vs:List Body) (hW:bQ 39 r vs) (hO:Own [(some b,bc [.slice r.A r.n r.c,.map r.p] 107),r.er,r.em] w) (key:Int) :
  Calls prog 69 #[.pointer (some ⟨b,0,none⟩),.int .u32 key] w (fE (fun v w'=>v=.tuple #[(.agg (aF (rU vs key).body).toArray),.int .i64 (rU vs key).err]∧Mem w (bI [(some b,bc [.slice r.A r.n r.c,.map r.p] 107),r.er,r.em]) [(some b,bc [.slice r.A r.n r.c,.map r.p] 107),r.er,r.em] w')):=by
 obtain ⟨hG,m,hs,hR⟩:=hW
 refine aH #[.cell 4 39,.tmp 5] 19 func69 Z results69 ntmps69 Z ?_
 have M0:=hO.mem
 refine aD (aA (aM iD M0 Z Z (fun b1 w1 M1=>(bP Z Z (aB (aC (aD (aD (aA (wq (aG (.pointer _) Z) Z (dI aVc Z Z M1 (yU _ b) (fun w2 M2=>(wq (aI (.pointer _) Z) Z (aB (aC (aD (aA (wq (aG (.pointer _) Z) Z (wq (sS true underlying119 Z Z) Z (aB (aC (cU Z (aD (aA (wq (aG (.pointer _) Z) Z (wq (aO Z) Z (wq (aE 0 oC Z) Z ?_)))))))))))))))))))))))))))
 refine aX Z Z (dU bGv Z Z (bDc _ _ _ _ _ _ _ _ _ hs (M2.ownSeg 0 3) key) ?_)
 rintro v3 w3 ⟨⟨x3,rfl,hx3⟩,hM3⟩
 have M3:Mem _ _ [_,_,_,_] _:=M2.seg 0 3 hM3
 have hge:=bAu hR key
 obtain rfl:x3=(rU vs key).body:=by rw [hx3,hge]
 have hge2:(zY m key).2=(rU vs key).err:=by rw [hge]
 refine wq (bE (.agg (.mk _)) Z Z) Z (wq (bE (.int _ _) Z Z) Z (aS 17 (.int .i64 (rU vs key).err) (iE hge2) (aZ 3 _ bU M3 Z Z Z Z Z (aQ Z) Z (fun w4 M4=>(bP Z Z (aB (aC (aP (cL (zZ (v2:=.int _ _) 3 bU M4 Z Z Z Z ?_))))))))))
 exact ⟨Z,M4.keep [true,true,true,false]⟩
theorem oS (w:World) (b:Nat) (r:StV) (vs:List Body) (hW:bQ 39 r vs) (hO:Own [(some b,bc [.slice r.A r.n r.c,.map r.p] 107),r.er,r.em] w) :
  Calls prog 38 #[.pointer (some ⟨b,0,none⟩)] w (fE (fun v w'=>∃ q:Row,v=.slice q.A q.n q.c∧aR 39 10 q.A q.n q.c ((vs).map aF) q.e∧Mem w (bI [(some b,bc [.slice r.A r.n r.c,.map r.p] 107),r.er,r.em]) [(some b,bc [.slice r.A r.n r.c,.map r.p] 107),r.er,r.em,q.e] w')):=by
 have hW':=hW
 obtain ⟨hG,m,hs,hR⟩:=hW
 refine aH #[.tmp 2] 10 func38 Z results38 ntmps38 Z ?_
 have M0:=hO.mem
 refine aD (aA (eX Z Z (aB (aC (aD (aD (aA (wq (aG (.pointer _) Z) Z (wq (eK false underlying25 Z Z) Z (aB (aC (bW Z (aL (aC (aD (aA (wq (aG (.pointer _) Z) Z (wq (aO Z) Z (wq (aE 0 qP Z) Z (wq (aE 0 oC Z) Z (dU bKq Z Z (aNx _ _ _ _ _ _ _ _ _ hs (M0.ownSeg 0 3)) ?_)))))))))))))))))))))
 rintro v1 w1 ⟨A1,n1,c1,e1,rfl,hR1,hM1⟩
 have M1:Mem _ _ [_,_,_,_] _:=M0.seg 0 3 hM1
 rw [hR.eq] at hR1
 refine eX Z Z (aB (aC (aP (cB (.slice _ _ _) Z ?_))))
 exact ⟨⟨A1,n1,c1,e1⟩,Z,hR1,M1⟩
theorem gM (w:World) (b:Nat) (r:StV) (vs:List Body) (hW:bQ 39 r vs) (hO:Own [(some b,bc [.slice r.A r.n r.c,.map r.p] 107),r.er,r.em] w) :
  Calls prog 24 #[.pointer (some ⟨b,0,none⟩)] w (fE (fun v w'=>∃ q:Row,v=.slice q.A q.n q.c∧aR 5 1 q.A q.n q.c ((iK vs).map bG) q.e∧Mem w (bI [(some b,bc [.slice r.A r.n r.c,.map r.p] 107),r.er,r.em]) [(some b,bc [.slice r.A r.n r.c,.map r.p] 107),r.er,r.em,q.e] w')):=by
 have hW':=hW
 obtain ⟨hG,m,hs,hR⟩:=hW
 refine aH #[.tmp 2] 14 func24 Z results24 ntmps24 Z ?_
 have M0:=hO.mem
 refine aD (aA (eX Z Z (aB (aC (aD (aD (aA (wq (aG (.pointer _) Z) Z (wq (eK false underlying25 Z Z) Z (aB (aC (bW Z (aL (aC (aD (aA (wq (aG (.pointer _) Z) Z (dU aQg Z Z (oS _ _ r _ hW' (M0.ownSeg 0 3)) ?_))))))))))))))))))
 rintro v1 w1 ⟨q,rfl,hq,hM1⟩
 have M1:Mem _ _ [_,_,_,_] _:=M0.seg 0 3 hM1
 have hqn:vs.length=q.n:=by simpa using hq.1
 have hvl:=hG.len
 refine dU bLu Z Z (aGe _ _ _ _ vs (hq.rd M1 (aV (i:=3) Z)) (by omega) hG.chk hG.inb) ?_
 rintro v2 w2 ⟨z,rfl,hz,hM2⟩
 have M2:Mem _ _ [_,_,_,_,_] _:=M1.call0 hM2
 refine wq (aG (.tuple (List.toArray _)) Z) Z (wq (bE (.slice _ _ _) Z Z) Z (wq (bE (.int _ _) Z Z) Z (eX Z Z (bP Z Z (aB (aC (aD (aA (dZ Z Z (eX Z Z (aB (aC (aP (cB (.slice _ _ _) Z ?_))))))))))))))
 exact ⟨z,Z,hz,M2.keep [true,true,true,false,true]⟩
theorem aCo (w:World) (b:Nat) (r:StV) (vs:List Body) (hW:bQ 39 r vs) (hO:Own [(some b,bc [.slice r.A r.n r.c,.map r.p] 107),r.er,r.em] w) (key:Int) (j:Int × Int) (hj1 : -2147483648≤j.1∧j.1≤2147483647) (hj2 : -2147483648≤j.2∧j.2≤2147483647) :
  Calls prog 91 #[.pointer (some ⟨b,0,none⟩),.int .u32 key,.agg [.int .i32 j.1,.int .i32 j.2].toArray] w (fE (fun v w'=>∃ r':StV,v=.int .i64 (rV vs key j).2∧bQ 39 r' ((rV vs key j).1)∧Mem w (bI [(some b,bc [.slice r.A r.n r.c,.map r.p] 107),r.er,r.em]) [(some b,bc [.slice r'.A r'.n r'.c,.map r'.p] 107),r'.er,r'.em] w')):=by
 have hW':=hW
 obtain ⟨hG,m,hs,hR⟩:=hW
 refine aH #[.tmp 6] 30 func91 Z results91 ntmps91 Z ?_
 have M0:=hO.mem
 refine aD (aA (bH (.agg (.mk _)) M0 Z Z Z (fun b1 w1 M1=>(bP Z Z (aB (aC (aD (aA (wq (aG (.pointer _) Z) Z (aX Z Z (dU bLm Z Z (aRa _ _ r vs hW' (M1.ownSeg 0 3) key) ?_)))))))))))
 rintro v2 w2 ⟨rfl,hM2⟩
 have M2:Mem _ _ [_,_,_,_] _:=M1.seg 0 3 hM2
 refine wq (aG (.tuple (List.toArray _)) Z) Z (wq (bE (.agg (.mk _)) Z Z) Z (wq (bE (.int _ _) Z Z) Z (aM iD M2 Z Z (fun b3 w3 M3=>(aZ 4 _ bU M3 Z Z Z Z Z (aQ Z) Z (fun w4 M4=>(bP Z Z (aB (aC (aD (aD (aA (aX Z Z (dB Z Z Z Z (aB (aC ?_))))))))))))))))
 refine bA Z (fun h16 => ?_) (fun h16 => ?_)
 ·refine aD (aA (aX Z Z (bP Z Z (aB (aC (aP (cL (cB (.int _ _) Z ?_))))))))
  have hf:cI key vs < 0:=Decidable.byContradiction fun h=>h16 (by unfold rU;rw [if_neg h];rfl)
  exact ⟨r,by rw [zC j hf];unfold rU;rw [if_pos hf],by rw [zC j hf];exact hW',M4.keep [true,true,true,false,false]⟩
 ·have hf:¬ cI key vs < 0:=fun h=>h16 (by unfold rU;rw [if_pos h];decide)
  obtain ⟨i,bb,hbi,_,hfi⟩:=(dG key vs).resolve_left (fun h=>hf (by omega))
  have hgb:(rU vs key).body=bb:=by unfold rU;rw [if_neg hf];exact aBf hfi hbi
  obtain ⟨z1,z2,z3,z4⟩:=aOs hR hG j hfi hbi
  have hbo:=hG.okb bb (List.mem_of_getElem? hbi)
  refine aL (aC (aD (aA (wq (bB 4 bU M4 Z Z Z) Z (aS 19 ((.agg (aF bb).toArray)) (congrArg (fun x=>Value.agg (aF x).toArray) hgb) (wq (bB 3 bL M4 Z Z Z) Z (dU bIr Z Z (aZz _ bb hbo j hj1 hj2) ?_)))))))
  rintro v5 w5 ⟨⟨gg,rfl⟩,hb5⟩
  have M5:=M4.callB hb5
  refine wq (aG (.tuple (List.toArray _)) Z) Z (wq (bE (.agg (.mk _)) Z Z) Z (wq (bE (.bool _) Z Z) Z (aZ 4 _ bU M5 Z Z Z Z Z (aQ Z) Z (fun w6 M6=>(aB (aC (aD (gJ [(0,0),(1,0),(2,0),(3,0),(4,1),(5,2),(6,0)] mixed M6 Z (by kernel_rfl) (fun w7 M7=>(aU Z Z Z (fun _=>aG (.pointer _) Z) (aU Z Z Z (fun _=>aO Z) (aU Z Z Z (fun _=>aE 0 qP Z) (aU Z Z Z (fun _=>aE 0 oC Z) (bS Z Z Z (bB 4 bU M7 Z Z Z) (dD [true] Z (by kernel_rfl) ?_)))))))))))))))
  refine dU bIx Z Z (bCm _ _ _ _ _ _ _ _ _ hs (M7.ownSeg 0 3) (pushB bb j)) ?_
  rintro v8 w8 ⟨rfl,A8,n8,c8,p8,er8,em8,hs8,hM8⟩
  have M8:Mem _ _ [_,_,_,_,_] _:=M7.seg 0 3 hM8
  refine aB (aC ⟨dE, ?_⟩)
  refine qB Z Z Z (bZ (aC (aP (cB (.int _ _) Z ?_))))
  exact ⟨⟨A8,n8,c8,p8,er8,em8⟩,by rw [z3,z2],yG hs8 z1 (aOo (hG.inm hR) (aPy (hG.inb bb (List.mem_of_getElem? hbi)) j)),M8.keep [true,true,true,false,false]⟩
theorem nO (w:World) (b:Nat) (r:StV) (vs:List Body) (hW:bQ 39 r vs) (hO:Own [(some b,bc [.slice r.A r.n r.c,.map r.p] 107),r.er,r.em] w) (A:Option Addr) (n c:Nat) (xs:List Body) (RA:Rd w 10 A n (xs.map aF)) (hX:GoodV xs) (hdA:0 < n→∀ q off,A=some ⟨q,off,none⟩→q∉bI [(some b,bc [.slice r.A r.n r.c,.map r.p] 107),r.er,r.em]) :
  Calls prog 78 #[.pointer (some ⟨b,0,none⟩),.slice A n c] w (fE (fun v w'=>∃ r':StV,v=.tuple #[]∧bQ 39 r' (xs)∧Mem w (bI [(some b,bc [.slice r.A r.n r.c,.map r.p] 107),r.er,r.em]) [(some b,bc [.slice r'.A r'.n r'.c,.map r'.p] 107),r'.er,r'.em] w')):=by
 have hlen:xs.length=n:=by simpa using RA.len
 have hbd:=RA.bound
 have hxl:=hX.len
 refine aH #[] 23 func78 Z results78 ntmps78 Z ?_
 have M0:=hO.mem
 refine aD (aA (wq (aG (.pointer _) Z) Z (wq (cE [] _ aRx Z Z) Z (wq (aO Z) Z (wq (aE 0 qP Z) Z (aZ 0 _ bJe M0 Z Z Z Z Z (aQ Z) Z (fun w1 M1=>(aB (aC (aD (aA ?_)))))))))))
 have M2:Mem _ _ [_,_,_] _:=(((M1.keep [true,false,false]).dummy default).dummy default)
 refine dZ Z Z (wq (cG underlying29 Z) Z (aX Z Z (aB (aC (aT (dK (σ:=Nat × StV) [0,10,11] (fun (k,r2)=>[(12,.int .i64 (k:Int))]) (fun (k,r2) w'=>(k≤n∧StoreIs 39 r2.A r2.n r2.c r2.p r2.er r2.em (xs.take k))∧Mem w (bI [(some b,bc [.slice r.A r.n r.c,.map r.p] 107),r.er,r.em]) [(some b,bc [.slice r2.A r2.n r2.c,.map r2.p] 107),r2.er,r2.em] w') (fun (k,r2)=>n - k) (0,⟨none,0,0,none,(none,default),(none,default)⟩) (bN Z eZ) (⟨⟨by omega,(StoreIs.nil 39 default default)⟩,M2⟩) ?_))))))
 rintro ⟨k,r2⟩ ρ3 w3 ⟨⟨hk,hr⟩,hM3⟩
 refine aD (aA (dB Z Z Z Z (aB (aC (aD ?_)))))
 refine bA Z (fun h13 => ?_) (fun h13 => ?_)
 ·obtain ⟨xb,hxb⟩:=cF (xs:=xs) (k:=k) hlen (by omega)
  refine aL (aC (aD (aT (aD (aA (wq (bR (k) fC Z Z Z ((RA.memY hM3 hdA).below_len (aJ aF hxb)) ((RA.memY hM3 hdA).someK (aJ aF hxb))) Z (wq (dT _ bU (RA.memY hM3 hdA) (aJ aF hxb) Z) Z (aM iD hM3 Z Z (fun b4 w4 M4=>(aZ 3 _ bU M4 Z Z Z Z Z (aQ Z) Z (fun w5 M5=>(aB (aC (gJ [(0,0),(1,0),(2,0),(3,0),(4,1),(5,2)] mixed M5 Z (by kernel_rfl) (fun w6 M6=>(aU Z Z Z (fun _=>aG (.pointer _) Z) (aU Z Z Z (fun _=>aO Z) (aU Z Z Z (fun _=>aE 0 qP Z) ?_))))))))))))))))))
  refine aU Z Z Z (fun _=>aE 0 oC Z) (bS Z Z Z (bB 3 bU M6 Z Z Z) (dD [true] Z (by kernel_rfl) (dU bFa Z Z (aPt _ _ _ _ _ _ _ _ _ hr (M6.ownSeg 0 3) xb) ?_)))
  rintro v7 w7 ⟨rfl,A7,n7,c7,p7,er7,em7,hs7,hM7⟩
  have M7:Mem _ _ [_,_,_,_] _:=M6.seg 0 3 hM7
  refine aB (aC ⟨dE, ?_⟩)
  refine bZ (dF (aC (aA (wq (bM Z Z (by omega) (by omega)) Z (aX Z Z (aB ?_))))))
  refine cR (k+1,⟨A7,n7,c7,p7,er7,em7⟩) (bN Z eZ) (cT Z (cT Z (cT Z kB))) ?_ ?_
  ·exact ⟨⟨by omega,by rw [← aJo hX (k+1) (by omega),aBm hxb,aJo hX k (by omega)];exact hs7⟩,M7.keep [true,true,true,false]⟩
  ·(show n - (k+1) < n - k;omega)
 ·obtain rfl:k=n:=by omega
  rw [List.take_of_length_le (by omega)] at hr
  refine cO (dA (cX (eV (gZ ?_))))
  exact ⟨r2,Z,⟨hX,xs,hr,uE hX.s⟩,hM3⟩
theorem aNi (w:World) (F:Rd w 2 (some ⟨0,0,none⟩) 1 [[.int .u32 73856093,.int .u32 19349663]]) (N:Rd w 4 (some ⟨3,0,none⟩) 1 [cS fU]) (b:Nat) (r:StV) (vs:List Body) (hW:bQ 39 r vs) (hO:Own [(some b,bc [.slice r.A r.n r.c,.map r.p] 107),r.er,r.em] w) (hdF:0 < 1→∀ q off,(some ⟨0,0,none⟩:Option Addr)=some ⟨q,off,none⟩→q∉bI [(some b,bc [.slice r.A r.n r.c,.map r.p] 107),r.er,r.em]) (hdN:0 < 1→∀ q off,(some ⟨3,0,none⟩:Option Addr)=some ⟨q,off,none⟩→q∉bI [(some b,bc [.slice r.A r.n r.c,.map r.p] 107),r.er,r.em]) :
  Calls prog 53 #[.pointer (some ⟨b,0,none⟩)] w (fE (fun v w'=>∃ (r':StV) (t:Nat),v=.agg [.int .i64 (t:Int),.int .i64 ((lL vs).length:Int),.bool (sA vs)].toArray∧bQ 39 r' (oF vs)∧Mem w (bI [(some b,bc [.slice r.A r.n r.c,.map r.p] 107),r.er,r.em]) [(some b,bc [.slice r'.A r'.n r'.c,.map r'.p] 107),r'.er,r'.em] w')):=by
 have hW':=hW
 obtain ⟨hG,m,hs,hR⟩:=hW
 have hvl:=hG.len
 refine aH #[.cell 2 58] 18 func53 Z results53 ntmps53 Z ?_
 have M0:=hO.mem
 refine aD (aA (aM sU M0 Z Z (fun b1 w1 M1=>(aB (aC (aD (aD (aA (wq (aG (.pointer _) Z) Z (wq (eK false underlying25 Z Z) Z (aB (aC (bW Z (aL (aC (aD (aA (wq (aG (.pointer _) Z) Z (dU aQg Z Z (oS _ _ r _ hW' (M1.ownSeg 0 3)) ?_)))))))))))))))))))
 rintro v2 w2 ⟨q,rfl,hq,hM2⟩
 have M2:Mem _ _ [_,_,_,_,_] _:=M1.seg 0 3 hM2
 have hqn:vs.length=q.n:=by simpa using hq.1
 refine dU bEk Z Z (aDm _ (F.memY M2 hdF) (N.memY M2 hdN) _ _ _ vs (hq.rd M2 (aV (i:=4) Z)) hG.okb hG.s (by omega)) ?_
 rintro v3 w3 ⟨ra,ta,rfl,h1ta,h2ta,hra,hM3⟩
 have M3:Mem _ _ [_,_,_,_,_,_] _:=M2.call0 hM3
 refine wq (aG (.tuple (List.toArray _)) Z) Z (wq (bE (.slice _ _ _) Z Z) Z (wq (bE (.agg (.mk _)) Z Z) Z (aM sU M3 Z Z (fun b4 w4 M4=>(eX Z Z (aZ 6 _ oK M4 Z Z Z Z Z (aQ Z) Z (fun w5 M5=>(aB (aC (aD (aA (wq (aG (.pointer _) Z) Z (dZ Z Z (dU aWc Z Z (nO _ _ r _ hW' (M5.ownSeg 0 3) ra.A ra.n ra.c (oF vs) (hra.rd M5 (aV (i:=5) Z)) hG.step (hra.awayS M5 0 3 5 Z Z)) ?_))))))))))))))
 rintro v6 w6 ⟨r2,rfl,hw2,hM6⟩
 have M6:Mem _ _ [_,_,_,_,_,_,_] _:=M5.seg 0 3 hM6
 refine aB (aC (aD (aA (wq (bB 6 oK M6 Z Z Z) Z (aZ 3 _ oK M6 Z Z Z Z Z (aQ Z) Z (fun w7 M7=>(aB (aC (aP (eO 3 oK M7 Z Z Z ?_))))))))))
 exact ⟨r2,ta,Z,hw2,M7.keep [true,true,true,false,false,false,false]⟩
theorem sE (w:World) (b:Nat) (r:StV) (vs:List Body) (hW:bQ 39 r vs) (hO:Own [(some b,bc [.slice r.A r.n r.c,.map r.p] 107),r.er,r.em] w) (BA:Option Addr) (nn cc:Nat) (ls:List Int) (RS:Rd w 1 BA nn (ls.map bG)) (hB:gA ls) (hcap:nn≤cc) (hnn:nn≤1000000) (hdB:0 < nn→∀ q off,BA=some ⟨q,off,none⟩→q∉bI [(some b,bc [.slice r.A r.n r.c,.map r.p] 107),r.er,r.em]) :
  Calls prog 74 #[.pointer (some ⟨b,0,none⟩),.slice BA nn cc] w (fE (fun v w'=>∃ r':StV,v=.int .i64 (kX ls).2∧bQ 39 r' (nD vs ls)∧Mem w (bI [(some b,bc [.slice r.A r.n r.c,.map r.p] 107),r.er,r.em]) [(some b,bc [.slice r'.A r'.n r'.c,.map r'.p] 107),r'.er,r'.em] w')):=by
 have hW':=hW
 obtain ⟨hG,m,hs,hR⟩:=hW
 have hlen:ls.length=nn:=by simpa using RS.len
 refine aH #[.tmp 4] 20 func74 Z results74 ntmps74 Z ?_
 have M0:=hO.mem
 refine aD (aA (bP Z Z (aB (aC (aD (aD (aA (wq (aG (.pointer _) Z) Z (wq (eK false underlying25 Z Z) Z (aB (aC (bW Z (aL (aC (aD (aA (dZ Z Z (dU bEz Z Z (tP _ BA nn cc ls (RS.memY M0 hdB) hB hcap (by omega)) ?_))))))))))))))))))
 rintro v1 w1 ⟨q,rfl,hq,hM1⟩
 have M1:Mem _ _ [_,_,_,_] _:=M0.call0 hM1
 refine wq (aG (.tuple (List.toArray _)) Z) Z (wq (bE (.slice _ _ _) Z Z) Z (wq (bE (.int _ _) Z Z) Z (eX Z Z (bP Z Z (aB (aC (aD (aD (aA (aX Z Z (dB Z Z Z Z (aB (aC ?_)))))))))))))
 refine bA Z (fun h15 => ?_) (fun h15 => ?_)
 ·refine aA (wq (aG (.pointer _) Z) Z (dZ Z Z (dU aWc Z Z (nO _ _ r _ hW' (M1.ownSeg 0 3) q.A q.n q.c (kX ls).1 (hq.rd M1 (aV (i:=3) Z)) (GoodV.dec hB (by omega) h15) (hq.awayS M1 0 3 3 Z Z)) ?_)))
  rintro v2 w2 ⟨r2,rfl,hw2,hM2⟩
  have M2:Mem _ _ [_,_,_,_] _:=M1.seg 0 3 hM2
  refine aB (aC (aD (aA (aX Z Z (bP Z Z (aB (aC (aP (cB (.int _ _) Z ?_)))))))))
  exact ⟨r2,Z,by unfold nD;rw [if_pos h15];exact hw2,M2.keep [true,true,true,false]⟩
 ·refine aL (aC (aD (aA (aX Z Z (bP Z Z (aB (aC (aP (cB (.int _ _) Z ?_)))))))))
  exact ⟨r,Z,by unfold nD;rw [if_neg h15];exact hW',M1.keep [true,true,true,false]⟩
theorem aYi (w:World) :
  Calls prog 83 #[(.func (.func 26) #[] #[]:Value),(.func (.func 84) #[] #[]:Value)] w (fE (fun v w'=>∃ fa ga:Nat,v=(.func (.func 120) #[] #[.pointer (some ⟨fa,0,none⟩),.pointer (some ⟨ga,0,none⟩)]:Value)∧Mem w [] [(some fa,bc [(.func (.func 26) #[] #[]:Value)] 143),(some ga,bc [(.func (.func 84) #[] #[]:Value)] 144)] w')):=by
 refine aH #[.tmp 4] 6 func83 Z results83 ntmps83 Z ?_
 have M0:=Mem.refl w
 refine aD (aA (bH (.func _ _ _) M0 Z Z Z (fun b1 w1 M1=>(bH (.func _ _ _) M1 Z Z Z (fun b2 w2 M2=>(wq (aI (_) Z) Z (aB (aC (aD (aA (wq (cH [] [.pointer _,.pointer _] Z Z) Z (wq (aI (.func _ _ _) Z) Z (aB (aC (aP (cB (.func _ _ _) Z ?_))))))))))))))))
 exact ⟨_,_,Z,M2⟩
theorem aHi (w:World) :
  Calls prog 85 #[(.func (.func 86) #[] #[]:Value),(.func (.func 87) #[] #[]:Value)] w (fE (fun v w'=>∃ fa ga:Nat,v=(.func (.func 121) #[] #[.pointer (some ⟨fa,0,none⟩),.pointer (some ⟨ga,0,none⟩)]:Value)∧Mem w [] [(some fa,bc [(.func (.func 86) #[] #[]:Value)] 146),(some ga,bc [(.func (.func 87) #[] #[]:Value)] 148)] w')):=by
 refine aH #[.tmp 4] 6 func85 Z results85 ntmps85 Z ?_
 have M0:=Mem.refl w
 refine aD (aA (bH (.func _ _ _) M0 Z Z Z (fun b1 w1 M1=>(bH (.func _ _ _) M1 Z Z Z (fun b2 w2 M2=>(wq (aI (_) Z) Z (aB (aC (aD (aA (wq (cH [] [.pointer _,.pointer _] Z Z) Z (wq (aI (.func _ _ _) Z) Z (aB (aC (aP (cB (.func _ _ _) Z ?_))))))))))))))))
 exact ⟨_,_,Z,M2⟩
theorem aFo (w:World) :
  Calls prog 88 #[(.func (.func 74) #[] #[]:Value),(.func (.func 89) #[] #[]:Value)] w (fE (fun v w'=>∃ fa ga:Nat,v=(.func (.func 123) #[] #[.pointer (some ⟨fa,0,none⟩),.pointer (some ⟨ga,0,none⟩)]:Value)∧Mem w [] [(some fa,bc [(.func (.func 74) #[] #[]:Value)] 150),(some ga,bc [(.func (.func 89) #[] #[]:Value)] 151)] w')):=by
 refine aH #[.tmp 4] 6 func88 Z results88 ntmps88 Z ?_
 have M0:=Mem.refl w
 refine aD (aA (bH (.func _ _ _) M0 Z Z Z (fun b1 w1 M1=>(bH (.func _ _ _) M1 Z Z Z (fun b2 w2 M2=>(wq (aI (_) Z) Z (aB (aC (aD (aA (wq (cH [] [.pointer _,.pointer _] Z Z) Z (wq (aI (.func _ _ _) Z) Z (aB (aC (aP (cB (.func _ _ _) Z ?_))))))))))))))))
 exact ⟨_,_,Z,M2⟩
theorem bGk (w:World) (o:OpI) (BA:Option Addr) (nn cc:Nat) :
  Calls prog 84 #[.agg (dR o BA nn cc).toArray] w (Rb w ((.agg (aF o.body).toArray))):=by
 refine aH #[.cell 2 39] 5 func84 Z results84 ntmps84 Z ?_
 have M0:=Mem.refl w
 refine aD (aA (bH (.agg (.mk _)) M0 Z Z Z (fun b1 w1 M1=>(aM iD M1 Z Z (fun b2 w2 M2=>(aB (aC (aD (aA (wq (aE 1 bBx Z) Z (wq (uQ 0 _ bU M2 Z Z Z Z) Z (aZ 1 _ bU M2 Z Z Z Z Z (aQ Z) Z (fun w3 M3=>(aB (aC (aP (eO 1 bU M3 Z Z Z ?_)))))))))))))))))
 exact ⟨Z,M3.below⟩
theorem bJm (w:World) (o:OpI) (BA:Option Addr) (nn cc:Nat) :
  Calls prog 87 #[.agg (dR o BA nn cc).toArray] w (Rb w (.int .u32 o.key)):=by
 refine aH #[.tmp 2] 5 func87 Z results87 ntmps87 Z ?_
 have M0:=Mem.refl w
 refine aD (aA (bH (.agg (.mk _)) M0 Z Z Z (fun b1 w1 M1=>(bP Z Z (aB (aC (aD (aA (wq (aE 11 aPx Z) Z (wq (aK 0 (.int _ _) cA M1 Z Z Z) Z (bP Z Z (aB (aC (aP (cB (.int _ _) Z ?_)))))))))))))))
 exact ⟨Z,M1.below⟩
theorem bJt (w:World) (o:OpI) (BA:Option Addr) (nn cc:Nat) :
  Calls prog 89 #[.agg (dR o BA nn cc).toArray] w (Rb w (.slice BA nn cc)):=by
 refine aH #[.tmp 2] 5 func89 Z results89 ntmps89 Z ?_
 have M0:=Mem.refl w
 refine aD (aA (bH (.agg (.mk _)) M0 Z Z Z (fun b1 w1 M1=>(eX Z Z (aB (aC (aD (aA (wq (aE 14 aGm Z) Z (wq (aK 0 (.slice _ _ _) sB M1 Z Z Z) Z (eX Z Z (aB (aC (aP (cB (.slice _ _ _) Z ?_)))))))))))))))
 exact ⟨Z,M1.below⟩
def pK (f1 g1 f2 g2 f3 g3:Nat) (k:Int):Option Value:=if k=5 then some (.func (.func 93) #[] #[]:Value) else if k=4 then some (.func (.func 92) #[] #[]:Value) else if k=3 then some (.func (.func 90) #[] #[]:Value) else if k=6 then some (.func (.func 123) #[] #[.pointer (some ⟨f3,0,none⟩),.pointer (some ⟨g3,0,none⟩)]:Value) else if k=2 then some (.func (.func 121) #[] #[.pointer (some ⟨f2,0,none⟩),.pointer (some ⟨g2,0,none⟩)]:Value) else if k=1 then some (.func (.func 120) #[] #[.pointer (some ⟨f1,0,none⟩),.pointer (some ⟨g1,0,none⟩)]:Value) else none
theorem aXh {f1 g1 f2 g2 f3 g3:Nat} {k:Int} (h:k=1):pK f1 g1 f2 g2 f3 g3 k=some (.func (.func 120) #[] #[.pointer (some ⟨f1,0,none⟩),.pointer (some ⟨g1,0,none⟩)]:Value):=by subst h;rfl
theorem bAg {f1 g1 f2 g2 f3 g3:Nat} {k:Int} (h:k=2):pK f1 g1 f2 g2 f3 g3 k=some (.func (.func 121) #[] #[.pointer (some ⟨f2,0,none⟩),.pointer (some ⟨g2,0,none⟩)]:Value):=by subst h;rfl
theorem aYz {f1 g1 f2 g2 f3 g3:Nat} {k:Int} (h:k=6):pK f1 g1 f2 g2 f3 g3 k=some (.func (.func 123) #[] #[.pointer (some ⟨f3,0,none⟩),.pointer (some ⟨g3,0,none⟩)]:Value):=by subst h;rfl
theorem aUv {f1 g1 f2 g2 f3 g3:Nat} {k:Int} (h:k=3):pK f1 g1 f2 g2 f3 g3 k=some (.func (.func 90) #[] #[]:Value):=by subst h;rfl
theorem aXw {f1 g1 f2 g2 f3 g3:Nat} {k:Int} (h:k=4):pK f1 g1 f2 g2 f3 g3 k=some (.func (.func 92) #[] #[]:Value):=by subst h;rfl
theorem aYh {f1 g1 f2 g2 f3 g3:Nat} {k:Int} (h:k=5):pK f1 g1 f2 g2 f3 g3 k=some (.func (.func 93) #[] #[]:Value):=by subst h;rfl
theorem aYo {f1 g1 f2 g2 f3 g3:Nat} {k:Int} (h:k < 1∨6 < k):pK f1 g1 f2 g2 f3 g3 k=none:=by unfold pK;rw [if_neg (by omega),if_neg (by omega),if_neg (by omega),if_neg (by omega),if_neg (by omega),if_neg (by omega)]
theorem gV (w:World) :
  Calls prog 55 #[] w (fE (fun v w'=>∃ (p:Option Nat) (e:cY) (f1 g1 f2 g2 f3 g3:Nat),v=.map p∧iT .i64 (fun v:Value=>v) (pK f1 g1 f2 g2 f3 g3) p e∧Mem w [] [e,(some f1,bc [(.func (.func 26) #[] #[]:Value)] 143),(some g1,bc [(.func (.func 84) #[] #[]:Value)] 144),(some f2,bc [(.func (.func 86) #[] #[]:Value)] 146),(some g2,bc [(.func (.func 87) #[] #[]:Value)] 148),(some f3,bc [(.func (.func 74) #[] #[]:Value)] 150),(some g3,bc [(.func (.func 89) #[] #[]:Value)] 151)] w')):=by
 refine aH #[.tmp 0] 6 func55 Z results55 ntmps55 Z ?_
 have M0:=Mem.refl w
 refine aD (aA (wq (aI (.map _) Z) Z (aB (aC (aD (aA (kF M0 Z Z (fun b1 w1 M1=>(dU bKs Z Z (aYi _) ?_)))))))))
 rintro v2 w2 ⟨f1,g1,rfl,hM2⟩
 have M2:Mem _ _ [_,_,_] _:=M1.call0 hM2
 refine lX (enc:=(fun v:Value=>v)) (v:=(.func _ _ _)) 0 kD M2 Z Z (iT.empty _ _ b1) Z Z Z Z (fun e3 w3 hm3 M3=>(dU bMf Z Z (aHi _) ?_))
 rintro v4 w4 ⟨f2,g2,rfl,hM4⟩
 have M4:Mem _ _ [_,_,_,_,_] _:=M3.call0 hM4
 refine lX (enc:=(fun v:Value=>v)) (v:=(.func _ _ _)) 0 kD M4 Z Z hm3 Z Z Z Z (fun e5 w5 hm5 M5=>(dU bKj Z Z (aFo _) ?_))
 rintro v6 w6 ⟨f3,g3,rfl,hM6⟩
 have M6:Mem _ _ [_,_,_,_,_,_,_] _:=M5.call0 hM6
 refine lX (enc:=(fun v:Value=>v)) (v:=(.func _ _ _)) 0 kD M6 Z Z hm5 Z Z Z Z (fun e7 w7 hm7 M7=>(lX (enc:=(fun v:Value=>v)) (v:=(.func _ _ _)) 0 kD M7 Z Z hm7 Z Z Z Z (fun e8 w8 hm8 M8=>(lX (enc:=(fun v:Value=>v)) (v:=(.func _ _ _)) 0 kD M8 Z Z hm8 Z Z Z Z (fun e9 w9 hm9 M9=>(lX (enc:=(fun v:Value=>v)) (v:=(.func _ _ _)) 0 kD M9 Z Z hm9 Z Z Z Z (fun e10 w10 hm10 M10=>(wq (aG (.map _) Z) Z (wq (aI (.map _) Z) Z (aB (aC (aP (cB (.map _) Z ?_)))))))))))))
 exact ⟨_,_,f1,g1,f2,g2,f3,g3,Z,hm10,M10⟩
theorem aXr (w:World) (b:Nat) (r:StV) (vs:List Body) (hW:bQ 39 r vs) (fa ga:Nat) (hO:Own [(some b,bc [.slice r.A r.n r.c,.map r.p] 107),r.er,r.em,(some fa,bc [(.func (.func 26) #[] #[]:Value)] 143),(some ga,bc [(.func (.func 84) #[] #[]:Value)] 144)] w) (o:OpI) (BA:Option Addr) (nn cc:Nat) (hP:OpOk w o BA nn cc) (hnn:nn≤1000000) (hdB:0 < nn→∀ q off,BA=some ⟨q,off,none⟩→q∉bI [(some b,bc [.slice r.A r.n r.c,.map r.p] 107),r.er,r.em,(some fa,bc [(.func (.func 26) #[] #[]:Value)] 143),(some ga,bc [(.func (.func 84) #[] #[]:Value)] 144)]) :
  Calls prog 120 #[.pointer (some ⟨b,0,none⟩),.agg (dR o BA nn cc).toArray,.pointer (some ⟨fa,0,none⟩),.pointer (some ⟨ga,0,none⟩)] w (fE (fun v w'=>∃ r':StV,v=.agg [.int .i64 (pZ vs o.body).2,.slice none 0 0,.int .i64 0,.bool false].toArray∧bQ 39 r' ((pZ vs o.body).1)∧Mem w (bI [(some b,bc [.slice r.A r.n r.c,.map r.p] 107),r.er,r.em,(some fa,bc [(.func (.func 26) #[] #[]:Value)] 143),(some ga,bc [(.func (.func 84) #[] #[]:Value)] 144)]) [(some b,bc [.slice r'.A r'.n r'.c,.map r'.p] 107),r'.er,r'.em,(some fa,bc [(.func (.func 26) #[] #[]:Value)] 143),(some ga,bc [(.func (.func 84) #[] #[]:Value)] 144)] w')):=by
 have hG:=hW.1
 have hbl:=hP.len
 refine aH #[.cell 6 33] 14 func120 Z results120 ntmps120 Z ?_
 have M0:=hO.mem
 refine aD (aA (bH (.agg (.mk _)) M0 Z Z Z (fun b1 w1 M1=>(aM kJ M1 Z Z (fun b2 w2 M2=>(aB (aC (aD (gJ [(0,1),(1,0),(2,1),(3,1),(4,2),(5,2),(6,0),(7,2)] mixed M2 Z (by kernel_rfl) (fun w3 M3=>(bS Z Z Z (aK 3 (.func _ _ _) aWq M3 Z Z Z) (aU Z Z Z (fun _=>aG (.pointer _) Z) (bS Z Z Z (aK 4 (.func _ _ _) bGj M3 Z Z Z) (bS Z Z Z (bB 5 iI M3 Z Z Z) (dD [true,true,false] Z (by kernel_rfl) (dI bKu Z Z M3 (bGk _ o BA nn cc) (fun w4 M4 => ?_)))))))))))))))))
 refine aB (aC ⟨(eH (bJ Z (aK 3 (.func _ _ _) aWq M4 Z Z Z)) dE), ?_⟩)
 refine dD [true] Z (by kernel_rfl) (dU bLj Z Z (aRp _ _ r vs hW (M4.ownSeg 0 3) o.body hP.body) ?_)
 rintro v5 w5 ⟨r2,rfl,hw2,hM5⟩
 have M5:Mem _ _ [_,_,_,_,_,_,_] _:=M4.seg 0 3 hM5
 refine aB (aC ⟨dE, ?_⟩)
 refine aU Z Z Z (fun _=>cE [(0,.int _ _)] _ mO Z Z) (dD [] Z (by kernel_rfl) (aZ 6 _ gG M5 Z Z Z Z Z (aQ Z) Z (fun w6 M6 => ?_)))
 refine aB (aC ⟨dE, ?_⟩)
 refine bZ (aC (aP (eO 6 gG M6 Z Z Z ?_)))
 exact ⟨r2,Z,hw2,M6.keep [true,true,true,true,true,false,false]⟩
theorem aJj (w:World) (b:Nat) (r:StV) (vs:List Body) (hW:bQ 39 r vs) (fa ga:Nat) (hO:Own [(some b,bc [.slice r.A r.n r.c,.map r.p] 107),r.er,r.em,(some fa,bc [(.func (.func 86) #[] #[]:Value)] 146),(some ga,bc [(.func (.func 87) #[] #[]:Value)] 148)] w) (o:OpI) (BA:Option Addr) (nn cc:Nat) (hP:OpOk w o BA nn cc) (hnn:nn≤1000000) (hdB:0 < nn→∀ q off,BA=some ⟨q,off,none⟩→q∉bI [(some b,bc [.slice r.A r.n r.c,.map r.p] 107),r.er,r.em,(some fa,bc [(.func (.func 86) #[] #[]:Value)] 146),(some ga,bc [(.func (.func 87) #[] #[]:Value)] 148)]) :
  Calls prog 121 #[.pointer (some ⟨b,0,none⟩),.agg (dR o BA nn cc).toArray,.pointer (some ⟨fa,0,none⟩),.pointer (some ⟨ga,0,none⟩)] w (fE (fun v w'=>∃ r':StV,v=.agg [.int .i64 (iJ vs o.key).2,.slice none 0 0,.int .i64 0,.bool false].toArray∧bQ 39 r' ((iJ vs o.key).1)∧Mem w (bI [(some b,bc [.slice r.A r.n r.c,.map r.p] 107),r.er,r.em,(some fa,bc [(.func (.func 86) #[] #[]:Value)] 146),(some ga,bc [(.func (.func 87) #[] #[]:Value)] 148)]) [(some b,bc [.slice r'.A r'.n r'.c,.map r'.p] 107),r'.er,r'.em,(some fa,bc [(.func (.func 86) #[] #[]:Value)] 146),(some ga,bc [(.func (.func 87) #[] #[]:Value)] 148)] w')):=by
 have hG:=hW.1
 have hbl:=hP.len
 refine aH #[.cell 6 33] 14 func121 Z results121 ntmps121 Z ?_
 have M0:=hO.mem
 refine aD (aA (bH (.agg (.mk _)) M0 Z Z Z (fun b1 w1 M1=>(aM kJ M1 Z Z (fun b2 w2 M2=>(aB (aC (aD (gJ [(0,1),(1,0),(2,1),(3,1),(4,2),(5,2),(6,0),(7,2)] mixed M2 Z (by kernel_rfl) (fun w3 M3=>(bS Z Z Z (aK 3 (.func _ _ _) aYq M3 Z Z Z) (aU Z Z Z (fun _=>aG (.pointer _) Z) (bS Z Z Z (aK 4 (.func _ _ _) bIj M3 Z Z Z) (bS Z Z Z (bB 5 iI M3 Z Z Z) (dD [true,true,false] Z (by kernel_rfl) (dI bMh Z Z M3 (bJm _ o BA nn cc) (fun w4 M4 => ?_)))))))))))))))))
 refine aB (aC ⟨(eH (bJ Z (aK 3 (.func _ _ _) aYq M4 Z Z Z)) dE), ?_⟩)
 refine dD [true] Z (by kernel_rfl) (dU bKy Z Z (aFt _ _ r vs hW (M4.ownSeg 0 3) o.key) ?_)
 rintro v5 w5 ⟨r2,rfl,hw2,hM5⟩
 have M5:Mem _ _ [_,_,_,_,_,_,_] _:=M4.seg 0 3 hM5
 refine aB (aC ⟨dE, ?_⟩)
 refine aU Z Z Z (fun _=>cE [(0,.int _ _)] _ mO Z Z) (dD [] Z (by kernel_rfl) (aZ 6 _ gG M5 Z Z Z Z Z (aQ Z) Z (fun w6 M6 => ?_)))
 refine aB (aC ⟨dE, ?_⟩)
 refine bZ (aC (aP (eO 6 gG M6 Z Z Z ?_)))
 exact ⟨r2,Z,hw2,M6.keep [true,true,true,true,true,false,false]⟩
theorem aFw (w:World) (b:Nat) (r:StV) (vs:List Body) (hW:bQ 39 r vs) (fa ga:Nat) (hO:Own [(some b,bc [.slice r.A r.n r.c,.map r.p] 107),r.er,r.em,(some fa,bc [(.func (.func 74) #[] #[]:Value)] 150),(some ga,bc [(.func (.func 89) #[] #[]:Value)] 151)] w) (o:OpI) (BA:Option Addr) (nn cc:Nat) (hP:OpOk w o BA nn cc) (hnn:nn≤1000000) (hdB:0 < nn→∀ q off,BA=some ⟨q,off,none⟩→q∉bI [(some b,bc [.slice r.A r.n r.c,.map r.p] 107),r.er,r.em,(some fa,bc [(.func (.func 74) #[] #[]:Value)] 150),(some ga,bc [(.func (.func 89) #[] #[]:Value)] 151)]) :
  Calls prog 123 #[.pointer (some ⟨b,0,none⟩),.agg (dR o BA nn cc).toArray,.pointer (some ⟨fa,0,none⟩),.pointer (some ⟨ga,0,none⟩)] w (fE (fun v w'=>∃ r':StV,v=.agg [.int .i64 (kX o.bytes).2,.slice none 0 0,.int .i64 0,.bool false].toArray∧bQ 39 r' (nD vs o.bytes)∧Mem w (bI [(some b,bc [.slice r.A r.n r.c,.map r.p] 107),r.er,r.em,(some fa,bc [(.func (.func 74) #[] #[]:Value)] 150),(some ga,bc [(.func (.func 89) #[] #[]:Value)] 151)]) [(some b,bc [.slice r'.A r'.n r'.c,.map r'.p] 107),r'.er,r'.em,(some fa,bc [(.func (.func 74) #[] #[]:Value)] 150),(some ga,bc [(.func (.func 89) #[] #[]:Value)] 151)] w')):=by
 have hG:=hW.1
 have hbl:=hP.len
 refine aH #[.cell 6 33] 14 func123 Z results123 ntmps123 Z ?_
 have M0:=hO.mem
 refine aD (aA (bH (.agg (.mk _)) M0 Z Z Z (fun b1 w1 M1=>(aM kJ M1 Z Z (fun b2 w2 M2=>(aB (aC (aD (gJ [(0,1),(1,0),(2,1),(3,1),(4,2),(5,2),(6,0),(7,2)] mixed M2 Z (by kernel_rfl) (fun w3 M3=>(bS Z Z Z (aK 3 (.func _ _ _) aZa M3 Z Z Z) (aU Z Z Z (fun _=>aG (.pointer _) Z) (bS Z Z Z (aK 4 (.func _ _ _) bGa M3 Z Z Z) (bS Z Z Z (bB 5 iI M3 Z Z Z) (dD [true,true,false] Z (by kernel_rfl) (dI bMd Z Z M3 (bJt _ o BA nn cc) (fun w4 M4 => ?_)))))))))))))))))
 refine aB (aC ⟨(eH (bJ Z (aK 3 (.func _ _ _) aZa M4 Z Z Z)) dE), ?_⟩)
 refine dD [true] Z (by kernel_rfl) (dU bEj Z Z (sE _ _ r vs hW (M4.ownSeg 0 3) BA nn cc o.bytes (hP.rd.memY M4 hdB) hP.byt hP.cap hnn (M4.away 0 3 hP.rd hdB)) ?_)
 rintro v5 w5 ⟨r2,rfl,hw2,hM5⟩
 have M5:Mem _ _ [_,_,_,_,_,_,_] _:=M4.seg 0 3 hM5
 refine aB (aC ⟨dE, ?_⟩)
 refine aU Z Z Z (fun _=>cE [(0,.int _ _)] _ mO Z Z) (dD [] Z (by kernel_rfl) (aZ 6 _ gG M5 Z Z Z Z Z (aQ Z) Z (fun w6 M6 => ?_)))
 refine aB (aC ⟨dE, ?_⟩)
 refine bZ (aC (aP (eO 6 gG M6 Z Z Z ?_)))
 exact ⟨r2,Z,hw2,M6.keep [true,true,true,true,true,false,false]⟩
theorem aGp (w:World)  (b:Nat) (r:StV) (vs:List Body) (hW:bQ 39 r vs) (hO:Own [(some b,bc [.slice r.A r.n r.c,.map r.p] 107),r.er,r.em] w) (o:OpI) (BA:Option Addr) (nn cc:Nat) (hP:OpOk w o BA nn cc) (hnn:nn≤1000000) (hdB:0 < nn→∀ q off,BA=some ⟨q,off,none⟩→q∉bI [(some b,bc [.slice r.A r.n r.c,.map r.p] 107),r.er,r.em]) (hk:o.kind=3) :
  Calls prog 90 #[.pointer (some ⟨b,0,none⟩),.agg (dR o BA nn cc).toArray] w (fE (fun v w'=>∃ (r':StV) (p:Row),v=.agg (dC (iU vs o).2 p).toArray∧bQ 39 r' (iU vs o).1∧aR 5 1 p.A p.n p.c (((iU vs o).2.bytes).map bG) p.e∧Mem w (bI [(some b,bc [.slice r.A r.n r.c,.map r.p] 107),r.er,r.em]) [(some b,bc [.slice r'.A r'.n r'.c,.map r'.p] 107),r'.er,r'.em,p.e] w')):=by
 have hG:=hW.1
 have hbl:=hP.len
 refine aH #[.cell 4 33] 12 func90 Z results90 ntmps90 Z ?_
 have M0:=hO.mem
 refine aD (aA (bH (.agg (.mk _)) M0 Z Z Z (fun b1 w1 M1=>(aM kJ M1 Z Z (fun b2 w2 M2=>(aB (aC (aD (aA (wq (aG (.pointer _) Z) Z (wq (aE 11 aPx Z) Z (wq (aK 3 (.int _ _) cA M2 Z Z Z) Z (wq (aE 12 bBb Z) Z (wq (uQ 3 _ bL M2 Z Z Z Z) Z (dU bKt Z Z (aCo _ _ r vs hW (M2.ownSeg 0 3) o.key o.push hP.p1 hP.p2) ?_)))))))))))))))
 rintro v3 w3 ⟨r2,rfl,hw2,hM3⟩
 have M3:Mem _ _ [_,_,_,_,_] _:=M2.seg 0 3 hM3
 refine wq (cE [(0,.int _ _)] _ mO Z Z) Z (aZ 4 _ gG M3 Z Z Z Z Z (aQ Z) Z (fun w4 M4=>(aB (aC (aP (eO 4 gG M4 Z Z Z ?_))))))
 exact ⟨r2,⟨none,0,0,(none,default)⟩,by rw [bFs hk];rfl,by rw [bFs hk];exact hw2,by rw [bFs hk];exact aR.nil _ _ _,(M4.keep [true,true,true,false,false]).dummy default⟩
theorem aSk (w:World) (F:Rd w 2 (some ⟨0,0,none⟩) 1 [[.int .u32 73856093,.int .u32 19349663]]) (N:Rd w 4 (some ⟨3,0,none⟩) 1 [cS fU]) (b:Nat) (r:StV) (vs:List Body) (hW:bQ 39 r vs) (hO:Own [(some b,bc [.slice r.A r.n r.c,.map r.p] 107),r.er,r.em] w) (o:OpI) (BA:Option Addr) (nn cc:Nat) (hP:OpOk w o BA nn cc) (hnn:nn≤1000000) (hdB:0 < nn→∀ q off,BA=some ⟨q,off,none⟩→q∉bI [(some b,bc [.slice r.A r.n r.c,.map r.p] 107),r.er,r.em]) (hdF:0 < 1→∀ q off,(some ⟨0,0,none⟩:Option Addr)=some ⟨q,off,none⟩→q∉bI [(some b,bc [.slice r.A r.n r.c,.map r.p] 107),r.er,r.em]) (hdN:0 < 1→∀ q off,(some ⟨3,0,none⟩:Option Addr)=some ⟨q,off,none⟩→q∉bI [(some b,bc [.slice r.A r.n r.c,.map r.p] 107),r.er,r.em]) (hk:o.kind=4) :
  Calls prog 92 #[.pointer (some ⟨b,0,none⟩),.agg (dR o BA nn cc).toArray] w (fE (fun v w'=>∃ (r':StV) (p:Row),v=.agg (dC (iU vs o).2 p).toArray∧bQ 39 r' (iU vs o).1∧aR 5 1 p.A p.n p.c (((iU vs o).2.bytes).map bG) p.e∧Mem w (bI [(some b,bc [.slice r.A r.n r.c,.map r.p] 107),r.er,r.em]) [(some b,bc [.slice r'.A r'.n r'.c,.map r'.p] 107),r'.er,r'.em,p.e] w')):=by
 have hG:=hW.1
 have hbl:=hP.len
 refine aH #[.cell 4 33] 13 func92 Z results92 ntmps92 Z ?_
 have M0:=hO.mem
 refine aD (aA (bH (.agg (.mk _)) M0 Z Z Z (fun b1 w1 M1=>(aM kJ M1 Z Z (fun b2 w2 M2=>(aB (aC (aD (aA (wq (aG (.pointer _) Z) Z (dU bEf Z Z (aNi _ (F.memY M2 hdF) (N.memY M2 hdN) _ r vs hW (M2.ownSeg 0 3) (M2.away 0 3 F hdF) (M2.away 0 3 N hdN)) ?_)))))))))))
 rintro v3 w3 ⟨r2,ts,rfl,hw2,hM3⟩
 have M3:Mem _ _ [_,_,_,_,_] _:=M2.seg 0 3 hM3
 refine aM sU M3 Z Z (fun b4 w4 M4=>(aZ 5 _ oK M4 Z Z Z Z Z (aQ Z) Z (fun w5 M5=>(aB (aC (aD (aA (wq (aE 1 aFv Z) Z (wq (aK 5 (.int _ _) fZ M5 Z Z Z) Z (wq (aE 2 uI Z) Z (wq (aK 5 (.bool _) oG M5 Z Z Z) Z (wq (cE [(2,.int _ _),(3,.bool _)] _ mO Z Z) Z (aZ 4 _ gG M5 Z Z Z Z Z (aQ Z) Z (fun w6 M6=>(aB (aC (aP (eO 4 gG M6 Z Z Z ?_))))))))))))))))))
 exact ⟨r2,⟨none,0,0,(none,default)⟩,by rw [bGi hk];rfl,by rw [bGi hk];exact hw2,by rw [bGi hk];exact aR.nil _ _ _,(M6.keep [true,true,true,false,false,false]).dummy default⟩
theorem aCp (w:World)  (b:Nat) (r:StV) (vs:List Body) (hW:bQ 39 r vs) (hO:Own [(some b,bc [.slice r.A r.n r.c,.map r.p] 107),r.er,r.em] w) (o:OpI) (BA:Option Addr) (nn cc:Nat) (hP:OpOk w o BA nn cc) (hnn:nn≤1000000) (hdB:0 < nn→∀ q off,BA=some ⟨q,off,none⟩→q∉bI [(some b,bc [.slice r.A r.n r.c,.map r.p] 107),r.er,r.em]) (hk:o.kind=5) :
  Calls prog 93 #[.pointer (some ⟨b,0,none⟩),.agg (dR o BA nn cc).toArray] w (fE (fun v w'=>∃ (r':StV) (p:Row),v=.agg (dC (iU vs o).2 p).toArray∧bQ 39 r' (iU vs o).1∧aR 5 1 p.A p.n p.c (((iU vs o).2.bytes).map bG) p.e∧Mem w (bI [(some b,bc [.slice r.A r.n r.c,.map r.p] 107),r.er,r.em]) [(some b,bc [.slice r'.A r'.n r'.c,.map r'.p] 107),r'.er,r'.em,p.e] w')):=by
 have hG:=hW.1
 have hbl:=hP.len
 refine aH #[.cell 4 33] 8 func93 Z results93 ntmps93 Z ?_
 have M0:=hO.mem
 refine aD (aA (bH (.agg (.mk _)) M0 Z Z Z (fun b1 w1 M1=>(aM kJ M1 Z Z (fun b2 w2 M2=>(aB (aC (aD (aA (wq (aG (.pointer _) Z) Z (dU aEn Z Z (gM _ _ r vs hW (M2.ownSeg 0 3)) ?_)))))))))))
 rintro v3 w3 ⟨pb,rfl,hpb,hM3⟩
 have M3:Mem _ _ [_,_,_,_,_,_] _:=M2.seg 0 3 hM3
 refine wq (cE [(1,.slice _ _ _)] _ mO Z Z) Z (aZ 4 _ gG M3 Z Z Z Z Z (aQ Z) Z (fun w4 M4=>(aB (aC (aP (eO 4 gG M4 Z Z Z ?_))))))
 exact ⟨r,pb,by rw [bGo hk];rfl,by rw [bGo hk];exact hW,by rw [bGo hk];exact hpb,(M4.keep [true,true,true,false,false,true])⟩
theorem aNv (w:World)  (b:Nat) (r:StV) (vs:List Body) (hW:bQ 39 r vs) (hO:Own [(some b,bc [.slice r.A r.n r.c,.map r.p] 107),r.er,r.em] w) (o:OpI) (BA:Option Addr) (nn cc:Nat) (hP:OpOk w o BA nn cc) (hnn:nn≤1000000) (hdB:0 < nn→∀ q off,BA=some ⟨q,off,none⟩→q∉bI [(some b,bc [.slice r.A r.n r.c,.map r.p] 107),r.er,r.em]) (hk:o.kind=1) :
  Calls prog 20 #[.pointer (some ⟨b,0,none⟩),.agg (dR o BA nn cc).toArray] w (fE (fun v w'=>∃ (r':StV) (p:Row),v=.agg (dC (iU vs o).2 p).toArray∧bQ 39 r' (iU vs o).1∧aR 5 1 p.A p.n p.c (((iU vs o).2.bytes).map bG) p.e∧Mem w (bI [(some b,bc [.slice r.A r.n r.c,.map r.p] 107),r.er,r.em]) [(some b,bc [.slice r'.A r'.n r'.c,.map r'.p] 107),r'.er,r'.em,p.e] w')):=by
 have hG:=hW.1
 have hbl:=hP.len
 refine aH #[.cell 4 33] 21 func20 Z results20 ntmps20 Z ?_
 have M0:=hO.mem
 refine aD (aA (bH (.agg (.mk _)) M0 Z Z Z (fun b1 w1 M1=>(aM kJ M1 Z Z (fun b2 w2 M2=>(aB (aC (aD (gJ [(1,0),(2,1),(0,2),(3,1),(4,0),(5,0),(6,0),(7,0),(8,0)] mixed M2 Z (by kernel_rfl) (fun w3 M3=>(aU Z Z Z (fun _=>aE 0 pE Z) (bS Z Z Z (aK 3 (.int _ _) fZ M3 Z Z Z) (dD [false] Z (by kernel_rfl) (dU aAz Z Z (gV _) ?_))))))))))))))
 rintro v4 w4 ⟨pm,em,f1,g1,f2,g2,f3,g3,rfl,hmap,hM4⟩
 have M4:Mem _ _ [_,_,_,_,_,_,_,_,_,_,_,_] _:=M3.call0 hM4
 refine aB (aC ⟨(eH (bJ Z (aK 3 (.int _ _) fZ M4 Z Z Z)) dE), ?_⟩)
 refine bS Z Z Z (iN (enc:=(fun v:Value=>v)) .nilFunc 5 kD aKy M4 Z hmap Z Z) (fA 11 (.tuple [(.func (.func 120) #[] #[.pointer (some ⟨f1,0,none⟩),.pointer (some ⟨g1,0,none⟩)]:Value),.bool true].toArray) (lU (aXh hk)) (aU Z Z Z (fun _=>aG (.tuple (List.toArray _)) Z) (aU Z Z Z (fun _=>bE (.func _ _ _) Z Z) (aU Z Z Z (fun _=>bE (.bool true) Z Z) (aU Z Z Z (fun _=>aI (.func _ _ _) Z) (aU Z Z Z (fun _=>aI (.bool true) Z) (bZ (aC (aD (aD (aA (wq (aG (.bool true) Z) Z ?_))))))))))))
 refine wq (gE false Z Z) Z (aB (aC (bW Z (aL (aC (aD (aA (wq (aG (.func _ _ _) Z) Z (wq (aG (.pointer _) Z) Z (wq (bB 3 iI M4 Z Z Z) Z (dU bHs Z Z (aXr _ _ r vs hW _ _ (M4.ownK [true,true,true,false,false,false,true,true,false,false,false,false]) o BA nn cc (hP.memY M4 hdB) hnn (M4.awayK [true,true,true,false,false,false,true,true,false,false,false,false] hP.rd hdB)) ?_)))))))))))
 rintro v5 w5 ⟨r2,rfl,hw2,hM5⟩
 have M5:Mem _ _ [_,_,_,_,_,_,_,_,_,_,_,_] _:=M4.callK [true,true,true,false,false,false,true,true,false,false,false,false] rfl hM5
 refine aZ 6 _ gG M5 Z Z Z Z Z (aQ Z) Z (fun w6 M6=>(aB (aC (aP (eO 6 gG M6 Z Z Z ?_)))))
 exact ⟨r2,⟨none,0,0,(none,default)⟩,by rw [aRm hk];rfl,by rw [aRm hk];exact hw2,by rw [aRm hk];exact aR.nil _ _ _,(M6.keep [true,true,true,false,false,false,false,false,false,false,false,false]).dummy default⟩
theorem aKz (w:World)  (b:Nat) (r:StV) (vs:List Body) (hW:bQ 39 r vs) (hO:Own [(some b,bc [.slice r.A r.n r.c,.map r.p] 107),r.er,r.em] w) (o:OpI) (BA:Option Addr) (nn cc:Nat) (hP:OpOk w o BA nn cc) (hnn:nn≤1000000) (hdB:0 < nn→∀ q off,BA=some ⟨q,off,none⟩→q∉bI [(some b,bc [.slice r.A r.n r.c,.map r.p] 107),r.er,r.em]) (hk:o.kind=2) :
  Calls prog 20 #[.pointer (some ⟨b,0,none⟩),.agg (dR o BA nn cc).toArray] w (fE (fun v w'=>∃ (r':StV) (p:Row),v=.agg (dC (iU vs o).2 p).toArray∧bQ 39 r' (iU vs o).1∧aR 5 1 p.A p.n p.c (((iU vs o).2.bytes).map bG) p.e∧Mem w (bI [(some b,bc [.slice r.A r.n r.c,.map r.p] 107),r.er,r.em]) [(some b,bc [.slice r'.A r'.n r'.c,.map r'.p] 107),r'.er,r'.em,p.e] w')):=by
 have hG:=hW.1
 have hbl:=hP.len
 refine aH #[.cell 4 33] 21 func20 Z results20 ntmps20 Z ?_
 have M0:=hO.mem
 refine aD (aA (bH (.agg (.mk _)) M0 Z Z Z (fun b1 w1 M1=>(aM kJ M1 Z Z (fun b2 w2 M2=>(aB (aC (aD (gJ [(1,0),(2,1),(0,2),(3,1),(4,0),(5,0),(6,0),(7,0),(8,0)] mixed M2 Z (by kernel_rfl) (fun w3 M3=>(aU Z Z Z (fun _=>aE 0 pE Z) (bS Z Z Z (aK 3 (.int _ _) fZ M3 Z Z Z) (dD [false] Z (by kernel_rfl) (dU aAz Z Z (gV _) ?_))))))))))))))
 rintro v4 w4 ⟨pm,em,f1,g1,f2,g2,f3,g3,rfl,hmap,hM4⟩
 have M4:Mem _ _ [_,_,_,_,_,_,_,_,_,_,_,_] _:=M3.call0 hM4
 refine aB (aC ⟨(eH (bJ Z (aK 3 (.int _ _) fZ M4 Z Z Z)) dE), ?_⟩)
 refine bS Z Z Z (iN (enc:=(fun v:Value=>v)) .nilFunc 5 kD aKy M4 Z hmap Z Z) (fA 11 (.tuple [(.func (.func 121) #[] #[.pointer (some ⟨f2,0,none⟩),.pointer (some ⟨g2,0,none⟩)]:Value),.bool true].toArray) (lU (bAg hk)) (aU Z Z Z (fun _=>aG (.tuple (List.toArray _)) Z) (aU Z Z Z (fun _=>bE (.func _ _ _) Z Z) (aU Z Z Z (fun _=>bE (.bool true) Z Z) (aU Z Z Z (fun _=>aI (.func _ _ _) Z) (aU Z Z Z (fun _=>aI (.bool true) Z) (bZ (aC (aD (aD (aA (wq (aG (.bool true) Z) Z ?_))))))))))))
 refine wq (gE false Z Z) Z (aB (aC (bW Z (aL (aC (aD (aA (wq (aG (.func _ _ _) Z) Z (wq (aG (.pointer _) Z) Z (wq (bB 3 iI M4 Z Z Z) Z (dU bHt Z Z (aJj _ _ r vs hW _ _ (M4.ownK [true,true,true,false,false,false,false,false,true,true,false,false]) o BA nn cc (hP.memY M4 hdB) hnn (M4.awayK [true,true,true,false,false,false,false,false,true,true,false,false] hP.rd hdB)) ?_)))))))))))
 rintro v5 w5 ⟨r2,rfl,hw2,hM5⟩
 have M5:Mem _ _ [_,_,_,_,_,_,_,_,_,_,_,_] _:=M4.callK [true,true,true,false,false,false,false,false,true,true,false,false] rfl hM5
 refine aZ 6 _ gG M5 Z Z Z Z Z (aQ Z) Z (fun w6 M6=>(aB (aC (aP (eO 6 gG M6 Z Z Z ?_)))))
 exact ⟨r2,⟨none,0,0,(none,default)⟩,by rw [bFy hk];rfl,by rw [bFy hk];exact hw2,by rw [bFy hk];exact aR.nil _ _ _,(M6.keep [true,true,true,false,false,false,false,false,false,false,false,false]).dummy default⟩
theorem aMx (w:World)  (b:Nat) (r:StV) (vs:List Body) (hW:bQ 39 r vs) (hO:Own [(some b,bc [.slice r.A r.n r.c,.map r.p] 107),r.er,r.em] w) (o:OpI) (BA:Option Addr) (nn cc:Nat) (hP:OpOk w o BA nn cc) (hnn:nn≤1000000) (hdB:0 < nn→∀ q off,BA=some ⟨q,off,none⟩→q∉bI [(some b,bc [.slice r.A r.n r.c,.map r.p] 107),r.er,r.em]) (hk:o.kind=6) :
  Calls prog 20 #[.pointer (some ⟨b,0,none⟩),.agg (dR o BA nn cc).toArray] w (fE (fun v w'=>∃ (r':StV) (p:Row),v=.agg (dC (iU vs o).2 p).toArray∧bQ 39 r' (iU vs o).1∧aR 5 1 p.A p.n p.c (((iU vs o).2.bytes).map bG) p.e∧Mem w (bI [(some b,bc [.slice r.A r.n r.c,.map r.p] 107),r.er,r.em]) [(some b,bc [.slice r'.A r'.n r'.c,.map r'.p] 107),r'.er,r'.em,p.e] w')):=by
 have hG:=hW.1
 have hbl:=hP.len
 refine aH #[.cell 4 33] 21 func20 Z results20 ntmps20 Z ?_
 have M0:=hO.mem
 refine aD (aA (bH (.agg (.mk _)) M0 Z Z Z (fun b1 w1 M1=>(aM kJ M1 Z Z (fun b2 w2 M2=>(aB (aC (aD (gJ [(1,0),(2,1),(0,2),(3,1),(4,0),(5,0),(6,0),(7,0),(8,0)] mixed M2 Z (by kernel_rfl) (fun w3 M3=>(aU Z Z Z (fun _=>aE 0 pE Z) (bS Z Z Z (aK 3 (.int _ _) fZ M3 Z Z Z) (dD [false] Z (by kernel_rfl) (dU aAz Z Z (gV _) ?_))))))))))))))
 rintro v4 w4 ⟨pm,em,f1,g1,f2,g2,f3,g3,rfl,hmap,hM4⟩
 have M4:Mem _ _ [_,_,_,_,_,_,_,_,_,_,_,_] _:=M3.call0 hM4
 refine aB (aC ⟨(eH (bJ Z (aK 3 (.int _ _) fZ M4 Z Z Z)) dE), ?_⟩)
 refine bS Z Z Z (iN (enc:=(fun v:Value=>v)) .nilFunc 5 kD aKy M4 Z hmap Z Z) (fA 11 (.tuple [(.func (.func 123) #[] #[.pointer (some ⟨f3,0,none⟩),.pointer (some ⟨g3,0,none⟩)]:Value),.bool true].toArray) (lU (aYz hk)) (aU Z Z Z (fun _=>aG (.tuple (List.toArray _)) Z) (aU Z Z Z (fun _=>bE (.func _ _ _) Z Z) (aU Z Z Z (fun _=>bE (.bool true) Z Z) (aU Z Z Z (fun _=>aI (.func _ _ _) Z) (aU Z Z Z (fun _=>aI (.bool true) Z) (bZ (aC (aD (aD (aA (wq (aG (.bool true) Z) Z ?_))))))))))))
 refine wq (gE false Z Z) Z (aB (aC (bW Z (aL (aC (aD (aA (wq (aG (.func _ _ _) Z) Z (wq (aG (.pointer _) Z) Z (wq (bB 3 iI M4 Z Z Z) Z (dU bJs Z Z (aFw _ _ r vs hW _ _ (M4.ownK [true,true,true,false,false,false,false,false,false,false,true,true]) o BA nn cc (hP.memY M4 hdB) hnn (M4.awayK [true,true,true,false,false,false,false,false,false,false,true,true] hP.rd hdB)) ?_)))))))))))
 rintro v5 w5 ⟨r2,rfl,hw2,hM5⟩
 have M5:Mem _ _ [_,_,_,_,_,_,_,_,_,_,_,_] _:=M4.callK [true,true,true,false,false,false,false,false,false,false,true,true] rfl hM5
 refine aZ 6 _ gG M5 Z Z Z Z Z (aQ Z) Z (fun w6 M6=>(aB (aC (aP (eO 6 gG M6 Z Z Z ?_)))))
 exact ⟨r2,⟨none,0,0,(none,default)⟩,by rw [bJu hk];rfl,by rw [bJu hk];exact hw2,by rw [bJu hk];exact aR.nil _ _ _,(M6.keep [true,true,true,false,false,false,false,false,false,false,false,false]).dummy default⟩
theorem aNs (w:World)  (b:Nat) (r:StV) (vs:List Body) (hW:bQ 39 r vs) (hO:Own [(some b,bc [.slice r.A r.n r.c,.map r.p] 107),r.er,r.em] w) (o:OpI) (BA:Option Addr) (nn cc:Nat) (hP:OpOk w o BA nn cc) (hnn:nn≤1000000) (hdB:0 < nn→∀ q off,BA=some ⟨q,off,none⟩→q∉bI [(some b,bc [.slice r.A r.n r.c,.map r.p] 107),r.er,r.em]) (hk:o.kind=3) :
  Calls prog 20 #[.pointer (some ⟨b,0,none⟩),.agg (dR o BA nn cc).toArray] w (fE (fun v w'=>∃ (r':StV) (p:Row),v=.agg (dC (iU vs o).2 p).toArray∧bQ 39 r' (iU vs o).1∧aR 5 1 p.A p.n p.c (((iU vs o).2.bytes).map bG) p.e∧Mem w (bI [(some b,bc [.slice r.A r.n r.c,.map r.p] 107),r.er,r.em]) [(some b,bc [.slice r'.A r'.n r'.c,.map r'.p] 107),r'.er,r'.em,p.e] w')):=by
 have hG:=hW.1
 have hbl:=hP.len
 refine aH #[.cell 4 33] 21 func20 Z results20 ntmps20 Z ?_
 have M0:=hO.mem
 refine aD (aA (bH (.agg (.mk _)) M0 Z Z Z (fun b1 w1 M1=>(aM kJ M1 Z Z (fun b2 w2 M2=>(aB (aC (aD (gJ [(1,0),(2,1),(0,2),(3,1),(4,0),(5,0),(6,0),(7,0),(8,0)] mixed M2 Z (by kernel_rfl) (fun w3 M3=>(aU Z Z Z (fun _=>aE 0 pE Z) (bS Z Z Z (aK 3 (.int _ _) fZ M3 Z Z Z) (dD [false] Z (by kernel_rfl) (dU aAz Z Z (gV _) ?_))))))))))))))
 rintro v4 w4 ⟨pm,em,f1,g1,f2,g2,f3,g3,rfl,hmap,hM4⟩
 have M4:Mem _ _ [_,_,_,_,_,_,_,_,_,_,_,_] _:=M3.call0 hM4
 refine aB (aC ⟨(eH (bJ Z (aK 3 (.int _ _) fZ M4 Z Z Z)) dE), ?_⟩)
 refine bS Z Z Z (iN (enc:=(fun v:Value=>v)) .nilFunc 5 kD aKy M4 Z hmap Z Z) (fA 11 (.tuple [(.func (.func 90) #[] #[]:Value),.bool true].toArray) (lU (aUv hk)) (aU Z Z Z (fun _=>aG (.tuple (List.toArray _)) Z) (aU Z Z Z (fun _=>bE (.func _ _ _) Z Z) (aU Z Z Z (fun _=>bE (.bool true) Z Z) (aU Z Z Z (fun _=>aI (.func _ _ _) Z) (aU Z Z Z (fun _=>aI (.bool true) Z) (bZ (aC (aD (aD (aA (wq (aG (.bool true) Z) Z (wq (gE false Z Z) Z (aB (aC ?_)))))))))))))))
 refine bW Z (aL (aC (aD (aA (wq (aG (.func _ _ _) Z) Z (wq (aG (.pointer _) Z) Z (wq (bB 3 iI M4 Z Z Z) Z (dU bLa Z Z (aGp _ _ r vs hW (M4.ownSeg 0 3) o BA nn cc (hP.memY M4 hdB) hnn (M4.away 0 3 hP.rd hdB)  hk) ?_))))))))
 rintro v5 w5 ⟨r2,p2,rfl,hw2,hp2,hM5⟩
 have M5:Mem _ _ [_,_,_,_,_,_,_,_,_,_,_,_,_] _:=M4.seg 0 3 hM5
 refine aZ 4 _ gG M5 Z Z Z Z Z (aQ Z) Z (fun w6 M6=>(aB (aC (aP (eO 4 gG M6 Z Z Z ?_)))))
 exact ⟨r2,p2,Z,hw2,hp2,M6.keep [true,true,true,false,false,false,false,false,false,false,false,false,true]⟩
theorem aNl (w:World) (F:Rd w 2 (some ⟨0,0,none⟩) 1 [[.int .u32 73856093,.int .u32 19349663]]) (N:Rd w 4 (some ⟨3,0,none⟩) 1 [cS fU]) (b:Nat) (r:StV) (vs:List Body) (hW:bQ 39 r vs) (hO:Own [(some b,bc [.slice r.A r.n r.c,.map r.p] 107),r.er,r.em] w) (o:OpI) (BA:Option Addr) (nn cc:Nat) (hP:OpOk w o BA nn cc) (hnn:nn≤1000000) (hdB:0 < nn→∀ q off,BA=some ⟨q,off,none⟩→q∉bI [(some b,bc [.slice r.A r.n r.c,.map r.p] 107),r.er,r.em]) (hdF:0 < 1→∀ q off,(some ⟨0,0,none⟩:Option Addr)=some ⟨q,off,none⟩→q∉bI [(some b,bc [.slice r.A r.n r.c,.map r.p] 107),r.er,r.em]) (hdN:0 < 1→∀ q off,(some ⟨3,0,none⟩:Option Addr)=some ⟨q,off,none⟩→q∉bI [(some b,bc [.slice r.A r.n r.c,.map r.p] 107),r.er,r.em]) (hk:o.kind=4) :
  Calls prog 20 #[.pointer (some ⟨b,0,none⟩),.agg (dR o BA nn cc).toArray] w (fE (fun v w'=>∃ (r':StV) (p:Row),v=.agg (dC (iU vs o).2 p).toArray∧bQ 39 r' (iU vs o).1∧aR 5 1 p.A p.n p.c (((iU vs o).2.bytes).map bG) p.e∧Mem w (bI [(some b,bc [.slice r.A r.n r.c,.map r.p] 107),r.er,r.em]) [(some b,bc [.slice r'.A r'.n r'.c,.map r'.p] 107),r'.er,r'.em,p.e] w')):=by
 have hG:=hW.1
 have hbl:=hP.len
 refine aH #[.cell 4 33] 21 func20 Z results20 ntmps20 Z ?_
 have M0:=hO.mem
 refine aD (aA (bH (.agg (.mk _)) M0 Z Z Z (fun b1 w1 M1=>(aM kJ M1 Z Z (fun b2 w2 M2=>(aB (aC (aD (gJ [(1,0),(2,1),(0,2),(3,1),(4,0),(5,0),(6,0),(7,0),(8,0)] mixed M2 Z (by kernel_rfl) (fun w3 M3=>(aU Z Z Z (fun _=>aE 0 pE Z) (bS Z Z Z (aK 3 (.int _ _) fZ M3 Z Z Z) (dD [false] Z (by kernel_rfl) (dU aAz Z Z (gV _) ?_))))))))))))))
 rintro v4 w4 ⟨pm,em,f1,g1,f2,g2,f3,g3,rfl,hmap,hM4⟩
 have M4:Mem _ _ [_,_,_,_,_,_,_,_,_,_,_,_] _:=M3.call0 hM4
 refine aB (aC ⟨(eH (bJ Z (aK 3 (.int _ _) fZ M4 Z Z Z)) dE), ?_⟩)
 refine bS Z Z Z (iN (enc:=(fun v:Value=>v)) .nilFunc 5 kD aKy M4 Z hmap Z Z) (fA 11 (.tuple [(.func (.func 92) #[] #[]:Value),.bool true].toArray) (lU (aXw hk)) (aU Z Z Z (fun _=>aG (.tuple (List.toArray _)) Z) (aU Z Z Z (fun _=>bE (.func _ _ _) Z Z) (aU Z Z Z (fun _=>bE (.bool true) Z Z) (aU Z Z Z (fun _=>aI (.func _ _ _) Z) (aU Z Z Z (fun _=>aI (.bool true) Z) (bZ (aC (aD (aD (aA (wq (aG (.bool true) Z) Z (wq (gE false Z Z) Z (aB (aC ?_)))))))))))))))
 refine bW Z (aL (aC (aD (aA (wq (aG (.func _ _ _) Z) Z (wq (aG (.pointer _) Z) Z (wq (bB 3 iI M4 Z Z Z) Z (dU bKk Z Z (aSk _ (F.memY M4 hdF) (N.memY M4 hdN) _ r vs hW (M4.ownSeg 0 3) o BA nn cc (hP.memY M4 hdB) hnn (M4.away 0 3 hP.rd hdB) (M4.away 0 3 F hdF) (M4.away 0 3 N hdN) hk) ?_))))))))
 rintro v5 w5 ⟨r2,p2,rfl,hw2,hp2,hM5⟩
 have M5:Mem _ _ [_,_,_,_,_,_,_,_,_,_,_,_,_] _:=M4.seg 0 3 hM5
 refine aZ 4 _ gG M5 Z Z Z Z Z (aQ Z) Z (fun w6 M6=>(aB (aC (aP (eO 4 gG M6 Z Z Z ?_)))))
 exact ⟨r2,p2,Z,hw2,hp2,M6.keep [true,true,true,false,false,false,false,false,false,false,false,false,true]⟩
theorem aMb (w:World)  (b:Nat) (r:StV) (vs:List Body) (hW:bQ 39 r vs) (hO:Own [(some b,bc [.slice r.A r.n r.c,.map r.p] 107),r.er,r.em] w) (o:OpI) (BA:Option Addr) (nn cc:Nat) (hP:OpOk w o BA nn cc) (hnn:nn≤1000000) (hdB:0 < nn→∀ q off,BA=some ⟨q,off,none⟩→q∉bI [(some b,bc [.slice r.A r.n r.c,.map r.p] 107),r.er,r.em]) (hk:o.kind=5) :
  Calls prog 20 #[.pointer (some ⟨b,0,none⟩),.agg (dR o BA nn cc).toArray] w (fE (fun v w'=>∃ (r':StV) (p:Row),v=.agg (dC (iU vs o).2 p).toArray∧bQ 39 r' (iU vs o).1∧aR 5 1 p.A p.n p.c (((iU vs o).2.bytes).map bG) p.e∧Mem w (bI [(some b,bc [.slice r.A r.n r.c,.map r.p] 107),r.er,r.em]) [(some b,bc [.slice r'.A r'.n r'.c,.map r'.p] 107),r'.er,r'.em,p.e] w')):=by
 have hG:=hW.1
 have hbl:=hP.len
 refine aH #[.cell 4 33] 21 func20 Z results20 ntmps20 Z ?_
 have M0:=hO.mem
 refine aD (aA (bH (.agg (.mk _)) M0 Z Z Z (fun b1 w1 M1=>(aM kJ M1 Z Z (fun b2 w2 M2=>(aB (aC (aD (gJ [(1,0),(2,1),(0,2),(3,1),(4,0),(5,0),(6,0),(7,0),(8,0)] mixed M2 Z (by kernel_rfl) (fun w3 M3=>(aU Z Z Z (fun _=>aE 0 pE Z) (bS Z Z Z (aK 3 (.int _ _) fZ M3 Z Z Z) (dD [false] Z (by kernel_rfl) (dU aAz Z Z (gV _) ?_))))))))))))))
 rintro v4 w4 ⟨pm,em,f1,g1,f2,g2,f3,g3,rfl,hmap,hM4⟩
 have M4:Mem _ _ [_,_,_,_,_,_,_,_,_,_,_,_] _:=M3.call0 hM4
 refine aB (aC ⟨(eH (bJ Z (aK 3 (.int _ _) fZ M4 Z Z Z)) dE), ?_⟩)
 refine bS Z Z Z (iN (enc:=(fun v:Value=>v)) .nilFunc 5 kD aKy M4 Z hmap Z Z) (fA 11 (.tuple [(.func (.func 93) #[] #[]:Value),.bool true].toArray) (lU (aYh hk)) (aU Z Z Z (fun _=>aG (.tuple (List.toArray _)) Z) (aU Z Z Z (fun _=>bE (.func _ _ _) Z Z) (aU Z Z Z (fun _=>bE (.bool true) Z Z) (aU Z Z Z (fun _=>aI (.func _ _ _) Z) (aU Z Z Z (fun _=>aI (.bool true) Z) (bZ (aC (aD (aD (aA (wq (aG (.bool true) Z) Z (wq (gE false Z Z) Z (aB (aC ?_)))))))))))))))
 refine bW Z (aL (aC (aD (aA (wq (aG (.func _ _ _) Z) Z (wq (aG (.pointer _) Z) Z (wq (bB 3 iI M4 Z Z Z) Z (dU bKn Z Z (aCp _ _ r vs hW (M4.ownSeg 0 3) o BA nn cc (hP.memY M4 hdB) hnn (M4.away 0 3 hP.rd hdB)  hk) ?_))))))))
 rintro v5 w5 ⟨r2,p2,rfl,hw2,hp2,hM5⟩
 have M5:Mem _ _ [_,_,_,_,_,_,_,_,_,_,_,_,_] _:=M4.seg 0 3 hM5
 refine aZ 4 _ gG M5 Z Z Z Z Z (aQ Z) Z (fun w6 M6=>(aB (aC (aP (eO 4 gG M6 Z Z Z ?_)))))
 exact ⟨r2,p2,Z,hw2,hp2,M6.keep [true,true,true,false,false,false,false,false,false,false,false,false,true]⟩
theorem aLb (w:World)  (b:Nat) (r:StV) (vs:List Body) (hW:bQ 39 r vs) (hO:Own [(some b,bc [.slice r.A r.n r.c,.map r.p] 107),r.er,r.em] w) (o:OpI) (BA:Option Addr) (nn cc:Nat) (hP:OpOk w o BA nn cc) (hdB:0 < nn→∀ q off,BA=some ⟨q,off,none⟩→q∉bI [(some b,bc [.slice r.A r.n r.c,.map r.p] 107),r.er,r.em]) (hk:o.kind < 1∨6 < o.kind) :
  Calls prog 20 #[.pointer (some ⟨b,0,none⟩),.agg (dR o BA nn cc).toArray] w (fE (fun v w'=>∃ (r':StV) (p:Row),v=.agg (dC (iU vs o).2 p).toArray∧bQ 39 r' (iU vs o).1∧aR 5 1 p.A p.n p.c (((iU vs o).2.bytes).map bG) p.e∧Mem w (bI [(some b,bc [.slice r.A r.n r.c,.map r.p] 107),r.er,r.em]) [(some b,bc [.slice r'.A r'.n r'.c,.map r'.p] 107),r'.er,r'.em,p.e] w')):=by
 have hG:=hW.1
 have hbl:=hP.len
 refine aH #[.cell 4 33] 21 func20 Z results20 ntmps20 Z ?_
 have M0:=hO.mem
 refine aD (aA (bH (.agg (.mk _)) M0 Z Z Z (fun b1 w1 M1=>(aM kJ M1 Z Z (fun b2 w2 M2=>(aB (aC (aD (gJ [(1,0),(2,1),(0,2),(3,1),(4,0),(5,0),(6,0),(7,0),(8,0)] mixed M2 Z (by kernel_rfl) (fun w3 M3=>(aU Z Z Z (fun _=>aE 0 pE Z) (bS Z Z Z (aK 3 (.int _ _) fZ M3 Z Z Z) (dD [false] Z (by kernel_rfl) (dU aAz Z Z (gV _) ?_))))))))))))))
 rintro v4 w4 ⟨pm,em,f1,g1,f2,g2,f3,g3,rfl,hmap,hM4⟩
 have M4:Mem _ _ [_,_,_,_,_,_,_,_,_,_,_,_] _:=M3.call0 hM4
 refine aB (aC ⟨(eH (bJ Z (aK 3 (.int _ _) fZ M4 Z Z Z)) dE), ?_⟩)
 refine bS Z Z Z (iN (enc:=(fun v:Value=>v)) .nilFunc 5 kD aKy M4 Z hmap Z Z) (fA 11 (.tuple [(.nilFunc:Value),.bool false].toArray) (aRb (aYo hk)) (aU Z Z Z (fun _=>aG (.tuple (List.toArray _)) Z) (aU Z Z Z (fun _=>bE (_) Z Z) (aU Z Z Z (fun _=>bE (.bool false) Z Z) (aU Z Z Z (fun _=>aI (_) Z) (aU Z Z Z (fun _=>aI (.bool false) Z) (bZ (aC (aD (aD (aA (wq (aG (.bool false) Z) Z (wq (gE true Z Z) Z (aB (aC (cU Z (aD (aA ?_))))))))))))))))))
 refine wq (cE [(0,.int _ _)] _ mO Z Z) Z (aZ 4 _ gG M4 Z Z Z Z Z (aQ Z) Z (fun w5 M5=>(aB (aC (aP (cL (eO 4 gG M5 Z Z Z ?_)))))))
 exact ⟨r,⟨none,0,0,(none,default)⟩,by rw [sO (by omega)];rfl,by rw [sO (by omega)];exact hW,by rw [sO (by omega)];exact aR.nil _ _ _,(M5.keep [true,true,true,false,false,false,false,false,false,false,false,false]).dummy default⟩
theorem wE (w:World) (F:Rd w 2 (some ⟨0,0,none⟩) 1 [[.int .u32 73856093,.int .u32 19349663]]) (N:Rd w 4 (some ⟨3,0,none⟩) 1 [cS fU]) (b:Nat) (r:StV) (vs:List Body) (hW:bQ 39 r vs) (hO:Own [(some b,bc [.slice r.A r.n r.c,.map r.p] 107),r.er,r.em] w) (o:OpI) (BA:Option Addr) (nn cc:Nat) (hP:OpOk w o BA nn cc) (hnn:nn≤1000000) (hdB:0 < nn→∀ q off,BA=some ⟨q,off,none⟩→q∉bI [(some b,bc [.slice r.A r.n r.c,.map r.p] 107),r.er,r.em]) (hdF:0 < 1→∀ q off,(some ⟨0,0,none⟩:Option Addr)=some ⟨q,off,none⟩→q∉bI [(some b,bc [.slice r.A r.n r.c,.map r.p] 107),r.er,r.em]) (hdN:0 < 1→∀ q off,(some ⟨3,0,none⟩:Option Addr)=some ⟨q,off,none⟩→q∉bI [(some b,bc [.slice r.A r.n r.c,.map r.p] 107),r.er,r.em]):Calls prog 20 #[.pointer (some ⟨b,0,none⟩),.agg (dR o BA nn cc).toArray] w (fE (fun v w'=>∃ (r':StV) (p:Row),v=.agg (dC (iU vs o).2 p).toArray∧bQ 39 r' (iU vs o).1∧aR 5 1 p.A p.n p.c (((iU vs o).2.bytes).map bG) p.e∧Mem w (bI [(some b,bc [.slice r.A r.n r.c,.map r.p] 107),r.er,r.em]) [(some b,bc [.slice r'.A r'.n r'.c,.map r'.p] 107),r'.er,r'.em,p.e] w')):=by
 by_cases h0:o.kind < 1∨6 < o.kind
 ·exact aLb w b r vs hW hO o BA nn cc hP hdB h0
 by_cases h1:o.kind=1
 ·exact aNv w b r vs hW hO o BA nn cc hP hnn hdB h1
 by_cases h2:o.kind=2
 ·exact aKz w b r vs hW hO o BA nn cc hP hnn hdB h2
 by_cases h3:o.kind=3
 ·exact aNs w b r vs hW hO o BA nn cc hP hnn hdB h3
 by_cases h4:o.kind=4
 ·exact aNl w F N b r vs hW hO o BA nn cc hP hnn hdB hdF hdN h4
 by_cases h5:o.kind=5
 ·exact aMb w b r vs hW hO o BA nn cc hP hnn hdB h5
 ·exact aMx w b r vs hW hO o BA nn cc hP hnn hdB (by omega)
theorem pH (w:World) (F:Rd w 2 (some ⟨0,0,none⟩) 1 [[.int .u32 73856093,.int .u32 19349663]]) (N:Rd w 4 (some ⟨3,0,none⟩) 1 [cS fU]) (b:Nat) (r:StV) (vs:List Body) (hW:bQ 39 r vs) (hO:Own [(some b,bc [.slice r.A r.n r.c,.map r.p] 107),r.er,r.em] w) (hdF:0 < 1→∀ q off,(some ⟨0,0,none⟩:Option Addr)=some ⟨q,off,none⟩→q∉bI [(some b,bc [.slice r.A r.n r.c,.map r.p] 107),r.er,r.em]) (hdN:0 < 1→∀ q off,(some ⟨3,0,none⟩:Option Addr)=some ⟨q,off,none⟩→q∉bI [(some b,bc [.slice r.A r.n r.c,.map r.p] 107),r.er,r.em]) (A:Option Addr) (n c:Nat) (l:List OpRow) (hl:OpsRd w A n l) (hby:∀ x∈l,x.n≤1000000) (hn:n≤1000000) (hdl:0 < n→∀ q off,A=some ⟨q,off,none⟩→q∉bI [(some b,bc [.slice r.A r.n r.c,.map r.p] 107),r.er,r.em]) (hdo:uK l (bI [(some b,bc [.slice r.A r.n r.c,.map r.p] 107),r.er,r.em])) :
  Calls prog 33 #[.pointer (some ⟨b,0,none⟩),.slice A n c] w (fE (fun v w'=>∃ (r':StV) (q:Row) (rs:List Row),v=.slice q.A q.n q.c∧bQ 39 r' (fX vs (opsO l))∧aR 33 4 q.A q.n q.c (jR (jF vs (opsO l)) rs) q.e∧OutR 5 rs (jF vs (opsO l))∧Mem w (bI [(some b,bc [.slice r.A r.n r.c,.map r.p] 107),r.er,r.em]) ([(some b,bc [.slice r'.A r'.n r'.c,.map r'.p] 107),r'.er,r'.em,q.e]++rs.map Row.e) w')):=by
 have hlen:l.length=n:=by simpa using hl.rd.len
 have hbd:=hl.rd.bound
 refine aH #[.tmp 4] 22 func33 Z results33 ntmps33 Z ?_
 have M0:=hO.mem
 refine aD (aA (eX Z Z (aB (aC (aD (aA (eX Z Z ?_)))))))
 have M1:=M0.dummy default
 refine aB (aC (aD (aD (aA (dZ Z Z (wq (cG underlying27 Z) Z (aX Z Z (aB (aC (aT (dK (σ:=Nat × StV × Row × List Row) [0,4,8,9] (fun (i,r',q,rs)=>[(5,.slice q.A q.n q.c),(10,.int .i64 (i:Int))]) (fun (i,r',q,rs) w'=>(i≤n∧bQ 39 r' (fX vs ((opsO l).take i))∧aR 33 4 q.A q.n q.c (jR ((jF vs ((opsO l).take i))) rs) q.e∧OutR 5 rs (jF vs ((opsO l).take i)))∧Mem w (bI [(some b,bc [.slice r.A r.n r.c,.map r.p] 107),r.er,r.em]) ([(some b,bc [.slice r'.A r'.n r'.c,.map r'.p] 107),r'.er,r'.em,q.e]++rs.map Row.e) w') (fun (i,r',q,rs)=>n - i) (0,r,fM,[]) (bN Z (bN Z eZ)) (⟨⟨by omega,hW,aR.nil _ _ _,OutR.nil _⟩,M1⟩) ?_)))))))))))
 rintro ⟨i,r',q,rs⟩ ρ2 w2 ⟨⟨hi,hr,hq,hoR⟩,hM2⟩
 have hqn:(jR (jF vs ((opsO l).take i)) rs).length=q.n:=hq.1
 rw [oE hoR.len,kY,List.length_take,gB] at hqn
 refine aD (aA (dB Z Z Z Z (aB (aC (aD ?_)))))
 refine bA Z (fun h11 => ?_) (fun h11 => ?_)
 ·obtain ⟨x,hx⟩:=cF (xs:=l) (k:=i) hlen (by omega)
  have hxm:=List.mem_of_getElem? hx
  have hP:=hl.each x hxm
  have hxo:=xX hx
  refine aL (aC (aD (aT (aD (aA (wq (bR (i) xM Z Z Z ((hl.rd.memY hM2 hdl).below_len (aJ OpRow.cells hx)) ((hl.rd.memY hM2 hdl).someK (aJ OpRow.cells hx))) Z (wq (dT _ iI (hl.rd.memY hM2 hdl) (aJ OpRow.cells hx) Z) Z (aS 13 (.agg (dR x.o x.A x.n x.c).toArray) Z (aM aBn hM2 Z Z (fun b3 w3 M3 => ?_))))))))))
  have M4:Mem _ _ ([_,_,_,_,_]++_) _:=Mem.front (L:=[_,_,_,_]) M3
  refine aZ 4 _ iI M4 Z Z Z Z Z (aQ Z) Z (fun w5 M5=>(aB (aC (aA (dZ Z Z (wq (aG (.pointer _) Z) Z (wq (bB 4 iI M5 Z Z Z) Z (dU aYv Z Z (wE _ (F.memY M5 hdF) (N.memY M5 hdN) _ r' _ hr (M5.ownSeg 0 3) x.o x.A x.n x.c (hP.memY M5 (hdo x hxm)) (hby x hxm) (M5.away 0 3 hP.rd (hdo x hxm)) (M5.away 0 3 F hdF) (M5.away 0 3 N hdN)) ?_))))))))
  rintro v6 w6 ⟨r2,p2,rfl,hr2,hp2,hM6⟩
  have M6:Mem _ _ ([_,_,_,_,_,_]++_) _:=Mem.front (L:=[_,_,_,_,_]) (M5.seg 0 3 hM6)
  refine cP [.agg (List.toArray _)] [dC (iU (fX vs ((opsO l).take i)) x.o).2 p2] Z aIg M6 Z Z Z Z (cW Z) (by decide) (fun b7 w7 M7 => ?_)
  have M8:Mem _ _ ([_,_,_,_,_,_,_]++_) _:=Mem.front (L:=[_,_,_,_,_,_]) M7
  refine dL 3 [dC (iU (fX vs ((opsO l).take i)) x.o).2 p2] aIg M8 rfl rfl rfl rfl rfl hq rfl (by simp [dC,Go.Bil.one]) (cZ.ofMem 6 M8 rfl) (by omega) (fun A9 c9 e9 w9 M9 hR9=>(eX rfl rfl (aB (dF (aC (aA (wq (bM rfl rfl (by omega) (by omega)) rfl (aX rfl rfl (aB ?_)))))))))
  refine cR (i+1,r2,⟨A9,q.n+1,c9,e9⟩,rs++[p2]) (bN Z (bN Z eZ)) (cT Z (cT Z (cT Z (cT Z kB)))) ?_ ?_
  ·exact ⟨⟨by omega,by rw [kM hxo];exact hr2,by rw [iA hxo,oQ hoR.len];exact hR9,by rw [iA hxo];exact hoR.add hp2⟩,Mem.pushNew (L:=[_,_,_,_]) p2 (Mem.keepL (L:=[_,_,_,_,_,_,_]) [true,true,true,true,false,true,false] M9)⟩
  ·(show n - (i+1) < n - i;omega)
 ·have hin:i=n:=by omega
  rw [hin,List.take_of_length_le (by rw [gB];omega)] at hr hq hoR
  refine cO (dA (cX (eV (aC (aD (aA (dZ Z Z (eX Z Z (aB (aC (aP (cB (.slice _ _ _) Z ?_))))))))))))
  exact ⟨r',q,rs,Z,hr,hq,hoR,hM2⟩
theorem tZ (w:World) (F:Rd w 2 (some ⟨0,0,none⟩) 1 [[.int .u32 73856093,.int .u32 19349663]]) (N:Rd w 4 (some ⟨3,0,none⟩) 1 [cS fU]) (A:Option Addr) (n c:Nat) (l:List OpRow) (hl:OpsRd w A n l) (hby:∀ x∈l,x.n≤1000000) (hn:n≤1000000) :
  Calls prog 18 #[.slice A n c] w (fE (fun v w'=>∃ (b:Nat) (r':StV),v=.pointer (some ⟨b,0,none⟩)∧bQ 39 r' (fX [] (opsO l))∧Mem w [] [(some b,bc [.slice r'.A r'.n r'.c,.map r'.p] 107),r'.er,r'.em] w')):=by
 have hlen:l.length=n:=by simpa using hl.rd.len
 have hbd:=hl.rd.bound
 refine aH #[.tmp 2] 9 func18 Z results18 ntmps18 Z ?_
 have M0:=Mem.refl w
 refine aD (aA (wq (aI (.pointer _) Z) Z (aB (aC (aD (aA (aM yE M0 Z Z (fun b1 w1 M1 => ?_))))))))
 have M2:=(M1.dummy default).dummy default
 refine wq (aI (.pointer _) rfl) rfl (aB (aC (aD (aA (wq (aG (.pointer _) rfl) rfl (dZ rfl rfl (dU aQe rfl rfl (pH _ (F.mem M2) (N.mem M2) _ ⟨none,0,0,none,(none,default),(none,default)⟩ _ (bQ.new 39 default default) (M2.ownSeg 0 3) (M2.away 0 3 F (by simp)) (M2.away 0 3 N (by simp)) A n c l (hl.mem M2) hby hn (M2.away 0 3 hl.rd (by simp)) (fun x hx=>M2.away 0 3 (hl.each x hx).rd (by simp))) ?_)))))))
 rintro v3 w3 ⟨r2,q,rs,rfl,hr2,hq,hoR,hM3⟩
 have M3:Mem _ _ ([_,_,_,_]++_) _:=M2.seg 0 3 hM3
 refine aB (aC (aD (aA (wq (aG (.pointer _) Z) Z (wq (aI (.pointer _) Z) Z (aB (aC (aP (cB (.pointer _) Z ?_)))))))))
 exact ⟨_,r2,Z,hr2,M3.keep [true,true,true]⟩
theorem aSm (w:World) (z:ResI) (r r':Row) (RB:Rd w 1 r.A r.n (z.bytes.map bG)) (RB':Rd w 1 r'.A r'.n (z.bytes.map bG)) :
  Calls prog 28 #[.agg (dC z r).toArray,.agg (dC z r').toArray] w (Rb w (.bool true)):=by
 refine aH #[.tmp 4] 31 func28 Z results28 ntmps28 Z ?_
 have M0:=Mem.refl w
 refine aD (aA (bH (.agg (.mk _)) M0 Z Z Z (fun b1 w1 M1=>(bH (.agg (.mk _)) M1 Z Z Z (fun b2 w2 M2=>(wq (aI (.bool false) Z) Z (aB (aC (aD (aA (wq (aE 0 aOy Z) Z (wq (aK 0 (.int _ _) wX M2 Z Z Z) Z (wq (aE 0 aOy Z) Z (wq (aK 1 (.int _ _) wX M2 Z Z Z) Z (dB Z Z Z Z (rS 9 Z Z (wq (aG (.bool true) Z) Z (wq (aE 1 aPn Z) Z (wq (aK 0 (.slice _ _ _) sB M2 Z Z Z) Z (wq (aE 1 aPn Z) Z (wq (aK 1 (.slice _ _ _) sB M2 Z Z Z) Z ?_)))))))))))))))))))))
 refine dI bEy Z Z M2 (aAe _ _ _ _ z.bytes (RB.mem M2) _ _ _ z.bytes (RB'.mem M2)) (fun w3 M3=>(rS 15 Z Z (wq (bX true (.bool true) Z Z) Z (wq (aG (.bool true) Z) Z (wq (aE 2 aOu Z) Z (wq (aK 0 (.int _ _) fZ M3 Z Z Z) Z (wq (aE 2 aOu Z) Z (wq (aK 1 (.int _ _) fZ M3 Z Z Z) Z (dB Z Z Z Z (rS 22 Z Z (wq (bX true (.bool true) Z Z) Z (wq (aG (.bool true) Z) Z (wq (aE 3 aQa Z) Z (wq (aK 0 (.bool _) oG M3 Z Z Z) Z (wq (aE 3 aQa Z) Z (wq (aK 1 (.bool _) oG M3 Z Z Z) Z ?_))))))))))))))))
 refine wq (vT _ underlying4 rfl rfl rfl) rfl (aS 29 (.bool true) (bv rfl (by simp)) (wq (bX true (.bool true) rfl rfl) rfl (wq (aI (.bool true) rfl) rfl (aB (aC (aP (cB (.bool true) rfl ?_)))))))
 exact ⟨Z,M3.below⟩
theorem aIp (w:World) (A:Option Addr) (n c:Nat) (l:List OpRow) (hl:OpsRd w A n l) (hn:n≤1000000) :
  Calls prog 19 #[.slice A n c] w (fE (fun v w'=>∃ q:Row,v=.slice q.A q.n q.c∧aR 41 15 q.A q.n q.c (l.map OpRow.cells) q.e∧Mem w [] [q.e] w')):=by
 have hlen:l.length=n:=by simpa using hl.rd.len
 have hbd:=hl.rd.bound
 refine aH #[.tmp 2] 41 func19 Z results19 ntmps19 Z ?_
 have M0:=Mem.refl w
 refine aD (aA (eX Z Z (aB (aC (aD (aA (eX Z Z ?_)))))))
 have M1:=M0.dummy default
 refine aB (aC (aD (aD (aA (bP Z Z (aB (aC (aT (dK (σ:=Nat × Row) [0,2] (fun (i,q)=>[(3,.slice q.A q.n q.c),(4,.int .i64 (i:Int))]) (fun (i,q) w'=>(i≤n∧aR 41 15 q.A q.n q.c ((l.take i).map OpRow.cells) q.e)∧Mem w [] [q.e] w') (fun (i,q)=>n - i) (0,fM) (bN Z (bN Z eZ)) (⟨⟨by omega,aR.nil _ _ _⟩,M1⟩) ?_)))))))))
 rintro ⟨i,q⟩ ρ2 w2 ⟨⟨hi,hq⟩,hM2⟩
 have hqn:((l.take i).map OpRow.cells).length=q.n:=hq.1
 rw [List.length_map,List.length_take] at hqn
 refine aD (aD (aA (aX Z Z (dZ Z Z (wq (cG underlying22 Z) Z (dB Z Z Z Z (aB (aC ?_))))))))
 refine bA Z (fun h8 => ?_) (fun h8 => ?_)
 ·obtain ⟨x,hx⟩:=cF (xs:=l) (k:=i) hlen (by omega)
  refine aL (aC (aD (aT (vB [(0,0),(1,0),(2,0),(3,1),(4,1),(5,1),(6,0),(7,0),(8,1),(9,1),(10,1),(11,0),(12,0),(13,1),(14,1),(15,1),(16,0),(17,0),(18,1),(19,1),(20,1),(21,0),(22,0),(23,1),(24,1),(25,1),(26,0),(27,2),(28,2),(29,0)] mixed Z (by kernel_rfl) (fun w3 hb3 hh3 => ?_)))))
  have M3:=hM2.drew hb3 hh3
  refine sH Z Z Z (sH Z Z Z (gR Z Z Z (bS Z Z Z (bR (i) aHb Z Z Z ((hl.rd.mem M3).below_len (aJ OpRow.cells hx)) ((hl.rd.mem M3).someK (aJ OpRow.cells hx))) (bS Z Z Z (bO 0 aPj (hl.rd.mem M3) (qR ((hl.rd.mem M3).below_len (aJ OpRow.cells hx))) Z) (bS Z Z Z (eP (o:=0) (.int _ _) fZ (hl.rd.mem M3) (aJ OpRow.cells hx) Z Z) (sH Z Z Z (gR Z Z Z (bS Z Z Z (bR (i) aHb Z Z Z ((hl.rd.mem M3).below_len (aJ OpRow.cells hx)) ((hl.rd.mem M3).someK (aJ OpRow.cells hx))) (bS Z Z Z (bO 1 bBh (hl.rd.mem M3) (qR ((hl.rd.mem M3).below_len (aJ OpRow.cells hx))) Z) ?_)))))))))
  refine bS Z Z Z (pA (o:=1) _ bU (hl.rd.mem M3) (aJ OpRow.cells hx) Z Z Z) (sH Z Z Z (gR Z Z Z (bS Z Z Z (bR (i) aHb Z Z Z ((hl.rd.mem M3).below_len (aJ OpRow.cells hx)) ((hl.rd.mem M3).someK (aJ OpRow.cells hx))) (bS Z Z Z (bO 11 bCu (hl.rd.mem M3) (qR ((hl.rd.mem M3).below_len (aJ OpRow.cells hx))) Z) (bS Z Z Z (eP (o:=11) (.int _ _) cA (hl.rd.mem M3) (aJ OpRow.cells hx) Z Z) (sH Z Z Z (gR Z Z Z (bS Z Z Z (bR (i) aHb Z Z Z ((hl.rd.mem M3).below_len (aJ OpRow.cells hx)) ((hl.rd.mem M3).someK (aJ OpRow.cells hx))) ?_))))))))
  refine bS Z Z Z (bO 12 bBs (hl.rd.mem M3) (qR ((hl.rd.mem M3).below_len (aJ OpRow.cells hx))) Z) (bS Z Z Z (pA (o:=12) _ bL (hl.rd.mem M3) (aJ OpRow.cells hx) Z Z Z) (sH Z Z Z (gR Z Z Z (bS Z Z Z (bR (i) aHb Z Z Z ((hl.rd.mem M3).below_len (aJ OpRow.cells hx)) ((hl.rd.mem M3).someK (aJ OpRow.cells hx))) (bS Z Z Z (bO 14 aPl (hl.rd.mem M3) (qR ((hl.rd.mem M3).below_len (aJ OpRow.cells hx))) Z) (bS Z Z Z (eP (o:=14) (.slice _ _ _) sB (hl.rd.mem M3) (aJ OpRow.cells hx) Z Z) ?_))))))
  refine aU Z Z Z (fun _=>cE [(0,.int _ _),(1,.agg (List.toArray _)),(2,.int _ _),(3,.agg (List.toArray _)),(4,.slice _ _ _)] _ tY Z Z) (dD [true,true,true,true,true,true,true,true,true,true,true,true,true,true,true] Z (by kernel_rfl) (cP [.agg (List.toArray _)] [x.cells] Z xM M3 Z Z Z Z (cW Z) (by decide) (fun b4 w4 M4 => ?_)))
  refine aB (aC ⟨dE, ?_⟩)
  refine dD [] rfl (by kernel_rfl) (dL 0 [x.cells] xM M4 rfl rfl rfl rfl rfl hq rfl (by simp [OpRow.cells,dR,aF,Go.Bil.one]) (cZ.ofMem 1 M4 rfl) (by omega) (fun A5 c5 e5 w5 M5 hR5 => ?_))
  refine aB (aC ⟨dE, ?_⟩)
  refine aU Z Z Z (fun _=>aI (.slice _ _ _) Z) (bZ (dF (aC (aA (aX Z Z (wq (bM Z Z (by omega) (by omega)) Z (bP Z Z (aB ?_))))))))
  refine cR (i+1,⟨A5,q.n+1,c5,e5⟩) (bN Z (bN Z eZ)) (cT Z (cT Z kB)) ?_ ?_
  ·exact ⟨⟨by omega,by rw [cQ hx,List.map_append];exact hR5⟩,M5.keep [true]⟩
  ·(show n - (i+1) < n - i;omega)
 ·have hin:i=n:=by omega
  rw [hin,List.take_of_length_le (by omega)] at hq
  refine cO (dA (cX (eV (aC (aD (aA (dZ Z Z (eX Z Z (aB (aC (aP (cB (.slice _ _ _) Z ?_))))))))))))
  exact ⟨q,Z,hq,hM2⟩
theorem bKo:∃ fs,OpT prog 4 46 3 39 35 37 31 5 1 fs:=⟨_,underlying46,by kernel_rfl,by kernel_rfl,by kernel_rfl,by kernel_rfl,by kernel_rfl,by kernel_rfl,by kernel_rfl,by kernel_rfl,by kernel_rfl,by kernel_rfl,by kernel_rfl,by kernel_rfl,lR⟩
theorem aCe (w:World) (A:Option Addr) (n c:Nat) (ls:List Int) (R:Rd w 1 A n (ls.map bG)) (hn:n≤1048576) :
  Calls prog 77 #[.slice A n c] w (fE (fun v w'=>∃ p:Row,v=.slice p.A p.n p.c∧aR 5 1 p.A p.n p.c ((ls).map bG) p.e∧Mem w [] [p.e] w')):=by
 have hll:ls.length=n:=by simpa using R.len
 refine aH #[.tmp 2] 8 func77 Z results77 ntmps77 Z ?_
 have M0:=Mem.refl w
 refine aD (aA (eX Z Z (aB (aC (aD (aD (aA (dZ Z Z (wq (tL _ underlying31 Z Z) Z (aB (aC ?_)))))))))))
 refine iG _ Z (fun h4 => ?_) (fun h4 => ?_)
 ·refine aD (aA (eX Z Z (aB (aC (aP (cL (cB (.slice _ _ _) Z ?_)))))))
  have hA:A=none:=by cases A <;> simp_all
  have hl:ls=[]:=by
   rcases Nat.eq_zero_or_pos n with h | h
   ·exact List.eq_nil_of_length_eq_zero (by omega)
   ·have:=R.some h;rw [hA] at this;cases this
  subst hl
  exact ⟨fM,Z,aR.nil _ _ _,M0.dummy default⟩
 ·refine aL (aC (aD (aA (cP [] [] Z lR M0 Z Z Z Z (cW Z) (by decide) (fun b1 w1 M1=>(dZ Z Z (aBw 0 (ls.map bG) lR M1 Z Z Z Z Z (aR.empty b1) (R.mem M1) (aLv ls) (by omega) (fun A2 c2 e2 w2 M2 hR2 hA2=>(eX Z Z (aB (aC (aP (cB (.slice _ _ _) Z ?_)))))))))))))
  exact ⟨⟨A2,0+n,c2,e2⟩,rfl,by simpa using hR2,M2⟩
theorem aRj (w:World) (o:OpI) (BA:Option Addr) (nn cc:Nat) (hP:OpOk w o BA nn cc) (hnn:nn≤1000000) :
  Calls prog 70 #[.agg (dR o BA nn cc).toArray] w (fE (fun v w'=>∃ p:Row,v=.agg (dR o p.A p.n p.c).toArray∧aR 5 1 p.A p.n p.c ((o.bytes).map bG) p.e∧Mem w [] [p.e] w')):=by
 refine aH #[.cell 2 41] 8 func70 Z results70 ntmps70 Z ?_
 have M0:=Mem.refl w
 refine aD (aA (bH (.agg (.mk _)) M0 Z Z Z (fun b1 w1 M1=>(aM aBn M1 Z Z (fun b2 w2 M2=>(aB (aC (aD (aA (wq (aE 14 aGm Z) Z (wq (aK 0 (.slice _ _ _) sB M2 Z Z Z) Z (dU bLw Z Z (aCe _ BA nn cc o.bytes (hP.rd.mem M2) (by omega)) ?_))))))))))))
 rintro v3 w3 ⟨p,rfl,hp,hM3⟩
 have M3:Mem _ _ [_,_,_] _:=M2.call0 hM3
 refine wq (aE 14 aGm Z) Z (dN 0 (.slice _ _ _) sB M3 Z Z Z Z Z Z (fun w4 M4=>(aB (aC (aD (aA (wq (bB 0 iI M4 Z Z Z) Z (aZ 1 _ iI M4 Z Z Z Z Z (aQ Z) Z (fun w5 M5=>(aB (aC (aP (eO 1 iI M5 Z Z Z ?_)))))))))))))
 exact ⟨p,Z,hp,M5.keep [false,false,true]⟩
theorem aIa (w:World) (A:Option Addr) (n c:Nat) (xs:List Int) (R:Rd w 1 A n (xs.map bG)) (hx:gA xs) (B:Option Addr) (m c':Nat) (ys:List Int) (R':Rd w 1 B m (ys.map bG)) (hy:gA ys) :
  Calls prog 76 #[.slice A n c,.slice B m c'] w (Rb w (.bool (decide (xs=ys)))):=by
 refine aH #[.tmp 4] 10 func76 Z results76 ntmps76 Z ?_
 have M0:=Mem.refl w
 refine aD (aA (wq (aI (.bool false) Z) Z (aB (aC (aD (aA (dZ Z Z (wq (aLm underlying31 underlying5 underlying9 (R.mem M0) Z) Z (dZ Z Z (wq (aLm underlying31 underlying5 underlying9 (R'.mem M0) Z) Z (wq (aVt Z Z) Z (aS 9 (.bool (decide (xs=ys))) (bD (bLp hx hy)) (wq (aI (.bool (decide _)) Z) Z (aB (aC (aP (cB (.bool (decide _)) Z ?_)))))))))))))))))
 exact ⟨Z,M0.below⟩
theorem bAi (w:World) (b xb wb:Nat) (A:Option Addr) (n c k:Nat) (eo:cY) (r:StV) (vs:List Body) (hW:bQ 39 r vs) (qm:Row) (ms:List Row) (hqm:aR 31 1 qm.A qm.n qm.c ((ms).map hdr) qm.e) (hms:ms.length≤1000000) (z:Int) (hO:Own [(some xb,bc [.slice A n c,.int .i64 (k:Int),.slice qm.A qm.n qm.c] 75),eo,(some b,bc [.slice r.A r.n r.c,.map r.p] 107),r.er,r.em,(some wb,bc [.pointer (some ⟨b,0,none⟩)] 25),qm.e] w) :
  Calls prog 72 #[.int .i64 z,.pointer (some ⟨xb,0,none⟩),.pointer (some ⟨wb,0,none⟩)] w (fE (fun v w'=>∃ p q:Row,v=.tuple #[]∧aR 5 1 p.A p.n p.c ((iK vs).map bG) p.e∧aR 31 1 q.A q.n q.c ((ms++[p]).map hdr) q.e∧Mem w (bI [(some xb,bc [.slice A n c,.int .i64 (k:Int),.slice qm.A qm.n qm.c] 75),eo,(some b,bc [.slice r.A r.n r.c,.map r.p] 107),r.er,r.em,(some wb,bc [.pointer (some ⟨b,0,none⟩)] 25),qm.e]) [(some xb,bc [.slice A n c,.int .i64 (k:Int),.slice q.A q.n q.c] 75),eo,(some b,bc [.slice r.A r.n r.c,.map r.p] 107),r.er,r.em,(some wb,bc [.pointer (some ⟨b,0,none⟩)] 25),q.e,p.e] w')):=by
 have hqn:(ms.map hdr).length=qm.n:=hqm.1
 rw [List.length_map] at hqn
 refine aH #[] 11 func72 Z results72 ntmps72 Z ?_
 have M0:=hO.mem
 refine gJ [(0,0),(1,1),(2,1),(3,2),(4,2),(5,2),(6,0),(7,2)] mixed M0 Z (by kernel_rfl) (fun w1 M1=>(aU Z Z Z (fun _=>aE 2 qX Z) (bS Z Z Z (aK 0 (.slice _ _ _) tI M1 Z Z Z) (bS Z Z Z (aK 5 (.pointer _) aEq M1 Z Z Z) (dD [true,false] Z (by kernel_rfl) (dU aEn Z Z (gM _ _ r _ hW (M1.ownSeg 2 3)) ?_))))))
 rintro v2 w2 ⟨p,rfl,hp,hM2⟩
 have M2:Mem _ _ [_,_,_,_,_,_,_,_] _:=M1.seg 2 3 hM2
 refine aB (aC ⟨(eH (bJ Z (aK 0 (.slice _ _ _) tI M2 Z Z Z)) dE), ?_⟩)
 refine dD [false] Z (by kernel_rfl) (cP [.slice _ _ _] [hdr p] Z aZx M2 Z Z Z Z (cW Z) (by decide) (fun b3 w3 M3 => ?_))
 refine aB (aC ⟨(eH (bJ Z (aK 0 (.slice _ _ _) tI M3 Z Z Z)) dE), ?_⟩)
 refine dD [true] rfl (by kernel_rfl) (dL 6 [hdr p] aZx M3 rfl rfl rfl rfl rfl hqm rfl (by simp [hdr,Go.Bil.one]) (cZ.ofMem 8 M3 rfl) (by omega) (fun A4 c4 e4 w4 M4 hR4 => ?_))
 refine aB (aC ⟨dE, ?_⟩)
 refine aU Z Z Z (fun _=>aE 2 qX Z) (dD [] Z (by kernel_rfl) (dN 0 (.slice _ _ _) tI M4 Z Z Z Z Z Z (fun w5 M5 => ?_)))
 refine aB (aC ⟨dE, ?_⟩)
 refine bZ (gZ ?_)
 exact ⟨p,⟨A4,qm.n+1,c4,e4⟩,Z,hp,by rw [List.map_append];exact hR4,M5.keep [true,true,true,true,true,true,true,true,false]⟩
theorem bCf (w:World) (F:Rd w 2 (some ⟨0,0,none⟩) 1 [[.int .u32 73856093,.int .u32 19349663]]) (N:Rd w 4 (some ⟨3,0,none⟩) 1 [cS fU]) (b xb wb k:Nat) (hkp:0 < k) (r:StV) (hW:bQ 39 r []) (qo:Row) (l:List OpRow) (hqo:aR 41 15 qo.A qo.n qo.c (l.map OpRow.cells) qo.e) (hea:∀ x∈l,OpOk w x.o x.A x.n x.c) (hby:∀ x∈l,x.n≤1000000) (hn:qo.n≤1000000) (hO:Own [(some xb,bc [.slice qo.A qo.n qo.c,.int .i64 (k:Int),.slice none 0 0] 75),qo.e,(some b,bc [.slice r.A r.n r.c,.map r.p] 107),r.er,r.em,(some wb,bc [.pointer (some ⟨b,0,none⟩)] 25)] w) (hdF:0 < 1→∀ q off,(some ⟨0,0,none⟩:Option Addr)=some ⟨q,off,none⟩→q∉bI [(some xb,bc [.slice qo.A qo.n qo.c,.int .i64 (k:Int),.slice none 0 0] 75),qo.e,(some b,bc [.slice r.A r.n r.c,.map r.p] 107),r.er,r.em,(some wb,bc [.pointer (some ⟨b,0,none⟩)] 25)]) (hdN:0 < 1→∀ q off,(some ⟨3,0,none⟩:Option Addr)=some ⟨q,off,none⟩→q∉bI [(some xb,bc [.slice qo.A qo.n qo.c,.int .i64 (k:Int),.slice none 0 0] 75),qo.e,(some b,bc [.slice r.A r.n r.c,.map r.p] 107),r.er,r.em,(some wb,bc [.pointer (some ⟨b,0,none⟩)] 25)]) (hdo:uK l (bI [(some xb,bc [.slice qo.A qo.n qo.c,.int .i64 (k:Int),.slice none 0 0] 75),qo.e,(some b,bc [.slice r.A r.n r.c,.map r.p] 107),r.er,r.em,(some wb,bc [.pointer (some ⟨b,0,none⟩)] 25)])) :
  Calls prog 71 #[.pointer (some ⟨b,0,none⟩),.slice qo.A qo.n qo.c,.int .i64 (k:Int),(.func (.func 72) #[] #[.pointer (some ⟨xb,0,none⟩),.pointer (some ⟨wb,0,none⟩)]:Value)] w (fE (fun v w'=>∃ (r':StV) (qm q:Row) (ms rs:List Row),v=.slice q.A q.n q.c∧bQ 39 r' (fX [] (opsO l))∧aR 31 1 qm.A qm.n qm.c ((ms).map hdr) qm.e∧BytR 5 ms (fP (opsO l) k (qo.n / k))∧aR 33 4 q.A q.n q.c (jR (jF [] (opsO l)) rs) q.e∧OutR 5 rs (jF [] (opsO l))∧Mem w (bI [(some xb,bc [.slice qo.A qo.n qo.c,.int .i64 (k:Int),.slice none 0 0] 75),qo.e,(some b,bc [.slice r.A r.n r.c,.map r.p] 107),r.er,r.em,(some wb,bc [.pointer (some ⟨b,0,none⟩)] 25)]) ([(some xb,bc [.slice qo.A qo.n qo.c,.int .i64 (k:Int),.slice qm.A qm.n qm.c] 75),qo.e,(some b,bc [.slice r'.A r'.n r'.c,.map r'.p] 107),r'.er,r'.em,(some wb,bc [.pointer (some ⟨b,0,none⟩)] 25),qm.e,q.e]++(rs.map Row.e++ms.map Row.e)) w')):=by
 have hlen:l.length=qo.n:=by have h:=hqo.1;rwa [List.length_map] at h
 refine aH #[.tmp 8] 37 func71 Z results71 ntmps71 Z ?_
 have M0:=hO.mem
 refine aD (aA (eX Z Z (aB (aC (aD (aA (eX Z Z ?_)))))))
 have M1:=(M0.dummy default).dummy default
 refine aB (aC (aD (aD (aA (dZ Z Z (wq (cG underlying27 Z) Z (aX Z Z (aB (aC (aT (dK (σ:=Nat × StV × Row × Row × List Row × List Row) [0,2,3,8,12,13] (fun (i,r',qm,q,ms,rs)=>[(9,.slice q.A q.n q.c),(14,.int .i64 (i:Int))]) (fun (i,r',qm,q,ms,rs) w'=>(i≤qo.n∧bQ 39 r' (fX [] ((opsO l).take i))∧aR 31 1 qm.A qm.n qm.c ((ms).map hdr) qm.e∧BytR 5 ms (fP (opsO l) k (i / k))∧aR 33 4 q.A q.n q.c (jR ((jF [] ((opsO l).take i))) rs) q.e∧OutR 5 rs (jF [] ((opsO l).take i)))∧Mem w (bI [(some xb,bc [.slice qo.A qo.n qo.c,.int .i64 (k:Int),.slice none 0 0] 75),qo.e,(some b,bc [.slice r.A r.n r.c,.map r.p] 107),r.er,r.em,(some wb,bc [.pointer (some ⟨b,0,none⟩)] 25)]) ([(some xb,bc [.slice qo.A qo.n qo.c,.int .i64 (k:Int),.slice qm.A qm.n qm.c] 75),qo.e,(some b,bc [.slice r'.A r'.n r'.c,.map r'.p] 107),r'.er,r'.em,(some wb,bc [.pointer (some ⟨b,0,none⟩)] 25),qm.e,q.e]++(rs.map Row.e++ms.map Row.e)) w') (fun (i,r',qm,q,ms,rs)=>qo.n - i) (0,r,fM,fM,[],[]) (bN Z (bN Z eZ)) (⟨⟨by omega,hW,aR.nil _ _ _,by rw [Nat.zero_div];exact BytR.nil _,aR.nil _ _ _,OutR.nil _⟩,M1⟩) ?_)))))))))))
 rintro ⟨i,r',qm,q,ms,rs⟩ ρ2 w2 ⟨⟨hi,hr,hqm,hmb,hq,hoR⟩,hM2⟩
 have hqn:(jR (jF [] ((opsO l).take i)) rs).length=q.n:=hq.1
 rw [oE hoR.len,kY,List.length_take,gB] at hqn
 have hml:ms.length≤1000000:=by rw [hmb.len,rN];exact Nat.le_trans (Nat.div_le_self i k) (by omega)
 refine aD (aA (dB Z Z Z Z (aB (aC (aD ?_)))))
 refine bA Z (fun h15 => ?_) (fun h15 => ?_)
 ·obtain ⟨x,hx⟩:=cF (xs:=l) (k:=i) hlen (by omega)
  have hxm:=List.mem_of_getElem? hx
  have hxo:=xX hx
  have hP:=hea x hxm
  refine aL (aC (aD (aT (aD (aA (aX Z Z (wq (bR (i) xM Z Z Z ((hqo.rd hM2 (aV (i:=1) Z)).below_len (aJ OpRow.cells hx)) ((hqo.rd hM2 (aV (i:=1) Z)).someK (aJ OpRow.cells hx))) Z (wq (dT _ iI (hqo.rd hM2 (aV (i:=1) Z)) (aJ OpRow.cells hx) Z) Z (aM aBn hM2 Z Z (fun b3 w3 M3 => ?_))))))))))
  have M4:Mem _ _ ([_,_,_,_,_,_,_,_,_]++_) _:=Mem.front (L:=[_,_,_,_,_,_,_,_]) M3
  refine bP Z Z (aZ 8 _ iI M4 Z Z Z Z Z (aQ Z) Z (fun w5 M5=>(aB (aC (aD (aA (dZ Z Z (wq (aG (.pointer _) Z) Z (wq (bB 8 iI M5 Z Z Z) Z (aS 21 (.agg (dR x.o x.A x.n x.c).toArray) Z (dU aYv Z Z (wE _ (F.memY M5 hdF) (N.memY M5 hdN) _ r' _ hr (M5.ownSeg 2 3) x.o x.A x.n x.c (hP.memY M5 (hdo x hxm)) (hby x hxm) (M5.away 2 3 hP.rd (hdo x hxm)) (M5.away 2 3 F hdF) (M5.away 2 3 N hdN)) ?_)))))))))))
  rintro v6 w6 ⟨r2,p2,rfl,hr2,hp2,hM6⟩
  have M6:Mem _ _ ([_,_,_,_,_,_,_,_,_,_]++_) _:=Mem.front (L:=[_,_,_,_,_,_,_,_,_]) (M5.seg 2 3 hM6)
  refine cP [.agg (List.toArray _)] [dC (iU (fX [] ((opsO l).take i)) x.o).2 p2] Z aIg M6 Z Z Z Z (cW Z) (by decide) (fun b7 w7 M7 => ?_)
  have M8:Mem _ _ ([_,_,_,_,_,_,_,_,_,_,_]++_) _:=Mem.front (L:=[_,_,_,_,_,_,_,_,_,_]) M7
  refine dL 7 [dC (iU (fX [] ((opsO l).take i)) x.o).2 p2] aIg M8 rfl rfl rfl rfl rfl hq rfl (by simp [dC,Go.Bil.one]) (cZ.ofMem 10 M8 rfl) (by omega) (fun A9 c9 e9 w9 M9 hR9=>(eX rfl rfl (aB (aC (aD (aA (aX rfl rfl (wq (bM rfl rfl (by omega) (by omega)) rfl (aS 26 (.int .i64 ((i+1:Nat):Int)) (iE (by omega)) (aX rfl rfl (wq (aDi rfl rfl (by omega)) rfl (aS 28 (.int .i64 (((i+1) % k:Nat):Int)) (iE (uS rfl rfl)) (dB rfl rfl rfl rfl (aB (aC ?_)))))))))))))))
  refine bA Z (fun h29 => ?_) (fun h29 => ?_)
  ·have hz:=bMc h29
   refine aA (wq (aG (.func _ _ _) Z) Z (aX Z Z (aX Z Z (wq (wQ Z Z (by omega)) Z (aS 33 (.int .i64 ((i / k:Nat):Int)) (iE (bDv Z (by omega))) (dU bMb Z Z (bAi _ b xb wb qo.A qo.n qo.c k qo.e r2 _ hr2 qm ms hqm hml _ (M9.ownSeg 0 7)) ?_))))))
   rintro v10 w10 ⟨pm,qm2,rfl,hpm,hqm2,hM10⟩
   have M10:Mem _ _ ([_,_,_,_,_,_,_,_,_,_,_,_]++_) _:=Mem.front (L:=[_,_,_,_,_,_,_,_,_,_,_]) (M9.seg 0 7 hM10)
   refine aB (dF (aC (aA (wq (bM Z Z (by omega) (by omega)) Z (aX Z Z (aB ?_))))))
   obtain ⟨hmk1,_⟩:=aEt (l:=opsO l) hkp hz
   rw [kM hxo] at hmk1
   refine cR (i+1,r2,qm2,⟨A9,q.n+1,c9,e9⟩,ms++[pm],rs++[p2]) (bN Z (bN Z eZ)) (cT Z (cT Z (cT Z (cT Z (cT Z (cT Z kB)))))) ?_ ?_
   ·exact ⟨⟨by omega,by rw [kM hxo];exact hr2,hqm2,by rw [hmk1];exact hmb.add hpm,by rw [iA hxo,oQ hoR.len];exact hR9,by rw [iA hxo];exact hoR.add hp2⟩,Mem.pushAB (L:=[_,_,_,_,_,_,_,_]) p2 pm (Mem.keepL (L:=[_,_,_,_,_,_,_,_,_,_,_,_]) [true,true,true,true,true,true,true,true,false,true,false,true] M10)⟩
   ·(show qo.n - (i+1) < qo.n - i;omega)
  ·have hz:=bKi h29
   refine aL (dF (aC (aA (wq (bM Z Z (by omega) (by omega)) Z (aX Z Z (aB ?_))))))
   refine cR (i+1,r2,qm,⟨A9,q.n+1,c9,e9⟩,ms,rs++[p2]) (bN Z (bN Z eZ)) (cT Z (cT Z (cT Z (cT Z (cT Z (cT Z kB)))))) ?_ ?_
   ·exact ⟨⟨by omega,by rw [kM hxo];exact hr2,hqm,by rw [aIr hkp hz];exact hmb,by rw [iA hxo,oQ hoR.len];exact hR9,by rw [iA hxo];exact hoR.add hp2⟩,Mem.pushA (L:=[_,_,_,_,_,_,_,_]) p2 (Mem.keepL (L:=[_,_,_,_,_,_,_,_,_,_,_]) [true,true,true,true,true,true,true,true,false,true,false] M9)⟩
   ·(show qo.n - (i+1) < qo.n - i;omega)
 ·have hin:i=qo.n:=by omega
  rw [hin] at hmb
  rw [hin,List.take_of_length_le (by rw [gB];omega)] at hr hq hoR
  refine cO (dA (cX (eV (aC (aD (aA (dZ Z Z (eX Z Z (aB (aC (aP (cB (.slice _ _ _) Z ?_))))))))))))
  exact ⟨r',qm,q,ms,rs,Z,hr,hqm,hmb,hq,hoR,hM2⟩
theorem aSi (w:World) (F:Rd w 2 (some ⟨0,0,none⟩) 1 [[.int .u32 73856093,.int .u32 19349663]]) (N:Rd w 4 (some ⟨3,0,none⟩) 1 [cS fU]) (A:Option Addr) (n c:Nat) (l:List OpRow) (hl:OpsRd w A n l) (hby:∀ x∈l,x.n≤1000000) (hn:n≤1000000) (z:Int) (k:Nat) (hz:max z 1=(k:Int)) :
  Calls prog 42 #[.slice A n c,.int .i64 z] w (fE (fun v w'=>∃ (qo qm q:Row) (ps ms rs:List Row),v=.tuple #[.agg [.slice qo.A qo.n qo.c,.int .i64 (k:Int),.slice qm.A qm.n qm.c].toArray,.slice q.A q.n q.c]∧LogR 41 31 5 (opsO l) k qo qm ps ms∧aR 33 4 q.A q.n q.c (jR (jF [] (opsO l)) rs) q.e∧OutR 5 rs (jF [] (opsO l))∧Mem w [] ([qo.e,qm.e,q.e]++(ps.map Row.e++(rs.map Row.e++ms.map Row.e))) w')):=by
 have hlen:l.length=n:=by simpa using hl.rd.len
 have hbd:=hl.rd.bound
 have hkp:0 < k:=by omega
 have hgood:=hl.good hby
 refine aH #[.cell 4 75,.tmp 5] 38 func42 Z results42 ntmps42 Z ?_
 have M0:=Mem.refl w
 refine aD (aA (aM aNw M0 Z Z (fun b1 w1 M1=>(eX Z Z (aB (aC (aD (aA (aX Z Z (wq (nN Z Z ) Z (aS 12 (.int .i64 (k:Int)) (iE hz) (wq (cE [(1,.int _ _)] _ aXn Z Z) Z (aM aNw M1 Z Z (fun b2 w2 M2=>(aZ 1 _ zL M2 Z Z Z Z Z (aQ Z) Z (fun w3 M3=>(aB (aC (aD (aD (aA (dZ Z Z (wq (cG underlying27 Z) Z (aX Z Z ?_))))))))))))))))))))))))
 have M4:=M3.dummy default
 refine aB (aC (aT (dK (σ:=Nat × Row × List Row) [4,5,6,14,15] (fun (i,qo,ps)=>[(16,.int .i64 (i:Int))]) (fun (i,qo,ps) w'=>(i≤n∧aR 41 15 qo.A qo.n qo.c ((yN ((opsO l).take i) ps).map OpRow.cells) qo.e∧BytR 5 ps (((opsO l).take i).map OpI.bytes))∧Mem w [] ([(some b1,bc [.slice none 0 0,.int .i64 0,.slice none 0 0] 75),(some b2,bc [.slice qo.A qo.n qo.c,.int .i64 (k:Int),.slice none 0 0] 75),qo.e]++ps.map Row.e) w') (fun (i,qo,ps)=>n - i) (0,fM,[]) (bN Z eZ) (⟨⟨by omega,aR.nil _ _ _,BytR.nil _⟩,M4⟩) ?_)))
 rintro ⟨i,qo,ps⟩ ρ5 w5 ⟨⟨hi,hqo,hpb⟩,hM5⟩
 have hpl:ps.length=((opsO l).take i).length:=by rw [hpb.len,List.length_map]
 have hqn:((yN ((opsO l).take i) ps).map OpRow.cells).length=qo.n:=hqo.1
 rw [List.length_map,aOg hpl,List.length_take,gB] at hqn
 refine aD (aA (dB Z Z Z Z (aB (aC (aD ?_)))))
 refine bA Z (fun h17 => ?_) (fun h17 => ?_)
 ·obtain ⟨x,hx⟩:=cF (xs:=l) (k:=i) hlen (by omega)
  have hxm:=List.mem_of_getElem? hx
  have hxo:=xX hx
  have hP:=hl.each x hxm
  refine aL (aC (aD (aT (aD (aA (wq (bR (i) xM Z Z Z ((hl.rd.mem hM5).below_len (aJ OpRow.cells hx)) ((hl.rd.mem hM5).someK (aJ OpRow.cells hx))) Z (wq (dT _ iI (hl.rd.mem hM5) (aJ OpRow.cells hx) Z) Z (aM aBn hM5 Z Z (fun b6 w6 M6 => ?_)))))))))
  have M7:Mem _ _ ([_,_,_,_]++_) _:=Mem.front (L:=[_,_,_]) M6
  refine aZ 3 _ iI M7 Z Z Z Z Z (aQ Z) Z (fun w8 M8=>(aB (aC (gJ [(0,0),(1,1),(2,1),(3,2),(4,2),(5,2),(6,0),(7,2)] mixed M8 Z (by kernel_rfl) (fun w9 M9=>(aU Z Z Z (fun _=>aE 0 mZ Z) (bS Z Z Z (aK 1 (.slice _ _ _) rW M9 Z Z Z) (bS Z Z Z (bB 3 iI M9 Z Z Z) (fA 22 (.agg (dR x.o x.A x.n x.c).toArray) Z (dD [true,false] Z (by kernel_rfl) (dU bMu Z Z (aRj _ x.o x.A x.n x.c (hP.mem M9) (hby x hxm)) ?_)))))))))))
  rintro v10 w10 ⟨p2,rfl,hp2,hM10⟩
  have M10:Mem _ _ ([_,_,_,_,_]++_) _:=Mem.front (L:=[_,_,_,_]) (M9.call0 hM10)
  refine aB (aC ⟨(eH (bJ Z (aK 1 (.slice _ _ _) rW M10 Z Z Z)) dE), ?_⟩)
  refine dD [false] Z (by kernel_rfl) (cP [.agg (List.toArray _)] [dR x.o p2.A p2.n p2.c] Z xM M10 Z Z Z Z (cW Z) (by decide) (fun b11 w11 M11 => ?_))
  have M12:Mem _ _ ([_,_,_,_,_,_]++_) _:=Mem.front (L:=[_,_,_,_,_]) M11
  refine aB (aC ⟨(eH (bJ Z (aK 1 (.slice _ _ _) rW M12 Z Z Z)) dE), ?_⟩)
  refine dD [true] rfl (by kernel_rfl) (dL 2 [dR x.o p2.A p2.n p2.c] xM M12 rfl rfl rfl rfl rfl hqo rfl (by simp [dR,aF,Go.Bil.one]) (cZ.ofMem 5 M12 rfl) (by omega) (fun A13 c13 e13 w13 M13 hR13 => ?_))
  refine aB (aC ⟨dE, ?_⟩)
  refine aU Z Z Z (fun _=>aE 0 mZ Z) (dD [] Z (by kernel_rfl) (dN 1 (.slice _ _ _) rW M13 Z Z Z Z Z Z (fun w14 M14 => ?_)))
  refine aB (aC ⟨dE, ?_⟩)
  refine bZ (dF (aC (aA (wq (bM Z Z (by omega) (by omega)) Z (aX Z Z (aB ?_))))))
  refine cR (i+1,⟨A13,qo.n+1,c13,e13⟩,ps++[p2]) (bN Z eZ) (cT Z (cT Z (cT Z (cT Z (cT Z kB))))) ?_ ?_
  ·exact ⟨⟨by omega,by rw [cQ hxo,aVi hpl,List.map_append];exact hR13,by rw [cQ hxo,List.map_append];exact hpb.add hp2⟩,Mem.pushNew (L:=[_,_,_]) p2 (Mem.keepL (L:=[_,_,_,_,_,_]) [true,true,true,false,true,false] M14)⟩
  ·(show n - (i+1) < n - i;omega)
 ·have hin:i=n:=by omega
  rw [hin,List.take_of_length_le (by rw [gB];omega)] at hqo hpb hpl
  refine cO (dA (cX (eV (aC (aD (aA (aM yE hM5 Z Z (fun b15 w15 M15 => ?_))))))))
  have M16:Mem _ _ ([_,_,_,_]++_) _:=Mem.front (L:=[_,_,_]) M15
  have M17:=Mem.dummyL (L:=[_,_,_,_,_]) (Mem.dummyL (L:=[_,_,_,_]) M16 default) default
  refine aM aUr M17 Z Z (fun b18 w18 M18 => ?_)
  have M19:Mem _ _ ([_,_,_,_,_,_,_]++_) _:=Mem.front (L:=[_,_,_,_,_,_]) M18
  refine dN 6 (.pointer _) aEq M19 Z Z Z Z Z Z (fun w20 M20=>(aB (aC (aD (aA (wq (aK 6 (.pointer _) aEq M20 Z Z Z) Z (wq (aE 0 mZ Z) Z (wq (aK 1 (.slice _ _ _) rW M20 Z Z Z) Z (wq (aE 1 pB Z) Z (wq (aK 1 (.int _ _) fZ M20 Z Z Z) Z (wq (cH [] [.pointer _,.pointer _] Z Z) Z ?_)))))))))))
  have M21:Mem _ _ ([_,_,_,_,_,_,_]++(ps.map Row.e)) _:=M20
  refine dU bEh rfl rfl (bCf _ (F.mem M21) (N.mem M21) b15 b2 b18 k hkp ⟨none,0,0,none,(none,default),(none,default)⟩ (bQ.new 39 default default) qo (yN (opsO l) ps) hqo (aOm hpb hgood hqo M21 (aV (i:=2) rfl) (uZ aIq)).each (bFe hpb hgood) (by omega) (M21.ownSeg 1 6) (M21.away 1 6 F (by simp)) (M21.away 1 6 N (by simp)) (aWi (L:=[_,_,_,_,_,_,_]) hpb M21 aIq 1 6)) ?_
  rintro v22 w22 ⟨r2,qm,q,ms,rs,rfl,hr2,hqm,hmb,hq,hoR,hM22⟩
  have M22:Mem _ _ ([_,_,_,_,_,_,_,_,_]++_) _:=Mem.front (L:=[_,_,_,_,_,_,_]) (Mem.segU (L:=[_,_,_,_,_,_,_]) (B:=[_,_,_,_,_,_]) (A:=[_,_]) 1 6 M21 (Nat.le_of_ble_eq_true rfl) hM22)
  rw [aHm hpl] at hr2 hmb hq hoR
  refine eX Z Z (aB (aC (aD (aA (wq (bB 1 zL M22 Z Z Z) Z (dZ Z Z (aZ 0 _ zL M22 Z Z Z Z Z (aQ Z) Z (fun w23 M23=>(eX Z Z (aB (aC (aP (zZ (v2:=.slice _ _ _) 0 zL M23 Z Z Z Z ?_)))))))))))))
  exact ⟨qo,qm,q,ps,ms,rs,Z,⟨hqo,hpb,hgood,hqm,by rw [show (opsO l).length=qo.n by rw [gB];omega];exact hmb⟩,hq,hoR,Mem.keepL (L:=[_,_,_,_,_,_,_,_,_]) [false,false,true,false,false,false,false,true,true] M23⟩
theorem aVb (w:World) (b xb wb gb:Nat) (A:Option Addr) (n c k:Nat) (B:Option Addr) (m d:Nat) (rs:List Row) (bs:List (List Int)) (hB:BytRd w B m rs bs) (r:StV) (vs:List Body) (hW:bQ 39 r vs) (g:Int) (j:Nat) (hj:j < m) (hO:Own [(some xb,bc [.slice A n c,.int .i64 (k:Int),.slice B m d] 75),(some b,bc [.slice r.A r.n r.c,.map r.p] 107),r.er,r.em,(some wb,bc [.pointer (some ⟨b,0,none⟩)] 25),(some gb,bc [.int .i64 (g)] 3)] w) (hdB:0 < m→∀ q off,B=some ⟨q,off,none⟩→q∉bI [(some xb,bc [.slice A n c,.int .i64 (k:Int),.slice B m d] 75),(some b,bc [.slice r.A r.n r.c,.map r.p] 107),r.er,r.em,(some wb,bc [.pointer (some ⟨b,0,none⟩)] 25),(some gb,bc [.int .i64 (g)] 3)]) (hdr:oR rs (bI [(some xb,bc [.slice A n c,.int .i64 (k:Int),.slice B m d] 75),(some b,bc [.slice r.A r.n r.c,.map r.p] 107),r.er,r.em,(some wb,bc [.pointer (some ⟨b,0,none⟩)] 25),(some gb,bc [.int .i64 (g)] 3)])) :
  Calls prog 75 #[.int .i64 (j:Int),.pointer (some ⟨gb,0,none⟩),.pointer (some ⟨wb,0,none⟩),.pointer (some ⟨xb,0,none⟩)] w (fE (fun v w'=>v=.tuple #[]∧Mem w (bI [(some xb,bc [.slice A n c,.int .i64 (k:Int),.slice B m d] 75),(some b,bc [.slice r.A r.n r.c,.map r.p] 107),r.er,r.em,(some wb,bc [.pointer (some ⟨b,0,none⟩)] 25),(some gb,bc [.int .i64 (g)] 3)]) [(some xb,bc [.slice A n c,.int .i64 (k:Int),.slice B m d] 75),(some b,bc [.slice r.A r.n r.c,.map r.p] 107),r.er,r.em,(some wb,bc [.pointer (some ⟨b,0,none⟩)] 25),(some gb,bc [.int .i64 (aAl g bs j (iK vs))] 3)] w')):=by
 obtain ⟨rj,bj,hrj,hbj,hhj,hrd,hbl,hcp⟩:=hB.at hj
 refine aH #[] 19 func75 Z results75 ntmps75 Z ?_
 have M0:=hO.mem
 refine aD (gJ [(0,1),(1,0),(2,0),(3,1),(5,0),(6,1),(7,0),(8,1),(9,1),(4,2),(10,2),(11,0),(12,0)] mixed M0 Z (by kernel_rfl) (fun w1 M1=>(bS Z Z Z (aK 5 (.int _ _) fZ M1 Z Z Z) (aU Z Z Z (fun _=>dP (.bool (decide _)) Z Z Z) (aU Z Z Z (fun _=>aG (.bool (decide _)) Z) ?_)))))
 refine aWr 7 Z (fun g7 => ?_) (fun g7 => ?_)
 ·refine bS Z Z Z (aK 4 (.pointer _) aEq M1 Z Z Z) (aU Z Z Z (fun _=>aE 2 qX Z) (bS Z Z Z (aK 0 (.slice _ _ _) tI M1 Z Z Z) (gR Z Z Z (bS Z Z Z (bR (j) aZx Z Z Z ((hB.rd.memY M1 hdB).below_len (hhj)) ((hB.rd.memY M1 hdB).someK (hhj))) (bS Z Z Z (gL (.slice _ _ _) sB (hB.rd.memY M1 hdB) (hhj) Z) (dD [false,false,false,true,true] Z (by kernel_rfl) (dU aEn Z Z (gM _ _ r _ hW (M1.ownSeg 1 3)) ?_)))))))
  rintro v2 w2 ⟨p,rfl,hp,hM2⟩
  have M2:Mem _ _ [_,_,_,_,_,_,_] _:=M1.seg 1 3 hM2
  refine aB (aC ⟨(eH (bJ Z (gL (.slice _ _ _) sB (hB.rd.memY M2 hdB) (hhj) Z)) (eH (bJ Z (bR (j) aZx Z Z Z ((hB.rd.memY M2 hdB).below_len (hhj)) ((hB.rd.memY M2 hdB).someK (hhj)))) (eH (bJ Z (aK 0 (.slice _ _ _) tI M2 Z Z Z)) dE))), ?_⟩)
  refine dD [true,true,true] Z (by kernel_rfl) (dI bLn Z Z M2 (aIa _ p.A p.n p.c (iK vs) (hp.rd M2 (aV (i:=6) Z)) (vS _) rj.A rj.n rj.c bj (hrd.memY M2 (hdr rj (List.mem_of_getElem? hrj))) hbl) (fun w3 M3 => ?_))
  refine aB (aC ⟨dE, ?_⟩)
  refine aU Z Z Z (fun _=>rX Z) (aU Z Z Z (fun _=>bX true (.bool (decide _)) Z Z) (bZ (aC ?_)))
  refine bA Z (fun h17 => ?_) (fun h17 => ?_)
  ·refine aA (aX Z Z (dN 5 (.int _ _) fZ M3 Z Z Z Z Z Z (fun w4 M4=>(aB (gZ ?_)))))
   rw [show aAl g bs j (iK vs)=(j:Int) from if_pos ⟨g7,fun e=>h17 (by rw [hbj] at e;exact (Option.some.inj e).symm)⟩]
   exact ⟨Z,M4.keep [true,true,true,true,true,true,false]⟩
  ·refine aL (gZ ?_)
   rw [show aAl g bs j (iK vs)=g from if_neg (fun h=>h.2 (by rw [hbj,Decidable.not_not.1 h17]))]
   exact ⟨Z,M3.keep [true,true,true,true,true,true,false]⟩
 ·refine bDe Z Z Z (D_s Z Z Z (bDe Z Z Z (D_s Z Z Z (bDe Z Z Z (bDe Z Z Z (dD [false,false,false,true,true] Z (by kernel_rfl) (aW Z Z ?_)))))))
  refine aB (aC ⟨(eH (.inr ⟨Z,Z⟩) (eH (.inr ⟨Z,Z⟩) (eH (.inr ⟨Z,Z⟩) dE))), ?_⟩)
  refine dD [true,true,true] Z (by kernel_rfl) (aW Z Z ?_)
  refine aB (aC ⟨dE, ?_⟩)
  refine D_s Z Z Z (aU Z Z Z (fun _=>bX false (.bool false) Z Z) (bZ (aC (bW Z (aL (gZ ?_))))))
  rw [show aAl g bs j (iK vs)=g from if_neg (fun h=>g7 h.1)]
  exact ⟨Z,M1⟩
theorem bAw (w:World) (F:Rd w 2 (some ⟨0,0,none⟩) 1 [[.int .u32 73856093,.int .u32 19349663]]) (N:Rd w 4 (some ⟨3,0,none⟩) 1 [cS fU]) (b xb wb gb k:Nat) (hkp:0 < k) (A:Option Addr) (n c:Nat) (l:List OpRow) (hl:OpsRd w A n l) (B:Option Addr) (m d:Nat) (rs:List Row) (bs:List (List Int)) (hB:BytRd w B m rs bs) (r:StV) (hW:bQ 39 r []) (hby:∀ x∈l,x.n≤1000000) (hn:n≤1000000) (hm:n / k≤m) (hO:Own [(some xb,bc [.slice A n c,.int .i64 (k:Int),.slice B m d] 75),(some b,bc [.slice r.A r.n r.c,.map r.p] 107),r.er,r.em,(some wb,bc [.pointer (some ⟨b,0,none⟩)] 25),(some gb,bc [.int .i64 (-1)] 3)] w) (hdF:0 < 1→∀ q off,(some ⟨0,0,none⟩:Option Addr)=some ⟨q,off,none⟩→q∉bI [(some xb,bc [.slice A n c,.int .i64 (k:Int),.slice B m d] 75),(some b,bc [.slice r.A r.n r.c,.map r.p] 107),r.er,r.em,(some wb,bc [.pointer (some ⟨b,0,none⟩)] 25),(some gb,bc [.int .i64 (-1)] 3)]) (hdN:0 < 1→∀ q off,(some ⟨3,0,none⟩:Option Addr)=some ⟨q,off,none⟩→q∉bI [(some xb,bc [.slice A n c,.int .i64 (k:Int),.slice B m d] 75),(some b,bc [.slice r.A r.n r.c,.map r.p] 107),r.er,r.em,(some wb,bc [.pointer (some ⟨b,0,none⟩)] 25),(some gb,bc [.int .i64 (-1)] 3)]) (hdB:0 < m→∀ q off,B=some ⟨q,off,none⟩→q∉bI [(some xb,bc [.slice A n c,.int .i64 (k:Int),.slice B m d] 75),(some b,bc [.slice r.A r.n r.c,.map r.p] 107),r.er,r.em,(some wb,bc [.pointer (some ⟨b,0,none⟩)] 25),(some gb,bc [.int .i64 (-1)] 3)]) (hdr:oR rs (bI [(some xb,bc [.slice A n c,.int .i64 (k:Int),.slice B m d] 75),(some b,bc [.slice r.A r.n r.c,.map r.p] 107),r.er,r.em,(some wb,bc [.pointer (some ⟨b,0,none⟩)] 25),(some gb,bc [.int .i64 (-1)] 3)])) (hdl:0 < n→∀ q off,A=some ⟨q,off,none⟩→q∉bI [(some xb,bc [.slice A n c,.int .i64 (k:Int),.slice B m d] 75),(some b,bc [.slice r.A r.n r.c,.map r.p] 107),r.er,r.em,(some wb,bc [.pointer (some ⟨b,0,none⟩)] 25),(some gb,bc [.int .i64 (-1)] 3)]) (hdo:uK l (bI [(some xb,bc [.slice A n c,.int .i64 (k:Int),.slice B m d] 75),(some b,bc [.slice r.A r.n r.c,.map r.p] 107),r.er,r.em,(some wb,bc [.pointer (some ⟨b,0,none⟩)] 25),(some gb,bc [.int .i64 (-1)] 3)])) :
  Calls prog 71 #[.pointer (some ⟨b,0,none⟩),.slice A n c,.int .i64 (k:Int),(.func (.func 75) #[] #[.pointer (some ⟨gb,0,none⟩),.pointer (some ⟨wb,0,none⟩),.pointer (some ⟨xb,0,none⟩)]:Value)] w (fE (fun v w'=>∃ (r':StV) (q:Row),v=.slice q.A q.n q.c∧bQ 39 r' (fX [] (opsO l))∧Mem w (bI [(some xb,bc [.slice A n c,.int .i64 (k:Int),.slice B m d] 75),(some b,bc [.slice r.A r.n r.c,.map r.p] 107),r.er,r.em,(some wb,bc [.pointer (some ⟨b,0,none⟩)] 25),(some gb,bc [.int .i64 (-1)] 3)]) [(some xb,bc [.slice A n c,.int .i64 (k:Int),.slice B m d] 75),(some b,bc [.slice r'.A r'.n r'.c,.map r'.p] 107),r'.er,r'.em,(some wb,bc [.pointer (some ⟨b,0,none⟩)] 25),(some gb,bc [.int .i64 (fN (opsO l) k bs (n / k))] 3)] w')):=by
 have hlen:l.length=n:=by simpa using hl.rd.len
 have hbd:=hl.rd.bound
 refine aH #[.tmp 8] 37 func71 Z results71 ntmps71 Z ?_
 have M0:=hO.mem
 refine aD (aA (eX Z Z (aB (aC (aD (aA (eX Z Z ?_)))))))
 have M1:=M0.dummy default
 refine aB (aC (aD (aD (aA (dZ Z Z (wq (cG underlying27 Z) Z (aX Z Z (aB (aC (aT (dK (σ:=Nat × StV × Row × List Row) [0,2,3,8,12,13] (fun (i,r',q,os)=>[(9,.slice q.A q.n q.c),(14,.int .i64 (i:Int))]) (fun (i,r',q,os) w'=>(i≤n∧bQ 39 r' (fX [] ((opsO l).take i))∧aR 33 4 q.A q.n q.c (jR ((jF [] ((opsO l).take i))) os) q.e∧OutR 5 os (jF [] ((opsO l).take i)))∧Mem w (bI [(some xb,bc [.slice A n c,.int .i64 (k:Int),.slice B m d] 75),(some b,bc [.slice r.A r.n r.c,.map r.p] 107),r.er,r.em,(some wb,bc [.pointer (some ⟨b,0,none⟩)] 25),(some gb,bc [.int .i64 (-1)] 3)]) ([(some xb,bc [.slice A n c,.int .i64 (k:Int),.slice B m d] 75),(some b,bc [.slice r'.A r'.n r'.c,.map r'.p] 107),r'.er,r'.em,(some wb,bc [.pointer (some ⟨b,0,none⟩)] 25),(some gb,bc [.int .i64 (fN (opsO l) k bs (i / k))] 3),q.e]++os.map Row.e) w') (fun (i,r',q,os)=>n - i) (0,r,fM,[]) (bN Z (bN Z eZ)) (⟨⟨by omega,hW,aR.nil _ _ _,OutR.nil _⟩,by rw [Nat.zero_div];exact M1⟩) ?_)))))))))))
 rintro ⟨i,r',q,os⟩ ρ2 w2 ⟨⟨hi,hr,hq,hoR⟩,hM2⟩
 have hqn:(jR (jF [] ((opsO l).take i)) os).length=q.n:=hq.1
 rw [oE hoR.len,kY,List.length_take,gB] at hqn
 refine aD (aA (dB Z Z Z Z (aB (aC (aD ?_)))))
 refine bA Z (fun h15 => ?_) (fun h15 => ?_)
 ·obtain ⟨x,hx⟩:=cF (xs:=l) (k:=i) hlen (by omega)
  have hxm:=List.mem_of_getElem? hx
  have hxo:=xX hx
  have hP:=hl.each x hxm
  refine aL (aC (aD (aT (aD (aA (aX Z Z (wq (bR (i) xM Z Z Z ((hl.rd.memY hM2 hdl).below_len (aJ OpRow.cells hx)) ((hl.rd.memY hM2 hdl).someK (aJ OpRow.cells hx))) Z (wq (dT _ iI (hl.rd.memY hM2 hdl) (aJ OpRow.cells hx) Z) Z (aM aBn hM2 Z Z (fun b3 w3 M3 => ?_))))))))))
  have M4:Mem _ _ ([_,_,_,_,_,_,_,_]++_) _:=Mem.front (L:=[_,_,_,_,_,_,_]) M3
  refine bP Z Z (aZ 7 _ iI M4 Z Z Z Z Z (aQ Z) Z (fun w5 M5=>(aB (aC (aD (aA (dZ Z Z (wq (aG (.pointer _) Z) Z (wq (bB 7 iI M5 Z Z Z) Z (aS 21 (.agg (dR x.o x.A x.n x.c).toArray) Z (dU aYv Z Z (wE _ (F.memY M5 hdF) (N.memY M5 hdN) _ r' _ hr (M5.ownSeg 1 3) x.o x.A x.n x.c (hP.memY M5 (hdo x hxm)) (hby x hxm) (M5.away 1 3 hP.rd (hdo x hxm)) (M5.away 1 3 F hdF) (M5.away 1 3 N hdN)) ?_)))))))))))
  rintro v6 w6 ⟨r2,p2,rfl,hr2,hp2,hM6⟩
  have M6:Mem _ _ ([_,_,_,_,_,_,_,_,_]++_) _:=Mem.front (L:=[_,_,_,_,_,_,_,_]) (M5.seg 1 3 hM6)
  refine cP [.agg (List.toArray _)] [dC (iU (fX [] ((opsO l).take i)) x.o).2 p2] Z aIg M6 Z Z Z Z (cW Z) (by decide) (fun b7 w7 M7 => ?_)
  have M8:Mem _ _ ([_,_,_,_,_,_,_,_,_,_]++_) _:=Mem.front (L:=[_,_,_,_,_,_,_,_,_]) M7
  refine dL 6 [dC (iU (fX [] ((opsO l).take i)) x.o).2 p2] aIg M8 rfl rfl rfl rfl rfl hq rfl (by simp [dC,Go.Bil.one]) (cZ.ofMem 9 M8 rfl) (by omega) (fun A9 c9 e9 w9 M9 hR9=>(eX rfl rfl (aB (aC (aD (aA (aX rfl rfl (wq (bM rfl rfl (by omega) (by omega)) rfl (aS 26 (.int .i64 ((i+1:Nat):Int)) (iE (by omega)) (aX rfl rfl (wq (aDi rfl rfl (by omega)) rfl (aS 28 (.int .i64 (((i+1) % k:Nat):Int)) (iE (uS rfl rfl)) (dB rfl rfl rfl rfl (aB (aC ?_)))))))))))))))
  refine bA Z (fun h29 => ?_) (fun h29 => ?_)
  ·have hz:=bMc h29
   have hjm:i / k < m:=by have h1:=(aEt (l:=opsO l) hkp hz).2;have h2:(i+1) / k≤n / k:=Nat.div_le_div_right (by omega);omega
   refine aA (wq (aG (.func _ _ _) Z) Z (aX Z Z (aX Z Z (wq (wQ Z Z (by omega)) Z (aS 33 (.int .i64 ((i / k:Nat):Int)) (iE (bDv Z (by omega))) (dU bMw Z Z (aVb _ b xb wb gb A n c k B m d rs bs (hB.memY M9 hdB hdr) r2 _ hr2 (fN (opsO l) k bs (i / k)) (i / k) hjm (M9.ownSeg 0 6) (M9.away 0 6 hB.rd hdB) (hB.seg M9 hdr 0 6)) ?_))))))
   rintro v10 w10 ⟨rfl,hM10⟩
   have M10:Mem _ _ ([_,_,_,_,_,_,_,_,_,_]++_) _:=Mem.segE (L:=[_,_,_,_,_,_,_,_,_,_]) 0 6 M9 (Nat.le_of_ble_eq_true rfl) hM10
   refine aB (dF (aC (aA (wq (bM Z Z (by omega) (by omega)) Z (aX Z Z (aB ?_))))))
   refine cR (i+1,r2,⟨A9,q.n+1,c9,e9⟩,os++[p2]) (bN Z (bN Z eZ)) (cT Z (cT Z (cT Z (cT Z (cT Z (cT Z kB)))))) ?_ ?_
   ·exact ⟨⟨by omega,by rw [kM hxo];exact hr2,by rw [iA hxo,oQ hoR.len];exact hR9,by rw [iA hxo];exact hoR.add hp2⟩,by rw [aQo hkp hz,kM hxo];exact Mem.pushNew (L:=[_,_,_,_,_,_,_]) p2 (Mem.keepL (L:=[_,_,_,_,_,_,_,_,_,_]) [true,true,true,true,true,true,true,false,true,false] M10)⟩
   ·(show n - (i+1) < n - i;omega)
  ·have hz:=bKi h29
   refine aL (dF (aC (aA (wq (bM Z Z (by omega) (by omega)) Z (aX Z Z (aB ?_))))))
   refine cR (i+1,r2,⟨A9,q.n+1,c9,e9⟩,os++[p2]) (bN Z (bN Z eZ)) (cT Z (cT Z (cT Z (cT Z (cT Z (cT Z kB)))))) ?_ ?_
   ·exact ⟨⟨by omega,by rw [kM hxo];exact hr2,by rw [iA hxo,oQ hoR.len];exact hR9,by rw [iA hxo];exact hoR.add hp2⟩,by rw [aIr hkp hz];exact Mem.pushNew (L:=[_,_,_,_,_,_,_]) p2 (Mem.keepL (L:=[_,_,_,_,_,_,_,_,_,_]) [true,true,true,true,true,true,true,false,true,false] M9)⟩
   ·(show n - (i+1) < n - i;omega)
 ·have hin:i=n:=by omega
  rw [hin] at hM2
  rw [hin,List.take_of_length_le (by rw [gB];omega)] at hr hq hoR
  refine cO (dA (cX (eV (aC (aD (aA (dZ Z Z (eX Z Z (aB (aC (aP (cB (.slice _ _ _) Z ?_))))))))))))
  exact ⟨r',q,Z,hr,(Mem.noT hM2).keep [true,true,true,true,true,true,false]⟩
theorem bHg (w:World) (F:Rd w 2 (some ⟨0,0,none⟩) 1 [[.int .u32 73856093,.int .u32 19349663]]) (N:Rd w 4 (some ⟨3,0,none⟩) 1 [cS fU]) (A:Option Addr) (n c:Nat) (l:List OpRow) (hl:OpsRd w A n l) (hby:∀ x∈l,x.n≤1000000) (hn:n≤1000000) (B:Option Addr) (m d:Nat) (rs:List Row) (bs:List (List Int)) (hB:BytRd w B m rs bs) (k:Nat) (hkp:0 < k) (hm:m=n / k) :
  Calls prog 49 #[.agg [.slice A n c,.int .i64 (k:Int),.slice B m d].toArray] w (Rb w (.tuple #[.int .i64 (aNy (opsO l) k bs).1,.int .i64 (aNy (opsO l) k bs).2])):=by
 have hlen:l.length=n:=by simpa using hl.rd.len
 have hbd:=hl.rd.bound
 refine aH #[.tmp 2,.tmp 3] 35 func49 Z results49 ntmps49 Z ?_
 have M0:=Mem.refl w
 refine aD (aA (bH (.agg (.mk _)) M0 Z Z Z (fun b1 w1 M1=>(bP Z Z (bP Z Z (aB (aC (aD (aD (gJ [(0,0),(1,1),(2,0),(3,0),(4,0),(5,1),(6,0),(7,0),(8,1),(9,0),(10,0),(11,1),(12,0),(13,0),(14,0)] mixed M1 Z (by kernel_rfl) (fun w2 M2=>(aU Z Z Z (fun _=>aE 1 pB Z) (bS Z Z Z (aK 0 (.int _ _) fZ M2 Z Z Z) (aU Z Z Z (fun _=>dP (.bool (decide _)) Z Z Z) (fA 8 (.bool false) (bF (by omega)).symm (aU Z Z Z (fun _=>aG (.bool false) Z) (aU Z Z Z (fun _=>aE 2 qX Z) ?_)))))))))))))))))
 refine bS Z Z Z (aK 0 (.slice _ _ _) tI M2 Z Z Z) (aU Z Z Z (fun _=>cG underlying73 Z) (aU Z Z Z (fun _=>aE 0 mZ Z) (bS Z Z Z (aK 0 (.slice _ _ _) rW M2 Z Z Z) (aU Z Z Z (fun _=>cG underlying27 Z) (aU Z Z Z (fun _=>aE 1 pB Z) (bS Z Z Z (aK 0 (.int _ _) fZ M2 Z Z Z) (aU Z Z Z (fun _=>wQ Z Z (by omega)) (fA 18 (.int .i64 ((n / k:Nat):Int)) (iE (bDv Z (by omega))) (aU Z Z Z (fun _=>dP (.bool (decide _)) Z Z Z) (fA 19 (.bool false) (bF (fun h=>h (by rw [hm]))).symm ?_))))))))))
 refine aU Z Z Z (fun _=>bX false (.bool false) Z Z) (bZ (aC (bW Z (aL (aC (aD (aA (aM yE M2 Z Z (fun b3 w3 M3 => ?_)))))))))
 have M4:=(M3.dummy default).dummy default
 refine aM aUr M4 rfl rfl (fun b5 w5 M5=>(aM bEl M5 rfl rfl (fun b6 w6 M6=>(dN 4 (.pointer _) aEq M6 rfl rfl rfl rfl rfl rfl (fun w7 M7=>(dN 5 (.int _ _) fZ M7 rfl rfl rfl rfl rfl rfl (fun w8 M8=>(aB (aC (aD (aA (wq (aK 4 (.pointer _) aEq M8 rfl rfl rfl) rfl (wq (aE 0 mZ rfl) rfl (wq (aK 0 (.slice _ _ _) rW M8 rfl rfl rfl) rfl (wq (aE 1 pB rfl) rfl (wq (aK 0 (.int _ _) fZ M8 rfl rfl rfl) rfl (wq (cH [] [.pointer _,.pointer _,.pointer _] rfl rfl) rfl (dU bEh rfl rfl (bAw _ (F.mem M8) (N.mem M8) b3 b1 b5 b6 k hkp A n c l (hl.mem M8) B m d rs bs (hB.mem M8) ⟨none,0,0,none,(none,default),(none,default)⟩ (bQ.new 39 default default) hby hn (by rw [hm];exact Nat.le_refl _) (M8.ownSeg 0 6) (M8.away 0 6 F (by simp)) (M8.away 0 6 N (by simp)) (M8.away 0 6 hB.rd (by simp)) (hB.seg M8 (aVn rs) 0 6) (M8.away 0 6 hl.rd (by simp)) (fun x hx=>M8.away 0 6 (hl.each x hx).rd (by simp))) ?_))))))))))))))))))
 rintro v9 w9 ⟨r2,q,rfl,hr2,hM9⟩
 have M9:Mem _ _ [_,_,_,_,_,_] _:=M8.seg 0 6 hM9
 have hbm:bs.length=n / k:=by rw [hB.n_eq.1,hm]
 refine aB (aC (aD (aD (aA (wq (aK 5 (.int _ _) fZ M9 Z Z Z) Z (dB Z Z Z Z (aB (aC ?_))))))))
 refine bA Z (fun h30 => ?_) (fun h30 => ?_)
 ·refine aD (aA (wq (aK 5 (.int _ _) fZ M9 Z Z Z) Z (bP Z Z (bP Z Z (aB (aC (aP (cL (gY (.int _ _) (.int _ _) Z Z ?_)))))))))
  exact ⟨by unfold aNy;rw [hbm,if_pos h30],M9.below⟩
 ·refine aL (aC (aD (aA (wq (aE 2 qX Z) Z (wq (aK 0 (.slice _ _ _) tI M9 Z Z Z) Z (wq (cG underlying73 Z) Z (bP Z Z (bP Z Z (aB (aC (aP (gY (.int _ _) (.int _ _) Z Z ?_))))))))))))
  exact ⟨by unfold aNy;rw [hbm,if_neg h30,← hm],M9.below⟩
theorem bCr (w:World) (F:Rd w 2 (some ⟨0,0,none⟩) 1 [[.int .u32 73856093,.int .u32 19349663]]) (N:Rd w 4 (some ⟨3,0,none⟩) 1 [cS fU]) (A:Option Addr) (n c:Nat) (l:List OpRow) (hl:OpsRd w A n l) (hcap:n≤c) (hby:∀ x∈l,x.n≤1000000) (hn:n≤1000000) (B:Option Addr) (m d:Nat) (rs:List Row) (bs:List (List Int)) (hB:BytRd w B m rs bs) (hlb:∀ b∈bs,b.length≤1000000) (k:Nat) (hkp:0 < k) (hm:n / k≤m) (nn:Nat) (hnn:nn≤n) :
  Calls prog 48 #[.agg [.slice A n c,.int .i64 (k:Int),.slice B m d].toArray,.int .i64 (nn:Int)] w (fE (fun v w'=>∃ (b:Nat) (r:StV),v=.tuple #[.pointer (some ⟨b,0,none⟩),.int .i64 0]∧bQ 39 r (yL (opsO l) k bs nn)∧Mem w [] [(some b,bc [.slice r.A r.n r.c,.map r.p] 107),r.er,r.em] w')):=by
 have hlen:l.length=n:=by simpa using hl.rd.len
 have hbd:=hl.rd.bound
 obtain ⟨a,ha⟩:∃ a,a=nn / k:=⟨_,rfl⟩
 have haN:a≤nn:=by rw [ha];exact Nat.div_le_self nn k
 have hak:a*k≤nn:=by rw [ha];exact Nat.div_mul_le_self nn k
 have ham:a≤m:=by rw [ha];exact Nat.le_trans (Nat.div_le_div_right hnn) hm
 have haki:(a:Int)*(k:Int)=((a*k:Nat):Int):=(Int.natCast_mul a k).symm
 have hS:=hl.sub (a*k) nn hak hnn hcap
 refine aH #[.tmp 4,.tmp 5] 43 func48 Z results48 ntmps48 Z ?_
 have M0:=Mem.refl w
 refine aD (aA (bH (.agg (.mk _)) M0 Z Z Z (fun b1 w1 M1=>(wq (aI (.pointer _) Z) Z (bP Z Z (aB (aC (aD (aD (aA (aX Z Z (dB Z Z Z Z (rP 9 Z (by omega) (wq (aG (.bool false) Z) Z (aX Z Z (wq (aE 0 mZ Z) Z (wq (aK 0 (.slice _ _ _) rW M1 Z Z Z) Z (wq (cG underlying27 Z) Z (dB Z Z Z Z (rP 15 Z (by omega) (wq (bX false (.bool false) Z Z) Z ?_)))))))))))))))))))))
 refine aB (aC (bW Z (aL (aC (aD (gJ [(1,0),(2,0),(3,1),(4,0),(0,2),(5,0),(6,0)] mixed M1 Z (by kernel_rfl) (fun w2 M2=>(gR Z Z Z (aU Z Z Z (fun _=>aE 1 pB Z) (bS Z Z Z (aK 0 (.int _ _) fZ M2 Z Z Z) (aU Z Z Z (fun _=>wQ Z Z (by omega)) (fA 21 (.int .i64 (a:Int)) (iE (bDv ha (by omega))) (dD [false] Z (by kernel_rfl) (aM yE M2 Z Z (fun b3 w3 M3 => ?_)))))))))))))))
 refine aB (aC ⟨(eH (bJ Z (aK 0 (.int _ _) fZ M3 Z Z Z)) dE), ?_⟩)
 have M4:=(M3.dummy default).dummy default
 refine aU Z Z Z (fun _=>aI (.pointer _) Z) (qB Z Z Z (bZ (aC (aD (aD (aA (aX Z Z (dB Z Z Z Z (aB (aC ?_))))))))))
 refine bA Z (fun h23 => ?_) (fun h23 => ?_)
 ·have ha0:0 < a:=by omega
  obtain ⟨rj,bj,hrj,hbj,hhj,hrd,hbl,hcp⟩:=hB.at (j:=a - 1) (by omega)
  have hbjl:bj.length=rj.n:=by simpa using hrd.len
  have hbj6:=hlb bj (List.mem_of_getElem? hbj)
  refine aA (wq (aG (.pointer _) rfl) rfl (wq (aE 2 qX rfl) rfl (wq (aK 0 (.slice _ _ _) tI M4 rfl rfl rfl) rfl (aX rfl rfl (wq (lY rfl rfl (by omega) (by omega)) rfl (aS 28 (.int .i64 ((a - 1:Nat):Int)) (iE (by omega)) (wq (bR ((a - 1)) aZx rfl rfl rfl ((hB.rd.mem M4).below_len (hhj)) ((hB.rd.mem M4).someK (hhj))) rfl (wq (gL (.slice _ _ _) sB (hB.rd.mem M4) (hhj) rfl) rfl (dU bEj rfl rfl (sE _ _ ⟨none,0,0,none,(none,default),(none,default)⟩ _ (bQ.new 39 default default) (M4.ownSeg 1 3) rj.A rj.n rj.c bj (hrd.mem M4) hbl hcp (by omega) (M4.away 1 3 hrd (by simp))) ?_)))))))))
  rintro v5 w5 ⟨r1,rfl,hr1,hM5⟩
  have M5:Mem _ _ [_,_,_,_] _:=M4.seg 1 3 hM5
  refine aB (aC (aD (aA (wq (aG (.pointer _) rfl) rfl (wq (aE 0 mZ rfl) rfl (wq (aK 0 (.slice _ _ _) rW M5 rfl rfl rfl) rfl (aX rfl rfl (wq (aE 1 pB rfl) rfl (wq (aK 0 (.int _ _) fZ M5 rfl rfl rfl) rfl (wq (fY rfl rfl (by rw [haki];omega) (by rw [haki];omega)) rfl (aS 38 (.int .i64 ((a*k:Nat):Int)) (iE haki) (aX rfl rfl (wq (fI (((a*k:Nat):Int)) ((nn:Int)) xM rfl ⟨_,rfl⟩ ⟨_,rfl⟩ (by omega) (by omega) (by omega)) rfl (dU aQe rfl rfl (pH _ (F.mem M5) (N.mem M5) _ r1 _ hr1 (M5.ownSeg 1 3) (M5.away 1 3 F (by simp)) (M5.away 1 3 N (by simp)) _ (nn - a*k) _ ((l.drop (a*k)).take (nn - a*k)) (hS.mem M5) (fun x hx=>hby x (List.mem_of_mem_drop (List.mem_of_mem_take hx))) (by omega) (M5.away 1 3 hS.rd (by simp)) (fun x hx=>M5.away 1 3 (hS.each x hx).rd (by simp))) ?_))))))))))))))
  rintro v6 w6 ⟨r2,q,os,rfl,hr2,hq,hoR,hM6⟩
  have M6:Mem _ _ ([_,_,_,_,_]++_) _:=M5.seg 1 3 hM6
  refine aB (aC (aD (aA (wq (aG (.pointer _) Z) Z (wq (aI (.pointer _) Z) Z (bP Z Z (aB (aC (aP (gY (.pointer _) (.int _ _) Z Z ?_))))))))))
  exact ⟨_,r2,Z,by rw [aXb ha ha0 hbj,← rI,← aEi];exact hr2,(Mem.noT M6).keep [false,true,true,true,false]⟩
 ·have ha0:a=0:=by omega
  refine aL (aC (aD (aA (wq (aG (.pointer _) rfl) rfl (wq (aE 0 mZ rfl) rfl (wq (aK 0 (.slice _ _ _) rW M4 rfl rfl rfl) rfl (aX rfl rfl (wq (aE 1 pB rfl) rfl (wq (aK 0 (.int _ _) fZ M4 rfl rfl rfl) rfl (wq (fY rfl rfl (by rw [haki];omega) (by rw [haki];omega)) rfl (aS 38 (.int .i64 ((a*k:Nat):Int)) (iE haki) (aX rfl rfl (wq (fI (((a*k:Nat):Int)) ((nn:Int)) xM rfl ⟨_,rfl⟩ ⟨_,rfl⟩ (by omega) (by omega) (by omega)) rfl (dU aQe rfl rfl (pH _ (F.mem M4) (N.mem M4) _ ⟨none,0,0,none,(none,default),(none,default)⟩ _ (bQ.new 39 default default) (M4.ownSeg 1 3) (M4.away 1 3 F (by simp)) (M4.away 1 3 N (by simp)) _ (nn - a*k) _ ((l.drop (a*k)).take (nn - a*k)) (hS.mem M4) (fun x hx=>hby x (List.mem_of_mem_drop (List.mem_of_mem_take hx))) (by omega) (M4.away 1 3 hS.rd (by simp)) (fun x hx=>M4.away 1 3 (hS.each x hx).rd (by simp))) ?_))))))))))))))
  rintro v7 w7 ⟨r2,q,os,rfl,hr2,hq,hoR,hM7⟩
  have M7:Mem _ _ ([_,_,_,_,_]++_) _:=M4.seg 1 3 hM7
  refine aB (aC (aD (aA (wq (aG (.pointer _) Z) Z (wq (aI (.pointer _) Z) Z (bP Z Z (aB (aC (aP (gY (.pointer _) (.int _ _) Z Z ?_))))))))))
  exact ⟨_,r2,Z,by rw [aRh ha ha0,← rI,← aEi];exact hr2,(Mem.noT M7).keep [false,true,true,true,false]⟩
theorem aSp (w:World) (A:Option Addr) (n c:Nat) (l:List OpRow) (hl:OpsRd w A n l) :
  Calls prog 41 #[.slice A n c] w (fE (fun v w'=>(∃ g:Bool,v=.bool g∧(g=true→n≤16∧∀ x∈l,x.n≤500))∧Below w.heap.size w w')):=by
 have hlen:l.length=n:=by simpa using hl.rd.len
 have hbd:=hl.rd.bound
 refine aH #[.tmp 2] 37 func41 Z results41 ntmps41 Z ?_
 have M0:=Mem.refl w
 refine aD (aA (wq (aI (.bool false) Z) Z (aB (aC (aD (aA (bP Z Z (aB (aC (aD (aD (aA (bP Z Z (aB (aC (aT (dK (σ:=Nat × Nat) [0] (fun (i,s)=>[(3,.int .i64 (s:Int)),(4,.int .i64 (i:Int))]) (fun (i,s) w'=>(i≤n∧s≤i∧∀ (j:Nat) (x:OpRow),j < i→l[j]? = some x→x.n≤500)∧Mem w [] [] w') (fun (i,s)=>n - i) (0,0) (bN Z (bN Z eZ)) (⟨⟨by omega,by omega,fun j x hj=>by omega⟩,M0⟩) ?_)))))))))))))))))
 rintro ⟨i,s⟩ ρ1 w1 ⟨⟨hi,hs,hal⟩,hM1⟩
 refine aD (aD (aA (aX Z Z (dZ Z Z (wq (cG underlying22 Z) Z (dB Z Z Z Z (wq (aG (.bool (decide _)) Z) Z ?_)))))))
 refine dV 9 Z (fun g9 => ?_) (fun g9 => ?_)
 ·refine aX Z Z (dB Z Z Z Z (wq (bX true (.bool (decide _)) Z Z) Z (aB (aC ?_))))
  refine bA Z (fun h12 => ?_) (fun h12 => ?_)
  ·obtain ⟨x,hx⟩:=cF (xs:=l) (k:=i) hlen (by omega)
   refine aL (aC (aD (aT (aD (aD (aA (dZ Z Z (aX Z Z (wq (bR (i) aHb Z Z Z ((hl.rd.mem hM1).below_len (aJ OpRow.cells hx)) ((hl.rd.mem hM1).someK (aJ OpRow.cells hx))) Z (wq (bO 14 aPl (hl.rd.mem hM1) (qR ((hl.rd.mem hM1).below_len (aJ OpRow.cells hx))) Z) Z (wq (eP (o:=14) (.slice _ _ _) sB (hl.rd.mem hM1) (aJ OpRow.cells hx) Z Z) Z (wq (cG underlying31 Z) Z (dB Z Z Z Z (aB (aC ?_)))))))))))))))
   refine bA Z (fun h21 => ?_) (fun h21 => ?_)
   ·refine aD (aA (wq (aI (.bool false) Z) Z (aB (aC (aP (cL (kA (cL (vX (kA (cL (cB (.bool false) Z ?_))))))))))))
    exact ⟨⟨false,Z,fun h=>by cases h⟩,hM1.below⟩
   ·refine aL (aC (aD (aA (dZ Z Z (aX Z Z (wq (bR (i) aHb Z Z Z ((hl.rd.mem hM1).below_len (aJ OpRow.cells hx)) ((hl.rd.mem hM1).someK (aJ OpRow.cells hx))) Z (wq (bO 0 aPj (hl.rd.mem hM1) (qR ((hl.rd.mem hM1).below_len (aJ OpRow.cells hx))) Z) Z (wq (eP (o:=0) (.int _ _) fZ (hl.rd.mem hM1) (aJ OpRow.cells hx) Z Z) Z (dB Z Z Z Z (aB (aC ?_)))))))))))
    refine bA Z (fun h27 => ?_) (fun h27 => ?_)
    ·refine aA (aX Z Z (wq (bM Z Z (by omega) (by omega)) Z (bP Z Z (aB (dF (aC (aA (aX Z Z (wq (bM Z Z (by omega) (by omega)) Z (bP Z Z (aB ?_)))))))))))
     refine cR (i+1,s+1) (bN Z (bN Z eZ)) (cT Z kB) ?_ ?_
     ·exact ⟨⟨by omega,by omega,rJ (p:=fun _ x=>x.n≤500) hal hx (by omega)⟩,hM1⟩
     ·(show n - (i+1) < n - i;omega)
    ·refine aL (dF (aC (aA (aX Z Z (wq (bM Z Z (by omega) (by omega)) Z (bP Z Z (aB ?_)))))))
     refine cR (i+1,s) (bN Z (bN Z eZ)) (cT Z kB) ?_ ?_
     ·exact ⟨⟨by omega,by omega,rJ (p:=fun _ x=>x.n≤500) hal hx (by omega)⟩,hM1⟩
     ·(show n - (i+1) < n - i;omega)
  ·refine cO (dA (cX (eV (aC (aD (aA (dZ Z Z (wq (cG underlying22 Z) Z (dB Z Z Z Z (wq (aG (.bool (decide _)) Z) Z ?_))))))))))
   refine dV 33 Z (fun g33 => ?_) (fun g33 => ?_)
   ·refine aX Z Z (dB Z Z Z Z (wq (bX true (.bool (decide _)) Z Z) Z (wq (aI (.bool (decide _)) Z) Z (aB (aC (aP (cB (.bool (decide _)) Z ?_)))))))
    refine ⟨⟨_,Z,fun hg => ?_⟩,hM1.below⟩
    first | (cases hg;done) | exact ⟨(by omega),fun x hx=>(by obtain ⟨j,hj⟩:=List.getElem?_of_mem hx;exact hal j x (by have:=(List.getElem?_eq_some_iff.1 hj).1;omega) hj)⟩
   ·refine aW Z Z (aW Z Z (wq (bX false (.bool false) Z Z) Z (wq (aI (.bool false) Z) Z (aB (aC (aP (cB (.bool false) Z ?_)))))))
    refine ⟨⟨_,Z,fun hg => ?_⟩,hM1.below⟩
    first | (cases hg;done) | exact ⟨(by omega),fun x hx=>(by obtain ⟨j,hj⟩:=List.getElem?_of_mem hx;exact hal j x (by have:=(List.getElem?_eq_some_iff.1 hj).1;omega) hj)⟩
 ·refine aW Z Z (aW Z Z (wq (bX false (.bool false) Z Z) Z (aB (aC (bW Z (cO (dA (cX (eV (aC (aD (aA (dZ Z Z (wq (cG underlying22 Z) Z (dB Z Z Z Z (wq (aG (.bool (decide _)) Z) Z ?_))))))))))))))))
  refine dV 33 Z (fun g33 => ?_) (fun g33 => ?_)
  ·refine aX Z Z (dB Z Z Z Z (wq (bX true (.bool (decide _)) Z Z) Z (wq (aI (.bool (decide _)) Z) Z (aB (aC (aP (cB (.bool (decide _)) Z ?_)))))))
   refine ⟨⟨_,Z,fun hg => ?_⟩,hM1.below⟩
   first | (cases hg;done) | exact ⟨(by omega),fun x hx=>(by obtain ⟨j,hj⟩:=List.getElem?_of_mem hx;exact hal j x (by have:=(List.getElem?_eq_some_iff.1 hj).1;omega) hj)⟩
  ·refine aW Z Z (aW Z Z (wq (bX false (.bool false) Z Z) Z (wq (aI (.bool false) Z) Z (aB (aC (aP (cB (.bool false) Z ?_)))))))
   refine ⟨⟨_,Z,fun hg => ?_⟩,hM1.below⟩
   first | (cases hg;done) | exact ⟨(by omega),fun x hx=>(by obtain ⟨j,hj⟩:=List.getElem?_of_mem hx;exact hal j x (by have:=(List.getElem?_eq_some_iff.1 hj).1;omega) hj)⟩
theorem aIe (w:World) (F:Rd w 2 (some ⟨0,0,none⟩) 1 [[.int .u32 73856093,.int .u32 19349663]]) (N:Rd w 4 (some ⟨3,0,none⟩) 1 [cS fU]) (b:Nat) (r:StV) (vs:List Body) (hW:bQ 39 r vs) (hO:Own [(some b,bc [.slice r.A r.n r.c,.map r.p] 107),r.er,r.em] w) (hdF:0 < 1→∀ q off,(some ⟨0,0,none⟩:Option Addr)=some ⟨q,off,none⟩→q∉bI [(some b,bc [.slice r.A r.n r.c,.map r.p] 107),r.er,r.em]) (hdN:0 < 1→∀ q off,(some ⟨3,0,none⟩:Option Addr)=some ⟨q,off,none⟩→q∉bI [(some b,bc [.slice r.A r.n r.c,.map r.p] 107),r.er,r.em]) :
  Calls prog 53 #[.pointer (some ⟨b,0,none⟩)] w (fE (fun v w'=>∃ (r':StV) (t:Nat),v=.agg [.int .i64 (t:Int),.int .i64 ((lL vs).length:Int),.bool (sA vs)].toArray∧(lL vs).length≤t∧2*t≤vs.length*(vs.length - 1)∧bQ 39 r' (oF vs)∧Mem w (bI [(some b,bc [.slice r.A r.n r.c,.map r.p] 107),r.er,r.em]) [(some b,bc [.slice r'.A r'.n r'.c,.map r'.p] 107),r'.er,r'.em] w')):=by
 have hW':=hW
 obtain ⟨hG,m,hs,hR⟩:=hW
 have hvl:=hG.len
 refine aH #[.cell 2 58] 18 func53 Z results53 ntmps53 Z ?_
 have M0:=hO.mem
 refine aD (aA (aM sU M0 Z Z (fun b1 w1 M1=>(aB (aC (aD (aD (aA (wq (aG (.pointer _) Z) Z (wq (eK false underlying25 Z Z) Z (aB (aC (bW Z (aL (aC (aD (aA (wq (aG (.pointer _) Z) Z (dU aQg Z Z (oS _ _ r _ hW' (M1.ownSeg 0 3)) ?_)))))))))))))))))))
 rintro v2 w2 ⟨q,rfl,hq,hM2⟩
 have M2:Mem _ _ [_,_,_,_,_] _:=M1.seg 0 3 hM2
 have hqn:vs.length=q.n:=by simpa using hq.1
 refine dU bEk Z Z (aDm _ (F.memY M2 hdF) (N.memY M2 hdN) _ _ _ vs (hq.rd M2 (aV (i:=4) Z)) hG.okb hG.s (by omega)) ?_
 rintro v3 w3 ⟨ra,ta,rfl,h1ta,h2ta,hra,hM3⟩
 have M3:Mem _ _ [_,_,_,_,_,_] _:=M2.call0 hM3
 refine wq (aG (.tuple (List.toArray _)) Z) Z (wq (bE (.slice _ _ _) Z Z) Z (wq (bE (.agg (.mk _)) Z Z) Z (aM sU M3 Z Z (fun b4 w4 M4=>(eX Z Z (aZ 6 _ oK M4 Z Z Z Z Z (aQ Z) Z (fun w5 M5=>(aB (aC (aD (aA (wq (aG (.pointer _) Z) Z (dZ Z Z (dU aWc Z Z (nO _ _ r _ hW' (M5.ownSeg 0 3) ra.A ra.n ra.c (oF vs) (hra.rd M5 (aV (i:=5) Z)) hG.step (hra.awayS M5 0 3 5 Z Z)) ?_))))))))))))))
 rintro v6 w6 ⟨r2,rfl,hw2,hM6⟩
 have M6:Mem _ _ [_,_,_,_,_,_,_] _:=M5.seg 0 3 hM6
 refine aB (aC (aD (aA (wq (bB 6 oK M6 Z Z Z) Z (aZ 3 _ oK M6 Z Z Z Z Z (aQ Z) Z (fun w7 M7=>(aB (aC (aP (eO 3 oK M7 Z Z Z ?_))))))))))
 exact ⟨r2,ta,Z,h1ta,h2ta,hw2,M7.keep [true,true,true,false,false,false,false]⟩
theorem tR (w:World) (key inv x:Int) :
  Calls prog 52 #[.int .u32 key,.int .i32 inv,.int .i32 x] w (Rb w ((.agg (aF (⟨key,65536,0,0,inv,0,x,0,0,0⟩:Body)).toArray))):=by
 refine aH #[.cell 6 39] 12 func52 Z results52 ntmps52 Z ?_
 have M0:=Mem.refl w
 refine aD (aA (aM iD M0 Z Z (fun b1 w1 M1=>(aB (aC (aD (aA (aX Z Z (aX Z Z (aX Z Z (wq (cE [(0,.int _ _)] _ fD Z Z) Z (wq (cE [(0,.int _ _),(1,.int _ _),(3,.int _ _),(5,.agg (List.toArray _))] _ zX Z Z) Z (aZ 0 _ bU M1 Z Z Z Z Z (aQ Z) Z (fun w2 M2=>(aB (aC (aP (eO 0 bU M2 Z Z Z ?_))))))))))))))))))
 exact ⟨Z,M2.below⟩
theorem bMv (w:World) (F:Rd w 2 (some ⟨0,0,none⟩) 1 [[.int .u32 73856093,.int .u32 19349663]]) (N:Rd w 4 (some ⟨3,0,none⟩) 1 [cS fU]) :
  Calls prog 16 #[] w (Rb w (.bool true)):=by
 refine aH #[.tmp 0] 79 func16 Z results16 ntmps16 Z ?_
 have M0:=Mem.refl w
 refine aD (aA (wq (aI (.bool false) Z) Z (aB (aC (aD (aA (dI aOn Z Z M0 (tR _ 2 65536 0) (fun w1 M1=>(wq (cE [(0,.int _ _),(1,.agg (List.toArray _))] _ tY Z Z) Z (aS 8 (.agg (OpRow.cells (opA xA)).toArray) Z (dI aOn Z Z M1 (tR _ 1 0 100000) (fun w2 M2=>(wq (cE [(0,.int _ _),(1,.agg (List.toArray _))] _ tY Z Z) Z (aS 10 (.agg (OpRow.cells (opA mP)).toArray) Z (dI aOn Z Z M2 (tR _ 1 0 0) (fun w3 M3=>(wq (cE [(0,.int _ _),(1,.agg (List.toArray _))] _ tY Z Z) Z ?_)))))))))))))))))
 refine aS 12 (.agg (OpRow.cells (opA tB3)).toArray) Z (cP [.agg (List.toArray _),.agg (List.toArray _),.agg (List.toArray _)] (aCv.map OpRow.cells) Z xM M3 Z Z Z Z (cW Z) (by decide) (fun b4 w4 M4 => ?_))
 have hlit13:=kC (T:=41) (sz:=15) (b:=b4) (nn:=3) (aCv.map OpRow.cells) (bBn _) rfl (by decide)
 refine dU bFj Z Z (tZ _ (F.mem M4) (N.mem M4) _ 3 3 aCv ⟨(hlit13.rd M4 (aV (i:=0) Z)),aQn _⟩ (fun x hx=>by rw [bGx x hx];decide) (by decide)) ?_
 rintro v5 w5 ⟨wb,r0,rfl,hr0,hM5⟩
 have M5:Mem _ _ [_,_,_,_] _:=M4.call0 hM5
 rw [bKz] at hr0
 refine wq (aI (.pointer _) rfl) rfl (aB (aC (aD (aA (wq (aG (.pointer _) rfl) rfl (dU bEf rfl rfl (aIe _ (F.mem M5) (N.mem M5) _ r0 _ hr0 (M5.ownSeg 1 3) (M5.away 1 3 F (by simp)) (M5.away 1 3 N (by simp))) ?_))))))
 rintro v6 w6 ⟨r1,ts,rfl,h1ts,h2ts,hr1,hM6⟩
 have M6:Mem _ _ [_,_,_,_] _:=M5.seg 1 3 hM6
 rw [bLo] at hr1
 rw [aFy] at h1ts
 obtain rfl:ts=1:=by have h:2*ts≤2:=h2ts;have g:1≤ts:=h1ts;omega
 refine aS 16 (.agg [.int .i64 1,.int .i64 1,.bool false].toArray) (congrArg Value.agg (by rw [aFy,bLy];rfl)) (aM sU M6 Z Z (fun b7 w7 M7=>(aZ 4 _ oK M7 Z Z Z Z Z (aQ Z) Z (fun w8 M8=>(aB (aC (aD (aA (wq (aG (.pointer _) Z) Z (dU aQg Z Z (oS _ _ r1 _ hr1 (M8.ownSeg 1 3)) ?_))))))))))
 rintro v9 w9 ⟨qv,rfl,hqv,hM9⟩
 have M9:Mem _ _ [_,_,_,_,_,_] _:=M8.seg 1 3 hM9
 have hqv2:2=qv.n:=by simpa using hqv.1
 refine eX Z Z (aB (aC (aD (aD (aA (dZ Z Z (wq (cG underlying29 Z) Z (dB Z Z Z Z (rP 21 Z (by omega) (aB (aC (bW Z (aL (aC (aD (aA (wq (aG (.pointer _) Z) Z (dU aEn Z Z (gM _ _ r1 _ hr1 (M9.ownSeg 1 3)) ?_))))))))))))))))))
 rintro v10 w10 ⟨sb,rfl,hsb,hM10⟩
 have M10:Mem _ _ [_,_,_,_,_,_,_] _:=M9.seg 1 3 hM10
 have hsn:88=sb.n:=by have h:=hsb.1;rwa [List.length_map,zB] at h
 refine eX Z Z (aB (aC (aD (aA (dZ Z Z (dU bEz Z Z (tP _ sb.A sb.n sb.c (iK [mP,xT]) (hsb.rd M10 (aV (i:=6) Z)) (vS _) hsb.slice (by omega)) ?_))))))
 rintro v11 w11 ⟨q,rfl,hq,hM11⟩
 have M11:Mem _ _ [_,_,_,_,_,_,_,_] _:=M10.call0 hM11
 have hsg:=aDs hr1.1
 rw [hsg] at hq
 refine wq (aG (.tuple (List.toArray _)) Z) Z (wq (bE (.slice _ _ _) Z Z) Z (wq (bE (.int _ _) Z Z) Z (aS 28 (.int .i64 0) (iE (by rw [hsg])) (eX Z Z (bP Z Z (aB (aC (aD (gJ [(0,0),(1,1),(2,0),(3,0),(4,0),(5,1),(6,0),(7,0),(8,0),(9,0),(10,1),(11,0),(12,0),(13,0),(14,0),(15,1),(16,1),(17,2),(18,0),(19,0),(20,0),(21,0),(22,1),(23,1),(24,1),(25,0),(26,0),(27,0),(28,0),(29,0),(30,1),(31,1),(32,1),(33,0),(34,0),(35,0),(36,0),(37,0),(38,0),(39,0),(40,0),(41,0),(42,0),(43,0),(44,2),(45,0),(46,0),(47,0),(48,0),(49,0),(50,0)] mixed M11 Z (by kernel_rfl) (fun w12 M12 => ?_))))))))))
 refine aU Z Z Z (fun _=>aE 1 aFv Z) (bS Z Z Z (aK 4 (.int _ _) fZ M12 Z Z Z) (aU Z Z Z (fun _=>dP (.bool (decide _)) Z Z Z) (aU Z Z Z (fun _=>aG (.bool true) Z) (aU Z Z Z (fun _=>aE 0 aOi Z) (bS Z Z Z (aK 4 (.int _ _) fZ M12 Z Z Z) (aU Z Z Z (fun _=>dP (.bool (decide _)) Z Z Z) (aU Z Z Z (fun _=>bX true (.bool true) Z Z) (aU Z Z Z (fun _=>aG (.bool true) Z) (aU Z Z Z (fun _=>aE 2 uI Z) (bS Z Z Z (aK 4 (.bool false) oG M12 Z Z Z) ?_))))))))))
 refine aU Z Z Z (fun _=>gE true Z Z) (aU Z Z Z (fun _=>bX true (.bool true) Z Z) (aU Z Z Z (fun _=>aG (.bool true) Z) (sH Z Z Z (bS Z Z Z (bR (0) fC Z Z Z ((hqv.rd M12 (aV (i:=5) Z)).below_len ((show ([mP,xT].map aF)[0]? = some (aF mP) from Z))) ((hqv.rd M12 (aV (i:=5) Z)).someK ((show ([mP,xT].map aF)[0]? = some (aF mP) from Z)))) (bS Z Z Z (dT _ bU (hqv.rd M12 (aV (i:=5) Z)) ((show ([mP,xT].map aF)[0]? = some (aF mP) from Z)) Z) ?_)))))
 refine dD [false,false,true,true,true] Z (by kernel_rfl) (dI aOn Z Z M12 (tR _ 1 0 100000) (fun w13 M13 => ?_))
 refine aB (aC ⟨(eH (bJ Z (dT _ bU (hqv.rd M13 (aV (i:=5) Z)) ((show ([mP,xT].map aF)[0]? = some (aF mP) from Z)) Z)) (eH (bJ Z (bR (0) fC Z Z Z ((hqv.rd M13 (aV (i:=5) Z)).below_len ((show ([mP,xT].map aF)[0]? = some (aF mP) from Z))) ((hqv.rd M13 (aV (i:=5) Z)).someK ((show ([mP,xT].map aF)[0]? = some (aF mP) from Z))))) dE)), ?_⟩)
 refine aU Z Z Z (fun _=>aYy (aXc mP mP) Z Z) (fA 47 (.bool true) (bT Z).symm (aU Z Z Z (fun _=>bX true (.bool true) Z Z) (aU Z Z Z (fun _=>aG (.bool true) Z) (sH Z Z Z (bS Z Z Z (bR (1) fC Z Z Z ((hqv.rd M13 (aV (i:=5) Z)).below_len ((show ([mP,xT].map aF)[1]? = some (aF xT) from Z))) ((hqv.rd M13 (aV (i:=5) Z)).someK ((show ([mP,xT].map aF)[1]? = some (aF xT) from Z)))) (bS Z Z Z (bO 8 fS (hqv.rd M13 (aV (i:=5) Z)) (qR ((hqv.rd M13 (aV (i:=5) Z)).below_len ((show ([mP,xT].map aF)[1]? = some (aF xT) from Z)))) Z) ?_))))))
 refine bS Z Z Z (pA (o:=8) _ bL (hqv.rd M13 (aV (i:=5) Z)) ((show ([mP,xT].map aF)[1]? = some (aF xT) from Z)) Z Z Z) (aU Z Z Z (fun _=>cE [(1,.int _ _)] _ fD Z Z) (aU Z Z Z (fun _=>aYy (bEw _ _ _ _) Z Z) (fA 55 (.bool true) (bT (by decide)).symm (aU Z Z Z (fun _=>bX true (.bool true) Z Z) (aU Z Z Z (fun _=>aG (.bool true) Z) (sH Z Z Z (bS Z Z Z (bR (1) fC Z Z Z ((hqv.rd M13 (aV (i:=5) Z)).below_len ((show ([mP,xT].map aF)[1]? = some (aF xT) from Z))) ((hqv.rd M13 (aV (i:=5) Z)).someK ((show ([mP,xT].map aF)[1]? = some (aF xT) from Z)))) ?_)))))))
 refine bS Z Z Z (bO 6 gX (hqv.rd M13 (aV (i:=5) Z)) (qR ((hqv.rd M13 (aV (i:=5) Z)).below_len ((show ([mP,xT].map aF)[1]? = some (aF xT) from Z)))) Z) (bS Z Z Z (pA (o:=6) _ bL (hqv.rd M13 (aV (i:=5) Z)) ((show ([mP,xT].map aF)[1]? = some (aF xT) from Z)) Z Z Z) (aU Z Z Z (fun _=>cE [(0,.int _ _),(1,.int _ _)] _ fD Z Z) (aU Z Z Z (fun _=>aYy (bEw _ _ _ _) Z Z) (fA 63 (.bool true) (bT (by decide)).symm (aU Z Z Z (fun _=>bX true (.bool true) Z Z) ?_)))))
 refine aU Z Z Z (fun _=>aG (.bool true) Z) (sH Z Z Z (aU Z Z Z (fun _=>cG underlying31 Z) (aU Z Z Z (fun _=>dP (.bool (decide _)) Z Z Z) (fA 68 (.bool true) (bT (by omega)).symm (aU Z Z Z (fun _=>bX true (.bool true) Z Z) (aU Z Z Z (fun _=>aG (.bool true) Z) (sH Z Z Z (sH Z Z Z (dD [true,true,true,true,true,true,true,true] Z (by kernel_rfl) (dI bMl Z Z M13 (aLd _ _ _ _ _ (hq.rd M13 (aV (i:=7) Z)) _ _ _ _ (hqv.rd M13 (aV (i:=5) Z))) (fun w14 M14 => ?_)))))))))))
 refine aB (aC ⟨dE, ?_⟩)
 refine fA 73 (.bool true) (bT Z).symm (aU Z Z Z (fun _=>bX true (.bool true) Z Z) (aU Z Z Z (fun _=>aG (.bool true) Z) (gR Z Z Z (aU Z Z Z (fun _=>dP (.bool (decide _)) Z Z Z) (aU Z Z Z (fun _=>bX true (.bool true) Z Z) (aU Z Z Z (fun _=>aI (.bool true) Z) (bZ (aC (aP (cB (.bool true) Z ?_))))))))))
 exact ⟨Z,M14.below⟩
end Go.Proofs.YtaoaknafiegfoaaGreatDoor
