/- Part of the proof of a law of this seat (3 texts). No conditions. -/
import Derived.Test.YtaoaknafiegfoaaGreatDoorK26
import Derived.Test.YtaoaknafiegfoaaGreatDoorK29
set_option linter.unusedVariables false
set_option linter.unusedSimpArgs false
set_option linter.unnecessarySimpa false
set_option maxHeartbeats 100000000
namespace Go.Proofs.YtaoaknafiegfoaaGreatDoor
open Go.Bil
open Go.RowKit (Below)
open Go.Proofs
open Go.Proofs.Tryz
theorem bBf (w:World) (bl pm:Nat) (f:Int→Option Body) (em:eQ) (hme:lQ .u32 yN f (some pm) em) (r:Row) (cs:List Con) (hr:bA 211 5 r.A r.n r.c ((cs).map cQ) r.e) (hn:r.n≤1099511627776) (z:Int × Int) (a b:Body) (h1:f z.1=some a) (h2:f z.2=some b) (ha:Okb a) (hb:Okb b) (hO:Own [(some bl,bc [.map (some pm),.slice r.A r.n r.c] 219),em,r.e] w) :
  Calls prog 159 #[.pointer (some ⟨bl,0,none⟩),(.agg (cU z).toArray)] w (gY (fun v w'=>v=.tuple #[]∧∃ q:Row,bA 211 5 q.A q.n q.c ((cs++(aGr f z).toList).map cQ) q.e∧Mem w (cD [(some bl,bc [.map (some pm),.slice r.A r.n r.c] 219),em,r.e]) [(some bl,bc [.map (some pm),.slice q.A q.n q.c] 219),em,q.e] w')):=by
 refine aI #[] 35 func159 Z results159 ntmps159 Z ?_
 have M0:=hO.mem
 refine aE (aA (bO (.agg (.mk _)) M0 Z Z Z (fun b1 w1 M1=>(aB (aC (aE (aGd [(0,0),(1,0),(2,0),(3,1),(4,0),(5,1),(6,1),(7,0),(8,0),(9,0),(10,1),(11,0),(12,1),(13,1)] 14 18 [(15,0),(16,0),(17,0),(18,2),(19,2),(20,0)] [(14,2),(15,0),(16,0),(17,0),(19,2),(20,0)] mixed Z (by kernel_rfl) (fun w2 hb2 hh2 => ?_))))))))
 have M2:=M1.drew hb2 hh2
 refine rP Z Z Z (fun _=>aH (.pointer _) Z) (rP Z Z Z (fun _=>bN Z) (rP Z Z Z (fun _=>aD 0 aHi Z) (yF Z Z Z (aK 0 (.map _) aIh M2 Z Z Z) (rP Z Z Z (fun _=>aD 0 iI Z) (yF Z Z Z (aK 3 (.int _ _) bZ M2 Z Z Z) (yF Z Z Z (nL (enc:=yN) aXn 1 aHw bPa M2 Z hme Z Z) (bPb 13 ((.agg (aF a).toArray)) (congrArg yN (by rw [h1];rfl)) (rP Z Z Z (fun _=>aH (.pointer _) Z) (rP Z Z Z (fun _=>bN Z) (rP Z Z Z (fun _=>aD 0 aHi Z) ?_))))))))))
 refine yF Z Z Z (aK 0 (.map _) aIh M2 Z Z Z) (rP Z Z Z (fun _=>aD 1 lG Z) (yF Z Z Z (aK 3 (.int _ _) bZ M2 Z Z Z) (yF Z Z Z (nL (enc:=yN) aXn 1 aHw bPa M2 Z hme Z Z) (bPb 20 ((.agg (aF b).toArray)) (congrArg yN (by rw [h2];rfl)) ?_))))
 refine zZ ?_ ?_
 ·refine dO [true,true,true,true,true,true] Z (by kernel_rfl) (dM bFe Z Z M2 (aGs _ a b ha hb) (fun w3 M3 => ?_))
  refine aB (aC ⟨dI, ?_⟩)
  refine aX Z Z Z (fun _=>aH (.tuple (List.toArray _)) Z) (aX Z Z Z (fun _=>bJ (.agg (.mk _)) Z Z) (aX Z Z Z (fun _=>bJ (.bool _) Z Z) (dO [] Z (by kernel_rfl) (aO oK M3 Z Z (fun b4 w4 M4 => ?_)))))
  refine aB (aC ⟨dI, ?_⟩)
  refine dO [] Z (by kernel_rfl) (bC 4 _ fL M4 Z Z Z Z Z (aP Z) Z (fun w5 M5 => ?_))
  refine aB (aC ⟨dI, ?_⟩)
  refine aX Z Z Z (fun _=>aJ (.bool _) Z) (bS (aC (aE (aA (wq (aH (.bool _) Z) Z (aB (aC ?_)))))))
  refine iN _ Z (fun h24 => ?_) (fun h24 => ?_)
  ·obtain ⟨cc,hcc⟩:=Option.isSome_iff_exists.1 h24
   refine gJ [(0,0),(1,0),(2,0),(3,0),(4,1),(5,1),(6,2),(7,2),(8,0),(9,0),(10,2)] mixed M5 Z (by kernel_rfl) (fun w6 M6=>(aX Z Z Z (fun _=>aH (.pointer _) Z) (aX Z Z Z (fun _=>aH (.pointer _) Z) (aX Z Z Z (fun _=>bN Z) (aX Z Z Z (fun _=>aD 1 vY Z) (bQ Z Z Z (aK 0 (.slice _ _ _) rG M6 Z Z Z) (bQ Z Z Z (aV 4 fL M6 Z Z Z) (dX 30 (.agg (cQ cc).toArray) (congrArg (fun o=>Value.agg (aQu o).toArray) hcc) (dO [true,false] Z (by kernel_rfl) (bV [.agg (List.toArray _)] [cQ cc] Z vD M6 Z Z Z Z (cO Z) (by decide) (fun b7 w7 M7 => ?_)))))))))))
   refine aB (aC ⟨(dS (bH Z (aK 0 (.slice _ _ _) rG M7 Z Z Z)) dI), ?_⟩)
   refine dO [true] rfl (by kernel_rfl) (cP 2 [cQ cc] vD M7 rfl rfl rfl rfl rfl hr rfl (by simp [cQ,Go.Bil.one]) (dN.ofMem 5 M7 rfl) (by omega) (fun A8 c8 e8 w8 M8 hR8 => ?_))
   refine aB (aC ⟨dI, ?_⟩)
   refine aX Z Z Z (fun _=>bN Z) (aX Z Z Z (fun _=>aD 1 vY Z) (dO [] Z (by kernel_rfl) (dA 0 (.slice _ _ _) rG M8 Z Z Z Z Z Z (fun w9 M9 => ?_))))
   refine aB (aC ⟨dI, ?_⟩)
   refine bS (lF ?_)
   exact ⟨Z,⟨A8,r.n+1,c8,e8⟩,by rw [xE h1 h2,hcc,List.map_append];exact hR8,M9.keep [true,true,true,false,false,false]⟩
  ·have hcc:mH a b=none:=by simpa using h24
   refine aM (lF ?_)
   exact ⟨rfl,r,by rw [xE h1 h2,hcc];simpa using hr,M5.keep [true,true,true,false,false]⟩
 ·refine dO [false,false,false,false,false,false] Z (by kernel_rfl) (aO oK M2 Z Z (fun b10 w10 M10 => ?_))
  refine aB (aC ⟨(dS (bH Z (nL (enc:=yN) aXn 1 aHw bPa M10 Z hme Z Z)) (dS (bH Z (aK 3 (.int _ _) bZ M10 Z Z Z)) (dS (bH Z (aK 0 (.map _) aIh M10 Z Z Z)) (dS (bH Z (nL (enc:=yN) aXn 1 aHw bPa M10 Z hme Z Z)) (dS (bH Z (aK 3 (.int _ _) bZ M10 Z Z Z)) (dS (bH Z (aK 0 (.map _) aIh M10 Z Z Z)) dI)))))), ?_⟩)
  refine dO [true,true,true,true,true,true] Z (by kernel_rfl) (dM bFe Z Z M10 (aGs _ a b ha hb) (fun w11 M11 => ?_))
  refine aB (aC ⟨dI, ?_⟩)
  refine aX Z Z Z (fun _=>aH (.tuple (List.toArray _)) Z) (aX Z Z Z (fun _=>bJ (.agg (.mk _)) Z Z) (aX Z Z Z (fun _=>bJ (.bool _) Z Z) (dO [] Z (by kernel_rfl) (bC 4 _ fL M11 Z Z Z Z Z (aP Z) Z (fun w12 M12 => ?_)))))
  refine aB (aC ⟨dI, ?_⟩)
  refine aX Z Z Z (fun _=>aJ (.bool _) Z) (bS (aC (aE (aA (wq (aH (.bool _) Z) Z (aB (aC ?_)))))))
  refine iN _ Z (fun h24 => ?_) (fun h24 => ?_)
  ·obtain ⟨cc,hcc⟩:=Option.isSome_iff_exists.1 h24
   refine gJ [(0,0),(1,0),(2,0),(3,0),(4,1),(5,1),(6,2),(7,2),(8,0),(9,0),(10,2)] mixed M12 Z (by kernel_rfl) (fun w13 M13=>(aX Z Z Z (fun _=>aH (.pointer _) Z) (aX Z Z Z (fun _=>aH (.pointer _) Z) (aX Z Z Z (fun _=>bN Z) (aX Z Z Z (fun _=>aD 1 vY Z) (bQ Z Z Z (aK 0 (.slice _ _ _) rG M13 Z Z Z) (bQ Z Z Z (aV 4 fL M13 Z Z Z) (dX 30 (.agg (cQ cc).toArray) (congrArg (fun o=>Value.agg (aQu o).toArray) hcc) (dO [true,false] Z (by kernel_rfl) (bV [.agg (List.toArray _)] [cQ cc] Z vD M13 Z Z Z Z (cO Z) (by decide) (fun b14 w14 M14 => ?_)))))))))))
   refine aB (aC ⟨(dS (bH Z (aK 0 (.slice _ _ _) rG M14 Z Z Z)) dI), ?_⟩)
   refine dO [true] rfl (by kernel_rfl) (cP 2 [cQ cc] vD M14 rfl rfl rfl rfl rfl hr rfl (by simp [cQ,Go.Bil.one]) (dN.ofMem 5 M14 rfl) (by omega) (fun A15 c15 e15 w15 M15 hR15 => ?_))
   refine aB (aC ⟨dI, ?_⟩)
   refine aX Z Z Z (fun _=>bN Z) (aX Z Z Z (fun _=>aD 1 vY Z) (dO [] Z (by kernel_rfl) (dA 0 (.slice _ _ _) rG M15 Z Z Z Z Z Z (fun w16 M16 => ?_))))
   refine aB (aC ⟨dI, ?_⟩)
   refine bS (lF ?_)
   exact ⟨Z,⟨A15,r.n+1,c15,e15⟩,by rw [xE h1 h2,hcc,List.map_append];exact hR15,M16.keep [true,true,true,false,false,false]⟩
  ·have hcc:mH a b=none:=by simpa using h24
   refine aM (lF ?_)
   exact ⟨rfl,r,by rw [xE h1 h2,hcc];simpa using hr,M12.keep [true,true,true,false,false]⟩
theorem aJy (w:World) (A:Option Addr) (n c:Nat) (zs:List (Int × Int)) (R:Rd w 2 A n (zs.map cU)) (bl pm:Nat) (f:Int→Option Body) (em:eQ) (hme:lQ .u32 yN f (some pm) em) (r:Row) (hr:bA 211 5 r.A r.n r.c (([]).map cQ) r.e) (hz:∀ z∈zs,∃ a b,f z.1=some a∧f z.2=some b∧Okb a∧Okb b) (hn:n≤1099511627776) (hO:Own [(some bl,bc [.map (some pm),.slice r.A r.n r.c] 219),em,r.e] w) (hdA:0 < n→∀ q off,A=some ⟨q,off,none⟩→q∉cD [(some bl,bc [.map (some pm),.slice r.A r.n r.c] 219),em,r.e]) :
  Calls prog 158 #[.slice A n c,.func (.func 159) #[.pointer (some ⟨bl,0,none⟩)] #[]] w (gY (fun v w'=>v=.tuple #[]∧∃ q:Row,bA 211 5 q.A q.n q.c ((zs.filterMap (aGr f)).map cQ) q.e∧Mem w (cD [(some bl,bc [.map (some pm),.slice r.A r.n r.c] 219),em,r.e]) [(some bl,bc [.map (some pm),.slice q.A q.n q.c] 219),em,q.e] w')):=by
 have hlen:zs.length=n:=by simpa using R.len
 refine aI #[] 16 func158 Z results158 ntmps158 Z ?_
 have M0:=hO.mem
 refine aE (aA (dJ Z Z (wq (bW underlying220 Z) Z (aT Z Z (aB (aC (aS (dK (σ:=Nat × Row) [1,6,7] (fun (k,q)=>[(8,.int .i64 (k:Int))]) (fun (k,q) w'=>(k≤n∧bA 211 5 q.A q.n q.c (((zs.take k).filterMap (aGr f)).map cQ) q.e)∧Mem w (cD [(some bl,bc [.map (some pm),.slice r.A r.n r.c] 219),em,r.e]) [(some bl,bc [.map (some pm),.slice q.A q.n q.c] 219),em,q.e] w') (fun (k,q)=>n - k) (0,r) (bI Z eC) (⟨⟨by omega,hr⟩,M0⟩) ?_))))))))
 rintro ⟨k,q⟩ ρ1 w1 ⟨⟨hk,hq⟩,hM1⟩
 have hfl:=List.length_filterMap_le (aGr f) (zs.take k)
 have htl:=List.length_take_le k zs
 have hql:((zs.take k).filterMap (aGr f)).length=q.n:=by simpa using hq.1
 refine aE (aA (cV Z Z Z Z (aB (aC (aE ?_)))))
 refine aW Z (fun h9 => ?_) (fun h9 => ?_)
 ·obtain ⟨xz,hxz⟩:=cG (k:=k) hlen (by omega)
  obtain ⟨za,zb,hza,hzb,hoa,hob⟩:=hz xz (List.mem_of_getElem? hxz)
  refine aM (aC (aE (aS (aE (aA (wq (bG (k) aBu Z Z Z ((R.memY hM1 hdA).below_len (aG cU hxz)) ((R.memY hM1 hdA).someK (aG cU hxz))) Z (wq (dQ _ kR (R.memY hM1 hdA) (aG cU hxz) Z) Z (aO yD hM1 Z Z (fun b2 w2 M2=>(bC 3 _ kR M2 Z Z Z Z Z (aP Z) Z (fun w3 M3=>(aB (aC (aA (wq (aH (.func _ _ _) Z) Z (wq (aV 3 kR M3 Z Z Z) Z (eJ bSm Z Z (bBf _ bl pm f em hme q _ hq (by omega) xz za zb hza hzb hoa hob (M3.ownSeg 0 3)) ?_)))))))))))))))))
  rintro v4 w4 ⟨rfl,q2,hq2,hM4⟩
  have M4:Mem _ _ [_,_,_,_] _:=M3.seg 0 3 hM4
  refine aB (cS (aC (aA (wq (bE Z Z (by omega) (by omega)) Z (aT Z Z (aB ?_))))))
  refine bU (k+1,q2) (bI Z eC) (bX Z (bX Z (bX Z gR))) ?_ ?_
  ·exact ⟨⟨by omega,by rw [bMh hxz];exact hq2⟩,M4.keep [true,true,true,false]⟩
  ·(show n - (k+1) < n - k;omega)
 ·have hkn:k=n:=by omega
  rw [List.take_of_length_le (by omega)] at hq
  refine cM (cZ (dF (eL (lF ?_))))
  exact ⟨Z,q,hq,hM1⟩
theorem aNt (w:World) (F:Rd w 2 (some ⟨0,0,none⟩) 1 [[.int .u32 73856093,.int .u32 19349663]]) (N:Rd w 4 (some ⟨3,0,none⟩) 1 [dY gZ]) (A:Option Addr) (n c:Nat) (xs:List Body) (R:Rd w 10 A n (xs.map aF)) (hb:∀ b∈xs,Okb b) (hs:dD xs) (hn:n≤4096) :
  Calls prog 144 #[.slice A n c] w (gY (fun v w'=>∃ (r:Row) (m:Nat),v=.tuple #[.slice r.A r.n r.c,.int .i64 (m:Int)]∧(qH xs).length≤m∧2*m≤xs.length*(xs.length - 1)∧bA 211 5 r.A r.n r.c ((mM xs).map cQ) r.e∧Mem w [] [r.e] w')):=by
 have hlen:xs.length=n:=by simpa using R.len
 have hbd:=R.bound
 refine aI #[.tmp 2,.tmp 3] 39 func144 Z results144 ntmps144 Z ?_
 have M0:=Mem.refl w
 refine aE (aA (eI Z Z (bL Z Z (aB (aC (aE (aA (pB M0 Z Z (fun b1 w1 M1=>(wq (cI [(0,.map _)] _ bDm Z Z) Z (bO (.agg (.mk _)) M1 Z Z Z (fun b2 w2 M2=>(wq (aJ (.pointer _) Z) Z (aB (aC (aE (aE (aA (dJ Z Z (wq (bW underlying29 Z) Z (aT Z Z (aB (aC (aS (dK (σ:=Nat × eQ) [0,2,3,4,11,12] (fun (k,em)=>[(13,.int .i64 (k:Int))]) (fun (k,em) w'=>(k≤n∧lQ .u32 yN (boM (xs.take k)) (some b1) em)∧Mem w [] [em,(some b2,bc [.map (some b1),.slice none 0 0] 219)] w') (fun (k,em)=>n - k) (0,(some b1,.map #[] 0)) (bI Z eC) (⟨⟨by omega,(lQ.empty _ _ b1).congr (fun q=>by rw [List.take_zero];exact bLk q)⟩,M2⟩) ?_)))))))))))))))))))))))))
 rintro ⟨k,em⟩ ρ3 w3 ⟨⟨hk,hme⟩,hM3⟩
 refine aE (aA (cV Z Z Z Z (aB (aC (aE ?_)))))
 refine aW Z (fun h14 => ?_) (fun h14 => ?_)
 ·obtain ⟨xb,hxb⟩:=cG (k:=k) hlen (by omega)
  refine aM (aC (aE (aS (aE (aA (wq (bG (k) dU Z Z Z ((R.mem hM3).below_len (aG aF hxb)) ((R.mem hM3).someK (aG aF hxb))) Z (wq (dQ _ bR (R.mem hM3) (aG aF hxb) Z) Z (aO gL hM3 Z Z (fun b4 w4 M4=>(bC 2 _ bR M4 Z Z Z Z Z (aP Z) Z (fun w5 M5=>(aB (aC (gJ [(0,0),(1,0),(2,0),(3,1),(4,0),(5,1),(6,1),(7,2)] mixed M5 Z (by kernel_rfl) (fun w6 M6=>(aX Z Z Z (fun _=>aH (.pointer _) Z) (aX Z Z Z (fun _=>bN Z) (aX Z Z Z (fun _=>aD 0 aHi Z) ?_))))))))))))))))))
  refine bQ Z Z Z (aK 1 (.map _) aIh M6 Z Z Z) (aX Z Z Z (fun _=>aD 0 dZ Z) (bQ Z Z Z (aK 2 (.int _ _) bZ M6 Z Z Z) (bQ Z Z Z (aV 2 bR M6 Z Z Z) (dO [true,true,true] Z (by kernel_rfl) (mF (enc:=yN) 0 aHw M6 Z Z hme Z Z Z Z (fun e7 w7 hm7 M7 => ?_))))))
  refine aB (aC ⟨dI, ?_⟩)
  refine bS (cS (aC (aA (wq (bE Z Z (by omega) (by omega)) Z (aT Z Z (aB ?_))))))
  refine bU (k+1,e7) (bI Z eC) (bX Z (bX Z (bX Z (bX Z (bX Z (bX Z gR)))))) ?_ ?_
  ·exact ⟨⟨by omega,hm7.congr (fun q=>bEr hxb q)⟩,M7.keep [true,true,false]⟩
  ·(show n - (k+1) < n - k;omega)
 ·have hkn:k=n:=by omega
  rw [List.take_of_length_le (by omega)] at hme
  refine cM (cZ (dF (eL (aC (aE (aA (dJ Z Z (eJ bSk Z Z (aWd _ (F.mem hM3) (N.mem hM3) _ _ _ xs (R.mem hM3) hb hs (by first | decide | omega)) ?_))))))))
  rintro v8 w8 ⟨r0,m0,rfl,hfm0,hgm0,hr0,hM8⟩
  have M8:Mem _ _ [_,_,_] _:=hM3.call0 hM8
  refine wq (aH (.tuple (List.toArray _)) Z) Z (wq (bJ (.slice _ _ _) Z Z) Z (wq (bJ (.int _ _) Z Z) Z (eI Z Z (bL Z Z (aB (aC (aE (aA (dJ Z Z (wq (aH (.pointer _) Z) Z (wq (eB [.pointer _] [] Z Z) Z ?_)))))))))))
  have M9:Mem _ _ [_,_,_,_] _:=Mem.orderC (M8.dummy default)
  have hfl:(qH xs).length=r0.n:=by simpa using hr0.1
  have hnn:xs.length*(xs.length - 1)≤4096*4096:=Nat.mul_le_mul (by omega) (by omega)
  refine eJ bSl rfl rfl (aJy _ r0.A r0.n r0.c (qH xs) (hr0.rd M9 (aN (i:=0) rfl)) b2 b1 (boM xs) em hme eN (bA.nil _ _ _) (fun z hz=>by obtain ⟨a,b,h1,h2,_,_,h3,h4⟩:=aEl hs hz;exact ⟨a,b,h3,h4,hb a h1,hb b h2⟩) (by omega) (M9.ownSeg 1 3) (hr0.apartTail M9)) ?_
  rintro v10 w10 ⟨rfl,q,hq,hM10⟩
  have M10:Mem _ _ [_,_,_,_] _:=M9.seg 1 3 hM10
  refine aB (aC (aE (aA (wq (aH (.pointer _) Z) Z (wq (bN Z) Z (wq (aD 1 vY Z) Z (wq (aK 1 (.slice _ _ _) rG M10 Z Z Z) Z (aT Z Z (eI Z Z (bL Z Z (aB (aC (aR (gE (.slice _ _ _) (.int _ _) Z Z ?_))))))))))))))
  exact ⟨q,m0,Z,hfm0,hgm0,hq,M10.keep [false,false,false,true]⟩
theorem bCs (w:World) (A:Option Addr) (n c:Nat) (xs:List Body) (R:Rd w 10 A n (xs.map aF)) (hb:∀ b∈xs,Okb b) (hs:dD xs) (hn:n≤65536) :
  Calls prog 128 #[.slice A n c] w (gY (fun v w'=>∃ r:Row,v=.slice r.A r.n r.c∧bA 211 5 r.A r.n r.c ((mM xs).map cQ) r.e∧Mem w [] [r.e] w')):=by
 have hlen:xs.length=n:=by simpa using R.len
 have hbd:=R.bound
 refine aI #[.tmp 2] 40 func128 Z results128 ntmps128 Z ?_
 have M0:=Mem.refl w
 refine aE (aA (eI Z Z (aB (aC (aE (aA (eI Z Z ?_)))))))
 have M1:=M0.dummy default
 refine aB (aC (aE (aE (aA (bL Z Z (aB (aC (aS (dK (σ:=Nat × Row) [0,2] (fun (i,r)=>[(3,.slice r.A r.n r.c),(4,.int .i64 (i:Int))]) (fun (i,r) w'=>(i≤n∧bA 211 5 r.A r.n r.c ((aUa xs i).map cQ) r.e)∧Mem w [] [r.e] w') (fun (i,r)=>n - i) (0,eN) (bI Z (bI Z eC)) (⟨⟨by omega,bA.nil _ _ _⟩,M1⟩) ?_)))))))))
 rintro ⟨i,r⟩ ρ2 w2 ⟨⟨hi,hr⟩,hM2⟩
 refine aE (aE (aA (aT Z Z (dJ Z Z (wq (bW underlying29 Z) Z (cV Z Z Z Z (aB (aC ?_))))))))
 refine aW Z (fun h11 => ?_) (fun h11 => ?_)
 ·obtain ⟨xa,hxa⟩:=cG (k:=i) hlen (by omega)
  refine aM (aC (aE (aS (aE (aA (aT Z Z (wq (bE Z Z (by omega) (by omega)) Z (bL Z Z (aB (aC (aS (dK (σ:=Nat × Row) [0,2,4] (fun (k,q)=>[(3,.slice q.A q.n q.c),(5,.int .i64 (k:Int))]) (fun (k,q) w'=>(i+1≤k∧k≤n∧bA 211 5 q.A q.n q.c ((aUa xs i++aKo xs i k).map cQ) q.e)∧Mem w [] [q.e] w') (fun (k,q)=>n - k) (i+1,r) (bI Z (bI Z eC)) (⟨⟨by omega,by omega,by rw [aWs,List.append_nil];exact hr⟩,hM2⟩) ?_))))))))))))
  rintro ⟨k,q⟩ ρ3 w3 ⟨⟨hik,hk,hq⟩,hM3⟩
  have hfl:=bEk xs i
  have hfm:i*xs.length≤65536*65536:=Nat.mul_le_mul (by omega) (by omega)
  have hrw:=bJp xs i k
  have hql:(aUa xs i++aKo xs i k).length=q.n:=by simpa using hq.1
  rw [List.length_append] at hql
  refine aE (aE (aA (aT Z Z (dJ Z Z (wq (bW underlying29 Z) Z (cV Z Z Z Z (aB (aC ?_))))))))
  refine aW Z (fun h19 => ?_) (fun h19 => ?_)
  ·obtain ⟨xb,hxb⟩:=cG (k:=k) hlen (by omega)
   refine aM (aC (aE (aS (aE (aGd [(0,0),(1,0),(2,1),(3,1),(4,0),(5,0),(6,1),(7,1)] 8 12 [(9,0),(10,0),(11,0),(12,2),(13,2),(14,0)] [(8,2),(9,0),(10,0),(11,0),(13,2),(14,0)] mixed Z (by kernel_rfl) (fun w4 hb4 hh4 => ?_))))))
   have M4:=hM3.drew hb4 hh4
   refine rP Z Z Z (fun _=>aH (.slice _ _ _) Z) (rP Z Z Z (fun _=>aH (.int _ _) Z) (yF Z Z Z (bG (i) dU Z Z Z ((R.mem M4).below_len (aG aF hxa)) ((R.mem M4).someK (aG aF hxa))) (yF Z Z Z (dQ _ bR (R.mem M4) (aG aF hxa) Z) (rP Z Z Z (fun _=>aH (.slice _ _ _) Z) (rP Z Z Z (fun _=>aH (.int _ _) Z) (yF Z Z Z (bG (k) dU Z Z Z ((R.mem M4).below_len (aG aF hxb)) ((R.mem M4).someK (aG aF hxb))) (yF Z Z Z (dQ _ bR (R.mem M4) (aG aF hxb) Z) ?_)))))))
   refine zZ ?_ ?_
   ·refine dO [true,true,true,true] Z (by kernel_rfl) (dM aUm Z Z M4 (aSu _ xa xb (hb xa (List.mem_of_getElem? hxa)) (hb xb (List.mem_of_getElem? hxb))) (fun w5 M5 => ?_))
    refine aB (aC ⟨dI, ?_⟩)
    refine aX Z Z Z (fun _=>aH (.tuple (List.toArray _)) Z) (aX Z Z Z (fun _=>bJ (.agg (.mk _)) Z Z) (aX Z Z Z (fun _=>bJ (.bool _) Z Z) (dO [] Z (by kernel_rfl) (aO oK M5 Z Z (fun b6 w6 M6 => ?_)))))
    refine aB (aC ⟨dI, ?_⟩)
    refine dO [] Z (by kernel_rfl) (bC 1 _ fL M6 Z Z Z Z Z (aP Z) Z (fun w7 M7 => ?_))
    refine aB (aC ⟨dI, ?_⟩)
    refine aX Z Z Z (fun _=>aJ (.bool _) Z) (bS (aC (aE (aA (wq (aH (.bool _) Z) Z (aB (aC ?_)))))))
    refine iN _ Z (fun h34 => ?_) (fun h34 => ?_)
    ·obtain ⟨cc,hcc⟩:=Option.isSome_iff_exists.1 h34
     refine aA (dJ rfl rfl (wq (aV 1 fL M7 rfl rfl rfl) rfl (aL 36 (.agg (cQ cc).toArray) (congrArg (fun o=>Value.agg (aQu o).toArray) hcc) (bV [.agg (List.toArray _)] [cQ cc] rfl vD M7 rfl rfl rfl rfl (cO rfl) (by decide) (fun b8 w8 M8=>(cP 0 [cQ cc] vD M8 rfl rfl rfl rfl rfl hq rfl (by simp [cQ,Go.Bil.one]) (dN.ofMem 2 M8 rfl) (by omega) (fun A9 c9 e9 w9 M9 hR9=>(eI rfl rfl (aB (cS (aC (aA (aT rfl rfl (wq (bE rfl rfl (by omega) (by omega)) rfl (bL rfl rfl (aB ?_))))))))))))))))
     refine bU (k+1,⟨A9,q.n+1,c9,e9⟩) (bI Z (bI Z eC)) (bX Z (bX Z (bX Z gR))) ?_ ?_
     ·exact ⟨⟨by omega,by omega,by rw [xS hs hb hxa hxb (by omega),hcc,← List.append_assoc,List.map_append];exact hR9⟩,M9.keep [true,false,false]⟩
     ·(show n - (k+1) < n - k;omega)
    ·have hcc:mH xa xb=none:=by simpa using h34
     refine aM (cS (aC (aA (aT Z Z (wq (bE Z Z (by omega) (by omega)) Z (bL Z Z (aB ?_)))))))
     refine bU (k+1,q) (bI Z (bI Z eC)) (bX Z (bX Z (bX Z gR))) ?_ ?_
     ·exact ⟨⟨by omega,by omega,by rw [xS hs hb hxa hxb (by omega),hcc,← List.append_assoc];simpa using hq⟩,M7.keep [true,false]⟩
     ·(show n - (k+1) < n - k;omega)
   ·refine dO [false,false,false,false] Z (by kernel_rfl) (aO oK M4 Z Z (fun b10 w10 M10 => ?_))
    refine aB (aC ⟨(dS (bH Z (dQ _ bR (R.mem M10) (aG aF hxb) Z)) (dS (bH Z (bG (k) dU Z Z Z ((R.mem M10).below_len (aG aF hxb)) ((R.mem M10).someK (aG aF hxb)))) (dS (bH Z (dQ _ bR (R.mem M10) (aG aF hxa) Z)) (dS (bH Z (bG (i) dU Z Z Z ((R.mem M10).below_len (aG aF hxa)) ((R.mem M10).someK (aG aF hxa)))) dI)))), ?_⟩)
    refine dO [true,true,true,true] Z (by kernel_rfl) (dM aUm Z Z M10 (aSu _ xa xb (hb xa (List.mem_of_getElem? hxa)) (hb xb (List.mem_of_getElem? hxb))) (fun w11 M11 => ?_))
    refine aB (aC ⟨dI, ?_⟩)
    refine aX Z Z Z (fun _=>aH (.tuple (List.toArray _)) Z) (aX Z Z Z (fun _=>bJ (.agg (.mk _)) Z Z) (aX Z Z Z (fun _=>bJ (.bool _) Z Z) (dO [] Z (by kernel_rfl) (bC 1 _ fL M11 Z Z Z Z Z (aP Z) Z (fun w12 M12 => ?_)))))
    refine aB (aC ⟨dI, ?_⟩)
    refine aX Z Z Z (fun _=>aJ (.bool _) Z) (bS (aC (aE (aA (wq (aH (.bool _) Z) Z (aB (aC ?_)))))))
    refine iN _ Z (fun h34 => ?_) (fun h34 => ?_)
    ·obtain ⟨cc,hcc⟩:=Option.isSome_iff_exists.1 h34
     refine aA (dJ rfl rfl (wq (aV 1 fL M12 rfl rfl rfl) rfl (aL 36 (.agg (cQ cc).toArray) (congrArg (fun o=>Value.agg (aQu o).toArray) hcc) (bV [.agg (List.toArray _)] [cQ cc] rfl vD M12 rfl rfl rfl rfl (cO rfl) (by decide) (fun b13 w13 M13=>(cP 0 [cQ cc] vD M13 rfl rfl rfl rfl rfl hq rfl (by simp [cQ,Go.Bil.one]) (dN.ofMem 2 M13 rfl) (by omega) (fun A14 c14 e14 w14 M14 hR14=>(eI rfl rfl (aB (cS (aC (aA (aT rfl rfl (wq (bE rfl rfl (by omega) (by omega)) rfl (bL rfl rfl (aB ?_))))))))))))))))
     refine bU (k+1,⟨A14,q.n+1,c14,e14⟩) (bI Z (bI Z eC)) (bX Z (bX Z (bX Z gR))) ?_ ?_
     ·exact ⟨⟨by omega,by omega,by rw [xS hs hb hxa hxb (by omega),hcc,← List.append_assoc,List.map_append];exact hR14⟩,M14.keep [true,false,false]⟩
     ·(show n - (k+1) < n - k;omega)
    ·have hcc:mH xa xb=none:=by simpa using h34
     refine aM (cS (aC (aA (aT Z Z (wq (bE Z Z (by omega) (by omega)) Z (bL Z Z (aB ?_)))))))
     refine bU (k+1,q) (bI Z (bI Z eC)) (bX Z (bX Z (bX Z gR))) ?_ ?_
     ·exact ⟨⟨by omega,by omega,by rw [xS hs hb hxa hxb (by omega),hcc,← List.append_assoc];simpa using hq⟩,M12.keep [true,false]⟩
     ·(show n - (k+1) < n - k;omega)
  ·have hkn:k=n:=by omega
   refine cM (cZ (dF (eL (cS (aC (aA (aT Z Z (wq (bE Z Z (by omega) (by omega)) Z (bL Z Z (aB ?_))))))))))
   refine bU (i+1,q) (bI Z (bI Z eC)) (bX Z (bX Z gR)) ?_ ?_
   ·exact ⟨⟨by omega,by rw [bAl,hlen,← hkn];exact hq⟩,hM3⟩
   ·(show n - (i+1) < n - i;omega)
 ·have hin:i=n:=by omega
  refine cM (cZ (dF (eL (aC (aE (aA (dJ Z Z (eI Z Z (aB (aC (aR (cF (.slice _ _ _) Z ?_))))))))))))
  exact ⟨r,Z,by unfold mM qH;rw [hlen,← hin];exact hr,hM2⟩
end Go.Proofs.YtaoaknafiegfoaaGreatDoor
