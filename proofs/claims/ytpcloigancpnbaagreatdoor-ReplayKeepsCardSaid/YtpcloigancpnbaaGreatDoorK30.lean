/- Part of the proof of a law of this seat (3 texts). No conditions. -/
import Derived.Test.YtpcloigancpnbaaGreatDoorK26
import Derived.Test.YtpcloigancpnbaaGreatDoorK29
set_option linter.unusedVariables false
set_option linter.unusedSimpArgs false
set_option linter.unnecessarySimpa false
set_option maxHeartbeats 100000000
namespace Go.Proofs.YtpcloigancpnbaaGreatDoor
open Go.Bil
open Go.RowKit (Below)
open Go.Proofs
open Go.Proofs.Tryz
theorem aYn (w:World) (bl pm:Nat) (f:Int→Option Body) (em:eL) (hme:kT .u32 wW f (some pm) em) (r:Row) (cs:List Con) (hr:aZ 175 5 r.A r.n r.c ((cs).map cL) r.e) (hn:r.n≤1099511627776) (z:Int × Int) (a b:Body) (h1:f z.1=some a) (h2:f z.2=some b) (ha:Okb a) (hb:Okb b) (hO:Own [(some bl,bc [.map (some pm),.slice r.A r.n r.c] 219),em,r.e] w) :
  Calls prog 147 #[.pointer (some ⟨bl,0,none⟩),(.agg (cQ z).toArray)] w (gH (fun v w'=>v=.tuple #[]∧∃ q:Row,aZ 175 5 q.A q.n q.c ((cs++(aEv f z).toList).map cL) q.e∧Mem w (bY [(some bl,bc [.map (some pm),.slice r.A r.n r.c] 219),em,r.e]) [(some bl,bc [.map (some pm),.slice q.A q.n q.c] 219),em,q.e] w')):=by
 refine aI #[] 35 func147 Z results147 ntmps147 Z ?_
 have M0:=hO.mem
 refine aE (aA (bN (.agg (.mk _)) M0 Z Z Z (fun b1 w1 M1=>(aB (aC (aE (aLk [(0,0),(1,0),(2,0),(3,1),(4,0),(5,1),(6,1),(7,0),(8,0),(9,0),(10,1),(11,0),(12,1),(13,1)] 14 18 [(15,0),(16,0),(17,0),(18,2),(19,2),(20,0)] [(14,2),(15,0),(16,0),(17,0),(19,2),(20,0)] mixed Z (by kernel_rfl) (fun w2 hb2 hh2 => ?_))))))))
 have M2:=M1.drew hb2 hh2
 refine sI Z Z Z (fun _=>aH (.pointer _) Z) (sI Z Z Z (fun _=>bL Z) (sI Z Z Z (fun _=>aD 0 aFj Z) (aAi Z Z Z (aK 0 (.map _) aGn M2 Z Z Z) (sI Z Z Z (fun _=>aD 0 gU Z) (aAi Z Z Z (aK 3 (.int _ _) bV M2 Z Z Z) (aAi Z Z Z (mR (enc:=wW) aUy 1 aGb bMe M2 Z hme Z Z) (bMf 13 ((.agg (aF a).toArray)) (congrArg wW (by rw [h1];rfl)) (sI Z Z Z (fun _=>aH (.pointer _) Z) (sI Z Z Z (fun _=>bL Z) (sI Z Z Z (fun _=>aD 0 aFj Z) ?_))))))))))
 refine aAi Z Z Z (aK 0 (.map _) aGn M2 Z Z Z) (sI Z Z Z (fun _=>aD 1 kJ Z) (aAi Z Z Z (aK 3 (.int _ _) bV M2 Z Z Z) (aAi Z Z Z (mR (enc:=wW) aUy 1 aGb bMe M2 Z hme Z Z) (bMf 20 ((.agg (aF b).toArray)) (congrArg wW (by rw [h2];rfl)) ?_))))
 refine aDp ?_ ?_
 ·refine dI [true,true,true,true,true,true] Z (by kernel_rfl) (dN bCm Z Z M2 (aEw _ a b ha hb) (fun w3 M3 => ?_))
  refine aB (aC ⟨dJ, ?_⟩)
  refine aV Z Z Z (fun _=>aH (.tuple (List.toArray _)) Z) (aV Z Z Z (fun _=>bM (.agg (.mk _)) Z Z) (aV Z Z Z (fun _=>bM (.bool _) Z Z) (dI [] Z (by kernel_rfl) (aR nH M3 Z Z (fun b4 w4 M4 => ?_)))))
  refine aB (aC ⟨dJ, ?_⟩)
  refine dI [] Z (by kernel_rfl) (bG 4 _ fA M4 Z Z Z Z Z (aS Z) Z (fun w5 M5 => ?_))
  refine aB (aC ⟨dJ, ?_⟩)
  refine aV Z Z Z (fun _=>aJ (.bool _) Z) (bS (aC (aE (aA (wq (aH (.bool _) Z) Z (aB (aC ?_)))))))
  refine iL _ Z (fun h24 => ?_) (fun h24 => ?_)
  ·obtain ⟨cc,hcc⟩:=Option.isSome_iff_exists.1 h24
   refine fW [(0,0),(1,0),(2,0),(3,0),(4,1),(5,1),(6,2),(7,2),(8,0),(9,0),(10,2)] mixed M5 Z (by kernel_rfl) (fun w6 M6=>(aV Z Z Z (fun _=>aH (.pointer _) Z) (aV Z Z Z (fun _=>aH (.pointer _) Z) (aV Z Z Z (fun _=>bL Z) (aV Z Z Z (fun _=>aD 1 uD Z) (bP Z Z Z (aK 0 (.slice _ _ _) qG M6 Z Z Z) (bP Z Z Z (aX 4 fA M6 Z Z Z) (dV 30 (.agg (cL cc).toArray) (congrArg (fun o=>Value.agg (aOt o).toArray) hcc) (dI [true,false] Z (by kernel_rfl) (cC [.agg (List.toArray _)] [cL cc] Z tJ M6 Z Z Z Z (cU Z) (by decide) (fun b7 w7 M7 => ?_)))))))))))
   refine aB (aC ⟨(dS (bI Z (aK 0 (.slice _ _ _) qG M7 Z Z Z)) dJ), ?_⟩)
   refine dI [true] rfl (by kernel_rfl) (cW 2 [cL cc] tJ M7 rfl rfl rfl rfl rfl hr rfl (by simp [cL,Go.Bil.one]) (dL.ofMem 5 M7 rfl) (by omega) (fun A8 c8 e8 w8 M8 hR8 => ?_))
   refine aB (aC ⟨dJ, ?_⟩)
   refine aV Z Z Z (fun _=>bL Z) (aV Z Z Z (fun _=>aD 1 uD Z) (dI [] Z (by kernel_rfl) (dA 0 (.slice _ _ _) qG M8 Z Z Z Z Z Z (fun w9 M9 => ?_))))
   refine aB (aC ⟨dJ, ?_⟩)
   refine bS (kI ?_)
   exact ⟨Z,⟨A8,r.n+1,c8,e8⟩,by rw [vI h1 h2,hcc,List.map_append];exact hR8,M9.keep [true,true,true,false,false,false]⟩
  ·have hcc:lN a b=none:=by simpa using h24
   refine aM (kI ?_)
   exact ⟨rfl,r,by rw [vI h1 h2,hcc];simpa using hr,M5.keep [true,true,true,false,false]⟩
 ·refine dI [false,false,false,false,false,false] Z (by kernel_rfl) (aR nH M2 Z Z (fun b10 w10 M10 => ?_))
  refine aB (aC ⟨(dS (bI Z (mR (enc:=wW) aUy 1 aGb bMe M10 Z hme Z Z)) (dS (bI Z (aK 3 (.int _ _) bV M10 Z Z Z)) (dS (bI Z (aK 0 (.map _) aGn M10 Z Z Z)) (dS (bI Z (mR (enc:=wW) aUy 1 aGb bMe M10 Z hme Z Z)) (dS (bI Z (aK 3 (.int _ _) bV M10 Z Z Z)) (dS (bI Z (aK 0 (.map _) aGn M10 Z Z Z)) dJ)))))), ?_⟩)
  refine dI [true,true,true,true,true,true] Z (by kernel_rfl) (dN bCm Z Z M10 (aEw _ a b ha hb) (fun w11 M11 => ?_))
  refine aB (aC ⟨dJ, ?_⟩)
  refine aV Z Z Z (fun _=>aH (.tuple (List.toArray _)) Z) (aV Z Z Z (fun _=>bM (.agg (.mk _)) Z Z) (aV Z Z Z (fun _=>bM (.bool _) Z Z) (dI [] Z (by kernel_rfl) (bG 4 _ fA M11 Z Z Z Z Z (aS Z) Z (fun w12 M12 => ?_)))))
  refine aB (aC ⟨dJ, ?_⟩)
  refine aV Z Z Z (fun _=>aJ (.bool _) Z) (bS (aC (aE (aA (wq (aH (.bool _) Z) Z (aB (aC ?_)))))))
  refine iL _ Z (fun h24 => ?_) (fun h24 => ?_)
  ·obtain ⟨cc,hcc⟩:=Option.isSome_iff_exists.1 h24
   refine fW [(0,0),(1,0),(2,0),(3,0),(4,1),(5,1),(6,2),(7,2),(8,0),(9,0),(10,2)] mixed M12 Z (by kernel_rfl) (fun w13 M13=>(aV Z Z Z (fun _=>aH (.pointer _) Z) (aV Z Z Z (fun _=>aH (.pointer _) Z) (aV Z Z Z (fun _=>bL Z) (aV Z Z Z (fun _=>aD 1 uD Z) (bP Z Z Z (aK 0 (.slice _ _ _) qG M13 Z Z Z) (bP Z Z Z (aX 4 fA M13 Z Z Z) (dV 30 (.agg (cL cc).toArray) (congrArg (fun o=>Value.agg (aOt o).toArray) hcc) (dI [true,false] Z (by kernel_rfl) (cC [.agg (List.toArray _)] [cL cc] Z tJ M13 Z Z Z Z (cU Z) (by decide) (fun b14 w14 M14 => ?_)))))))))))
   refine aB (aC ⟨(dS (bI Z (aK 0 (.slice _ _ _) qG M14 Z Z Z)) dJ), ?_⟩)
   refine dI [true] rfl (by kernel_rfl) (cW 2 [cL cc] tJ M14 rfl rfl rfl rfl rfl hr rfl (by simp [cL,Go.Bil.one]) (dL.ofMem 5 M14 rfl) (by omega) (fun A15 c15 e15 w15 M15 hR15 => ?_))
   refine aB (aC ⟨dJ, ?_⟩)
   refine aV Z Z Z (fun _=>bL Z) (aV Z Z Z (fun _=>aD 1 uD Z) (dI [] Z (by kernel_rfl) (dA 0 (.slice _ _ _) qG M15 Z Z Z Z Z Z (fun w16 M16 => ?_))))
   refine aB (aC ⟨dJ, ?_⟩)
   refine bS (kI ?_)
   exact ⟨Z,⟨A15,r.n+1,c15,e15⟩,by rw [vI h1 h2,hcc,List.map_append];exact hR15,M16.keep [true,true,true,false,false,false]⟩
  ·have hcc:lN a b=none:=by simpa using h24
   refine aM (kI ?_)
   exact ⟨rfl,r,by rw [vI h1 h2,hcc];simpa using hr,M12.keep [true,true,true,false,false]⟩
theorem aIm (w:World) (A:Option Addr) (n c:Nat) (zs:List (Int × Int)) (R:Rd w 2 A n (zs.map cQ)) (bl pm:Nat) (f:Int→Option Body) (em:eL) (hme:kT .u32 wW f (some pm) em) (r:Row) (hr:aZ 175 5 r.A r.n r.c (([]).map cL) r.e) (hz:∀ z∈zs,∃ a b,f z.1=some a∧f z.2=some b∧Okb a∧Okb b) (hn:n≤1099511627776) (hO:Own [(some bl,bc [.map (some pm),.slice r.A r.n r.c] 219),em,r.e] w) (hdA:0 < n→∀ q off,A=some ⟨q,off,none⟩→q∉bY [(some bl,bc [.map (some pm),.slice r.A r.n r.c] 219),em,r.e]) :
  Calls prog 146 #[.slice A n c,.func (.func 147) #[.pointer (some ⟨bl,0,none⟩)] #[]] w (gH (fun v w'=>v=.tuple #[]∧∃ q:Row,aZ 175 5 q.A q.n q.c ((zs.filterMap (aEv f)).map cL) q.e∧Mem w (bY [(some bl,bc [.map (some pm),.slice r.A r.n r.c] 219),em,r.e]) [(some bl,bc [.map (some pm),.slice q.A q.n q.c] 219),em,q.e] w')):=by
 have hlen:zs.length=n:=by simpa using R.len
 refine aI #[] 16 func146 Z results146 ntmps146 Z ?_
 have M0:=hO.mem
 refine aE (aA (dK Z Z (wq (cK underlying220 Z) Z (aQ Z Z (aB (aC (aP (dG (σ:=Nat × Row) [1,6,7] (fun (k,q)=>[(8,.int .i64 (k:Int))]) (fun (k,q) w'=>(k≤n∧aZ 175 5 q.A q.n q.c (((zs.take k).filterMap (aEv f)).map cL) q.e)∧Mem w (bY [(some bl,bc [.map (some pm),.slice r.A r.n r.c] 219),em,r.e]) [(some bl,bc [.map (some pm),.slice q.A q.n q.c] 219),em,q.e] w') (fun (k,q)=>n - k) (0,r) (bE Z dZ) (⟨⟨by omega,hr⟩,M0⟩) ?_))))))))
 rintro ⟨k,q⟩ ρ1 w1 ⟨⟨hk,hq⟩,hM1⟩
 have hfl:=List.length_filterMap_le (aEv f) (zs.take k)
 have htl:=List.length_take_le k zs
 have hql:((zs.take k).filterMap (aEv f)).length=q.n:=by simpa using hq.1
 refine aE (aA (cX Z Z Z Z (aB (aC (aE ?_)))))
 refine aU Z (fun h9 => ?_) (fun h9 => ?_)
 ·obtain ⟨xz,hxz⟩:=cF (k:=k) hlen (by omega)
  obtain ⟨za,zb,hza,hzb,hoa,hob⟩:=hz xz (List.mem_of_getElem? hxz)
  refine aM (aC (aE (aP (aE (aA (wq (bJ (k) aAa Z Z Z ((R.memY hM1 hdA).below_len (aG cQ hxz)) ((R.memY hM1 hdA).someK (aG cQ hxz))) Z (wq (dW _ jU (R.memY hM1 hdA) (aG cQ hxz) Z) Z (aR wK hM1 Z Z (fun b2 w2 M2=>(bG 3 _ jU M2 Z Z Z Z Z (aS Z) Z (fun w3 M3=>(aB (aC (aA (wq (aH (.func _ _ _) Z) Z (wq (aX 3 jU M3 Z Z Z) Z (eP bPf Z Z (aYn _ bl pm f em hme q _ hq (by omega) xz za zb hza hzb hoa hob (M3.ownSeg 0 3)) ?_)))))))))))))))))
  rintro v4 w4 ⟨rfl,q2,hq2,hM4⟩
  have M4:Mem _ _ [_,_,_,_] _:=M3.seg 0 3 hM4
  refine aB (cR (aC (aA (wq (bC Z Z (by omega) (by omega)) Z (aQ Z Z (aB ?_))))))
  refine bX (k+1,q2) (bE Z dZ) (bZ Z (bZ Z (bZ Z gK))) ?_ ?_
  ·exact ⟨⟨by omega,by rw [bJk hxz];exact hq2⟩,M4.keep [true,true,true,false]⟩
  ·(show n - (k+1) < n - k;omega)
 ·have hkn:k=n:=by omega
  rw [List.take_of_length_le (by omega)] at hq
  refine cN (dC (dE (eJ (kI ?_))))
  exact ⟨Z,q,hq,hM1⟩
theorem aMb (w:World) (F:Rd w 2 (some ⟨0,0,none⟩) 1 [[.int .u32 73856093,.int .u32 19349663]]) (N:Rd w 4 (some ⟨3,0,none⟩) 1 [eC iU]) (A:Option Addr) (n c:Nat) (xs:List Body) (R:Rd w 10 A n (xs.map aF)) (hb:∀ b∈xs,Okb b) (hs:cZ xs) (hn:n≤4096) :
  Calls prog 128 #[.slice A n c] w (gH (fun v w'=>∃ (r:Row) (m:Nat),v=.tuple #[.slice r.A r.n r.c,.int .i64 (m:Int)]∧(pF xs).length≤m∧2*m≤xs.length*(xs.length - 1)∧aZ 175 5 r.A r.n r.c ((lT xs).map cL) r.e∧Mem w [] [r.e] w')):=by
 have hlen:xs.length=n:=by simpa using R.len
 have hbd:=R.bound
 refine aI #[.tmp 2,.tmp 3] 39 func128 Z results128 ntmps128 Z ?_
 have M0:=Mem.refl w
 refine aE (aA (eH Z Z (bK Z Z (aB (aC (aE (aA (nS M0 Z Z (fun b1 w1 M1=>(wq (cB [(0,.map _)] _ bAw Z Z) Z (bN (.agg (.mk _)) M1 Z Z Z (fun b2 w2 M2=>(wq (aJ (.pointer _) Z) Z (aB (aC (aE (aE (aA (dK Z Z (wq (cK underlying46 Z) Z (aQ Z Z (aB (aC (aP (dG (σ:=Nat × eL) [0,2,3,4,11,12] (fun (k,em)=>[(13,.int .i64 (k:Int))]) (fun (k,em) w'=>(k≤n∧kT .u32 wW (boM (xs.take k)) (some b1) em)∧Mem w [] [em,(some b2,bc [.map (some b1),.slice none 0 0] 219)] w') (fun (k,em)=>n - k) (0,(some b1,.map #[] 0)) (bE Z dZ) (⟨⟨by omega,(kT.empty _ _ b1).congr (fun q=>by rw [List.take_zero];exact bIl q)⟩,M2⟩) ?_)))))))))))))))))))))))))
 rintro ⟨k,em⟩ ρ3 w3 ⟨⟨hk,hme⟩,hM3⟩
 refine aE (aA (cX Z Z Z Z (aB (aC (aE ?_)))))
 refine aU Z (fun h14 => ?_) (fun h14 => ?_)
 ·obtain ⟨xb,hxb⟩:=cF (k:=k) hlen (by omega)
  refine aM (aC (aE (aP (aE (aA (wq (bJ (k) dP Z Z Z ((R.mem hM3).below_len (aG aF hxb)) ((R.mem hM3).someK (aG aF hxb))) Z (wq (dW _ bQ (R.mem hM3) (aG aF hxb) Z) Z (aR fV hM3 Z Z (fun b4 w4 M4=>(bG 2 _ bQ M4 Z Z Z Z Z (aS Z) Z (fun w5 M5=>(aB (aC (fW [(0,0),(1,0),(2,0),(3,1),(4,0),(5,1),(6,1),(7,2)] mixed M5 Z (by kernel_rfl) (fun w6 M6=>(aV Z Z Z (fun _=>aH (.pointer _) Z) (aV Z Z Z (fun _=>bL Z) (aV Z Z Z (fun _=>aD 0 aFj Z) ?_))))))))))))))))))
  refine bP Z Z Z (aK 1 (.map _) aGn M6 Z Z Z) (aV Z Z Z (fun _=>aD 0 dT Z) (bP Z Z Z (aK 2 (.int _ _) bV M6 Z Z Z) (bP Z Z Z (aX 2 bQ M6 Z Z Z) (dI [true,true,true] Z (by kernel_rfl) (lK (enc:=wW) 0 aGb M6 Z Z hme Z Z Z Z (fun e7 w7 hm7 M7 => ?_))))))
  refine aB (aC ⟨dJ, ?_⟩)
  refine bS (cR (aC (aA (wq (bC Z Z (by omega) (by omega)) Z (aQ Z Z (aB ?_))))))
  refine bX (k+1,e7) (bE Z dZ) (bZ Z (bZ Z (bZ Z (bZ Z (bZ Z (bZ Z gK)))))) ?_ ?_
  ·exact ⟨⟨by omega,hm7.congr (fun q=>bBy hxb q)⟩,M7.keep [true,true,false]⟩
  ·(show n - (k+1) < n - k;omega)
 ·have hkn:k=n:=by omega
  rw [List.take_of_length_le (by omega)] at hme
  refine cN (dC (dE (eJ (aC (aE (aA (dK Z Z (eP bPd Z Z (aTl _ (F.mem hM3) (N.mem hM3) _ _ _ xs (R.mem hM3) hb hs (by first | decide | omega)) ?_))))))))
  rintro v8 w8 ⟨r0,m0,rfl,hfm0,hgm0,hr0,hM8⟩
  have M8:Mem _ _ [_,_,_] _:=hM3.call0 hM8
  refine wq (aH (.tuple (List.toArray _)) Z) Z (wq (bM (.slice _ _ _) Z Z) Z (wq (bM (.int _ _) Z Z) Z (eH Z Z (bK Z Z (aB (aC (aE (aA (dK Z Z (wq (aH (.pointer _) Z) Z (wq (dU [.pointer _] [] Z Z) Z ?_)))))))))))
  have M9:Mem _ _ [_,_,_,_] _:=Mem.orderC (M8.dummy default)
  have hfl:(pF xs).length=r0.n:=by simpa using hr0.1
  have hnn:xs.length*(xs.length - 1)≤4096*4096:=Nat.mul_le_mul (by omega) (by omega)
  refine eP bPe rfl rfl (aIm _ r0.A r0.n r0.c (pF xs) (hr0.rd M9 (bA (i:=0) rfl)) b2 b1 (boM xs) em hme fH (aZ.nil _ _ _) (fun z hz=>by obtain ⟨a,b,h1,h2,_,_,h3,h4⟩:=aCp hs hz;exact ⟨a,b,h3,h4,hb a h1,hb b h2⟩) (by omega) (M9.ownSeg 1 3) (hr0.apartTail M9)) ?_
  rintro v10 w10 ⟨rfl,q,hq,hM10⟩
  have M10:Mem _ _ [_,_,_,_] _:=M9.seg 1 3 hM10
  refine aB (aC (aE (aA (wq (aH (.pointer _) Z) Z (wq (bL Z) Z (wq (aD 1 uD Z) Z (wq (aK 1 (.slice _ _ _) qG M10 Z Z Z) Z (aQ Z Z (eH Z Z (bK Z Z (aB (aC (aO (fX (.slice _ _ _) (.int _ _) Z Z ?_))))))))))))))
  exact ⟨q,m0,Z,hfm0,hgm0,hq,M10.keep [false,false,false,true]⟩
theorem bAd (w:World) (A:Option Addr) (n c:Nat) (xs:List Body) (R:Rd w 10 A n (xs.map aF)) (hb:∀ b∈xs,Okb b) (hs:cZ xs) (hn:n≤65536) :
  Calls prog 85 #[.slice A n c] w (gH (fun v w'=>∃ r:Row,v=.slice r.A r.n r.c∧aZ 175 5 r.A r.n r.c ((lT xs).map cL) r.e∧Mem w [] [r.e] w')):=by
 have hlen:xs.length=n:=by simpa using R.len
 have hbd:=R.bound
 refine aI #[.tmp 2] 40 func85 Z results85 ntmps85 Z ?_
 have M0:=Mem.refl w
 refine aE (aA (eH Z Z (aB (aC (aE (aA (eH Z Z ?_)))))))
 have M1:=M0.dummy default
 refine aB (aC (aE (aE (aA (bK Z Z (aB (aC (aP (dG (σ:=Nat × Row) [0,2] (fun (i,r)=>[(3,.slice r.A r.n r.c),(4,.int .i64 (i:Int))]) (fun (i,r) w'=>(i≤n∧aZ 175 5 r.A r.n r.c ((aRo xs i).map cL) r.e)∧Mem w [] [r.e] w') (fun (i,r)=>n - i) (0,fH) (bE Z (bE Z dZ)) (⟨⟨by omega,aZ.nil _ _ _⟩,M1⟩) ?_)))))))))
 rintro ⟨i,r⟩ ρ2 w2 ⟨⟨hi,hr⟩,hM2⟩
 refine aE (aE (aA (aQ Z Z (dK Z Z (wq (cK underlying46 Z) Z (cX Z Z Z Z (aB (aC ?_))))))))
 refine aU Z (fun h11 => ?_) (fun h11 => ?_)
 ·obtain ⟨xa,hxa⟩:=cF (k:=i) hlen (by omega)
  refine aM (aC (aE (aP (aE (aA (aQ Z Z (wq (bC Z Z (by omega) (by omega)) Z (bK Z Z (aB (aC (aP (dG (σ:=Nat × Row) [0,2,4] (fun (k,q)=>[(3,.slice q.A q.n q.c),(5,.int .i64 (k:Int))]) (fun (k,q) w'=>(i+1≤k∧k≤n∧aZ 175 5 q.A q.n q.c ((aRo xs i++aJc xs i k).map cL) q.e)∧Mem w [] [q.e] w') (fun (k,q)=>n - k) (i+1,r) (bE Z (bE Z dZ)) (⟨⟨by omega,by omega,by rw [aUa,List.append_nil];exact hr⟩,hM2⟩) ?_))))))))))))
  rintro ⟨k,q⟩ ρ3 w3 ⟨⟨hik,hk,hq⟩,hM3⟩
  have hfl:=bBs xs i
  have hfm:i*xs.length≤65536*65536:=Nat.mul_le_mul (by omega) (by omega)
  have hrw:=bGo xs i k
  have hql:(aRo xs i++aJc xs i k).length=q.n:=by simpa using hq.1
  rw [List.length_append] at hql
  refine aE (aE (aA (aQ Z Z (dK Z Z (wq (cK underlying46 Z) Z (cX Z Z Z Z (aB (aC ?_))))))))
  refine aU Z (fun h19 => ?_) (fun h19 => ?_)
  ·obtain ⟨xb,hxb⟩:=cF (k:=k) hlen (by omega)
   refine aM (aC (aE (aP (aE (aLk [(0,0),(1,0),(2,1),(3,1),(4,0),(5,0),(6,1),(7,1)] 8 12 [(9,0),(10,0),(11,0),(12,2),(13,2),(14,0)] [(8,2),(9,0),(10,0),(11,0),(13,2),(14,0)] mixed Z (by kernel_rfl) (fun w4 hb4 hh4 => ?_))))))
   have M4:=hM3.drew hb4 hh4
   refine sI Z Z Z (fun _=>aH (.slice _ _ _) Z) (sI Z Z Z (fun _=>aH (.int _ _) Z) (aAi Z Z Z (bJ (i) dP Z Z Z ((R.mem M4).below_len (aG aF hxa)) ((R.mem M4).someK (aG aF hxa))) (aAi Z Z Z (dW _ bQ (R.mem M4) (aG aF hxa) Z) (sI Z Z Z (fun _=>aH (.slice _ _ _) Z) (sI Z Z Z (fun _=>aH (.int _ _) Z) (aAi Z Z Z (bJ (k) dP Z Z Z ((R.mem M4).below_len (aG aF hxb)) ((R.mem M4).someK (aG aF hxb))) (aAi Z Z Z (dW _ bQ (R.mem M4) (aG aF hxb) Z) ?_)))))))
   refine aDp ?_ ?_
   ·refine dI [true,true,true,true] Z (by kernel_rfl) (dN aRu Z Z M4 (aQp _ xa xb (hb xa (List.mem_of_getElem? hxa)) (hb xb (List.mem_of_getElem? hxb))) (fun w5 M5 => ?_))
    refine aB (aC ⟨dJ, ?_⟩)
    refine aV Z Z Z (fun _=>aH (.tuple (List.toArray _)) Z) (aV Z Z Z (fun _=>bM (.agg (.mk _)) Z Z) (aV Z Z Z (fun _=>bM (.bool _) Z Z) (dI [] Z (by kernel_rfl) (aR nH M5 Z Z (fun b6 w6 M6 => ?_)))))
    refine aB (aC ⟨dJ, ?_⟩)
    refine dI [] Z (by kernel_rfl) (bG 1 _ fA M6 Z Z Z Z Z (aS Z) Z (fun w7 M7 => ?_))
    refine aB (aC ⟨dJ, ?_⟩)
    refine aV Z Z Z (fun _=>aJ (.bool _) Z) (bS (aC (aE (aA (wq (aH (.bool _) Z) Z (aB (aC ?_)))))))
    refine iL _ Z (fun h34 => ?_) (fun h34 => ?_)
    ·obtain ⟨cc,hcc⟩:=Option.isSome_iff_exists.1 h34
     refine aA (dK rfl rfl (wq (aX 1 fA M7 rfl rfl rfl) rfl (aL 36 (.agg (cL cc).toArray) (congrArg (fun o=>Value.agg (aOt o).toArray) hcc) (cC [.agg (List.toArray _)] [cL cc] rfl tJ M7 rfl rfl rfl rfl (cU rfl) (by decide) (fun b8 w8 M8=>(cW 0 [cL cc] tJ M8 rfl rfl rfl rfl rfl hq rfl (by simp [cL,Go.Bil.one]) (dL.ofMem 2 M8 rfl) (by omega) (fun A9 c9 e9 w9 M9 hR9=>(eH rfl rfl (aB (cR (aC (aA (aQ rfl rfl (wq (bC rfl rfl (by omega) (by omega)) rfl (bK rfl rfl (aB ?_))))))))))))))))
     refine bX (k+1,⟨A9,q.n+1,c9,e9⟩) (bE Z (bE Z dZ)) (bZ Z (bZ Z (bZ Z gK))) ?_ ?_
     ·exact ⟨⟨by omega,by omega,by rw [wA hs hb hxa hxb (by omega),hcc,← List.append_assoc,List.map_append];exact hR9⟩,M9.keep [true,false,false]⟩
     ·(show n - (k+1) < n - k;omega)
    ·have hcc:lN xa xb=none:=by simpa using h34
     refine aM (cR (aC (aA (aQ Z Z (wq (bC Z Z (by omega) (by omega)) Z (bK Z Z (aB ?_)))))))
     refine bX (k+1,q) (bE Z (bE Z dZ)) (bZ Z (bZ Z (bZ Z gK))) ?_ ?_
     ·exact ⟨⟨by omega,by omega,by rw [wA hs hb hxa hxb (by omega),hcc,← List.append_assoc];simpa using hq⟩,M7.keep [true,false]⟩
     ·(show n - (k+1) < n - k;omega)
   ·refine dI [false,false,false,false] Z (by kernel_rfl) (aR nH M4 Z Z (fun b10 w10 M10 => ?_))
    refine aB (aC ⟨(dS (bI Z (dW _ bQ (R.mem M10) (aG aF hxb) Z)) (dS (bI Z (bJ (k) dP Z Z Z ((R.mem M10).below_len (aG aF hxb)) ((R.mem M10).someK (aG aF hxb)))) (dS (bI Z (dW _ bQ (R.mem M10) (aG aF hxa) Z)) (dS (bI Z (bJ (i) dP Z Z Z ((R.mem M10).below_len (aG aF hxa)) ((R.mem M10).someK (aG aF hxa)))) dJ)))), ?_⟩)
    refine dI [true,true,true,true] Z (by kernel_rfl) (dN aRu Z Z M10 (aQp _ xa xb (hb xa (List.mem_of_getElem? hxa)) (hb xb (List.mem_of_getElem? hxb))) (fun w11 M11 => ?_))
    refine aB (aC ⟨dJ, ?_⟩)
    refine aV Z Z Z (fun _=>aH (.tuple (List.toArray _)) Z) (aV Z Z Z (fun _=>bM (.agg (.mk _)) Z Z) (aV Z Z Z (fun _=>bM (.bool _) Z Z) (dI [] Z (by kernel_rfl) (bG 1 _ fA M11 Z Z Z Z Z (aS Z) Z (fun w12 M12 => ?_)))))
    refine aB (aC ⟨dJ, ?_⟩)
    refine aV Z Z Z (fun _=>aJ (.bool _) Z) (bS (aC (aE (aA (wq (aH (.bool _) Z) Z (aB (aC ?_)))))))
    refine iL _ Z (fun h34 => ?_) (fun h34 => ?_)
    ·obtain ⟨cc,hcc⟩:=Option.isSome_iff_exists.1 h34
     refine aA (dK rfl rfl (wq (aX 1 fA M12 rfl rfl rfl) rfl (aL 36 (.agg (cL cc).toArray) (congrArg (fun o=>Value.agg (aOt o).toArray) hcc) (cC [.agg (List.toArray _)] [cL cc] rfl tJ M12 rfl rfl rfl rfl (cU rfl) (by decide) (fun b13 w13 M13=>(cW 0 [cL cc] tJ M13 rfl rfl rfl rfl rfl hq rfl (by simp [cL,Go.Bil.one]) (dL.ofMem 2 M13 rfl) (by omega) (fun A14 c14 e14 w14 M14 hR14=>(eH rfl rfl (aB (cR (aC (aA (aQ rfl rfl (wq (bC rfl rfl (by omega) (by omega)) rfl (bK rfl rfl (aB ?_))))))))))))))))
     refine bX (k+1,⟨A14,q.n+1,c14,e14⟩) (bE Z (bE Z dZ)) (bZ Z (bZ Z (bZ Z gK))) ?_ ?_
     ·exact ⟨⟨by omega,by omega,by rw [wA hs hb hxa hxb (by omega),hcc,← List.append_assoc,List.map_append];exact hR14⟩,M14.keep [true,false,false]⟩
     ·(show n - (k+1) < n - k;omega)
    ·have hcc:lN xa xb=none:=by simpa using h34
     refine aM (cR (aC (aA (aQ Z Z (wq (bC Z Z (by omega) (by omega)) Z (bK Z Z (aB ?_)))))))
     refine bX (k+1,q) (bE Z (bE Z dZ)) (bZ Z (bZ Z (bZ Z gK))) ?_ ?_
     ·exact ⟨⟨by omega,by omega,by rw [wA hs hb hxa hxb (by omega),hcc,← List.append_assoc];simpa using hq⟩,M12.keep [true,false]⟩
     ·(show n - (k+1) < n - k;omega)
  ·have hkn:k=n:=by omega
   refine cN (dC (dE (eJ (cR (aC (aA (aQ Z Z (wq (bC Z Z (by omega) (by omega)) Z (bK Z Z (aB ?_))))))))))
   refine bX (i+1,q) (bE Z (bE Z dZ)) (bZ Z (bZ Z gK)) ?_ ?_
   ·exact ⟨⟨by omega,by rw [aXu,hlen,← hkn];exact hq⟩,hM3⟩
   ·(show n - (i+1) < n - i;omega)
 ·have hin:i=n:=by omega
  refine cN (dC (dE (eJ (aC (aE (aA (dK Z Z (eH Z Z (aB (aC (aO (cI (.slice _ _ _) Z ?_))))))))))))
  exact ⟨r,Z,by unfold lT pF;rw [hlen,← hin];exact hr,hM2⟩
end Go.Proofs.YtpcloigancpnbaaGreatDoor
