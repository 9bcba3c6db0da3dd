/- Part of the proof of a law of this seat (3 texts). No conditions. -/
import Derived.Test.YtaoaknafiegfoaaGreatDoorK26
import Derived.Test.YtaoaknafiegfoaaGreatDoorK28
set_option linter.unusedVariables false
set_option linter.unusedSimpArgs false
set_option linter.unnecessarySimpa false
set_option maxHeartbeats 100000000
namespace Go.Proofs.YtaoaknafiegfoaaGreatDoor
open Go.Bil
open Go.RowKit (Below)
open Go.Proofs
open Go.Proofs.Tryz
theorem aSr (w:World) (bl pm:Nat) (f:Int→Option Body) (em:cY) (hme:iT .u32 rZ f (some pm) em) (r:Row) (cs:List Con) (hr:aR 211 5 r.A r.n r.c ((cs).map cM) r.e) (hn:r.n≤1099511627776) (z:Int × Int) (a b:Body) (h1:f z.1=some a) (h2:f z.2=some b) (ha:Okb a) (hb:Okb b) (hO:Own [(some bl,bc [.map (some pm),.slice r.A r.n r.c] 219),em,r.e] w) :
  Calls prog 159 #[.pointer (some ⟨bl,0,none⟩),(.agg (bK z).toArray)] w (fE (fun v w'=>v=.tuple #[]∧∃ q:Row,aR 211 5 q.A q.n q.c ((cs++(aEy f z).toList).map cM) q.e∧Mem w (bI [(some bl,bc [.map (some pm),.slice r.A r.n r.c] 219),em,r.e]) [(some bl,bc [.map (some pm),.slice q.A q.n q.c] 219),em,q.e] w')):=by
 refine aH #[] 35 func159 Z results159 ntmps159 Z ?_
 have M0:=hO.mem
 refine aD (aA (bH (.agg (.mk _)) M0 Z Z Z (fun b1 w1 M1=>(aB (aC (aD (aVf [(0,0),(1,0),(2,0),(3,1),(4,0),(5,1),(6,1),(7,0),(8,0),(9,0),(10,1),(11,0),(12,1),(13,1)] 14 18 [(15,0),(16,0),(17,0),(18,2),(19,2),(20,0)] [(14,2),(15,0),(16,0),(17,0),(19,2),(20,0)] mixed Z (by kernel_rfl) (fun w2 hb2 hh2 => ?_))))))))
 have M2:=M1.drew hb2 hh2
 refine uX Z Z Z (fun _=>aG (.pointer _) Z) (uX Z Z Z (fun _=>aO Z) (uX Z Z Z (fun _=>aE 0 aBe Z) (aTt Z Z Z (aK 0 (.map _) zJ M2 Z Z Z) (uX Z Z Z (fun _=>aE 0 oL Z) (aTt Z Z Z (aK 3 (.int _ _) cA M2 Z Z Z) (aTt Z Z Z (jN (enc:=rZ) aYm 1 zF bCt M2 Z hme Z Z) (bFd 13 ((.agg (aF a).toArray)) (congrArg rZ (by rw [h1];rfl)) (uX Z Z Z (fun _=>aG (.pointer _) Z) (uX Z Z Z (fun _=>aO Z) (uX Z Z Z (fun _=>aE 0 aBe Z) ?_))))))))))
 refine aTt Z Z Z (aK 0 (.map _) zJ M2 Z Z Z) (uX Z Z Z (fun _=>aE 1 nV Z) (aTt Z Z Z (aK 3 (.int _ _) cA M2 Z Z Z) (aTt Z Z Z (jN (enc:=rZ) aYm 1 zF bCt M2 Z hme Z Z) (bFd 20 ((.agg (aF b).toArray)) (congrArg rZ (by rw [h2];rfl)) ?_))))
 refine aOj ?_ ?_
 ·refine dD [true,true,true,true,true,true] Z (by kernel_rfl) (dI aZb Z Z M2 (yP _ a b ha hb) (fun w3 M3 => ?_))
  refine aB (aC ⟨dE, ?_⟩)
  refine aU Z Z Z (fun _=>aG (.tuple (List.toArray _)) Z) (aU Z Z Z (fun _=>bE (.agg (.mk _)) Z Z) (aU Z Z Z (fun _=>bE (.bool _) Z Z) (dD [] Z (by kernel_rfl) (aM tU M3 Z Z (fun b4 w4 M4 => ?_)))))
  refine aB (aC ⟨dE, ?_⟩)
  refine dD [] Z (by kernel_rfl) (aZ 4 _ gT M4 Z Z Z Z Z (aQ Z) Z (fun w5 M5 => ?_))
  refine aB (aC ⟨dE, ?_⟩)
  refine aU Z Z Z (fun _=>aI (.bool _) Z) (bZ (aC (aD (aA (wq (aG (.bool _) Z) Z (aB (aC ?_)))))))
  refine iG _ Z (fun h24 => ?_) (fun h24 => ?_)
  ·obtain ⟨cc,hcc⟩:=Option.isSome_iff_exists.1 h24
   refine gJ [(0,0),(1,0),(2,0),(3,0),(4,1),(5,1),(6,2),(7,2),(8,0),(9,0),(10,2)] mixed M5 Z (by kernel_rfl) (fun w6 M6=>(aU Z Z Z (fun _=>aG (.pointer _) Z) (aU Z Z Z (fun _=>aG (.pointer _) Z) (aU Z Z Z (fun _=>aO Z) (aU Z Z Z (fun _=>aE 1 pY Z) (bS Z Z Z (aK 0 (.slice _ _ _) mD M6 Z Z Z) (bS Z Z Z (bB 4 gT M6 Z Z Z) (fA 30 (.agg (cM cc).toArray) (congrArg (fun o=>Value.agg (bIm o).toArray) hcc) (dD [true,false] Z (by kernel_rfl) (cP [.agg (List.toArray _)] [cM cc] Z aEk M6 Z Z Z Z (cW Z) (by decide) (fun b7 w7 M7 => ?_)))))))))))
   refine aB (aC ⟨(eH (bJ Z (aK 0 (.slice _ _ _) mD M7 Z Z Z)) dE), ?_⟩)
   refine dD [true] rfl (by kernel_rfl) (dL 2 [cM cc] aEk M7 rfl rfl rfl rfl rfl hr rfl (by simp [cM,Go.Bil.one]) (cZ.ofMem 5 M7 rfl) (by omega) (fun A8 c8 e8 w8 M8 hR8 => ?_))
   refine aB (aC ⟨dE, ?_⟩)
   refine aU Z Z Z (fun _=>aO Z) (aU Z Z Z (fun _=>aE 1 pY Z) (dD [] Z (by kernel_rfl) (dN 0 (.slice _ _ _) mD M8 Z Z Z Z Z Z (fun w9 M9 => ?_))))
   refine aB (aC ⟨dE, ?_⟩)
   refine bZ (gZ ?_)
   exact ⟨Z,⟨A8,r.n+1,c8,e8⟩,by rw [rA h1 h2,hcc,List.map_append];exact hR8,M9.keep [true,true,true,false,false,false]⟩
  ·have hcc:mV a b=none:=by simpa using h24
   refine aL (gZ ?_)
   exact ⟨rfl,r,by rw [rA h1 h2,hcc];simpa using hr,M5.keep [true,true,true,false,false]⟩
 ·refine dD [false,false,false,false,false,false] Z (by kernel_rfl) (aM tU M2 Z Z (fun b10 w10 M10 => ?_))
  refine aB (aC ⟨(eH (bJ Z (jN (enc:=rZ) aYm 1 zF bCt M10 Z hme Z Z)) (eH (bJ Z (aK 3 (.int _ _) cA M10 Z Z Z)) (eH (bJ Z (aK 0 (.map _) zJ M10 Z Z Z)) (eH (bJ Z (jN (enc:=rZ) aYm 1 zF bCt M10 Z hme Z Z)) (eH (bJ Z (aK 3 (.int _ _) cA M10 Z Z Z)) (eH (bJ Z (aK 0 (.map _) zJ M10 Z Z Z)) dE)))))), ?_⟩)
  refine dD [true,true,true,true,true,true] Z (by kernel_rfl) (dI aZb Z Z M10 (yP _ a b ha hb) (fun w11 M11 => ?_))
  refine aB (aC ⟨dE, ?_⟩)
  refine aU Z Z Z (fun _=>aG (.tuple (List.toArray _)) Z) (aU Z Z Z (fun _=>bE (.agg (.mk _)) Z Z) (aU Z Z Z (fun _=>bE (.bool _) Z Z) (dD [] Z (by kernel_rfl) (aZ 4 _ gT M11 Z Z Z Z Z (aQ Z) Z (fun w12 M12 => ?_)))))
  refine aB (aC ⟨dE, ?_⟩)
  refine aU Z Z Z (fun _=>aI (.bool _) Z) (bZ (aC (aD (aA (wq (aG (.bool _) Z) Z (aB (aC ?_)))))))
  refine iG _ Z (fun h24 => ?_) (fun h24 => ?_)
  ·obtain ⟨cc,hcc⟩:=Option.isSome_iff_exists.1 h24
   refine gJ [(0,0),(1,0),(2,0),(3,0),(4,1),(5,1),(6,2),(7,2),(8,0),(9,0),(10,2)] mixed M12 Z (by kernel_rfl) (fun w13 M13=>(aU Z Z Z (fun _=>aG (.pointer _) Z) (aU Z Z Z (fun _=>aG (.pointer _) Z) (aU Z Z Z (fun _=>aO Z) (aU Z Z Z (fun _=>aE 1 pY Z) (bS Z Z Z (aK 0 (.slice _ _ _) mD M13 Z Z Z) (bS Z Z Z (bB 4 gT M13 Z Z Z) (fA 30 (.agg (cM cc).toArray) (congrArg (fun o=>Value.agg (bIm o).toArray) hcc) (dD [true,false] Z (by kernel_rfl) (cP [.agg (List.toArray _)] [cM cc] Z aEk M13 Z Z Z Z (cW Z) (by decide) (fun b14 w14 M14 => ?_)))))))))))
   refine aB (aC ⟨(eH (bJ Z (aK 0 (.slice _ _ _) mD M14 Z Z Z)) dE), ?_⟩)
   refine dD [true] rfl (by kernel_rfl) (dL 2 [cM cc] aEk M14 rfl rfl rfl rfl rfl hr rfl (by simp [cM,Go.Bil.one]) (cZ.ofMem 5 M14 rfl) (by omega) (fun A15 c15 e15 w15 M15 hR15 => ?_))
   refine aB (aC ⟨dE, ?_⟩)
   refine aU Z Z Z (fun _=>aO Z) (aU Z Z Z (fun _=>aE 1 pY Z) (dD [] Z (by kernel_rfl) (dN 0 (.slice _ _ _) mD M15 Z Z Z Z Z Z (fun w16 M16 => ?_))))
   refine aB (aC ⟨dE, ?_⟩)
   refine bZ (gZ ?_)
   exact ⟨Z,⟨A15,r.n+1,c15,e15⟩,by rw [rA h1 h2,hcc,List.map_append];exact hR15,M16.keep [true,true,true,false,false,false]⟩
  ·have hcc:mV a b=none:=by simpa using h24
   refine aL (gZ ?_)
   exact ⟨rfl,r,by rw [rA h1 h2,hcc];simpa using hr,M12.keep [true,true,true,false,false]⟩
theorem aCy (w:World) (A:Option Addr) (n c:Nat) (zs:List (Int × Int)) (R:Rd w 2 A n (zs.map bK)) (bl pm:Nat) (f:Int→Option Body) (em:cY) (hme:iT .u32 rZ f (some pm) em) (r:Row) (hr:aR 211 5 r.A r.n r.c (([]).map cM) r.e) (hz:∀ z∈zs,∃ a b,f z.1=some a∧f z.2=some b∧Okb a∧Okb b) (hn:n≤1099511627776) (hO:Own [(some bl,bc [.map (some pm),.slice r.A r.n r.c] 219),em,r.e] w) (hdA:0 < n→∀ q off,A=some ⟨q,off,none⟩→q∉bI [(some bl,bc [.map (some pm),.slice r.A r.n r.c] 219),em,r.e]) :
  Calls prog 158 #[.slice A n c,.func (.func 159) #[.pointer (some ⟨bl,0,none⟩)] #[]] w (fE (fun v w'=>v=.tuple #[]∧∃ q:Row,aR 211 5 q.A q.n q.c ((zs.filterMap (aEy f)).map cM) q.e∧Mem w (bI [(some bl,bc [.map (some pm),.slice r.A r.n r.c] 219),em,r.e]) [(some bl,bc [.map (some pm),.slice q.A q.n q.c] 219),em,q.e] w')):=by
 have hlen:zs.length=n:=by simpa using R.len
 refine aH #[] 16 func158 Z results158 ntmps158 Z ?_
 have M0:=hO.mem
 refine aD (aA (dZ Z Z (wq (cG underlying220 Z) Z (aX Z Z (aB (aC (aT (dK (σ:=Nat × Row) [1,6,7] (fun (k,q)=>[(8,.int .i64 (k:Int))]) (fun (k,q) w'=>(k≤n∧aR 211 5 q.A q.n q.c (((zs.take k).filterMap (aEy f)).map cM) q.e)∧Mem w (bI [(some bl,bc [.map (some pm),.slice r.A r.n r.c] 219),em,r.e]) [(some bl,bc [.map (some pm),.slice q.A q.n q.c] 219),em,q.e] w') (fun (k,q)=>n - k) (0,r) (bN Z eZ) (⟨⟨by omega,hr⟩,M0⟩) ?_))))))))
 rintro ⟨k,q⟩ ρ1 w1 ⟨⟨hk,hq⟩,hM1⟩
 have hfl:=List.length_filterMap_le (aEy f) (zs.take k)
 have htl:=List.length_take_le k zs
 have hql:((zs.take k).filterMap (aEy f)).length=q.n:=by simpa using hq.1
 refine aD (aA (dB Z Z Z Z (aB (aC (aD ?_)))))
 refine bA Z (fun h9 => ?_) (fun h9 => ?_)
 ·obtain ⟨xz,hxz⟩:=cF (k:=k) hlen (by omega)
  obtain ⟨za,zb,hza,hzb,hoa,hob⟩:=hz xz (List.mem_of_getElem? hxz)
  refine aL (aC (aD (aT (aD (aA (wq (bR (k) tM Z Z Z ((R.memY hM1 hdA).below_len (aJ bK hxz)) ((R.memY hM1 hdA).someK (aJ bK hxz))) Z (wq (dT _ gO (R.memY hM1 hdA) (aJ bK hxz) Z) Z (aM qY hM1 Z Z (fun b2 w2 M2=>(aZ 3 _ gO M2 Z Z Z Z Z (aQ Z) Z (fun w3 M3=>(aB (aC (aA (wq (aG (.func _ _ _) Z) Z (wq (bB 3 gO M3 Z Z Z) Z (dU bJi Z Z (aSr _ bl pm f em hme q _ hq (by omega) xz za zb hza hzb hoa hob (M3.ownSeg 0 3)) ?_)))))))))))))))))
  rintro v4 w4 ⟨rfl,q2,hq2,hM4⟩
  have M4:Mem _ _ [_,_,_,_] _:=M3.seg 0 3 hM4
  refine aB (dF (aC (aA (wq (bM Z Z (by omega) (by omega)) Z (aX Z Z (aB ?_))))))
  refine cR (k+1,q2) (bN Z eZ) (cT Z (cT Z (cT Z kB))) ?_ ?_
  ·exact ⟨⟨by omega,by rw [bCn hxz];exact hq2⟩,M4.keep [true,true,true,false]⟩
  ·(show n - (k+1) < n - k;omega)
 ·have hkn:k=n:=by omega
  rw [List.take_of_length_le (by omega)] at hq
  refine cO (dA (cX (eV (gZ ?_))))
  exact ⟨Z,q,hq,hM1⟩
theorem aFi (w:World) (F:Rd w 2 (some ⟨0,0,none⟩) 1 [[.int .u32 73856093,.int .u32 19349663]]) (N:Rd w 4 (some ⟨3,0,none⟩) 1 [cS fU]) (A:Option Addr) (n c:Nat) (xs:List Body) (R:Rd w 10 A n (xs.map aF)) (hb:∀ b∈xs,Okb b) (hs:bY xs) (hn:n≤4096) :
  Calls prog 144 #[.slice A n c] w (fE (fun v w'=>∃ (r:Row) (m:Nat),v=.tuple #[.slice r.A r.n r.c,.int .i64 (m:Int)]∧(lM xs).length≤m∧2*m≤xs.length*(xs.length - 1)∧aR 211 5 r.A r.n r.c ((lL xs).map cM) r.e∧Mem w [] [r.e] w')):=by
 have hlen:xs.length=n:=by simpa using R.len
 have hbd:=R.bound
 refine aH #[.tmp 2,.tmp 3] 39 func144 Z results144 ntmps144 Z ?_
 have M0:=Mem.refl w
 refine aD (aA (eX Z Z (bP Z Z (aB (aC (aD (aA (kF M0 Z Z (fun b1 w1 M1=>(wq (cE [(0,.map _)] _ aSx Z Z) Z (bH (.agg (.mk _)) M1 Z Z Z (fun b2 w2 M2=>(wq (aI (.pointer _) Z) Z (aB (aC (aD (aD (aA (dZ Z Z (wq (cG underlying29 Z) Z (aX Z Z (aB (aC (aT (dK (σ:=Nat × cY) [0,2,3,4,11,12] (fun (k,em)=>[(13,.int .i64 (k:Int))]) (fun (k,em) w'=>(k≤n∧iT .u32 rZ (boM (xs.take k)) (some b1) em)∧Mem w [] [em,(some b2,bc [.map (some b1),.slice none 0 0] 219)] w') (fun (k,em)=>n - k) (0,(some b1,.map #[] 0)) (bN Z eZ) (⟨⟨by omega,(iT.empty _ _ b1).congr (fun q=>by rw [List.take_zero];exact bCl q)⟩,M2⟩) ?_)))))))))))))))))))))))))
 rintro ⟨k,em⟩ ρ3 w3 ⟨⟨hk,hme⟩,hM3⟩
 refine aD (aA (dB Z Z Z Z (aB (aC (aD ?_)))))
 refine bA Z (fun h14 => ?_) (fun h14 => ?_)
 ·obtain ⟨xb,hxb⟩:=cF (k:=k) hlen (by omega)
  refine aL (aC (aD (aT (aD (aA (wq (bR (k) fC Z Z Z ((R.mem hM3).below_len (aJ aF hxb)) ((R.mem hM3).someK (aJ aF hxb))) Z (wq (dT _ bU (R.mem hM3) (aJ aF hxb) Z) Z (aM iD hM3 Z Z (fun b4 w4 M4=>(aZ 2 _ bU M4 Z Z Z Z Z (aQ Z) Z (fun w5 M5=>(aB (aC (gJ [(0,0),(1,0),(2,0),(3,1),(4,0),(5,1),(6,1),(7,2)] mixed M5 Z (by kernel_rfl) (fun w6 M6=>(aU Z Z Z (fun _=>aG (.pointer _) Z) (aU Z Z Z (fun _=>aO Z) (aU Z Z Z (fun _=>aE 0 aBe Z) ?_))))))))))))))))))
  refine bS Z Z Z (aK 1 (.map _) zJ M6 Z Z Z) (aU Z Z Z (fun _=>aE 0 fH Z) (bS Z Z Z (aK 2 (.int _ _) cA M6 Z Z Z) (bS Z Z Z (bB 2 bU M6 Z Z Z) (dD [true,true,true] Z (by kernel_rfl) (iV (enc:=rZ) 0 zF M6 Z Z hme Z Z Z Z (fun e7 w7 hm7 M7 => ?_))))))
  refine aB (aC ⟨dE, ?_⟩)
  refine bZ (dF (aC (aA (wq (bM Z Z (by omega) (by omega)) Z (aX Z Z (aB ?_))))))
  refine cR (k+1,e7) (bN Z eZ) (cT Z (cT Z (cT Z (cT Z (cT Z (cT Z kB)))))) ?_ ?_
  ·exact ⟨⟨by omega,hm7.congr (fun q=>aXd hxb q)⟩,M7.keep [true,true,false]⟩
  ·(show n - (k+1) < n - k;omega)
 ·have hkn:k=n:=by omega
  rw [List.take_of_length_le (by omega)] at hme
  refine cO (dA (cX (eV (aC (aD (aA (dZ Z Z (dU bGn Z Z (aMl _ (F.mem hM3) (N.mem hM3) _ _ _ xs (R.mem hM3) hb hs (by first | decide | omega)) ?_))))))))
  rintro v8 w8 ⟨r0,m0,rfl,hfm0,hgm0,hr0,hM8⟩
  have M8:Mem _ _ [_,_,_] _:=hM3.call0 hM8
  refine wq (aG (.tuple (List.toArray _)) Z) Z (wq (bE (.slice _ _ _) Z Z) Z (wq (bE (.int _ _) Z Z) Z (eX Z Z (bP Z Z (aB (aC (aD (aA (dZ Z Z (wq (aG (.pointer _) Z) Z (wq (cH [.pointer _] [] Z Z) Z ?_)))))))))))
  have M9:Mem _ _ [_,_,_,_] _:=Mem.orderC (M8.dummy default)
  have hfl:(lM xs).length=r0.n:=by simpa using hr0.1
  have hnn:xs.length*(xs.length - 1)≤4096*4096:=Nat.mul_le_mul (by omega) (by omega)
  refine dU bHe rfl rfl (aCy _ r0.A r0.n r0.c (lM xs) (hr0.rd M9 (aV (i:=0) rfl)) b2 b1 (boM xs) em hme fM (aR.nil _ _ _) (fun z hz=>by obtain ⟨a,b,h1,h2,_,_,h3,h4⟩:=wL hs hz;exact ⟨a,b,h3,h4,hb a h1,hb b h2⟩) (by omega) (M9.ownSeg 1 3) (hr0.apartTail M9)) ?_
  rintro v10 w10 ⟨rfl,q,hq,hM10⟩
  have M10:Mem _ _ [_,_,_,_] _:=M9.seg 1 3 hM10
  refine aB (aC (aD (aA (wq (aG (.pointer _) Z) Z (wq (aO Z) Z (wq (aE 1 pY Z) Z (wq (aK 1 (.slice _ _ _) mD M10 Z Z Z) Z (aX Z Z (eX Z Z (bP Z Z (aB (aC (aP (gY (.slice _ _ _) (.int _ _) Z Z ?_))))))))))))))
  exact ⟨q,m0,Z,hfm0,hgm0,hq,M10.keep [false,false,false,true]⟩
end Go.Proofs.YtaoaknafiegfoaaGreatDoor
