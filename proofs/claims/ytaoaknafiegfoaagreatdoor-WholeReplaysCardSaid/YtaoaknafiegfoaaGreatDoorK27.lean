/- Part of the proof of a law of this seat (6 texts). No conditions. -/
import Derived.Test.YtaoaknafiegfoaaGreatDoorK20
import Derived.Test.YtaoaknafiegfoaaGreatDoorK26
set_option linter.unusedVariables false
set_option linter.unusedSimpArgs false
set_option linter.unnecessarySimpa false
set_option maxHeartbeats 100000000
namespace Go.Proofs.YtaoaknafiegfoaaGreatDoor
open Go.Bil
open Go.RowKit (Below)
open Go.Proofs
open Go.Proofs.Tryz
theorem bBy (w:World) (bs:Nat) (rx ry:Row) (F G:Body→Int) (A:Option Addr) (n c:Nat) (xs:List Body) (R:Rd w 10 A n (xs.map aF)) (hs:bY xs) (hb:∀ b∈xs,Okb b) (hrx:aR 2 1 rx.A rx.n rx.c ((xs.map F).map cC) rx.e) (hry:aR 2 1 ry.A ry.n ry.c ((xs.map G).map cC) ry.e) (hF:∀ b∈xs, -1152921504606846976≤F b∧F b≤1152921504606846976) (hG:∀ b∈xs, -1152921504606846976≤G b∧G b≤1152921504606846976) (cn:Con) (hc:OkC xs cn) (hO:Own [(some bs,bc [.slice A n c,.slice rx.A rx.n rx.c,.slice ry.A ry.n ry.c] 303),rx.e,ry.e] w) (hdA:0 < n→∀ q off,A=some ⟨q,off,none⟩→q∉bI [(some bs,bc [.slice A n c,.slice rx.A rx.n rx.c,.slice ry.A ry.n ry.c] 303),rx.e,ry.e]) :
  Calls prog 220 #[.pointer (some ⟨bs,0,none⟩),.agg (cM cn).toArray] w (fE (fun v w'=>v=.tuple #[]∧∃ ex ey:cY,aR 2 1 rx.A rx.n rx.c ((xs.map (aFn xs (·.nx) cn F)).map cC) ex∧aR 2 1 ry.A ry.n ry.c ((xs.map (aFn xs (·.ny) cn G)).map cC) ey∧Mem w (bI [(some bs,bc [.slice A n c,.slice rx.A rx.n rx.c,.slice ry.A ry.n ry.c] 303),rx.e,ry.e]) [(some bs,bc [.slice A n c,.slice rx.A rx.n rx.c,.slice ry.A ry.n ry.c] 303),ex,ey] w')):=by
 have hlen:xs.length=n:=by simpa using R.len
 have hbd:=R.bound
 have hlx:xs.length=rx.n:=by simpa using hrx.1
 have hly:xs.length=ry.n:=by simpa using hry.1
 obtain ⟨pa,xa,hxa,hka,hla,hba,hma⟩:=rM hs hc.l
 obtain ⟨pb,xb,hxb,hkb,hlb,hbb,hmb⟩:=rM hs hc.h
 have hoa:=hb xa hma
 have hob:=hb xb hmb
 have hne:=hc.ne
 have hpl:=(List.getElem?_eq_some_iff.1 hxa).1
 have hpl2:=(List.getElem?_eq_some_iff.1 hxb).1
 have hpab:pa≠pb:=fun g=>by subst g;rw [hxa] at hxb;injection hxb with hxb;subst hxb;omega
 have ma:=hoa.m
 have mb:=hob.m
 have hra:=xZ hc.n hoa hob (m:=xa.mass) (by omega)
 have hrb:=xZ hc.n hoa hob (m:=xb.mass) (by omega)
 have gax:=(nC hra.2.2 hc.n.x).2.2
 have gay:=(nC hra.2.2 hc.n.y).2.2
 have gbx:=(nC hrb.2.2 hc.n.x).2.2
 have gby:=(nC hrb.2.2 hc.n.y).2.2
 have fa:=hF xa hma
 have fb:=hF xb hmb
 have ga:=hG xa hma
 have gb:=hG xb hmb
 have hFa:(xs.map F)[pa]? = some (F xa):=by rw [List.getElem?_map,hxa];rfl
 have hGa:(xs.map G)[pa]? = some (G xa):=by rw [List.getElem?_map,hxa];rfl
 have hFb:((xs.map F).set pa (F xa - qC (mU cn xa xb) xa.mass cn.nx))[pb]? = some (F xb):=sW (by rw [List.getElem?_map,hxb];rfl) hpab
 have hGb:((xs.map G).set pa (G xa - qC (mU cn xa xb) xa.mass cn.ny))[pb]? = some (G xb):=sW (by rw [List.getElem?_map,hxb];rfl) hpab
 refine aH #[] 139 func220 Z results220 ntmps220 Z ?_
 have M0:=hO.mem
 refine aD (aA (bH (.agg (.mk _)) M0 Z Z Z (fun b1 w1 M1=>(aB (aC (aD (gJ [(0,0),(1,0),(2,0),(3,1),(4,0),(5,0),(6,1),(7,2),(8,0),(9,0),(10,0),(11,0),(12,0)] mixed M1 Z (by kernel_rfl) (fun w2 M2=>(aU Z Z Z (fun _=>aG (.pointer _) Z) (aU Z Z Z (fun _=>aO Z) (aU Z Z Z (fun _=>aE 0 oI Z) (bS Z Z Z (aK 0 (.slice _ _ _) fL M2 Z Z Z) (aU Z Z Z (fun _=>aE 0 tT Z) (aU Z Z Z (fun _=>aE 0 oL Z) (bS Z Z Z (aK 3 (.int _ _) cA M2 Z Z Z) ?_)))))))))))))))
 refine dD [true,true] Z (by kernel_rfl) (dI aGl Z Z M2 (rF _ cn.low _ _ _ xs (R.memY M2 hdA) hs) (fun w3 M3 => ?_))
 refine aB (aC ⟨dE, ?_⟩)
 refine aU Z Z Z (fun _=>aG (.tuple (List.toArray _)) Z) (aU Z Z Z (fun _=>bE (.int _ _) Z Z) (fA 20 (.int .i64 (pa:Int)) (iE (by rw [hla])) (aU Z Z Z (fun _=>bE (.bool (decide _)) Z Z) (qB Z Z Z (aU Z Z Z (fun _=>aI (.bool (decide _)) Z) (bZ (aC (aD (gJ [(0,0),(1,0),(2,0),(3,1),(4,0),(5,0),(6,1),(7,2),(8,0),(9,0),(10,0),(11,0),(12,0)] mixed M3 Z (by kernel_rfl) (fun w4 M4=>(aU Z Z Z (fun _=>aG (.pointer _) Z) (aU Z Z Z (fun _=>aO Z) (aU Z Z Z (fun _=>aE 0 oI Z) ?_)))))))))))))
 refine bS Z Z Z (aK 0 (.slice _ _ _) fL M4 Z Z Z) (aU Z Z Z (fun _=>aE 0 tT Z) (aU Z Z Z (fun _=>aE 1 nV Z) (bS Z Z Z (aK 3 (.int _ _) cA M4 Z Z Z) (dD [true,true] Z (by kernel_rfl) (dI aGl Z Z M4 (rF _ cn.high _ _ _ xs (R.memY M4 hdA) hs) (fun w5 M5 => ?_))))))
 refine aB (aC ⟨dE, ?_⟩)
 refine aU Z Z Z (fun _=>aG (.tuple (List.toArray _)) Z) (aU Z Z Z (fun _=>bE (.int _ _) Z Z) (fA 31 (.int .i64 (pb:Int)) (iE (by rw [hlb])) (aU Z Z Z (fun _=>bE (.bool (decide _)) Z Z) (qB Z Z Z (aU Z Z Z (fun _=>aI (.bool (decide _)) Z) (bZ (aC (aD (gJ [(0,1),(1,0),(2,0),(3,0),(4,1),(5,0),(6,1),(7,1),(8,0),(9,0),(10,0),(11,1),(12,0),(13,1),(14,1),(15,2),(16,0)] mixed M5 Z (by kernel_rfl) (fun w6 M6=>(bS Z Z Z (bB 3 gT M6 Z Z Z) (aU Z Z Z (fun _=>aG (.pointer _) Z) ?_))))))))))))
 refine aU Z Z Z (fun _=>aO Z) (aU Z Z Z (fun _=>aE 0 oI Z) (bS Z Z Z (aK 0 (.slice _ _ _) fL M6 Z Z Z) (gR Z Z Z (bS Z Z Z (bR (pa) fC Z Z Z ((R.memY M6 hdA).below_len (aJ aF hxa)) ((R.memY M6 hdA).someK (aJ aF hxa))) (bS Z Z Z (dT _ bU (R.memY M6 hdA) (aJ aF hxa) Z) (aU Z Z Z (fun _=>aG (.pointer _) Z) (aU Z Z Z (fun _=>aO Z) (aU Z Z Z (fun _=>aE 0 oI Z) (bS Z Z Z (aK 0 (.slice _ _ _) fL M6 Z Z Z) ?_)))))))))
 refine gR Z Z Z (bS Z Z Z (bR (pb) fC Z Z Z ((R.memY M6 hdA).below_len (aJ aF hxb)) ((R.memY M6 hdA).someK (aJ aF hxb))) (bS Z Z Z (dT _ bU (R.memY M6 hdA) (aJ aF hxb) Z) (dD [true,true,true,true,true,true,true] Z (by kernel_rfl) (dI bGs Z Z M6 (aGn _ cn xa xb hc.n hoa hob) (fun w7 M7 => ?_)))))
 refine aB (aC ⟨dE, ?_⟩)
 refine qB Z Z Z (bZ (aC (aD (gJ [(0,0),(1,0),(2,0),(3,0),(4,1),(5,0),(6,1),(7,1),(8,1),(9,0),(10,1),(11,2),(12,0),(13,0),(14,0),(15,0),(16,0)] mixed M7 Z (by kernel_rfl) (fun w8 M8=>(gR Z Z Z (aU Z Z Z (fun _=>aG (.pointer _) Z) (aU Z Z Z (fun _=>aO Z) (aU Z Z Z (fun _=>aE 0 oI Z) (bS Z Z Z (aK 0 (.slice _ _ _) fL M8 Z Z Z) (gR Z Z Z (bS Z Z Z (bR (pa) fC Z Z Z ((R.memY M8 hdA).below_len (aJ aF hxa)) ((R.memY M8 hdA).someK (aJ aF hxa))) ?_))))))))))))
 refine bS Z Z Z (bO 4 fR (R.memY M8 hdA) (qR ((R.memY M8 hdA).below_len (aJ aF hxa))) Z) (bS Z Z Z (eP (o:=4) (.int _ _) aY (R.memY M8 hdA) (aJ aF hxa) Z Z) (aU Z Z Z (fun _=>aE 2 nU Z) (bS Z Z Z (uQ 3 _ bL M8 Z Z Z Z) (dD [true,true,true,true,true] Z (by kernel_rfl) (dI aUx Z Z M8 (yQ _ (mU cn xa xb) xa.mass cn.nx cn.ny ⟨hra.1,hra.2.1⟩ (by omega) hra.2.2 hc.n.x hc.n.y) (fun w9 M9 => ?_))))))
 refine aB (aC ⟨dE, ?_⟩)
 refine aU Z Z Z (fun _=>aG (.tuple (List.toArray _)) Z) (aU Z Z Z (fun _=>bE (.int _ _) Z Z) (aU Z Z Z (fun _=>bE (.int _ _) Z Z) (qB Z Z Z (qB Z Z Z (bZ (aC (aD (gJ [(0,0),(1,0),(2,0),(3,1),(4,0),(5,0),(6,0),(7,0),(8,1),(9,0),(10,0),(11,0),(12,0),(13,1),(14,0),(15,1),(16,1),(17,0),(18,0),(19,0),(20,0),(21,0),(22,1),(23,0),(24,1),(25,1),(26,0),(27,0),(28,1),(29,2),(30,1),(31,2)] mixed M9 Z (by kernel_rfl) (fun w10 M10=>(aU Z Z Z (fun _=>aG (.pointer _) Z) ?_))))))))))
 refine aU Z Z Z (fun _=>aO Z) (aU Z Z Z (fun _=>aE 1 oA Z) (bS Z Z Z (aK 0 (.slice _ _ _) lH M10 Z Z Z) (gR Z Z Z (aU Z Z Z (fun _=>aG (.pointer _) Z) (aU Z Z Z (fun _=>aO Z) (aU Z Z Z (fun _=>aE 2 nZ Z) (bS Z Z Z (aK 0 (.slice _ _ _) lH M10 Z Z Z) (gR Z Z Z (aU Z Z Z (fun _=>aG (.pointer _) Z) (aU Z Z Z (fun _=>aO Z) (aU Z Z Z (fun _=>aE 1 oA Z) (bS Z Z Z (aK 0 (.slice _ _ _) lH M10 Z Z Z) ?_))))))))))))
 refine gR Z Z Z (bS Z Z Z (bR (pa) nF Z Z Z ((hrx.rd M10 (aV (i:=1) Z)).below_len (aJ cC hFa)) ((hrx.rd M10 (aV (i:=1) Z)).someK (aJ cC hFa))) (bS Z Z Z (gL (.int _ _) mI (hrx.rd M10 (aV (i:=1) Z)) (aJ cC hFa) Z) (gR Z Z Z (aU Z Z Z (fun _=>lY Z Z (by omega) (by omega)) (aU Z Z Z (fun _=>aG (.pointer _) Z) (aU Z Z Z (fun _=>aO Z) (aU Z Z Z (fun _=>aE 2 nZ Z) (bS Z Z Z (aK 0 (.slice _ _ _) lH M10 Z Z Z) (gR Z Z Z ?_)))))))))
 refine bS Z Z Z (bR (pa) nF Z Z Z ((hry.rd M10 (aV (i:=2) Z)).below_len (aJ cC hGa)) ((hry.rd M10 (aV (i:=2) Z)).someK (aJ cC hGa))) (bS Z Z Z (gL (.int _ _) mI (hry.rd M10 (aV (i:=2) Z)) (aJ cC hGa) Z) (gR Z Z Z (aU Z Z Z (fun _=>lY Z Z (by omega) (by omega)) (bS Z Z Z (bR (pa) nF Z Z Z ((hrx.rd M10 (aV (i:=1) Z)).below_len (aJ cC hFa)) ((hrx.rd M10 (aV (i:=1) Z)).someK (aJ cC hFa))) (dD [true,true,true,true,true,true,true,true,true] Z (by kernel_rfl) ?_)))))
 refine xY 1 (.int _ _) mI M10 Z hrx (aJ cC hFa) Z Z Z Z (fun e11 w11 hR11 M11 => ?_)
 have hQ11:=hR11.mapSet (f:=cC) (x:=F xa - qC (mU cn xa xb) xa.mass cn.nx) rfl
 refine aB (aC ⟨dE, ?_⟩)
 refine bS Z Z Z (bR (pa) nF Z Z Z ((hry.rd M11 (aV (i:=2) Z)).below_len (aJ cC hGa)) ((hry.rd M11 (aV (i:=2) Z)).someK (aJ cC hGa))) (dD [true] Z (by kernel_rfl) (xY 2 (.int _ _) mI M11 Z hry (aJ cC hGa) Z Z Z Z (fun e12 w12 hR12 M12 => ?_)))
 have hQ12:=hR12.mapSet (f:=cC) (x:=G xa - qC (mU cn xa xb) xa.mass cn.ny) rfl
 refine aB (aC ⟨dE, ?_⟩)
 refine bZ (aC (aD (gJ [(0,0),(1,0),(2,0),(3,0),(4,1),(5,0),(6,1),(7,1),(8,1),(9,0),(10,1),(11,2),(12,0),(13,0),(14,0),(15,0),(16,0)] mixed M12 Z (by kernel_rfl) (fun w13 M13=>(gR Z Z Z (aU Z Z Z (fun _=>aG (.pointer _) Z) (aU Z Z Z (fun _=>aO Z) (aU Z Z Z (fun _=>aE 0 oI Z) (bS Z Z Z (aK 0 (.slice _ _ _) fL M13 Z Z Z) (gR Z Z Z (bS Z Z Z (bR (pb) fC Z Z Z ((R.memY M13 hdA).below_len (aJ aF hxb)) ((R.memY M13 hdA).someK (aJ aF hxb))) ?_)))))))))))
 refine bS Z Z Z (bO 4 fR (R.memY M13 hdA) (qR ((R.memY M13 hdA).below_len (aJ aF hxb))) Z) (bS Z Z Z (eP (o:=4) (.int _ _) aY (R.memY M13 hdA) (aJ aF hxb) Z Z) (aU Z Z Z (fun _=>aE 2 nU Z) (bS Z Z Z (uQ 3 _ bL M13 Z Z Z Z) (dD [true,true,true,true,true] Z (by kernel_rfl) (dI aUx Z Z M13 (yQ _ (mU cn xa xb) xb.mass cn.nx cn.ny ⟨hrb.1,hrb.2.1⟩ (by omega) hrb.2.2 hc.n.x hc.n.y) (fun w14 M14 => ?_))))))
 refine aB (aC ⟨dE, ?_⟩)
 refine aU Z Z Z (fun _=>aG (.tuple (List.toArray _)) Z) (aU Z Z Z (fun _=>bE (.int _ _) Z Z) (aU Z Z Z (fun _=>bE (.int _ _) Z Z) (qB Z Z Z (qB Z Z Z (bZ (aC (gJ [(0,0),(1,0),(2,0),(3,1),(4,0),(5,0),(6,0),(7,0),(8,1),(9,0),(10,0),(11,0),(12,0),(13,1),(14,0),(15,1),(16,1),(17,0),(18,0),(19,0),(20,0),(21,0),(22,1),(23,0),(24,1),(25,1),(26,0),(27,0),(28,1),(29,2),(30,1),(31,2)] mixed M14 Z (by kernel_rfl) (fun w15 M15=>(aU Z Z Z (fun _=>aG (.pointer _) Z) ?_)))))))))
 refine aU Z Z Z (fun _=>aO Z) (aU Z Z Z (fun _=>aE 1 oA Z) (bS Z Z Z (aK 0 (.slice _ _ _) lH M15 Z Z Z) (gR Z Z Z (aU Z Z Z (fun _=>aG (.pointer _) Z) (aU Z Z Z (fun _=>aO Z) (aU Z Z Z (fun _=>aE 2 nZ Z) (bS Z Z Z (aK 0 (.slice _ _ _) lH M15 Z Z Z) (gR Z Z Z (aU Z Z Z (fun _=>aG (.pointer _) Z) (aU Z Z Z (fun _=>aO Z) (aU Z Z Z (fun _=>aE 1 oA Z) (bS Z Z Z (aK 0 (.slice _ _ _) lH M15 Z Z Z) ?_))))))))))))
 refine gR Z Z Z (bS Z Z Z (bR (pb) nF Z Z Z ((hQ11.rd M15 (aV (i:=1) Z)).below_len (aJ cC hFb)) ((hQ11.rd M15 (aV (i:=1) Z)).someK (aJ cC hFb))) (bS Z Z Z (gL (.int _ _) mI (hQ11.rd M15 (aV (i:=1) Z)) (aJ cC hFb) Z) (gR Z Z Z (aU Z Z Z (fun _=>bM Z Z (by omega) (by omega)) (aU Z Z Z (fun _=>aG (.pointer _) Z) (aU Z Z Z (fun _=>aO Z) (aU Z Z Z (fun _=>aE 2 nZ Z) (bS Z Z Z (aK 0 (.slice _ _ _) lH M15 Z Z Z) (gR Z Z Z ?_)))))))))
 refine bS Z Z Z (bR (pb) nF Z Z Z ((hQ12.rd M15 (aV (i:=2) Z)).below_len (aJ cC hGb)) ((hQ12.rd M15 (aV (i:=2) Z)).someK (aJ cC hGb))) (bS Z Z Z (gL (.int _ _) mI (hQ12.rd M15 (aV (i:=2) Z)) (aJ cC hGb) Z) (gR Z Z Z (aU Z Z Z (fun _=>bM Z Z (by omega) (by omega)) (bS Z Z Z (bR (pb) nF Z Z Z ((hQ11.rd M15 (aV (i:=1) Z)).below_len (aJ cC hFb)) ((hQ11.rd M15 (aV (i:=1) Z)).someK (aJ cC hFb))) (dD [true,true,true,true,true,true,true,true,true] Z (by kernel_rfl) ?_)))))
 refine xY 1 (.int _ _) mI M15 Z hQ11 (aJ cC hFb) Z Z Z Z (fun e16 w16 hR16 M16 => ?_)
 have hQ16:=hR16.mapSet (f:=cC) (x:=F xb+qC (mU cn xa xb) xb.mass cn.nx) rfl
 refine aB (aC ⟨dE, ?_⟩)
 refine bS Z Z Z (bR (pb) nF Z Z Z ((hQ12.rd M16 (aV (i:=2) Z)).below_len (aJ cC hGb)) ((hQ12.rd M16 (aV (i:=2) Z)).someK (aJ cC hGb))) (dD [true] Z (by kernel_rfl) (xY 2 (.int _ _) mI M16 Z hQ12 (aJ cC hGb) Z Z Z Z (fun e17 w17 hR17 M17 => ?_)))
 have hQ17:=hR17.mapSet (f:=cC) (x:=G xb+qC (mU cn xa xb) xb.mass cn.ny) rfl
 refine aB (aC ⟨dE, ?_⟩)
 refine bZ (gZ ?_)
 exact ⟨Z,e16,e17,by rw [← aOr hs hxa hxb hka hkb hc hba hbb];exact hQ16,by rw [← aOr hs hxa hxb hka hkb hc hba hbb];exact hQ17,M17.keep [true,true,true,false]⟩
theorem aJz (w:World) (bs:Nat) (rx ry:Row) (A:Option Addr) (n c:Nat) (xs:List Body) (R:Rd w 10 A n (xs.map aF)) (hs:bY xs) (hb:∀ b∈xs,Okb b) (B:Option Addr) (mc c':Nat) (cs:List Con) (R':Rd w 5 B mc (cs.map cM)) (hcs:∀ c∈cs,OkC xs c) (hmc:mc≤8589934592) (hrx:aR 2 1 rx.A rx.n rx.c ((xs.map (fun b=>gH xs (cs.take 0) (·.nx) b)).map cC) rx.e) (hry:aR 2 1 ry.A ry.n ry.c ((xs.map (fun b=>gH xs (cs.take 0) (·.ny) b)).map cC) ry.e) (hO:Own [(some bs,bc [.slice A n c,.slice rx.A rx.n rx.c,.slice ry.A ry.n ry.c] 303),rx.e,ry.e] w) (hdA:0 < n→∀ q off,A=some ⟨q,off,none⟩→q∉bI [(some bs,bc [.slice A n c,.slice rx.A rx.n rx.c,.slice ry.A ry.n ry.c] 303),rx.e,ry.e]) (hdB:0 < mc→∀ q off,B=some ⟨q,off,none⟩→q∉bI [(some bs,bc [.slice A n c,.slice rx.A rx.n rx.c,.slice ry.A ry.n ry.c] 303),rx.e,ry.e]) :
  Calls prog 219 #[.slice B mc c',.func (.func 220) #[.pointer (some ⟨bs,0,none⟩)] #[]] w (fE (fun v w'=>v=.tuple #[]∧∃ ex ey:cY,aR 2 1 rx.A rx.n rx.c ((xs.map (fun b=>gH xs cs (·.nx) b)).map cC) ex∧aR 2 1 ry.A ry.n ry.c ((xs.map (fun b=>gH xs cs (·.ny) b)).map cC) ey∧Mem w (bI [(some bs,bc [.slice A n c,.slice rx.A rx.n rx.c,.slice ry.A ry.n ry.c] 303),rx.e,ry.e]) [(some bs,bc [.slice A n c,.slice rx.A rx.n rx.c,.slice ry.A ry.n ry.c] 303),ex,ey] w')):=by
 have hlen:xs.length=n:=by simpa using R.len
 have hbd:=R.bound
 have hclen:cs.length=mc:=by simpa using R'.len
 have hbd':=R'.bound
 refine aH #[] 16 func219 Z results219 ntmps219 Z ?_
 have M0:=hO.mem
 refine aD (aA (dZ Z Z (wq (cG underlying166 Z) Z (aX Z Z (aB (aC (aT (dK (σ:=Nat × cY × cY) [1,6,7] (fun (k,ex,ey)=>[(8,.int .i64 (k:Int))]) (fun (k,ex,ey) w'=>(k≤mc∧aR 2 1 rx.A rx.n rx.c ((xs.map (fun b=>gH xs (cs.take k) (·.nx) b)).map cC) ex∧aR 2 1 ry.A ry.n ry.c ((xs.map (fun b=>gH xs (cs.take k) (·.ny) b)).map cC) ey)∧Mem w (bI [(some bs,bc [.slice A n c,.slice rx.A rx.n rx.c,.slice ry.A ry.n ry.c] 303),rx.e,ry.e]) [(some bs,bc [.slice A n c,.slice rx.A rx.n rx.c,.slice ry.A ry.n ry.c] 303),ex,ey] w') (fun (k,ex,ey)=>mc - k) (0,rx.e,ry.e) (bN Z eZ) (⟨⟨by omega,hrx,hry⟩,M0⟩) ?_))))))))
 rintro ⟨k,ex,ey⟩ ρ1 w1 ⟨⟨hk,hqx,hqy⟩,hM1⟩
 refine aD (aA (dB Z Z Z Z (aB (aC (aD ?_)))))
 refine bA Z (fun h9 => ?_) (fun h9 => ?_)
 ·obtain ⟨cn,hcn⟩:=cF (xs:=cs) (k:=k) hclen (by omega)
  have hkx:∀ b∈xs, -1152921504606846976≤gH xs (cs.take k) (·.nx) b∧gH xs (cs.take k) (·.nx) b≤1152921504606846976:=fun b hbm=>by have:=uA (cs:=cs.take k) (g:=(·.nx)) hs hb (fun c h=>hcs c (List.mem_of_mem_take h)) (fun c h=>(hcs c (List.mem_of_mem_take h)).n.x) hbm;have:=List.length_take_le k cs;omega
  have hky:∀ b∈xs, -1152921504606846976≤gH xs (cs.take k) (·.ny) b∧gH xs (cs.take k) (·.ny) b≤1152921504606846976:=fun b hbm=>by have:=uA (cs:=cs.take k) (g:=(·.ny)) hs hb (fun c h=>hcs c (List.mem_of_mem_take h)) (fun c h=>(hcs c (List.mem_of_mem_take h)).n.y) hbm;have:=List.length_take_le k cs;omega
  refine aL (aC (aD (aT (aD (aA (wq (bR (k) aEk Z Z Z ((R'.memY hM1 hdB).below_len (aJ cM hcn)) ((R'.memY hM1 hdB).someK (aJ cM hcn))) Z (wq (dT _ gT (R'.memY hM1 hdB) (aJ cM hcn) Z) Z (aM tU hM1 Z Z (fun b2 w2 M2=>(aZ 3 _ gT M2 Z Z Z Z Z (aQ Z) Z (fun w3 M3=>(aB (aC (aA (wq (aG (.func _ _ _) Z) Z (wq (bB 3 gT M3 Z Z Z) Z (dU bFl Z Z (bBy _ bs ⟨rx.A,rx.n,rx.c,ex⟩ ⟨ry.A,ry.n,ry.c,ey⟩ (fun b=>gH xs (cs.take k) (·.nx) b) (fun b=>gH xs (cs.take k) (·.ny) b) A n c xs (R.memY M3 hdA) hs hb hqx hqy hkx hky cn (hcs cn (List.mem_of_getElem? hcn)) (M3.ownSeg 0 3) (M3.away 0 3 R hdA)) ?_)))))))))))))))))
  rintro v4 w4 ⟨rfl,ex2,ey2,hqx2,hqy2,hM4⟩
  have M4:Mem _ _ [_,_,_,_] _:=M3.seg 0 3 hM4
  refine aB (dF (aC (aA (wq (bM Z Z (by omega) (by omega)) Z (aX Z Z (aB ?_))))))
  refine cR (k+1,ex2,ey2) (bN Z eZ) (cT Z (cT Z (cT Z kB))) ?_ ?_
  ·exact ⟨⟨by omega,by rw [← aEb hcn];exact hqx2,by rw [← aEb hcn];exact hqy2⟩,M4.keep [true,true,true,false]⟩
  ·(show mc - (k+1) < mc - k;omega)
 ·have hkn:k=mc:=by omega
  rw [List.take_of_length_le (by omega)] at hqx hqy
  refine cO (dA (cX (eV (gZ ?_))))
  exact ⟨Z,ex,ey,hqx,hqy,hM1⟩
theorem Mem.rot3 {w0 w:World} {X:List Nat} {a b c:cY} (M:Mem w0 X [a,b,c] w):Mem w0 X [c,b,a] w:=M.perm (List.reverse_perm [a,b,c]).symm
theorem Mem.rot3' {w0 w:World} {X:List Nat} {a b c:cY} (M:Mem w0 X [a,b,c] w):Mem w0 X [c,a,b] w:=M.perm (List.perm_append_comm (l₁:=[a,b]) (l₂:=[c]))
theorem bDi {xs:List Body} {cs:List Con} {n:Nat} (hs:bY xs) (hb:∀ b∈xs,Okb b) (hcs:∀ c∈cs,OkC xs c) (hn:cs.length=n) (hl:n≤8589934592) {b:Body} (h:b∈xs):(-1152921504606846976≤gH xs cs (·.nx) b∧gH xs cs (·.nx) b≤1152921504606846976) ∧ -1152921504606846976≤gH xs cs (·.ny) b∧gH xs cs (·.ny) b≤1152921504606846976:=by
 have h1:=uA (cs:=cs) (g:=(·.nx)) hs hb hcs (fun c h=>(hcs c h).n.x) h
 have h2:=uA (cs:=cs) (g:=(·.ny)) hs hb hcs (fun c h=>(hcs c h).n.y) h
 omega
theorem aUm (w:World) (A:Option Addr) (n c:Nat) (xs:List Body) (R:Rd w 10 A n (xs.map aF)) (hs:bY xs) (hb:∀ b∈xs,Okb b) (hn:n≤1048576) (B:Option Addr) (mc c':Nat) (cs:List Con) (R':Rd w 5 B mc (cs.map cM)) (hcs:∀ c∈cs,OkC xs c) (hmc:mc≤8589934592) :
  Calls prog 186 #[.slice A n c,.slice B mc c'] w (fE (fun v w'=>∃ rx ry:Row,v=.tuple #[.slice rx.A rx.n rx.c,.slice ry.A ry.n ry.c]∧aR 2 1 rx.A rx.n rx.c ((xs.map (fun b=>gH xs cs (·.nx) b)).map cC) rx.e∧aR 2 1 ry.A ry.n ry.c ((xs.map (fun b=>gH xs cs (·.ny) b)).map cC) ry.e∧Mem w [] [rx.e,ry.e] w')):=by
 have hlen:xs.length=n:=by simpa using R.len
 have hbd:=R.bound
 have hclen:cs.length=mc:=by simpa using R'.len
 have hbd':=R'.bound
 have hz0:∀ g:Con→Int,List.replicate n ([.int .i64 0]:List Value)=(xs.map (fun b=>gH xs (cs.take 0) g b)).map cC:=fun g=>by rw [bCp,aPf hlen (0:Int)];exact congrArg (List.map cC) (List.map_congr_left (fun b _=>(aTk xs cs g b).symm))
 refine aH #[.tmp 4,.tmp 5] 28 func186 Z results186 ntmps186 Z ?_
 have M0:=Mem.refl w
 refine aD (aA (eX Z Z (eX Z Z (aB (aC (aD (aVf [(0,0),(1,0),(2,0),(4,0),(5,0)] 3 6 [(6,2),(7,0),(8,2),(9,0)] [(3,2),(7,0),(8,2),(9,0)] mixed Z (by kernel_rfl) (fun w1 hb1 hh1 => ?_))))))))
 have M1:=M0.drew hb1 hh1
 refine uX Z Z Z (fun _=>aG (.slice _ _ _) Z) (uX Z Z Z (fun _=>aG (.slice _ _ _) Z) (uX Z Z Z (fun _=>cG underlying29 Z) (uX Z Z Z (fun _=>aG (.slice _ _ _) Z) (uX Z Z Z (fun _=>cG underlying29 Z) ?_))))
 refine aOj ?_ ?_
 ·refine dD [] Z (by kernel_rfl) (jU (n) [.int .i64 0] nF zI Z M1 Z Z Z Z Z Z (by omega) (by omega) (fun b2 w2 M2 => ?_))
  have hL10:=kC (T:=2) (sz:=1) (b:=b2) (nn:=n) (List.replicate n [.int .i64 0]) (fun l hl=>by rw [List.eq_of_mem_replicate hl];rfl) (by simp) (by omega)
  rw [hz0 (·.nx)] at hL10
  rw [hz0 (·.nx)] at M2
  refine aB (aC ⟨dE, ?_⟩)
  refine dD [] Z (by kernel_rfl) (jU (n) [.int .i64 0] nF zI Z M2 Z Z Z Z Z Z (by omega) (by omega) (fun b3 w3 M3 => ?_))
  have hL13:=kC (T:=2) (sz:=1) (b:=b3) (nn:=n) (List.replicate n [.int .i64 0]) (fun l hl=>by rw [List.eq_of_mem_replicate hl];rfl) (by simp) (by omega)
  rw [hz0 (·.ny)] at hL13
  rw [hz0 (·.ny)] at M3
  refine aB (aC ⟨dE, ?_⟩)
  refine aU Z Z Z (fun _=>cE [(0,.slice _ _ _),(1,.slice _ _ _),(2,.slice _ _ _)] _ aDn Z Z) (dD [] Z (by kernel_rfl) (bH (.agg (.mk _)) M3 Z Z Z (fun b4 w4 M4 => ?_)))
  refine aB (aC ⟨dE, ?_⟩)
  refine aU Z Z Z (fun _=>aI (.pointer _) Z) (bZ (aC (aD (aA (dZ Z Z (wq (aG (.pointer _) Z) Z (wq (cH [.pointer _] [] Z Z) Z ?_)))))))
  have M5:Mem _ _ [_,_,_] _:=Mem.rot3' M4
  refine dU aWk rfl rfl (aJz _ b4 ⟨some ⟨b2,0,none⟩,n,n,(some b2,bc ((xs.map (fun b=>gH xs (cs.take 0) (·.nx) b)).map cC).flatten 2)⟩ ⟨some ⟨b3,0,none⟩,n,n,(some b3,bc ((xs.map (fun b=>gH xs (cs.take 0) (·.ny) b)).map cC).flatten 2)⟩ A n c xs (R.mem M5) hs hb B mc c' cs (R'.mem M5) hcs hmc hL10 hL13 (M5.ownSeg 0 3) (M5.away 0 3 R (by simp)) (M5.away 0 3 R' (by simp))) ?_
  rintro v6 w6 ⟨rfl,ex,ey,hqx,hqy,hM6⟩
  have M6:Mem _ _ [_,_,_] _:=M5.seg 0 3 hM6
  refine aB (aC (aD (gJ [(0,0),(1,0),(2,0),(3,1),(4,0),(5,0),(6,0),(7,1),(8,0),(9,0)] mixed M6 Z (by kernel_rfl) (fun w7 M7=>(aU Z Z Z (fun _=>aG (.pointer _) Z) (aU Z Z Z (fun _=>aO Z) (aU Z Z Z (fun _=>aE 1 oA Z) (bS Z Z Z (aK 0 (.slice _ _ _) lH M7 Z Z Z) (aU Z Z Z (fun _=>aG (.pointer _) Z) (aU Z Z Z (fun _=>aO Z) (aU Z Z Z (fun _=>aE 2 nZ Z) (bS Z Z Z (aK 0 (.slice _ _ _) lH M7 Z Z Z) (aU Z Z Z (fun _=>aI (.slice _ _ _) Z) ?_)))))))))))))
  refine aU Z Z Z (fun _=>aI (.slice _ _ _) Z) (bZ (aC (aP (gY (.slice _ _ _) (.slice _ _ _) Z Z ?_))))
  exact ⟨⟨(some ⟨b2,0,none⟩),n,n,ex⟩,⟨(some ⟨b3,0,none⟩),n,n,ey⟩,Z,hqx,hqy,M7.keep [false,true,true]⟩
 ·refine dD [] Z (by kernel_rfl) (jU (n) [.int .i64 0] nF zI Z M1 Z Z Z Z Z Z (by omega) (by omega) (fun b8 w8 M8 => ?_))
  have hL13:=kC (T:=2) (sz:=1) (b:=b8) (nn:=n) (List.replicate n [.int .i64 0]) (fun l hl=>by rw [List.eq_of_mem_replicate hl];rfl) (by simp) (by omega)
  rw [hz0 (·.ny)] at hL13
  rw [hz0 (·.ny)] at M8
  refine aB (aC ⟨dE, ?_⟩)
  refine dD [] Z (by kernel_rfl) (jU (n) [.int .i64 0] nF zI Z M8 Z Z Z Z Z Z (by omega) (by omega) (fun b9 w9 M9 => ?_))
  have hL10:=kC (T:=2) (sz:=1) (b:=b9) (nn:=n) (List.replicate n [.int .i64 0]) (fun l hl=>by rw [List.eq_of_mem_replicate hl];rfl) (by simp) (by omega)
  rw [hz0 (·.nx)] at hL10
  rw [hz0 (·.nx)] at M9
  refine aB (aC ⟨dE, ?_⟩)
  refine aU Z Z Z (fun _=>cE [(0,.slice _ _ _),(1,.slice _ _ _),(2,.slice _ _ _)] _ aDn Z Z) (dD [] Z (by kernel_rfl) (bH (.agg (.mk _)) M9 Z Z Z (fun b10 w10 M10 => ?_)))
  refine aB (aC ⟨dE, ?_⟩)
  refine aU Z Z Z (fun _=>aI (.pointer _) Z) (bZ (aC (aD (aA (dZ Z Z (wq (aG (.pointer _) Z) Z (wq (cH [.pointer _] [] Z Z) Z ?_)))))))
  have M11:Mem _ _ [_,_,_] _:=Mem.rot3 M10
  refine dU aWk rfl rfl (aJz _ b10 ⟨some ⟨b9,0,none⟩,n,n,(some b9,bc ((xs.map (fun b=>gH xs (cs.take 0) (·.nx) b)).map cC).flatten 2)⟩ ⟨some ⟨b8,0,none⟩,n,n,(some b8,bc ((xs.map (fun b=>gH xs (cs.take 0) (·.ny) b)).map cC).flatten 2)⟩ A n c xs (R.mem M11) hs hb B mc c' cs (R'.mem M11) hcs hmc hL10 hL13 (M11.ownSeg 0 3) (M11.away 0 3 R (by simp)) (M11.away 0 3 R' (by simp))) ?_
  rintro v12 w12 ⟨rfl,ex,ey,hqx,hqy,hM12⟩
  have M12:Mem _ _ [_,_,_] _:=M11.seg 0 3 hM12
  refine aB (aC (aD (gJ [(0,0),(1,0),(2,0),(3,1),(4,0),(5,0),(6,0),(7,1),(8,0),(9,0)] mixed M12 Z (by kernel_rfl) (fun w13 M13=>(aU Z Z Z (fun _=>aG (.pointer _) Z) (aU Z Z Z (fun _=>aO Z) (aU Z Z Z (fun _=>aE 1 oA Z) (bS Z Z Z (aK 0 (.slice _ _ _) lH M13 Z Z Z) (aU Z Z Z (fun _=>aG (.pointer _) Z) (aU Z Z Z (fun _=>aO Z) (aU Z Z Z (fun _=>aE 2 nZ Z) (bS Z Z Z (aK 0 (.slice _ _ _) lH M13 Z Z Z) (aU Z Z Z (fun _=>aI (.slice _ _ _) Z) ?_)))))))))))))
  refine aU Z Z Z (fun _=>aI (.slice _ _ _) Z) (bZ (aC (aP (gY (.slice _ _ _) (.slice _ _ _) Z Z ?_))))
  exact ⟨⟨(some ⟨b9,0,none⟩),n,n,ex⟩,⟨(some ⟨b8,0,none⟩),n,n,ey⟩,Z,hqx,hqy,M13.keep [false,true,true]⟩
theorem aQz (w:World) (A:Option Addr) (n c:Nat) (xs:List Body) (R:Rd w 10 A n (xs.map aF)) (hs:bY xs) (hb:∀ b∈xs,Okb b) (hn:n≤1048576) (B:Option Addr) (mc c':Nat) (cs:List Con) (R':Rd w 5 B mc (cs.map cM)) (hcs:∀ c∈cs,OkC xs c) (hmc:mc≤8589934592) :
  Calls prog 160 #[.slice A n c,.slice B mc c'] w (fE (fun v w'=>∃ r:Row,v=.tuple #[.slice r.A r.n r.c,.bool (aZe xs cs)]∧aR 39 10 r.A r.n r.c ((aGu xs cs).map aF) r.e∧Mem w [] [r.e] w')):=by
 have hlen:xs.length=n:=by simpa using R.len
 have hbd:=R.bound
 have hclen:cs.length=mc:=by simpa using R'.len
 have hbd':=R'.bound
 refine aH #[.tmp 4,.tmp 5] 75 func160 Z results160 ntmps160 Z ?_
 have M0:=Mem.refl w
 refine aD (aA (eX Z Z (wq (aI (.bool false) Z) Z (aB (aC (aD (aA (dZ Z Z (dZ Z Z (dU bIl Z Z (aUm _ A n c xs (R.mem M0) hs hb hn B mc c' cs (R'.mem M0) hcs hmc) ?_))))))))))
 rintro v1 w1 ⟨rx,ry,rfl,hrx,hry,hM1⟩
 have M1:Mem _ _ [_,_] _:=M0.call0 hM1
 have hrxn:xs.length=rx.n:=by simpa using hrx.1
 have hryn:xs.length=ry.n:=by simpa using hry.1
 refine wq (aG (.tuple (List.toArray _)) Z) Z (wq (bE (.slice _ _ _) Z Z) Z (wq (bE (.slice _ _ _) Z Z) Z (eX Z Z (eX Z Z (aB (aC (aD (aA (wq (aI (.bool false) Z) Z (aB (aC (aD (aA (eX Z Z ?_))))))))))))))
 have M2:=M1.dummy default
 refine aB (aC (aD (aD (aA (dZ Z Z (wq (cG underlying29 Z) Z (aX Z Z (aB (aC (aT (dK (σ:=Nat × Row) [4,5,6,7,22,23] (fun (k,q)=>[(8,.bool ((xs.take k).any (bDm xs cs))),(9,.slice q.A q.n q.c),(24,.int .i64 (k:Int))]) (fun (k,q) w'=>(k≤n∧aR 39 10 q.A q.n q.c (((xs.take k).map (aJf xs cs)).map aF) q.e)∧Mem w [] [rx.e,ry.e,q.e] w') (fun (k,q)=>n - k) (0,fM) (bN (bv Z Z) (bN Z (bN Z eZ))) (⟨⟨by omega,aR.nil _ _ _⟩,M2⟩) ?_)))))))))))
 rintro ⟨k,q⟩ ρ3 w3 ⟨⟨hk,hq⟩,hM3⟩
 have htl:=List.length_take_le k xs
 have hqn:(xs.take k).length=q.n:=by simpa using hq.1
 refine aD (aA (dB Z Z Z Z (aB (aC (aD ?_)))))
 refine bA Z (fun h25 => ?_) (fun h25 => ?_)
 ·obtain ⟨xb,hxb⟩:=cF (xs:=xs) (k:=k) hlen (by omega)
  have hxm:=List.mem_of_getElem? hxb
  have hsb:=bDi hs hb hcs hclen hmc hxm
  have hvb:=(hb xb hxm).v
  have hlx:=eJ (xb.vx+gH xs cs (·.nx) xb) (l:=16777216) (by decide)
  have hly:=eJ (xb.vy+gH xs cs (·.ny) xb) (l:=16777216) (by decide)
  refine aL (aC (aD (aT (aD (aA (aX Z Z (wq (bR (k) fC Z Z Z ((R.mem hM3).below_len (aJ aF hxb)) ((R.mem hM3).someK (aJ aF hxb))) Z (wq (dT _ bU (R.mem hM3) (aJ aF hxb) Z) Z (aM iD hM3 Z Z (fun b4 w4 M4=>(bP Z Z (aZ 3 _ bU M4 Z Z Z Z Z (aQ Z) Z (fun w5 M5=>(aB (aC (aD (gJ [(0,0),(1,0),(2,1),(3,0),(4,0),(5,0),(6,1),(7,1),(8,0),(9,2),(10,0),(11,0),(12,0),(13,0),(14,0)] mixed M5 Z (by kernel_rfl) (fun w6 M6=>(aU Z Z Z (fun _=>aE 8 fS Z) ?_)))))))))))))))))))
  refine aU Z Z Z (fun _=>aE 0 eB Z) (bS Z Z Z (aK 3 (.int _ _) aY M6 Z Z Z) (aU Z Z Z (fun _=>bV gI underlying2 Z (kO _ (by omega) (by omega))) (sH Z Z Z (gR Z Z Z (bS Z Z Z (bR (k) nF Z Z Z ((hrx.rd M6 (aV (i:=0) Z)).below_len (aJ cC (aJ _ hxb))) ((hrx.rd M6 (aV (i:=0) Z)).someK (aJ cC (aJ _ hxb)))) (bS Z Z Z (gL (.int _ _) mI (hrx.rd M6 (aV (i:=0) Z)) (aJ cC (aJ _ hxb)) Z) (aU Z Z Z (fun _=>bM Z Z (by omega) (by omega)) ?_)))))))
  refine dD [true,true,true] Z (by kernel_rfl) (dI aKt Z Z M6 (aAc _ (xb.vx+gH xs cs (·.nx) xb) 16777216 ⟨by decide,by decide⟩) (fun w7 M7 => ?_))
  refine aB (aC ⟨dE, ?_⟩)
  refine aU Z Z Z (fun _=>aG (.tuple (List.toArray _)) Z) (aU Z Z Z (fun _=>bE (.int _ _) Z Z) (aU Z Z Z (fun _=>bE (.bool (decide _)) Z Z) (qB Z Z Z (aU Z Z Z (fun _=>aI (.bool (decide _)) Z) (bZ (aC (aD (gJ [(0,0),(1,0),(2,1),(3,0),(4,0),(5,0),(6,1),(7,1),(8,0),(9,2),(10,0),(11,0),(12,0),(13,0),(14,0)] mixed M7 Z (by kernel_rfl) (fun w8 M8=>(aU Z Z Z (fun _=>aE 8 fS Z) (aU Z Z Z (fun _=>aE 1 dQ Z) (bS Z Z Z (aK 3 (.int _ _) aY M8 Z Z Z) ?_))))))))))))
  refine aU Z Z Z (fun _=>bV gI underlying2 Z (kO _ (by omega) (by omega))) (sH Z Z Z (gR Z Z Z (bS Z Z Z (bR (k) nF Z Z Z ((hry.rd M8 (aV (i:=1) Z)).below_len (aJ cC (aJ _ hxb))) ((hry.rd M8 (aV (i:=1) Z)).someK (aJ cC (aJ _ hxb)))) (bS Z Z Z (gL (.int _ _) mI (hry.rd M8 (aV (i:=1) Z)) (aJ cC (aJ _ hxb)) Z) (aU Z Z Z (fun _=>bM Z Z (by omega) (by omega)) (dD [true,true,true] Z (by kernel_rfl) (dI aKt Z Z M8 (aAc _ (xb.vy+gH xs cs (·.ny) xb) 16777216 ⟨by decide,by decide⟩) (fun w9 M9 => ?_))))))))
  refine aB (aC ⟨dE, ?_⟩)
  refine aU Z Z Z (fun _=>aG (.tuple (List.toArray _)) Z) (aU Z Z Z (fun _=>bE (.int _ _) Z Z) (aU Z Z Z (fun _=>bE (.bool (decide _)) Z Z) (qB Z Z Z (aU Z Z Z (fun _=>aI (.bool (decide _)) Z) (bZ (aC (aD (aA (aX Z Z (wq (bV us2 underlying21 Z (mT _ (by omega) (by omega))) Z (aX Z Z (wq (bV us2 underlying21 Z (mT _ (by omega) (by omega))) Z (wq (cE [(0,.int _ _),(1,.int _ _)] _ fD Z Z) Z (wq (aE 8 fS Z) Z (aGj 3 _ bL M9 Z Z Z Z Z (aQ Z) (Nat.le_of_ble_eq_true Z) (fun w10 M10 => ?_))))))))))))))))
  refine aB (aC (aD (aA (wq (aG (.bool _) Z) Z (wq (aG (.bool _) Z) Z ?_)))))
  refine oO 62 _ Z (fun g62 => ?_) (fun g62 => ?_)
  ·refine aW rfl rfl (wq (bX true (.bool true) rfl rfl) rfl (wq (aG (.bool true) rfl) rfl (aW rfl rfl (wq (bX true (.bool true) rfl rfl) rfl (wq (aI (.bool true) rfl) rfl (aB (aC (aA (dZ rfl rfl (wq (bB 3 bU M10 rfl rfl rfl) rfl (cP [.agg (List.toArray _)] [aF (aJf xs cs xb)] rfl fC M10 rfl rfl rfl rfl (cW rfl) (by decide) (fun b11 w11 M11=>(dL 2 [aF (aJf xs cs xb)] fC M11 rfl rfl rfl rfl rfl hq rfl (by simp [aF,Go.Bil.one]) (cZ.ofMem 4 M11 rfl) (by omega) (fun A12 c12 e12 w12 M12 hR12=>(eX rfl rfl (aB ?_))))))))))))))))
   refine dF (aC (aA (wq (bM Z Z (by omega) (by omega)) Z (aX Z Z (aB ?_)))))
   refine cR (k+1,⟨A12,q.n+1,c12,e12⟩) (bN (bv Z (by rw [cQ hxb,List.any_append,List.any_cons,List.any_nil,Bool.or_false];rw [g62,Bool.true_or])) (bN Z (bN Z eZ))) (cT Z (cT Z (cT Z (cT Z (cT Z (cT Z kB)))))) ?_ ?_
   ·exact ⟨⟨by omega,by rw [cQ hxb,List.map_append,List.map_append];exact hR12⟩,M12.keep [true,true,true,false,false]⟩
   ·(show n - (k+1) < n - k;omega)
  ·refine wq (aG (.bool (decide _)) Z) Z (wq (bX false (.bool (decide _)) Z Z) Z (wq (aG (.bool (decide _)) Z) Z ?_))
   refine dV 65 Z (fun g65 => ?_) (fun g65 => ?_)
   ·refine aW rfl rfl (wq (bX true (.bool true) rfl rfl) rfl (wq (aI (.bool true) rfl) rfl (aB (aC (aA (dZ rfl rfl (wq (bB 3 bU M10 rfl rfl rfl) rfl (cP [.agg (List.toArray _)] [aF (aJf xs cs xb)] rfl fC M10 rfl rfl rfl rfl (cW rfl) (by decide) (fun b13 w13 M13=>(dL 2 [aF (aJf xs cs xb)] fC M13 rfl rfl rfl rfl rfl hq rfl (by simp [aF,Go.Bil.one]) (cZ.ofMem 4 M13 rfl) (by omega) (fun A14 c14 e14 w14 M14 hR14=>(eX rfl rfl (aB (dF (aC (aA (wq (bM rfl rfl (by omega) (by omega)) rfl (aX rfl rfl (aB ?_)))))))))))))))))))
    refine cR (k+1,⟨A14,q.n+1,c14,e14⟩) (bN (bv rfl (by rw [cQ hxb,List.any_append,List.any_cons,List.any_nil,Bool.or_false];rw [g62];simp [bDm,g65])) (bN rfl (bN rfl eZ))) (cT rfl (cT rfl (cT rfl (cT rfl (cT rfl (cT rfl kB)))))) ?_ ?_
    ·exact ⟨⟨by omega,by rw [cQ hxb,List.map_append,List.map_append];exact hR14⟩,M14.keep [true,true,true,false,false]⟩
    ·(show n - (k+1) < n - k;omega)
   ·refine wq (aG (.bool (decide _)) rfl) rfl (wq (bX false (.bool (decide _)) rfl rfl) rfl (wq (aI (.bool (decide _)) rfl) rfl (aB (aC (aA (dZ rfl rfl (wq (bB 3 bU M10 rfl rfl rfl) rfl (cP [.agg (List.toArray _)] [aF (aJf xs cs xb)] rfl fC M10 rfl rfl rfl rfl (cW rfl) (by decide) (fun b15 w15 M15=>(dL 2 [aF (aJf xs cs xb)] fC M15 rfl rfl rfl rfl rfl hq rfl (by simp [aF,Go.Bil.one]) (cZ.ofMem 4 M15 rfl) (by omega) (fun A16 c16 e16 w16 M16 hR16=>(eX rfl rfl (aB (dF (aC (aA (wq (bM rfl rfl (by omega) (by omega)) rfl ?_)))))))))))))))))
    refine aX Z Z (aB ?_)
    refine cR (k+1,⟨A16,q.n+1,c16,e16⟩) (bN (bv rfl (by rw [cQ hxb,List.any_append,List.any_cons,List.any_nil,Bool.or_false];rw [g62];simp [bDm,g65])) (bN rfl (bN rfl eZ))) (cT rfl (cT rfl (cT rfl (cT rfl (cT rfl (cT rfl kB)))))) ?_ ?_
    ·exact ⟨⟨by omega,by rw [cQ hxb,List.map_append,List.map_append];exact hR16⟩,M16.keep [true,true,true,false,false]⟩
    ·(show n - (k+1) < n - k;omega)
 ·have hkn:k=n:=by omega
  rw [List.take_of_length_le (by omega)] at hq
  refine cO (dA (cX (eV (aC (aD (aA (dZ Z Z (wq (aG (.bool _) Z) Z (eX Z Z (wq (aI (.bool _) Z) Z (aB (aC (aP (gY (.slice _ _ _) (.bool _) Z Z ?_))))))))))))))
  exact ⟨q,aCd Z (congrArg Value.bool (by rw [List.take_of_length_le (by omega)];rfl)),hq,hM3.keep [false,false,true]⟩
theorem aRk (w:World) (A:Option Addr) (n c:Nat) (xs:List Body) (R:Rd w 10 A n (xs.map aF)) (hs:bY xs) (hb:∀ b∈xs,Okb b) (hn:n≤1048576) (B:Option Addr) (mc c':Nat) (cs:List Con) (R':Rd w 5 B mc (cs.map cM)) (hcs:∀ c∈cs,OkC xs c) (hmc:mc≤8589934592) :
  Calls prog 146 #[.slice A n c,.slice B mc c'] w (fE (fun v w'=>∃ r:Row,v=.tuple #[.slice r.A r.n r.c,.bool (iR xs cs 4).2]∧aR 39 10 r.A r.n r.c (((iR xs cs 4).1).map aF) r.e∧Mem w [] [r.e] w')):=by
 have hlen:xs.length=n:=by simpa using R.len
 have hbd:=R.bound
 have hclen:cs.length=mc:=by simpa using R'.len
 have hbd':=R'.bound
 refine aH #[.tmp 4,.tmp 5] 25 func146 Z results146 ntmps146 Z ?_
 have M0:=Mem.refl w
 refine aD (aA (eX Z Z (wq (aI (.bool false) Z) Z (aB (aC (aD (aA (wq (aI (.bool false) Z) Z ?_))))))))
 have M1:=M0.dummy default
 refine aB (aC (aD (aD (aA (aX Z Z (aB (aC (aT (dK (σ:=Nat × Row) [1,4,5] (fun (k,q)=>[(0,.slice q.A q.n q.c),(6,.bool (iR xs cs k).2),(9,.int .i64 (k:Int))]) (fun (k,q) w'=>(k≤4∧Rd w' 10 q.A q.n ((iR xs cs k).1.map aF)∧(0 < k→aR 39 10 q.A q.n q.c (((iR xs cs k).1).map aF) q.e))∧Mem w [] [q.e] w') (fun (k,q)=>4 - k) (0,⟨A,n,c,(none,default)⟩) (bN Z (bN (bv Z Z) (bN Z eZ))) (⟨⟨by omega,R.mem M1,(fun h=>absurd h (by omega))⟩,M1⟩) ?_)))))))))
 rintro ⟨k,q⟩ ρ2 w2 ⟨⟨hk,hRq,hq⟩,hM2⟩
 have hql:(iR xs cs k).1.length=q.n:=by simpa using hRq.len
 have hsl:=(kH xs cs k).len
 refine aD (aA (dB Z Z Z Z (aB (aC (aD ?_)))))
 refine bA Z (fun h10 => ?_) (fun h10 => ?_)
 ·refine aL (aC (aD (aT (aD (aA (dZ Z Z (dZ Z Z (dU bJd Z Z (aQz _ q.A q.n q.c (iR xs cs k).1 hRq ((kH xs cs k).sorted hs) (uG hb k) (by omega) B mc c' cs (R'.mem hM2) (fun c h=>(kH xs cs k).okc (hcs c h)) hmc) ?_))))))))
  rintro v3 w3 ⟨r,rfl,hr,hM3⟩
  have M3:Mem _ _ [_,_] _:=hM2.call0 hM3
  refine wq (aG (.tuple (List.toArray _)) Z) Z (wq (bE (.slice _ _ _) Z Z) Z (wq (bE (.bool _) Z Z) Z (eX Z Z (wq (aI (.bool _) Z) Z (aB (aC (aA (dZ Z Z (wq (aG (.bool _) Z) Z (wq (aG (.bool _) Z) Z ?_))))))))))
  refine oO 19 _ Z (fun g19 => ?_) (fun g19 => ?_)
  ·refine aW Z Z (wq (bX true (.bool true) Z Z) Z (eX Z Z (wq (aI (.bool true) Z) Z (aB (dF (aC (aA (wq (bM Z Z (by omega) (by omega)) Z (aX Z Z (aB ?_))))))))))
   refine cR (k+1,r) (bN Z (bN (bv Z (by show true=(_ || _);rw [g19,Bool.true_or])) (bN Z eZ))) (cT Z (cT Z (cT Z kB))) ?_ ?_
   ·exact ⟨⟨by omega,hr.rd M3 (aV (i:=1) Z),(fun _=>hr)⟩,M3.keep [false,true]⟩
   ·(show 4 - (k+1) < 4 - k;omega)
  ·refine wq (aG (.bool _) Z) Z (wq (bX false (.bool _) Z Z) Z (eX Z Z (wq (aI (.bool _) Z) Z (aB (dF (aC (aA (wq (bM Z Z (by omega) (by omega)) Z (aX Z Z (aB ?_))))))))))
   refine cR (k+1,r) (bN Z (bN (bv Z (by show _=(_ || _);rw [g19,Bool.false_or])) (bN Z eZ))) (cT Z (cT Z (cT Z kB))) ?_ ?_
   ·exact ⟨⟨by omega,hr.rd M3 (aV (i:=1) Z),(fun _=>hr)⟩,M3.keep [false,true]⟩
   ·(show 4 - (k+1) < 4 - k;omega)
 ·have hk4:k=4:=by omega
  rw [hk4] at hq
  refine cO (dA (cX (eV (aC (aD (aA (dZ Z Z (wq (aG (.bool _) Z) Z (eX Z Z (wq (aI (.bool _) Z) Z (aB (aC (aP (gY (.slice _ _ _) (.bool _) Z Z ?_))))))))))))))
  exact ⟨q,aCd Z (congrArg Value.bool (by rw [hk4])),hq (by omega),hM2⟩
theorem aBr (w:World) (c:Con) (a b:Body) (hc:Okn c) (ha:Okb a) (hb:Okb b) :
  Calls prog 190 #[.agg (cM c).toArray,(.agg (aF a).toArray),(.agg (aF b).toArray)] w (Rb w (.int .i64 (qS c a b))):=by
 have hdp:=hc.d
 have hm1:=ha.m
 have hm2:=hb.m
 refine aH #[.tmp 6] 27 func190 Z results190 ntmps190 Z ?_
 have M0:=Mem.refl w
 refine aD (aA (bH (.agg (.mk _)) M0 Z Z Z (fun b1 w1 M1=>(bH (.agg (.mk _)) M1 Z Z Z (fun b2 w2 M2=>(bH (.agg (.mk _)) M2 Z Z Z (fun b3 w3 M3=>(bP Z Z (aB (aC (aD (aA (wq (aE 4 aXp Z) Z (wq (aK 0 (.int _ _) aY M3 Z Z Z) Z (wq (bV gI underlying2 Z (kO _ (by omega) (by omega))) Z (wq (lY Z Z (by omega) (by omega)) Z (bP Z Z (aB (aC (aD (aD (aA (aX Z Z (dB Z Z Z Z (wq (aG (.bool (decide _)) Z) Z ?_)))))))))))))))))))))))))
 refine dV 14 Z (fun g14 => ?_) (fun g14 => ?_)
 ·refine aW Z Z (aW Z Z (aW Z Z (aW Z Z (aW Z Z (aW Z Z (aW Z Z (aW Z Z (wq (bX true (.bool true) Z Z) Z (aB (aC (cU Z (aD (aA (bP Z Z (aB (aC (aP (cL (cB (.int _ _) Z ?_)))))))))))))))))))
  exact ⟨iE (by unfold qS;rw [if_pos (by omega)]),M3.below⟩
 ·refine wq (aE 4 fR Z) Z (wq (aK 1 (.int _ _) aY M3 Z Z Z) Z (dB Z Z Z Z (wq (aG (.bool (decide _)) Z) Z ?_)))
  refine dV 18 Z (fun g18 => ?_) (fun g18 => ?_)
  ·refine wq (aE 4 fR Z) Z (wq (aK 2 (.int _ _) aY M3 Z Z Z) Z (dB Z Z Z Z (wq (bX true (.bool (decide _)) Z Z) Z (wq (bX false (.bool (decide _)) Z Z) Z (aB (aC ?_))))))
   refine bA Z (fun h23 => ?_) (fun h23 => ?_)
   ·refine aD (aA (bP Z Z (aB (aC (aP (cL (cB (.int _ _) Z ?_)))))))
    exact ⟨iE (by unfold qS;rw [if_pos (by omega)]),M3.below⟩
   ·refine aL (aC (aD (aA (aX Z Z (wq (fY Z Z (by omega) (by omega)) Z (wq (hJ Z Z (by decide)) Z (bP Z Z (aB (aC (aP (cB (.int _ _) Z ?_)))))))))))
    exact ⟨iE (by unfold qS;rw [if_neg (by omega)];exact mY _),M3.below⟩
  ·refine aW Z Z (aW Z Z (aW Z Z (wq (bX false (.bool false) Z Z) Z (wq (bX false (.bool false) Z Z) Z (aB (aC (bW Z (aL (aC (aD (aA (aX Z Z (wq (fY Z Z (by omega) (by omega)) Z (wq (hJ Z Z (by decide)) Z (bP Z Z (aB (aC (aP (cB (.int _ _) Z ?_)))))))))))))))))))
   exact ⟨iE (by unfold qS;rw [if_neg (by omega)];exact mY _),M3.below⟩
theorem aDj (w:World) (c:Con) (a b:Body) (hc:Okn c) (ha:Okb a) (hb:Okb b) (hi:Bool) :
  Calls prog 163 #[.agg (cM c).toArray,(.agg (aF a).toArray),(.agg (aF b).toArray),.bool hi] w (Rb w (.int .i64 (pP c a b (if hi=true then b.mass else a.mass)))):=by
 have hdp:=hc.d
 have hm1:=ha.m
 have hm2:=hb.m
 have hm0:0≤(if hi=true then b.mass else a.mass)∧(if hi=true then b.mass else a.mass)≤1048576:=by split <;> omega
 have hsr:=bDp (a:=a) (b:=b) hc hm0
 have har:=aGw (a:=a) (b:=b) hc
 refine aH #[.tmp 8] 36 func163 Z results163 ntmps163 Z ?_
 have M0:=Mem.refl w
 refine aD (aA (bH (.agg (.mk _)) M0 Z Z Z (fun b1 w1 M1=>(bH (.agg (.mk _)) M1 Z Z Z (fun b2 w2 M2=>(bH (.agg (.mk _)) M2 Z Z Z (fun b3 w3 M3=>(bP Z Z (aB (aC (aD (aA (wq (aE 4 fR Z) Z (wq (aK 1 (.int _ _) aY M3 Z Z Z) Z (bP Z Z (aB (aC (aD (aD (aA (wq (aG (.bool _) Z) Z (aB (aC ?_)))))))))))))))))))))))
 refine iG _ Z (fun h14 => ?_) (fun h14 => ?_)
 ·refine aA (wq (aE 4 fR Z) Z (wq (aK 2 (.int _ _) aY M3 Z Z Z) Z (bP Z Z (aB (aC (aD (gJ [(0,1),(1,1),(2,1),(4,0),(5,0),(6,0),(7,1),(8,0),(9,0),(10,1),(11,0),(12,0),(13,0),(3,2),(14,2),(15,0),(16,0),(17,0),(18,0),(19,0)] mixed M3 Z (by kernel_rfl) (fun w4 M4=>(bS Z Z Z (bB 0 gT M4 Z Z Z) (bS Z Z Z (bB 1 bU M4 Z Z Z) (bS Z Z Z (bB 2 bU M4 Z Z Z) (gR Z Z Z (aU Z Z Z (fun _=>bV gI underlying2 Z (kO _ (by omega) (by omega))) ?_)))))))))))))
  refine fA 23 (.int .i64 (if hi=true then b.mass else a.mass)) (iE (by rw [h14];rfl)) (aU Z Z Z (fun _=>aE 4 fR Z) (bS Z Z Z (aK 1 (.int _ _) aY M4 Z Z Z) (aU Z Z Z (fun _=>bV gI underlying2 Z (kO _ (by omega) (by omega))) (aU Z Z Z (fun _=>aE 4 fR Z) (bS Z Z Z (aK 2 (.int _ _) aY M4 Z Z Z) (aU Z Z Z (fun _=>bV gI underlying2 Z (kO _ (by omega) (by omega))) (aU Z Z Z (fun _=>bM Z Z (by omega) (by omega)) (aU Z Z Z (fun _=>nN Z Z ) (dD [false,false,true,true,true] Z (by kernel_rfl) ?_)))))))))
  refine dI aZj Z Z M4 (aBr _ c a b hc ha hb) (fun w5 M5 => ?_)
  refine aB (aC ⟨(eH (bJ Z (aK 2 (.int _ _) aY M5 Z Z Z)) (eH (bJ Z (aK 1 (.int _ _) aY M5 Z Z Z)) dE)), ?_⟩)
  refine dD [true,true] Z (by kernel_rfl) (dI aGy Z Z M5 (aGg _ (qS c a b) (if hi=true then b.mass else a.mass) (max 1 (a.mass+b.mass)) (by omega) hm0.1 (by omega) (by omega) (by omega) (by omega) (by omega)) (fun w6 M6 => ?_))
  refine aB (aC ⟨dE, ?_⟩)
  refine aU Z Z Z (fun _=>aG (.tuple (List.toArray _)) Z) (aU Z Z Z (fun _=>bE (.int _ _) Z Z) (aU Z Z Z (fun _=>bE (.int _ _) Z Z) (qB Z Z Z (qB Z Z Z (bZ (aC (aD (aA (aX Z Z (bP Z Z (aB (aC (aP (cB (.int _ _) Z ?_))))))))))))))
  exact ⟨Z,M6.below⟩
 ·refine aL (aC (aD (gJ [(0,1),(1,1),(2,1),(4,0),(5,0),(6,0),(7,1),(8,0),(9,0),(10,1),(11,0),(12,0),(13,0),(3,2),(14,2),(15,0),(16,0),(17,0),(18,0),(19,0)] mixed M3 Z (by kernel_rfl) (fun w7 M7=>(bS Z Z Z (bB 0 gT M7 Z Z Z) (bS Z Z Z (bB 1 bU M7 Z Z Z) (bS Z Z Z (bB 2 bU M7 Z Z Z) (gR Z Z Z (aU Z Z Z (fun _=>bV gI underlying2 Z (kO _ (by omega) (by omega))) (fA 23 (.int .i64 (if hi=true then b.mass else a.mass)) (iE (by rw [h14];rfl)) (aU Z Z Z (fun _=>aE 4 fR Z) ?_)))))))))))
  refine bS Z Z Z (aK 1 (.int _ _) aY M7 Z Z Z) (aU Z Z Z (fun _=>bV gI underlying2 Z (kO _ (by omega) (by omega))) (aU Z Z Z (fun _=>aE 4 fR Z) (bS Z Z Z (aK 2 (.int _ _) aY M7 Z Z Z) (aU Z Z Z (fun _=>bV gI underlying2 Z (kO _ (by omega) (by omega))) (aU Z Z Z (fun _=>bM Z Z (by omega) (by omega)) (aU Z Z Z (fun _=>nN Z Z ) (dD [false,false,true,true,true] Z (by kernel_rfl) (dI aZj Z Z M7 (aBr _ c a b hc ha hb) (fun w8 M8 => ?_)))))))))
  refine aB (aC ⟨(eH (bJ Z (aK 2 (.int _ _) aY M8 Z Z Z)) (eH (bJ Z (aK 1 (.int _ _) aY M8 Z Z Z)) dE)), ?_⟩)
  refine dD [true,true] Z (by kernel_rfl) (dI aGy Z Z M8 (aGg _ (qS c a b) (if hi=true then b.mass else a.mass) (max 1 (a.mass+b.mass)) (by omega) hm0.1 (by omega) (by omega) (by omega) (by omega) (by omega)) (fun w9 M9 => ?_))
  refine aB (aC ⟨dE, ?_⟩)
  refine aU Z Z Z (fun _=>aG (.tuple (List.toArray _)) Z) (aU Z Z Z (fun _=>bE (.int _ _) Z Z) (aU Z Z Z (fun _=>bE (.int _ _) Z Z) (qB Z Z Z (qB Z Z Z (bZ (aC (aD (aA (aX Z Z (bP Z Z (aB (aC (aP (cB (.int _ _) Z ?_))))))))))))))
  exact ⟨Z,M9.below⟩
theorem aBz (w:World) (bo bk:Nat) (cn:Con) (q:Row) (l:List (Int × Int)) (hq:aR 177 2 q.A q.n q.c ((l).map cK) q.e) (p:Nat) (s z:Int) (f:Int × Int) (hp:l[p]? = some f) (hs:0≤s∧s≤1073741824) (hz:z=1∨z = -1) (hc:Okn cn) (hf:(-1152921504606846976≤f.1∧f.1≤1152921504606846976) ∧ -1152921504606846976≤f.2∧f.2≤1152921504606846976) (hO:Own [(some bo,bc [.slice q.A q.n q.c] 127),q.e,(some bk,bc (cM cn) 211)] w) :
  Calls prog 162 #[.int .i64 (p:Int),.int .i64 s,.int .i64 z,.pointer (some ⟨bo,0,none⟩),.pointer (some ⟨bk,0,none⟩)] w (fE (fun v w'=>v=.tuple #[]∧∃ e:cY,aR 177 2 q.A q.n q.c ((l.set p (aJh s z cn f)).map cK) e∧Mem w (bI [(some bo,bc [.slice q.A q.n q.c] 127),q.e,(some bk,bc (cM cn) 211)]) [(some bo,bc [.slice q.A q.n q.c] 127),e,(some bk,bc (cM cn) 211)] w')):=by
 have hcx:=hc.x
 have hcy:=hc.y
 have hl:l.length=q.n:=by simpa using hq.1
 have hpl:=(List.getElem?_eq_some_iff.1 hp).1
 have r1:=rD hs hc.x
 have r2:=rD hs hc.y
 have hp2:(l.set p (f.1+z*(s*cn.nx / 65536),f.2))[p]? = some (f.1+z*(s*cn.nx / 65536),f.2):=by rw [List.getElem?_set_self hpl]
 have z1 : -1073741824≤z*(s*cn.nx / 65536)∧z*(s*cn.nx / 65536)≤1073741824:=by rcases hz with rfl | rfl <;> omega
 have z2 : -1073741824≤z*(s*cn.ny / 65536)∧z*(s*cn.ny / 65536)≤1073741824:=by rcases hz with rfl | rfl <;> omega
 refine aH #[] 42 func162 Z results162 ntmps162 Z ?_
 have M0:=hO.mem
 refine aD (gJ [(0,1),(1,0),(2,1),(3,1),(4,1),(5,0),(6,0),(7,0),(8,0),(9,1),(10,0),(11,0),(12,0),(13,0),(14,0),(15,1),(16,1),(17,2)] mixed M0 Z (by kernel_rfl) (fun w1 M1=>(bS Z Z Z (aK 0 (.slice _ _ _) vQ M1 Z Z Z) (gR Z Z Z (bS Z Z Z (bR (p) aBj Z Z Z ((hq.rd M1 (aV (i:=1) Z)).below_len (aJ cK hp)) ((hq.rd M1 (aV (i:=1) Z)).someK (aJ cK hp))) (bS Z Z Z (bO 0 aBp (hq.rd M1 (aV (i:=1) Z)) (qR ((hq.rd M1 (aV (i:=1) Z)).below_len (aJ cK hp))) Z) ?_))))))
 refine bS Z Z Z (eP (o:=0) (.int _ _) mI (hq.rd M1 (aV (i:=1) Z)) (aJ cK hp) Z Z) (gR Z Z Z (gR Z Z Z (aU Z Z Z (fun _=>aE 2 nU Z) (aU Z Z Z (fun _=>aE 0 eB Z) (bS Z Z Z (aK 2 (.int _ _) aY M1 Z Z Z) (aU Z Z Z (fun _=>bV gI underlying2 Z (kO _ (by omega) (by omega))) (aU Z Z Z (fun _=>fY Z Z (by omega) (by omega)) (aU Z Z Z (fun _=>hJ Z Z (by decide)) (fA 20 (.int .i64 (s*cn.nx / 65536)) (iE (mY _)) (aU Z Z Z (fun _=>fY Z Z (by omega) (by omega)) ?_))))))))))
 refine aU Z Z Z (fun _=>bM Z Z (by omega) (by omega)) (bS Z Z Z (bR (p) aBj Z Z Z ((hq.rd M1 (aV (i:=1) Z)).below_len (aJ cK hp)) ((hq.rd M1 (aV (i:=1) Z)).someK (aJ cK hp))) (bS Z Z Z (bO 0 aBp (hq.rd M1 (aV (i:=1) Z)) (qR ((hq.rd M1 (aV (i:=1) Z)).below_len (aJ cK hp))) Z) (dD [true,true,true,true,true,true,true] Z (by kernel_rfl) (aFz (o:=0) 1 (.int _ _) mI M1 Z hq (aJ cK hp) Z Z Z Z Z (fun e2 w2 hR2 M2 => ?_)))))
 have hQ2:=hR2.mapSet (f:=cK) (x:=(f.1+z*(s*cn.nx / 65536),f.2)) rfl
 refine aB (aC ⟨dE, ?_⟩)
 refine bZ (aC (gJ [(0,1),(1,0),(2,1),(3,1),(4,1),(5,0),(6,0),(7,0),(8,0),(9,1),(10,0),(11,0),(12,0),(13,0),(14,0),(15,1),(16,1),(17,2)] mixed M2 Z (by kernel_rfl) (fun w3 M3=>(bS Z Z Z (aK 0 (.slice _ _ _) vQ M3 Z Z Z) (gR Z Z Z (bS Z Z Z (bR (p) aBj Z Z Z ((hQ2.rd M3 (aV (i:=1) Z)).below_len (aJ cK hp2)) ((hQ2.rd M3 (aV (i:=1) Z)).someK (aJ cK hp2))) (bS Z Z Z (bO 1 aBc (hQ2.rd M3 (aV (i:=1) Z)) (qR ((hQ2.rd M3 (aV (i:=1) Z)).below_len (aJ cK hp2))) Z) ?_)))))))
 refine bS Z Z Z (eP (o:=1) (.int _ _) mI (hQ2.rd M3 (aV (i:=1) Z)) (aJ cK hp2) Z Z) (gR Z Z Z (gR Z Z Z (aU Z Z Z (fun _=>aE 2 nU Z) (aU Z Z Z (fun _=>aE 1 dQ Z) (bS Z Z Z (aK 2 (.int _ _) aY M3 Z Z Z) (aU Z Z Z (fun _=>bV gI underlying2 Z (kO _ (by omega) (by omega))) (aU Z Z Z (fun _=>fY Z Z (by omega) (by omega)) (aU Z Z Z (fun _=>hJ Z Z (by decide)) (fA 37 (.int .i64 (s*cn.ny / 65536)) (iE (mY _)) (aU Z Z Z (fun _=>fY Z Z (by omega) (by omega)) ?_))))))))))
 refine aU Z Z Z (fun _=>bM Z Z (by omega) (by omega)) (bS Z Z Z (bR (p) aBj Z Z Z ((hQ2.rd M3 (aV (i:=1) Z)).below_len (aJ cK hp2)) ((hQ2.rd M3 (aV (i:=1) Z)).someK (aJ cK hp2))) (bS Z Z Z (bO 1 aBc (hQ2.rd M3 (aV (i:=1) Z)) (qR ((hQ2.rd M3 (aV (i:=1) Z)).below_len (aJ cK hp2))) Z) (dD [true,true,true,true,true,true,true] Z (by kernel_rfl) (aFz (o:=1) 1 (.int _ _) mI M3 Z hQ2 (aJ cK hp2) Z Z Z Z Z (fun e4 w4 hR4 M4 => ?_)))))
 have hQ4:=hR4.mapSet (f:=cK) (x:=aJh s z cn f) rfl
 rw [List.set_set] at hQ4
 refine aB (aC ⟨dE, ?_⟩)
 refine bZ (gZ ?_)
 exact ⟨Z,e4,hQ4,M4⟩
theorem Mem.swap2 {w0 w:World} {X:List Nat} {a b:cY} (M:Mem w0 X [a,b] w):Mem w0 X [b,a] w:=M.perm (List.Perm.swap b a [])
theorem aFg {xs:List Body} {cs:List Con} {n:Nat} (hs:bY xs) (hb:∀ b∈xs,Okb b) (hcs:∀ c∈cs,OkC xs c) (hn:cs.length=n) (hl:n≤1073741824) (k:Nat) {b:Body} (h:b∈xs):(-1152921504606846976≤(jH xs (cs.take k) b).1∧(jH xs (cs.take k) b).1≤1152921504606846976) ∧ -1152921504606846976≤(jH xs (cs.take k) b).2∧(jH xs (cs.take k) b).2≤1152921504606846976:=by
 have ht:(cs.take k).length≤cs.length:=by rw [List.length_take];omega
 have h1:=aJg (cs:=cs.take k) (g:=(·.nx)) hs hb (fun c h=>hcs c (List.mem_of_mem_take h)) (fun c h=>(hcs c (List.mem_of_mem_take h)).n.x) h
 have h2:=aJg (cs:=cs.take k) (g:=(·.ny)) hs hb (fun c h=>hcs c (List.mem_of_mem_take h)) (fun c h=>(hcs c (List.mem_of_mem_take h)).n.y) h
 unfold jH
 simp only
 omega
theorem aLc (w:World) (A:Option Addr) (n c:Nat) (xs:List Body) (R:Rd w 10 A n (xs.map aF)) (hs:bY xs) (hb:∀ b∈xs,Okb b) (hn:n≤1048576) (B:Option Addr) (mc c':Nat) (cs:List Con) (R':Rd w 5 B mc (cs.map cM)) (hcs:∀ c∈cs,OkC xs c) (hmc:mc≤1073741824) :
  Calls prog 147 #[.slice A n c,.slice B mc c'] w (fE (fun v w'=>∃ r:Row,v=.slice r.A r.n r.c∧aR 177 2 r.A r.n r.c ((xs.map (jH xs cs)).map cK) r.e∧Mem w [] [r.e] w')):=by
 have hlen:xs.length=n:=by simpa using R.len
 have hbd:=R.bound
 have hclen:cs.length=mc:=by simpa using R'.len
 have hbd':=R'.bound
 have hz0:List.replicate n ([.int .i64 0,.int .i64 0]:List Value)=(xs.map (jH xs (cs.take 0))).map cK:=by rw [bDn,aPf hlen ((0,0):Int × Int)];exact congrArg (List.map cK) (List.map_congr_left (fun b _=>Prod.ext (aEw xs cs (·.nx) b).symm (aEw xs cs (·.ny) b).symm))
 refine aH #[.tmp 4] 67 func147 Z results147 ntmps147 Z ?_
 have M0:=Mem.refl w
 refine aD (aA (eX Z Z (aB (aC (aD (aA (dZ Z Z (wq (cG underlying29 Z) Z (jU (n) [.int .i64 0,.int .i64 0] aBj bCy Z M0 Z Z Z Z Z Z (by omega) (by omega) (fun b1 w1 M1 => ?_))))))))))
 have hL15:=kC (T:=177) (sz:=2) (b:=b1) (nn:=n) (List.replicate n [.int .i64 0,.int .i64 0]) (fun l hl=>by rw [List.eq_of_mem_replicate hl];rfl) (by simp) (by omega)
 rw [hz0] at hL15
 rw [hz0] at M1
 refine aM bCv M1 Z Z (fun b2 w2 M2=>(dN 1 (.slice _ _ _) vQ M2 Z Z Z Z Z Z (fun w3 M3=>(aB (aC (aD (aD (aA ?_))))))))
 have M4:Mem _ _ [_,_] _:=Mem.swap2 M3
 refine dZ Z Z (wq (cG underlying166 Z) Z (aX Z Z (aB (aC (aT (dK (σ:=Nat × cY) [0,4,5,16,17] (fun (k,e)=>[(18,.int .i64 (k:Int))]) (fun (k,e) w'=>(k≤mc∧aR 177 2 (some ⟨b1,0,none⟩) n n ((xs.map (jH xs (cs.take k))).map cK) e)∧Mem w [] [(some b2,bc [.slice (some ⟨b1,0,none⟩) n n] 127),e] w') (fun (k,e)=>mc - k) (0,(some b1,bc ((xs.map (jH xs (cs.take 0))).map cK).flatten 177)) (bN Z eZ) (⟨⟨by omega,hL15⟩,M4⟩) ?_))))))
 rintro ⟨k,e⟩ ρ5 w5 ⟨⟨hk,hq⟩,hM5⟩
 refine aD (aA (dB Z Z Z Z (aB (aC (aD ?_)))))
 refine bA Z (fun h19 => ?_) (fun h19 => ?_)
 ·obtain ⟨cn,hcn⟩:=cF (xs:=cs) (k:=k) hclen (by omega)
  have hc:=hcs cn (List.mem_of_getElem? hcn)
  obtain ⟨pa,xa,hxa,hka,hla,hba,hma⟩:=rM hs hc.l
  obtain ⟨pb,xb,hxb,hkb,hlb,hbb,hmb⟩:=rM hs hc.h
  have hoa:=hb xa hma
  have hob:=hb xb hmb
  have hne:=hc.ne
  have ma:=hoa.m
  have mb:=hob.m
  have hpab:pa≠pb:=fun g=>by subst g;rw [hxa] at hxb;injection hxb with hxb;subst hxb;omega
  refine aL (aC (aD (aT (aD (aA (wq (bR (k) aEk Z Z Z ((R'.mem hM5).below_len (aJ cM hcn)) ((R'.mem hM5).someK (aJ cM hcn))) Z (wq (dT _ gT (R'.mem hM5) (aJ cM hcn) Z) Z (aM tU hM5 Z Z (fun b6 w6 M6=>(aZ 2 _ gT M6 Z Z Z Z Z (aQ Z) Z (fun w7 M7=>(aB (aC (aD (aA (dZ Z Z (wq (aE 0 tT Z) Z (wq (aE 0 oL Z) Z (wq (aK 2 (.int _ _) cA M7 Z Z Z) Z (dI aGl Z Z M7 (rF _ cn.low _ _ _ xs (R.mem M7) hs) (fun w8 M8 => ?_)))))))))))))))))))))
  refine wq (aG (.tuple (List.toArray _)) Z) Z (wq (bE (.int _ _) Z Z) Z (aS 28 (.int .i64 (pa:Int)) (iE (by rw [hla])) (wq (bE (.bool (decide _)) Z Z) Z (bP Z Z (wq (aI (.bool (decide _)) Z) Z (aB (aC (aD (aA (dZ Z Z (wq (aE 0 tT Z) Z (wq (aE 1 nV Z) Z (wq (aK 2 (.int _ _) cA M8 Z Z Z) Z (dI aGl Z Z M8 (rF _ cn.high _ _ _ xs (R.mem M8) hs) (fun w9 M9=>(wq (aG (.tuple (List.toArray _)) Z) Z (wq (bE (.int _ _) Z Z) Z (aS 36 (.int .i64 (pb:Int)) (iE (by rw [hlb])) ?_))))))))))))))))))
  refine wq (bE (.bool (decide _)) Z Z) Z (bP Z Z (wq (aI (.bool (decide _)) Z) Z (aB (aC (aD (aA (wq (cH [] [.pointer _,.pointer _] Z Z) Z (wq (aI (.func _ _ _) Z) Z (aB (aC (aD (gJ [(0,0),(1,0),(2,1),(3,0),(4,0),(5,1),(6,1),(7,0),(8,0),(9,1),(10,1),(11,2),(12,2)] mixed M9 Z (by kernel_rfl) (fun w10 M10=>(aU Z Z Z (fun _=>aG (.func _ _ _) Z) (gR Z Z Z (bS Z Z Z (bB 2 gT M10 Z Z Z) (sH Z Z Z (gR Z Z Z (bS Z Z Z (bR (pa) fC Z Z Z ((R.mem M10).below_len (aJ aF hxa)) ((R.mem M10).someK (aJ aF hxa))) ?_)))))))))))))))))))
  refine bS Z Z Z (dT _ bU (R.mem M10) (aJ aF hxa) Z) (sH Z Z Z (gR Z Z Z (bS Z Z Z (bR (pb) fC Z Z Z ((R.mem M10).below_len (aJ aF hxb)) ((R.mem M10).someK (aJ aF hxb))) (bS Z Z Z (dT _ bU (R.mem M10) (aJ aF hxb) Z) (dD [true,true,true,true,true] Z (by kernel_rfl) (dI aVj Z Z M10 (aDj _ cn xa xb hc.n hoa hob false) (fun w11 M11 => ?_)))))))
  refine aB (aC ⟨dE, ?_⟩)
  refine fA 50 (.int .i64 (pP cn xa xb xa.mass)) Z (dD [] Z (by kernel_rfl) (dU aYl Z Z (aBz _ b2 b6 cn ⟨some ⟨b1,0,none⟩,n,n,e⟩ (xs.map (jH xs (cs.take k))) hq pa (pP cn xa xb xa.mass) (-1) (jH xs (cs.take k) xa) (aJ _ hxa) (aGt hc.n (by omega)) (.inr Z) hc.n (aFg hs hb hcs hclen hmc k hma) (M11.ownSeg 0 3)) ?_))
  rintro v12 w12 ⟨rfl,e1,hq1,hM12⟩
  have M12:Mem _ _ [_,_,_] _:=M11.seg 0 3 hM12
  refine aB (aC ⟨dE, ?_⟩)
  refine bZ (aC (gJ [(0,0),(1,0),(2,1),(3,0),(4,0),(5,1),(6,1),(7,0),(8,0),(9,1),(10,1),(11,2),(12,2)] mixed M12 Z (by kernel_rfl) (fun w13 M13=>(aU Z Z Z (fun _=>aG (.func _ _ _) Z) (gR Z Z Z (bS Z Z Z (bB 2 gT M13 Z Z Z) (sH Z Z Z (gR Z Z Z (bS Z Z Z (bR (pa) fC Z Z Z ((R.mem M13).below_len (aJ aF hxa)) ((R.mem M13).someK (aJ aF hxa))) (bS Z Z Z (dT _ bU (R.mem M13) (aJ aF hxa) Z) (sH Z Z Z (gR Z Z Z (bS Z Z Z (bR (pb) fC Z Z Z ((R.mem M13).below_len (aJ aF hxb)) ((R.mem M13).someK (aJ aF hxb))) ?_)))))))))))))
  refine bS Z Z Z (dT _ bU (R.mem M13) (aJ aF hxb) Z) (dD [true,true,true,true,true] Z (by kernel_rfl) (dI aVj Z Z M13 (aDj _ cn xa xb hc.n hoa hob true) (fun w14 M14 => ?_)))
  refine aB (aC ⟨dE, ?_⟩)
  refine fA 63 (.int .i64 (pP cn xa xb xb.mass)) Z (dD [] Z (by kernel_rfl) (dU aYl Z Z (aBz _ b2 b6 cn ⟨some ⟨b1,0,none⟩,n,n,e1⟩ _ hq1 pb (pP cn xa xb xb.mass) (1) (jH xs (cs.take k) xb) (sW (aJ _ hxb) hpab) (aGt hc.n (by omega)) (.inl Z) hc.n (aFg hs hb hcs hclen hmc k hmb) (M14.ownSeg 0 3)) ?_))
  rintro v15 w15 ⟨rfl,e2,hq2,hM15⟩
  have M15:Mem _ _ [_,_,_] _:=M14.seg 0 3 hM15
  refine aB (aC ⟨dE, ?_⟩)
  refine bZ (dF (aC (aA (wq (bM Z Z (by omega) (by omega)) Z (aX Z Z (aB ?_))))))
  refine cR (k+1,e2) (bN Z eZ) (cT Z (cT Z (cT Z (cT Z (cT Z kB))))) ?_ ?_
  ·exact ⟨⟨by omega,by rw [← aTp hcn,← bBr hs hxa hxb hka hkb hc hba hbb];exact hq2⟩,M15.keep [true,true,false]⟩
  ·(show mc - (k+1) < mc - k;omega)
 ·have hkn:k=mc:=by omega
  rw [List.take_of_length_le (by omega)] at hq
  refine cO (dA (cX (eV (aC (aD (aA (wq (aK 0 (.slice _ _ _) vQ hM5 Z Z Z) Z (eX Z Z (aB (aC (aP (cB (.slice _ _ _) Z ?_))))))))))))
  exact ⟨⟨(some ⟨b1,0,none⟩),n,n,e⟩,Z,hq,hM5.keep [false,true]⟩
end Go.Proofs.YtaoaknafiegfoaaGreatDoor
