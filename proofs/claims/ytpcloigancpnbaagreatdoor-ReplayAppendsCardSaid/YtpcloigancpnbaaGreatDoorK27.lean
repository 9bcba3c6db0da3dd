/- Part of the proof of a law of this seat (6 texts). No conditions. -/
import Derived.Test.YtpcloigancpnbaaGreatDoorK20
import Derived.Test.YtpcloigancpnbaaGreatDoorK26
set_option linter.unusedVariables false
set_option linter.unusedSimpArgs false
set_option linter.unnecessarySimpa false
set_option maxHeartbeats 100000000
namespace Go.Proofs.YtpcloigancpnbaaGreatDoor
open Go.Bil
open Go.RowKit (Below)
open Go.Proofs
open Go.Proofs.Tryz
theorem bKq (w:World) (bs:Nat) (rx ry:Row) (F G:Body→Int) (A:Option Addr) (n c:Nat) (xs:List Body) (R:Rd w 10 A n (xs.map aF)) (hs:dA xs) (hb:∀ b∈xs,Okb b) (hrx:aZ 2 1 rx.A rx.n rx.c ((xs.map F).map dJ) rx.e) (hry:aZ 2 1 ry.A ry.n ry.c ((xs.map G).map dJ) ry.e) (hF:∀ b∈xs, -1152921504606846976≤F b∧F b≤1152921504606846976) (hG:∀ b∈xs, -1152921504606846976≤G b∧G b≤1152921504606846976) (cn:Con) (hc:OkC xs cn) (hO:Own [(some bs,bc [.slice A n c,.slice rx.A rx.n rx.c,.slice ry.A ry.n ry.c] 291),rx.e,ry.e] w) (hdA:0 < n→∀ q off,A=some ⟨q,off,none⟩→q∉bZ [(some bs,bc [.slice A n c,.slice rx.A rx.n rx.c,.slice ry.A ry.n ry.c] 291),rx.e,ry.e]) :
  Calls prog 195 #[.pointer (some ⟨bs,0,none⟩),.agg (cL cn).toArray] w (gK (fun v w'=>v=.tuple #[]∧∃ ex ey:eN,aZ 2 1 rx.A rx.n rx.c ((xs.map (aLl xs (·.nx) cn F)).map dJ) ex∧aZ 2 1 ry.A ry.n ry.c ((xs.map (aLl xs (·.ny) cn G)).map dJ) ey∧Mem w (bZ [(some bs,bc [.slice A n c,.slice rx.A rx.n rx.c,.slice ry.A ry.n ry.c] 291),rx.e,ry.e]) [(some bs,bc [.slice A n c,.slice rx.A rx.n rx.c,.slice ry.A ry.n ry.c] 291),ex,ey] w')):=by
 have hlen:xs.length=n:=by simpa using R.len
 have hbd:=R.bound
 have hlx:xs.length=rx.n:=by simpa using hrx.1
 have hly:xs.length=ry.n:=by simpa using hry.1
 obtain ⟨pa,xa,hxa,hka,hla,hba,hma⟩:=vO hs hc.l
 obtain ⟨pb,xb,hxb,hkb,hlb,hbb,hmb⟩:=vO hs hc.h
 have hoa:=hb xa hma
 have hob:=hb xb hmb
 have hne:=hc.ne
 have hpl:=(List.getElem?_eq_some_iff.1 hxa).1
 have hpl2:=(List.getElem?_eq_some_iff.1 hxb).1
 have hpab:pa≠pb:=fun g=>by subst g;rw [hxa] at hxb;injection hxb with hxb;subst hxb;omega
 have ma:=hoa.m
 have mb:=hob.m
 have hra:=rL hc.n hoa hob (m:=xa.mass) (by omega)
 have hrb:=rL hc.n hoa hob (m:=xb.mass) (by omega)
 have gax:=(lI hra.2.2 hc.n.x).2.2
 have gay:=(lI hra.2.2 hc.n.y).2.2
 have gbx:=(lI hrb.2.2 hc.n.x).2.2
 have gby:=(lI hrb.2.2 hc.n.y).2.2
 have fa:=hF xa hma
 have fb:=hF xb hmb
 have ga:=hG xa hma
 have gb:=hG xb hmb
 have hFa:(xs.map F)[pa]? = some (F xa):=by rw [List.getElem?_map,hxa];rfl
 have hGa:(xs.map G)[pa]? = some (G xa):=by rw [List.getElem?_map,hxa];rfl
 have hFb:((xs.map F).set pa (F xa - oT (lN cn xa xb) xa.mass cn.nx))[pb]? = some (F xb):=xS (by rw [List.getElem?_map,hxb];rfl) hpab
 have hGb:((xs.map G).set pa (G xa - oT (lN cn xa xb) xa.mass cn.ny))[pb]? = some (G xb):=xS (by rw [List.getElem?_map,hxb];rfl) hpab
 refine aI #[] 139 func195 Z results195 ntmps195 Z ?_
 have M0:=hO.mem
 refine aE (aA (bN (.agg (.mk _)) M0 Z Z Z (fun b1 w1 M1=>(aB (aC (aE (fY [(0,0),(1,0),(2,0),(3,1),(4,0),(5,0),(6,1),(7,2),(8,0),(9,0),(10,0),(11,0),(12,0)] mixed M1 Z (by kernel_rfl) (fun w2 M2=>(aX Z Z Z (fun _=>aH (.pointer _) Z) (aX Z Z Z (fun _=>bK Z) (aX Z Z Z (fun _=>aD 0 sE Z) (bP Z Z Z (aK 0 (.slice _ _ _) gR M2 Z Z Z) (aX Z Z Z (fun _=>aD 0 fV Z) (aX Z Z Z (fun _=>aD 0 gY Z) (bP Z Z Z (aK 3 (.int _ _) bV M2 Z Z Z) ?_)))))))))))))))
 refine dL [true,true] Z (by kernel_rfl) (dO aLo Z Z M2 (wK _ cn.low _ _ _ xs (R.memY M2 hdA) hs) (fun w3 M3 => ?_))
 refine aB (aC ⟨dG, ?_⟩)
 refine aX Z Z Z (fun _=>aH (.tuple (List.toArray _)) Z) (aX Z Z Z (fun _=>bM (.int _ _) Z Z) (dX 20 (.int .i64 (pa:Int)) (iE (by rw [hla])) (aX Z Z Z (fun _=>bM (.bool (decide _)) Z Z) (nF Z Z Z (aX Z Z Z (fun _=>aJ (.bool (decide _)) Z) (bS (aC (aE (fY [(0,0),(1,0),(2,0),(3,1),(4,0),(5,0),(6,1),(7,2),(8,0),(9,0),(10,0),(11,0),(12,0)] mixed M3 Z (by kernel_rfl) (fun w4 M4=>(aX Z Z Z (fun _=>aH (.pointer _) Z) (aX Z Z Z (fun _=>bK Z) (aX Z Z Z (fun _=>aD 0 sE Z) ?_)))))))))))))
 refine bP Z Z Z (aK 0 (.slice _ _ _) gR M4 Z Z Z) (aX Z Z Z (fun _=>aD 0 fV Z) (aX Z Z Z (fun _=>aD 1 kP Z) (bP Z Z Z (aK 3 (.int _ _) bV M4 Z Z Z) (dL [true,true] Z (by kernel_rfl) (dO aLo Z Z M4 (wK _ cn.high _ _ _ xs (R.memY M4 hdA) hs) (fun w5 M5 => ?_))))))
 refine aB (aC ⟨dG, ?_⟩)
 refine aX Z Z Z (fun _=>aH (.tuple (List.toArray _)) Z) (aX Z Z Z (fun _=>bM (.int _ _) Z Z) (dX 31 (.int .i64 (pb:Int)) (iE (by rw [hlb])) (aX Z Z Z (fun _=>bM (.bool (decide _)) Z Z) (nF Z Z Z (aX Z Z Z (fun _=>aJ (.bool (decide _)) Z) (bS (aC (aE (fY [(0,1),(1,0),(2,0),(3,0),(4,1),(5,0),(6,1),(7,1),(8,0),(9,0),(10,0),(11,1),(12,0),(13,1),(14,1),(15,2),(16,0)] mixed M5 Z (by kernel_rfl) (fun w6 M6=>(bP Z Z Z (aU 3 fC M6 Z Z Z) (aX Z Z Z (fun _=>aH (.pointer _) Z) ?_))))))))))))
 refine aX Z Z Z (fun _=>bK Z) (aX Z Z Z (fun _=>aD 0 sE Z) (bP Z Z Z (aK 0 (.slice _ _ _) gR M6 Z Z Z) (eD Z Z Z (bP Z Z Z (bI (pa) dS Z Z Z ((R.memY M6 hdA).below_len (aG aF hxa)) ((R.memY M6 hdA).someK (aG aF hxa))) (bP Z Z Z (dN _ bR (R.memY M6 hdA) (aG aF hxa) Z) (aX Z Z Z (fun _=>aH (.pointer _) Z) (aX Z Z Z (fun _=>bK Z) (aX Z Z Z (fun _=>aD 0 sE Z) (bP Z Z Z (aK 0 (.slice _ _ _) gR M6 Z Z Z) ?_)))))))))
 refine eD Z Z Z (bP Z Z Z (bI (pb) dS Z Z Z ((R.memY M6 hdA).below_len (aG aF hxb)) ((R.memY M6 hdA).someK (aG aF hxb))) (bP Z Z Z (dN _ bR (R.memY M6 hdA) (aG aF hxb) Z) (dL [true,true,true,true,true,true,true] Z (by kernel_rfl) (dO bRj Z Z M6 (aMm _ cn xa xb hc.n hoa hob) (fun w7 M7 => ?_)))))
 refine aB (aC ⟨dG, ?_⟩)
 refine nF Z Z Z (bS (aC (aE (fY [(0,0),(1,0),(2,0),(3,0),(4,1),(5,0),(6,1),(7,1),(8,1),(9,0),(10,1),(11,2),(12,0),(13,0),(14,0),(15,0),(16,0)] mixed M7 Z (by kernel_rfl) (fun w8 M8=>(eD Z Z Z (aX Z Z Z (fun _=>aH (.pointer _) Z) (aX Z Z Z (fun _=>bK Z) (aX Z Z Z (fun _=>aD 0 sE Z) (bP Z Z Z (aK 0 (.slice _ _ _) gR M8 Z Z Z) (eD Z Z Z (bP Z Z Z (bI (pa) dS Z Z Z ((R.memY M8 hdA).below_len (aG aF hxa)) ((R.memY M8 hdA).someK (aG aF hxa))) ?_))))))))))))
 refine bP Z Z Z (aT 4 eK (R.memY M8 hdA) (iU ((R.memY M8 hdA).below_len (aG aF hxa))) Z) (bP Z Z Z (dP (o:=4) (.int _ _) aY (R.memY M8 hdA) (aG aF hxa) Z Z) (aX Z Z Z (fun _=>aD 2 iL Z) (bP Z Z Z (rG 3 _ bO M8 Z Z Z Z) (dL [true,true,true,true,true] Z (by kernel_rfl) (dO bDq Z Z M8 (aGa _ (lN cn xa xb) xa.mass cn.nx cn.ny ⟨hra.1,hra.2.1⟩ (by omega) hra.2.2 hc.n.x hc.n.y) (fun w9 M9 => ?_))))))
 refine aB (aC ⟨dG, ?_⟩)
 refine aX Z Z Z (fun _=>aH (.tuple (List.toArray _)) Z) (aX Z Z Z (fun _=>bM (.int _ _) Z Z) (aX Z Z Z (fun _=>bM (.int _ _) Z Z) (nF Z Z Z (nF Z Z Z (bS (aC (aE (fY [(0,0),(1,0),(2,0),(3,1),(4,0),(5,0),(6,0),(7,0),(8,1),(9,0),(10,0),(11,0),(12,0),(13,1),(14,0),(15,1),(16,1),(17,0),(18,0),(19,0),(20,0),(21,0),(22,1),(23,0),(24,1),(25,1),(26,0),(27,0),(28,1),(29,2),(30,1),(31,2)] mixed M9 Z (by kernel_rfl) (fun w10 M10=>(aX Z Z Z (fun _=>aH (.pointer _) Z) ?_))))))))))
 refine aX Z Z Z (fun _=>bK Z) (aX Z Z Z (fun _=>aD 1 sF Z) (bP Z Z Z (aK 0 (.slice _ _ _) pJ M10 Z Z Z) (eD Z Z Z (aX Z Z Z (fun _=>aH (.pointer _) Z) (aX Z Z Z (fun _=>bK Z) (aX Z Z Z (fun _=>aD 2 sG Z) (bP Z Z Z (aK 0 (.slice _ _ _) pJ M10 Z Z Z) (eD Z Z Z (aX Z Z Z (fun _=>aH (.pointer _) Z) (aX Z Z Z (fun _=>bK Z) (aX Z Z Z (fun _=>aD 1 sF Z) (bP Z Z Z (aK 0 (.slice _ _ _) pJ M10 Z Z Z) ?_))))))))))))
 refine eD Z Z Z (bP Z Z Z (bI (pa) rJ Z Z Z ((hrx.rd M10 (bH (i:=1) Z)).below_len (aG dJ hFa)) ((hrx.rd M10 (bH (i:=1) Z)).someK (aG dJ hFa))) (bP Z Z Z (iC (.int _ _) jQ (hrx.rd M10 (bH (i:=1) Z)) (aG dJ hFa) Z) (eD Z Z Z (aX Z Z Z (fun _=>gJ Z Z (by omega) (by omega)) (aX Z Z Z (fun _=>aH (.pointer _) Z) (aX Z Z Z (fun _=>bK Z) (aX Z Z Z (fun _=>aD 2 sG Z) (bP Z Z Z (aK 0 (.slice _ _ _) pJ M10 Z Z Z) (eD Z Z Z ?_)))))))))
 refine bP Z Z Z (bI (pa) rJ Z Z Z ((hry.rd M10 (bH (i:=2) Z)).below_len (aG dJ hGa)) ((hry.rd M10 (bH (i:=2) Z)).someK (aG dJ hGa))) (bP Z Z Z (iC (.int _ _) jQ (hry.rd M10 (bH (i:=2) Z)) (aG dJ hGa) Z) (eD Z Z Z (aX Z Z Z (fun _=>gJ Z Z (by omega) (by omega)) (bP Z Z Z (bI (pa) rJ Z Z Z ((hrx.rd M10 (bH (i:=1) Z)).below_len (aG dJ hFa)) ((hrx.rd M10 (bH (i:=1) Z)).someK (aG dJ hFa))) (dL [true,true,true,true,true,true,true,true,true] Z (by kernel_rfl) ?_)))))
 refine aEj 1 (.int _ _) jQ M10 Z hrx (aG dJ hFa) Z Z Z Z (fun e11 w11 hR11 M11 => ?_)
 have hQ11:=hR11.mapSet (f:=dJ) (x:=F xa - oT (lN cn xa xb) xa.mass cn.nx) rfl
 refine aB (aC ⟨dG, ?_⟩)
 refine bP Z Z Z (bI (pa) rJ Z Z Z ((hry.rd M11 (bH (i:=2) Z)).below_len (aG dJ hGa)) ((hry.rd M11 (bH (i:=2) Z)).someK (aG dJ hGa))) (dL [true] Z (by kernel_rfl) (aEj 2 (.int _ _) jQ M11 Z hry (aG dJ hGa) Z Z Z Z (fun e12 w12 hR12 M12 => ?_)))
 have hQ12:=hR12.mapSet (f:=dJ) (x:=G xa - oT (lN cn xa xb) xa.mass cn.ny) rfl
 refine aB (aC ⟨dG, ?_⟩)
 refine bS (aC (aE (fY [(0,0),(1,0),(2,0),(3,0),(4,1),(5,0),(6,1),(7,1),(8,1),(9,0),(10,1),(11,2),(12,0),(13,0),(14,0),(15,0),(16,0)] mixed M12 Z (by kernel_rfl) (fun w13 M13=>(eD Z Z Z (aX Z Z Z (fun _=>aH (.pointer _) Z) (aX Z Z Z (fun _=>bK Z) (aX Z Z Z (fun _=>aD 0 sE Z) (bP Z Z Z (aK 0 (.slice _ _ _) gR M13 Z Z Z) (eD Z Z Z (bP Z Z Z (bI (pb) dS Z Z Z ((R.memY M13 hdA).below_len (aG aF hxb)) ((R.memY M13 hdA).someK (aG aF hxb))) ?_)))))))))))
 refine bP Z Z Z (aT 4 eK (R.memY M13 hdA) (iU ((R.memY M13 hdA).below_len (aG aF hxb))) Z) (bP Z Z Z (dP (o:=4) (.int _ _) aY (R.memY M13 hdA) (aG aF hxb) Z Z) (aX Z Z Z (fun _=>aD 2 iL Z) (bP Z Z Z (rG 3 _ bO M13 Z Z Z Z) (dL [true,true,true,true,true] Z (by kernel_rfl) (dO bDq Z Z M13 (aGa _ (lN cn xa xb) xb.mass cn.nx cn.ny ⟨hrb.1,hrb.2.1⟩ (by omega) hrb.2.2 hc.n.x hc.n.y) (fun w14 M14 => ?_))))))
 refine aB (aC ⟨dG, ?_⟩)
 refine aX Z Z Z (fun _=>aH (.tuple (List.toArray _)) Z) (aX Z Z Z (fun _=>bM (.int _ _) Z Z) (aX Z Z Z (fun _=>bM (.int _ _) Z Z) (nF Z Z Z (nF Z Z Z (bS (aC (fY [(0,0),(1,0),(2,0),(3,1),(4,0),(5,0),(6,0),(7,0),(8,1),(9,0),(10,0),(11,0),(12,0),(13,1),(14,0),(15,1),(16,1),(17,0),(18,0),(19,0),(20,0),(21,0),(22,1),(23,0),(24,1),(25,1),(26,0),(27,0),(28,1),(29,2),(30,1),(31,2)] mixed M14 Z (by kernel_rfl) (fun w15 M15=>(aX Z Z Z (fun _=>aH (.pointer _) Z) ?_)))))))))
 refine aX Z Z Z (fun _=>bK Z) (aX Z Z Z (fun _=>aD 1 sF Z) (bP Z Z Z (aK 0 (.slice _ _ _) pJ M15 Z Z Z) (eD Z Z Z (aX Z Z Z (fun _=>aH (.pointer _) Z) (aX Z Z Z (fun _=>bK Z) (aX Z Z Z (fun _=>aD 2 sG Z) (bP Z Z Z (aK 0 (.slice _ _ _) pJ M15 Z Z Z) (eD Z Z Z (aX Z Z Z (fun _=>aH (.pointer _) Z) (aX Z Z Z (fun _=>bK Z) (aX Z Z Z (fun _=>aD 1 sF Z) (bP Z Z Z (aK 0 (.slice _ _ _) pJ M15 Z Z Z) ?_))))))))))))
 refine eD Z Z Z (bP Z Z Z (bI (pb) rJ Z Z Z ((hQ11.rd M15 (bH (i:=1) Z)).below_len (aG dJ hFb)) ((hQ11.rd M15 (bH (i:=1) Z)).someK (aG dJ hFb))) (bP Z Z Z (iC (.int _ _) jQ (hQ11.rd M15 (bH (i:=1) Z)) (aG dJ hFb) Z) (eD Z Z Z (aX Z Z Z (fun _=>bA Z Z (by omega) (by omega)) (aX Z Z Z (fun _=>aH (.pointer _) Z) (aX Z Z Z (fun _=>bK Z) (aX Z Z Z (fun _=>aD 2 sG Z) (bP Z Z Z (aK 0 (.slice _ _ _) pJ M15 Z Z Z) (eD Z Z Z ?_)))))))))
 refine bP Z Z Z (bI (pb) rJ Z Z Z ((hQ12.rd M15 (bH (i:=2) Z)).below_len (aG dJ hGb)) ((hQ12.rd M15 (bH (i:=2) Z)).someK (aG dJ hGb))) (bP Z Z Z (iC (.int _ _) jQ (hQ12.rd M15 (bH (i:=2) Z)) (aG dJ hGb) Z) (eD Z Z Z (aX Z Z Z (fun _=>bA Z Z (by omega) (by omega)) (bP Z Z Z (bI (pb) rJ Z Z Z ((hQ11.rd M15 (bH (i:=1) Z)).below_len (aG dJ hFb)) ((hQ11.rd M15 (bH (i:=1) Z)).someK (aG dJ hFb))) (dL [true,true,true,true,true,true,true,true,true] Z (by kernel_rfl) ?_)))))
 refine aEj 1 (.int _ _) jQ M15 Z hQ11 (aG dJ hFb) Z Z Z Z (fun e16 w16 hR16 M16 => ?_)
 have hQ16:=hR16.mapSet (f:=dJ) (x:=F xb+oT (lN cn xa xb) xb.mass cn.nx) rfl
 refine aB (aC ⟨dG, ?_⟩)
 refine bP Z Z Z (bI (pb) rJ Z Z Z ((hQ12.rd M16 (bH (i:=2) Z)).below_len (aG dJ hGb)) ((hQ12.rd M16 (bH (i:=2) Z)).someK (aG dJ hGb))) (dL [true] Z (by kernel_rfl) (aEj 2 (.int _ _) jQ M16 Z hQ12 (aG dJ hGb) Z Z Z Z (fun e17 w17 hR17 M17 => ?_)))
 have hQ17:=hR17.mapSet (f:=dJ) (x:=G xb+oT (lN cn xa xb) xb.mass cn.ny) rfl
 refine aB (aC ⟨dG, ?_⟩)
 refine bS (kO ?_)
 exact ⟨Z,e16,e17,by rw [← aXn hs hxa hxb hka hkb hc hba hbb];exact hQ16,by rw [← aXn hs hxa hxb hka hkb hc hba hbb];exact hQ17,M17.keep [true,true,true,false]⟩
theorem aPw (w:World) (bs:Nat) (rx ry:Row) (A:Option Addr) (n c:Nat) (xs:List Body) (R:Rd w 10 A n (xs.map aF)) (hs:dA xs) (hb:∀ b∈xs,Okb b) (B:Option Addr) (mc c':Nat) (cs:List Con) (R':Rd w 5 B mc (cs.map cL)) (hcs:∀ c∈cs,OkC xs c) (hmc:mc≤8589934592) (hrx:aZ 2 1 rx.A rx.n rx.c ((xs.map (fun b=>iN xs (cs.take 0) (·.nx) b)).map dJ) rx.e) (hry:aZ 2 1 ry.A ry.n ry.c ((xs.map (fun b=>iN xs (cs.take 0) (·.ny) b)).map dJ) ry.e) (hO:Own [(some bs,bc [.slice A n c,.slice rx.A rx.n rx.c,.slice ry.A ry.n ry.c] 291),rx.e,ry.e] w) (hdA:0 < n→∀ q off,A=some ⟨q,off,none⟩→q∉bZ [(some bs,bc [.slice A n c,.slice rx.A rx.n rx.c,.slice ry.A ry.n ry.c] 291),rx.e,ry.e]) (hdB:0 < mc→∀ q off,B=some ⟨q,off,none⟩→q∉bZ [(some bs,bc [.slice A n c,.slice rx.A rx.n rx.c,.slice ry.A ry.n ry.c] 291),rx.e,ry.e]) :
  Calls prog 194 #[.slice B mc c',.func (.func 195) #[.pointer (some ⟨bs,0,none⟩)] #[]] w (gK (fun v w'=>v=.tuple #[]∧∃ ex ey:eN,aZ 2 1 rx.A rx.n rx.c ((xs.map (fun b=>iN xs cs (·.nx) b)).map dJ) ex∧aZ 2 1 ry.A ry.n ry.c ((xs.map (fun b=>iN xs cs (·.ny) b)).map dJ) ey∧Mem w (bZ [(some bs,bc [.slice A n c,.slice rx.A rx.n rx.c,.slice ry.A ry.n ry.c] 291),rx.e,ry.e]) [(some bs,bc [.slice A n c,.slice rx.A rx.n rx.c,.slice ry.A ry.n ry.c] 291),ex,ey] w')):=by
 have hlen:xs.length=n:=by simpa using R.len
 have hbd:=R.bound
 have hclen:cs.length=mc:=by simpa using R'.len
 have hbd':=R'.bound
 refine aI #[] 16 func194 Z results194 ntmps194 Z ?_
 have M0:=hO.mem
 refine aE (aA (dK Z Z (wq (cK underlying148 Z) Z (aR Z Z (aB (aC (aS (dM (σ:=Nat × eN × eN) [1,6,7] (fun (k,ex,ey)=>[(8,.int .i64 (k:Int))]) (fun (k,ex,ey) w'=>(k≤mc∧aZ 2 1 rx.A rx.n rx.c ((xs.map (fun b=>iN xs (cs.take k) (·.nx) b)).map dJ) ex∧aZ 2 1 ry.A ry.n ry.c ((xs.map (fun b=>iN xs (cs.take k) (·.ny) b)).map dJ) ey)∧Mem w (bZ [(some bs,bc [.slice A n c,.slice rx.A rx.n rx.c,.slice ry.A ry.n ry.c] 291),rx.e,ry.e]) [(some bs,bc [.slice A n c,.slice rx.A rx.n rx.c,.slice ry.A ry.n ry.c] 291),ex,ey] w') (fun (k,ex,ey)=>mc - k) (0,rx.e,ry.e) (bE Z eB) (⟨⟨by omega,hrx,hry⟩,M0⟩) ?_))))))))
 rintro ⟨k,ex,ey⟩ ρ1 w1 ⟨⟨hk,hqx,hqy⟩,hM1⟩
 refine aE (aA (cY Z Z Z Z (aB (aC (aE ?_)))))
 refine aW Z (fun h9 => ?_) (fun h9 => ?_)
 ·obtain ⟨cn,hcn⟩:=cT (xs:=cs) (k:=k) hclen (by omega)
  have hkx:∀ b∈xs, -1152921504606846976≤iN xs (cs.take k) (·.nx) b∧iN xs (cs.take k) (·.nx) b≤1152921504606846976:=fun b hbm=>by have:=uY (cs:=cs.take k) (g:=(·.nx)) hs hb (fun c h=>hcs c (List.mem_of_mem_take h)) (fun c h=>(hcs c (List.mem_of_mem_take h)).n.x) hbm;have:=List.length_take_le k cs;omega
  have hky:∀ b∈xs, -1152921504606846976≤iN xs (cs.take k) (·.ny) b∧iN xs (cs.take k) (·.ny) b≤1152921504606846976:=fun b hbm=>by have:=uY (cs:=cs.take k) (g:=(·.ny)) hs hb (fun c h=>hcs c (List.mem_of_mem_take h)) (fun c h=>(hcs c (List.mem_of_mem_take h)).n.y) hbm;have:=List.length_take_le k cs;omega
  refine aM (aC (aE (aS (aE (aA (wq (bI (k) tQ Z Z Z ((R'.memY hM1 hdB).below_len (aG cL hcn)) ((R'.memY hM1 hdB).someK (aG cL hcn))) Z (wq (dN _ fC (R'.memY hM1 hdB) (aG cL hcn) Z) Z (aQ nQ hM1 Z Z (fun b2 w2 M2=>(bB 3 _ fC M2 Z Z Z Z Z (aO Z) Z (fun w3 M3=>(aB (aC (aA (wq (aH (.func _ _ _) Z) Z (wq (aU 3 fC M3 Z Z Z) Z (eL bQy Z Z (bKq _ bs ⟨rx.A,rx.n,rx.c,ex⟩ ⟨ry.A,ry.n,ry.c,ey⟩ (fun b=>iN xs (cs.take k) (·.nx) b) (fun b=>iN xs (cs.take k) (·.ny) b) A n c xs (R.memY M3 hdA) hs hb hqx hqy hkx hky cn (hcs cn (List.mem_of_getElem? hcn)) (M3.ownSeg 0 3) (M3.away 0 3 R hdA)) ?_)))))))))))))))))
  rintro v4 w4 ⟨rfl,ex2,ey2,hqx2,hqy2,hM4⟩
  have M4:Mem _ _ [_,_,_,_] _:=M3.seg 0 3 hM4
  refine aB (cU (aC (aA (wq (bA Z Z (by omega) (by omega)) Z (aR Z Z (aB ?_))))))
  refine bX (k+1,ex2,ey2) (bE Z eB) (cA Z (cA Z (cA Z gL))) ?_ ?_
  ·exact ⟨⟨by omega,by rw [← aLc hcn];exact hqx2,by rw [← aLc hcn];exact hqy2⟩,M4.keep [true,true,true,false]⟩
  ·(show mc - (k+1) < mc - k;omega)
 ·have hkn:k=mc:=by omega
  rw [List.take_of_length_le (by omega)] at hqx hqy
  refine cS (dE (dH (eO (kO ?_))))
  exact ⟨Z,ex,ey,hqx,hqy,hM1⟩
theorem Mem.rot3 {w0 w:World} {X:List Nat} {a b c:eN} (M:Mem w0 X [a,b,c] w):Mem w0 X [c,b,a] w:=M.perm (List.reverse_perm [a,b,c]).symm
theorem Mem.rot3' {w0 w:World} {X:List Nat} {a b c:eN} (M:Mem w0 X [a,b,c] w):Mem w0 X [c,a,b] w:=M.perm (List.perm_append_comm (l₁:=[a,b]) (l₂:=[c]))
theorem aXs {xs:List Body} {cs:List Con} {n:Nat} (hs:dA xs) (hb:∀ b∈xs,Okb b) (hcs:∀ c∈cs,OkC xs c) (hn:cs.length=n) (hl:n≤8589934592) {b:Body} (h:b∈xs):(-1152921504606846976≤iN xs cs (·.nx) b∧iN xs cs (·.nx) b≤1152921504606846976) ∧ -1152921504606846976≤iN xs cs (·.ny) b∧iN xs cs (·.ny) b≤1152921504606846976:=by
 have h1:=uY (cs:=cs) (g:=(·.nx)) hs hb hcs (fun c h=>(hcs c h).n.x) h
 have h2:=uY (cs:=cs) (g:=(·.ny)) hs hb hcs (fun c h=>(hcs c h).n.y) h
 omega
theorem bFi (w:World) (A:Option Addr) (n c:Nat) (xs:List Body) (R:Rd w 10 A n (xs.map aF)) (hs:dA xs) (hb:∀ b∈xs,Okb b) (hn:n≤1048576) (B:Option Addr) (mc c':Nat) (cs:List Con) (R':Rd w 5 B mc (cs.map cL)) (hcs:∀ c∈cs,OkC xs c) (hmc:mc≤8589934592) :
  Calls prog 170 #[.slice A n c,.slice B mc c'] w (gK (fun v w'=>∃ rx ry:Row,v=.tuple #[.slice rx.A rx.n rx.c,.slice ry.A ry.n ry.c]∧aZ 2 1 rx.A rx.n rx.c ((xs.map (fun b=>iN xs cs (·.nx) b)).map dJ) rx.e∧aZ 2 1 ry.A ry.n ry.c ((xs.map (fun b=>iN xs cs (·.ny) b)).map dJ) ry.e∧Mem w [] [rx.e,ry.e] w')):=by
 have hlen:xs.length=n:=by simpa using R.len
 have hbd:=R.bound
 have hclen:cs.length=mc:=by simpa using R'.len
 have hbd':=R'.bound
 have hz0:∀ g:Con→Int,List.replicate n ([.int .i64 0]:List Value)=(xs.map (fun b=>iN xs (cs.take 0) g b)).map dJ:=fun g=>by rw [bLm,aXk hlen (0:Int)];exact congrArg (List.map dJ) (List.map_congr_left (fun b _=>(aLb xs cs g b).symm))
 refine aI #[.tmp 4,.tmp 5] 28 func170 Z results170 ntmps170 Z ?_
 have M0:=Mem.refl w
 refine aE (aA (eG Z Z (eG Z Z (aB (aC (aE (aLk [(0,0),(1,0),(2,0),(4,0),(5,0)] 3 6 [(6,2),(7,0),(8,2),(9,0)] [(3,2),(7,0),(8,2),(9,0)] mixed Z (by kernel_rfl) (fun w1 hb1 hh1 => ?_))))))))
 have M1:=M0.drew hb1 hh1
 refine sQ Z Z Z (fun _=>aH (.slice _ _ _) Z) (sQ Z Z Z (fun _=>aH (.slice _ _ _) Z) (sQ Z Z Z (fun _=>cK underlying46 Z) (sQ Z Z Z (fun _=>aH (.slice _ _ _) Z) (sQ Z Z Z (fun _=>cK underlying46 Z) ?_))))
 refine aDt ?_ ?_
 ·refine dL [] Z (by kernel_rfl) (nO (n) [.int .i64 0] rJ aIc Z M1 Z Z Z Z Z Z (by omega) (by omega) (fun b2 w2 M2 => ?_))
  have hL10:=lE (T:=2) (sz:=1) (b:=b2) (nn:=n) (List.replicate n [.int .i64 0]) (fun l hl=>by rw [List.eq_of_mem_replicate hl];rfl) (by simp) (by omega)
  rw [hz0 (·.nx)] at hL10
  rw [hz0 (·.nx)] at M2
  refine aB (aC ⟨dG, ?_⟩)
  refine dL [] Z (by kernel_rfl) (nO (n) [.int .i64 0] rJ aIc Z M2 Z Z Z Z Z Z (by omega) (by omega) (fun b3 w3 M3 => ?_))
  have hL13:=lE (T:=2) (sz:=1) (b:=b3) (nn:=n) (List.replicate n [.int .i64 0]) (fun l hl=>by rw [List.eq_of_mem_replicate hl];rfl) (by simp) (by omega)
  rw [hz0 (·.ny)] at hL13
  rw [hz0 (·.ny)] at M3
  refine aB (aC ⟨dG, ?_⟩)
  refine aX Z Z Z (fun _=>cD [(0,.slice _ _ _),(1,.slice _ _ _),(2,.slice _ _ _)] _ aLa Z Z) (dL [] Z (by kernel_rfl) (bN (.agg (.mk _)) M3 Z Z Z (fun b4 w4 M4 => ?_)))
  refine aB (aC ⟨dG, ?_⟩)
  refine aX Z Z Z (fun _=>aJ (.pointer _) Z) (bS (aC (aE (aA (dK Z Z (wq (aH (.pointer _) Z) Z (wq (dW [.pointer _] [] Z Z) Z ?_)))))))
  have M5:Mem _ _ [_,_,_] _:=Mem.rot3' M4
  refine eL bDh rfl rfl (aPw _ b4 ⟨some ⟨b2,0,none⟩,n,n,(some b2,bc ((xs.map (fun b=>iN xs (cs.take 0) (·.nx) b)).map dJ).flatten 2)⟩ ⟨some ⟨b3,0,none⟩,n,n,(some b3,bc ((xs.map (fun b=>iN xs (cs.take 0) (·.ny) b)).map dJ).flatten 2)⟩ A n c xs (R.mem M5) hs hb B mc c' cs (R'.mem M5) hcs hmc hL10 hL13 (M5.ownSeg 0 3) (M5.away 0 3 R (by simp)) (M5.away 0 3 R' (by simp))) ?_
  rintro v6 w6 ⟨rfl,ex,ey,hqx,hqy,hM6⟩
  have M6:Mem _ _ [_,_,_] _:=M5.seg 0 3 hM6
  refine aB (aC (aE (fY [(0,0),(1,0),(2,0),(3,1),(4,0),(5,0),(6,0),(7,1),(8,0),(9,0)] mixed M6 Z (by kernel_rfl) (fun w7 M7=>(aX Z Z Z (fun _=>aH (.pointer _) Z) (aX Z Z Z (fun _=>bK Z) (aX Z Z Z (fun _=>aD 1 sF Z) (bP Z Z Z (aK 0 (.slice _ _ _) pJ M7 Z Z Z) (aX Z Z Z (fun _=>aH (.pointer _) Z) (aX Z Z Z (fun _=>bK Z) (aX Z Z Z (fun _=>aD 2 sG Z) (bP Z Z Z (aK 0 (.slice _ _ _) pJ M7 Z Z Z) (aX Z Z Z (fun _=>aJ (.slice _ _ _) Z) ?_)))))))))))))
  refine aX Z Z Z (fun _=>aJ (.slice _ _ _) Z) (bS (aC (aP (gA (.slice _ _ _) (.slice _ _ _) Z Z ?_))))
  exact ⟨⟨(some ⟨b2,0,none⟩),n,n,ex⟩,⟨(some ⟨b3,0,none⟩),n,n,ey⟩,Z,hqx,hqy,M7.keep [false,true,true]⟩
 ·refine dL [] Z (by kernel_rfl) (nO (n) [.int .i64 0] rJ aIc Z M1 Z Z Z Z Z Z (by omega) (by omega) (fun b8 w8 M8 => ?_))
  have hL13:=lE (T:=2) (sz:=1) (b:=b8) (nn:=n) (List.replicate n [.int .i64 0]) (fun l hl=>by rw [List.eq_of_mem_replicate hl];rfl) (by simp) (by omega)
  rw [hz0 (·.ny)] at hL13
  rw [hz0 (·.ny)] at M8
  refine aB (aC ⟨dG, ?_⟩)
  refine dL [] Z (by kernel_rfl) (nO (n) [.int .i64 0] rJ aIc Z M8 Z Z Z Z Z Z (by omega) (by omega) (fun b9 w9 M9 => ?_))
  have hL10:=lE (T:=2) (sz:=1) (b:=b9) (nn:=n) (List.replicate n [.int .i64 0]) (fun l hl=>by rw [List.eq_of_mem_replicate hl];rfl) (by simp) (by omega)
  rw [hz0 (·.nx)] at hL10
  rw [hz0 (·.nx)] at M9
  refine aB (aC ⟨dG, ?_⟩)
  refine aX Z Z Z (fun _=>cD [(0,.slice _ _ _),(1,.slice _ _ _),(2,.slice _ _ _)] _ aLa Z Z) (dL [] Z (by kernel_rfl) (bN (.agg (.mk _)) M9 Z Z Z (fun b10 w10 M10 => ?_)))
  refine aB (aC ⟨dG, ?_⟩)
  refine aX Z Z Z (fun _=>aJ (.pointer _) Z) (bS (aC (aE (aA (dK Z Z (wq (aH (.pointer _) Z) Z (wq (dW [.pointer _] [] Z Z) Z ?_)))))))
  have M11:Mem _ _ [_,_,_] _:=Mem.rot3 M10
  refine eL bDh rfl rfl (aPw _ b10 ⟨some ⟨b9,0,none⟩,n,n,(some b9,bc ((xs.map (fun b=>iN xs (cs.take 0) (·.nx) b)).map dJ).flatten 2)⟩ ⟨some ⟨b8,0,none⟩,n,n,(some b8,bc ((xs.map (fun b=>iN xs (cs.take 0) (·.ny) b)).map dJ).flatten 2)⟩ A n c xs (R.mem M11) hs hb B mc c' cs (R'.mem M11) hcs hmc hL10 hL13 (M11.ownSeg 0 3) (M11.away 0 3 R (by simp)) (M11.away 0 3 R' (by simp))) ?_
  rintro v12 w12 ⟨rfl,ex,ey,hqx,hqy,hM12⟩
  have M12:Mem _ _ [_,_,_] _:=M11.seg 0 3 hM12
  refine aB (aC (aE (fY [(0,0),(1,0),(2,0),(3,1),(4,0),(5,0),(6,0),(7,1),(8,0),(9,0)] mixed M12 Z (by kernel_rfl) (fun w13 M13=>(aX Z Z Z (fun _=>aH (.pointer _) Z) (aX Z Z Z (fun _=>bK Z) (aX Z Z Z (fun _=>aD 1 sF Z) (bP Z Z Z (aK 0 (.slice _ _ _) pJ M13 Z Z Z) (aX Z Z Z (fun _=>aH (.pointer _) Z) (aX Z Z Z (fun _=>bK Z) (aX Z Z Z (fun _=>aD 2 sG Z) (bP Z Z Z (aK 0 (.slice _ _ _) pJ M13 Z Z Z) (aX Z Z Z (fun _=>aJ (.slice _ _ _) Z) ?_)))))))))))))
  refine aX Z Z Z (fun _=>aJ (.slice _ _ _) Z) (bS (aC (aP (gA (.slice _ _ _) (.slice _ _ _) Z Z ?_))))
  exact ⟨⟨(some ⟨b9,0,none⟩),n,n,ex⟩,⟨(some ⟨b8,0,none⟩),n,n,ey⟩,Z,hqx,hqy,M13.keep [false,true,true]⟩
theorem aZr (w:World) (A:Option Addr) (n c:Nat) (xs:List Body) (R:Rd w 10 A n (xs.map aF)) (hs:dA xs) (hb:∀ b∈xs,Okb b) (hn:n≤1048576) (B:Option Addr) (mc c':Nat) (cs:List Con) (R':Rd w 5 B mc (cs.map cL)) (hcs:∀ c∈cs,OkC xs c) (hmc:mc≤8589934592) :
  Calls prog 151 #[.slice A n c,.slice B mc c'] w (gK (fun v w'=>∃ r:Row,v=.tuple #[.slice r.A r.n r.c,.bool (aUh xs cs)]∧aZ 43 10 r.A r.n r.c ((aHa xs cs).map aF) r.e∧Mem w [] [r.e] w')):=by
 have hlen:xs.length=n:=by simpa using R.len
 have hbd:=R.bound
 have hclen:cs.length=mc:=by simpa using R'.len
 have hbd':=R'.bound
 refine aI #[.tmp 4,.tmp 5] 75 func151 Z results151 ntmps151 Z ?_
 have M0:=Mem.refl w
 refine aE (aA (eG Z Z (wq (aJ (.bool false) Z) Z (aB (aC (aE (aA (dK Z Z (dK Z Z (eL bQi Z Z (bFi _ A n c xs (R.mem M0) hs hb hn B mc c' cs (R'.mem M0) hcs hmc) ?_))))))))))
 rintro v1 w1 ⟨rx,ry,rfl,hrx,hry,hM1⟩
 have M1:Mem _ _ [_,_] _:=M0.call0 hM1
 have hrxn:xs.length=rx.n:=by simpa using hrx.1
 have hryn:xs.length=ry.n:=by simpa using hry.1
 refine wq (aH (.tuple (List.toArray _)) Z) Z (wq (bM (.slice _ _ _) Z Z) Z (wq (bM (.slice _ _ _) Z Z) Z (eG Z Z (eG Z Z (aB (aC (aE (aA (wq (aJ (.bool false) Z) Z (aB (aC (aE (aA (eG Z Z ?_))))))))))))))
 have M2:=M1.dummy default
 refine aB (aC (aE (aE (aA (dK Z Z (wq (cK underlying46 Z) Z (aR Z Z (aB (aC (aS (dM (σ:=Nat × Row) [4,5,6,7,22,23] (fun (k,q)=>[(8,.bool ((xs.take k).any (aUg xs cs))),(9,.slice q.A q.n q.c),(24,.int .i64 (k:Int))]) (fun (k,q) w'=>(k≤n∧aZ 43 10 q.A q.n q.c (((xs.take k).map (yC xs cs)).map aF) q.e)∧Mem w [] [rx.e,ry.e,q.e] w') (fun (k,q)=>n - k) (0,fE) (bE (bv Z Z) (bE Z (bE Z eB))) (⟨⟨by omega,aZ.nil _ _ _⟩,M2⟩) ?_)))))))))))
 rintro ⟨k,q⟩ ρ3 w3 ⟨⟨hk,hq⟩,hM3⟩
 have htl:=List.length_take_le k xs
 have hqn:(xs.take k).length=q.n:=by simpa using hq.1
 refine aE (aA (cY Z Z Z Z (aB (aC (aE ?_)))))
 refine aW Z (fun h25 => ?_) (fun h25 => ?_)
 ·obtain ⟨xb,hxb⟩:=cT (xs:=xs) (k:=k) hlen (by omega)
  have hxm:=List.mem_of_getElem? hxb
  have hsb:=aXs hs hb hcs hclen hmc hxm
  have hvb:=(hb xb hxm).v
  have hlx:=fA (xb.vx+iN xs cs (·.nx) xb) (l:=16777216) (by decide)
  have hly:=fA (xb.vy+iN xs cs (·.ny) xb) (l:=16777216) (by decide)
  refine aM (aC (aE (aS (aE (aA (aR Z Z (wq (bI (k) dS Z Z Z ((R.mem hM3).below_len (aG aF hxb)) ((R.mem hM3).someK (aG aF hxb))) Z (wq (dN _ bR (R.mem hM3) (aG aF hxb) Z) Z (aQ fX hM3 Z Z (fun b4 w4 M4=>(bJ Z Z (bB 3 _ bR M4 Z Z Z Z Z (aO Z) Z (fun w5 M5=>(aB (aC (aE (fY [(0,0),(1,0),(2,1),(3,0),(4,0),(5,0),(6,1),(7,1),(8,0),(9,2),(10,0),(11,0),(12,0),(13,0),(14,0)] mixed M5 Z (by kernel_rfl) (fun w6 M6=>(aX Z Z Z (fun _=>aD 8 eC Z) ?_)))))))))))))))))))
  refine aX Z Z Z (fun _=>aD 0 cX Z) (bP Z Z Z (aK 3 (.int _ _) aY M6 Z Z Z) (aX Z Z Z (fun _=>bG dZ underlying2 Z (fL _ (by omega) (by omega))) (jY Z Z Z (eD Z Z Z (bP Z Z Z (bI (k) rJ Z Z Z ((hrx.rd M6 (bH (i:=0) Z)).below_len (aG dJ (aG _ hxb))) ((hrx.rd M6 (bH (i:=0) Z)).someK (aG dJ (aG _ hxb)))) (bP Z Z Z (iC (.int _ _) jQ (hrx.rd M6 (bH (i:=0) Z)) (aG dJ (aG _ hxb)) Z) (aX Z Z Z (fun _=>bA Z Z (by omega) (by omega)) ?_)))))))
  refine dL [true,true,true] Z (by kernel_rfl) (dO aSd Z Z M6 (aFv _ (xb.vx+iN xs cs (·.nx) xb) 16777216 ⟨by decide,by decide⟩) (fun w7 M7 => ?_))
  refine aB (aC ⟨dG, ?_⟩)
  refine aX Z Z Z (fun _=>aH (.tuple (List.toArray _)) Z) (aX Z Z Z (fun _=>bM (.int _ _) Z Z) (aX Z Z Z (fun _=>bM (.bool (decide _)) Z Z) (nF Z Z Z (aX Z Z Z (fun _=>aJ (.bool (decide _)) Z) (bS (aC (aE (fY [(0,0),(1,0),(2,1),(3,0),(4,0),(5,0),(6,1),(7,1),(8,0),(9,2),(10,0),(11,0),(12,0),(13,0),(14,0)] mixed M7 Z (by kernel_rfl) (fun w8 M8=>(aX Z Z Z (fun _=>aD 8 eC Z) (aX Z Z Z (fun _=>aD 1 cV Z) (bP Z Z Z (aK 3 (.int _ _) aY M8 Z Z Z) ?_))))))))))))
  refine aX Z Z Z (fun _=>bG dZ underlying2 Z (fL _ (by omega) (by omega))) (jY Z Z Z (eD Z Z Z (bP Z Z Z (bI (k) rJ Z Z Z ((hry.rd M8 (bH (i:=1) Z)).below_len (aG dJ (aG _ hxb))) ((hry.rd M8 (bH (i:=1) Z)).someK (aG dJ (aG _ hxb)))) (bP Z Z Z (iC (.int _ _) jQ (hry.rd M8 (bH (i:=1) Z)) (aG dJ (aG _ hxb)) Z) (aX Z Z Z (fun _=>bA Z Z (by omega) (by omega)) (dL [true,true,true] Z (by kernel_rfl) (dO aSd Z Z M8 (aFv _ (xb.vy+iN xs cs (·.ny) xb) 16777216 ⟨by decide,by decide⟩) (fun w9 M9 => ?_))))))))
  refine aB (aC ⟨dG, ?_⟩)
  refine aX Z Z Z (fun _=>aH (.tuple (List.toArray _)) Z) (aX Z Z Z (fun _=>bM (.int _ _) Z Z) (aX Z Z Z (fun _=>bM (.bool (decide _)) Z Z) (nF Z Z Z (aX Z Z Z (fun _=>aJ (.bool (decide _)) Z) (bS (aC (aE (aA (aR Z Z (wq (bG nE underlying21 Z (jU _ (by omega) (by omega))) Z (aR Z Z (wq (bG nE underlying21 Z (jU _ (by omega) (by omega))) Z (wq (cD [(0,.int _ _),(1,.int _ _)] _ fB Z Z) Z (wq (aD 8 eC Z) Z (vE 3 _ bO M9 Z Z Z Z Z (aO Z) (Nat.le_of_ble_eq_true Z) (fun w10 M10 => ?_))))))))))))))))
  refine aB (aC (aE (aA (wq (aH (.bool _) Z) Z (wq (aH (.bool _) Z) Z ?_)))))
  refine kG 62 _ Z (fun g62 => ?_) (fun g62 => ?_)
  ·refine aN rfl rfl (wq (bQ true (.bool true) rfl rfl) rfl (wq (aH (.bool true) rfl) rfl (aN rfl rfl (wq (bQ true (.bool true) rfl rfl) rfl (wq (aJ (.bool true) rfl) rfl (aB (aC (aA (dK rfl rfl (wq (aU 3 bR M10 rfl rfl rfl) rfl (bW [.agg (List.toArray _)] [aF (yC xs cs xb)] rfl dS M10 rfl rfl rfl rfl (cQ rfl) (by decide) (fun b11 w11 M11=>(cO 2 [aF (yC xs cs xb)] dS M11 rfl rfl rfl rfl rfl hq rfl (by simp [aF,Go.Bil.one]) (dI.ofMem 4 M11 rfl) (by omega) (fun A12 c12 e12 w12 M12 hR12=>(eG rfl rfl (aB ?_))))))))))))))))
   refine cU (aC (aA (wq (bA Z Z (by omega) (by omega)) Z (aR Z Z (aB ?_)))))
   refine bX (k+1,⟨A12,q.n+1,c12,e12⟩) (bE (bv Z (by rw [cB hxb,List.any_append,List.any_cons,List.any_nil,Bool.or_false];rw [g62,Bool.true_or])) (bE Z (bE Z eB))) (cA Z (cA Z (cA Z (cA Z (cA Z (cA Z gL)))))) ?_ ?_
   ·exact ⟨⟨by omega,by rw [cB hxb,List.map_append,List.map_append];exact hR12⟩,M12.keep [true,true,true,false,false]⟩
   ·(show n - (k+1) < n - k;omega)
  ·refine wq (aH (.bool (decide _)) Z) Z (wq (bQ false (.bool (decide _)) Z Z) Z (wq (aH (.bool (decide _)) Z) Z ?_))
   refine dT 65 Z (fun g65 => ?_) (fun g65 => ?_)
   ·refine aN rfl rfl (wq (bQ true (.bool true) rfl rfl) rfl (wq (aJ (.bool true) rfl) rfl (aB (aC (aA (dK rfl rfl (wq (aU 3 bR M10 rfl rfl rfl) rfl (bW [.agg (List.toArray _)] [aF (yC xs cs xb)] rfl dS M10 rfl rfl rfl rfl (cQ rfl) (by decide) (fun b13 w13 M13=>(cO 2 [aF (yC xs cs xb)] dS M13 rfl rfl rfl rfl rfl hq rfl (by simp [aF,Go.Bil.one]) (dI.ofMem 4 M13 rfl) (by omega) (fun A14 c14 e14 w14 M14 hR14=>(eG rfl rfl (aB (cU (aC (aA (wq (bA rfl rfl (by omega) (by omega)) rfl (aR rfl rfl (aB ?_)))))))))))))))))))
    refine bX (k+1,⟨A14,q.n+1,c14,e14⟩) (bE (bv rfl (by rw [cB hxb,List.any_append,List.any_cons,List.any_nil,Bool.or_false];rw [g62];simp [aUg,g65])) (bE rfl (bE rfl eB))) (cA rfl (cA rfl (cA rfl (cA rfl (cA rfl (cA rfl gL)))))) ?_ ?_
    ·exact ⟨⟨by omega,by rw [cB hxb,List.map_append,List.map_append];exact hR14⟩,M14.keep [true,true,true,false,false]⟩
    ·(show n - (k+1) < n - k;omega)
   ·refine wq (aH (.bool (decide _)) rfl) rfl (wq (bQ false (.bool (decide _)) rfl rfl) rfl (wq (aJ (.bool (decide _)) rfl) rfl (aB (aC (aA (dK rfl rfl (wq (aU 3 bR M10 rfl rfl rfl) rfl (bW [.agg (List.toArray _)] [aF (yC xs cs xb)] rfl dS M10 rfl rfl rfl rfl (cQ rfl) (by decide) (fun b15 w15 M15=>(cO 2 [aF (yC xs cs xb)] dS M15 rfl rfl rfl rfl rfl hq rfl (by simp [aF,Go.Bil.one]) (dI.ofMem 4 M15 rfl) (by omega) (fun A16 c16 e16 w16 M16 hR16=>(eG rfl rfl (aB (cU (aC (aA (wq (bA rfl rfl (by omega) (by omega)) rfl ?_)))))))))))))))))
    refine aR Z Z (aB ?_)
    refine bX (k+1,⟨A16,q.n+1,c16,e16⟩) (bE (bv rfl (by rw [cB hxb,List.any_append,List.any_cons,List.any_nil,Bool.or_false];rw [g62];simp [aUg,g65])) (bE rfl (bE rfl eB))) (cA rfl (cA rfl (cA rfl (cA rfl (cA rfl (cA rfl gL)))))) ?_ ?_
    ·exact ⟨⟨by omega,by rw [cB hxb,List.map_append,List.map_append];exact hR16⟩,M16.keep [true,true,true,false,false]⟩
    ·(show n - (k+1) < n - k;omega)
 ·have hkn:k=n:=by omega
  rw [List.take_of_length_le (by omega)] at hq
  refine cS (dE (dH (eO (aC (aE (aA (dK Z Z (wq (aH (.bool _) Z) Z (eG Z Z (wq (aJ (.bool _) Z) Z (aB (aC (aP (gA (.slice _ _ _) (.bool _) Z Z ?_))))))))))))))
  exact ⟨q,uZ Z (congrArg Value.bool (by rw [List.take_of_length_le (by omega)];rfl)),hq,hM3.keep [false,false,true]⟩
theorem aZs (w:World) (A:Option Addr) (n c:Nat) (xs:List Body) (R:Rd w 10 A n (xs.map aF)) (hs:dA xs) (hb:∀ b∈xs,Okb b) (hn:n≤1048576) (B:Option Addr) (mc c':Nat) (cs:List Con) (R':Rd w 5 B mc (cs.map cL)) (hcs:∀ c∈cs,OkC xs c) (hmc:mc≤8589934592) :
  Calls prog 131 #[.slice A n c,.slice B mc c'] w (gK (fun v w'=>∃ r:Row,v=.tuple #[.slice r.A r.n r.c,.bool (iJ xs cs 4).2]∧aZ 43 10 r.A r.n r.c (((iJ xs cs 4).1).map aF) r.e∧Mem w [] [r.e] w')):=by
 have hlen:xs.length=n:=by simpa using R.len
 have hbd:=R.bound
 have hclen:cs.length=mc:=by simpa using R'.len
 have hbd':=R'.bound
 refine aI #[.tmp 4,.tmp 5] 25 func131 Z results131 ntmps131 Z ?_
 have M0:=Mem.refl w
 refine aE (aA (eG Z Z (wq (aJ (.bool false) Z) Z (aB (aC (aE (aA (wq (aJ (.bool false) Z) Z ?_))))))))
 have M1:=M0.dummy default
 refine aB (aC (aE (aE (aA (aR Z Z (aB (aC (aS (dM (σ:=Nat × Row) [1,4,5] (fun (k,q)=>[(0,.slice q.A q.n q.c),(6,.bool (iJ xs cs k).2),(9,.int .i64 (k:Int))]) (fun (k,q) w'=>(k≤4∧Rd w' 10 q.A q.n ((iJ xs cs k).1.map aF)∧(0 < k→aZ 43 10 q.A q.n q.c (((iJ xs cs k).1).map aF) q.e))∧Mem w [] [q.e] w') (fun (k,q)=>4 - k) (0,⟨A,n,c,(none,default)⟩) (bE Z (bE (bv Z Z) (bE Z eB))) (⟨⟨by omega,R.mem M1,(fun h=>absurd h (by omega))⟩,M1⟩) ?_)))))))))
 rintro ⟨k,q⟩ ρ2 w2 ⟨⟨hk,hRq,hq⟩,hM2⟩
 have hql:(iJ xs cs k).1.length=q.n:=by simpa using hRq.len
 have hsl:=(jT xs cs k).len
 refine aE (aA (cY Z Z Z Z (aB (aC (aE ?_)))))
 refine aW Z (fun h10 => ?_) (fun h10 => ?_)
 ·refine aM (aC (aE (aS (aE (aA (dK Z Z (dK Z Z (eL bPz Z Z (aZr _ q.A q.n q.c (iJ xs cs k).1 hRq ((jT xs cs k).sorted hs) (sO hb k) (by omega) B mc c' cs (R'.mem hM2) (fun c h=>(jT xs cs k).okc (hcs c h)) hmc) ?_))))))))
  rintro v3 w3 ⟨r,rfl,hr,hM3⟩
  have M3:Mem _ _ [_,_] _:=hM2.call0 hM3
  refine wq (aH (.tuple (List.toArray _)) Z) Z (wq (bM (.slice _ _ _) Z Z) Z (wq (bM (.bool _) Z Z) Z (eG Z Z (wq (aJ (.bool _) Z) Z (aB (aC (aA (dK Z Z (wq (aH (.bool _) Z) Z (wq (aH (.bool _) Z) Z ?_))))))))))
  refine kG 19 _ Z (fun g19 => ?_) (fun g19 => ?_)
  ·refine aN Z Z (wq (bQ true (.bool true) Z Z) Z (eG Z Z (wq (aJ (.bool true) Z) Z (aB (cU (aC (aA (wq (bA Z Z (by omega) (by omega)) Z (aR Z Z (aB ?_))))))))))
   refine bX (k+1,r) (bE Z (bE (bv Z (by show true=(_ || _);rw [g19,Bool.true_or])) (bE Z eB))) (cA Z (cA Z (cA Z gL))) ?_ ?_
   ·exact ⟨⟨by omega,hr.rd M3 (bH (i:=1) Z),(fun _=>hr)⟩,M3.keep [false,true]⟩
   ·(show 4 - (k+1) < 4 - k;omega)
  ·refine wq (aH (.bool _) Z) Z (wq (bQ false (.bool _) Z Z) Z (eG Z Z (wq (aJ (.bool _) Z) Z (aB (cU (aC (aA (wq (bA Z Z (by omega) (by omega)) Z (aR Z Z (aB ?_))))))))))
   refine bX (k+1,r) (bE Z (bE (bv Z (by show _=(_ || _);rw [g19,Bool.false_or])) (bE Z eB))) (cA Z (cA Z (cA Z gL))) ?_ ?_
   ·exact ⟨⟨by omega,hr.rd M3 (bH (i:=1) Z),(fun _=>hr)⟩,M3.keep [false,true]⟩
   ·(show 4 - (k+1) < 4 - k;omega)
 ·have hk4:k=4:=by omega
  rw [hk4] at hq
  refine cS (dE (dH (eO (aC (aE (aA (dK Z Z (wq (aH (.bool _) Z) Z (eG Z Z (wq (aJ (.bool _) Z) Z (aB (aC (aP (gA (.slice _ _ _) (.bool _) Z Z ?_))))))))))))))
  exact ⟨q,uZ Z (congrArg Value.bool (by rw [hk4])),hq (by omega),hM2⟩
theorem aFc (w:World) (c:Con) (a b:Body) (hc:Okn c) (ha:Okb a) (hb:Okb b) :
  Calls prog 174 #[.agg (cL c).toArray,(.agg (aF a).toArray),(.agg (aF b).toArray)] w (Rb w (.int .i64 (qG c a b))):=by
 have hdp:=hc.d
 have hm1:=ha.m
 have hm2:=hb.m
 refine aI #[.tmp 6] 27 func174 Z results174 ntmps174 Z ?_
 have M0:=Mem.refl w
 refine aE (aA (bN (.agg (.mk _)) M0 Z Z Z (fun b1 w1 M1=>(bN (.agg (.mk _)) M1 Z Z Z (fun b2 w2 M2=>(bN (.agg (.mk _)) M2 Z Z Z (fun b3 w3 M3=>(bJ Z Z (aB (aC (aE (aA (wq (aD 4 aFm Z) Z (wq (aK 0 (.int _ _) aY M3 Z Z Z) Z (wq (bG dZ underlying2 Z (fL _ (by omega) (by omega))) Z (wq (gJ Z Z (by omega) (by omega)) Z (bJ Z Z (aB (aC (aE (aE (aA (aR Z Z (cY Z Z Z Z (wq (aH (.bool (decide _)) Z) Z ?_)))))))))))))))))))))))))
 refine dT 14 Z (fun g14 => ?_) (fun g14 => ?_)
 ·refine aN Z Z (aN Z Z (aN Z Z (aN Z Z (aN Z Z (aN Z Z (aN Z Z (aN Z Z (wq (bQ true (.bool true) Z Z) Z (aB (aC (cG Z (aE (aA (bJ Z Z (aB (aC (aP (cN (cI (.int _ _) Z ?_)))))))))))))))))))
  exact ⟨iE (by unfold qG;rw [if_pos (by omega)]),M3.below⟩
 ·refine wq (aD 4 eK Z) Z (wq (aK 1 (.int _ _) aY M3 Z Z Z) Z (cY Z Z Z Z (wq (aH (.bool (decide _)) Z) Z ?_)))
  refine dT 18 Z (fun g18 => ?_) (fun g18 => ?_)
  ·refine wq (aD 4 eK Z) Z (wq (aK 2 (.int _ _) aY M3 Z Z Z) Z (cY Z Z Z Z (wq (bQ true (.bool (decide _)) Z Z) Z (wq (bQ false (.bool (decide _)) Z Z) Z (aB (aC ?_))))))
   refine aW Z (fun h23 => ?_) (fun h23 => ?_)
   ·refine aE (aA (bJ Z Z (aB (aC (aP (cN (cI (.int _ _) Z ?_)))))))
    exact ⟨iE (by unfold qG;rw [if_pos (by omega)]),M3.below⟩
   ·refine aM (aC (aE (aA (aR Z Z (wq (fF Z Z (by omega) (by omega)) Z (wq (kQ Z Z (by decide)) Z (bJ Z Z (aB (aC (aP (cI (.int _ _) Z ?_)))))))))))
    exact ⟨iE (by unfold qG;rw [if_neg (by omega)];exact qY _),M3.below⟩
  ·refine aN Z Z (aN Z Z (aN Z Z (wq (bQ false (.bool false) Z Z) Z (wq (bQ false (.bool false) Z Z) Z (aB (aC (cF Z (aM (aC (aE (aA (aR Z Z (wq (fF Z Z (by omega) (by omega)) Z (wq (kQ Z Z (by decide)) Z (bJ Z Z (aB (aC (aP (cI (.int _ _) Z ?_)))))))))))))))))))
   exact ⟨iE (by unfold qG;rw [if_neg (by omega)];exact qY _),M3.below⟩
theorem aJq (w:World) (c:Con) (a b:Body) (hc:Okn c) (ha:Okb a) (hb:Okb b) (hi:Bool) :
  Calls prog 155 #[.agg (cL c).toArray,(.agg (aF a).toArray),(.agg (aF b).toArray),.bool hi] w (Rb w (.int .i64 (rS c a b (if hi=true then b.mass else a.mass)))):=by
 have hdp:=hc.d
 have hm1:=ha.m
 have hm2:=hb.m
 have hm0:0≤(if hi=true then b.mass else a.mass)∧(if hi=true then b.mass else a.mass)≤1048576:=by split <;> omega
 have hsr:=aXp (a:=a) (b:=b) hc hm0
 have har:=aDu (a:=a) (b:=b) hc
 refine aI #[.tmp 8] 36 func155 Z results155 ntmps155 Z ?_
 have M0:=Mem.refl w
 refine aE (aA (bN (.agg (.mk _)) M0 Z Z Z (fun b1 w1 M1=>(bN (.agg (.mk _)) M1 Z Z Z (fun b2 w2 M2=>(bN (.agg (.mk _)) M2 Z Z Z (fun b3 w3 M3=>(bJ Z Z (aB (aC (aE (aA (wq (aD 4 eK Z) Z (wq (aK 1 (.int _ _) aY M3 Z Z Z) Z (bJ Z Z (aB (aC (aE (aE (aA (wq (aH (.bool _) Z) Z (aB (aC ?_)))))))))))))))))))))))
 refine iV _ Z (fun h14 => ?_) (fun h14 => ?_)
 ·refine aA (wq (aD 4 eK Z) Z (wq (aK 2 (.int _ _) aY M3 Z Z Z) Z (bJ Z Z (aB (aC (aE (fY [(0,1),(1,1),(2,1),(4,0),(5,0),(6,0),(7,1),(8,0),(9,0),(10,1),(11,0),(12,0),(13,0),(3,2),(14,2),(15,0),(16,0),(17,0),(18,0),(19,0)] mixed M3 Z (by kernel_rfl) (fun w4 M4=>(bP Z Z Z (aU 0 fC M4 Z Z Z) (bP Z Z Z (aU 1 bR M4 Z Z Z) (bP Z Z Z (aU 2 bR M4 Z Z Z) (eD Z Z Z (aX Z Z Z (fun _=>bG dZ underlying2 Z (fL _ (by omega) (by omega))) ?_)))))))))))))
  refine dX 23 (.int .i64 (if hi=true then b.mass else a.mass)) (iE (by rw [h14];rfl)) (aX Z Z Z (fun _=>aD 4 eK Z) (bP Z Z Z (aK 1 (.int _ _) aY M4 Z Z Z) (aX Z Z Z (fun _=>bG dZ underlying2 Z (fL _ (by omega) (by omega))) (aX Z Z Z (fun _=>aD 4 eK Z) (bP Z Z Z (aK 2 (.int _ _) aY M4 Z Z Z) (aX Z Z Z (fun _=>bG dZ underlying2 Z (fL _ (by omega) (by omega))) (aX Z Z Z (fun _=>bA Z Z (by omega) (by omega)) (aX Z Z Z (fun _=>pK Z Z ) (dL [false,false,true,true,true] Z (by kernel_rfl) ?_)))))))))
  refine dO bDc Z Z M4 (aFc _ c a b hc ha hb) (fun w5 M5 => ?_)
  refine aB (aC ⟨(dQ (bC Z (aK 2 (.int _ _) aY M5 Z Z Z)) (dQ (bC Z (aK 1 (.int _ _) aY M5 Z Z Z)) dG)), ?_⟩)
  refine dL [true,true] Z (by kernel_rfl) (dO aLq Z Z M5 (aMw _ (qG c a b) (if hi=true then b.mass else a.mass) (max 1 (a.mass+b.mass)) (by omega) hm0.1 (by omega) (by omega) (by omega) (by omega) (by omega)) (fun w6 M6 => ?_))
  refine aB (aC ⟨dG, ?_⟩)
  refine aX Z Z Z (fun _=>aH (.tuple (List.toArray _)) Z) (aX Z Z Z (fun _=>bM (.int _ _) Z Z) (aX Z Z Z (fun _=>bM (.int _ _) Z Z) (nF Z Z Z (nF Z Z Z (bS (aC (aE (aA (aR Z Z (bJ Z Z (aB (aC (aP (cI (.int _ _) Z ?_))))))))))))))
  exact ⟨Z,M6.below⟩
 ·refine aM (aC (aE (fY [(0,1),(1,1),(2,1),(4,0),(5,0),(6,0),(7,1),(8,0),(9,0),(10,1),(11,0),(12,0),(13,0),(3,2),(14,2),(15,0),(16,0),(17,0),(18,0),(19,0)] mixed M3 Z (by kernel_rfl) (fun w7 M7=>(bP Z Z Z (aU 0 fC M7 Z Z Z) (bP Z Z Z (aU 1 bR M7 Z Z Z) (bP Z Z Z (aU 2 bR M7 Z Z Z) (eD Z Z Z (aX Z Z Z (fun _=>bG dZ underlying2 Z (fL _ (by omega) (by omega))) (dX 23 (.int .i64 (if hi=true then b.mass else a.mass)) (iE (by rw [h14];rfl)) (aX Z Z Z (fun _=>aD 4 eK Z) ?_)))))))))))
  refine bP Z Z Z (aK 1 (.int _ _) aY M7 Z Z Z) (aX Z Z Z (fun _=>bG dZ underlying2 Z (fL _ (by omega) (by omega))) (aX Z Z Z (fun _=>aD 4 eK Z) (bP Z Z Z (aK 2 (.int _ _) aY M7 Z Z Z) (aX Z Z Z (fun _=>bG dZ underlying2 Z (fL _ (by omega) (by omega))) (aX Z Z Z (fun _=>bA Z Z (by omega) (by omega)) (aX Z Z Z (fun _=>pK Z Z ) (dL [false,false,true,true,true] Z (by kernel_rfl) (dO bDc Z Z M7 (aFc _ c a b hc ha hb) (fun w8 M8 => ?_)))))))))
  refine aB (aC ⟨(dQ (bC Z (aK 2 (.int _ _) aY M8 Z Z Z)) (dQ (bC Z (aK 1 (.int _ _) aY M8 Z Z Z)) dG)), ?_⟩)
  refine dL [true,true] Z (by kernel_rfl) (dO aLq Z Z M8 (aMw _ (qG c a b) (if hi=true then b.mass else a.mass) (max 1 (a.mass+b.mass)) (by omega) hm0.1 (by omega) (by omega) (by omega) (by omega) (by omega)) (fun w9 M9 => ?_))
  refine aB (aC ⟨dG, ?_⟩)
  refine aX Z Z Z (fun _=>aH (.tuple (List.toArray _)) Z) (aX Z Z Z (fun _=>bM (.int _ _) Z Z) (aX Z Z Z (fun _=>bM (.int _ _) Z Z) (nF Z Z Z (nF Z Z Z (bS (aC (aE (aA (aR Z Z (bJ Z Z (aB (aC (aP (cI (.int _ _) Z ?_))))))))))))))
  exact ⟨Z,M9.below⟩
theorem aFd (w:World) (bo bk:Nat) (cn:Con) (q:Row) (l:List (Int × Int)) (hq:aZ 228 2 q.A q.n q.c ((l).map cP) q.e) (p:Nat) (s z:Int) (f:Int × Int) (hp:l[p]? = some f) (hs:0≤s∧s≤1073741824) (hz:z=1∨z = -1) (hc:Okn cn) (hf:(-1152921504606846976≤f.1∧f.1≤1152921504606846976) ∧ -1152921504606846976≤f.2∧f.2≤1152921504606846976) (hO:Own [(some bo,bc [.slice q.A q.n q.c] 201),q.e,(some bk,bc (cL cn) 175)] w) :
  Calls prog 154 #[.int .i64 (p:Int),.int .i64 s,.int .i64 z,.pointer (some ⟨bo,0,none⟩),.pointer (some ⟨bk,0,none⟩)] w (gK (fun v w'=>v=.tuple #[]∧∃ e:eN,aZ 228 2 q.A q.n q.c ((l.set p (aRj s z cn f)).map cP) e∧Mem w (bZ [(some bo,bc [.slice q.A q.n q.c] 201),q.e,(some bk,bc (cL cn) 175)]) [(some bo,bc [.slice q.A q.n q.c] 201),e,(some bk,bc (cL cn) 175)] w')):=by
 have hcx:=hc.x
 have hcy:=hc.y
 have hl:l.length=q.n:=by simpa using hq.1
 have hpl:=(List.getElem?_eq_some_iff.1 hp).1
 have r1:=nA hs hc.x
 have r2:=nA hs hc.y
 have hp2:(l.set p (f.1+z*(s*cn.nx / 65536),f.2))[p]? = some (f.1+z*(s*cn.nx / 65536),f.2):=by rw [List.getElem?_set_self hpl]
 have z1 : -1073741824≤z*(s*cn.nx / 65536)∧z*(s*cn.nx / 65536)≤1073741824:=by rcases hz with rfl | rfl <;> omega
 have z2 : -1073741824≤z*(s*cn.ny / 65536)∧z*(s*cn.ny / 65536)≤1073741824:=by rcases hz with rfl | rfl <;> omega
 refine aI #[] 42 func154 Z results154 ntmps154 Z ?_
 have M0:=hO.mem
 refine aE (fY [(0,1),(1,0),(2,1),(3,1),(4,1),(5,0),(6,0),(7,0),(8,0),(9,1),(10,0),(11,0),(12,0),(13,0),(14,0),(15,1),(16,1),(17,2)] mixed M0 Z (by kernel_rfl) (fun w1 M1=>(bP Z Z Z (aK 0 (.slice _ _ _) aBp M1 Z Z Z) (eD Z Z Z (bP Z Z Z (bI (p) aHi Z Z Z ((hq.rd M1 (bH (i:=1) Z)).below_len (aG cP hp)) ((hq.rd M1 (bH (i:=1) Z)).someK (aG cP hp))) (bP Z Z Z (aT 0 aFo (hq.rd M1 (bH (i:=1) Z)) (iU ((hq.rd M1 (bH (i:=1) Z)).below_len (aG cP hp))) Z) ?_))))))
 refine bP Z Z Z (dP (o:=0) (.int _ _) jQ (hq.rd M1 (bH (i:=1) Z)) (aG cP hp) Z Z) (eD Z Z Z (eD Z Z Z (aX Z Z Z (fun _=>aD 2 iL Z) (aX Z Z Z (fun _=>aD 0 cX Z) (bP Z Z Z (aK 2 (.int _ _) aY M1 Z Z Z) (aX Z Z Z (fun _=>bG dZ underlying2 Z (fL _ (by omega) (by omega))) (aX Z Z Z (fun _=>fF Z Z (by omega) (by omega)) (aX Z Z Z (fun _=>kQ Z Z (by decide)) (dX 20 (.int .i64 (s*cn.nx / 65536)) (iE (qY _)) (aX Z Z Z (fun _=>fF Z Z (by omega) (by omega)) ?_))))))))))
 refine aX Z Z Z (fun _=>bA Z Z (by omega) (by omega)) (bP Z Z Z (bI (p) aHi Z Z Z ((hq.rd M1 (bH (i:=1) Z)).below_len (aG cP hp)) ((hq.rd M1 (bH (i:=1) Z)).someK (aG cP hp))) (bP Z Z Z (aT 0 aFo (hq.rd M1 (bH (i:=1) Z)) (iU ((hq.rd M1 (bH (i:=1) Z)).below_len (aG cP hp))) Z) (dL [true,true,true,true,true,true,true] Z (by kernel_rfl) (aNn (o:=0) 1 (.int _ _) jQ M1 Z hq (aG cP hp) Z Z Z Z Z (fun e2 w2 hR2 M2 => ?_)))))
 have hQ2:=hR2.mapSet (f:=cP) (x:=(f.1+z*(s*cn.nx / 65536),f.2)) rfl
 refine aB (aC ⟨dG, ?_⟩)
 refine bS (aC (fY [(0,1),(1,0),(2,1),(3,1),(4,1),(5,0),(6,0),(7,0),(8,0),(9,1),(10,0),(11,0),(12,0),(13,0),(14,0),(15,1),(16,1),(17,2)] mixed M2 Z (by kernel_rfl) (fun w3 M3=>(bP Z Z Z (aK 0 (.slice _ _ _) aBp M3 Z Z Z) (eD Z Z Z (bP Z Z Z (bI (p) aHi Z Z Z ((hQ2.rd M3 (bH (i:=1) Z)).below_len (aG cP hp2)) ((hQ2.rd M3 (bH (i:=1) Z)).someK (aG cP hp2))) (bP Z Z Z (aT 1 aFp (hQ2.rd M3 (bH (i:=1) Z)) (iU ((hQ2.rd M3 (bH (i:=1) Z)).below_len (aG cP hp2))) Z) ?_)))))))
 refine bP Z Z Z (dP (o:=1) (.int _ _) jQ (hQ2.rd M3 (bH (i:=1) Z)) (aG cP hp2) Z Z) (eD Z Z Z (eD Z Z Z (aX Z Z Z (fun _=>aD 2 iL Z) (aX Z Z Z (fun _=>aD 1 cV Z) (bP Z Z Z (aK 2 (.int _ _) aY M3 Z Z Z) (aX Z Z Z (fun _=>bG dZ underlying2 Z (fL _ (by omega) (by omega))) (aX Z Z Z (fun _=>fF Z Z (by omega) (by omega)) (aX Z Z Z (fun _=>kQ Z Z (by decide)) (dX 37 (.int .i64 (s*cn.ny / 65536)) (iE (qY _)) (aX Z Z Z (fun _=>fF Z Z (by omega) (by omega)) ?_))))))))))
 refine aX Z Z Z (fun _=>bA Z Z (by omega) (by omega)) (bP Z Z Z (bI (p) aHi Z Z Z ((hQ2.rd M3 (bH (i:=1) Z)).below_len (aG cP hp2)) ((hQ2.rd M3 (bH (i:=1) Z)).someK (aG cP hp2))) (bP Z Z Z (aT 1 aFp (hQ2.rd M3 (bH (i:=1) Z)) (iU ((hQ2.rd M3 (bH (i:=1) Z)).below_len (aG cP hp2))) Z) (dL [true,true,true,true,true,true,true] Z (by kernel_rfl) (aNn (o:=1) 1 (.int _ _) jQ M3 Z hQ2 (aG cP hp2) Z Z Z Z Z (fun e4 w4 hR4 M4 => ?_)))))
 have hQ4:=hR4.mapSet (f:=cP) (x:=aRj s z cn f) rfl
 rw [List.set_set] at hQ4
 refine aB (aC ⟨dG, ?_⟩)
 refine bS (kO ?_)
 exact ⟨Z,e4,hQ4,M4⟩
theorem Mem.swap2 {w0 w:World} {X:List Nat} {a b:eN} (M:Mem w0 X [a,b] w):Mem w0 X [b,a] w:=M.perm (List.Perm.swap b a [])
theorem aEf {xs:List Body} {cs:List Con} {n:Nat} (hs:dA xs) (hb:∀ b∈xs,Okb b) (hcs:∀ c∈cs,OkC xs c) (hn:cs.length=n) (hl:n≤1073741824) (k:Nat) {b:Body} (h:b∈xs):(-1152921504606846976≤(kR xs (cs.take k) b).1∧(kR xs (cs.take k) b).1≤1152921504606846976) ∧ -1152921504606846976≤(kR xs (cs.take k) b).2∧(kR xs (cs.take k) b).2≤1152921504606846976:=by
 have ht:(cs.take k).length≤cs.length:=by rw [List.length_take];omega
 have h1:=aRi (cs:=cs.take k) (g:=(·.nx)) hs hb (fun c h=>hcs c (List.mem_of_mem_take h)) (fun c h=>(hcs c (List.mem_of_mem_take h)).n.x) h
 have h2:=aRi (cs:=cs.take k) (g:=(·.ny)) hs hb (fun c h=>hcs c (List.mem_of_mem_take h)) (fun c h=>(hcs c (List.mem_of_mem_take h)).n.y) h
 unfold kR
 simp only
 omega
theorem aSu (w:World) (A:Option Addr) (n c:Nat) (xs:List Body) (R:Rd w 10 A n (xs.map aF)) (hs:dA xs) (hb:∀ b∈xs,Okb b) (hn:n≤1048576) (B:Option Addr) (mc c':Nat) (cs:List Con) (R':Rd w 5 B mc (cs.map cL)) (hcs:∀ c∈cs,OkC xs c) (hmc:mc≤1073741824) :
  Calls prog 133 #[.slice A n c,.slice B mc c'] w (gK (fun v w'=>∃ r:Row,v=.slice r.A r.n r.c∧aZ 228 2 r.A r.n r.c ((xs.map (kR xs cs)).map cP) r.e∧Mem w [] [r.e] w')):=by
 have hlen:xs.length=n:=by simpa using R.len
 have hbd:=R.bound
 have hclen:cs.length=mc:=by simpa using R'.len
 have hbd':=R'.bound
 have hz0:List.replicate n ([.int .i64 0,.int .i64 0]:List Value)=(xs.map (kR xs (cs.take 0))).map cP:=by rw [bLn,aXk hlen ((0,0):Int × Int)];exact congrArg (List.map cP) (List.map_congr_left (fun b _=>Prod.ext (wE xs cs (·.nx) b).symm (wE xs cs (·.ny) b).symm))
 refine aI #[.tmp 4] 67 func133 Z results133 ntmps133 Z ?_
 have M0:=Mem.refl w
 refine aE (aA (eG Z Z (aB (aC (aE (aA (dK Z Z (wq (cK underlying46 Z) Z (nO (n) [.int .i64 0,.int .i64 0] aHi bMr Z M0 Z Z Z Z Z Z (by omega) (by omega) (fun b1 w1 M1 => ?_))))))))))
 have hL15:=lE (T:=228) (sz:=2) (b:=b1) (nn:=n) (List.replicate n [.int .i64 0,.int .i64 0]) (fun l hl=>by rw [List.eq_of_mem_replicate hl];rfl) (by simp) (by omega)
 rw [hz0] at hL15
 rw [hz0] at M1
 refine aQ bMq M1 Z Z (fun b2 w2 M2=>(dB 1 (.slice _ _ _) aBp M2 Z Z Z Z Z Z (fun w3 M3=>(aB (aC (aE (aE (aA ?_))))))))
 have M4:Mem _ _ [_,_] _:=Mem.swap2 M3
 refine dK Z Z (wq (cK underlying148 Z) Z (aR Z Z (aB (aC (aS (dM (σ:=Nat × eN) [0,4,5,16,17] (fun (k,e)=>[(18,.int .i64 (k:Int))]) (fun (k,e) w'=>(k≤mc∧aZ 228 2 (some ⟨b1,0,none⟩) n n ((xs.map (kR xs (cs.take k))).map cP) e)∧Mem w [] [(some b2,bc [.slice (some ⟨b1,0,none⟩) n n] 201),e] w') (fun (k,e)=>mc - k) (0,(some b1,bc ((xs.map (kR xs (cs.take 0))).map cP).flatten 228)) (bE Z eB) (⟨⟨by omega,hL15⟩,M4⟩) ?_))))))
 rintro ⟨k,e⟩ ρ5 w5 ⟨⟨hk,hq⟩,hM5⟩
 refine aE (aA (cY Z Z Z Z (aB (aC (aE ?_)))))
 refine aW Z (fun h19 => ?_) (fun h19 => ?_)
 ·obtain ⟨cn,hcn⟩:=cT (xs:=cs) (k:=k) hclen (by omega)
  have hc:=hcs cn (List.mem_of_getElem? hcn)
  obtain ⟨pa,xa,hxa,hka,hla,hba,hma⟩:=vO hs hc.l
  obtain ⟨pb,xb,hxb,hkb,hlb,hbb,hmb⟩:=vO hs hc.h
  have hoa:=hb xa hma
  have hob:=hb xb hmb
  have hne:=hc.ne
  have ma:=hoa.m
  have mb:=hob.m
  have hpab:pa≠pb:=fun g=>by subst g;rw [hxa] at hxb;injection hxb with hxb;subst hxb;omega
  refine aM (aC (aE (aS (aE (aA (wq (bI (k) tQ Z Z Z ((R'.mem hM5).below_len (aG cL hcn)) ((R'.mem hM5).someK (aG cL hcn))) Z (wq (dN _ fC (R'.mem hM5) (aG cL hcn) Z) Z (aQ nQ hM5 Z Z (fun b6 w6 M6=>(bB 2 _ fC M6 Z Z Z Z Z (aO Z) Z (fun w7 M7=>(aB (aC (aE (aA (dK Z Z (wq (aD 0 fV Z) Z (wq (aD 0 gY Z) Z (wq (aK 2 (.int _ _) bV M7 Z Z Z) Z (dO aLo Z Z M7 (wK _ cn.low _ _ _ xs (R.mem M7) hs) (fun w8 M8 => ?_)))))))))))))))))))))
  refine wq (aH (.tuple (List.toArray _)) Z) Z (wq (bM (.int _ _) Z Z) Z (aL 28 (.int .i64 (pa:Int)) (iE (by rw [hla])) (wq (bM (.bool (decide _)) Z Z) Z (bJ Z Z (wq (aJ (.bool (decide _)) Z) Z (aB (aC (aE (aA (dK Z Z (wq (aD 0 fV Z) Z (wq (aD 1 kP Z) Z (wq (aK 2 (.int _ _) bV M8 Z Z Z) Z (dO aLo Z Z M8 (wK _ cn.high _ _ _ xs (R.mem M8) hs) (fun w9 M9=>(wq (aH (.tuple (List.toArray _)) Z) Z (wq (bM (.int _ _) Z Z) Z (aL 36 (.int .i64 (pb:Int)) (iE (by rw [hlb])) ?_))))))))))))))))))
  refine wq (bM (.bool (decide _)) Z Z) Z (bJ Z Z (wq (aJ (.bool (decide _)) Z) Z (aB (aC (aE (aA (wq (dW [] [.pointer _,.pointer _] Z Z) Z (wq (aJ (.func _ _ _) Z) Z (aB (aC (aE (fY [(0,0),(1,0),(2,1),(3,0),(4,0),(5,1),(6,1),(7,0),(8,0),(9,1),(10,1),(11,2),(12,2)] mixed M9 Z (by kernel_rfl) (fun w10 M10=>(aX Z Z Z (fun _=>aH (.func _ _ _) Z) (eD Z Z Z (bP Z Z Z (aU 2 fC M10 Z Z Z) (jY Z Z Z (eD Z Z Z (bP Z Z Z (bI (pa) dS Z Z Z ((R.mem M10).below_len (aG aF hxa)) ((R.mem M10).someK (aG aF hxa))) ?_)))))))))))))))))))
  refine bP Z Z Z (dN _ bR (R.mem M10) (aG aF hxa) Z) (jY Z Z Z (eD Z Z Z (bP Z Z Z (bI (pb) dS Z Z Z ((R.mem M10).below_len (aG aF hxb)) ((R.mem M10).someK (aG aF hxb))) (bP Z Z Z (dN _ bR (R.mem M10) (aG aF hxb) Z) (dL [true,true,true,true,true] Z (by kernel_rfl) (dO bCu Z Z M10 (aJq _ cn xa xb hc.n hoa hob false) (fun w11 M11 => ?_)))))))
  refine aB (aC ⟨dG, ?_⟩)
  refine dX 50 (.int .i64 (rS cn xa xb xa.mass)) Z (dL [] Z (by kernel_rfl) (eL bCt Z Z (aFd _ b2 b6 cn ⟨some ⟨b1,0,none⟩,n,n,e⟩ (xs.map (kR xs (cs.take k))) hq pa (rS cn xa xb xa.mass) (-1) (kR xs (cs.take k) xa) (aG _ hxa) (aBw hc.n (by omega)) (.inr Z) hc.n (aEf hs hb hcs hclen hmc k hma) (M11.ownSeg 0 3)) ?_))
  rintro v12 w12 ⟨rfl,e1,hq1,hM12⟩
  have M12:Mem _ _ [_,_,_] _:=M11.seg 0 3 hM12
  refine aB (aC ⟨dG, ?_⟩)
  refine bS (aC (fY [(0,0),(1,0),(2,1),(3,0),(4,0),(5,1),(6,1),(7,0),(8,0),(9,1),(10,1),(11,2),(12,2)] mixed M12 Z (by kernel_rfl) (fun w13 M13=>(aX Z Z Z (fun _=>aH (.func _ _ _) Z) (eD Z Z Z (bP Z Z Z (aU 2 fC M13 Z Z Z) (jY Z Z Z (eD Z Z Z (bP Z Z Z (bI (pa) dS Z Z Z ((R.mem M13).below_len (aG aF hxa)) ((R.mem M13).someK (aG aF hxa))) (bP Z Z Z (dN _ bR (R.mem M13) (aG aF hxa) Z) (jY Z Z Z (eD Z Z Z (bP Z Z Z (bI (pb) dS Z Z Z ((R.mem M13).below_len (aG aF hxb)) ((R.mem M13).someK (aG aF hxb))) ?_)))))))))))))
  refine bP Z Z Z (dN _ bR (R.mem M13) (aG aF hxb) Z) (dL [true,true,true,true,true] Z (by kernel_rfl) (dO bCu Z Z M13 (aJq _ cn xa xb hc.n hoa hob true) (fun w14 M14 => ?_)))
  refine aB (aC ⟨dG, ?_⟩)
  refine dX 63 (.int .i64 (rS cn xa xb xb.mass)) Z (dL [] Z (by kernel_rfl) (eL bCt Z Z (aFd _ b2 b6 cn ⟨some ⟨b1,0,none⟩,n,n,e1⟩ _ hq1 pb (rS cn xa xb xb.mass) (1) (kR xs (cs.take k) xb) (xS (aG _ hxb) hpab) (aBw hc.n (by omega)) (.inl Z) hc.n (aEf hs hb hcs hclen hmc k hmb) (M14.ownSeg 0 3)) ?_))
  rintro v15 w15 ⟨rfl,e2,hq2,hM15⟩
  have M15:Mem _ _ [_,_,_] _:=M14.seg 0 3 hM15
  refine aB (aC ⟨dG, ?_⟩)
  refine bS (cU (aC (aA (wq (bA Z Z (by omega) (by omega)) Z (aR Z Z (aB ?_))))))
  refine bX (k+1,e2) (bE Z eB) (cA Z (cA Z (cA Z (cA Z (cA Z gL))))) ?_ ?_
  ·exact ⟨⟨by omega,by rw [← bAy hcn,← bLu hs hxa hxb hka hkb hc hba hbb];exact hq2⟩,M15.keep [true,true,false]⟩
  ·(show mc - (k+1) < mc - k;omega)
 ·have hkn:k=mc:=by omega
  rw [List.take_of_length_le (by omega)] at hq
  refine cS (dE (dH (eO (aC (aE (aA (wq (aK 0 (.slice _ _ _) aBp hM5 Z Z Z) Z (eG Z Z (aB (aC (aP (cI (.slice _ _ _) Z ?_))))))))))))
  exact ⟨⟨(some ⟨b1,0,none⟩),n,n,e⟩,Z,hq,hM5.keep [false,true]⟩
end Go.Proofs.YtpcloigancpnbaaGreatDoor
