/- Part of the proof of a law of this seat (6 texts). No conditions. -/
import Derived.Test.YtpcloigancpnbaaGreatDoorK20
import Derived.Test.YtpcloigancpnbaaGreatDoorK26
set_option linter.unusedVariables false
set_option linter.unusedSimpArgs false
set_option linter.unnecessarySimpa false
set_option maxHeartbeats 100000000
namespace Go.Proofs.YtpcloigancpnbaaGreatDoor
open Go.Bil
open Go.RowKit (Below)
open Go.Proofs
open Go.Proofs.Tryz
theorem bKb (w:World) (bs:Nat) (rx ry:Row) (F G:Body→Int) (A:Option Addr) (n c:Nat) (xs:List Body) (R:Rd w 10 A n (xs.map aF)) (hs:cZ xs) (hb:∀ b∈xs,Okb b) (hrx:aZ 2 1 rx.A rx.n rx.c ((xs.map F).map dH) rx.e) (hry:aZ 2 1 ry.A ry.n ry.c ((xs.map G).map dH) ry.e) (hF:∀ b∈xs, -1152921504606846976≤F b∧F b≤1152921504606846976) (hG:∀ b∈xs, -1152921504606846976≤G b∧G b≤1152921504606846976) (cn:Con) (hc:OkC xs cn) (hO:Own [(some bs,bc [.slice A n c,.slice rx.A rx.n rx.c,.slice ry.A ry.n ry.c] 291),rx.e,ry.e] w) (hdA:0 < n→∀ q off,A=some ⟨q,off,none⟩→q∉bY [(some bs,bc [.slice A n c,.slice rx.A rx.n rx.c,.slice ry.A ry.n ry.c] 291),rx.e,ry.e]) :
  Calls prog 195 #[.pointer (some ⟨bs,0,none⟩),.agg (cL cn).toArray] w (gH (fun v w'=>v=.tuple #[]∧∃ ex ey:eL,aZ 2 1 rx.A rx.n rx.c ((xs.map (aLl xs (·.nx) cn F)).map dH) ex∧aZ 2 1 ry.A ry.n ry.c ((xs.map (aLl xs (·.ny) cn G)).map dH) ey∧Mem w (bY [(some bs,bc [.slice A n c,.slice rx.A rx.n rx.c,.slice ry.A ry.n ry.c] 291),rx.e,ry.e]) [(some bs,bc [.slice A n c,.slice rx.A rx.n rx.c,.slice ry.A ry.n ry.c] 291),ex,ey] w')):=by
 have hlen:xs.length=n:=by simpa using R.len
 have hbd:=R.bound
 have hlx:xs.length=rx.n:=by simpa using hrx.1
 have hly:xs.length=ry.n:=by simpa using hry.1
 obtain ⟨pa,xa,hxa,hka,hla,hba,hma⟩:=vL hs hc.l
 obtain ⟨pb,xb,hxb,hkb,hlb,hbb,hmb⟩:=vL hs hc.h
 have hoa:=hb xa hma
 have hob:=hb xb hmb
 have hne:=hc.ne
 have hpl:=(List.getElem?_eq_some_iff.1 hxa).1
 have hpl2:=(List.getElem?_eq_some_iff.1 hxb).1
 have hpab:pa≠pb:=fun g=>by subst g;rw [hxa] at hxb;injection hxb with hxb;subst hxb;omega
 have ma:=hoa.m
 have mb:=hob.m
 have hra:=rE hc.n hoa hob (m:=xa.mass) (by omega)
 have hrb:=rE hc.n hoa hob (m:=xb.mass) (by omega)
 have gax:=(lE hra.2.2 hc.n.x).2.2
 have gay:=(lE hra.2.2 hc.n.y).2.2
 have gbx:=(lE hrb.2.2 hc.n.x).2.2
 have gby:=(lE hrb.2.2 hc.n.y).2.2
 have fa:=hF xa hma
 have fb:=hF xb hmb
 have ga:=hG xa hma
 have gb:=hG xb hmb
 have hFa:(xs.map F)[pa]? = some (F xa):=by rw [List.getElem?_map,hxa];rfl
 have hGa:(xs.map G)[pa]? = some (G xa):=by rw [List.getElem?_map,hxa];rfl
 have hFb:((xs.map F).set pa (F xa - oG (lJ cn xa xb) xa.mass cn.nx))[pb]? = some (F xb):=xR (by rw [List.getElem?_map,hxb];rfl) hpab
 have hGb:((xs.map G).set pa (G xa - oG (lJ cn xa xb) xa.mass cn.ny))[pb]? = some (G xb):=xR (by rw [List.getElem?_map,hxb];rfl) hpab
 refine aI #[] 139 func195 Z results195 ntmps195 Z ?_
 have M0:=hO.mem
 refine aE (aA (bN (.agg (.mk _)) M0 Z Z Z (fun b1 w1 M1=>(aB (aC (aE (fW [(0,0),(1,0),(2,0),(3,1),(4,0),(5,0),(6,1),(7,2),(8,0),(9,0),(10,0),(11,0),(12,0)] mixed M1 Z (by kernel_rfl) (fun w2 M2=>(aV Z Z Z (fun _=>aH (.pointer _) Z) (aV Z Z Z (fun _=>bL Z) (aV Z Z Z (fun _=>aD 0 rV Z) (bP Z Z Z (aK 0 (.slice _ _ _) gM M2 Z Z Z) (aV Z Z Z (fun _=>aD 0 fR Z) (aV Z Z Z (fun _=>aD 0 gU Z) (bP Z Z Z (aK 3 (.int _ _) bV M2 Z Z Z) ?_)))))))))))))))
 refine dI [true,true] Z (by kernel_rfl) (dN aLo Z Z M2 (wI _ cn.low _ _ _ xs (R.memY M2 hdA) hs) (fun w3 M3 => ?_))
 refine aB (aC ⟨dJ, ?_⟩)
 refine aV Z Z Z (fun _=>aH (.tuple (List.toArray _)) Z) (aV Z Z Z (fun _=>bM (.int _ _) Z Z) (dV 20 (.int .i64 (pa:Int)) (iE (by rw [hla])) (aV Z Z Z (fun _=>bM (.bool (decide _)) Z Z) (mW Z Z Z (aV Z Z Z (fun _=>aJ (.bool (decide _)) Z) (bS (aC (aE (fW [(0,0),(1,0),(2,0),(3,1),(4,0),(5,0),(6,1),(7,2),(8,0),(9,0),(10,0),(11,0),(12,0)] mixed M3 Z (by kernel_rfl) (fun w4 M4=>(aV Z Z Z (fun _=>aH (.pointer _) Z) (aV Z Z Z (fun _=>bL Z) (aV Z Z Z (fun _=>aD 0 rV Z) ?_)))))))))))))
 refine bP Z Z Z (aK 0 (.slice _ _ _) gM M4 Z Z Z) (aV Z Z Z (fun _=>aD 0 fR Z) (aV Z Z Z (fun _=>aD 1 kJ Z) (bP Z Z Z (aK 3 (.int _ _) bV M4 Z Z Z) (dI [true,true] Z (by kernel_rfl) (dN aLo Z Z M4 (wI _ cn.high _ _ _ xs (R.memY M4 hdA) hs) (fun w5 M5 => ?_))))))
 refine aB (aC ⟨dJ, ?_⟩)
 refine aV Z Z Z (fun _=>aH (.tuple (List.toArray _)) Z) (aV Z Z Z (fun _=>bM (.int _ _) Z Z) (dV 31 (.int .i64 (pb:Int)) (iE (by rw [hlb])) (aV Z Z Z (fun _=>bM (.bool (decide _)) Z Z) (mW Z Z Z (aV Z Z Z (fun _=>aJ (.bool (decide _)) Z) (bS (aC (aE (fW [(0,1),(1,0),(2,0),(3,0),(4,1),(5,0),(6,1),(7,1),(8,0),(9,0),(10,0),(11,1),(12,0),(13,1),(14,1),(15,2),(16,0)] mixed M5 Z (by kernel_rfl) (fun w6 M6=>(bP Z Z Z (aX 3 fA M6 Z Z Z) (aV Z Z Z (fun _=>aH (.pointer _) Z) ?_))))))))))))
 refine aV Z Z Z (fun _=>bL Z) (aV Z Z Z (fun _=>aD 0 rV Z) (bP Z Z Z (aK 0 (.slice _ _ _) gM M6 Z Z Z) (eD Z Z Z (bP Z Z Z (bJ (pa) dP Z Z Z ((R.memY M6 hdA).below_len (aG aF hxa)) ((R.memY M6 hdA).someK (aG aF hxa))) (bP Z Z Z (dW _ bQ (R.memY M6 hdA) (aG aF hxa) Z) (aV Z Z Z (fun _=>aH (.pointer _) Z) (aV Z Z Z (fun _=>bL Z) (aV Z Z Z (fun _=>aD 0 rV Z) (bP Z Z Z (aK 0 (.slice _ _ _) gM M6 Z Z Z) ?_)))))))))
 refine eD Z Z Z (bP Z Z Z (bJ (pb) dP Z Z Z ((R.memY M6 hdA).below_len (aG aF hxb)) ((R.memY M6 hdA).someK (aG aF hxb))) (bP Z Z Z (dW _ bQ (R.memY M6 hdA) (aG aF hxb) Z) (dI [true,true,true,true,true,true,true] Z (by kernel_rfl) (dN bQs Z Z M6 (aMm _ cn xa xb hc.n hoa hob) (fun w7 M7 => ?_)))))
 refine aB (aC ⟨dJ, ?_⟩)
 refine mW Z Z Z (bS (aC (aE (fW [(0,0),(1,0),(2,0),(3,0),(4,1),(5,0),(6,1),(7,1),(8,1),(9,0),(10,1),(11,2),(12,0),(13,0),(14,0),(15,0),(16,0)] mixed M7 Z (by kernel_rfl) (fun w8 M8=>(eD Z Z Z (aV Z Z Z (fun _=>aH (.pointer _) Z) (aV Z Z Z (fun _=>bL Z) (aV Z Z Z (fun _=>aD 0 rV Z) (bP Z Z Z (aK 0 (.slice _ _ _) gM M8 Z Z Z) (eD Z Z Z (bP Z Z Z (bJ (pa) dP Z Z Z ((R.memY M8 hdA).below_len (aG aF hxa)) ((R.memY M8 hdA).someK (aG aF hxa))) ?_))))))))))))
 refine bP Z Z Z (aT 4 eM (R.memY M8 hdA) (iR ((R.memY M8 hdA).below_len (aG aF hxa))) Z) (bP Z Z Z (dM (o:=4) (.int _ _) aY (R.memY M8 hdA) (aG aF hxa) Z Z) (aV Z Z Z (fun _=>aD 2 iH Z) (bP Z Z Z (qZ 3 _ bO M8 Z Z Z Z) (dI [true,true,true,true,true] Z (by kernel_rfl) (dN bDd Z Z M8 (aFw _ (lJ cn xa xb) xa.mass cn.nx cn.ny ⟨hra.1,hra.2.1⟩ (by omega) hra.2.2 hc.n.x hc.n.y) (fun w9 M9 => ?_))))))
 refine aB (aC ⟨dJ, ?_⟩)
 refine aV Z Z Z (fun _=>aH (.tuple (List.toArray _)) Z) (aV Z Z Z (fun _=>bM (.int _ _) Z Z) (aV Z Z Z (fun _=>bM (.int _ _) Z Z) (mW Z Z Z (mW Z Z Z (bS (aC (aE (fW [(0,0),(1,0),(2,0),(3,1),(4,0),(5,0),(6,0),(7,0),(8,1),(9,0),(10,0),(11,0),(12,0),(13,1),(14,0),(15,1),(16,1),(17,0),(18,0),(19,0),(20,0),(21,0),(22,1),(23,0),(24,1),(25,1),(26,0),(27,0),(28,1),(29,2),(30,1),(31,2)] mixed M9 Z (by kernel_rfl) (fun w10 M10=>(aV Z Z Z (fun _=>aH (.pointer _) Z) ?_))))))))))
 refine aV Z Z Z (fun _=>bL Z) (aV Z Z Z (fun _=>aD 1 rW Z) (bP Z Z Z (aK 0 (.slice _ _ _) pA M10 Z Z Z) (eD Z Z Z (aV Z Z Z (fun _=>aH (.pointer _) Z) (aV Z Z Z (fun _=>bL Z) (aV Z Z Z (fun _=>aD 2 rX Z) (bP Z Z Z (aK 0 (.slice _ _ _) pA M10 Z Z Z) (eD Z Z Z (aV Z Z Z (fun _=>aH (.pointer _) Z) (aV Z Z Z (fun _=>bL Z) (aV Z Z Z (fun _=>aD 1 rW Z) (bP Z Z Z (aK 0 (.slice _ _ _) pA M10 Z Z Z) ?_))))))))))))
 refine eD Z Z Z (bP Z Z Z (bJ (pa) rC Z Z Z ((hrx.rd M10 (bA (i:=1) Z)).below_len (aG dH hFa)) ((hrx.rd M10 (bA (i:=1) Z)).someK (aG dH hFa))) (bP Z Z Z (fU (.int _ _) jM (hrx.rd M10 (bA (i:=1) Z)) (aG dH hFa) Z) (eD Z Z Z (aV Z Z Z (fun _=>gG Z Z (by omega) (by omega)) (aV Z Z Z (fun _=>aH (.pointer _) Z) (aV Z Z Z (fun _=>bL Z) (aV Z Z Z (fun _=>aD 2 rX Z) (bP Z Z Z (aK 0 (.slice _ _ _) pA M10 Z Z Z) (eD Z Z Z ?_)))))))))
 refine bP Z Z Z (bJ (pa) rC Z Z Z ((hry.rd M10 (bA (i:=2) Z)).below_len (aG dH hGa)) ((hry.rd M10 (bA (i:=2) Z)).someK (aG dH hGa))) (bP Z Z Z (fU (.int _ _) jM (hry.rd M10 (bA (i:=2) Z)) (aG dH hGa) Z) (eD Z Z Z (aV Z Z Z (fun _=>gG Z Z (by omega) (by omega)) (bP Z Z Z (bJ (pa) rC Z Z Z ((hrx.rd M10 (bA (i:=1) Z)).below_len (aG dH hFa)) ((hrx.rd M10 (bA (i:=1) Z)).someK (aG dH hFa))) (dI [true,true,true,true,true,true,true,true,true] Z (by kernel_rfl) ?_)))))
 refine tE 1 (.int _ _) jM M10 Z hrx (aG dH hFa) Z Z Z Z (fun e11 w11 hR11 M11 => ?_)
 have hQ11:=hR11.mapSet (f:=dH) (x:=F xa - oG (lJ cn xa xb) xa.mass cn.nx) rfl
 refine aB (aC ⟨dJ, ?_⟩)
 refine bP Z Z Z (bJ (pa) rC Z Z Z ((hry.rd M11 (bA (i:=2) Z)).below_len (aG dH hGa)) ((hry.rd M11 (bA (i:=2) Z)).someK (aG dH hGa))) (dI [true] Z (by kernel_rfl) (tE 2 (.int _ _) jM M11 Z hry (aG dH hGa) Z Z Z Z (fun e12 w12 hR12 M12 => ?_)))
 have hQ12:=hR12.mapSet (f:=dH) (x:=G xa - oG (lJ cn xa xb) xa.mass cn.ny) rfl
 refine aB (aC ⟨dJ, ?_⟩)
 refine bS (aC (aE (fW [(0,0),(1,0),(2,0),(3,0),(4,1),(5,0),(6,1),(7,1),(8,1),(9,0),(10,1),(11,2),(12,0),(13,0),(14,0),(15,0),(16,0)] mixed M12 Z (by kernel_rfl) (fun w13 M13=>(eD Z Z Z (aV Z Z Z (fun _=>aH (.pointer _) Z) (aV Z Z Z (fun _=>bL Z) (aV Z Z Z (fun _=>aD 0 rV Z) (bP Z Z Z (aK 0 (.slice _ _ _) gM M13 Z Z Z) (eD Z Z Z (bP Z Z Z (bJ (pb) dP Z Z Z ((R.memY M13 hdA).below_len (aG aF hxb)) ((R.memY M13 hdA).someK (aG aF hxb))) ?_)))))))))))
 refine bP Z Z Z (aT 4 eM (R.memY M13 hdA) (iR ((R.memY M13 hdA).below_len (aG aF hxb))) Z) (bP Z Z Z (dM (o:=4) (.int _ _) aY (R.memY M13 hdA) (aG aF hxb) Z Z) (aV Z Z Z (fun _=>aD 2 iH Z) (bP Z Z Z (qZ 3 _ bO M13 Z Z Z Z) (dI [true,true,true,true,true] Z (by kernel_rfl) (dN bDd Z Z M13 (aFw _ (lJ cn xa xb) xb.mass cn.nx cn.ny ⟨hrb.1,hrb.2.1⟩ (by omega) hrb.2.2 hc.n.x hc.n.y) (fun w14 M14 => ?_))))))
 refine aB (aC ⟨dJ, ?_⟩)
 refine aV Z Z Z (fun _=>aH (.tuple (List.toArray _)) Z) (aV Z Z Z (fun _=>bM (.int _ _) Z Z) (aV Z Z Z (fun _=>bM (.int _ _) Z Z) (mW Z Z Z (mW Z Z Z (bS (aC (fW [(0,0),(1,0),(2,0),(3,1),(4,0),(5,0),(6,0),(7,0),(8,1),(9,0),(10,0),(11,0),(12,0),(13,1),(14,0),(15,1),(16,1),(17,0),(18,0),(19,0),(20,0),(21,0),(22,1),(23,0),(24,1),(25,1),(26,0),(27,0),(28,1),(29,2),(30,1),(31,2)] mixed M14 Z (by kernel_rfl) (fun w15 M15=>(aV Z Z Z (fun _=>aH (.pointer _) Z) ?_)))))))))
 refine aV Z Z Z (fun _=>bL Z) (aV Z Z Z (fun _=>aD 1 rW Z) (bP Z Z Z (aK 0 (.slice _ _ _) pA M15 Z Z Z) (eD Z Z Z (aV Z Z Z (fun _=>aH (.pointer _) Z) (aV Z Z Z (fun _=>bL Z) (aV Z Z Z (fun _=>aD 2 rX Z) (bP Z Z Z (aK 0 (.slice _ _ _) pA M15 Z Z Z) (eD Z Z Z (aV Z Z Z (fun _=>aH (.pointer _) Z) (aV Z Z Z (fun _=>bL Z) (aV Z Z Z (fun _=>aD 1 rW Z) (bP Z Z Z (aK 0 (.slice _ _ _) pA M15 Z Z Z) ?_))))))))))))
 refine eD Z Z Z (bP Z Z Z (bJ (pb) rC Z Z Z ((hQ11.rd M15 (bA (i:=1) Z)).below_len (aG dH hFb)) ((hQ11.rd M15 (bA (i:=1) Z)).someK (aG dH hFb))) (bP Z Z Z (fU (.int _ _) jM (hQ11.rd M15 (bA (i:=1) Z)) (aG dH hFb) Z) (eD Z Z Z (aV Z Z Z (fun _=>bC Z Z (by omega) (by omega)) (aV Z Z Z (fun _=>aH (.pointer _) Z) (aV Z Z Z (fun _=>bL Z) (aV Z Z Z (fun _=>aD 2 rX Z) (bP Z Z Z (aK 0 (.slice _ _ _) pA M15 Z Z Z) (eD Z Z Z ?_)))))))))
 refine bP Z Z Z (bJ (pb) rC Z Z Z ((hQ12.rd M15 (bA (i:=2) Z)).below_len (aG dH hGb)) ((hQ12.rd M15 (bA (i:=2) Z)).someK (aG dH hGb))) (bP Z Z Z (fU (.int _ _) jM (hQ12.rd M15 (bA (i:=2) Z)) (aG dH hGb) Z) (eD Z Z Z (aV Z Z Z (fun _=>bC Z Z (by omega) (by omega)) (bP Z Z Z (bJ (pb) rC Z Z Z ((hQ11.rd M15 (bA (i:=1) Z)).below_len (aG dH hFb)) ((hQ11.rd M15 (bA (i:=1) Z)).someK (aG dH hFb))) (dI [true,true,true,true,true,true,true,true,true] Z (by kernel_rfl) ?_)))))
 refine tE 1 (.int _ _) jM M15 Z hQ11 (aG dH hFb) Z Z Z Z (fun e16 w16 hR16 M16 => ?_)
 have hQ16:=hR16.mapSet (f:=dH) (x:=F xb+oG (lJ cn xa xb) xb.mass cn.nx) rfl
 refine aB (aC ⟨dJ, ?_⟩)
 refine bP Z Z Z (bJ (pb) rC Z Z Z ((hQ12.rd M16 (bA (i:=2) Z)).below_len (aG dH hGb)) ((hQ12.rd M16 (bA (i:=2) Z)).someK (aG dH hGb))) (dI [true] Z (by kernel_rfl) (tE 2 (.int _ _) jM M16 Z hQ12 (aG dH hGb) Z Z Z Z (fun e17 w17 hR17 M17 => ?_)))
 have hQ17:=hR17.mapSet (f:=dH) (x:=G xb+oG (lJ cn xa xb) xb.mass cn.ny) rfl
 refine aB (aC ⟨dJ, ?_⟩)
 refine bS (kI ?_)
 exact ⟨Z,e16,e17,by rw [← aXd hs hxa hxb hka hkb hc hba hbb];exact hQ16,by rw [← aXd hs hxa hxb hka hkb hc hba hbb];exact hQ17,M17.keep [true,true,true,false]⟩
theorem aPs (w:World) (bs:Nat) (rx ry:Row) (A:Option Addr) (n c:Nat) (xs:List Body) (R:Rd w 10 A n (xs.map aF)) (hs:cZ xs) (hb:∀ b∈xs,Okb b) (B:Option Addr) (mc c':Nat) (cs:List Con) (R':Rd w 5 B mc (cs.map cL)) (hcs:∀ c∈cs,OkC xs c) (hmc:mc≤8589934592) (hrx:aZ 2 1 rx.A rx.n rx.c ((xs.map (fun b=>iK xs (cs.take 0) (·.nx) b)).map dH) rx.e) (hry:aZ 2 1 ry.A ry.n ry.c ((xs.map (fun b=>iK xs (cs.take 0) (·.ny) b)).map dH) ry.e) (hO:Own [(some bs,bc [.slice A n c,.slice rx.A rx.n rx.c,.slice ry.A ry.n ry.c] 291),rx.e,ry.e] w) (hdA:0 < n→∀ q off,A=some ⟨q,off,none⟩→q∉bY [(some bs,bc [.slice A n c,.slice rx.A rx.n rx.c,.slice ry.A ry.n ry.c] 291),rx.e,ry.e]) (hdB:0 < mc→∀ q off,B=some ⟨q,off,none⟩→q∉bY [(some bs,bc [.slice A n c,.slice rx.A rx.n rx.c,.slice ry.A ry.n ry.c] 291),rx.e,ry.e]) :
  Calls prog 194 #[.slice B mc c',.func (.func 195) #[.pointer (some ⟨bs,0,none⟩)] #[]] w (gH (fun v w'=>v=.tuple #[]∧∃ ex ey:eL,aZ 2 1 rx.A rx.n rx.c ((xs.map (fun b=>iK xs cs (·.nx) b)).map dH) ex∧aZ 2 1 ry.A ry.n ry.c ((xs.map (fun b=>iK xs cs (·.ny) b)).map dH) ey∧Mem w (bY [(some bs,bc [.slice A n c,.slice rx.A rx.n rx.c,.slice ry.A ry.n ry.c] 291),rx.e,ry.e]) [(some bs,bc [.slice A n c,.slice rx.A rx.n rx.c,.slice ry.A ry.n ry.c] 291),ex,ey] w')):=by
 have hlen:xs.length=n:=by simpa using R.len
 have hbd:=R.bound
 have hclen:cs.length=mc:=by simpa using R'.len
 have hbd':=R'.bound
 refine aI #[] 16 func194 Z results194 ntmps194 Z ?_
 have M0:=hO.mem
 refine aE (aA (dK Z Z (wq (cK underlying148 Z) Z (aQ Z Z (aB (aC (aP (dG (σ:=Nat × eL × eL) [1,6,7] (fun (k,ex,ey)=>[(8,.int .i64 (k:Int))]) (fun (k,ex,ey) w'=>(k≤mc∧aZ 2 1 rx.A rx.n rx.c ((xs.map (fun b=>iK xs (cs.take k) (·.nx) b)).map dH) ex∧aZ 2 1 ry.A ry.n ry.c ((xs.map (fun b=>iK xs (cs.take k) (·.ny) b)).map dH) ey)∧Mem w (bY [(some bs,bc [.slice A n c,.slice rx.A rx.n rx.c,.slice ry.A ry.n ry.c] 291),rx.e,ry.e]) [(some bs,bc [.slice A n c,.slice rx.A rx.n rx.c,.slice ry.A ry.n ry.c] 291),ex,ey] w') (fun (k,ex,ey)=>mc - k) (0,rx.e,ry.e) (bE Z dZ) (⟨⟨by omega,hrx,hry⟩,M0⟩) ?_))))))))
 rintro ⟨k,ex,ey⟩ ρ1 w1 ⟨⟨hk,hqx,hqy⟩,hM1⟩
 refine aE (aA (cX Z Z Z Z (aB (aC (aE ?_)))))
 refine aU Z (fun h9 => ?_) (fun h9 => ?_)
 ·obtain ⟨cn,hcn⟩:=cF (xs:=cs) (k:=k) hclen (by omega)
  have hkx:∀ b∈xs, -1152921504606846976≤iK xs (cs.take k) (·.nx) b∧iK xs (cs.take k) (·.nx) b≤1152921504606846976:=fun b hbm=>by have:=uV (cs:=cs.take k) (g:=(·.nx)) hs hb (fun c h=>hcs c (List.mem_of_mem_take h)) (fun c h=>(hcs c (List.mem_of_mem_take h)).n.x) hbm;have:=List.length_take_le k cs;omega
  have hky:∀ b∈xs, -1152921504606846976≤iK xs (cs.take k) (·.ny) b∧iK xs (cs.take k) (·.ny) b≤1152921504606846976:=fun b hbm=>by have:=uV (cs:=cs.take k) (g:=(·.ny)) hs hb (fun c h=>hcs c (List.mem_of_mem_take h)) (fun c h=>(hcs c (List.mem_of_mem_take h)).n.y) hbm;have:=List.length_take_le k cs;omega
  refine aM (aC (aE (aP (aE (aA (wq (bJ (k) tJ Z Z Z ((R'.memY hM1 hdB).below_len (aG cL hcn)) ((R'.memY hM1 hdB).someK (aG cL hcn))) Z (wq (dW _ fA (R'.memY hM1 hdB) (aG cL hcn) Z) Z (aR nH hM1 Z Z (fun b2 w2 M2=>(bG 3 _ fA M2 Z Z Z Z Z (aS Z) Z (fun w3 M3=>(aB (aC (aA (wq (aH (.func _ _ _) Z) Z (wq (aX 3 fA M3 Z Z Z) Z (eP bQh Z Z (bKb _ bs ⟨rx.A,rx.n,rx.c,ex⟩ ⟨ry.A,ry.n,ry.c,ey⟩ (fun b=>iK xs (cs.take k) (·.nx) b) (fun b=>iK xs (cs.take k) (·.ny) b) A n c xs (R.memY M3 hdA) hs hb hqx hqy hkx hky cn (hcs cn (List.mem_of_getElem? hcn)) (M3.ownSeg 0 3) (M3.away 0 3 R hdA)) ?_)))))))))))))))))
  rintro v4 w4 ⟨rfl,ex2,ey2,hqx2,hqy2,hM4⟩
  have M4:Mem _ _ [_,_,_,_] _:=M3.seg 0 3 hM4
  refine aB (cR (aC (aA (wq (bC Z Z (by omega) (by omega)) Z (aQ Z Z (aB ?_))))))
  refine bX (k+1,ex2,ey2) (bE Z dZ) (bZ Z (bZ Z (bZ Z gK))) ?_ ?_
  ·exact ⟨⟨by omega,by rw [← aLd hcn];exact hqx2,by rw [← aLd hcn];exact hqy2⟩,M4.keep [true,true,true,false]⟩
  ·(show mc - (k+1) < mc - k;omega)
 ·have hkn:k=mc:=by omega
  rw [List.take_of_length_le (by omega)] at hqx hqy
  refine cN (dC (dE (eJ (kI ?_))))
  exact ⟨Z,ex,ey,hqx,hqy,hM1⟩
theorem Mem.rot3 {w0 w:World} {X:List Nat} {a b c:eL} (M:Mem w0 X [a,b,c] w):Mem w0 X [c,b,a] w:=M.perm (List.reverse_perm [a,b,c]).symm
theorem Mem.rot3' {w0 w:World} {X:List Nat} {a b c:eL} (M:Mem w0 X [a,b,c] w):Mem w0 X [c,a,b] w:=M.perm (List.perm_append_comm (l₁:=[a,b]) (l₂:=[c]))
theorem aXi {xs:List Body} {cs:List Con} {n:Nat} (hs:cZ xs) (hb:∀ b∈xs,Okb b) (hcs:∀ c∈cs,OkC xs c) (hn:cs.length=n) (hl:n≤8589934592) {b:Body} (h:b∈xs):(-1152921504606846976≤iK xs cs (·.nx) b∧iK xs cs (·.nx) b≤1152921504606846976) ∧ -1152921504606846976≤iK xs cs (·.ny) b∧iK xs cs (·.ny) b≤1152921504606846976:=by
 have h1:=uV (cs:=cs) (g:=(·.nx)) hs hb hcs (fun c h=>(hcs c h).n.x) h
 have h2:=uV (cs:=cs) (g:=(·.ny)) hs hb hcs (fun c h=>(hcs c h).n.y) h
 omega
theorem bEu (w:World) (A:Option Addr) (n c:Nat) (xs:List Body) (R:Rd w 10 A n (xs.map aF)) (hs:cZ xs) (hb:∀ b∈xs,Okb b) (hn:n≤1048576) (B:Option Addr) (mc c':Nat) (cs:List Con) (R':Rd w 5 B mc (cs.map cL)) (hcs:∀ c∈cs,OkC xs c) (hmc:mc≤8589934592) :
  Calls prog 170 #[.slice A n c,.slice B mc c'] w (gH (fun v w'=>∃ rx ry:Row,v=.tuple #[.slice rx.A rx.n rx.c,.slice ry.A ry.n ry.c]∧aZ 2 1 rx.A rx.n rx.c ((xs.map (fun b=>iK xs cs (·.nx) b)).map dH) rx.e∧aZ 2 1 ry.A ry.n ry.c ((xs.map (fun b=>iK xs cs (·.ny) b)).map dH) ry.e∧Mem w [] [rx.e,ry.e] w')):=by
 have hlen:xs.length=n:=by simpa using R.len
 have hbd:=R.bound
 have hclen:cs.length=mc:=by simpa using R'.len
 have hbd':=R'.bound
 have hz0:∀ g:Con→Int,List.replicate n ([.int .i64 0]:List Value)=(xs.map (fun b=>iK xs (cs.take 0) g b)).map dH:=fun g=>by rw [bKx,aXa hlen (0:Int)];exact congrArg (List.map dH) (List.map_congr_left (fun b _=>(aLc xs cs g b).symm))
 refine aI #[.tmp 4,.tmp 5] 28 func170 Z results170 ntmps170 Z ?_
 have M0:=Mem.refl w
 refine aE (aA (eH Z Z (eH Z Z (aB (aC (aE (aLk [(0,0),(1,0),(2,0),(4,0),(5,0)] 3 6 [(6,2),(7,0),(8,2),(9,0)] [(3,2),(7,0),(8,2),(9,0)] mixed Z (by kernel_rfl) (fun w1 hb1 hh1 => ?_))))))))
 have M1:=M0.drew hb1 hh1
 refine sI Z Z Z (fun _=>aH (.slice _ _ _) Z) (sI Z Z Z (fun _=>aH (.slice _ _ _) Z) (sI Z Z Z (fun _=>cK underlying46 Z) (sI Z Z Z (fun _=>aH (.slice _ _ _) Z) (sI Z Z Z (fun _=>cK underlying46 Z) ?_))))
 refine aDp ?_ ?_
 ·refine dI [] Z (by kernel_rfl) (nF (n) [.int .i64 0] rC aIc Z M1 Z Z Z Z Z Z (by omega) (by omega) (fun b2 w2 M2 => ?_))
  have hL10:=kZ (T:=2) (sz:=1) (b:=b2) (nn:=n) (List.replicate n [.int .i64 0]) (fun l hl=>by rw [List.eq_of_mem_replicate hl];rfl) (by simp) (by omega)
  rw [hz0 (·.nx)] at hL10
  rw [hz0 (·.nx)] at M2
  refine aB (aC ⟨dJ, ?_⟩)
  refine dI [] Z (by kernel_rfl) (nF (n) [.int .i64 0] rC aIc Z M2 Z Z Z Z Z Z (by omega) (by omega) (fun b3 w3 M3 => ?_))
  have hL13:=kZ (T:=2) (sz:=1) (b:=b3) (nn:=n) (List.replicate n [.int .i64 0]) (fun l hl=>by rw [List.eq_of_mem_replicate hl];rfl) (by simp) (by omega)
  rw [hz0 (·.ny)] at hL13
  rw [hz0 (·.ny)] at M3
  refine aB (aC ⟨dJ, ?_⟩)
  refine aV Z Z Z (fun _=>cB [(0,.slice _ _ _),(1,.slice _ _ _),(2,.slice _ _ _)] _ aLb Z Z) (dI [] Z (by kernel_rfl) (bN (.agg (.mk _)) M3 Z Z Z (fun b4 w4 M4 => ?_)))
  refine aB (aC ⟨dJ, ?_⟩)
  refine aV Z Z Z (fun _=>aJ (.pointer _) Z) (bS (aC (aE (aA (dK Z Z (wq (aH (.pointer _) Z) Z (wq (dU [.pointer _] [] Z Z) Z ?_)))))))
  have M5:Mem _ _ [_,_,_] _:=Mem.rot3' M4
  refine eP bCu rfl rfl (aPs _ b4 ⟨some ⟨b2,0,none⟩,n,n,(some b2,bc ((xs.map (fun b=>iK xs (cs.take 0) (·.nx) b)).map dH).flatten 2)⟩ ⟨some ⟨b3,0,none⟩,n,n,(some b3,bc ((xs.map (fun b=>iK xs (cs.take 0) (·.ny) b)).map dH).flatten 2)⟩ A n c xs (R.mem M5) hs hb B mc c' cs (R'.mem M5) hcs hmc hL10 hL13 (M5.ownSeg 0 3) (M5.away 0 3 R (by simp)) (M5.away 0 3 R' (by simp))) ?_
  rintro v6 w6 ⟨rfl,ex,ey,hqx,hqy,hM6⟩
  have M6:Mem _ _ [_,_,_] _:=M5.seg 0 3 hM6
  refine aB (aC (aE (fW [(0,0),(1,0),(2,0),(3,1),(4,0),(5,0),(6,0),(7,1),(8,0),(9,0)] mixed M6 Z (by kernel_rfl) (fun w7 M7=>(aV Z Z Z (fun _=>aH (.pointer _) Z) (aV Z Z Z (fun _=>bL Z) (aV Z Z Z (fun _=>aD 1 rW Z) (bP Z Z Z (aK 0 (.slice _ _ _) pA M7 Z Z Z) (aV Z Z Z (fun _=>aH (.pointer _) Z) (aV Z Z Z (fun _=>bL Z) (aV Z Z Z (fun _=>aD 2 rX Z) (bP Z Z Z (aK 0 (.slice _ _ _) pA M7 Z Z Z) (aV Z Z Z (fun _=>aJ (.slice _ _ _) Z) ?_)))))))))))))
  refine aV Z Z Z (fun _=>aJ (.slice _ _ _) Z) (bS (aC (aO (fX (.slice _ _ _) (.slice _ _ _) Z Z ?_))))
  exact ⟨⟨(some ⟨b2,0,none⟩),n,n,ex⟩,⟨(some ⟨b3,0,none⟩),n,n,ey⟩,Z,hqx,hqy,M7.keep [false,true,true]⟩
 ·refine dI [] Z (by kernel_rfl) (nF (n) [.int .i64 0] rC aIc Z M1 Z Z Z Z Z Z (by omega) (by omega) (fun b8 w8 M8 => ?_))
  have hL13:=kZ (T:=2) (sz:=1) (b:=b8) (nn:=n) (List.replicate n [.int .i64 0]) (fun l hl=>by rw [List.eq_of_mem_replicate hl];rfl) (by simp) (by omega)
  rw [hz0 (·.ny)] at hL13
  rw [hz0 (·.ny)] at M8
  refine aB (aC ⟨dJ, ?_⟩)
  refine dI [] Z (by kernel_rfl) (nF (n) [.int .i64 0] rC aIc Z M8 Z Z Z Z Z Z (by omega) (by omega) (fun b9 w9 M9 => ?_))
  have hL10:=kZ (T:=2) (sz:=1) (b:=b9) (nn:=n) (List.replicate n [.int .i64 0]) (fun l hl=>by rw [List.eq_of_mem_replicate hl];rfl) (by simp) (by omega)
  rw [hz0 (·.nx)] at hL10
  rw [hz0 (·.nx)] at M9
  refine aB (aC ⟨dJ, ?_⟩)
  refine aV Z Z Z (fun _=>cB [(0,.slice _ _ _),(1,.slice _ _ _),(2,.slice _ _ _)] _ aLb Z Z) (dI [] Z (by kernel_rfl) (bN (.agg (.mk _)) M9 Z Z Z (fun b10 w10 M10 => ?_)))
  refine aB (aC ⟨dJ, ?_⟩)
  refine aV Z Z Z (fun _=>aJ (.pointer _) Z) (bS (aC (aE (aA (dK Z Z (wq (aH (.pointer _) Z) Z (wq (dU [.pointer _] [] Z Z) Z ?_)))))))
  have M11:Mem _ _ [_,_,_] _:=Mem.rot3 M10
  refine eP bCu rfl rfl (aPs _ b10 ⟨some ⟨b9,0,none⟩,n,n,(some b9,bc ((xs.map (fun b=>iK xs (cs.take 0) (·.nx) b)).map dH).flatten 2)⟩ ⟨some ⟨b8,0,none⟩,n,n,(some b8,bc ((xs.map (fun b=>iK xs (cs.take 0) (·.ny) b)).map dH).flatten 2)⟩ A n c xs (R.mem M11) hs hb B mc c' cs (R'.mem M11) hcs hmc hL10 hL13 (M11.ownSeg 0 3) (M11.away 0 3 R (by simp)) (M11.away 0 3 R' (by simp))) ?_
  rintro v12 w12 ⟨rfl,ex,ey,hqx,hqy,hM12⟩
  have M12:Mem _ _ [_,_,_] _:=M11.seg 0 3 hM12
  refine aB (aC (aE (fW [(0,0),(1,0),(2,0),(3,1),(4,0),(5,0),(6,0),(7,1),(8,0),(9,0)] mixed M12 Z (by kernel_rfl) (fun w13 M13=>(aV Z Z Z (fun _=>aH (.pointer _) Z) (aV Z Z Z (fun _=>bL Z) (aV Z Z Z (fun _=>aD 1 rW Z) (bP Z Z Z (aK 0 (.slice _ _ _) pA M13 Z Z Z) (aV Z Z Z (fun _=>aH (.pointer _) Z) (aV Z Z Z (fun _=>bL Z) (aV Z Z Z (fun _=>aD 2 rX Z) (bP Z Z Z (aK 0 (.slice _ _ _) pA M13 Z Z Z) (aV Z Z Z (fun _=>aJ (.slice _ _ _) Z) ?_)))))))))))))
  refine aV Z Z Z (fun _=>aJ (.slice _ _ _) Z) (bS (aC (aO (fX (.slice _ _ _) (.slice _ _ _) Z Z ?_))))
  exact ⟨⟨(some ⟨b9,0,none⟩),n,n,ex⟩,⟨(some ⟨b8,0,none⟩),n,n,ey⟩,Z,hqx,hqy,M13.keep [false,true,true]⟩
theorem aZf (w:World) (A:Option Addr) (n c:Nat) (xs:List Body) (R:Rd w 10 A n (xs.map aF)) (hs:cZ xs) (hb:∀ b∈xs,Okb b) (hn:n≤1048576) (B:Option Addr) (mc c':Nat) (cs:List Con) (R':Rd w 5 B mc (cs.map cL)) (hcs:∀ c∈cs,OkC xs c) (hmc:mc≤8589934592) :
  Calls prog 151 #[.slice A n c,.slice B mc c'] w (gH (fun v w'=>∃ r:Row,v=.tuple #[.slice r.A r.n r.c,.bool (aTy xs cs)]∧aZ 43 10 r.A r.n r.c ((aGx xs cs).map aF) r.e∧Mem w [] [r.e] w')):=by
 have hlen:xs.length=n:=by simpa using R.len
 have hbd:=R.bound
 have hclen:cs.length=mc:=by simpa using R'.len
 have hbd':=R'.bound
 refine aI #[.tmp 4,.tmp 5] 75 func151 Z results151 ntmps151 Z ?_
 have M0:=Mem.refl w
 refine aE (aA (eH Z Z (wq (aJ (.bool false) Z) Z (aB (aC (aE (aA (dK Z Z (dK Z Z (eP bPr Z Z (bEu _ A n c xs (R.mem M0) hs hb hn B mc c' cs (R'.mem M0) hcs hmc) ?_))))))))))
 rintro v1 w1 ⟨rx,ry,rfl,hrx,hry,hM1⟩
 have M1:Mem _ _ [_,_] _:=M0.call0 hM1
 have hrxn:xs.length=rx.n:=by simpa using hrx.1
 have hryn:xs.length=ry.n:=by simpa using hry.1
 refine wq (aH (.tuple (List.toArray _)) Z) Z (wq (bM (.slice _ _ _) Z Z) Z (wq (bM (.slice _ _ _) Z Z) Z (eH Z Z (eH Z Z (aB (aC (aE (aA (wq (aJ (.bool false) Z) Z (aB (aC (aE (aA (eH Z Z ?_))))))))))))))
 have M2:=M1.dummy default
 refine aB (aC (aE (aE (aA (dK Z Z (wq (cK underlying46 Z) Z (aQ Z Z (aB (aC (aP (dG (σ:=Nat × Row) [4,5,6,7,22,23] (fun (k,q)=>[(8,.bool ((xs.take k).any (aTx xs cs))),(9,.slice q.A q.n q.c),(24,.int .i64 (k:Int))]) (fun (k,q) w'=>(k≤n∧aZ 43 10 q.A q.n q.c (((xs.take k).map (yA xs cs)).map aF) q.e)∧Mem w [] [rx.e,ry.e,q.e] w') (fun (k,q)=>n - k) (0,fH) (bE (bv Z Z) (bE Z (bE Z dZ))) (⟨⟨by omega,aZ.nil _ _ _⟩,M2⟩) ?_)))))))))))
 rintro ⟨k,q⟩ ρ3 w3 ⟨⟨hk,hq⟩,hM3⟩
 have htl:=List.length_take_le k xs
 have hqn:(xs.take k).length=q.n:=by simpa using hq.1
 refine aE (aA (cX Z Z Z Z (aB (aC (aE ?_)))))
 refine aU Z (fun h25 => ?_) (fun h25 => ?_)
 ·obtain ⟨xb,hxb⟩:=cF (xs:=xs) (k:=k) hlen (by omega)
  have hxm:=List.mem_of_getElem? hxb
  have hsb:=aXi hs hb hcs hclen hmc hxm
  have hvb:=(hb xb hxm).v
  have hlx:=eX (xb.vx+iK xs cs (·.nx) xb) (l:=16777216) (by decide)
  have hly:=eX (xb.vy+iK xs cs (·.ny) xb) (l:=16777216) (by decide)
  refine aM (aC (aE (aP (aE (aA (aQ Z Z (wq (bJ (k) dP Z Z Z ((R.mem hM3).below_len (aG aF hxb)) ((R.mem hM3).someK (aG aF hxb))) Z (wq (dW _ bQ (R.mem hM3) (aG aF hxb) Z) Z (aR fV hM3 Z Z (fun b4 w4 M4=>(bK Z Z (bG 3 _ bQ M4 Z Z Z Z Z (aS Z) Z (fun w5 M5=>(aB (aC (aE (fW [(0,0),(1,0),(2,1),(3,0),(4,0),(5,0),(6,1),(7,1),(8,0),(9,2),(10,0),(11,0),(12,0),(13,0),(14,0)] mixed M5 Z (by kernel_rfl) (fun w6 M6=>(aV Z Z Z (fun _=>aD 8 eB Z) ?_)))))))))))))))))))
  refine aV Z Z Z (fun _=>aD 0 cV Z) (bP Z Z Z (aK 3 (.int _ _) aY M6 Z Z Z) (aV Z Z Z (fun _=>bH dY underlying2 Z (fJ _ (by omega) (by omega))) (kA Z Z Z (eD Z Z Z (bP Z Z Z (bJ (k) rC Z Z Z ((hrx.rd M6 (bA (i:=0) Z)).below_len (aG dH (aG _ hxb))) ((hrx.rd M6 (bA (i:=0) Z)).someK (aG dH (aG _ hxb)))) (bP Z Z Z (fU (.int _ _) jM (hrx.rd M6 (bA (i:=0) Z)) (aG dH (aG _ hxb)) Z) (aV Z Z Z (fun _=>bC Z Z (by omega) (by omega)) ?_)))))))
  refine dI [true,true,true] Z (by kernel_rfl) (dN aRw Z Z M6 (aFr _ (xb.vx+iK xs cs (·.nx) xb) 16777216 ⟨by decide,by decide⟩) (fun w7 M7 => ?_))
  refine aB (aC ⟨dJ, ?_⟩)
  refine aV Z Z Z (fun _=>aH (.tuple (List.toArray _)) Z) (aV Z Z Z (fun _=>bM (.int _ _) Z Z) (aV Z Z Z (fun _=>bM (.bool (decide _)) Z Z) (mW Z Z Z (aV Z Z Z (fun _=>aJ (.bool (decide _)) Z) (bS (aC (aE (fW [(0,0),(1,0),(2,1),(3,0),(4,0),(5,0),(6,1),(7,1),(8,0),(9,2),(10,0),(11,0),(12,0),(13,0),(14,0)] mixed M7 Z (by kernel_rfl) (fun w8 M8=>(aV Z Z Z (fun _=>aD 8 eB Z) (aV Z Z Z (fun _=>aD 1 cS Z) (bP Z Z Z (aK 3 (.int _ _) aY M8 Z Z Z) ?_))))))))))))
  refine aV Z Z Z (fun _=>bH dY underlying2 Z (fJ _ (by omega) (by omega))) (kA Z Z Z (eD Z Z Z (bP Z Z Z (bJ (k) rC Z Z Z ((hry.rd M8 (bA (i:=1) Z)).below_len (aG dH (aG _ hxb))) ((hry.rd M8 (bA (i:=1) Z)).someK (aG dH (aG _ hxb)))) (bP Z Z Z (fU (.int _ _) jM (hry.rd M8 (bA (i:=1) Z)) (aG dH (aG _ hxb)) Z) (aV Z Z Z (fun _=>bC Z Z (by omega) (by omega)) (dI [true,true,true] Z (by kernel_rfl) (dN aRw Z Z M8 (aFr _ (xb.vy+iK xs cs (·.ny) xb) 16777216 ⟨by decide,by decide⟩) (fun w9 M9 => ?_))))))))
  refine aB (aC ⟨dJ, ?_⟩)
  refine aV Z Z Z (fun _=>aH (.tuple (List.toArray _)) Z) (aV Z Z Z (fun _=>bM (.int _ _) Z Z) (aV Z Z Z (fun _=>bM (.bool (decide _)) Z Z) (mW Z Z Z (aV Z Z Z (fun _=>aJ (.bool (decide _)) Z) (bS (aC (aE (aA (aQ Z Z (wq (bH mV underlying21 Z (jQ _ (by omega) (by omega))) Z (aQ Z Z (wq (bH mV underlying21 Z (jQ _ (by omega) (by omega))) Z (wq (cB [(0,.int _ _),(1,.int _ _)] _ eZ Z Z) Z (wq (aD 8 eB Z) Z (vB 3 _ bO M9 Z Z Z Z Z (aS Z) (Nat.le_of_ble_eq_true Z) (fun w10 M10 => ?_))))))))))))))))
  refine aB (aC (aE (aA (wq (aH (.bool _) Z) Z (wq (aH (.bool _) Z) Z ?_)))))
  refine kM 62 _ Z (fun g62 => ?_) (fun g62 => ?_)
  ·refine aN rfl rfl (wq (bR true (.bool true) rfl rfl) rfl (wq (aH (.bool true) rfl) rfl (aN rfl rfl (wq (bR true (.bool true) rfl rfl) rfl (wq (aJ (.bool true) rfl) rfl (aB (aC (aA (dK rfl rfl (wq (aX 3 bQ M10 rfl rfl rfl) rfl (cC [.agg (List.toArray _)] [aF (yA xs cs xb)] rfl dP M10 rfl rfl rfl rfl (cU rfl) (by decide) (fun b11 w11 M11=>(cW 2 [aF (yA xs cs xb)] dP M11 rfl rfl rfl rfl rfl hq rfl (by simp [aF,Go.Bil.one]) (dL.ofMem 4 M11 rfl) (by omega) (fun A12 c12 e12 w12 M12 hR12=>(eH rfl rfl (aB ?_))))))))))))))))
   refine cR (aC (aA (wq (bC Z Z (by omega) (by omega)) Z (aQ Z Z (aB ?_)))))
   refine bX (k+1,⟨A12,q.n+1,c12,e12⟩) (bE (bv Z (by rw [cH hxb,List.any_append,List.any_cons,List.any_nil,Bool.or_false];rw [g62,Bool.true_or])) (bE Z (bE Z dZ))) (bZ Z (bZ Z (bZ Z (bZ Z (bZ Z (bZ Z gK)))))) ?_ ?_
   ·exact ⟨⟨by omega,by rw [cH hxb,List.map_append,List.map_append];exact hR12⟩,M12.keep [true,true,true,false,false]⟩
   ·(show n - (k+1) < n - k;omega)
  ·refine wq (aH (.bool (decide _)) Z) Z (wq (bR false (.bool (decide _)) Z Z) Z (wq (aH (.bool (decide _)) Z) Z ?_))
   refine dQ 65 Z (fun g65 => ?_) (fun g65 => ?_)
   ·refine aN rfl rfl (wq (bR true (.bool true) rfl rfl) rfl (wq (aJ (.bool true) rfl) rfl (aB (aC (aA (dK rfl rfl (wq (aX 3 bQ M10 rfl rfl rfl) rfl (cC [.agg (List.toArray _)] [aF (yA xs cs xb)] rfl dP M10 rfl rfl rfl rfl (cU rfl) (by decide) (fun b13 w13 M13=>(cW 2 [aF (yA xs cs xb)] dP M13 rfl rfl rfl rfl rfl hq rfl (by simp [aF,Go.Bil.one]) (dL.ofMem 4 M13 rfl) (by omega) (fun A14 c14 e14 w14 M14 hR14=>(eH rfl rfl (aB (cR (aC (aA (wq (bC rfl rfl (by omega) (by omega)) rfl (aQ rfl rfl (aB ?_)))))))))))))))))))
    refine bX (k+1,⟨A14,q.n+1,c14,e14⟩) (bE (bv rfl (by rw [cH hxb,List.any_append,List.any_cons,List.any_nil,Bool.or_false];rw [g62];simp [aTx,g65])) (bE rfl (bE rfl dZ))) (bZ rfl (bZ rfl (bZ rfl (bZ rfl (bZ rfl (bZ rfl gK)))))) ?_ ?_
    ·exact ⟨⟨by omega,by rw [cH hxb,List.map_append,List.map_append];exact hR14⟩,M14.keep [true,true,true,false,false]⟩
    ·(show n - (k+1) < n - k;omega)
   ·refine wq (aH (.bool (decide _)) rfl) rfl (wq (bR false (.bool (decide _)) rfl rfl) rfl (wq (aJ (.bool (decide _)) rfl) rfl (aB (aC (aA (dK rfl rfl (wq (aX 3 bQ M10 rfl rfl rfl) rfl (cC [.agg (List.toArray _)] [aF (yA xs cs xb)] rfl dP M10 rfl rfl rfl rfl (cU rfl) (by decide) (fun b15 w15 M15=>(cW 2 [aF (yA xs cs xb)] dP M15 rfl rfl rfl rfl rfl hq rfl (by simp [aF,Go.Bil.one]) (dL.ofMem 4 M15 rfl) (by omega) (fun A16 c16 e16 w16 M16 hR16=>(eH rfl rfl (aB (cR (aC (aA (wq (bC rfl rfl (by omega) (by omega)) rfl ?_)))))))))))))))))
    refine aQ Z Z (aB ?_)
    refine bX (k+1,⟨A16,q.n+1,c16,e16⟩) (bE (bv rfl (by rw [cH hxb,List.any_append,List.any_cons,List.any_nil,Bool.or_false];rw [g62];simp [aTx,g65])) (bE rfl (bE rfl dZ))) (bZ rfl (bZ rfl (bZ rfl (bZ rfl (bZ rfl (bZ rfl gK)))))) ?_ ?_
    ·exact ⟨⟨by omega,by rw [cH hxb,List.map_append,List.map_append];exact hR16⟩,M16.keep [true,true,true,false,false]⟩
    ·(show n - (k+1) < n - k;omega)
 ·have hkn:k=n:=by omega
  rw [List.take_of_length_le (by omega)] at hq
  refine cN (dC (dE (eJ (aC (aE (aA (dK Z Z (wq (aH (.bool _) Z) Z (eH Z Z (wq (aJ (.bool _) Z) Z (aB (aC (aO (fX (.slice _ _ _) (.bool _) Z Z ?_))))))))))))))
  exact ⟨q,uW Z (congrArg Value.bool (by rw [List.take_of_length_le (by omega)];rfl)),hq,hM3.keep [false,false,true]⟩
theorem aZg (w:World) (A:Option Addr) (n c:Nat) (xs:List Body) (R:Rd w 10 A n (xs.map aF)) (hs:cZ xs) (hb:∀ b∈xs,Okb b) (hn:n≤1048576) (B:Option Addr) (mc c':Nat) (cs:List Con) (R':Rd w 5 B mc (cs.map cL)) (hcs:∀ c∈cs,OkC xs c) (hmc:mc≤8589934592) :
  Calls prog 131 #[.slice A n c,.slice B mc c'] w (gH (fun v w'=>∃ r:Row,v=.tuple #[.slice r.A r.n r.c,.bool (iF xs cs 4).2]∧aZ 43 10 r.A r.n r.c (((iF xs cs 4).1).map aF) r.e∧Mem w [] [r.e] w')):=by
 have hlen:xs.length=n:=by simpa using R.len
 have hbd:=R.bound
 have hclen:cs.length=mc:=by simpa using R'.len
 have hbd':=R'.bound
 refine aI #[.tmp 4,.tmp 5] 25 func131 Z results131 ntmps131 Z ?_
 have M0:=Mem.refl w
 refine aE (aA (eH Z Z (wq (aJ (.bool false) Z) Z (aB (aC (aE (aA (wq (aJ (.bool false) Z) Z ?_))))))))
 have M1:=M0.dummy default
 refine aB (aC (aE (aE (aA (aQ Z Z (aB (aC (aP (dG (σ:=Nat × Row) [1,4,5] (fun (k,q)=>[(0,.slice q.A q.n q.c),(6,.bool (iF xs cs k).2),(9,.int .i64 (k:Int))]) (fun (k,q) w'=>(k≤4∧Rd w' 10 q.A q.n ((iF xs cs k).1.map aF)∧(0 < k→aZ 43 10 q.A q.n q.c (((iF xs cs k).1).map aF) q.e))∧Mem w [] [q.e] w') (fun (k,q)=>4 - k) (0,⟨A,n,c,(none,default)⟩) (bE Z (bE (bv Z Z) (bE Z dZ))) (⟨⟨by omega,R.mem M1,(fun h=>absurd h (by omega))⟩,M1⟩) ?_)))))))))
 rintro ⟨k,q⟩ ρ2 w2 ⟨⟨hk,hRq,hq⟩,hM2⟩
 have hql:(iF xs cs k).1.length=q.n:=by simpa using hRq.len
 have hsl:=(jP xs cs k).len
 refine aE (aA (cX Z Z Z Z (aB (aC (aE ?_)))))
 refine aU Z (fun h10 => ?_) (fun h10 => ?_)
 ·refine aM (aC (aE (aP (aE (aA (dK Z Z (dK Z Z (eP bPi Z Z (aZf _ q.A q.n q.c (iF xs cs k).1 hRq ((jP xs cs k).sorted hs) (sG hb k) (by omega) B mc c' cs (R'.mem hM2) (fun c h=>(jP xs cs k).okc (hcs c h)) hmc) ?_))))))))
  rintro v3 w3 ⟨r,rfl,hr,hM3⟩
  have M3:Mem _ _ [_,_] _:=hM2.call0 hM3
  refine wq (aH (.tuple (List.toArray _)) Z) Z (wq (bM (.slice _ _ _) Z Z) Z (wq (bM (.bool _) Z Z) Z (eH Z Z (wq (aJ (.bool _) Z) Z (aB (aC (aA (dK Z Z (wq (aH (.bool _) Z) Z (wq (aH (.bool _) Z) Z ?_))))))))))
  refine kM 19 _ Z (fun g19 => ?_) (fun g19 => ?_)
  ·refine aN Z Z (wq (bR true (.bool true) Z Z) Z (eH Z Z (wq (aJ (.bool true) Z) Z (aB (cR (aC (aA (wq (bC Z Z (by omega) (by omega)) Z (aQ Z Z (aB ?_))))))))))
   refine bX (k+1,r) (bE Z (bE (bv Z (by show true=(_ || _);rw [g19,Bool.true_or])) (bE Z dZ))) (bZ Z (bZ Z (bZ Z gK))) ?_ ?_
   ·exact ⟨⟨by omega,hr.rd M3 (bA (i:=1) Z),(fun _=>hr)⟩,M3.keep [false,true]⟩
   ·(show 4 - (k+1) < 4 - k;omega)
  ·refine wq (aH (.bool _) Z) Z (wq (bR false (.bool _) Z Z) Z (eH Z Z (wq (aJ (.bool _) Z) Z (aB (cR (aC (aA (wq (bC Z Z (by omega) (by omega)) Z (aQ Z Z (aB ?_))))))))))
   refine bX (k+1,r) (bE Z (bE (bv Z (by show _=(_ || _);rw [g19,Bool.false_or])) (bE Z dZ))) (bZ Z (bZ Z (bZ Z gK))) ?_ ?_
   ·exact ⟨⟨by omega,hr.rd M3 (bA (i:=1) Z),(fun _=>hr)⟩,M3.keep [false,true]⟩
   ·(show 4 - (k+1) < 4 - k;omega)
 ·have hk4:k=4:=by omega
  rw [hk4] at hq
  refine cN (dC (dE (eJ (aC (aE (aA (dK Z Z (wq (aH (.bool _) Z) Z (eH Z Z (wq (aJ (.bool _) Z) Z (aB (aC (aO (fX (.slice _ _ _) (.bool _) Z Z ?_))))))))))))))
  exact ⟨q,uW Z (congrArg Value.bool (by rw [hk4])),hq (by omega),hM2⟩
theorem aEx (w:World) (c:Con) (a b:Body) (hc:Okn c) (ha:Okb a) (hb:Okb b) :
  Calls prog 174 #[.agg (cL c).toArray,(.agg (aF a).toArray),(.agg (aF b).toArray)] w (Rb w (.int .i64 (qC c a b))):=by
 have hdp:=hc.d
 have hm1:=ha.m
 have hm2:=hb.m
 refine aI #[.tmp 6] 27 func174 Z results174 ntmps174 Z ?_
 have M0:=Mem.refl w
 refine aE (aA (bN (.agg (.mk _)) M0 Z Z Z (fun b1 w1 M1=>(bN (.agg (.mk _)) M1 Z Z Z (fun b2 w2 M2=>(bN (.agg (.mk _)) M2 Z Z Z (fun b3 w3 M3=>(bK Z Z (aB (aC (aE (aA (wq (aD 4 aFi Z) Z (wq (aK 0 (.int _ _) aY M3 Z Z Z) Z (wq (bH dY underlying2 Z (fJ _ (by omega) (by omega))) Z (wq (gG Z Z (by omega) (by omega)) Z (bK Z Z (aB (aC (aE (aE (aA (aQ Z Z (cX Z Z Z Z (wq (aH (.bool (decide _)) Z) Z ?_)))))))))))))))))))))))))
 refine dQ 14 Z (fun g14 => ?_) (fun g14 => ?_)
 ·refine aN Z Z (aN Z Z (aN Z Z (aN Z Z (aN Z Z (aN Z Z (aN Z Z (aN Z Z (wq (bR true (.bool true) Z Z) Z (aB (aC (cE Z (aE (aA (bK Z Z (aB (aC (aO (cO (cI (.int _ _) Z ?_)))))))))))))))))))
  exact ⟨iE (by unfold qC;rw [if_pos (by omega)]),M3.below⟩
 ·refine wq (aD 4 eM Z) Z (wq (aK 1 (.int _ _) aY M3 Z Z Z) Z (cX Z Z Z Z (wq (aH (.bool (decide _)) Z) Z ?_)))
  refine dQ 18 Z (fun g18 => ?_) (fun g18 => ?_)
  ·refine wq (aD 4 eM Z) Z (wq (aK 2 (.int _ _) aY M3 Z Z Z) Z (cX Z Z Z Z (wq (bR true (.bool (decide _)) Z Z) Z (wq (bR false (.bool (decide _)) Z Z) Z (aB (aC ?_))))))
   refine aU Z (fun h23 => ?_) (fun h23 => ?_)
   ·refine aE (aA (bK Z Z (aB (aC (aO (cO (cI (.int _ _) Z ?_)))))))
    exact ⟨iE (by unfold qC;rw [if_pos (by omega)]),M3.below⟩
   ·refine aM (aC (aE (aA (aQ Z Z (wq (fC Z Z (by omega) (by omega)) Z (wq (kK Z Z (by decide)) Z (bK Z Z (aB (aC (aO (cI (.int _ _) Z ?_)))))))))))
    exact ⟨iE (by unfold qC;rw [if_neg (by omega)];exact qT _),M3.below⟩
  ·refine aN Z Z (aN Z Z (aN Z Z (wq (bR false (.bool false) Z Z) Z (wq (bR false (.bool false) Z Z) Z (aB (aC (cG Z (aM (aC (aE (aA (aQ Z Z (wq (fC Z Z (by omega) (by omega)) Z (wq (kK Z Z (by decide)) Z (bK Z Z (aB (aC (aO (cI (.int _ _) Z ?_)))))))))))))))))))
   exact ⟨iE (by unfold qC;rw [if_neg (by omega)];exact qT _),M3.below⟩
theorem aJp (w:World) (c:Con) (a b:Body) (hc:Okn c) (ha:Okb a) (hb:Okb b) (hi:Bool) :
  Calls prog 155 #[.agg (cL c).toArray,(.agg (aF a).toArray),(.agg (aF b).toArray),.bool hi] w (Rb w (.int .i64 (rL c a b (if hi=true then b.mass else a.mass)))):=by
 have hdp:=hc.d
 have hm1:=ha.m
 have hm2:=hb.m
 have hm0:0≤(if hi=true then b.mass else a.mass)∧(if hi=true then b.mass else a.mass)≤1048576:=by split <;> omega
 have hsr:=aXf (a:=a) (b:=b) hc hm0
 have har:=aDq (a:=a) (b:=b) hc
 refine aI #[.tmp 8] 36 func155 Z results155 ntmps155 Z ?_
 have M0:=Mem.refl w
 refine aE (aA (bN (.agg (.mk _)) M0 Z Z Z (fun b1 w1 M1=>(bN (.agg (.mk _)) M1 Z Z Z (fun b2 w2 M2=>(bN (.agg (.mk _)) M2 Z Z Z (fun b3 w3 M3=>(bK Z Z (aB (aC (aE (aA (wq (aD 4 eM Z) Z (wq (aK 1 (.int _ _) aY M3 Z Z Z) Z (bK Z Z (aB (aC (aE (aE (aA (wq (aH (.bool _) Z) Z (aB (aC ?_)))))))))))))))))))))))
 refine iL _ Z (fun h14 => ?_) (fun h14 => ?_)
 ·refine aA (wq (aD 4 eM Z) Z (wq (aK 2 (.int _ _) aY M3 Z Z Z) Z (bK Z Z (aB (aC (aE (fW [(0,1),(1,1),(2,1),(4,0),(5,0),(6,0),(7,1),(8,0),(9,0),(10,1),(11,0),(12,0),(13,0),(3,2),(14,2),(15,0),(16,0),(17,0),(18,0),(19,0)] mixed M3 Z (by kernel_rfl) (fun w4 M4=>(bP Z Z Z (aX 0 fA M4 Z Z Z) (bP Z Z Z (aX 1 bQ M4 Z Z Z) (bP Z Z Z (aX 2 bQ M4 Z Z Z) (eD Z Z Z (aV Z Z Z (fun _=>bH dY underlying2 Z (fJ _ (by omega) (by omega))) ?_)))))))))))))
  refine dV 23 (.int .i64 (if hi=true then b.mass else a.mass)) (iE (by rw [h14];rfl)) (aV Z Z Z (fun _=>aD 4 eM Z) (bP Z Z Z (aK 1 (.int _ _) aY M4 Z Z Z) (aV Z Z Z (fun _=>bH dY underlying2 Z (fJ _ (by omega) (by omega))) (aV Z Z Z (fun _=>aD 4 eM Z) (bP Z Z Z (aK 2 (.int _ _) aY M4 Z Z Z) (aV Z Z Z (fun _=>bH dY underlying2 Z (fJ _ (by omega) (by omega))) (aV Z Z Z (fun _=>bC Z Z (by omega) (by omega)) (aV Z Z Z (fun _=>pB Z Z ) (dI [false,false,true,true,true] Z (by kernel_rfl) ?_)))))))))
  refine dN bCp Z Z M4 (aEx _ c a b hc ha hb) (fun w5 M5 => ?_)
  refine aB (aC ⟨(dS (bI Z (aK 2 (.int _ _) aY M5 Z Z Z)) (dS (bI Z (aK 1 (.int _ _) aY M5 Z Z Z)) dJ)), ?_⟩)
  refine dI [true,true] Z (by kernel_rfl) (dN aLq Z Z M5 (aMv _ (qC c a b) (if hi=true then b.mass else a.mass) (max 1 (a.mass+b.mass)) (by omega) hm0.1 (by omega) (by omega) (by omega) (by omega) (by omega)) (fun w6 M6 => ?_))
  refine aB (aC ⟨dJ, ?_⟩)
  refine aV Z Z Z (fun _=>aH (.tuple (List.toArray _)) Z) (aV Z Z Z (fun _=>bM (.int _ _) Z Z) (aV Z Z Z (fun _=>bM (.int _ _) Z Z) (mW Z Z Z (mW Z Z Z (bS (aC (aE (aA (aQ Z Z (bK Z Z (aB (aC (aO (cI (.int _ _) Z ?_))))))))))))))
  exact ⟨Z,M6.below⟩
 ·refine aM (aC (aE (fW [(0,1),(1,1),(2,1),(4,0),(5,0),(6,0),(7,1),(8,0),(9,0),(10,1),(11,0),(12,0),(13,0),(3,2),(14,2),(15,0),(16,0),(17,0),(18,0),(19,0)] mixed M3 Z (by kernel_rfl) (fun w7 M7=>(bP Z Z Z (aX 0 fA M7 Z Z Z) (bP Z Z Z (aX 1 bQ M7 Z Z Z) (bP Z Z Z (aX 2 bQ M7 Z Z Z) (eD Z Z Z (aV Z Z Z (fun _=>bH dY underlying2 Z (fJ _ (by omega) (by omega))) (dV 23 (.int .i64 (if hi=true then b.mass else a.mass)) (iE (by rw [h14];rfl)) (aV Z Z Z (fun _=>aD 4 eM Z) ?_)))))))))))
  refine bP Z Z Z (aK 1 (.int _ _) aY M7 Z Z Z) (aV Z Z Z (fun _=>bH dY underlying2 Z (fJ _ (by omega) (by omega))) (aV Z Z Z (fun _=>aD 4 eM Z) (bP Z Z Z (aK 2 (.int _ _) aY M7 Z Z Z) (aV Z Z Z (fun _=>bH dY underlying2 Z (fJ _ (by omega) (by omega))) (aV Z Z Z (fun _=>bC Z Z (by omega) (by omega)) (aV Z Z Z (fun _=>pB Z Z ) (dI [false,false,true,true,true] Z (by kernel_rfl) (dN bCp Z Z M7 (aEx _ c a b hc ha hb) (fun w8 M8 => ?_)))))))))
  refine aB (aC ⟨(dS (bI Z (aK 2 (.int _ _) aY M8 Z Z Z)) (dS (bI Z (aK 1 (.int _ _) aY M8 Z Z Z)) dJ)), ?_⟩)
  refine dI [true,true] Z (by kernel_rfl) (dN aLq Z Z M8 (aMv _ (qC c a b) (if hi=true then b.mass else a.mass) (max 1 (a.mass+b.mass)) (by omega) hm0.1 (by omega) (by omega) (by omega) (by omega) (by omega)) (fun w9 M9 => ?_))
  refine aB (aC ⟨dJ, ?_⟩)
  refine aV Z Z Z (fun _=>aH (.tuple (List.toArray _)) Z) (aV Z Z Z (fun _=>bM (.int _ _) Z Z) (aV Z Z Z (fun _=>bM (.int _ _) Z Z) (mW Z Z Z (mW Z Z Z (bS (aC (aE (aA (aQ Z Z (bK Z Z (aB (aC (aO (cI (.int _ _) Z ?_))))))))))))))
  exact ⟨Z,M9.below⟩
theorem aEy (w:World) (bo bk:Nat) (cn:Con) (q:Row) (l:List (Int × Int)) (hq:aZ 228 2 q.A q.n q.c ((l).map cP) q.e) (p:Nat) (s z:Int) (f:Int × Int) (hp:l[p]? = some f) (hs:0≤s∧s≤1073741824) (hz:z=1∨z = -1) (hc:Okn cn) (hf:(-1152921504606846976≤f.1∧f.1≤1152921504606846976) ∧ -1152921504606846976≤f.2∧f.2≤1152921504606846976) (hO:Own [(some bo,bc [.slice q.A q.n q.c] 201),q.e,(some bk,bc (cL cn) 175)] w) :
  Calls prog 154 #[.int .i64 (p:Int),.int .i64 s,.int .i64 z,.pointer (some ⟨bo,0,none⟩),.pointer (some ⟨bk,0,none⟩)] w (gH (fun v w'=>v=.tuple #[]∧∃ e:eL,aZ 228 2 q.A q.n q.c ((l.set p (aRd s z cn f)).map cP) e∧Mem w (bY [(some bo,bc [.slice q.A q.n q.c] 201),q.e,(some bk,bc (cL cn) 175)]) [(some bo,bc [.slice q.A q.n q.c] 201),e,(some bk,bc (cL cn) 175)] w')):=by
 have hcx:=hc.x
 have hcy:=hc.y
 have hl:l.length=q.n:=by simpa using hq.1
 have hpl:=(List.getElem?_eq_some_iff.1 hp).1
 have r1:=mU hs hc.x
 have r2:=mU hs hc.y
 have hp2:(l.set p (f.1+z*(s*cn.nx / 65536),f.2))[p]? = some (f.1+z*(s*cn.nx / 65536),f.2):=by rw [List.getElem?_set_self hpl]
 have z1 : -1073741824≤z*(s*cn.nx / 65536)∧z*(s*cn.nx / 65536)≤1073741824:=by rcases hz with rfl | rfl <;> omega
 have z2 : -1073741824≤z*(s*cn.ny / 65536)∧z*(s*cn.ny / 65536)≤1073741824:=by rcases hz with rfl | rfl <;> omega
 refine aI #[] 42 func154 Z results154 ntmps154 Z ?_
 have M0:=hO.mem
 refine aE (fW [(0,1),(1,0),(2,1),(3,1),(4,1),(5,0),(6,0),(7,0),(8,0),(9,1),(10,0),(11,0),(12,0),(13,0),(14,0),(15,1),(16,1),(17,2)] mixed M0 Z (by kernel_rfl) (fun w1 M1=>(bP Z Z Z (aK 0 (.slice _ _ _) aBk M1 Z Z Z) (eD Z Z Z (bP Z Z Z (bJ (p) aHf Z Z Z ((hq.rd M1 (bA (i:=1) Z)).below_len (aG cP hp)) ((hq.rd M1 (bA (i:=1) Z)).someK (aG cP hp))) (bP Z Z Z (aT 0 aFk (hq.rd M1 (bA (i:=1) Z)) (iR ((hq.rd M1 (bA (i:=1) Z)).below_len (aG cP hp))) Z) ?_))))))
 refine bP Z Z Z (dM (o:=0) (.int _ _) jM (hq.rd M1 (bA (i:=1) Z)) (aG cP hp) Z Z) (eD Z Z Z (eD Z Z Z (aV Z Z Z (fun _=>aD 2 iH Z) (aV Z Z Z (fun _=>aD 0 cV Z) (bP Z Z Z (aK 2 (.int _ _) aY M1 Z Z Z) (aV Z Z Z (fun _=>bH dY underlying2 Z (fJ _ (by omega) (by omega))) (aV Z Z Z (fun _=>fC Z Z (by omega) (by omega)) (aV Z Z Z (fun _=>kK Z Z (by decide)) (dV 20 (.int .i64 (s*cn.nx / 65536)) (iE (qT _)) (aV Z Z Z (fun _=>fC Z Z (by omega) (by omega)) ?_))))))))))
 refine aV Z Z Z (fun _=>bC Z Z (by omega) (by omega)) (bP Z Z Z (bJ (p) aHf Z Z Z ((hq.rd M1 (bA (i:=1) Z)).below_len (aG cP hp)) ((hq.rd M1 (bA (i:=1) Z)).someK (aG cP hp))) (bP Z Z Z (aT 0 aFk (hq.rd M1 (bA (i:=1) Z)) (iR ((hq.rd M1 (bA (i:=1) Z)).below_len (aG cP hp))) Z) (dI [true,true,true,true,true,true,true] Z (by kernel_rfl) (aEf (o:=0) 1 (.int _ _) jM M1 Z hq (aG cP hp) Z Z Z Z Z (fun e2 w2 hR2 M2 => ?_)))))
 have hQ2:=hR2.mapSet (f:=cP) (x:=(f.1+z*(s*cn.nx / 65536),f.2)) rfl
 refine aB (aC ⟨dJ, ?_⟩)
 refine bS (aC (fW [(0,1),(1,0),(2,1),(3,1),(4,1),(5,0),(6,0),(7,0),(8,0),(9,1),(10,0),(11,0),(12,0),(13,0),(14,0),(15,1),(16,1),(17,2)] mixed M2 Z (by kernel_rfl) (fun w3 M3=>(bP Z Z Z (aK 0 (.slice _ _ _) aBk M3 Z Z Z) (eD Z Z Z (bP Z Z Z (bJ (p) aHf Z Z Z ((hQ2.rd M3 (bA (i:=1) Z)).below_len (aG cP hp2)) ((hQ2.rd M3 (bA (i:=1) Z)).someK (aG cP hp2))) (bP Z Z Z (aT 1 aFl (hQ2.rd M3 (bA (i:=1) Z)) (iR ((hQ2.rd M3 (bA (i:=1) Z)).below_len (aG cP hp2))) Z) ?_)))))))
 refine bP Z Z Z (dM (o:=1) (.int _ _) jM (hQ2.rd M3 (bA (i:=1) Z)) (aG cP hp2) Z Z) (eD Z Z Z (eD Z Z Z (aV Z Z Z (fun _=>aD 2 iH Z) (aV Z Z Z (fun _=>aD 1 cS Z) (bP Z Z Z (aK 2 (.int _ _) aY M3 Z Z Z) (aV Z Z Z (fun _=>bH dY underlying2 Z (fJ _ (by omega) (by omega))) (aV Z Z Z (fun _=>fC Z Z (by omega) (by omega)) (aV Z Z Z (fun _=>kK Z Z (by decide)) (dV 37 (.int .i64 (s*cn.ny / 65536)) (iE (qT _)) (aV Z Z Z (fun _=>fC Z Z (by omega) (by omega)) ?_))))))))))
 refine aV Z Z Z (fun _=>bC Z Z (by omega) (by omega)) (bP Z Z Z (bJ (p) aHf Z Z Z ((hQ2.rd M3 (bA (i:=1) Z)).below_len (aG cP hp2)) ((hQ2.rd M3 (bA (i:=1) Z)).someK (aG cP hp2))) (bP Z Z Z (aT 1 aFl (hQ2.rd M3 (bA (i:=1) Z)) (iR ((hQ2.rd M3 (bA (i:=1) Z)).below_len (aG cP hp2))) Z) (dI [true,true,true,true,true,true,true] Z (by kernel_rfl) (aEf (o:=1) 1 (.int _ _) jM M3 Z hQ2 (aG cP hp2) Z Z Z Z Z (fun e4 w4 hR4 M4 => ?_)))))
 have hQ4:=hR4.mapSet (f:=cP) (x:=aRd s z cn f) rfl
 rw [List.set_set] at hQ4
 refine aB (aC ⟨dJ, ?_⟩)
 refine bS (kI ?_)
 exact ⟨Z,e4,hQ4,M4⟩
theorem Mem.swap2 {w0 w:World} {X:List Nat} {a b:eL} (M:Mem w0 X [a,b] w):Mem w0 X [b,a] w:=M.perm (List.Perm.swap b a [])
theorem aEb {xs:List Body} {cs:List Con} {n:Nat} (hs:cZ xs) (hb:∀ b∈xs,Okb b) (hcs:∀ c∈cs,OkC xs c) (hn:cs.length=n) (hl:n≤1073741824) (k:Nat) {b:Body} (h:b∈xs):(-1152921504606846976≤(kL xs (cs.take k) b).1∧(kL xs (cs.take k) b).1≤1152921504606846976) ∧ -1152921504606846976≤(kL xs (cs.take k) b).2∧(kL xs (cs.take k) b).2≤1152921504606846976:=by
 have ht:(cs.take k).length≤cs.length:=by rw [List.length_take];omega
 have h1:=aRc (cs:=cs.take k) (g:=(·.nx)) hs hb (fun c h=>hcs c (List.mem_of_mem_take h)) (fun c h=>(hcs c (List.mem_of_mem_take h)).n.x) h
 have h2:=aRc (cs:=cs.take k) (g:=(·.ny)) hs hb (fun c h=>hcs c (List.mem_of_mem_take h)) (fun c h=>(hcs c (List.mem_of_mem_take h)).n.y) h
 unfold kL
 simp only
 omega
theorem aSn (w:World) (A:Option Addr) (n c:Nat) (xs:List Body) (R:Rd w 10 A n (xs.map aF)) (hs:cZ xs) (hb:∀ b∈xs,Okb b) (hn:n≤1048576) (B:Option Addr) (mc c':Nat) (cs:List Con) (R':Rd w 5 B mc (cs.map cL)) (hcs:∀ c∈cs,OkC xs c) (hmc:mc≤1073741824) :
  Calls prog 133 #[.slice A n c,.slice B mc c'] w (gH (fun v w'=>∃ r:Row,v=.slice r.A r.n r.c∧aZ 228 2 r.A r.n r.c ((xs.map (kL xs cs)).map cP) r.e∧Mem w [] [r.e] w')):=by
 have hlen:xs.length=n:=by simpa using R.len
 have hbd:=R.bound
 have hclen:cs.length=mc:=by simpa using R'.len
 have hbd':=R'.bound
 have hz0:List.replicate n ([.int .i64 0,.int .i64 0]:List Value)=(xs.map (kL xs (cs.take 0))).map cP:=by rw [bKy,aXa hlen ((0,0):Int × Int)];exact congrArg (List.map cP) (List.map_congr_left (fun b _=>Prod.ext (wC xs cs (·.nx) b).symm (wC xs cs (·.ny) b).symm))
 refine aI #[.tmp 4] 67 func133 Z results133 ntmps133 Z ?_
 have M0:=Mem.refl w
 refine aE (aA (eH Z Z (aB (aC (aE (aA (dK Z Z (wq (cK underlying46 Z) Z (nF (n) [.int .i64 0,.int .i64 0] aHf bMc Z M0 Z Z Z Z Z Z (by omega) (by omega) (fun b1 w1 M1 => ?_))))))))))
 have hL15:=kZ (T:=228) (sz:=2) (b:=b1) (nn:=n) (List.replicate n [.int .i64 0,.int .i64 0]) (fun l hl=>by rw [List.eq_of_mem_replicate hl];rfl) (by simp) (by omega)
 rw [hz0] at hL15
 rw [hz0] at M1
 refine aR bMb M1 Z Z (fun b2 w2 M2=>(dA 1 (.slice _ _ _) aBk M2 Z Z Z Z Z Z (fun w3 M3=>(aB (aC (aE (aE (aA ?_))))))))
 have M4:Mem _ _ [_,_] _:=Mem.swap2 M3
 refine dK Z Z (wq (cK underlying148 Z) Z (aQ Z Z (aB (aC (aP (dG (σ:=Nat × eL) [0,4,5,16,17] (fun (k,e)=>[(18,.int .i64 (k:Int))]) (fun (k,e) w'=>(k≤mc∧aZ 228 2 (some ⟨b1,0,none⟩) n n ((xs.map (kL xs (cs.take k))).map cP) e)∧Mem w [] [(some b2,bc [.slice (some ⟨b1,0,none⟩) n n] 201),e] w') (fun (k,e)=>mc - k) (0,(some b1,bc ((xs.map (kL xs (cs.take 0))).map cP).flatten 228)) (bE Z dZ) (⟨⟨by omega,hL15⟩,M4⟩) ?_))))))
 rintro ⟨k,e⟩ ρ5 w5 ⟨⟨hk,hq⟩,hM5⟩
 refine aE (aA (cX Z Z Z Z (aB (aC (aE ?_)))))
 refine aU Z (fun h19 => ?_) (fun h19 => ?_)
 ·obtain ⟨cn,hcn⟩:=cF (xs:=cs) (k:=k) hclen (by omega)
  have hc:=hcs cn (List.mem_of_getElem? hcn)
  obtain ⟨pa,xa,hxa,hka,hla,hba,hma⟩:=vL hs hc.l
  obtain ⟨pb,xb,hxb,hkb,hlb,hbb,hmb⟩:=vL hs hc.h
  have hoa:=hb xa hma
  have hob:=hb xb hmb
  have hne:=hc.ne
  have ma:=hoa.m
  have mb:=hob.m
  have hpab:pa≠pb:=fun g=>by subst g;rw [hxa] at hxb;injection hxb with hxb;subst hxb;omega
  refine aM (aC (aE (aP (aE (aA (wq (bJ (k) tJ Z Z Z ((R'.mem hM5).below_len (aG cL hcn)) ((R'.mem hM5).someK (aG cL hcn))) Z (wq (dW _ fA (R'.mem hM5) (aG cL hcn) Z) Z (aR nH hM5 Z Z (fun b6 w6 M6=>(bG 2 _ fA M6 Z Z Z Z Z (aS Z) Z (fun w7 M7=>(aB (aC (aE (aA (dK Z Z (wq (aD 0 fR Z) Z (wq (aD 0 gU Z) Z (wq (aK 2 (.int _ _) bV M7 Z Z Z) Z (dN aLo Z Z M7 (wI _ cn.low _ _ _ xs (R.mem M7) hs) (fun w8 M8 => ?_)))))))))))))))))))))
  refine wq (aH (.tuple (List.toArray _)) Z) Z (wq (bM (.int _ _) Z Z) Z (aL 28 (.int .i64 (pa:Int)) (iE (by rw [hla])) (wq (bM (.bool (decide _)) Z Z) Z (bK Z Z (wq (aJ (.bool (decide _)) Z) Z (aB (aC (aE (aA (dK Z Z (wq (aD 0 fR Z) Z (wq (aD 1 kJ Z) Z (wq (aK 2 (.int _ _) bV M8 Z Z Z) Z (dN aLo Z Z M8 (wI _ cn.high _ _ _ xs (R.mem M8) hs) (fun w9 M9=>(wq (aH (.tuple (List.toArray _)) Z) Z (wq (bM (.int _ _) Z Z) Z (aL 36 (.int .i64 (pb:Int)) (iE (by rw [hlb])) ?_))))))))))))))))))
  refine wq (bM (.bool (decide _)) Z Z) Z (bK Z Z (wq (aJ (.bool (decide _)) Z) Z (aB (aC (aE (aA (wq (dU [] [.pointer _,.pointer _] Z Z) Z (wq (aJ (.func _ _ _) Z) Z (aB (aC (aE (fW [(0,0),(1,0),(2,1),(3,0),(4,0),(5,1),(6,1),(7,0),(8,0),(9,1),(10,1),(11,2),(12,2)] mixed M9 Z (by kernel_rfl) (fun w10 M10=>(aV Z Z Z (fun _=>aH (.func _ _ _) Z) (eD Z Z Z (bP Z Z Z (aX 2 fA M10 Z Z Z) (kA Z Z Z (eD Z Z Z (bP Z Z Z (bJ (pa) dP Z Z Z ((R.mem M10).below_len (aG aF hxa)) ((R.mem M10).someK (aG aF hxa))) ?_)))))))))))))))))))
  refine bP Z Z Z (dW _ bQ (R.mem M10) (aG aF hxa) Z) (kA Z Z Z (eD Z Z Z (bP Z Z Z (bJ (pb) dP Z Z Z ((R.mem M10).below_len (aG aF hxb)) ((R.mem M10).someK (aG aF hxb))) (bP Z Z Z (dW _ bQ (R.mem M10) (aG aF hxb) Z) (dI [true,true,true,true,true] Z (by kernel_rfl) (dN bCh Z Z M10 (aJp _ cn xa xb hc.n hoa hob false) (fun w11 M11 => ?_)))))))
  refine aB (aC ⟨dJ, ?_⟩)
  refine dV 50 (.int .i64 (rL cn xa xb xa.mass)) Z (dI [] Z (by kernel_rfl) (eP bCg Z Z (aEy _ b2 b6 cn ⟨some ⟨b1,0,none⟩,n,n,e⟩ (xs.map (kL xs (cs.take k))) hq pa (rL cn xa xb xa.mass) (-1) (kL xs (cs.take k) xa) (aG _ hxa) (aBr hc.n (by omega)) (.inr Z) hc.n (aEb hs hb hcs hclen hmc k hma) (M11.ownSeg 0 3)) ?_))
  rintro v12 w12 ⟨rfl,e1,hq1,hM12⟩
  have M12:Mem _ _ [_,_,_] _:=M11.seg 0 3 hM12
  refine aB (aC ⟨dJ, ?_⟩)
  refine bS (aC (fW [(0,0),(1,0),(2,1),(3,0),(4,0),(5,1),(6,1),(7,0),(8,0),(9,1),(10,1),(11,2),(12,2)] mixed M12 Z (by kernel_rfl) (fun w13 M13=>(aV Z Z Z (fun _=>aH (.func _ _ _) Z) (eD Z Z Z (bP Z Z Z (aX 2 fA M13 Z Z Z) (kA Z Z Z (eD Z Z Z (bP Z Z Z (bJ (pa) dP Z Z Z ((R.mem M13).below_len (aG aF hxa)) ((R.mem M13).someK (aG aF hxa))) (bP Z Z Z (dW _ bQ (R.mem M13) (aG aF hxa) Z) (kA Z Z Z (eD Z Z Z (bP Z Z Z (bJ (pb) dP Z Z Z ((R.mem M13).below_len (aG aF hxb)) ((R.mem M13).someK (aG aF hxb))) ?_)))))))))))))
  refine bP Z Z Z (dW _ bQ (R.mem M13) (aG aF hxb) Z) (dI [true,true,true,true,true] Z (by kernel_rfl) (dN bCh Z Z M13 (aJp _ cn xa xb hc.n hoa hob true) (fun w14 M14 => ?_)))
  refine aB (aC ⟨dJ, ?_⟩)
  refine dV 63 (.int .i64 (rL cn xa xb xb.mass)) Z (dI [] Z (by kernel_rfl) (eP bCg Z Z (aEy _ b2 b6 cn ⟨some ⟨b1,0,none⟩,n,n,e1⟩ _ hq1 pb (rL cn xa xb xb.mass) (1) (kL xs (cs.take k) xb) (xR (aG _ hxb) hpab) (aBr hc.n (by omega)) (.inl Z) hc.n (aEb hs hb hcs hclen hmc k hmb) (M14.ownSeg 0 3)) ?_))
  rintro v15 w15 ⟨rfl,e2,hq2,hM15⟩
  have M15:Mem _ _ [_,_,_] _:=M14.seg 0 3 hM15
  refine aB (aC ⟨dJ, ?_⟩)
  refine bS (cR (aC (aA (wq (bC Z Z (by omega) (by omega)) Z (aQ Z Z (aB ?_))))))
  refine bX (k+1,e2) (bE Z dZ) (bZ Z (bZ Z (bZ Z (bZ Z (bZ Z gK))))) ?_ ?_
  ·exact ⟨⟨by omega,by rw [← bAn hcn,← bLf hs hxa hxb hka hkb hc hba hbb];exact hq2⟩,M15.keep [true,true,false]⟩
  ·(show mc - (k+1) < mc - k;omega)
 ·have hkn:k=mc:=by omega
  rw [List.take_of_length_le (by omega)] at hq
  refine cN (dC (dE (eJ (aC (aE (aA (wq (aK 0 (.slice _ _ _) aBk hM5 Z Z Z) Z (eH Z Z (aB (aC (aO (cI (.slice _ _ _) Z ?_))))))))))))
  exact ⟨⟨(some ⟨b1,0,none⟩),n,n,e⟩,Z,hq,hM5.keep [false,true]⟩
end Go.Proofs.YtpcloigancpnbaaGreatDoor
