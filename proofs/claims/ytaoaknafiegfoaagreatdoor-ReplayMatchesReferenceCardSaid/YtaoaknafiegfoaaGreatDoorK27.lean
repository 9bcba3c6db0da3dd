/- Part of the proof of a law of this seat (6 texts). No conditions. -/
import Derived.Test.YtaoaknafiegfoaaGreatDoorK20
import Derived.Test.YtaoaknafiegfoaaGreatDoorK26
set_option linter.unusedVariables false
set_option linter.unusedSimpArgs false
set_option linter.unnecessarySimpa false
set_option maxHeartbeats 100000000
namespace Go.Proofs.YtaoaknafiegfoaaGreatDoor
open Go.Bil
open Go.RowKit (Below)
open Go.Proofs
open Go.Proofs.Tryz
theorem bMx (w:World) (bs:Nat) (rx ry:Row) (F G:Body→Int) (A:Option Addr) (n c:Nat) (xs:List Body) (R:Rd w 10 A n (xs.map aF)) (hs:dD xs) (hb:∀ b∈xs,Okb b) (hrx:bA 2 1 rx.A rx.n rx.c ((xs.map F).map dP) rx.e) (hry:bA 2 1 ry.A ry.n ry.c ((xs.map G).map dP) ry.e) (hF:∀ b∈xs, -1152921504606846976≤F b∧F b≤1152921504606846976) (hG:∀ b∈xs, -1152921504606846976≤G b∧G b≤1152921504606846976) (cn:Con) (hc:OkC xs cn) (hO:Own [(some bs,bc [.slice A n c,.slice rx.A rx.n rx.c,.slice ry.A ry.n ry.c] 303),rx.e,ry.e] w) (hdA:0 < n→∀ q off,A=some ⟨q,off,none⟩→q∉cD [(some bs,bc [.slice A n c,.slice rx.A rx.n rx.c,.slice ry.A ry.n ry.c] 303),rx.e,ry.e]) :
  Calls prog 220 #[.pointer (some ⟨bs,0,none⟩),.agg (cQ cn).toArray] w (gY (fun v w'=>v=.tuple #[]∧∃ ex ey:eQ,bA 2 1 rx.A rx.n rx.c ((xs.map (aNb xs (·.nx) cn F)).map dP) ex∧bA 2 1 ry.A ry.n ry.c ((xs.map (aNb xs (·.ny) cn G)).map dP) ey∧Mem w (cD [(some bs,bc [.slice A n c,.slice rx.A rx.n rx.c,.slice ry.A ry.n ry.c] 303),rx.e,ry.e]) [(some bs,bc [.slice A n c,.slice rx.A rx.n rx.c,.slice ry.A ry.n ry.c] 303),ex,ey] w')):=by
 have hlen:xs.length=n:=by simpa using R.len
 have hbd:=R.bound
 have hlx:xs.length=rx.n:=by simpa using hrx.1
 have hly:xs.length=ry.n:=by simpa using hry.1
 obtain ⟨pa,xa,hxa,hka,hla,hba,hma⟩:=xI hs hc.l
 obtain ⟨pb,xb,hxb,hkb,hlb,hbb,hmb⟩:=xI hs hc.h
 have hoa:=hb xa hma
 have hob:=hb xb hmb
 have hne:=hc.ne
 have hpl:=(List.getElem?_eq_some_iff.1 hxa).1
 have hpl2:=(List.getElem?_eq_some_iff.1 hxb).1
 have hpab:pa≠pb:=fun g=>by subst g;rw [hxa] at hxb;injection hxb with hxb;subst hxb;omega
 have ma:=hoa.m
 have mb:=hob.m
 have hra:=sP hc.n hoa hob (m:=xa.mass) (by omega)
 have hrb:=sP hc.n hoa hob (m:=xb.mass) (by omega)
 have gax:=(lZ hra.2.2 hc.n.x).2.2
 have gay:=(lZ hra.2.2 hc.n.y).2.2
 have gbx:=(lZ hrb.2.2 hc.n.x).2.2
 have gby:=(lZ hrb.2.2 hc.n.y).2.2
 have fa:=hF xa hma
 have fb:=hF xb hmb
 have ga:=hG xa hma
 have gb:=hG xb hmb
 have hFa:(xs.map F)[pa]? = some (F xa):=by rw [List.getElem?_map,hxa];rfl
 have hGa:(xs.map G)[pa]? = some (G xa):=by rw [List.getElem?_map,hxa];rfl
 have hFb:((xs.map F).set pa (F xa - pN (mE cn xa xb) xa.mass cn.nx))[pb]? = some (F xb):=zI (by rw [List.getElem?_map,hxb];rfl) hpab
 have hGb:((xs.map G).set pa (G xa - pN (mE cn xa xb) xa.mass cn.ny))[pb]? = some (G xb):=zI (by rw [List.getElem?_map,hxb];rfl) hpab
 refine aI #[] 139 func220 Z results220 ntmps220 Z ?_
 have M0:=hO.mem
 refine aE (aA (bO (.agg (.mk _)) M0 Z Z Z (fun b1 w1 M1=>(aB (aC (aE (gJ [(0,0),(1,0),(2,0),(3,1),(4,0),(5,0),(6,1),(7,2),(8,0),(9,0),(10,0),(11,0),(12,0)] mixed M1 Z (by kernel_rfl) (fun w2 M2=>(aX Z Z Z (fun _=>aH (.pointer _) Z) (aX Z Z Z (fun _=>bN Z) (aX Z Z Z (fun _=>aD 0 tN Z) (bQ Z Z Z (aK 0 (.slice _ _ _) iD M2 Z Z Z) (aX Z Z Z (fun _=>aD 0 gG Z) (aX Z Z Z (fun _=>aD 0 iI Z) (bQ Z Z Z (aK 3 (.int _ _) bZ M2 Z Z Z) ?_)))))))))))))))
 refine dO [true,true] Z (by kernel_rfl) (dM aNg Z Z M2 (yA _ cn.low _ _ _ xs (R.memY M2 hdA) hs) (fun w3 M3 => ?_))
 refine aB (aC ⟨dI, ?_⟩)
 refine aX Z Z Z (fun _=>aH (.tuple (List.toArray _)) Z) (aX Z Z Z (fun _=>bJ (.int _ _) Z Z) (dX 20 (.int .i64 (pa:Int)) (iE (by rw [hla])) (aX Z Z Z (fun _=>bJ (.bool (decide _)) Z Z) (nV Z Z Z (aX Z Z Z (fun _=>aJ (.bool (decide _)) Z) (bS (aC (aE (gJ [(0,0),(1,0),(2,0),(3,1),(4,0),(5,0),(6,1),(7,2),(8,0),(9,0),(10,0),(11,0),(12,0)] mixed M3 Z (by kernel_rfl) (fun w4 M4=>(aX Z Z Z (fun _=>aH (.pointer _) Z) (aX Z Z Z (fun _=>bN Z) (aX Z Z Z (fun _=>aD 0 tN Z) ?_)))))))))))))
 refine bQ Z Z Z (aK 0 (.slice _ _ _) iD M4 Z Z Z) (aX Z Z Z (fun _=>aD 0 gG Z) (aX Z Z Z (fun _=>aD 1 lG Z) (bQ Z Z Z (aK 3 (.int _ _) bZ M4 Z Z Z) (dO [true,true] Z (by kernel_rfl) (dM aNg Z Z M4 (yA _ cn.high _ _ _ xs (R.memY M4 hdA) hs) (fun w5 M5 => ?_))))))
 refine aB (aC ⟨dI, ?_⟩)
 refine aX Z Z Z (fun _=>aH (.tuple (List.toArray _)) Z) (aX Z Z Z (fun _=>bJ (.int _ _) Z Z) (dX 31 (.int .i64 (pb:Int)) (iE (by rw [hlb])) (aX Z Z Z (fun _=>bJ (.bool (decide _)) Z Z) (nV Z Z Z (aX Z Z Z (fun _=>aJ (.bool (decide _)) Z) (bS (aC (aE (gJ [(0,1),(1,0),(2,0),(3,0),(4,1),(5,0),(6,1),(7,1),(8,0),(9,0),(10,0),(11,1),(12,0),(13,1),(14,1),(15,2),(16,0)] mixed M5 Z (by kernel_rfl) (fun w6 M6=>(bQ Z Z Z (aV 3 fL M6 Z Z Z) (aX Z Z Z (fun _=>aH (.pointer _) Z) ?_))))))))))))
 refine aX Z Z Z (fun _=>bN Z) (aX Z Z Z (fun _=>aD 0 tN Z) (bQ Z Z Z (aK 0 (.slice _ _ _) iD M6 Z Z Z) (eG Z Z Z (bQ Z Z Z (bG (pa) dU Z Z Z ((R.memY M6 hdA).below_len (aG aF hxa)) ((R.memY M6 hdA).someK (aG aF hxa))) (bQ Z Z Z (dQ _ bR (R.memY M6 hdA) (aG aF hxa) Z) (aX Z Z Z (fun _=>aH (.pointer _) Z) (aX Z Z Z (fun _=>bN Z) (aX Z Z Z (fun _=>aD 0 tN Z) (bQ Z Z Z (aK 0 (.slice _ _ _) iD M6 Z Z Z) ?_)))))))))
 refine eG Z Z Z (bQ Z Z Z (bG (pb) dU Z Z Z ((R.memY M6 hdA).below_len (aG aF hxb)) ((R.memY M6 hdA).someK (aG aF hxb))) (bQ Z Z Z (dQ _ bR (R.memY M6 hdA) (aG aF hxb) Z) (dO [true,true,true,true,true,true,true] Z (by kernel_rfl) (dM bTy Z Z M6 (aOd _ cn xa xb hc.n hoa hob) (fun w7 M7 => ?_)))))
 refine aB (aC ⟨dI, ?_⟩)
 refine nV Z Z Z (bS (aC (aE (gJ [(0,0),(1,0),(2,0),(3,0),(4,1),(5,0),(6,1),(7,1),(8,1),(9,0),(10,1),(11,2),(12,0),(13,0),(14,0),(15,0),(16,0)] mixed M7 Z (by kernel_rfl) (fun w8 M8=>(eG Z Z Z (aX Z Z Z (fun _=>aH (.pointer _) Z) (aX Z Z Z (fun _=>bN Z) (aX Z Z Z (fun _=>aD 0 tN Z) (bQ Z Z Z (aK 0 (.slice _ _ _) iD M8 Z Z Z) (eG Z Z Z (bQ Z Z Z (bG (pa) dU Z Z Z ((R.memY M8 hdA).below_len (aG aF hxa)) ((R.memY M8 hdA).someK (aG aF hxa))) ?_))))))))))))
 refine bQ Z Z Z (aU 4 eS (R.memY M8 hdA) (jD ((R.memY M8 hdA).below_len (aG aF hxa))) Z) (bQ Z Z Z (dR (o:=4) (.int _ _) bB (R.memY M8 hdA) (aG aF hxa) Z Z) (aX Z Z Z (fun _=>aD 2 jB Z) (bQ Z Z Z (sJ 3 _ bP M8 Z Z Z Z) (dO [true,true,true,true,true] Z (by kernel_rfl) (dM bFs Z Z M8 (aHt _ (mE cn xa xb) xa.mass cn.nx cn.ny ⟨hra.1,hra.2.1⟩ (by omega) hra.2.2 hc.n.x hc.n.y) (fun w9 M9 => ?_))))))
 refine aB (aC ⟨dI, ?_⟩)
 refine aX Z Z Z (fun _=>aH (.tuple (List.toArray _)) Z) (aX Z Z Z (fun _=>bJ (.int _ _) Z Z) (aX Z Z Z (fun _=>bJ (.int _ _) Z Z) (nV Z Z Z (nV Z Z Z (bS (aC (aE (gJ [(0,0),(1,0),(2,0),(3,1),(4,0),(5,0),(6,0),(7,0),(8,1),(9,0),(10,0),(11,0),(12,0),(13,1),(14,0),(15,1),(16,1),(17,0),(18,0),(19,0),(20,0),(21,0),(22,1),(23,0),(24,1),(25,1),(26,0),(27,0),(28,1),(29,2),(30,1),(31,2)] mixed M9 Z (by kernel_rfl) (fun w10 M10=>(aX Z Z Z (fun _=>aH (.pointer _) Z) ?_))))))))))
 refine aX Z Z Z (fun _=>bN Z) (aX Z Z Z (fun _=>aD 1 tO Z) (bQ Z Z Z (aK 0 (.slice _ _ _) qE M10 Z Z Z) (eG Z Z Z (aX Z Z Z (fun _=>aH (.pointer _) Z) (aX Z Z Z (fun _=>bN Z) (aX Z Z Z (fun _=>aD 2 tP Z) (bQ Z Z Z (aK 0 (.slice _ _ _) qE M10 Z Z Z) (eG Z Z Z (aX Z Z Z (fun _=>aH (.pointer _) Z) (aX Z Z Z (fun _=>bN Z) (aX Z Z Z (fun _=>aD 1 tO Z) (bQ Z Z Z (aK 0 (.slice _ _ _) qE M10 Z Z Z) ?_))))))))))))
 refine eG Z Z Z (bQ Z Z Z (bG (pa) sN Z Z Z ((hrx.rd M10 (aN (i:=1) Z)).below_len (aG dP hFa)) ((hrx.rd M10 (aN (i:=1) Z)).someK (aG dP hFa))) (bQ Z Z Z (fG (.int _ _) kI (hrx.rd M10 (aN (i:=1) Z)) (aG dP hFa) Z) (eG Z Z Z (aX Z Z Z (fun _=>gX Z Z (by omega) (by omega)) (aX Z Z Z (fun _=>aH (.pointer _) Z) (aX Z Z Z (fun _=>bN Z) (aX Z Z Z (fun _=>aD 2 tP Z) (bQ Z Z Z (aK 0 (.slice _ _ _) qE M10 Z Z Z) (eG Z Z Z ?_)))))))))
 refine bQ Z Z Z (bG (pa) sN Z Z Z ((hry.rd M10 (aN (i:=2) Z)).below_len (aG dP hGa)) ((hry.rd M10 (aN (i:=2) Z)).someK (aG dP hGa))) (bQ Z Z Z (fG (.int _ _) kI (hry.rd M10 (aN (i:=2) Z)) (aG dP hGa) Z) (eG Z Z Z (aX Z Z Z (fun _=>gX Z Z (by omega) (by omega)) (bQ Z Z Z (bG (pa) sN Z Z Z ((hrx.rd M10 (aN (i:=1) Z)).below_len (aG dP hFa)) ((hrx.rd M10 (aN (i:=1) Z)).someK (aG dP hFa))) (dO [true,true,true,true,true,true,true,true,true] Z (by kernel_rfl) ?_)))))
 refine sQ 1 (.int _ _) kI M10 Z hrx (aG dP hFa) Z Z Z Z (fun e11 w11 hR11 M11 => ?_)
 have hQ11:=hR11.mapSet (f:=dP) (x:=F xa - pN (mE cn xa xb) xa.mass cn.nx) rfl
 refine aB (aC ⟨dI, ?_⟩)
 refine bQ Z Z Z (bG (pa) sN Z Z Z ((hry.rd M11 (aN (i:=2) Z)).below_len (aG dP hGa)) ((hry.rd M11 (aN (i:=2) Z)).someK (aG dP hGa))) (dO [true] Z (by kernel_rfl) (sQ 2 (.int _ _) kI M11 Z hry (aG dP hGa) Z Z Z Z (fun e12 w12 hR12 M12 => ?_)))
 have hQ12:=hR12.mapSet (f:=dP) (x:=G xa - pN (mE cn xa xb) xa.mass cn.ny) rfl
 refine aB (aC ⟨dI, ?_⟩)
 refine bS (aC (aE (gJ [(0,0),(1,0),(2,0),(3,0),(4,1),(5,0),(6,1),(7,1),(8,1),(9,0),(10,1),(11,2),(12,0),(13,0),(14,0),(15,0),(16,0)] mixed M12 Z (by kernel_rfl) (fun w13 M13=>(eG Z Z Z (aX Z Z Z (fun _=>aH (.pointer _) Z) (aX Z Z Z (fun _=>bN Z) (aX Z Z Z (fun _=>aD 0 tN Z) (bQ Z Z Z (aK 0 (.slice _ _ _) iD M13 Z Z Z) (eG Z Z Z (bQ Z Z Z (bG (pb) dU Z Z Z ((R.memY M13 hdA).below_len (aG aF hxb)) ((R.memY M13 hdA).someK (aG aF hxb))) ?_)))))))))))
 refine bQ Z Z Z (aU 4 eS (R.memY M13 hdA) (jD ((R.memY M13 hdA).below_len (aG aF hxb))) Z) (bQ Z Z Z (dR (o:=4) (.int _ _) bB (R.memY M13 hdA) (aG aF hxb) Z Z) (aX Z Z Z (fun _=>aD 2 jB Z) (bQ Z Z Z (sJ 3 _ bP M13 Z Z Z Z) (dO [true,true,true,true,true] Z (by kernel_rfl) (dM bFs Z Z M13 (aHt _ (mE cn xa xb) xb.mass cn.nx cn.ny ⟨hrb.1,hrb.2.1⟩ (by omega) hrb.2.2 hc.n.x hc.n.y) (fun w14 M14 => ?_))))))
 refine aB (aC ⟨dI, ?_⟩)
 refine aX Z Z Z (fun _=>aH (.tuple (List.toArray _)) Z) (aX Z Z Z (fun _=>bJ (.int _ _) Z Z) (aX Z Z Z (fun _=>bJ (.int _ _) Z Z) (nV Z Z Z (nV Z Z Z (bS (aC (gJ [(0,0),(1,0),(2,0),(3,1),(4,0),(5,0),(6,0),(7,0),(8,1),(9,0),(10,0),(11,0),(12,0),(13,1),(14,0),(15,1),(16,1),(17,0),(18,0),(19,0),(20,0),(21,0),(22,1),(23,0),(24,1),(25,1),(26,0),(27,0),(28,1),(29,2),(30,1),(31,2)] mixed M14 Z (by kernel_rfl) (fun w15 M15=>(aX Z Z Z (fun _=>aH (.pointer _) Z) ?_)))))))))
 refine aX Z Z Z (fun _=>bN Z) (aX Z Z Z (fun _=>aD 1 tO Z) (bQ Z Z Z (aK 0 (.slice _ _ _) qE M15 Z Z Z) (eG Z Z Z (aX Z Z Z (fun _=>aH (.pointer _) Z) (aX Z Z Z (fun _=>bN Z) (aX Z Z Z (fun _=>aD 2 tP Z) (bQ Z Z Z (aK 0 (.slice _ _ _) qE M15 Z Z Z) (eG Z Z Z (aX Z Z Z (fun _=>aH (.pointer _) Z) (aX Z Z Z (fun _=>bN Z) (aX Z Z Z (fun _=>aD 1 tO Z) (bQ Z Z Z (aK 0 (.slice _ _ _) qE M15 Z Z Z) ?_))))))))))))
 refine eG Z Z Z (bQ Z Z Z (bG (pb) sN Z Z Z ((hQ11.rd M15 (aN (i:=1) Z)).below_len (aG dP hFb)) ((hQ11.rd M15 (aN (i:=1) Z)).someK (aG dP hFb))) (bQ Z Z Z (fG (.int _ _) kI (hQ11.rd M15 (aN (i:=1) Z)) (aG dP hFb) Z) (eG Z Z Z (aX Z Z Z (fun _=>bE Z Z (by omega) (by omega)) (aX Z Z Z (fun _=>aH (.pointer _) Z) (aX Z Z Z (fun _=>bN Z) (aX Z Z Z (fun _=>aD 2 tP Z) (bQ Z Z Z (aK 0 (.slice _ _ _) qE M15 Z Z Z) (eG Z Z Z ?_)))))))))
 refine bQ Z Z Z (bG (pb) sN Z Z Z ((hQ12.rd M15 (aN (i:=2) Z)).below_len (aG dP hGb)) ((hQ12.rd M15 (aN (i:=2) Z)).someK (aG dP hGb))) (bQ Z Z Z (fG (.int _ _) kI (hQ12.rd M15 (aN (i:=2) Z)) (aG dP hGb) Z) (eG Z Z Z (aX Z Z Z (fun _=>bE Z Z (by omega) (by omega)) (bQ Z Z Z (bG (pb) sN Z Z Z ((hQ11.rd M15 (aN (i:=1) Z)).below_len (aG dP hFb)) ((hQ11.rd M15 (aN (i:=1) Z)).someK (aG dP hFb))) (dO [true,true,true,true,true,true,true,true,true] Z (by kernel_rfl) ?_)))))
 refine sQ 1 (.int _ _) kI M15 Z hQ11 (aG dP hFb) Z Z Z Z (fun e16 w16 hR16 M16 => ?_)
 have hQ16:=hR16.mapSet (f:=dP) (x:=F xb+pN (mE cn xa xb) xb.mass cn.nx) rfl
 refine aB (aC ⟨dI, ?_⟩)
 refine bQ Z Z Z (bG (pb) sN Z Z Z ((hQ12.rd M16 (aN (i:=2) Z)).below_len (aG dP hGb)) ((hQ12.rd M16 (aN (i:=2) Z)).someK (aG dP hGb))) (dO [true] Z (by kernel_rfl) (sQ 2 (.int _ _) kI M16 Z hQ12 (aG dP hGb) Z Z Z Z (fun e17 w17 hR17 M17 => ?_)))
 have hQ17:=hR17.mapSet (f:=dP) (x:=G xb+pN (mE cn xa xb) xb.mass cn.ny) rfl
 refine aB (aC ⟨dI, ?_⟩)
 refine bS (lF ?_)
 exact ⟨Z,e16,e17,by rw [← aZq hs hxa hxb hka hkb hc hba hbb];exact hQ16,by rw [← aZq hs hxa hxb hka hkb hc hba hbb];exact hQ17,M17.keep [true,true,true,false]⟩
theorem aRv (w:World) (bs:Nat) (rx ry:Row) (A:Option Addr) (n c:Nat) (xs:List Body) (R:Rd w 10 A n (xs.map aF)) (hs:dD xs) (hb:∀ b∈xs,Okb b) (B:Option Addr) (mc c':Nat) (cs:List Con) (R':Rd w 5 B mc (cs.map cQ)) (hcs:∀ c∈cs,OkC xs c) (hmc:mc≤8589934592) (hrx:bA 2 1 rx.A rx.n rx.c ((xs.map (fun b=>jC xs (cs.take 0) (·.nx) b)).map dP) rx.e) (hry:bA 2 1 ry.A ry.n ry.c ((xs.map (fun b=>jC xs (cs.take 0) (·.ny) b)).map dP) ry.e) (hO:Own [(some bs,bc [.slice A n c,.slice rx.A rx.n rx.c,.slice ry.A ry.n ry.c] 303),rx.e,ry.e] w) (hdA:0 < n→∀ q off,A=some ⟨q,off,none⟩→q∉cD [(some bs,bc [.slice A n c,.slice rx.A rx.n rx.c,.slice ry.A ry.n ry.c] 303),rx.e,ry.e]) (hdB:0 < mc→∀ q off,B=some ⟨q,off,none⟩→q∉cD [(some bs,bc [.slice A n c,.slice rx.A rx.n rx.c,.slice ry.A ry.n ry.c] 303),rx.e,ry.e]) :
  Calls prog 219 #[.slice B mc c',.func (.func 220) #[.pointer (some ⟨bs,0,none⟩)] #[]] w (gY (fun v w'=>v=.tuple #[]∧∃ ex ey:eQ,bA 2 1 rx.A rx.n rx.c ((xs.map (fun b=>jC xs cs (·.nx) b)).map dP) ex∧bA 2 1 ry.A ry.n ry.c ((xs.map (fun b=>jC xs cs (·.ny) b)).map dP) ey∧Mem w (cD [(some bs,bc [.slice A n c,.slice rx.A rx.n rx.c,.slice ry.A ry.n ry.c] 303),rx.e,ry.e]) [(some bs,bc [.slice A n c,.slice rx.A rx.n rx.c,.slice ry.A ry.n ry.c] 303),ex,ey] w')):=by
 have hlen:xs.length=n:=by simpa using R.len
 have hbd:=R.bound
 have hclen:cs.length=mc:=by simpa using R'.len
 have hbd':=R'.bound
 refine aI #[] 16 func219 Z results219 ntmps219 Z ?_
 have M0:=hO.mem
 refine aE (aA (dJ Z Z (wq (bW underlying166 Z) Z (aT Z Z (aB (aC (aS (dK (σ:=Nat × eQ × eQ) [1,6,7] (fun (k,ex,ey)=>[(8,.int .i64 (k:Int))]) (fun (k,ex,ey) w'=>(k≤mc∧bA 2 1 rx.A rx.n rx.c ((xs.map (fun b=>jC xs (cs.take k) (·.nx) b)).map dP) ex∧bA 2 1 ry.A ry.n ry.c ((xs.map (fun b=>jC xs (cs.take k) (·.ny) b)).map dP) ey)∧Mem w (cD [(some bs,bc [.slice A n c,.slice rx.A rx.n rx.c,.slice ry.A ry.n ry.c] 303),rx.e,ry.e]) [(some bs,bc [.slice A n c,.slice rx.A rx.n rx.c,.slice ry.A ry.n ry.c] 303),ex,ey] w') (fun (k,ex,ey)=>mc - k) (0,rx.e,ry.e) (bI Z eC) (⟨⟨by omega,hrx,hry⟩,M0⟩) ?_))))))))
 rintro ⟨k,ex,ey⟩ ρ1 w1 ⟨⟨hk,hqx,hqy⟩,hM1⟩
 refine aE (aA (cV Z Z Z Z (aB (aC (aE ?_)))))
 refine aW Z (fun h9 => ?_) (fun h9 => ?_)
 ·obtain ⟨cn,hcn⟩:=cG (xs:=cs) (k:=k) hclen (by omega)
  have hkx:∀ b∈xs, -1152921504606846976≤jC xs (cs.take k) (·.nx) b∧jC xs (cs.take k) (·.nx) b≤1152921504606846976:=fun b hbm=>by have:=wP (cs:=cs.take k) (g:=(·.nx)) hs hb (fun c h=>hcs c (List.mem_of_mem_take h)) (fun c h=>(hcs c (List.mem_of_mem_take h)).n.x) hbm;have:=List.length_take_le k cs;omega
  have hky:∀ b∈xs, -1152921504606846976≤jC xs (cs.take k) (·.ny) b∧jC xs (cs.take k) (·.ny) b≤1152921504606846976:=fun b hbm=>by have:=wP (cs:=cs.take k) (g:=(·.ny)) hs hb (fun c h=>hcs c (List.mem_of_mem_take h)) (fun c h=>(hcs c (List.mem_of_mem_take h)).n.y) hbm;have:=List.length_take_le k cs;omega
  refine aM (aC (aE (aS (aE (aA (wq (bG (k) vD Z Z Z ((R'.memY hM1 hdB).below_len (aG cQ hcn)) ((R'.memY hM1 hdB).someK (aG cQ hcn))) Z (wq (dQ _ fL (R'.memY hM1 hdB) (aG cQ hcn) Z) Z (aO oK hM1 Z Z (fun b2 w2 M2=>(bC 3 _ fL M2 Z Z Z Z Z (aP Z) Z (fun w3 M3=>(aB (aC (aA (wq (aH (.func _ _ _) Z) Z (wq (aV 3 fL M3 Z Z Z) Z (eJ bTn Z Z (bMx _ bs ⟨rx.A,rx.n,rx.c,ex⟩ ⟨ry.A,ry.n,ry.c,ey⟩ (fun b=>jC xs (cs.take k) (·.nx) b) (fun b=>jC xs (cs.take k) (·.ny) b) A n c xs (R.memY M3 hdA) hs hb hqx hqy hkx hky cn (hcs cn (List.mem_of_getElem? hcn)) (M3.ownSeg 0 3) (M3.away 0 3 R hdA)) ?_)))))))))))))))))
  rintro v4 w4 ⟨rfl,ex2,ey2,hqx2,hqy2,hM4⟩
  have M4:Mem _ _ [_,_,_,_] _:=M3.seg 0 3 hM4
  refine aB (cS (aC (aA (wq (bE Z Z (by omega) (by omega)) Z (aT Z Z (aB ?_))))))
  refine bU (k+1,ex2,ey2) (bI Z eC) (bX Z (bX Z (bX Z gR))) ?_ ?_
  ·exact ⟨⟨by omega,by rw [← aMs hcn];exact hqx2,by rw [← aMs hcn];exact hqy2⟩,M4.keep [true,true,true,false]⟩
  ·(show mc - (k+1) < mc - k;omega)
 ·have hkn:k=mc:=by omega
  rw [List.take_of_length_le (by omega)] at hqx hqy
  refine cM (cZ (dF (eL (lF ?_))))
  exact ⟨Z,ex,ey,hqx,hqy,hM1⟩
theorem Mem.rot3 {w0 w:World} {X:List Nat} {a b c:eQ} (M:Mem w0 X [a,b,c] w):Mem w0 X [c,b,a] w:=M.perm (List.reverse_perm [a,b,c]).symm
theorem Mem.rot3' {w0 w:World} {X:List Nat} {a b c:eQ} (M:Mem w0 X [a,b,c] w):Mem w0 X [c,a,b] w:=M.perm (List.perm_append_comm (l₁:=[a,b]) (l₂:=[c]))
theorem aZv {xs:List Body} {cs:List Con} {n:Nat} (hs:dD xs) (hb:∀ b∈xs,Okb b) (hcs:∀ c∈cs,OkC xs c) (hn:cs.length=n) (hl:n≤8589934592) {b:Body} (h:b∈xs):(-1152921504606846976≤jC xs cs (·.nx) b∧jC xs cs (·.nx) b≤1152921504606846976) ∧ -1152921504606846976≤jC xs cs (·.ny) b∧jC xs cs (·.ny) b≤1152921504606846976:=by
 have h1:=wP (cs:=cs) (g:=(·.nx)) hs hb hcs (fun c h=>(hcs c h).n.x) h
 have h2:=wP (cs:=cs) (g:=(·.ny)) hs hb hcs (fun c h=>(hcs c h).n.y) h
 omega
theorem bHu (w:World) (A:Option Addr) (n c:Nat) (xs:List Body) (R:Rd w 10 A n (xs.map aF)) (hs:dD xs) (hb:∀ b∈xs,Okb b) (hn:n≤1048576) (B:Option Addr) (mc c':Nat) (cs:List Con) (R':Rd w 5 B mc (cs.map cQ)) (hcs:∀ c∈cs,OkC xs c) (hmc:mc≤8589934592) :
  Calls prog 186 #[.slice A n c,.slice B mc c'] w (gY (fun v w'=>∃ rx ry:Row,v=.tuple #[.slice rx.A rx.n rx.c,.slice ry.A ry.n ry.c]∧bA 2 1 rx.A rx.n rx.c ((xs.map (fun b=>jC xs cs (·.nx) b)).map dP) rx.e∧bA 2 1 ry.A ry.n ry.c ((xs.map (fun b=>jC xs cs (·.ny) b)).map dP) ry.e∧Mem w [] [rx.e,ry.e] w')):=by
 have hlen:xs.length=n:=by simpa using R.len
 have hbd:=R.bound
 have hclen:cs.length=mc:=by simpa using R'.len
 have hbd':=R'.bound
 have hz0:∀ g:Con→Int,List.replicate n ([.int .i64 0]:List Value)=(xs.map (fun b=>jC xs (cs.take 0) g b)).map dP:=fun g=>by rw [bNt,aZo hlen (0:Int)];exact congrArg (List.map dP) (List.map_congr_left (fun b _=>(aMr xs cs g b).symm))
 refine aI #[.tmp 4,.tmp 5] 28 func186 Z results186 ntmps186 Z ?_
 have M0:=Mem.refl w
 refine aE (aA (eI Z Z (eI Z Z (aB (aC (aE (aGd [(0,0),(1,0),(2,0),(4,0),(5,0)] 3 6 [(6,2),(7,0),(8,2),(9,0)] [(3,2),(7,0),(8,2),(9,0)] mixed Z (by kernel_rfl) (fun w1 hb1 hh1 => ?_))))))))
 have M1:=M0.drew hb1 hh1
 refine rP Z Z Z (fun _=>aH (.slice _ _ _) Z) (rP Z Z Z (fun _=>aH (.slice _ _ _) Z) (rP Z Z Z (fun _=>bW underlying29 Z) (rP Z Z Z (fun _=>aH (.slice _ _ _) Z) (rP Z Z Z (fun _=>bW underlying29 Z) ?_))))
 refine zZ ?_ ?_
 ·refine dO [] Z (by kernel_rfl) (oI (n) [.int .i64 0] sN aJp Z M1 Z Z Z Z Z Z (by omega) (by omega) (fun b2 w2 M2 => ?_))
  have hL10:=lV (T:=2) (sz:=1) (b:=b2) (nn:=n) (List.replicate n [.int .i64 0]) (fun l hl=>by rw [List.eq_of_mem_replicate hl];rfl) (by simp) (by omega)
  rw [hz0 (·.nx)] at hL10
  rw [hz0 (·.nx)] at M2
  refine aB (aC ⟨dI, ?_⟩)
  refine dO [] Z (by kernel_rfl) (oI (n) [.int .i64 0] sN aJp Z M2 Z Z Z Z Z Z (by omega) (by omega) (fun b3 w3 M3 => ?_))
  have hL13:=lV (T:=2) (sz:=1) (b:=b3) (nn:=n) (List.replicate n [.int .i64 0]) (fun l hl=>by rw [List.eq_of_mem_replicate hl];rfl) (by simp) (by omega)
  rw [hz0 (·.ny)] at hL13
  rw [hz0 (·.ny)] at M3
  refine aB (aC ⟨dI, ?_⟩)
  refine aX Z Z Z (fun _=>cI [(0,.slice _ _ _),(1,.slice _ _ _),(2,.slice _ _ _)] _ aMq Z Z) (dO [] Z (by kernel_rfl) (bO (.agg (.mk _)) M3 Z Z Z (fun b4 w4 M4 => ?_)))
  refine aB (aC ⟨dI, ?_⟩)
  refine aX Z Z Z (fun _=>aJ (.pointer _) Z) (bS (aC (aE (aA (dJ Z Z (wq (aH (.pointer _) Z) Z (wq (eB [.pointer _] [] Z Z) Z ?_)))))))
  have M5:Mem _ _ [_,_,_] _:=Mem.rot3' M4
  refine eJ bFn rfl rfl (aRv _ b4 ⟨some ⟨b2,0,none⟩,n,n,(some b2,bc ((xs.map (fun b=>jC xs (cs.take 0) (·.nx) b)).map dP).flatten 2)⟩ ⟨some ⟨b3,0,none⟩,n,n,(some b3,bc ((xs.map (fun b=>jC xs (cs.take 0) (·.ny) b)).map dP).flatten 2)⟩ A n c xs (R.mem M5) hs hb B mc c' cs (R'.mem M5) hcs hmc hL10 hL13 (M5.ownSeg 0 3) (M5.away 0 3 R (by simp)) (M5.away 0 3 R' (by simp))) ?_
  rintro v6 w6 ⟨rfl,ex,ey,hqx,hqy,hM6⟩
  have M6:Mem _ _ [_,_,_] _:=M5.seg 0 3 hM6
  refine aB (aC (aE (gJ [(0,0),(1,0),(2,0),(3,1),(4,0),(5,0),(6,0),(7,1),(8,0),(9,0)] mixed M6 Z (by kernel_rfl) (fun w7 M7=>(aX Z Z Z (fun _=>aH (.pointer _) Z) (aX Z Z Z (fun _=>bN Z) (aX Z Z Z (fun _=>aD 1 tO Z) (bQ Z Z Z (aK 0 (.slice _ _ _) qE M7 Z Z Z) (aX Z Z Z (fun _=>aH (.pointer _) Z) (aX Z Z Z (fun _=>bN Z) (aX Z Z Z (fun _=>aD 2 tP Z) (bQ Z Z Z (aK 0 (.slice _ _ _) qE M7 Z Z Z) (aX Z Z Z (fun _=>aJ (.slice _ _ _) Z) ?_)))))))))))))
  refine aX Z Z Z (fun _=>aJ (.slice _ _ _) Z) (bS (aC (aR (gE (.slice _ _ _) (.slice _ _ _) Z Z ?_))))
  exact ⟨⟨(some ⟨b2,0,none⟩),n,n,ex⟩,⟨(some ⟨b3,0,none⟩),n,n,ey⟩,Z,hqx,hqy,M7.keep [false,true,true]⟩
 ·refine dO [] Z (by kernel_rfl) (oI (n) [.int .i64 0] sN aJp Z M1 Z Z Z Z Z Z (by omega) (by omega) (fun b8 w8 M8 => ?_))
  have hL13:=lV (T:=2) (sz:=1) (b:=b8) (nn:=n) (List.replicate n [.int .i64 0]) (fun l hl=>by rw [List.eq_of_mem_replicate hl];rfl) (by simp) (by omega)
  rw [hz0 (·.ny)] at hL13
  rw [hz0 (·.ny)] at M8
  refine aB (aC ⟨dI, ?_⟩)
  refine dO [] Z (by kernel_rfl) (oI (n) [.int .i64 0] sN aJp Z M8 Z Z Z Z Z Z (by omega) (by omega) (fun b9 w9 M9 => ?_))
  have hL10:=lV (T:=2) (sz:=1) (b:=b9) (nn:=n) (List.replicate n [.int .i64 0]) (fun l hl=>by rw [List.eq_of_mem_replicate hl];rfl) (by simp) (by omega)
  rw [hz0 (·.nx)] at hL10
  rw [hz0 (·.nx)] at M9
  refine aB (aC ⟨dI, ?_⟩)
  refine aX Z Z Z (fun _=>cI [(0,.slice _ _ _),(1,.slice _ _ _),(2,.slice _ _ _)] _ aMq Z Z) (dO [] Z (by kernel_rfl) (bO (.agg (.mk _)) M9 Z Z Z (fun b10 w10 M10 => ?_)))
  refine aB (aC ⟨dI, ?_⟩)
  refine aX Z Z Z (fun _=>aJ (.pointer _) Z) (bS (aC (aE (aA (dJ Z Z (wq (aH (.pointer _) Z) Z (wq (eB [.pointer _] [] Z Z) Z ?_)))))))
  have M11:Mem _ _ [_,_,_] _:=Mem.rot3 M10
  refine eJ bFn rfl rfl (aRv _ b10 ⟨some ⟨b9,0,none⟩,n,n,(some b9,bc ((xs.map (fun b=>jC xs (cs.take 0) (·.nx) b)).map dP).flatten 2)⟩ ⟨some ⟨b8,0,none⟩,n,n,(some b8,bc ((xs.map (fun b=>jC xs (cs.take 0) (·.ny) b)).map dP).flatten 2)⟩ A n c xs (R.mem M11) hs hb B mc c' cs (R'.mem M11) hcs hmc hL10 hL13 (M11.ownSeg 0 3) (M11.away 0 3 R (by simp)) (M11.away 0 3 R' (by simp))) ?_
  rintro v12 w12 ⟨rfl,ex,ey,hqx,hqy,hM12⟩
  have M12:Mem _ _ [_,_,_] _:=M11.seg 0 3 hM12
  refine aB (aC (aE (gJ [(0,0),(1,0),(2,0),(3,1),(4,0),(5,0),(6,0),(7,1),(8,0),(9,0)] mixed M12 Z (by kernel_rfl) (fun w13 M13=>(aX Z Z Z (fun _=>aH (.pointer _) Z) (aX Z Z Z (fun _=>bN Z) (aX Z Z Z (fun _=>aD 1 tO Z) (bQ Z Z Z (aK 0 (.slice _ _ _) qE M13 Z Z Z) (aX Z Z Z (fun _=>aH (.pointer _) Z) (aX Z Z Z (fun _=>bN Z) (aX Z Z Z (fun _=>aD 2 tP Z) (bQ Z Z Z (aK 0 (.slice _ _ _) qE M13 Z Z Z) (aX Z Z Z (fun _=>aJ (.slice _ _ _) Z) ?_)))))))))))))
  refine aX Z Z Z (fun _=>aJ (.slice _ _ _) Z) (bS (aC (aR (gE (.slice _ _ _) (.slice _ _ _) Z Z ?_))))
  exact ⟨⟨(some ⟨b9,0,none⟩),n,n,ex⟩,⟨(some ⟨b8,0,none⟩),n,n,ey⟩,Z,hqx,hqy,M13.keep [false,true,true]⟩
theorem bBx (w:World) (A:Option Addr) (n c:Nat) (xs:List Body) (R:Rd w 10 A n (xs.map aF)) (hs:dD xs) (hb:∀ b∈xs,Okb b) (hn:n≤1048576) (B:Option Addr) (mc c':Nat) (cs:List Con) (R':Rd w 5 B mc (cs.map cQ)) (hcs:∀ c∈cs,OkC xs c) (hmc:mc≤8589934592) :
  Calls prog 160 #[.slice A n c,.slice B mc c'] w (gY (fun v w'=>∃ r:Row,v=.tuple #[.slice r.A r.n r.c,.bool (aWq xs cs)]∧bA 39 10 r.A r.n r.c ((aIq xs cs).map aF) r.e∧Mem w [] [r.e] w')):=by
 have hlen:xs.length=n:=by simpa using R.len
 have hbd:=R.bound
 have hclen:cs.length=mc:=by simpa using R'.len
 have hbd':=R'.bound
 refine aI #[.tmp 4,.tmp 5] 75 func160 Z results160 ntmps160 Z ?_
 have M0:=Mem.refl w
 refine aE (aA (eI Z Z (wq (aJ (.bool false) Z) Z (aB (aC (aE (aA (dJ Z Z (dJ Z Z (eJ bSw Z Z (bHu _ A n c xs (R.mem M0) hs hb hn B mc c' cs (R'.mem M0) hcs hmc) ?_))))))))))
 rintro v1 w1 ⟨rx,ry,rfl,hrx,hry,hM1⟩
 have M1:Mem _ _ [_,_] _:=M0.call0 hM1
 have hrxn:xs.length=rx.n:=by simpa using hrx.1
 have hryn:xs.length=ry.n:=by simpa using hry.1
 refine wq (aH (.tuple (List.toArray _)) Z) Z (wq (bJ (.slice _ _ _) Z Z) Z (wq (bJ (.slice _ _ _) Z Z) Z (eI Z Z (eI Z Z (aB (aC (aE (aA (wq (aJ (.bool false) Z) Z (aB (aC (aE (aA (eI Z Z ?_))))))))))))))
 have M2:=M1.dummy default
 refine aB (aC (aE (aE (aA (dJ Z Z (wq (bW underlying29 Z) Z (aT Z Z (aB (aC (aS (dK (σ:=Nat × Row) [4,5,6,7,22,23] (fun (k,q)=>[(8,.bool ((xs.take k).any (aWp xs cs))),(9,.slice q.A q.n q.c),(24,.int .i64 (k:Int))]) (fun (k,q) w'=>(k≤n∧bA 39 10 q.A q.n q.c (((xs.take k).map (zS xs cs)).map aF) q.e)∧Mem w [] [rx.e,ry.e,q.e] w') (fun (k,q)=>n - k) (0,eN) (bI (bv Z Z) (bI Z (bI Z eC))) (⟨⟨by omega,bA.nil _ _ _⟩,M2⟩) ?_)))))))))))
 rintro ⟨k,q⟩ ρ3 w3 ⟨⟨hk,hq⟩,hM3⟩
 have htl:=List.length_take_le k xs
 have hqn:(xs.take k).length=q.n:=by simpa using hq.1
 refine aE (aA (cV Z Z Z Z (aB (aC (aE ?_)))))
 refine aW Z (fun h25 => ?_) (fun h25 => ?_)
 ·obtain ⟨xb,hxb⟩:=cG (xs:=xs) (k:=k) hlen (by omega)
  have hxm:=List.mem_of_getElem? hxb
  have hsb:=aZv hs hb hcs hclen hmc hxm
  have hvb:=(hb xb hxm).v
  have hlx:=fJ (xb.vx+jC xs cs (·.nx) xb) (l:=16777216) (by decide)
  have hly:=fJ (xb.vy+jC xs cs (·.ny) xb) (l:=16777216) (by decide)
  refine aM (aC (aE (aS (aE (aA (aT Z Z (wq (bG (k) dU Z Z Z ((R.mem hM3).below_len (aG aF hxb)) ((R.mem hM3).someK (aG aF hxb))) Z (wq (dQ _ bR (R.mem hM3) (aG aF hxb) Z) Z (aO gL hM3 Z Z (fun b4 w4 M4=>(bL Z Z (bC 3 _ bR M4 Z Z Z Z Z (aP Z) Z (fun w5 M5=>(aB (aC (aE (gJ [(0,0),(1,0),(2,1),(3,0),(4,0),(5,0),(6,1),(7,1),(8,0),(9,2),(10,0),(11,0),(12,0),(13,0),(14,0)] mixed M5 Z (by kernel_rfl) (fun w6 M6=>(aX Z Z Z (fun _=>aD 8 eH Z) ?_)))))))))))))))))))
  refine aX Z Z Z (fun _=>aD 0 cY Z) (bQ Z Z Z (aK 3 (.int _ _) bB M6 Z Z Z) (aX Z Z Z (fun _=>bK eF underlying2 Z (fU _ (by omega) (by omega))) (kB Z Z Z (eG Z Z Z (bQ Z Z Z (bG (k) sN Z Z Z ((hrx.rd M6 (aN (i:=0) Z)).below_len (aG dP (aG _ hxb))) ((hrx.rd M6 (aN (i:=0) Z)).someK (aG dP (aG _ hxb)))) (bQ Z Z Z (fG (.int _ _) kI (hrx.rd M6 (aN (i:=0) Z)) (aG dP (aG _ hxb)) Z) (aX Z Z Z (fun _=>bE Z Z (by omega) (by omega)) ?_)))))))
  refine dO [true,true,true] Z (by kernel_rfl) (dM aUl Z Z M6 (aHo _ (xb.vx+jC xs cs (·.nx) xb) 16777216 ⟨by decide,by decide⟩) (fun w7 M7 => ?_))
  refine aB (aC ⟨dI, ?_⟩)
  refine aX Z Z Z (fun _=>aH (.tuple (List.toArray _)) Z) (aX Z Z Z (fun _=>bJ (.int _ _) Z Z) (aX Z Z Z (fun _=>bJ (.bool (decide _)) Z Z) (nV Z Z Z (aX Z Z Z (fun _=>aJ (.bool (decide _)) Z) (bS (aC (aE (gJ [(0,0),(1,0),(2,1),(3,0),(4,0),(5,0),(6,1),(7,1),(8,0),(9,2),(10,0),(11,0),(12,0),(13,0),(14,0)] mixed M7 Z (by kernel_rfl) (fun w8 M8=>(aX Z Z Z (fun _=>aD 8 eH Z) (aX Z Z Z (fun _=>aD 1 cW Z) (bQ Z Z Z (aK 3 (.int _ _) bB M8 Z Z Z) ?_))))))))))))
  refine aX Z Z Z (fun _=>bK eF underlying2 Z (fU _ (by omega) (by omega))) (kB Z Z Z (eG Z Z Z (bQ Z Z Z (bG (k) sN Z Z Z ((hry.rd M8 (aN (i:=1) Z)).below_len (aG dP (aG _ hxb))) ((hry.rd M8 (aN (i:=1) Z)).someK (aG dP (aG _ hxb)))) (bQ Z Z Z (fG (.int _ _) kI (hry.rd M8 (aN (i:=1) Z)) (aG dP (aG _ hxb)) Z) (aX Z Z Z (fun _=>bE Z Z (by omega) (by omega)) (dO [true,true,true] Z (by kernel_rfl) (dM aUl Z Z M8 (aHo _ (xb.vy+jC xs cs (·.ny) xb) 16777216 ⟨by decide,by decide⟩) (fun w9 M9 => ?_))))))))
  refine aB (aC ⟨dI, ?_⟩)
  refine aX Z Z Z (fun _=>aH (.tuple (List.toArray _)) Z) (aX Z Z Z (fun _=>bJ (.int _ _) Z Z) (aX Z Z Z (fun _=>bJ (.bool (decide _)) Z Z) (nV Z Z Z (aX Z Z Z (fun _=>aJ (.bool (decide _)) Z) (bS (aC (aE (aA (aT Z Z (wq (bK nU underlying21 Z (kM _ (by omega) (by omega))) Z (aT Z Z (wq (bK nU underlying21 Z (kM _ (by omega) (by omega))) Z (wq (cI [(0,.int _ _),(1,.int _ _)] _ fK Z Z) Z (wq (aD 8 eH Z) Z (wX 3 _ bP M9 Z Z Z Z Z (aP Z) (Nat.le_of_ble_eq_true Z) (fun w10 M10 => ?_))))))))))))))))
  refine aB (aC (aE (aA (wq (aH (.bool _) Z) Z (wq (aH (.bool _) Z) Z ?_)))))
  refine kH 62 _ Z (fun g62 => ?_) (fun g62 => ?_)
  ·refine aQ rfl rfl (wq (bM true (.bool true) rfl rfl) rfl (wq (aH (.bool true) rfl) rfl (aQ rfl rfl (wq (bM true (.bool true) rfl rfl) rfl (wq (aJ (.bool true) rfl) rfl (aB (aC (aA (dJ rfl rfl (wq (aV 3 bR M10 rfl rfl rfl) rfl (bV [.agg (List.toArray _)] [aF (zS xs cs xb)] rfl dU M10 rfl rfl rfl rfl (cO rfl) (by decide) (fun b11 w11 M11=>(cP 2 [aF (zS xs cs xb)] dU M11 rfl rfl rfl rfl rfl hq rfl (by simp [aF,Go.Bil.one]) (dN.ofMem 4 M11 rfl) (by omega) (fun A12 c12 e12 w12 M12 hR12=>(eI rfl rfl (aB ?_))))))))))))))))
   refine cS (aC (aA (wq (bE Z Z (by omega) (by omega)) Z (aT Z Z (aB ?_)))))
   refine bU (k+1,⟨A12,q.n+1,c12,e12⟩) (bI (bv Z (by rw [cC hxb,List.any_append,List.any_cons,List.any_nil,Bool.or_false];rw [g62,Bool.true_or])) (bI Z (bI Z eC))) (bX Z (bX Z (bX Z (bX Z (bX Z (bX Z gR)))))) ?_ ?_
   ·exact ⟨⟨by omega,by rw [cC hxb,List.map_append,List.map_append];exact hR12⟩,M12.keep [true,true,true,false,false]⟩
   ·(show n - (k+1) < n - k;omega)
  ·refine wq (aH (.bool (decide _)) Z) Z (wq (bM false (.bool (decide _)) Z Z) Z (wq (aH (.bool (decide _)) Z) Z ?_))
   refine dT 65 Z (fun g65 => ?_) (fun g65 => ?_)
   ·refine aQ rfl rfl (wq (bM true (.bool true) rfl rfl) rfl (wq (aJ (.bool true) rfl) rfl (aB (aC (aA (dJ rfl rfl (wq (aV 3 bR M10 rfl rfl rfl) rfl (bV [.agg (List.toArray _)] [aF (zS xs cs xb)] rfl dU M10 rfl rfl rfl rfl (cO rfl) (by decide) (fun b13 w13 M13=>(cP 2 [aF (zS xs cs xb)] dU M13 rfl rfl rfl rfl rfl hq rfl (by simp [aF,Go.Bil.one]) (dN.ofMem 4 M13 rfl) (by omega) (fun A14 c14 e14 w14 M14 hR14=>(eI rfl rfl (aB (cS (aC (aA (wq (bE rfl rfl (by omega) (by omega)) rfl (aT rfl rfl (aB ?_)))))))))))))))))))
    refine bU (k+1,⟨A14,q.n+1,c14,e14⟩) (bI (bv rfl (by rw [cC hxb,List.any_append,List.any_cons,List.any_nil,Bool.or_false];rw [g62];simp [aWp,g65])) (bI rfl (bI rfl eC))) (bX rfl (bX rfl (bX rfl (bX rfl (bX rfl (bX rfl gR)))))) ?_ ?_
    ·exact ⟨⟨by omega,by rw [cC hxb,List.map_append,List.map_append];exact hR14⟩,M14.keep [true,true,true,false,false]⟩
    ·(show n - (k+1) < n - k;omega)
   ·refine wq (aH (.bool (decide _)) rfl) rfl (wq (bM false (.bool (decide _)) rfl rfl) rfl (wq (aJ (.bool (decide _)) rfl) rfl (aB (aC (aA (dJ rfl rfl (wq (aV 3 bR M10 rfl rfl rfl) rfl (bV [.agg (List.toArray _)] [aF (zS xs cs xb)] rfl dU M10 rfl rfl rfl rfl (cO rfl) (by decide) (fun b15 w15 M15=>(cP 2 [aF (zS xs cs xb)] dU M15 rfl rfl rfl rfl rfl hq rfl (by simp [aF,Go.Bil.one]) (dN.ofMem 4 M15 rfl) (by omega) (fun A16 c16 e16 w16 M16 hR16=>(eI rfl rfl (aB (cS (aC (aA (wq (bE rfl rfl (by omega) (by omega)) rfl ?_)))))))))))))))))
    refine aT Z Z (aB ?_)
    refine bU (k+1,⟨A16,q.n+1,c16,e16⟩) (bI (bv rfl (by rw [cC hxb,List.any_append,List.any_cons,List.any_nil,Bool.or_false];rw [g62];simp [aWp,g65])) (bI rfl (bI rfl eC))) (bX rfl (bX rfl (bX rfl (bX rfl (bX rfl (bX rfl gR)))))) ?_ ?_
    ·exact ⟨⟨by omega,by rw [cC hxb,List.map_append,List.map_append];exact hR16⟩,M16.keep [true,true,true,false,false]⟩
    ·(show n - (k+1) < n - k;omega)
 ·have hkn:k=n:=by omega
  rw [List.take_of_length_le (by omega)] at hq
  refine cM (cZ (dF (eL (aC (aE (aA (dJ Z Z (wq (aH (.bool _) Z) Z (eI Z Z (wq (aJ (.bool _) Z) Z (aB (aC (aR (gE (.slice _ _ _) (.bool _) Z Z ?_))))))))))))))
  exact ⟨q,wQ Z (congrArg Value.bool (by rw [List.take_of_length_le (by omega)];rfl)),hq,hM3.keep [false,false,true]⟩
theorem bBy (w:World) (A:Option Addr) (n c:Nat) (xs:List Body) (R:Rd w 10 A n (xs.map aF)) (hs:dD xs) (hb:∀ b∈xs,Okb b) (hn:n≤1048576) (B:Option Addr) (mc c':Nat) (cs:List Con) (R':Rd w 5 B mc (cs.map cQ)) (hcs:∀ c∈cs,OkC xs c) (hmc:mc≤8589934592) :
  Calls prog 146 #[.slice A n c,.slice B mc c'] w (gY (fun v w'=>∃ r:Row,v=.tuple #[.slice r.A r.n r.c,.bool (iZ xs cs 4).2]∧bA 39 10 r.A r.n r.c (((iZ xs cs 4).1).map aF) r.e∧Mem w [] [r.e] w')):=by
 have hlen:xs.length=n:=by simpa using R.len
 have hbd:=R.bound
 have hclen:cs.length=mc:=by simpa using R'.len
 have hbd':=R'.bound
 refine aI #[.tmp 4,.tmp 5] 25 func146 Z results146 ntmps146 Z ?_
 have M0:=Mem.refl w
 refine aE (aA (eI Z Z (wq (aJ (.bool false) Z) Z (aB (aC (aE (aA (wq (aJ (.bool false) Z) Z ?_))))))))
 have M1:=M0.dummy default
 refine aB (aC (aE (aE (aA (aT Z Z (aB (aC (aS (dK (σ:=Nat × Row) [1,4,5] (fun (k,q)=>[(0,.slice q.A q.n q.c),(6,.bool (iZ xs cs k).2),(9,.int .i64 (k:Int))]) (fun (k,q) w'=>(k≤4∧Rd w' 10 q.A q.n ((iZ xs cs k).1.map aF)∧(0 < k→bA 39 10 q.A q.n q.c (((iZ xs cs k).1).map aF) q.e))∧Mem w [] [q.e] w') (fun (k,q)=>4 - k) (0,⟨A,n,c,(none,default)⟩) (bI Z (bI (bv Z Z) (bI Z eC))) (⟨⟨by omega,R.mem M1,(fun h=>absurd h (by omega))⟩,M1⟩) ?_)))))))))
 rintro ⟨k,q⟩ ρ2 w2 ⟨⟨hk,hRq,hq⟩,hM2⟩
 have hql:(iZ xs cs k).1.length=q.n:=by simpa using hRq.len
 have hsl:=(kL xs cs k).len
 refine aE (aA (cV Z Z Z Z (aB (aC (aE ?_)))))
 refine aW Z (fun h10 => ?_) (fun h10 => ?_)
 ·refine aM (aC (aE (aS (aE (aA (dJ Z Z (dJ Z Z (eJ bSn Z Z (bBx _ q.A q.n q.c (iZ xs cs k).1 hRq ((kL xs cs k).sorted hs) (tZ hb k) (by omega) B mc c' cs (R'.mem hM2) (fun c h=>(kL xs cs k).okc (hcs c h)) hmc) ?_))))))))
  rintro v3 w3 ⟨r,rfl,hr,hM3⟩
  have M3:Mem _ _ [_,_] _:=hM2.call0 hM3
  refine wq (aH (.tuple (List.toArray _)) Z) Z (wq (bJ (.slice _ _ _) Z Z) Z (wq (bJ (.bool _) Z Z) Z (eI Z Z (wq (aJ (.bool _) Z) Z (aB (aC (aA (dJ Z Z (wq (aH (.bool _) Z) Z (wq (aH (.bool _) Z) Z ?_))))))))))
  refine kH 19 _ Z (fun g19 => ?_) (fun g19 => ?_)
  ·refine aQ Z Z (wq (bM true (.bool true) Z Z) Z (eI Z Z (wq (aJ (.bool true) Z) Z (aB (cS (aC (aA (wq (bE Z Z (by omega) (by omega)) Z (aT Z Z (aB ?_))))))))))
   refine bU (k+1,r) (bI Z (bI (bv Z (by show true=(_ || _);rw [g19,Bool.true_or])) (bI Z eC))) (bX Z (bX Z (bX Z gR))) ?_ ?_
   ·exact ⟨⟨by omega,hr.rd M3 (aN (i:=1) Z),(fun _=>hr)⟩,M3.keep [false,true]⟩
   ·(show 4 - (k+1) < 4 - k;omega)
  ·refine wq (aH (.bool _) Z) Z (wq (bM false (.bool _) Z Z) Z (eI Z Z (wq (aJ (.bool _) Z) Z (aB (cS (aC (aA (wq (bE Z Z (by omega) (by omega)) Z (aT Z Z (aB ?_))))))))))
   refine bU (k+1,r) (bI Z (bI (bv Z (by show _=(_ || _);rw [g19,Bool.false_or])) (bI Z eC))) (bX Z (bX Z (bX Z gR))) ?_ ?_
   ·exact ⟨⟨by omega,hr.rd M3 (aN (i:=1) Z),(fun _=>hr)⟩,M3.keep [false,true]⟩
   ·(show 4 - (k+1) < 4 - k;omega)
 ·have hk4:k=4:=by omega
  rw [hk4] at hq
  refine cM (cZ (dF (eL (aC (aE (aA (dJ Z Z (wq (aH (.bool _) Z) Z (eI Z Z (wq (aJ (.bool _) Z) Z (aB (aC (aR (gE (.slice _ _ _) (.bool _) Z Z ?_))))))))))))))
  exact ⟨q,wQ Z (congrArg Value.bool (by rw [hk4])),hq (by omega),hM2⟩
theorem aGt (w:World) (c:Con) (a b:Body) (hc:Okn c) (ha:Okb a) (hb:Okb b) :
  Calls prog 190 #[.agg (cQ c).toArray,(.agg (aF a).toArray),(.agg (aF b).toArray)] w (Rb w (.int .i64 (rB c a b))):=by
 have hdp:=hc.d
 have hm1:=ha.m
 have hm2:=hb.m
 refine aI #[.tmp 6] 27 func190 Z results190 ntmps190 Z ?_
 have M0:=Mem.refl w
 refine aE (aA (bO (.agg (.mk _)) M0 Z Z Z (fun b1 w1 M1=>(bO (.agg (.mk _)) M1 Z Z Z (fun b2 w2 M2=>(bO (.agg (.mk _)) M2 Z Z Z (fun b3 w3 M3=>(bL Z Z (aB (aC (aE (aA (wq (aD 4 aHh Z) Z (wq (aK 0 (.int _ _) bB M3 Z Z Z) Z (wq (bK eF underlying2 Z (fU _ (by omega) (by omega))) Z (wq (gX Z Z (by omega) (by omega)) Z (bL Z Z (aB (aC (aE (aE (aA (aT Z Z (cV Z Z Z Z (wq (aH (.bool (decide _)) Z) Z ?_)))))))))))))))))))))))))
 refine dT 14 Z (fun g14 => ?_) (fun g14 => ?_)
 ·refine aQ Z Z (aQ Z Z (aQ Z Z (aQ Z Z (aQ Z Z (aQ Z Z (aQ Z Z (aQ Z Z (wq (bM true (.bool true) Z Z) Z (aB (aC (cE Z (aE (aA (bL Z Z (aB (aC (aR (cK (cF (.int _ _) Z ?_)))))))))))))))))))
  exact ⟨iE (by unfold rB;rw [if_pos (by omega)]),M3.below⟩
 ·refine wq (aD 4 eS Z) Z (wq (aK 1 (.int _ _) bB M3 Z Z Z) Z (cV Z Z Z Z (wq (aH (.bool (decide _)) Z) Z ?_)))
  refine dT 18 Z (fun g18 => ?_) (fun g18 => ?_)
  ·refine wq (aD 4 eS Z) Z (wq (aK 2 (.int _ _) bB M3 Z Z Z) Z (cV Z Z Z Z (wq (bM true (.bool (decide _)) Z Z) Z (wq (bM false (.bool (decide _)) Z Z) Z (aB (aC ?_))))))
   refine aW Z (fun h23 => ?_) (fun h23 => ?_)
   ·refine aE (aA (bL Z Z (aB (aC (aR (cK (cF (.int _ _) Z ?_)))))))
    exact ⟨iE (by unfold rB;rw [if_pos (by omega)]),M3.below⟩
   ·refine aM (aC (aE (aA (aT Z Z (wq (fO Z Z (by omega) (by omega)) Z (wq (lH Z Z (by decide)) Z (bL Z Z (aB (aC (aR (cF (.int _ _) Z ?_)))))))))))
    exact ⟨iE (by unfold rB;rw [if_neg (by omega)];exact sB _),M3.below⟩
  ·refine aQ Z Z (aQ Z Z (aQ Z Z (wq (bM false (.bool false) Z Z) Z (wq (bM false (.bool false) Z Z) Z (aB (aC (cB Z (aM (aC (aE (aA (aT Z Z (wq (fO Z Z (by omega) (by omega)) Z (wq (lH Z Z (by decide)) Z (bL Z Z (aB (aC (aR (cF (.int _ _) Z ?_)))))))))))))))))))
   exact ⟨iE (by unfold rB;rw [if_neg (by omega)];exact sB _),M3.below⟩
theorem aLg (w:World) (c:Con) (a b:Body) (hc:Okn c) (ha:Okb a) (hb:Okb b) (hi:Bool) :
  Calls prog 163 #[.agg (cQ c).toArray,(.agg (aF a).toArray),(.agg (aF b).toArray),.bool hi] w (Rb w (.int .i64 (sZ c a b (if hi=true then b.mass else a.mass)))):=by
 have hdp:=hc.d
 have hm1:=ha.m
 have hm2:=hb.m
 have hm0:0≤(if hi=true then b.mass else a.mass)∧(if hi=true then b.mass else a.mass)≤1048576:=by split <;> omega
 have hsr:=aZs (a:=a) (b:=b) hc hm0
 have har:=aFl (a:=a) (b:=b) hc
 refine aI #[.tmp 8] 36 func163 Z results163 ntmps163 Z ?_
 have M0:=Mem.refl w
 refine aE (aA (bO (.agg (.mk _)) M0 Z Z Z (fun b1 w1 M1=>(bO (.agg (.mk _)) M1 Z Z Z (fun b2 w2 M2=>(bO (.agg (.mk _)) M2 Z Z Z (fun b3 w3 M3=>(bL Z Z (aB (aC (aE (aA (wq (aD 4 eS Z) Z (wq (aK 1 (.int _ _) bB M3 Z Z Z) Z (bL Z Z (aB (aC (aE (aE (aA (wq (aH (.bool _) Z) Z (aB (aC ?_)))))))))))))))))))))))
 refine iN _ Z (fun h14 => ?_) (fun h14 => ?_)
 ·refine aA (wq (aD 4 eS Z) Z (wq (aK 2 (.int _ _) bB M3 Z Z Z) Z (bL Z Z (aB (aC (aE (gJ [(0,1),(1,1),(2,1),(4,0),(5,0),(6,0),(7,1),(8,0),(9,0),(10,1),(11,0),(12,0),(13,0),(3,2),(14,2),(15,0),(16,0),(17,0),(18,0),(19,0)] mixed M3 Z (by kernel_rfl) (fun w4 M4=>(bQ Z Z Z (aV 0 fL M4 Z Z Z) (bQ Z Z Z (aV 1 bR M4 Z Z Z) (bQ Z Z Z (aV 2 bR M4 Z Z Z) (eG Z Z Z (aX Z Z Z (fun _=>bK eF underlying2 Z (fU _ (by omega) (by omega))) ?_)))))))))))))
  refine dX 23 (.int .i64 (if hi=true then b.mass else a.mass)) (iE (by rw [h14];rfl)) (aX Z Z Z (fun _=>aD 4 eS Z) (bQ Z Z Z (aK 1 (.int _ _) bB M4 Z Z Z) (aX Z Z Z (fun _=>bK eF underlying2 Z (fU _ (by omega) (by omega))) (aX Z Z Z (fun _=>aD 4 eS Z) (bQ Z Z Z (aK 2 (.int _ _) bB M4 Z Z Z) (aX Z Z Z (fun _=>bK eF underlying2 Z (fU _ (by omega) (by omega))) (aX Z Z Z (fun _=>bE Z Z (by omega) (by omega)) (aX Z Z Z (fun _=>qF Z Z ) (dO [false,false,true,true,true] Z (by kernel_rfl) ?_)))))))))
  refine dM bFg Z Z M4 (aGt _ c a b hc ha hb) (fun w5 M5 => ?_)
  refine aB (aC ⟨(dS (bH Z (aK 2 (.int _ _) bB M5 Z Z Z)) (dS (bH Z (aK 1 (.int _ _) bB M5 Z Z Z)) dI)), ?_⟩)
  refine dO [true,true] Z (by kernel_rfl) (dM aNh Z Z M5 (aOn _ (rB c a b) (if hi=true then b.mass else a.mass) (max 1 (a.mass+b.mass)) (by omega) hm0.1 (by omega) (by omega) (by omega) (by omega) (by omega)) (fun w6 M6 => ?_))
  refine aB (aC ⟨dI, ?_⟩)
  refine aX Z Z Z (fun _=>aH (.tuple (List.toArray _)) Z) (aX Z Z Z (fun _=>bJ (.int _ _) Z Z) (aX Z Z Z (fun _=>bJ (.int _ _) Z Z) (nV Z Z Z (nV Z Z Z (bS (aC (aE (aA (aT Z Z (bL Z Z (aB (aC (aR (cF (.int _ _) Z ?_))))))))))))))
  exact ⟨Z,M6.below⟩
 ·refine aM (aC (aE (gJ [(0,1),(1,1),(2,1),(4,0),(5,0),(6,0),(7,1),(8,0),(9,0),(10,1),(11,0),(12,0),(13,0),(3,2),(14,2),(15,0),(16,0),(17,0),(18,0),(19,0)] mixed M3 Z (by kernel_rfl) (fun w7 M7=>(bQ Z Z Z (aV 0 fL M7 Z Z Z) (bQ Z Z Z (aV 1 bR M7 Z Z Z) (bQ Z Z Z (aV 2 bR M7 Z Z Z) (eG Z Z Z (aX Z Z Z (fun _=>bK eF underlying2 Z (fU _ (by omega) (by omega))) (dX 23 (.int .i64 (if hi=true then b.mass else a.mass)) (iE (by rw [h14];rfl)) (aX Z Z Z (fun _=>aD 4 eS Z) ?_)))))))))))
  refine bQ Z Z Z (aK 1 (.int _ _) bB M7 Z Z Z) (aX Z Z Z (fun _=>bK eF underlying2 Z (fU _ (by omega) (by omega))) (aX Z Z Z (fun _=>aD 4 eS Z) (bQ Z Z Z (aK 2 (.int _ _) bB M7 Z Z Z) (aX Z Z Z (fun _=>bK eF underlying2 Z (fU _ (by omega) (by omega))) (aX Z Z Z (fun _=>bE Z Z (by omega) (by omega)) (aX Z Z Z (fun _=>qF Z Z ) (dO [false,false,true,true,true] Z (by kernel_rfl) (dM bFg Z Z M7 (aGt _ c a b hc ha hb) (fun w8 M8 => ?_)))))))))
  refine aB (aC ⟨(dS (bH Z (aK 2 (.int _ _) bB M8 Z Z Z)) (dS (bH Z (aK 1 (.int _ _) bB M8 Z Z Z)) dI)), ?_⟩)
  refine dO [true,true] Z (by kernel_rfl) (dM aNh Z Z M8 (aOn _ (rB c a b) (if hi=true then b.mass else a.mass) (max 1 (a.mass+b.mass)) (by omega) hm0.1 (by omega) (by omega) (by omega) (by omega) (by omega)) (fun w9 M9 => ?_))
  refine aB (aC ⟨dI, ?_⟩)
  refine aX Z Z Z (fun _=>aH (.tuple (List.toArray _)) Z) (aX Z Z Z (fun _=>bJ (.int _ _) Z Z) (aX Z Z Z (fun _=>bJ (.int _ _) Z Z) (nV Z Z Z (nV Z Z Z (bS (aC (aE (aA (aT Z Z (bL Z Z (aB (aC (aR (cF (.int _ _) Z ?_))))))))))))))
  exact ⟨Z,M9.below⟩
theorem aGu (w:World) (bo bk:Nat) (cn:Con) (q:Row) (l:List (Int × Int)) (hq:bA 177 2 q.A q.n q.c ((l).map cT) q.e) (p:Nat) (s z:Int) (f:Int × Int) (hp:l[p]? = some f) (hs:0≤s∧s≤1073741824) (hz:z=1∨z = -1) (hc:Okn cn) (hf:(-1152921504606846976≤f.1∧f.1≤1152921504606846976) ∧ -1152921504606846976≤f.2∧f.2≤1152921504606846976) (hO:Own [(some bo,bc [.slice q.A q.n q.c] 127),q.e,(some bk,bc (cQ cn) 211)] w) :
  Calls prog 162 #[.int .i64 (p:Int),.int .i64 s,.int .i64 z,.pointer (some ⟨bo,0,none⟩),.pointer (some ⟨bk,0,none⟩)] w (gY (fun v w'=>v=.tuple #[]∧∃ e:eQ,bA 177 2 q.A q.n q.c ((l.set p (aTk s z cn f)).map cT) e∧Mem w (cD [(some bo,bc [.slice q.A q.n q.c] 127),q.e,(some bk,bc (cQ cn) 211)]) [(some bo,bc [.slice q.A q.n q.c] 127),e,(some bk,bc (cQ cn) 211)] w')):=by
 have hcx:=hc.x
 have hcy:=hc.y
 have hl:l.length=q.n:=by simpa using hq.1
 have hpl:=(List.getElem?_eq_some_iff.1 hp).1
 have r1:=nO hs hc.x
 have r2:=nO hs hc.y
 have hp2:(l.set p (f.1+z*(s*cn.nx / 65536),f.2))[p]? = some (f.1+z*(s*cn.nx / 65536),f.2):=by rw [List.getElem?_set_self hpl]
 have z1 : -1073741824≤z*(s*cn.nx / 65536)∧z*(s*cn.nx / 65536)≤1073741824:=by rcases hz with rfl | rfl <;> omega
 have z2 : -1073741824≤z*(s*cn.ny / 65536)∧z*(s*cn.ny / 65536)≤1073741824:=by rcases hz with rfl | rfl <;> omega
 refine aI #[] 42 func162 Z results162 ntmps162 Z ?_
 have M0:=hO.mem
 refine aE (gJ [(0,1),(1,0),(2,1),(3,1),(4,1),(5,0),(6,0),(7,0),(8,0),(9,1),(10,0),(11,0),(12,0),(13,0),(14,0),(15,1),(16,1),(17,2)] mixed M0 Z (by kernel_rfl) (fun w1 M1=>(bQ Z Z Z (aK 0 (.slice _ _ _) aDe M1 Z Z Z) (eG Z Z Z (bQ Z Z Z (bG (p) aIx Z Z Z ((hq.rd M1 (aN (i:=1) Z)).below_len (aG cT hp)) ((hq.rd M1 (aN (i:=1) Z)).someK (aG cT hp))) (bQ Z Z Z (aU 0 aHf (hq.rd M1 (aN (i:=1) Z)) (jD ((hq.rd M1 (aN (i:=1) Z)).below_len (aG cT hp))) Z) ?_))))))
 refine bQ Z Z Z (dR (o:=0) (.int _ _) kI (hq.rd M1 (aN (i:=1) Z)) (aG cT hp) Z Z) (eG Z Z Z (eG Z Z Z (aX Z Z Z (fun _=>aD 2 jB Z) (aX Z Z Z (fun _=>aD 0 cY Z) (bQ Z Z Z (aK 2 (.int _ _) bB M1 Z Z Z) (aX Z Z Z (fun _=>bK eF underlying2 Z (fU _ (by omega) (by omega))) (aX Z Z Z (fun _=>fO Z Z (by omega) (by omega)) (aX Z Z Z (fun _=>lH Z Z (by decide)) (dX 20 (.int .i64 (s*cn.nx / 65536)) (iE (sB _)) (aX Z Z Z (fun _=>fO Z Z (by omega) (by omega)) ?_))))))))))
 refine aX Z Z Z (fun _=>bE Z Z (by omega) (by omega)) (bQ Z Z Z (bG (p) aIx Z Z Z ((hq.rd M1 (aN (i:=1) Z)).below_len (aG cT hp)) ((hq.rd M1 (aN (i:=1) Z)).someK (aG cT hp))) (bQ Z Z Z (aU 0 aHf (hq.rd M1 (aN (i:=1) Z)) (jD ((hq.rd M1 (aN (i:=1) Z)).below_len (aG cT hp))) Z) (dO [true,true,true,true,true,true,true] Z (by kernel_rfl) (aFz (o:=0) 1 (.int _ _) kI M1 Z hq (aG cT hp) Z Z Z Z Z (fun e2 w2 hR2 M2 => ?_)))))
 have hQ2:=hR2.mapSet (f:=cT) (x:=(f.1+z*(s*cn.nx / 65536),f.2)) rfl
 refine aB (aC ⟨dI, ?_⟩)
 refine bS (aC (gJ [(0,1),(1,0),(2,1),(3,1),(4,1),(5,0),(6,0),(7,0),(8,0),(9,1),(10,0),(11,0),(12,0),(13,0),(14,0),(15,1),(16,1),(17,2)] mixed M2 Z (by kernel_rfl) (fun w3 M3=>(bQ Z Z Z (aK 0 (.slice _ _ _) aDe M3 Z Z Z) (eG Z Z Z (bQ Z Z Z (bG (p) aIx Z Z Z ((hQ2.rd M3 (aN (i:=1) Z)).below_len (aG cT hp2)) ((hQ2.rd M3 (aN (i:=1) Z)).someK (aG cT hp2))) (bQ Z Z Z (aU 1 aHg (hQ2.rd M3 (aN (i:=1) Z)) (jD ((hQ2.rd M3 (aN (i:=1) Z)).below_len (aG cT hp2))) Z) ?_)))))))
 refine bQ Z Z Z (dR (o:=1) (.int _ _) kI (hQ2.rd M3 (aN (i:=1) Z)) (aG cT hp2) Z Z) (eG Z Z Z (eG Z Z Z (aX Z Z Z (fun _=>aD 2 jB Z) (aX Z Z Z (fun _=>aD 1 cW Z) (bQ Z Z Z (aK 2 (.int _ _) bB M3 Z Z Z) (aX Z Z Z (fun _=>bK eF underlying2 Z (fU _ (by omega) (by omega))) (aX Z Z Z (fun _=>fO Z Z (by omega) (by omega)) (aX Z Z Z (fun _=>lH Z Z (by decide)) (dX 37 (.int .i64 (s*cn.ny / 65536)) (iE (sB _)) (aX Z Z Z (fun _=>fO Z Z (by omega) (by omega)) ?_))))))))))
 refine aX Z Z Z (fun _=>bE Z Z (by omega) (by omega)) (bQ Z Z Z (bG (p) aIx Z Z Z ((hQ2.rd M3 (aN (i:=1) Z)).below_len (aG cT hp2)) ((hQ2.rd M3 (aN (i:=1) Z)).someK (aG cT hp2))) (bQ Z Z Z (aU 1 aHg (hQ2.rd M3 (aN (i:=1) Z)) (jD ((hQ2.rd M3 (aN (i:=1) Z)).below_len (aG cT hp2))) Z) (dO [true,true,true,true,true,true,true] Z (by kernel_rfl) (aFz (o:=1) 1 (.int _ _) kI M3 Z hQ2 (aG cT hp2) Z Z Z Z Z (fun e4 w4 hR4 M4 => ?_)))))
 have hQ4:=hR4.mapSet (f:=cT) (x:=aTk s z cn f) rfl
 rw [List.set_set] at hQ4
 refine aB (aC ⟨dI, ?_⟩)
 refine bS (lF ?_)
 exact ⟨Z,e4,hQ4,M4⟩
theorem Mem.swap2 {w0 w:World} {X:List Nat} {a b:eQ} (M:Mem w0 X [a,b] w):Mem w0 X [b,a] w:=M.perm (List.Perm.swap b a [])
theorem aFv {xs:List Body} {cs:List Con} {n:Nat} (hs:dD xs) (hb:∀ b∈xs,Okb b) (hcs:∀ c∈cs,OkC xs c) (hn:cs.length=n) (hl:n≤1073741824) (k:Nat) {b:Body} (h:b∈xs):(-1152921504606846976≤(lI xs (cs.take k) b).1∧(lI xs (cs.take k) b).1≤1152921504606846976) ∧ -1152921504606846976≤(lI xs (cs.take k) b).2∧(lI xs (cs.take k) b).2≤1152921504606846976:=by
 have ht:(cs.take k).length≤cs.length:=by rw [List.length_take];omega
 have h1:=aTj (cs:=cs.take k) (g:=(·.nx)) hs hb (fun c h=>hcs c (List.mem_of_mem_take h)) (fun c h=>(hcs c (List.mem_of_mem_take h)).n.x) h
 have h2:=aTj (cs:=cs.take k) (g:=(·.ny)) hs hb (fun c h=>hcs c (List.mem_of_mem_take h)) (fun c h=>(hcs c (List.mem_of_mem_take h)).n.y) h
 unfold lI
 simp only
 omega
theorem aVc (w:World) (A:Option Addr) (n c:Nat) (xs:List Body) (R:Rd w 10 A n (xs.map aF)) (hs:dD xs) (hb:∀ b∈xs,Okb b) (hn:n≤1048576) (B:Option Addr) (mc c':Nat) (cs:List Con) (R':Rd w 5 B mc (cs.map cQ)) (hcs:∀ c∈cs,OkC xs c) (hmc:mc≤1073741824) :
  Calls prog 147 #[.slice A n c,.slice B mc c'] w (gY (fun v w'=>∃ r:Row,v=.slice r.A r.n r.c∧bA 177 2 r.A r.n r.c ((xs.map (lI xs cs)).map cT) r.e∧Mem w [] [r.e] w')):=by
 have hlen:xs.length=n:=by simpa using R.len
 have hbd:=R.bound
 have hclen:cs.length=mc:=by simpa using R'.len
 have hbd':=R'.bound
 have hz0:List.replicate n ([.int .i64 0,.int .i64 0]:List Value)=(xs.map (lI xs (cs.take 0))).map cT:=by rw [bNu,aZo hlen ((0,0):Int × Int)];exact congrArg (List.map cT) (List.map_congr_left (fun b _=>Prod.ext (xU xs cs (·.nx) b).symm (xU xs cs (·.ny) b).symm))
 refine aI #[.tmp 4] 67 func147 Z results147 ntmps147 Z ?_
 have M0:=Mem.refl w
 refine aE (aA (eI Z Z (aB (aC (aE (aA (dJ Z Z (wq (bW underlying29 Z) Z (oI (n) [.int .i64 0,.int .i64 0] aIx bOv Z M0 Z Z Z Z Z Z (by omega) (by omega) (fun b1 w1 M1 => ?_))))))))))
 have hL15:=lV (T:=177) (sz:=2) (b:=b1) (nn:=n) (List.replicate n [.int .i64 0,.int .i64 0]) (fun l hl=>by rw [List.eq_of_mem_replicate hl];rfl) (by simp) (by omega)
 rw [hz0] at hL15
 rw [hz0] at M1
 refine aO bOt M1 Z Z (fun b2 w2 M2=>(dA 1 (.slice _ _ _) aDe M2 Z Z Z Z Z Z (fun w3 M3=>(aB (aC (aE (aE (aA ?_))))))))
 have M4:Mem _ _ [_,_] _:=Mem.swap2 M3
 refine dJ Z Z (wq (bW underlying166 Z) Z (aT Z Z (aB (aC (aS (dK (σ:=Nat × eQ) [0,4,5,16,17] (fun (k,e)=>[(18,.int .i64 (k:Int))]) (fun (k,e) w'=>(k≤mc∧bA 177 2 (some ⟨b1,0,none⟩) n n ((xs.map (lI xs (cs.take k))).map cT) e)∧Mem w [] [(some b2,bc [.slice (some ⟨b1,0,none⟩) n n] 127),e] w') (fun (k,e)=>mc - k) (0,(some b1,bc ((xs.map (lI xs (cs.take 0))).map cT).flatten 177)) (bI Z eC) (⟨⟨by omega,hL15⟩,M4⟩) ?_))))))
 rintro ⟨k,e⟩ ρ5 w5 ⟨⟨hk,hq⟩,hM5⟩
 refine aE (aA (cV Z Z Z Z (aB (aC (aE ?_)))))
 refine aW Z (fun h19 => ?_) (fun h19 => ?_)
 ·obtain ⟨cn,hcn⟩:=cG (xs:=cs) (k:=k) hclen (by omega)
  have hc:=hcs cn (List.mem_of_getElem? hcn)
  obtain ⟨pa,xa,hxa,hka,hla,hba,hma⟩:=xI hs hc.l
  obtain ⟨pb,xb,hxb,hkb,hlb,hbb,hmb⟩:=xI hs hc.h
  have hoa:=hb xa hma
  have hob:=hb xb hmb
  have hne:=hc.ne
  have ma:=hoa.m
  have mb:=hob.m
  have hpab:pa≠pb:=fun g=>by subst g;rw [hxa] at hxb;injection hxb with hxb;subst hxb;omega
  refine aM (aC (aE (aS (aE (aA (wq (bG (k) vD Z Z Z ((R'.mem hM5).below_len (aG cQ hcn)) ((R'.mem hM5).someK (aG cQ hcn))) Z (wq (dQ _ fL (R'.mem hM5) (aG cQ hcn) Z) Z (aO oK hM5 Z Z (fun b6 w6 M6=>(bC 2 _ fL M6 Z Z Z Z Z (aP Z) Z (fun w7 M7=>(aB (aC (aE (aA (dJ Z Z (wq (aD 0 gG Z) Z (wq (aD 0 iI Z) Z (wq (aK 2 (.int _ _) bZ M7 Z Z Z) Z (dM aNg Z Z M7 (yA _ cn.low _ _ _ xs (R.mem M7) hs) (fun w8 M8 => ?_)))))))))))))))))))))
  refine wq (aH (.tuple (List.toArray _)) Z) Z (wq (bJ (.int _ _) Z Z) Z (aL 28 (.int .i64 (pa:Int)) (iE (by rw [hla])) (wq (bJ (.bool (decide _)) Z Z) Z (bL Z Z (wq (aJ (.bool (decide _)) Z) Z (aB (aC (aE (aA (dJ Z Z (wq (aD 0 gG Z) Z (wq (aD 1 lG Z) Z (wq (aK 2 (.int _ _) bZ M8 Z Z Z) Z (dM aNg Z Z M8 (yA _ cn.high _ _ _ xs (R.mem M8) hs) (fun w9 M9=>(wq (aH (.tuple (List.toArray _)) Z) Z (wq (bJ (.int _ _) Z Z) Z (aL 36 (.int .i64 (pb:Int)) (iE (by rw [hlb])) ?_))))))))))))))))))
  refine wq (bJ (.bool (decide _)) Z Z) Z (bL Z Z (wq (aJ (.bool (decide _)) Z) Z (aB (aC (aE (aA (wq (eB [] [.pointer _,.pointer _] Z Z) Z (wq (aJ (.func _ _ _) Z) Z (aB (aC (aE (gJ [(0,0),(1,0),(2,1),(3,0),(4,0),(5,1),(6,1),(7,0),(8,0),(9,1),(10,1),(11,2),(12,2)] mixed M9 Z (by kernel_rfl) (fun w10 M10=>(aX Z Z Z (fun _=>aH (.func _ _ _) Z) (eG Z Z Z (bQ Z Z Z (aV 2 fL M10 Z Z Z) (kB Z Z Z (eG Z Z Z (bQ Z Z Z (bG (pa) dU Z Z Z ((R.mem M10).below_len (aG aF hxa)) ((R.mem M10).someK (aG aF hxa))) ?_)))))))))))))))))))
  refine bQ Z Z Z (dQ _ bR (R.mem M10) (aG aF hxa) Z) (kB Z Z Z (eG Z Z Z (bQ Z Z Z (bG (pb) dU Z Z Z ((R.mem M10).below_len (aG aF hxb)) ((R.mem M10).someK (aG aF hxb))) (bQ Z Z Z (dQ _ bR (R.mem M10) (aG aF hxb) Z) (dO [true,true,true,true,true] Z (by kernel_rfl) (dM bFc Z Z M10 (aLg _ cn xa xb hc.n hoa hob false) (fun w11 M11 => ?_)))))))
  refine aB (aC ⟨dI, ?_⟩)
  refine dX 50 (.int .i64 (sZ cn xa xb xa.mass)) Z (dO [] Z (by kernel_rfl) (eJ bFb Z Z (aGu _ b2 b6 cn ⟨some ⟨b1,0,none⟩,n,n,e⟩ (xs.map (lI xs (cs.take k))) hq pa (sZ cn xa xb xa.mass) (-1) (lI xs (cs.take k) xa) (aG _ hxa) (aDl hc.n (by omega)) (.inr Z) hc.n (aFv hs hb hcs hclen hmc k hma) (M11.ownSeg 0 3)) ?_))
  rintro v12 w12 ⟨rfl,e1,hq1,hM12⟩
  have M12:Mem _ _ [_,_,_] _:=M11.seg 0 3 hM12
  refine aB (aC ⟨dI, ?_⟩)
  refine bS (aC (gJ [(0,0),(1,0),(2,1),(3,0),(4,0),(5,1),(6,1),(7,0),(8,0),(9,1),(10,1),(11,2),(12,2)] mixed M12 Z (by kernel_rfl) (fun w13 M13=>(aX Z Z Z (fun _=>aH (.func _ _ _) Z) (eG Z Z Z (bQ Z Z Z (aV 2 fL M13 Z Z Z) (kB Z Z Z (eG Z Z Z (bQ Z Z Z (bG (pa) dU Z Z Z ((R.mem M13).below_len (aG aF hxa)) ((R.mem M13).someK (aG aF hxa))) (bQ Z Z Z (dQ _ bR (R.mem M13) (aG aF hxa) Z) (kB Z Z Z (eG Z Z Z (bQ Z Z Z (bG (pb) dU Z Z Z ((R.mem M13).below_len (aG aF hxb)) ((R.mem M13).someK (aG aF hxb))) ?_)))))))))))))
  refine bQ Z Z Z (dQ _ bR (R.mem M13) (aG aF hxb) Z) (dO [true,true,true,true,true] Z (by kernel_rfl) (dM bFc Z Z M13 (aLg _ cn xa xb hc.n hoa hob true) (fun w14 M14 => ?_)))
  refine aB (aC ⟨dI, ?_⟩)
  refine dX 63 (.int .i64 (sZ cn xa xb xb.mass)) Z (dO [] Z (by kernel_rfl) (eJ bFb Z Z (aGu _ b2 b6 cn ⟨some ⟨b1,0,none⟩,n,n,e1⟩ _ hq1 pb (sZ cn xa xb xb.mass) (1) (lI xs (cs.take k) xb) (zI (aG _ hxb) hpab) (aDl hc.n (by omega)) (.inl Z) hc.n (aFv hs hb hcs hclen hmc k hmb) (M14.ownSeg 0 3)) ?_))
  rintro v15 w15 ⟨rfl,e2,hq2,hM15⟩
  have M15:Mem _ _ [_,_,_] _:=M14.seg 0 3 hM15
  refine aB (aC ⟨dI, ?_⟩)
  refine bS (cS (aC (aA (wq (bE Z Z (by omega) (by omega)) Z (aT Z Z (aB ?_))))))
  refine bU (k+1,e2) (bI Z eC) (bX Z (bX Z (bX Z (bX Z (bX Z gR))))) ?_ ?_
  ·exact ⟨⟨by omega,by rw [← bDb hcn,← bOc hs hxa hxb hka hkb hc hba hbb];exact hq2⟩,M15.keep [true,true,false]⟩
  ·(show mc - (k+1) < mc - k;omega)
 ·have hkn:k=mc:=by omega
  rw [List.take_of_length_le (by omega)] at hq
  refine cM (cZ (dF (eL (aC (aE (aA (wq (aK 0 (.slice _ _ _) aDe hM5 Z Z Z) Z (eI Z Z (aB (aC (aR (cF (.slice _ _ _) Z ?_))))))))))))
  exact ⟨⟨(some ⟨b1,0,none⟩),n,n,e⟩,Z,hq,hM5.keep [false,true]⟩
end Go.Proofs.YtaoaknafiegfoaaGreatDoor
