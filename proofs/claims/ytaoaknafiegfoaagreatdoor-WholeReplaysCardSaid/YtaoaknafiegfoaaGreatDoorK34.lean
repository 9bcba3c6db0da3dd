/- Part of the proof of a law of this seat (6 texts). No conditions. -/
import Derived.Test.YtaoaknafiegfoaaGreatDoorK33
import Derived.Test.YtaoaknafiegfoaaGreatDoorK24
set_option linter.unusedVariables false
set_option linter.unusedSimpArgs false
set_option linter.unnecessarySimpa false
set_option maxHeartbeats 100000000
namespace Go.Proofs.YtaoaknafiegfoaaGreatDoor
open Go.Bil
open Go.RowKit (Below)
open Go.Proofs
open Go.Proofs.Tryz
theorem aPt (w:World) (b:Nat) (A:Option Addr) (n c:Nat) (p:Option Nat) (er em:cY) (m:List Body) (hs:StoreIs 39 A n c p er em m) (hO:Own [(some b,bc [.slice A n c,.map p] 107),er,em] w) (x:Body) :
  Calls prog 61 #[.pointer (some ⟨b,0,none⟩),(.agg (aF x).toArray)] w (fE (fun v w'=>v=.int .i64 (lF m x).2∧∃ A' n' c' p' er' em',StoreIs 39 A' n' c' p' er' em' (lF m x).1∧Mem w (bI [(some b,bc [.slice A n c,.map p] 107),er,em]) [(some b,bc [.slice A' n' c',.map p'] 107),er',em'] w')):=by
 have hlen:m.length=n:=by simpa using hs.row.1
 have hcap:=hs.cap
 refine aH #[.tmp 4] 62 func61 Z results61 ntmps61 Z ?_
 have M0:=hO.mem
 refine aD (aA (bH (.agg (.mk _)) M0 Z Z Z (fun b1 w1 M1=>(bP Z Z (aB (aC (aD (aD (aA (wq (aG (.pointer _) Z) Z (wq (eK false underlying162 Z Z) Z (aB (aC (bW Z (aL (aC (aD (aD (aA (wq (bB 3 bU M1 Z Z Z) Z (dI aMo Z Z M1 (sJ _ x) (fun w2 M2=>(bP Z Z (aB (aC (aD (aA (aX Z Z (dB Z Z Z Z (aB (aC ?_)))))))))))))))))))))))))))))))
 refine bA Z (fun h13 => ?_) (fun h13 => ?_)
 ·refine aD (aA (aX Z Z (bP Z Z (aB (aC (aP (cL (cB (.int _ _) Z ?_))))))))
  have ha:lF m x=(m,check x):=by unfold lF;rw [if_pos h13]
  exact ⟨by rw [ha],A,n,c,p,er,em,by rw [ha];exact hs,M2.keep [true,true,true,false]⟩
 ·refine aL (aC (aD (aD (gJ [(0,0),(1,0),(2,0),(3,1),(4,0),(5,1),(6,1),(7,0),(8,0),(9,0),(10,0),(11,0)] mixed M2 Z (by kernel_rfl) (fun w3 M3=>(aU Z Z Z (fun _=>aG (.pointer _) Z) (aU Z Z Z (fun _=>aO Z) (aU Z Z Z (fun _=>aE 1 jI Z) (bS Z Z Z (aK 0 (.map _) nJ M3 Z Z Z) (aU Z Z Z (fun _=>aE 0 fH Z) (bS Z Z Z (aK 3 (.int _ _) cA M3 Z Z Z) (bS Z Z Z (iN (enc:=(Value.int .i64)) 0 2 pW zv3 M3 Z hs.map Z Z) (aU Z Z Z (fun _=>aG (.tuple (List.toArray _)) Z) ?_)))))))))))))
  refine aU Z Z Z (fun _=>bE (.int _ _) Z Z) (aU Z Z Z (fun _=>bE (.bool _) Z Z) (qB Z Z Z (aU Z Z Z (fun _=>aI (.bool _) Z) (bZ (aC (aD (aA (wq (aG (.bool _) Z) Z (aB (aC ?_))))))))))
  refine iG _ Z (fun h25 => ?_) (fun h25 => ?_)
  ·have hf:0≤cI x.key m:=by rw [yR] at h25;exact of_decide_eq_true h25
   refine aD (aA (bP Z Z (aB (aC (aP (cL (cB (.int _ _) Z ?_)))))))
   have ha:lF m x=(m,10):=by unfold lF;rw [if_neg h13,if_pos hf]
   exact ⟨by rw [ha],A,n,c,p,er,em,by rw [ha];exact hs,M3.keep [true,true,true,false]⟩
  ·have hf:¬ (0≤cI x.key m):=fun h=>by rw [yR,decide_eq_true h] at h25;simp at h25
   refine aL (aC (aD (aD (aA (wq (aG (.pointer _) Z) Z (wq (aO Z) Z (wq (aE 0 fF Z) Z (wq (aK 0 (.slice _ _ _) fL M3 Z Z Z) Z (wq (cG underlying29 Z) Z (dB Z Z Z Z (aB (aC ?_))))))))))))
   refine bA Z (fun h31 => ?_) (fun h31 => ?_)
   ·refine aD (aA (bP Z Z (aB (aC (aP (cL (cB (.int _ _) Z ?_)))))))
    have ha:lF m x=(m,12):=by unfold lF;rw [if_neg h13,if_neg hf,if_pos (by omega)]
    exact ⟨by rw [ha],A,n,c,p,er,em,by rw [ha];exact hs,M3.keep [true,true,true,false]⟩
   ·refine aL (aC (aD (aD (aA (wq (aG (.pointer _) Z) Z (wq (aO Z) Z (wq (aE 1 jI Z) Z (wq (aK 0 (.map _) nJ M3 Z Z Z) Z (wq (aLo _ underlying101 Z Z) Z (aB (aC ?_)))))))))))
    refine iG _ Z (fun h36 => ?_) (fun h36 => ?_)
    ·have hpn:p=none:=by cases p <;> simp_all
     have hnone:∀ k,sY m k=(fun _=>none) k:=fun k=>by subst hpn;rcases hs.map with ⟨_,_,h⟩ | ⟨_,_,h,_⟩;exact h k;cases h
     refine aA (wq (aG (.pointer _) Z) Z (kF M3 Z Z (fun b4 w4 M4 => ?_)))
     have M5:=M4.replace (i:=2) (Nat.le_of_ble_eq_true rfl)
     refine wq (aO Z) Z (wq (aE 1 jI Z) Z (dN 0 (.map _) nJ M5 Z Z Z Z Z Z (fun w6 M6=>(aB (aC (aD (gJ [(0,0),(1,0),(2,0),(3,1),(4,0),(5,1),(6,0),(7,0),(8,0),(9,1),(10,0),(11,2)] mixed M6 Z (by kernel_rfl) (fun w7 M7=>(aU Z Z Z (fun _=>aG (.pointer _) Z) (aU Z Z Z (fun _=>aO Z) (aU Z Z Z (fun _=>aE 1 jI Z) (bS Z Z Z (aK 0 (.map _) nJ M7 Z Z Z) (aU Z Z Z (fun _=>aE 0 fH Z) (bS Z Z Z (aK 3 (.int _ _) cA M7 Z Z Z) ?_))))))))))))))
     refine aU Z Z Z (fun _=>aG (.pointer _) Z) (aU Z Z Z (fun _=>aO Z) (aU Z Z Z (fun _=>aE 0 fF Z) (bS Z Z Z (aK 0 (.slice _ _ _) fL M7 Z Z Z) (aU Z Z Z (fun _=>cG underlying29 Z) (dD [true,true,true] Z (by kernel_rfl) (iV (enc:=(Value.int .i64)) 2 pW M7 Z Z ((iT.empty _ _ b4).congr hnone) Z Z Z Z (fun e8 w8 hm8 M8 => ?_)))))))
     refine aB (aC ⟨dE, ?_⟩)
     refine bZ (aC (aD (gJ [(0,0),(1,0),(2,0),(3,0),(4,1),(5,1),(6,2),(7,2),(8,0),(9,0),(10,2)] mixed M8 Z (by kernel_rfl) (fun w9 M9=>(aU Z Z Z (fun _=>aG (.pointer _) Z) (aU Z Z Z (fun _=>aG (.pointer _) Z) (aU Z Z Z (fun _=>aO Z) (aU Z Z Z (fun _=>aE 0 fF Z) (bS Z Z Z (aK 0 (.slice _ _ _) fL M9 Z Z Z) (bS Z Z Z (bB 3 bU M9 Z Z Z) (dD [true,false] Z (by kernel_rfl) (cP [.agg (List.toArray _)] _ Z fC M9 Z Z Z Z (cW Z) (by decide) (fun b10 w10 M10 => ?_)))))))))))))
     refine aB (aC ⟨(eH (bJ Z (aK 0 (.slice _ _ _) fL M10 Z Z Z)) dE), ?_⟩)
     refine dD [true] rfl (by kernel_rfl) (dL 1 [aF x] fC M10 rfl rfl rfl rfl rfl hs.row rfl (by simpa using ⟨nI x,nM x⟩) (cZ.ofMem 4 M10 rfl) (by omega) (fun A11 c11 e11 w11 M11 hR11 => ?_))
     refine aB (aC ⟨dE, ?_⟩)
     refine aU Z Z Z (fun _=>aO Z) (aU Z Z Z (fun _=>aE 0 fF Z) (dD [] Z (by kernel_rfl) (dN 0 (.slice _ _ _) fL M11 Z Z Z Z Z Z (fun w12 M12 => ?_))))
     refine aB (aC ⟨dE, ?_⟩)
     refine bZ (aC (aD (aA (bP Z Z (aB (aC (aP (cB (.int _ _) Z ?_))))))))
     have ha:lF m x=(m++[x],0):=by unfold lF;rw [if_neg h13,if_neg hf,if_neg (by omega)]
     have hall:=aGh (x:=x) ⟨hs.keys,hs.cap,hs.ok⟩
     rw [ha] at hall
     obtain ⟨hk',hc',ho'⟩:=hall
     have hix:=aJl hs.keys (x:=x) (by omega)
     rw [hlen] at hix
     exact ⟨by rw [ha],_,_,_,_,_,_,by rw [ha];exact ⟨(by simpa using hR11),(hm8.congr hix),hk',hc',ho'⟩,M12.keep [true,true,true,false,false]⟩
    ·have hps:p.isSome=true:=by cases p <;> simp_all
     refine aL (aC (aD (gJ [(0,0),(1,0),(2,0),(3,1),(4,0),(5,1),(6,0),(7,0),(8,0),(9,1),(10,0),(11,2)] mixed M3 Z (by kernel_rfl) (fun w13 M13=>(aU Z Z Z (fun _=>aG (.pointer _) Z) (aU Z Z Z (fun _=>aO Z) (aU Z Z Z (fun _=>aE 1 jI Z) (bS Z Z Z (aK 0 (.map _) nJ M13 Z Z Z) (aU Z Z Z (fun _=>aE 0 fH Z) (bS Z Z Z (aK 3 (.int _ _) cA M13 Z Z Z) (aU Z Z Z (fun _=>aG (.pointer _) Z) (aU Z Z Z (fun _=>aO Z) (aU Z Z Z (fun _=>aE 0 fF Z) ?_)))))))))))))
     refine bS Z Z Z (aK 0 (.slice _ _ _) fL M13 Z Z Z) (aU Z Z Z (fun _=>cG underlying29 Z) (dD [true,true,true] Z (by kernel_rfl) (iV (enc:=(Value.int .i64)) 2 pW M13 Z Z hs.map hps Z Z Z (fun e14 w14 hm14 M14 => ?_))))
     refine aB (aC ⟨dE, ?_⟩)
     refine bZ (aC (aD (gJ [(0,0),(1,0),(2,0),(3,0),(4,1),(5,1),(6,2),(7,2),(8,0),(9,0),(10,2)] mixed M14 Z (by kernel_rfl) (fun w15 M15=>(aU Z Z Z (fun _=>aG (.pointer _) Z) (aU Z Z Z (fun _=>aG (.pointer _) Z) (aU Z Z Z (fun _=>aO Z) (aU Z Z Z (fun _=>aE 0 fF Z) (bS Z Z Z (aK 0 (.slice _ _ _) fL M15 Z Z Z) (bS Z Z Z (bB 3 bU M15 Z Z Z) (dD [true,false] Z (by kernel_rfl) (cP [.agg (List.toArray _)] _ Z fC M15 Z Z Z Z (cW Z) (by decide) (fun b16 w16 M16 => ?_)))))))))))))
     refine aB (aC ⟨(eH (bJ Z (aK 0 (.slice _ _ _) fL M16 Z Z Z)) dE), ?_⟩)
     refine dD [true] rfl (by kernel_rfl) (dL 1 [aF x] fC M16 rfl rfl rfl rfl rfl hs.row rfl (by simpa using ⟨nI x,nM x⟩) (cZ.ofMem 4 M16 rfl) (by omega) (fun A17 c17 e17 w17 M17 hR17 => ?_))
     refine aB (aC ⟨dE, ?_⟩)
     refine aU Z Z Z (fun _=>aO Z) (aU Z Z Z (fun _=>aE 0 fF Z) (dD [] Z (by kernel_rfl) (dN 0 (.slice _ _ _) fL M17 Z Z Z Z Z Z (fun w18 M18 => ?_))))
     refine aB (aC ⟨dE, ?_⟩)
     refine bZ (aC (aD (aA (bP Z Z (aB (aC (aP (cB (.int _ _) Z ?_))))))))
     have ha:lF m x=(m++[x],0):=by unfold lF;rw [if_neg h13,if_neg hf,if_neg (by omega)]
     have hall:=aGh (x:=x) ⟨hs.keys,hs.cap,hs.ok⟩
     rw [ha] at hall
     obtain ⟨hk',hc',ho'⟩:=hall
     have hix:=aJl hs.keys (x:=x) (by omega)
     rw [hlen] at hix
     exact ⟨by rw [ha],_,_,_,_,_,_,by rw [ha];exact ⟨(by simpa using hR17),(hm14.congr hix),hk',hc',ho'⟩,M18.keep [true,true,true,false,false]⟩
theorem bDc (w:World) (b:Nat) (A:Option Addr) (n c:Nat) (p:Option Nat) (er em:cY) (m:List Body) (hs:StoreIs 39 A n c p er em m) (hO:Own [(some b,bc [.slice A n c,.map p] 107),er,em] w) (key:Int) :
  Calls prog 117 #[.pointer (some ⟨b,0,none⟩),.int .u32 key] w (fE (fun v w'=>(∃ x,v=.tuple #[.agg (aF x).toArray,.int .i64 (zY m key).2]∧x=(zY m key).1)∧Mem w (bI [(some b,bc [.slice A n c,.map p] 107),er,em]) [(some b,bc [.slice A n c,.map p] 107),er,em] w')):=by
 have hlen:m.length=n:=by simpa using hs.row.1
 have hcap:=hs.cap
 refine aH #[.cell 4 39,.tmp 5] 30 func117 Z results117 ntmps117 Z ?_
 have M0:=hO.mem
 refine aD (aA (aM iD M0 Z Z (fun b1 w1 M1=>(bP Z Z (aB (aC (aD (aD (aA (wq (aG (.pointer _) Z) Z (wq (eK false underlying162 Z Z) Z (aB (aC (bW Z (aL (aC (aD (aA (wq (aG (.pointer _) Z) Z (wq (aO Z) Z (wq (aE 1 jI Z) Z (wq (aK 0 (.map _) nJ M1 Z Z Z) Z (aX Z Z (wq (iN (enc:=(Value.int .i64)) 0 2 pW zv3 M1 Z hs.map Z Z) Z (wq (aG (.tuple (List.toArray _)) Z) Z ?_)))))))))))))))))))))))))
 refine wq (bE (.int _ _) Z Z) Z (wq (bE (.bool _) Z Z) Z (bP Z Z (wq (aI (.bool _) Z) Z (aB (aC (aD (aD (aA (wq (aG (.bool _) Z) Z (wq (gE _ Z Z) Z (aB (aC ?_))))))))))))
 refine iG _ Z (fun h21 => ?_) (fun h21 => ?_)
 ·have hi:sY m key=none:=by cases h:sY m key <;> simp_all
  refine aD (aA (wq (cE [] _ zX Z Z) Z (aZ 3 _ bU M1 Z Z Z Z Z (aQ Z) Z (fun w2 M2=>(bP Z Z (aB (aC (aP (cL (zZ (v2:=.int _ _) 3 bU M2 Z Z Z Z ?_))))))))))
  exact ⟨⟨⟨0,0,0,0,0,0,0,0,0,0⟩,by rw [aDe hi];rfl,by rw [aDe hi]⟩,M2.keep [true,true,true,false]⟩
 ·rcases kE key m with ⟨hi,_⟩ | ⟨i,bi,hbi,hbk,hi⟩
  ·simp [hi] at h21
  refine aL (aC (aD (aA (wq (aG (.pointer _) Z) Z (wq (aO Z) Z (wq (aE 0 fF Z) Z (wq (aK 0 (.slice _ _ _) fL M1 Z Z Z) Z (aX Z Z (wq (bR (i) fC Z Z (by rw [hi];rfl) ((hs.row.rd M1 (aV (i:=1) Z)).below_len (aJ aF hbi)) ((hs.row.rd M1 (aV (i:=1) Z)).someK (aJ aF hbi))) Z (wq (dT _ bU (hs.row.rd M1 (aV (i:=1) Z)) (aJ aF hbi) Z) Z (aZ 3 _ bU M1 Z Z Z Z Z (aQ Z) Z (fun w3 M3=>(bP Z Z (aB (aC (aP (zZ (v2:=.int _ _) 3 bU M3 Z Z Z Z ?_)))))))))))))))))
  exact ⟨⟨bi,by rw [vH hi hbi],by rw [vH hi hbi]⟩,M3.keep [true,true,true,false]⟩
theorem bCm (w:World) (b:Nat) (A:Option Addr) (n c:Nat) (p:Option Nat) (er em:cY) (m:List Body) (hs:StoreIs 39 A n c p er em m) (hO:Own [(some b,bc [.slice A n c,.map p] 107),er,em] w) (x:Body) :
  Calls prog 125 #[.pointer (some ⟨b,0,none⟩),(.agg (aF x).toArray)] w (fE (fun v w'=>v=.int .i64 (pN m x).2∧∃ A' n' c' p' er' em',StoreIs 39 A' n' c' p' er' em' (pN m x).1∧Mem w (bI [(some b,bc [.slice A n c,.map p] 107),er,em]) [(some b,bc [.slice A' n' c',.map p'] 107),er',em'] w')):=by
 have hlen:m.length=n:=by simpa using hs.row.1
 have hcap:=hs.cap
 refine aH #[.tmp 4] 34 func125 Z results125 ntmps125 Z ?_
 have M0:=hO.mem
 refine aD (aA (bH (.agg (.mk _)) M0 Z Z Z (fun b1 w1 M1=>(bP Z Z (aB (aC (aD (aD (aA (wq (aG (.pointer _) Z) Z (wq (eK false underlying162 Z Z) Z (aB (aC (bW Z (aL (aC (aD (aD (aA (wq (bB 3 bU M1 Z Z Z) Z (dI aMo Z Z M1 (sJ _ x) (fun w2 M2=>(bP Z Z (aB (aC (aD (aA (aX Z Z (dB Z Z Z Z (aB (aC ?_)))))))))))))))))))))))))))))))
 refine bA Z (fun h13 => ?_) (fun h13 => ?_)
 ·refine aD (aA (aX Z Z (bP Z Z (aB (aC (aP (cL (cB (.int _ _) Z ?_))))))))
  have ha:pN m x=(m,check x):=by unfold pN;rw [if_pos h13]
  exact ⟨by rw [ha],A,n,c,p,er,em,by rw [ha];exact hs,M2.keep [true,true,true,false]⟩
 ·refine aL (aC (aD (gJ [(0,0),(1,0),(2,0),(3,1),(4,0),(5,1),(6,1),(7,0),(8,0),(9,0),(10,0),(11,0)] mixed M2 Z (by kernel_rfl) (fun w3 M3=>(aU Z Z Z (fun _=>aG (.pointer _) Z) (aU Z Z Z (fun _=>aO Z) (aU Z Z Z (fun _=>aE 1 jI Z) (bS Z Z Z (aK 0 (.map _) nJ M3 Z Z Z) (aU Z Z Z (fun _=>aE 0 fH Z) (bS Z Z Z (aK 3 (.int _ _) cA M3 Z Z Z) (bS Z Z Z (iN (enc:=(Value.int .i64)) 0 2 pW zv3 M3 Z hs.map Z Z) (aU Z Z Z (fun _=>aG (.tuple (List.toArray _)) Z) ?_))))))))))))
  refine aU Z Z Z (fun _=>bE (.int _ _) Z Z) (aU Z Z Z (fun _=>bE (.bool _) Z Z) (qB Z Z Z (aU Z Z Z (fun _=>aI (.bool _) Z) (bZ (aC (aD (aD (aA (wq (aG (.bool _) Z) Z (wq (gE _ Z Z) Z (aB (aC ?_))))))))))))
  refine iG _ Z (fun h26 => ?_) (fun h26 => ?_)
  ·have hi:sY m x.key=none:=by cases h:sY m x.key <;> simp_all
   refine aD (aA (bP Z Z (aB (aC (aP (cL (cB (.int _ _) Z ?_)))))))
   have ha:pN m x=(m,11):=by unfold pN;rw [if_neg h13,if_pos (by rw [jA,hi];decide)]
   exact ⟨by rw [ha],A,n,c,p,er,em,by rw [ha];exact hs,M3.keep [true,true,true,false]⟩
  ·rcases kE x.key m with ⟨hi,_⟩ | ⟨i,bi,hbi,hbk,hi⟩
   ·simp [hi] at h26
   refine aL (aC (aD (gJ [(0,0),(1,0),(2,0),(3,1),(4,0),(5,1),(6,1),(7,2)] mixed M3 Z (by kernel_rfl) (fun w4 M4=>(aU Z Z Z (fun _=>aG (.pointer _) Z) (aU Z Z Z (fun _=>aO Z) (aU Z Z Z (fun _=>aE 0 fF Z) (bS Z Z Z (aK 0 (.slice _ _ _) fL M4 Z Z Z) (gR Z Z Z (bS Z Z Z (bB 3 bU M4 Z Z Z) (bS Z Z Z (bR (i) fC Z Z (by rw [hi];rfl) ((hs.row.rd M4 (aV (i:=1) Z)).below_len (aJ aF hbi)) ((hs.row.rd M4 (aV (i:=1) Z)).someK (aJ aF hbi))) ?_)))))))))))
   refine dD [true,true,true] Z (by kernel_rfl) (aFb 1 _ bU M4 Z hs.row (aJ aF hbi) Z Z Z Z (aQ Z) (fun e5 w5 hR5 M5 => ?_))
   have hQ5:=hR5.mapSet (f:=aF) (x:=x) rfl
   refine aB (aC ⟨dE, ?_⟩)
   refine bZ (aC (aD (aA (bP Z Z (aB (aC (aP (cB (.int _ _) Z ?_))))))))
   have ha:pN m x=(m.set i x,0):=by unfold pN;rw [if_neg h13,jA,hi];simp only [];rw [if_neg (by omega),Int.toNat_natCast]
   exact ⟨by rw [ha],_,_,_,_,_,_,by rw [ha];exact hs.put hbi hbk.symm (by omega) hQ5,M5.keep [true,true,true,false]⟩
theorem aLk (w:World) (b:Nat) (A:Option Addr) (n c:Nat) (p:Option Nat) (er em:cY) (m:List Body) (hs:StoreIs 39 A n c p er em m) (hO:Own [(some b,bc [.slice A n c,.map p] 107),er,em] w) (key:Int) :
  Calls prog 122 #[.pointer (some ⟨b,0,none⟩),.int .u32 key] w (fE (fun v w'=>v=.int .i64 (jJ m key).2∧∃ A' n' c' p' er' em',StoreIs 39 A' n' c' p' er' em' (jJ m key).1∧Mem w (bI [(some b,bc [.slice A n c,.map p] 107),er,em]) [(some b,bc [.slice A' n' c',.map p'] 107),er',em'] w')):=by
 have hlen:m.length=n:=by simpa using hs.row.1
 have hcap:=hs.cap
 refine aH #[.tmp 4] 67 func122 Z results122 ntmps122 Z ?_
 have M0:=hO.mem
 refine aD (aA (bP Z Z (aB (aC (aD (aD (aA (wq (aG (.pointer _) Z) Z (wq (eK false underlying162 Z Z) Z (aB (aC (bW Z (aL (aC (aD (aA (wq (aG (.pointer _) Z) Z (wq (aO Z) Z (wq (aE 1 jI Z) Z (wq (aK 0 (.map _) nJ M0 Z Z Z) Z (aX Z Z (wq (iN (enc:=(Value.int .i64)) 0 2 pW zv3 M0 Z hs.map Z Z) Z (wq (aG (.tuple (List.toArray _)) Z) Z (wq (bE (.int _ _) Z Z) Z ?_))))))))))))))))))))))))
 refine wq (bE (.bool _) Z Z) Z (bP Z Z (wq (aI (.bool _) Z) Z (aB (aC (aD (aD (aA (wq (aG (.bool _) Z) Z (wq (gE _ Z Z) Z (aB (aC ?_)))))))))))
 refine iG _ Z (fun h20 => ?_) (fun h20 => ?_)
 ·have hi:sY m key=none:=by cases h:sY m key <;> simp_all
  refine aD (aA (bP Z Z (aB (aC (aP (cL (cB (.int _ _) Z ?_)))))))
  have ha:jJ m key=(m,11):=by unfold jJ;rw [if_pos (by rw [jA,hi];decide)]
  exact ⟨by rw [ha],A,n,c,p,er,em,by rw [ha];exact hs,M0.keep [true,true,true]⟩
 ·rcases kE key m with ⟨hi,_⟩ | ⟨i,bi,hbi,hbk,hi⟩
  ·simp [hi] at h20
  have hilt:i < m.length:=(List.getElem?_eq_some_iff.1 hbi).1
  obtain ⟨bl,hbl⟩:=cF (xs:=m) (k:=n - 1) rfl (by omega)
  have hps:p.isSome=true:=hs.map.isSome hi
  refine aL (aC (aD (aA (wq (aG (.pointer _) Z) Z (wq (aO Z) Z (wq (aE 0 fF Z) Z (wq (aK 0 (.slice _ _ _) fL M0 Z Z Z) Z (wq (cG underlying29 Z) Z (wq (lY Z Z (by omega) (by omega)) Z (bP Z Z (aB (aC (aD (gJ [(0,0),(1,0),(2,0),(3,1),(4,0),(5,0),(6,0),(7,0),(8,1),(9,0),(10,1),(11,1),(12,1),(13,2)] mixed M0 Z (by kernel_rfl) (fun w1 M1=>(aU Z Z Z (fun _=>aG (.pointer _) Z) (aU Z Z Z (fun _=>aO Z) (aU Z Z Z (fun _=>aE 0 fF Z) ?_))))))))))))))))))
  refine bS Z Z Z (aK 0 (.slice _ _ _) fL M1 Z Z Z) (gR Z Z Z (aU Z Z Z (fun _=>aG (.pointer _) Z) (aU Z Z Z (fun _=>aO Z) (aU Z Z Z (fun _=>aE 0 fF Z) (bS Z Z Z (aK 0 (.slice _ _ _) fL M1 Z Z Z) (gR Z Z Z (bS Z Z Z (bR (n - 1) fC Z Z (by omega) ((hs.row.rd M1 (aV (i:=1) Z)).below_len (aJ aF hbl)) ((hs.row.rd M1 (aV (i:=1) Z)).someK (aJ aF hbl))) (bS Z Z Z (dT _ bU (hs.row.rd M1 (aV (i:=1) Z)) (aJ aF hbl) Z) ?_))))))))
  refine bS Z Z Z (bR (i) fC Z Z (by rw [hi];rfl) ((hs.row.rd M1 (aV (i:=1) Z)).below_len (aJ aF hbi)) ((hs.row.rd M1 (aV (i:=1) Z)).someK (aJ aF hbi))) (dD [true,true,true,true,true] Z (by kernel_rfl) (aFb 1 _ bU M1 Z hs.row (aJ aF hbi) Z Z Z Z (aQ Z) (fun e2 w2 hR2 M2 => ?_)))
  have hQ2:=hR2.mapSet (f:=aF) (x:=bl) rfl
  refine aB (aC ⟨dE, ?_⟩)
  refine bZ (aC (aD (gJ [(0,0),(1,0),(2,0),(3,1),(4,0),(5,0),(6,0),(7,1),(8,0),(9,1),(10,1),(11,1),(12,0),(13,2)] mixed M2 Z (by kernel_rfl) (fun w3 M3=>(aU Z Z Z (fun _=>aG (.pointer _) Z) (aU Z Z Z (fun _=>aO Z) (aU Z Z Z (fun _=>aE 1 jI Z) (bS Z Z Z (aK 0 (.map _) nJ M3 Z Z Z) (aU Z Z Z (fun _=>aG (.pointer _) Z) (aU Z Z Z (fun _=>aO Z) (aU Z Z Z (fun _=>aE 0 fF Z) (bS Z Z Z (aK 0 (.slice _ _ _) fL M3 Z Z Z) ?_))))))))))))
  refine gR Z Z Z ?_
  refine bS Z Z Z (bR (i) fC Z Z (by rw [hi];rfl) ((hQ2.rd M3 (aV (i:=1) Z)).below_len (aJ aF (by rw [List.getElem?_set_self hilt]:(m.set i bl)[i]? = some bl))) ((hQ2.rd M3 (aV (i:=1) Z)).someK (aJ aF (by rw [List.getElem?_set_self hilt]:(m.set i bl)[i]? = some bl)))) ?_
  refine bS Z Z Z (bO 0 fH (hQ2.rd M3 (aV (i:=1) Z)) (qR ((hQ2.rd M3 (aV (i:=1) Z)).below_len (aJ aF (by rw [List.getElem?_set_self hilt]:(m.set i bl)[i]? = some bl)))) Z) ?_
  refine bS Z Z Z (eP (o:=0) (.int _ _) cA (hQ2.rd M3 (aV (i:=1) Z)) (aJ aF (by rw [List.getElem?_set_self hilt]:(m.set i bl)[i]? = some bl)) Z Z) ?_
  refine gR Z Z Z (dD [true,true,true,true,true] Z (by kernel_rfl) (iV (enc:=(Value.int .i64)) 2 pW M3 Z Z hs.map hps Z Z Z (fun e4 w4 hm4 M4 => ?_)))
  refine aB (aC ⟨dE, ?_⟩)
  refine bZ (aC (aD (aA (wq (aG (.pointer _) Z) Z (wq (aG (.pointer _) Z) Z (wq (aO Z) Z (wq (aE 0 fF Z) Z (wq (aK 0 (.slice _ _ _) fL M4 Z Z Z) Z (aX Z Z (wq (fI (0) (((n:Int) - 1)) fC Z Z ⟨_,Z⟩ (by decide) (by omega) (by have:=hs.row.slice;omega)) Z (wq (aO Z) Z (wq (aE 0 fF Z) Z (dN 0 (.slice _ _ _) fL M4 Z Z Z Z Z Z (fun w5 M5=>(aB (aC (aD (aA (wq (aG (.pointer _) Z) Z (wq (aO Z) Z (wq (aE 1 jI Z) Z ?_)))))))))))))))))))))
  refine wq (aK 0 (.map _) nJ M5 Z Z Z) Z (aX Z Z (aSg (enc:=(Value.int .i64)) 2 pW M5 Z Z hm4 hps Z Z (fun e6 w6 hm6 M6=>(aB (aC (aD (aA (bP Z Z (aB (aC (aP (cB (.int _ _) Z ?_))))))))))))
  have ha:jJ m key=(vC m i,0):=by unfold jJ;rw [jA,hi];simp only [];rw [if_neg (by omega),Int.toNat_natCast]
  have hn1:((n:Int) - 1).toNat=n - 1:=by omega
  exact ⟨by rw [ha],_,_,_,_,_,_,by rw [ha];exact hs.cut hbi hbk (by rw [hlen];exact hbl) (by rw [hi];rfl) (by omega) hQ2 hm6,M6.keep [true,true,true]⟩
theorem aNx (w:World) (b:Nat) (A:Option Addr) (n c:Nat) (p:Option Nat) (er em:cY) (m:List Body) (hs:StoreIs 39 A n c p er em m) (hO:Own [(some b,bc [.slice A n c,.map p] 107),er,em] w) :
  Calls prog 68 #[.pointer (some ⟨b,0,none⟩)] w (fE (fun v w'=>∃ A' n' c' e',v=.slice A' n' c'∧aR 39 10 A' n' c' ((xI m).map aF) e'∧Mem w (bI [(some b,bc [.slice A n c,.map p] 107),er,em]) [(some b,bc [.slice A n c,.map p] 107),er,em,e'] w')):=by
 have hlen:m.length=n:=by simpa using hs.row.1
 have hcap:=hs.cap
 refine aH #[.tmp 2] 14 func68 Z results68 ntmps68 Z ?_
 have M0:=hO.mem
 refine aD (aA (eX Z Z (aB (aC (aD (aD (aA (wq (aG (.pointer _) Z) Z (wq (eK false underlying162 Z Z) Z (aB (aC (bW Z (aL (aC (aD (aA (wq (aG (.pointer _) Z) Z (wq (aO Z) Z (wq (aE 0 fF Z) Z (wq (aK 0 (.slice _ _ _) fL M0 Z Z Z) Z (dU bMx Z Z (aCq _ _ _ _ _ (hs.row.rd M0 (aV (i:=1) Z)) (aLn m) (by omega)) ?_)))))))))))))))))))))
 rintro v1 w1 ⟨A1,n1,c1,e1,rfl,hR1,hM1,_⟩
 have M1:Mem _ _ [_,_,_,_] _:=M0.call0 hM1
 have hn1:n1=m.length:=by simpa using hR1.1.symm
 refine eX Z Z (aB (aC (aD (aA (dZ Z Z (dU bHp Z Z (xL 115 bFx xQ _ _ _ _ m _ hR1 (M1.ownAt (i:=3) Z) (by omega)) ?_))))))
 rintro v2 w2 ⟨rfl,ys2,e2,hp2,hu2,hR2,hM2⟩
 have M2:Mem _ _ [_,_,_,_] _:=M1.seg 3 1 hM2
 have hys:ys2=xI m:=aSu hu2 (aAj m) (hp2.trans (mK m).symm) (hs.keys.perm hp2)
 rw [hys] at hR2
 refine aB (aC (aD (aA (dZ Z Z (eX Z Z (aB (aC (aP (cB (.slice _ _ _) Z ?_)))))))))
 exact ⟨_,_,_,_,Z,hR2,M2⟩
theorem iX {x:Int} (h:0≤x∧x≤4294967295):IntKind.wrap .i32 x=nR x:=by
 unfold nR
 simp [IntKind.wrap,IntKind.bits,IntKind.signed]
 split <;> split <;> omega
theorem aDg (w:World) (r:Row) (xs:List Int) (hr:aR 5 1 r.A r.n r.c ((xs).map bG) r.e) (n:Int) (hn:0≤n∧n≤4294967295) (hl:r.n≤1048576) (hO:Own [r.e] w) :
  Calls prog 100 #[.slice r.A r.n r.c,.int .u32 n] w (fE (fun v w'=>∃ q:Row,v=.slice q.A q.n q.c∧q.n=r.n+4∧aR 5 1 q.A q.n q.c ((xs++cD n).map bG) q.e∧Mem w (bI [r.e]) [q.e] w')):=by
 refine aH #[.tmp 4] 19 func100 Z results100 ntmps100 Z ?_
 have M0:=hO.mem
 refine aD (aA (eX Z Z (aB (aC (aD (aA (dZ Z Z (aX Z Z (wq (hJ Z Z (by decide)) Z (aS 7 (.int .u32 (n / 16777216)) (iE (bAz n)) (wq (dX sK underlying5 Z) Z (aS 8 (.int .u8 (n / 16777216 % 256)) (iE (wr8 _)) (aX Z Z (wq (hJ Z Z (by decide)) Z (aS 10 (.int .u32 (n / 65536)) (iE (bDb n)) (wq (dX sK underlying5 Z) Z (aS 11 (.int .u8 (n / 65536 % 256)) (iE (wr8 _)) (aX Z Z (wq (hJ Z Z (by decide)) Z ?_)))))))))))))))))))
 refine aS 13 (.int .u32 (n / 256)) (iE (bJf n)) (wq (dX sK underlying5 rfl) rfl (aS 14 (.int .u8 (n / 256 % 256)) (iE (wr8 _)) (aX rfl rfl (wq (dX sK underlying5 rfl) rfl (aS 16 (.int .u8 (n % 256)) (iE (wr8 _)) (cP [.int _ _,.int _ _,.int _ _,.int _ _] ((cD n).map bG) rfl lR M0 rfl rfl rfl rfl (cW rfl) (by decide) (fun b1 w1 M1=>(dL 0 ((cD n).map bG) lR M1 rfl rfl rfl rfl rfl hr rfl (by simp [cD,bG,Go.Bil.one]) (cZ.ofMem 1 M1 rfl) (by omega) (fun A2 c2 e2 w2 M2 hR2=>(eX rfl rfl (aB (aC (aP (cB (.slice _ _ _) rfl ?_))))))))))))))
 exact ⟨⟨A2,_,c2,e2⟩,Z,Z,by rw [List.map_append];exact hR2,M2.keep [true,false]⟩
theorem gC (w:World) (x:Int) :
  Calls prog 136 #[.int .i32 x] w (Rb w (.int .u32 (x % 4294967296))):=by
 refine aH #[.tmp 2] 5 func136 Z results136 ntmps136 Z ?_
 have M0:=Mem.refl w
 refine aD (aA (bP Z Z (aB (aC (aD (aA (aX Z Z (wq (dX gI underlying35 Z) Z (aS 4 (.int .u32 (x % 4294967296)) (iE (aUt _)) (bP Z Z (aB (aC (aP (cB (.int _ _) Z ?_))))))))))))))
 exact ⟨Z,M0.below⟩
theorem aOe (w:World) (b:Body) :
  Calls prog 101 #[(.agg (aF b).toArray)] w (Rb w (.agg ((wI b).map (Value.int .u32)).toArray)):=by
 refine aH #[.cell 2 139] 49 func101 Z results101 ntmps101 Z ?_
 have M0:=Mem.refl w
 refine aD (aA (bH (.agg (.mk _)) M0 Z Z Z (fun b1 w1 M1=>(aM aGa M1 Z Z (fun b2 w2 M2=>(aB (aC (aD (aA (wq (aI (.func _ _ _) Z) Z (aB (aC (aD (gJ [(0,0),(1,1),(2,0),(3,0),(4,1),(6,0),(7,0),(8,0),(9,1),(11,0),(12,0),(13,0),(14,1),(16,0),(17,0),(18,1),(20,0),(21,0),(22,1),(24,0),(25,0),(26,0),(27,1),(29,0),(30,0),(31,0),(32,1),(34,0),(35,0),(36,0),(37,1),(39,0),(40,0),(41,0),(42,1),(5,2),(10,2),(15,2),(19,2),(23,2),(28,2),(33,2),(38,2),(43,2),(44,0),(45,2)] mixed M2 Z (by kernel_rfl) (fun w3 M3 => ?_)))))))))))))))
 refine aU Z Z Z (fun _=>aE 0 fH Z) (bS Z Z Z (aK 0 (.int _ _) cA M3 Z Z Z) (aU Z Z Z (fun _=>aG (.func _ _ _) Z) (aU Z Z Z (fun _=>aE 1 oT Z) (bS Z Z Z (aK 0 (.int _ _) aY M3 Z Z Z) (aU Z Z Z (fun _=>aG (.func _ _ _) Z) (aU Z Z Z (fun _=>aE 2 lP Z) (aU Z Z Z (fun _=>aE 0 eB Z) (bS Z Z Z (aK 0 (.int _ _) aY M3 Z Z Z) (aU Z Z Z (fun _=>aG (.func _ _ _) Z) (aU Z Z Z (fun _=>aE 2 lP Z) ?_))))))))))
 refine aU Z Z Z (fun _=>aE 1 dQ Z) (bS Z Z Z (aK 0 (.int _ _) aY M3 Z Z Z) (aU Z Z Z (fun _=>aG (.func _ _ _) Z) (aU Z Z Z (fun _=>aE 4 fR Z) (bS Z Z Z (aK 0 (.int _ _) aY M3 Z Z Z) (aU Z Z Z (fun _=>aG (.func _ _ _) Z) (aU Z Z Z (fun _=>aE 5 uC Z) (bS Z Z Z (aK 0 (.int _ _) aY M3 Z Z Z) (aU Z Z Z (fun _=>aG (.func _ _ _) Z) (aU Z Z Z (fun _=>aE 6 gX Z) (aU Z Z Z (fun _=>aE 0 eB Z) ?_))))))))))
 refine bS Z Z Z (aK 0 (.int _ _) aY M3 Z Z Z) (aU Z Z Z (fun _=>aG (.func _ _ _) Z) (aU Z Z Z (fun _=>aE 6 gX Z) (aU Z Z Z (fun _=>aE 1 dQ Z) (bS Z Z Z (aK 0 (.int _ _) aY M3 Z Z Z) (aU Z Z Z (fun _=>aG (.func _ _ _) Z) (aU Z Z Z (fun _=>aE 8 fS Z) (aU Z Z Z (fun _=>aE 0 eB Z) (bS Z Z Z (aK 0 (.int _ _) aY M3 Z Z Z) (aU Z Z Z (fun _=>aG (.func _ _ _) Z) (aU Z Z Z (fun _=>aE 8 fS Z) ?_))))))))))
 refine aU Z Z Z (fun _=>aE 1 dQ Z) (bS Z Z Z (aK 0 (.int _ _) aY M3 Z Z Z) (dD [false,false,false,false,false,false,false,false,true,false] Z (by kernel_rfl) (dI oY Z Z M3 (gC _ b.radius) (fun w4 M4 => ?_))))
 refine aB (aC ⟨(eH (bJ Z (aK 0 (.int _ _) aY M4 Z Z Z)) (eH (bJ Z (aK 0 (.int _ _) aY M4 Z Z Z)) (eH (bJ Z (aK 0 (.int _ _) aY M4 Z Z Z)) (eH (bJ Z (aK 0 (.int _ _) aY M4 Z Z Z)) (eH (bJ Z (aK 0 (.int _ _) aY M4 Z Z Z)) (eH (bJ Z (aK 0 (.int _ _) aY M4 Z Z Z)) (eH (bJ Z (aK 0 (.int _ _) aY M4 Z Z Z)) (eH (bJ Z (aK 0 (.int _ _) aY M4 Z Z Z)) (eH (bJ Z (aK 0 (.int _ _) cA M4 Z Z Z)) dE))))))))), ?_⟩)
 refine dD [false,false,false,false,false,false,false,true,false] Z (by kernel_rfl) (dI oY Z Z M4 (gC _ b.ax) (fun w5 M5 => ?_))
 refine aB (aC ⟨(eH (bJ Z (aK 0 (.int _ _) aY M5 Z Z Z)) (eH (bJ Z (aK 0 (.int _ _) aY M5 Z Z Z)) (eH (bJ Z (aK 0 (.int _ _) aY M5 Z Z Z)) (eH (bJ Z (aK 0 (.int _ _) aY M5 Z Z Z)) (eH (bJ Z (aK 0 (.int _ _) aY M5 Z Z Z)) (eH (bJ Z (aK 0 (.int _ _) aY M5 Z Z Z)) (eH (bJ Z (aK 0 (.int _ _) aY M5 Z Z Z)) (eH (bJ Z (aK 0 (.int _ _) cA M5 Z Z Z)) dE)))))))), ?_⟩)
 refine dD [false,false,false,false,false,false,true,false] Z (by kernel_rfl) (dI oY Z Z M5 (gC _ b.ay) (fun w6 M6 => ?_))
 refine aB (aC ⟨(eH (bJ Z (aK 0 (.int _ _) aY M6 Z Z Z)) (eH (bJ Z (aK 0 (.int _ _) aY M6 Z Z Z)) (eH (bJ Z (aK 0 (.int _ _) aY M6 Z Z Z)) (eH (bJ Z (aK 0 (.int _ _) aY M6 Z Z Z)) (eH (bJ Z (aK 0 (.int _ _) aY M6 Z Z Z)) (eH (bJ Z (aK 0 (.int _ _) aY M6 Z Z Z)) (eH (bJ Z (aK 0 (.int _ _) cA M6 Z Z Z)) dE))))))), ?_⟩)
 refine dD [false,false,false,false,false,true,false] Z (by kernel_rfl) (dI oY Z Z M6 (gC _ b.mass) (fun w7 M7 => ?_))
 refine aB (aC ⟨(eH (bJ Z (aK 0 (.int _ _) aY M7 Z Z Z)) (eH (bJ Z (aK 0 (.int _ _) aY M7 Z Z Z)) (eH (bJ Z (aK 0 (.int _ _) aY M7 Z Z Z)) (eH (bJ Z (aK 0 (.int _ _) aY M7 Z Z Z)) (eH (bJ Z (aK 0 (.int _ _) aY M7 Z Z Z)) (eH (bJ Z (aK 0 (.int _ _) cA M7 Z Z Z)) dE)))))), ?_⟩)
 refine dD [false,false,false,false,true,false] Z (by kernel_rfl) (dI oY Z Z M7 (gC _ b.bounce) (fun w8 M8 => ?_))
 refine aB (aC ⟨(eH (bJ Z (aK 0 (.int _ _) aY M8 Z Z Z)) (eH (bJ Z (aK 0 (.int _ _) aY M8 Z Z Z)) (eH (bJ Z (aK 0 (.int _ _) aY M8 Z Z Z)) (eH (bJ Z (aK 0 (.int _ _) aY M8 Z Z Z)) (eH (bJ Z (aK 0 (.int _ _) cA M8 Z Z Z)) dE))))), ?_⟩)
 refine dD [false,false,false,true,false] Z (by kernel_rfl) (dI oY Z Z M8 (gC _ b.px) (fun w9 M9 => ?_))
 refine aB (aC ⟨(eH (bJ Z (aK 0 (.int _ _) aY M9 Z Z Z)) (eH (bJ Z (aK 0 (.int _ _) aY M9 Z Z Z)) (eH (bJ Z (aK 0 (.int _ _) aY M9 Z Z Z)) (eH (bJ Z (aK 0 (.int _ _) cA M9 Z Z Z)) dE)))), ?_⟩)
 refine dD [false,false,true,false] Z (by kernel_rfl) (dI oY Z Z M9 (gC _ b.py) (fun w10 M10 => ?_))
 refine aB (aC ⟨(eH (bJ Z (aK 0 (.int _ _) aY M10 Z Z Z)) (eH (bJ Z (aK 0 (.int _ _) aY M10 Z Z Z)) (eH (bJ Z (aK 0 (.int _ _) cA M10 Z Z Z)) dE))), ?_⟩)
 refine dD [false,true,false] Z (by kernel_rfl) (dI oY Z Z M10 (gC _ b.vx) (fun w11 M11 => ?_))
 refine aB (aC ⟨(eH (bJ Z (aK 0 (.int _ _) aY M11 Z Z Z)) (eH (bJ Z (aK 0 (.int _ _) cA M11 Z Z Z)) dE)), ?_⟩)
 refine dD [true,false] Z (by kernel_rfl) (dI oY Z Z M11 (gC _ b.vy) (fun w12 M12 => ?_))
 refine aB (aC ⟨(eH (bJ Z (aK 0 (.int _ _) cA M12 Z Z Z)) dE), ?_⟩)
 refine aU Z Z Z (fun _=>qJ [.int _ _,.int _ _,.int _ _,.int _ _,.int _ _,.int _ _,.int _ _,.int _ _,.int _ _,.int _ _] fV aGa Z Z (cW Z)) (dD [true] Z (by kernel_rfl) (aZ 1 _ aOc M12 Z Z Z Z Z (aQ Z) Z (fun w13 M13 => ?_)))
 refine aB (aC ⟨dE, ?_⟩)
 refine bZ (aC (aP (eO 1 aOc M13 Z Z Z ?_)))
 exact ⟨Z,M13.below⟩
theorem gQ (w:World) (A:Option Addr) (n c:Nat) (ls:List Int) (R:Rd w 1 A n (ls.map bG)) (hB:gA ls) (h4:4≤n) :
  Calls prog 79 #[.slice A n c] w (Rb w (.int .u32 (eF ls 0))):=by
 have hlen:ls.length=n:=by simpa using R.len
 have hbd:=R.bound
 obtain ⟨x0,hx0⟩:=cF (xs:=ls) (k:=0) hlen (by omega)
 obtain ⟨x1,hx1⟩:=cF (xs:=ls) (k:=1) hlen (by omega)
 obtain ⟨x2,hx2⟩:=cF (xs:=ls) (k:=2) hlen (by omega)
 obtain ⟨x3,hx3⟩:=cF (xs:=ls) (k:=3) hlen (by omega)
 obtain ⟨g0,g1⟩:=hB x0 (List.mem_of_getElem? hx0)
 obtain ⟨g2,g3⟩:=hB x1 (List.mem_of_getElem? hx1)
 obtain ⟨g4,g5⟩:=hB x2 (List.mem_of_getElem? hx2)
 obtain ⟨g6,g7⟩:=hB x3 (List.mem_of_getElem? hx3)
 have hnum:eF ls 0=((x0*256+x1)*256+x2)*256+x3:=by unfold eF;simp only [List.getD_eq_getElem?_getD,Nat.zero_add,hx0,hx1,hx2,hx3,Option.getD_some]
 obtain ⟨b0,rfl⟩:=Int.eq_ofNat_of_zero_le g0
 obtain ⟨b1,rfl⟩:=Int.eq_ofNat_of_zero_le g2
 obtain ⟨b2,rfl⟩:=Int.eq_ofNat_of_zero_le g4
 obtain ⟨b3,rfl⟩:=Int.eq_ofNat_of_zero_le g6
 refine aH #[.tmp 2] 25 func79 Z results79 ntmps79 Z ?_
 have M0:=Mem.refl w
 refine aD (aA (bP Z Z (aB (aC (aD (gJ [(0,0),(1,1),(2,1),(3,0),(4,0),(5,0),(6,1),(7,1),(8,0),(9,0),(10,0),(11,0),(12,1),(13,1),(14,0),(15,0),(16,0),(17,0),(18,1),(19,1),(20,0),(21,0),(22,0)] mixed M0 Z (by kernel_rfl) (fun w1 M1=>(sH Z Z Z (bS Z Z Z (bR (0) lR Z Z Z ((R.mem M1).below_len (aJ bG hx0)) ((R.mem M1).someK (aJ bG hx0))) (bS Z Z Z (gL (.int _ _) aSy (R.mem M1) (aJ bG hx0) Z) (aU Z Z Z (fun _=>bV us5 underlying35 Z (aDp _ (by omega) (by omega))) ?_)))))))))))
 refine aU Z Z Z (fun _=>tA Z Z (by decide)) (fA 7 (.int .u32 ((b0*16777216:Nat):Int)) (iE (bAx b0 (by omega))) (sH Z Z Z (bS Z Z Z (bR (1) lR Z Z Z ((R.mem M1).below_len (aJ bG hx1)) ((R.mem M1).someK (aJ bG hx1))) (bS Z Z Z (gL (.int _ _) aSy (R.mem M1) (aJ bG hx1) Z) (aU Z Z Z (fun _=>bV us5 underlying35 Z (aDp _ (by omega) (by omega))) (aU Z Z Z (fun _=>tA Z Z (by decide)) (fA 12 (.int .u32 ((b1*65536:Nat):Int)) (iE (bBp b1 (by omega))) (aU Z Z Z (fun _=>dP (.int _ _) Z Z Z) ?_))))))))
 refine fA 13 (.int .u32 ((b0*16777216+b1*65536:Nat):Int)) (iE (bHy b0 (b0*16777216) (b1*65536) 24 Z (show b1*65536 < 16777216 by omega) (by omega))) (sH Z Z Z (bS Z Z Z (bR (2) lR Z Z Z ((R.mem M1).below_len (aJ bG hx2)) ((R.mem M1).someK (aJ bG hx2))) (bS Z Z Z (gL (.int _ _) aSy (R.mem M1) (aJ bG hx2) Z) (aU Z Z Z (fun _=>bV us5 underlying35 Z (aDp _ (by omega) (by omega))) (aU Z Z Z (fun _=>tA Z Z (by decide)) (fA 18 (.int .u32 ((b2*256:Nat):Int)) (iE (bIf b2 (by omega))) ?_))))))
 refine aU Z Z Z (fun _=>dP (.int _ _) Z Z Z) (fA 19 (.int .u32 ((b0*16777216+b1*65536+b2*256:Nat):Int)) (iE (bHy (b0*256+b1) (b0*16777216+b1*65536) (b2*256) 16 (show (b0*256+b1)*65536=_ by omega) (show b2*256 < 65536 by omega) (by omega))) (sH Z Z Z (bS Z Z Z (bR (3) lR Z Z Z ((R.mem M1).below_len (aJ bG hx3)) ((R.mem M1).someK (aJ bG hx3))) (bS Z Z Z (gL (.int _ _) aSy (R.mem M1) (aJ bG hx3) Z) (aU Z Z Z (fun _=>bV us5 underlying35 Z (aDp _ (by omega) (by omega))) ?_)))))
 refine aU Z Z Z (fun _=>dP (.int _ _) Z Z Z) (fA 24 (.int .u32 ((b0*16777216+b1*65536+b2*256+b3:Nat):Int)) (iE (bHy (b0*65536+b1*256+b2) (b0*16777216+b1*65536+b2*256) b3 8 (show (b0*65536+b1*256+b2)*256=_ by omega) (show b3 < 256 by omega) (by omega))) (qB Z Z Z (bZ (aC (aP (cB (.int _ _) Z ?_))))))
 exact ⟨iE (by rw [hnum];omega),M1.below⟩
theorem fO (w:World) (n:Int) (hn:0≤n∧n≤4294967295) :
  Calls prog 80 #[.int .i64 n] w (Rb w (.int .i64 (8+40*n))):=by
 refine aH #[.tmp 2] 6 func80 Z results80 ntmps80 Z ?_
 have M0:=Mem.refl w
 refine aD (aA (bP Z Z (aB (aC (aD (aA (aX Z Z (wq (fY Z Z (by omega) (by omega)) Z (wq (bM Z Z (by omega) (by omega)) Z (bP Z Z (aB (aC (aP (cB (.int _ _) Z ?_))))))))))))))
 exact ⟨iE (by omega),M0.below⟩
theorem xR (w:World) (b:Nat) (x0 x1 x2 x3 x4 x5 x6 x7 x8 x9:Int) (h0:0≤x2∧x2≤4294967295) (h1:0≤x3∧x3≤4294967295) (hO:Own [(some b,bc [.int .u32 x0,.int .u32 x1,.int .u32 x2,.int .u32 x3,.int .u32 x4,.int .u32 x5,.int .u32 x6,.int .u32 x7,.int .u32 x8,.int .u32 x9] 139)] w) :
  Calls prog 118 #[.int .i64 2,.pointer (some ⟨b,0,none⟩)] w (fE (fun v w'=>v=.agg [.int .i32 (nR x2),.int .i32 (nR x3)].toArray∧Mem w (bI [(some b,bc [.int .u32 x0,.int .u32 x1,.int .u32 x2,.int .u32 x3,.int .u32 x4,.int .u32 x5,.int .u32 x6,.int .u32 x7,.int .u32 x8,.int .u32 x9] 139)]) [(some b,bc [.int .u32 x0,.int .u32 x1,.int .u32 x2,.int .u32 x3,.int .u32 x4,.int .u32 x5,.int .u32 x6,.int .u32 x7,.int .u32 x8,.int .u32 x9] 139)] w')):=by
 refine aH #[.cell 3 37] 14 func118 Z results118 ntmps118 Z ?_
 have M0:=hO.mem
 refine aD (aA (aM gW M0 Z Z (fun b1 w1 M1=>(aB (aC (aD (gJ [(0,0),(1,0),(2,1),(3,0),(4,0),(5,0),(6,0),(7,1),(8,0),(9,0),(10,2)] mixed M1 Z (by kernel_rfl) (fun w2 M2=>(gR Z Z Z (aU Z Z Z (fun _=>fJ (2) fV Z Z Z (by decide)) (bS Z Z Z (aK 0 (.int _ _) cA M2 Z Z Z) (aU Z Z Z (fun _=>dX sK underlying21 Z) (fA 7 (.int .i32 (nR x2)) (iE (iX h0)) (gR Z Z Z (aU Z Z Z (fun _=>bM Z Z (by first | decide | omega) (by first | decide | omega)) (aU Z Z Z (fun _=>fJ (3) fV Z Z Z (by decide)) ?_))))))))))))))))
 refine bS Z Z Z (aK 0 (.int _ _) cA M2 Z Z Z) (aU Z Z Z (fun _=>dX sK underlying21 Z) (fA 12 (.int .i32 (nR x3)) (iE (iX h1)) (aU Z Z Z (fun _=>cE [(0,.int _ _),(1,.int _ _)] _ fD Z Z) (dD [true,true] Z (by kernel_rfl) (aZ 1 _ bL M2 Z Z Z Z Z (aQ Z) Z (fun w3 M3 => ?_))))))
 refine aB (aC ⟨dE, ?_⟩)
 refine bZ (aC (aP (eO 1 bL M3 Z Z Z ?_)))
 exact ⟨Z,M3.keep [true,false]⟩
theorem xS (w:World) (b:Nat) (x0 x1 x2 x3 x4 x5 x6 x7 x8 x9:Int) (h0:0≤x6∧x6≤4294967295) (h1:0≤x7∧x7≤4294967295) (hO:Own [(some b,bc [.int .u32 x0,.int .u32 x1,.int .u32 x2,.int .u32 x3,.int .u32 x4,.int .u32 x5,.int .u32 x6,.int .u32 x7,.int .u32 x8,.int .u32 x9] 139)] w) :
  Calls prog 118 #[.int .i64 6,.pointer (some ⟨b,0,none⟩)] w (fE (fun v w'=>v=.agg [.int .i32 (nR x6),.int .i32 (nR x7)].toArray∧Mem w (bI [(some b,bc [.int .u32 x0,.int .u32 x1,.int .u32 x2,.int .u32 x3,.int .u32 x4,.int .u32 x5,.int .u32 x6,.int .u32 x7,.int .u32 x8,.int .u32 x9] 139)]) [(some b,bc [.int .u32 x0,.int .u32 x1,.int .u32 x2,.int .u32 x3,.int .u32 x4,.int .u32 x5,.int .u32 x6,.int .u32 x7,.int .u32 x8,.int .u32 x9] 139)] w')):=by
 refine aH #[.cell 3 37] 14 func118 Z results118 ntmps118 Z ?_
 have M0:=hO.mem
 refine aD (aA (aM gW M0 Z Z (fun b1 w1 M1=>(aB (aC (aD (gJ [(0,0),(1,0),(2,1),(3,0),(4,0),(5,0),(6,0),(7,1),(8,0),(9,0),(10,2)] mixed M1 Z (by kernel_rfl) (fun w2 M2=>(gR Z Z Z (aU Z Z Z (fun _=>fJ (6) fV Z Z Z (by decide)) (bS Z Z Z (aK 0 (.int _ _) cA M2 Z Z Z) (aU Z Z Z (fun _=>dX sK underlying21 Z) (fA 7 (.int .i32 (nR x6)) (iE (iX h0)) (gR Z Z Z (aU Z Z Z (fun _=>bM Z Z (by first | decide | omega) (by first | decide | omega)) (aU Z Z Z (fun _=>fJ (7) fV Z Z Z (by decide)) ?_))))))))))))))))
 refine bS Z Z Z (aK 0 (.int _ _) cA M2 Z Z Z) (aU Z Z Z (fun _=>dX sK underlying21 Z) (fA 12 (.int .i32 (nR x7)) (iE (iX h1)) (aU Z Z Z (fun _=>cE [(0,.int _ _),(1,.int _ _)] _ fD Z Z) (dD [true,true] Z (by kernel_rfl) (aZ 1 _ bL M2 Z Z Z Z Z (aQ Z) Z (fun w3 M3 => ?_))))))
 refine aB (aC ⟨dE, ?_⟩)
 refine bZ (aC (aP (eO 1 bL M3 Z Z Z ?_)))
 exact ⟨Z,M3.keep [true,false]⟩
theorem xJ (w:World) (b:Nat) (x0 x1 x2 x3 x4 x5 x6 x7 x8 x9:Int) (h0:0≤x8∧x8≤4294967295) (h1:0≤x9∧x9≤4294967295) (hO:Own [(some b,bc [.int .u32 x0,.int .u32 x1,.int .u32 x2,.int .u32 x3,.int .u32 x4,.int .u32 x5,.int .u32 x6,.int .u32 x7,.int .u32 x8,.int .u32 x9] 139)] w) :
  Calls prog 118 #[.int .i64 8,.pointer (some ⟨b,0,none⟩)] w (fE (fun v w'=>v=.agg [.int .i32 (nR x8),.int .i32 (nR x9)].toArray∧Mem w (bI [(some b,bc [.int .u32 x0,.int .u32 x1,.int .u32 x2,.int .u32 x3,.int .u32 x4,.int .u32 x5,.int .u32 x6,.int .u32 x7,.int .u32 x8,.int .u32 x9] 139)]) [(some b,bc [.int .u32 x0,.int .u32 x1,.int .u32 x2,.int .u32 x3,.int .u32 x4,.int .u32 x5,.int .u32 x6,.int .u32 x7,.int .u32 x8,.int .u32 x9] 139)] w')):=by
 refine aH #[.cell 3 37] 14 func118 Z results118 ntmps118 Z ?_
 have M0:=hO.mem
 refine aD (aA (aM gW M0 Z Z (fun b1 w1 M1=>(aB (aC (aD (gJ [(0,0),(1,0),(2,1),(3,0),(4,0),(5,0),(6,0),(7,1),(8,0),(9,0),(10,2)] mixed M1 Z (by kernel_rfl) (fun w2 M2=>(gR Z Z Z (aU Z Z Z (fun _=>fJ (8) fV Z Z Z (by decide)) (bS Z Z Z (aK 0 (.int _ _) cA M2 Z Z Z) (aU Z Z Z (fun _=>dX sK underlying21 Z) (fA 7 (.int .i32 (nR x8)) (iE (iX h0)) (gR Z Z Z (aU Z Z Z (fun _=>bM Z Z (by first | decide | omega) (by first | decide | omega)) (aU Z Z Z (fun _=>fJ (9) fV Z Z Z (by decide)) ?_))))))))))))))))
 refine bS Z Z Z (aK 0 (.int _ _) cA M2 Z Z Z) (aU Z Z Z (fun _=>dX sK underlying21 Z) (fA 12 (.int .i32 (nR x9)) (iE (iX h1)) (aU Z Z Z (fun _=>cE [(0,.int _ _),(1,.int _ _)] _ fD Z Z) (dD [true,true] Z (by kernel_rfl) (aZ 1 _ bL M2 Z Z Z Z Z (aQ Z) Z (fun w3 M3 => ?_))))))
 refine aB (aC ⟨dE, ?_⟩)
 refine bZ (aC (aP (eO 1 bL M3 Z Z Z ?_)))
 exact ⟨Z,M3.keep [true,false]⟩
theorem aGi (w:World) (x0 x1 x2 x3 x4 x5 x6 x7 x8 x9:Int) (hx:∀ x∈([x0,x1,x2,x3,x4,x5,x6,x7,x8,x9]:List Int),0≤x∧x≤4294967295) :
  Calls prog 81 #[.agg [.int .u32 x0,.int .u32 x1,.int .u32 x2,.int .u32 x3,.int .u32 x4,.int .u32 x5,.int .u32 x6,.int .u32 x7,.int .u32 x8,.int .u32 x9].toArray] w (Rb w ((.agg (aF (⟨x0,nR x1,nR x2,nR x3,nR x4,nR x5,nR x6,nR x7,nR x8,nR x9⟩:Body)).toArray))):=by
 refine aH #[.cell 2 39] 23 func81 Z results81 ntmps81 Z ?_
 have M0:=Mem.refl w
 refine aD (aA (bH (.agg (.mk _)) M0 Z Z Z (fun b1 w1 M1=>(aM iD M1 Z Z (fun b2 w2 M2=>(aB (aC (aD (aA (wq (cH [] [.pointer _] Z Z) Z (wq (aI (.func _ _ _) Z) Z (aB (aC (aD (gJ [(0,0),(1,1),(2,0),(3,1),(4,0),(5,0),(7,0),(8,1),(9,0),(10,0),(11,1),(12,0),(13,0),(15,0),(6,2),(14,2),(16,2),(17,0),(18,2)] mixed M2 Z (by kernel_rfl) (fun w3 M3=>(aU Z Z Z (fun _=>fJ (0) fV Z Z Z (by decide)) (bS Z Z Z (aK 0 (.int _ _) cA M3 Z Z Z) (aU Z Z Z (fun _=>fJ (1) fV Z Z Z (by decide)) ?_)))))))))))))))))))
 refine bS rfl rfl rfl (aK 0 (.int _ _) cA M3 rfl rfl rfl) (aU rfl rfl rfl (fun _=>dX sK underlying21 rfl) (fA 9 (.int .i32 (nR x1)) (iE (iX (hx _ (by simp)))) (aU rfl rfl rfl (fun _=>aG (.func _ _ _) rfl) (aU rfl rfl rfl (fun _=>fJ (4) fV rfl rfl rfl (by decide)) (bS rfl rfl rfl (aK 0 (.int _ _) cA M3 rfl rfl rfl) (aU rfl rfl rfl (fun _=>dX sK underlying21 rfl) (fA 14 (.int .i32 (nR x4)) (iE (iX (hx _ (by simp)))) (aU rfl rfl rfl (fun _=>fJ (5) fV rfl rfl rfl (by decide)) (bS rfl rfl rfl (aK 0 (.int _ _) cA M3 rfl rfl rfl) ?_)))))))))
 refine aU rfl rfl rfl (fun _=>dX sK underlying21 rfl) (fA 17 (.int .i32 (nR x5)) (iE (iX (hx _ (by simp)))) (aU rfl rfl rfl (fun _=>aG (.func _ _ _) rfl) (aU rfl rfl rfl (fun _=>aG (.func _ _ _) rfl) (dD [false,false,false,false] rfl (by kernel_rfl) (dU aLq rfl rfl (xR _ b1 x0 x1 x2 x3 x4 x5 x6 x7 x8 x9 (hx _ (by simp)) (hx _ (by simp)) (M3.ownSeg 0 1)) ?_)))))
 rintro v4 w4 ⟨rfl,hM4⟩
 have M4:Mem _ _ [_,_] _:=M3.seg 0 1 hM4
 refine aB (aC ⟨(eH (bJ Z (aK 0 (.int _ _) cA M4 Z Z Z)) (eH (bJ Z (aK 0 (.int _ _) cA M4 Z Z Z)) (eH (bJ Z (aK 0 (.int _ _) cA M4 Z Z Z)) (eH (bJ Z (aK 0 (.int _ _) cA M4 Z Z Z)) dE)))), ?_⟩)
 refine dD [false,false,false,false] rfl (by kernel_rfl) (dU aLq rfl rfl (xS _ b1 x0 x1 x2 x3 x4 x5 x6 x7 x8 x9 (hx _ (by simp)) (hx _ (by simp)) (M4.ownSeg 0 1)) ?_)
 rintro v5 w5 ⟨rfl,hM5⟩
 have M5:Mem _ _ [_,_] _:=M4.seg 0 1 hM5
 refine aB (aC ⟨(eH (bJ Z (aK 0 (.int _ _) cA M5 Z Z Z)) (eH (bJ Z (aK 0 (.int _ _) cA M5 Z Z Z)) (eH (bJ Z (aK 0 (.int _ _) cA M5 Z Z Z)) (eH (bJ Z (aK 0 (.int _ _) cA M5 Z Z Z)) dE)))), ?_⟩)
 refine dD [false,false,false,false] rfl (by kernel_rfl) (dU aLq rfl rfl (xJ _ b1 x0 x1 x2 x3 x4 x5 x6 x7 x8 x9 (hx _ (by simp)) (hx _ (by simp)) (M5.ownSeg 0 1)) ?_)
 rintro v6 w6 ⟨rfl,hM6⟩
 have M6:Mem _ _ [_,_] _:=M5.seg 0 1 hM6
 refine aB (aC ⟨(eH (bJ Z (aK 0 (.int _ _) cA M6 Z Z Z)) (eH (bJ Z (aK 0 (.int _ _) cA M6 Z Z Z)) (eH (bJ Z (aK 0 (.int _ _) cA M6 Z Z Z)) (eH (bJ Z (aK 0 (.int _ _) cA M6 Z Z Z)) dE)))), ?_⟩)
 refine aU Z Z Z (fun _=>cE [(0,.int _ _),(1,.int _ _),(2,.agg (List.toArray _)),(3,.int _ _),(4,.int _ _),(5,.agg (List.toArray _)),(6,.agg (List.toArray _))] _ zX Z Z) (dD [true,true,true,true] Z (by kernel_rfl) (aZ 1 _ bU M6 Z Z Z Z Z (aQ Z) Z (fun w7 M7 => ?_)))
 refine aB (aC ⟨dE, ?_⟩)
 refine bZ (aC (aP (eO 1 bU M7 Z Z Z ?_)))
 exact ⟨Z,M7.below⟩
theorem aGe (w:World) (A:Option Addr) (n c:Nat) (xs:List Body) (R:Rd w 10 A n (xs.map aF)) (hn:n≤4096) (hc:iB xs=0) (hb:∀ b∈xs,InB b) :
  Calls prog 58 #[.slice A n c] w (fE (fun v w'=>∃ q:Row,v=.tuple #[.slice q.A q.n q.c,.int .i64 0]∧aR 5 1 q.A q.n q.c ((iK xs).map bG) q.e∧Mem w [] [q.e] w')):=by
 have hlen:xs.length=n:=by simpa using R.len
 have hbd:=R.bound
 refine aH #[.tmp 2,.tmp 3] 38 func58 Z results58 ntmps58 Z ?_
 have M0:=Mem.refl w
 refine aD (aA (eX Z Z (bP Z Z (aB (aC (aD (aD (aA (dZ Z Z (dI bEo Z Z M0 (aAm _ _ _ _ xs (R.mem M0)) (fun w1 M1=>(bP Z Z (aB (aC (aD (aA (aX Z Z (dB Z Z Z Z (rP 13 Z (fun h=>h hc) (aB (aC (bW Z (aL (aC (aD (aA (cP [.int _ _,.int _ _,.int _ _,.int _ _] (lG.map bG) Z lR M1 Z Z Z Z (cW Z) (by decide) (fun b2 w2 M2 => ?_))))))))))))))))))))))))))))
 have hlit15:=kC (T:=5) (b:=b2) (lG.map bG) (aMq _) rfl (by decide)
 refine bDj 0 underlying31 underlying5 M2 Z Z Z Z hlit15 (by decide) (fun e3 w3 M3 hR3=>(dZ Z Z (wq (cG underlying29 Z) Z (wq (bV us3 underlying35 Z (aDp _ (by omega) (by omega))) Z (dU aVr Z Z (aDg _ ⟨(some ⟨b2,0,none⟩),4,4,e3⟩ lG hR3 (n:Int) (by omega) (by first | omega | exact (show 4≤1048576 by decide)) (M3.ownSeg 0 1)) ?_)))))
 rintro v4 w4 ⟨q0,rfl,hnq0,hq0,hM4⟩
 have M4:Mem _ _ [_] _:=M3.seg 0 1 hM4
 refine eX Z Z (aB (aC (aD (aD (aA (dZ Z Z (wq (cG underlying29 Z) Z (aX Z Z (aB (aC (aT (dK (σ:=Nat × Row) [2,3,21,22] (fun (k,q)=>[(5,.slice q.A q.n q.c),(23,.int .i64 (k:Int))]) (fun (k,q) w'=>(k≤n∧q.n=8+40*k∧aR 5 1 q.A q.n q.c (((lG++cD (n:Int))++(xs.take k).flatMap kT).map bG) q.e)∧Mem w [] [q.e] w') (fun (k,q)=>n - k) (0,q0) (bN Z (bN Z eZ)) (⟨⟨by omega,hnq0,by rw [List.take_zero,List.flatMap_nil,List.append_nil];exact hq0⟩,M4⟩) ?_))))))))))))
 rintro ⟨k,q⟩ ρ5 w5 ⟨⟨hk,hqn,hq⟩,hM5⟩
 refine aD (aA (dB Z Z Z Z (aB (aC (aD ?_)))))
 refine bA Z (fun h24 => ?_) (fun h24 => ?_)
 ·obtain ⟨xb,hxb⟩:=cF (xs:=xs) (k:=k) hlen (by omega)
  have hxi:=aTb (hb xb (List.mem_of_getElem? hxb))
  refine aL (aC (aD (aT (aD (aA (wq (bR (k) fC Z Z Z ((R.mem hM5).below_len (aJ aF hxb)) ((R.mem hM5).someK (aJ aF hxb))) Z (wq (dT _ bU (R.mem hM5) (aJ aF hxb) Z) Z (aM iD hM5 Z Z (fun b6 w6 M6=>(aZ 1 _ bU M6 Z Z Z Z Z (aQ Z) Z (fun w7 M7=>(aB (aC (aD (aA (wq (bB 1 bU M7 Z Z Z) Z (dI bIa Z Z M7 (aOe _ xb) (fun w8 M8=>(aX Z Z (aB (aC (aT (dK (σ:=Nat × Row) [2,3,21,22,23,28] (fun (j,p)=>[(5,.slice p.A p.n p.c),(29,.int .i64 (j:Int))]) (fun (j,p) w'=>(j≤10∧p.n=q.n+4*j∧aR 5 1 p.A p.n p.c (((lG++cD (n:Int))++(xs.take k).flatMap kT++((wI xb).take j).flatMap cD).map bG) p.e)∧Mem w [] [p.e,(some b6,bc (aF xb) 39)] w') (fun (j,p)=>10 - j) (0,q) (bN Z (bN Z eZ)) (⟨⟨by omega,by omega,by rw [List.take_zero,List.flatMap_nil,List.append_nil];exact hq⟩,M8⟩) ?_)))))))))))))))))))))))
  rintro ⟨j,p⟩ ρ9 w9 ⟨⟨hj,hpn,hp⟩,hM9⟩
  refine aD (aA (dB Z Z Z Z (aB (aC (aD ?_)))))
  refine bA Z (fun h30 => ?_) (fun h30 => ?_)
  ·obtain ⟨x,hx⟩:=cF (xs:=wI xb) (k:=j) (n:=10) rfl (by omega)
   have hxr:=hxi x (List.mem_of_getElem? hx)
   refine aL (aC (aD (aT (aD (aA ?_)))))
   refine wq (wD (j) (.int .u32 x) fV cA Z Z (by omega) (by omega) Z (by rw [lK,List.getElem?_map,hx];rfl)) Z ?_
   refine bP Z Z (aB (aC (aA (dZ Z Z (aX Z Z (dU aVr Z Z (aDg _ p _ hp x hxr (by first | omega | exact (show 4≤1048576 by decide)) (hM9.ownSeg 0 1)) ?_))))))
   rintro v10 w10 ⟨p2,rfl,hnp2,hp2,hM10⟩
   have M10:Mem _ _ [_,_] _:=hM9.seg 0 1 hM10
   refine eX Z Z (aB (dF (aC (aA (wq (bM Z Z (by omega) (by omega)) Z (aX Z Z (aB ?_)))))))
   refine cR (j+1,p2) (bN Z (bN Z eZ)) (cT Z (cT Z (cT Z (cT Z (cT Z (cT Z kB)))))) ?_ ?_
   ·exact ⟨⟨by omega,by omega,by rw [aSl hx,← List.append_assoc];exact hp2⟩,M10⟩
   ·(show 10 - (j+1) < 10 - j;omega)
  ·obtain rfl:j=10:=by omega
   rw [List.take_of_length_le (show (wI xb).length≤10 from Nat.le_refl _)] at hp
   refine cO (dA (cX (eV (dF (aC (aA (wq (bM Z Z (by omega) (by omega)) Z (aX Z Z (aB ?_)))))))))
   refine cR (k+1,p) (bN Z (bN Z eZ)) (cT Z (cT Z (cT Z (cT Z kB)))) ?_ ?_
   ·exact ⟨⟨by omega,by omega,by rw [aTn hxb,← aSs,← List.append_assoc];exact hp⟩,hM9.keep [true,false]⟩
   ·(show n - (k+1) < n - k;omega)
 ·obtain rfl:k=n:=by omega
  rw [List.take_of_length_le (by omega),← hlen] at hq
  refine cO (dA (cX (eV (aC (aD (aA (dZ Z Z (eX Z Z (bP Z Z (aB (aC (aP (gY (.slice _ _ _) (.int _ _) Z Z ?_)))))))))))))
  exact ⟨q,Z,hq,hM5⟩
theorem tP (w:World) (A:Option Addr) (n c:Nat) (ls:List Int) (R:Rd w 1 A n (ls.map bG)) (hB:gA ls) (hcap:n≤c) (hn:n≤1048576) :
  Calls prog 54 #[.slice A n c] w (fE (fun v w'=>∃ r:Row,v=.tuple #[.slice r.A r.n r.c,.int .i64 (kX ls).2]∧aR 39 10 r.A r.n r.c (((kX ls).1).map aF) r.e∧Mem w [] [r.e] w')):=by
 have hlen:ls.length=n:=by simpa using R.len
 have hbd:=R.bound
 refine aH #[.tmp 2,.tmp 3] 58 func54 Z results54 ntmps54 Z ?_
 have M0:=Mem.refl w
 refine aD (aA (eX Z Z (bP Z Z (aB (aC (aD (aD (aA (dZ Z Z (wq (cG underlying31 Z) Z (dB Z Z Z Z (wq (aG (.bool (decide _)) Z) Z ?_))))))))))))
 refine dV 13 Z (fun g13 => ?_) (fun g13 => ?_)
 ·refine aW Z Z (aW Z Z (aW Z Z (aW Z Z (wq (bX true (.bool true) Z Z) Z (aB (aC (cU Z (aD (aA (eX Z Z (bP Z Z (aB (aC (aP (cL (gY (.slice _ _ _) (.int _ _) Z Z ?_))))))))))))))))
  have hd:=aGq (l:=ls) (fun h=>by have:=h.1;omega)
  exact ⟨⟨none,0,0,(none,default)⟩,by rw [hd],by rw [hd];exact aR.nil _ _ _,(M0.keep []).dummy default⟩
 ·refine dZ Z Z (wq (fI (0) (4) lR Z Z ⟨_,Z⟩ (by omega) (by omega) (by omega)) Z (wq (aLm underlying31 underlying5 underlying9 (Rd.subB (R.mem M0) (0) (4) (by omega) (by omega) hcap) Z) Z (wq (bAb Z Z) Z (wq (bX false (.bool (decide _)) Z Z) Z (aB (aC ?_))))))
  refine bA Z (fun h18 => ?_) (fun h18 => ?_)
  ·refine aD (aA (eX Z Z (bP Z Z (aB (aC (aP (cL (gY (.slice _ _ _) (.int _ _) Z Z ?_))))))))
   have hd:=aGq (l:=ls) (fun h=>((yD ((ls.drop 0).take (4 - 0)) (hB.sub 0 4) [66,73,76,49]).1 h18) (by rw [← wY];simpa using h.2.1))
   exact ⟨⟨none,0,0,(none,default)⟩,by rw [hd],by rw [hd];exact aR.nil _ _ _,(M0.keep []).dummy default⟩
  ·refine aL (aC (aD (aA (dZ Z Z (wq (fI (4) (((n:Nat):Int)) lR Z ⟨_,Z⟩ Z (by omega) (by omega) (by omega)) Z (dI qE Z Z M0 (gQ _ _ _ _ ((ls.drop (4)).take (n - (4))) (Rd.subB (R.mem M0) (4) (n) (by omega) (by omega) hcap) (hB.sub _ _) (by omega)) (fun w1 M1 => ?_)))))))
   have hr4:=qQ hB (a:=4) (by omega)
   obtain ⟨N,hN⟩:∃ N:Nat,eF ls 4=(N:Int):=⟨(eF ls 4).toNat,by omega⟩
   have hNl:N≤4294967295:=by omega
   refine aS 21 (.int .u32 (N:Int)) (iE ((iP (by omega)).trans hN)) (wq (bV sK underlying3 Z (kO _ (by omega) (by omega))) Z (bP Z Z (aB (aC (aD (aD (aA (dZ Z Z (wq (cG underlying31 Z) Z (aX Z Z (dI qM Z Z M1 (fO _ (N:Int) (by omega)) (fun w2 M2=>(dB Z Z Z Z (aB (aC ?_)))))))))))))))
   refine bA Z (fun h27 => ?_) (fun h27 => ?_)
   ·refine aD (aA (eX Z Z (bP Z Z (aB (aC (aP (cL (gY (.slice _ _ _) (.int _ _) Z Z ?_))))))))
    have hd:=aGq (l:=ls) (fun h=>h27 (by have:=h.2.2;rw [hN] at this;omega))
    exact ⟨⟨none,0,0,(none,default)⟩,by rw [hd],by rw [hd];exact aR.nil _ _ _,(M2.keep []).dummy default⟩
   ·have hfm:zV ls:=⟨by omega,by have h:=Decidable.not_not.1 (mt ((yD ((ls.drop 0).take (4 - 0)) (hB.sub 0 4) [66,73,76,49]).2) h18);rw [← wY] at h;simpa using h,by rw [hN];omega⟩
    refine aL (aC (aD (aA (eX Z Z ?_))))
    have M3:=M2.dummy default
    refine aB (aC (aD (aD (aA (aX Z Z (aX Z Z (aB (aC (aT (dK (σ:=Nat × Row) [0,2,3,28] (fun (i,q)=>[(5,.slice q.A q.n q.c),(29,.int .i64 (i:Int))]) (fun (i,q) w'=>(i≤N∧aR 39 10 q.A q.n q.c ((mR ls i).map aF) q.e)∧Mem w [] [q.e] w') (fun (i,q)=>N - i) (0,fM) (bN Z (bN Z eZ)) (⟨⟨by omega,aR.nil _ _ _⟩,M3⟩) ?_))))))))))
    rintro ⟨i,q⟩ ρ4 w4 ⟨⟨hi,hq⟩,hM4⟩
    have hqn:(mR ls i).length=q.n:=by simpa using hq.1
    rw [aBh] at hqn
    refine aD (aA (dB Z Z Z Z (aB (aC (aD ?_)))))
    refine bA Z (fun h30 => ?_) (fun h30 => ?_)
    ·refine aL (aC (aD (aT (aD (aA (aX Z Z (bP Z Z (aB (aC (aD (aA (aM aGa hM4 Z Z (fun b5 w5 M5=>(aB (aC (aD (aD (aA (aX Z Z (aB (aC (aT (mN 11 (iO (aD (aA (dB Z Z Z Z (rS 33 Z (by first | decide | omega) (aB (aC (aD (cU Z (aL (aC (aD (aT (aD (aA (aX Z Z ?_)))))))))))))))))))))))))))))))))))))))
     refine bP Z Z (aB (aC (aA (aX Z Z (dZ Z Z (aX Z Z (dI qM Z Z M5 (fO _ (i:Int) (by omega)) (fun w6 M6=>(aX Z Z (wq (fY Z Z (by omega) (by omega)) Z (wq (bM Z Z (by omega) (by omega)) Z (aS 41 (.int .i64 ((8+40*i:Nat):Int)) (iE (by omega)) (wq (fI (((8+40*i:Nat):Int)) (((n:Nat):Int)) lR Z ⟨_,Z⟩ Z (by omega) (by omega) (by omega)) Z (dI qE Z Z M6 (gQ _ _ _ _ ((ls.drop (8+40*i)).take (n - (8+40*i))) (Rd.subB (R.mem M6) (8+40*i) (n) (by omega) (by omega) hcap) (hB.sub _ _) (by omega)) (fun w7 M7 => ?_)))))))))))))))
     refine aS 43 (.int .u32 (eF ls (8+40*i))) (iE (iP (by omega))) (wq (fJ (0) fV Z Z Z (by decide)) Z (dN 1 (.int _ _) cA M7 Z Z Z Z Z Z (fun w8 M8=>(aB (dF (aC (aA (wq (bM Z Z (by first | decide | omega) (by first | decide | omega)) Z (aS 45 (.int .i64 1) (iE (by first | decide | omega)) (aX Z Z (aB (aC (iO (kR (fr:=[(0,.slice _ _ _),(2,.slice _ _ _),(3,.int .i64 0),(5,.slice _ _ _),(6,.int _ _),(7,.pointer _),(8,.int .i64 0),(28,.int _ _),(29,.int _ _),(32,.int .i64 1)]) (bN Z (bN Z (bN Z (bN Z (bN Z (bN Z (bN Z (bN Z (bN Z (bN Z eZ)))))))))) (fun ρ9 => ?_)))))))))))))))
     refine aD (aA (dB Z Z Z Z (rS 33 Z (by first | decide | omega) (aB (aC (aD (cU Z (aL (aC (aD (aT (aD (aA (aX Z Z (bP Z Z (aB (aC (aA (aX Z Z (dZ Z Z (aX Z Z (dI qM Z Z M8 (fO _ (i:Int) (by omega)) (fun w10 M10=>(aX Z Z (wq (fY Z Z (by omega) (by omega)) Z (wq (bM Z Z (by omega) (by omega)) Z ?_))))))))))))))))))))))))))
     refine aS 41 (.int .i64 ((8+40*i+4:Nat):Int)) (iE (by omega)) (wq (fI (((8+40*i+4:Nat):Int)) (((n:Nat):Int)) lR Z ⟨_,Z⟩ Z (by omega) (by omega) (by omega)) Z (dI qE Z Z M10 (gQ _ _ _ _ ((ls.drop (8+40*i+4)).take (n - (8+40*i+4))) (Rd.subB (R.mem M10) (8+40*i+4) (n) (by omega) (by omega) hcap) (hB.sub _ _) (by omega)) (fun w11 M11=>(aS 43 (.int .u32 (eF ls (8+40*i+4))) (iE (iP (by omega))) (wq (fJ (1) fV Z Z Z (by decide)) Z (dN 1 (.int _ _) cA M11 Z Z Z Z Z Z (fun w12 M12 => ?_)))))))
     refine aB (dF (aC (aA (wq (bM Z Z (by first | decide | omega) (by first | decide | omega)) Z (aS 45 (.int .i64 2) (iE (by first | decide | omega)) (aX Z Z (aB (aC (iO (kR (fr:=[(0,.slice _ _ _),(2,.slice _ _ _),(3,.int .i64 0),(5,.slice _ _ _),(6,.int _ _),(7,.pointer _),(8,.int .i64 1),(28,.int _ _),(29,.int _ _),(32,.int .i64 2)]) (bN Z (bN Z (bN Z (bN Z (bN Z (bN Z (bN Z (bN Z (bN Z (bN Z eZ)))))))))) (fun ρ13=>(aD (aA (dB Z Z Z Z (rS 33 Z (by first | decide | omega) (aB (aC (aD ?_))))))))))))))))))
     refine cU Z (aL (aC (aD (aT (aD (aA (aX Z Z (bP Z Z (aB (aC (aA (aX Z Z (dZ Z Z (aX Z Z (dI qM Z Z M12 (fO _ (i:Int) (by omega)) (fun w14 M14=>(aX Z Z (wq (fY Z Z (by omega) (by omega)) Z (wq (bM Z Z (by omega) (by omega)) Z (aS 41 (.int .i64 ((8+40*i+8:Nat):Int)) (iE (by omega)) (wq (fI (((8+40*i+8:Nat):Int)) (((n:Nat):Int)) lR Z ⟨_,Z⟩ Z (by omega) (by omega) (by omega)) Z (dI qE Z Z M14 (gQ _ _ _ _ ((ls.drop (8+40*i+8)).take (n - (8+40*i+8))) (Rd.subB (R.mem M14) (8+40*i+8) (n) (by omega) (by omega) hcap) (hB.sub _ _) (by omega)) (fun w15 M15 => ?_)))))))))))))))))))))))
     refine aS 43 (.int .u32 (eF ls (8+40*i+8))) (iE (iP (by omega))) (wq (fJ (2) fV Z Z Z (by decide)) Z (dN 1 (.int _ _) cA M15 Z Z Z Z Z Z (fun w16 M16=>(aB (dF (aC (aA (wq (bM Z Z (by first | decide | omega) (by first | decide | omega)) Z (aS 45 (.int .i64 3) (iE (by first | decide | omega)) (aX Z Z (aB (aC (iO (kR (fr:=[(0,.slice _ _ _),(2,.slice _ _ _),(3,.int .i64 0),(5,.slice _ _ _),(6,.int _ _),(7,.pointer _),(8,.int .i64 2),(28,.int _ _),(29,.int _ _),(32,.int .i64 3)]) (bN Z (bN Z (bN Z (bN Z (bN Z (bN Z (bN Z (bN Z (bN Z (bN Z eZ)))))))))) (fun ρ17 => ?_)))))))))))))))
     refine aD (aA (dB Z Z Z Z (rS 33 Z (by first | decide | omega) (aB (aC (aD (cU Z (aL (aC (aD (aT (aD (aA (aX Z Z (bP Z Z (aB (aC (aA (aX Z Z (dZ Z Z (aX Z Z (dI qM Z Z M16 (fO _ (i:Int) (by omega)) (fun w18 M18=>(aX Z Z (wq (fY Z Z (by omega) (by omega)) Z (wq (bM Z Z (by omega) (by omega)) Z ?_))))))))))))))))))))))))))
     refine aS 41 (.int .i64 ((8+40*i+12:Nat):Int)) (iE (by omega)) (wq (fI (((8+40*i+12:Nat):Int)) (((n:Nat):Int)) lR Z ⟨_,Z⟩ Z (by omega) (by omega) (by omega)) Z (dI qE Z Z M18 (gQ _ _ _ _ ((ls.drop (8+40*i+12)).take (n - (8+40*i+12))) (Rd.subB (R.mem M18) (8+40*i+12) (n) (by omega) (by omega) hcap) (hB.sub _ _) (by omega)) (fun w19 M19=>(aS 43 (.int .u32 (eF ls (8+40*i+12))) (iE (iP (by omega))) (wq (fJ (3) fV Z Z Z (by decide)) Z (dN 1 (.int _ _) cA M19 Z Z Z Z Z Z (fun w20 M20 => ?_)))))))
     refine aB (dF (aC (aA (wq (bM Z Z (by first | decide | omega) (by first | decide | omega)) Z (aS 45 (.int .i64 4) (iE (by first | decide | omega)) (aX Z Z (aB (aC (iO (kR (fr:=[(0,.slice _ _ _),(2,.slice _ _ _),(3,.int .i64 0),(5,.slice _ _ _),(6,.int _ _),(7,.pointer _),(8,.int .i64 3),(28,.int _ _),(29,.int _ _),(32,.int .i64 4)]) (bN Z (bN Z (bN Z (bN Z (bN Z (bN Z (bN Z (bN Z (bN Z (bN Z eZ)))))))))) (fun ρ21=>(aD (aA (dB Z Z Z Z (rS 33 Z (by first | decide | omega) (aB (aC (aD ?_))))))))))))))))))
     refine cU Z (aL (aC (aD (aT (aD (aA (aX Z Z (bP Z Z (aB (aC (aA (aX Z Z (dZ Z Z (aX Z Z (dI qM Z Z M20 (fO _ (i:Int) (by omega)) (fun w22 M22=>(aX Z Z (wq (fY Z Z (by omega) (by omega)) Z (wq (bM Z Z (by omega) (by omega)) Z (aS 41 (.int .i64 ((8+40*i+16:Nat):Int)) (iE (by omega)) (wq (fI (((8+40*i+16:Nat):Int)) (((n:Nat):Int)) lR Z ⟨_,Z⟩ Z (by omega) (by omega) (by omega)) Z (dI qE Z Z M22 (gQ _ _ _ _ ((ls.drop (8+40*i+16)).take (n - (8+40*i+16))) (Rd.subB (R.mem M22) (8+40*i+16) (n) (by omega) (by omega) hcap) (hB.sub _ _) (by omega)) (fun w23 M23 => ?_)))))))))))))))))))))))
     refine aS 43 (.int .u32 (eF ls (8+40*i+16))) (iE (iP (by omega))) (wq (fJ (4) fV Z Z Z (by decide)) Z (dN 1 (.int _ _) cA M23 Z Z Z Z Z Z (fun w24 M24=>(aB (dF (aC (aA (wq (bM Z Z (by first | decide | omega) (by first | decide | omega)) Z (aS 45 (.int .i64 5) (iE (by first | decide | omega)) (aX Z Z (aB (aC (iO (kR (fr:=[(0,.slice _ _ _),(2,.slice _ _ _),(3,.int .i64 0),(5,.slice _ _ _),(6,.int _ _),(7,.pointer _),(8,.int .i64 4),(28,.int _ _),(29,.int _ _),(32,.int .i64 5)]) (bN Z (bN Z (bN Z (bN Z (bN Z (bN Z (bN Z (bN Z (bN Z (bN Z eZ)))))))))) (fun ρ25 => ?_)))))))))))))))
     refine aD (aA (dB Z Z Z Z (rS 33 Z (by first | decide | omega) (aB (aC (aD (cU Z (aL (aC (aD (aT (aD (aA (aX Z Z (bP Z Z (aB (aC (aA (aX Z Z (dZ Z Z (aX Z Z (dI qM Z Z M24 (fO _ (i:Int) (by omega)) (fun w26 M26=>(aX Z Z (wq (fY Z Z (by omega) (by omega)) Z (wq (bM Z Z (by omega) (by omega)) Z ?_))))))))))))))))))))))))))
     refine aS 41 (.int .i64 ((8+40*i+20:Nat):Int)) (iE (by omega)) (wq (fI (((8+40*i+20:Nat):Int)) (((n:Nat):Int)) lR Z ⟨_,Z⟩ Z (by omega) (by omega) (by omega)) Z (dI qE Z Z M26 (gQ _ _ _ _ ((ls.drop (8+40*i+20)).take (n - (8+40*i+20))) (Rd.subB (R.mem M26) (8+40*i+20) (n) (by omega) (by omega) hcap) (hB.sub _ _) (by omega)) (fun w27 M27=>(aS 43 (.int .u32 (eF ls (8+40*i+20))) (iE (iP (by omega))) (wq (fJ (5) fV Z Z Z (by decide)) Z (dN 1 (.int _ _) cA M27 Z Z Z Z Z Z (fun w28 M28 => ?_)))))))
     refine aB (dF (aC (aA (wq (bM Z Z (by first | decide | omega) (by first | decide | omega)) Z (aS 45 (.int .i64 6) (iE (by first | decide | omega)) (aX Z Z (aB (aC (iO (kR (fr:=[(0,.slice _ _ _),(2,.slice _ _ _),(3,.int .i64 0),(5,.slice _ _ _),(6,.int _ _),(7,.pointer _),(8,.int .i64 5),(28,.int _ _),(29,.int _ _),(32,.int .i64 6)]) (bN Z (bN Z (bN Z (bN Z (bN Z (bN Z (bN Z (bN Z (bN Z (bN Z eZ)))))))))) (fun ρ29=>(aD (aA (dB Z Z Z Z (rS 33 Z (by first | decide | omega) (aB (aC (aD ?_))))))))))))))))))
     refine cU Z (aL (aC (aD (aT (aD (aA (aX Z Z (bP Z Z (aB (aC (aA (aX Z Z (dZ Z Z (aX Z Z (dI qM Z Z M28 (fO _ (i:Int) (by omega)) (fun w30 M30=>(aX Z Z (wq (fY Z Z (by omega) (by omega)) Z (wq (bM Z Z (by omega) (by omega)) Z (aS 41 (.int .i64 ((8+40*i+24:Nat):Int)) (iE (by omega)) (wq (fI (((8+40*i+24:Nat):Int)) (((n:Nat):Int)) lR Z ⟨_,Z⟩ Z (by omega) (by omega) (by omega)) Z (dI qE Z Z M30 (gQ _ _ _ _ ((ls.drop (8+40*i+24)).take (n - (8+40*i+24))) (Rd.subB (R.mem M30) (8+40*i+24) (n) (by omega) (by omega) hcap) (hB.sub _ _) (by omega)) (fun w31 M31 => ?_)))))))))))))))))))))))
     refine aS 43 (.int .u32 (eF ls (8+40*i+24))) (iE (iP (by omega))) (wq (fJ (6) fV Z Z Z (by decide)) Z (dN 1 (.int _ _) cA M31 Z Z Z Z Z Z (fun w32 M32=>(aB (dF (aC (aA (wq (bM Z Z (by first | decide | omega) (by first | decide | omega)) Z (aS 45 (.int .i64 7) (iE (by first | decide | omega)) (aX Z Z (aB (aC (iO (kR (fr:=[(0,.slice _ _ _),(2,.slice _ _ _),(3,.int .i64 0),(5,.slice _ _ _),(6,.int _ _),(7,.pointer _),(8,.int .i64 6),(28,.int _ _),(29,.int _ _),(32,.int .i64 7)]) (bN Z (bN Z (bN Z (bN Z (bN Z (bN Z (bN Z (bN Z (bN Z (bN Z eZ)))))))))) (fun ρ33 => ?_)))))))))))))))
     refine aD (aA (dB Z Z Z Z (rS 33 Z (by first | decide | omega) (aB (aC (aD (cU Z (aL (aC (aD (aT (aD (aA (aX Z Z (bP Z Z (aB (aC (aA (aX Z Z (dZ Z Z (aX Z Z (dI qM Z Z M32 (fO _ (i:Int) (by omega)) (fun w34 M34=>(aX Z Z (wq (fY Z Z (by omega) (by omega)) Z (wq (bM Z Z (by omega) (by omega)) Z ?_))))))))))))))))))))))))))
     refine aS 41 (.int .i64 ((8+40*i+28:Nat):Int)) (iE (by omega)) (wq (fI (((8+40*i+28:Nat):Int)) (((n:Nat):Int)) lR Z ⟨_,Z⟩ Z (by omega) (by omega) (by omega)) Z (dI qE Z Z M34 (gQ _ _ _ _ ((ls.drop (8+40*i+28)).take (n - (8+40*i+28))) (Rd.subB (R.mem M34) (8+40*i+28) (n) (by omega) (by omega) hcap) (hB.sub _ _) (by omega)) (fun w35 M35=>(aS 43 (.int .u32 (eF ls (8+40*i+28))) (iE (iP (by omega))) (wq (fJ (7) fV Z Z Z (by decide)) Z (dN 1 (.int _ _) cA M35 Z Z Z Z Z Z (fun w36 M36 => ?_)))))))
     refine aB (dF (aC (aA (wq (bM Z Z (by first | decide | omega) (by first | decide | omega)) Z (aS 45 (.int .i64 8) (iE (by first | decide | omega)) (aX Z Z (aB (aC (iO (kR (fr:=[(0,.slice _ _ _),(2,.slice _ _ _),(3,.int .i64 0),(5,.slice _ _ _),(6,.int _ _),(7,.pointer _),(8,.int .i64 7),(28,.int _ _),(29,.int _ _),(32,.int .i64 8)]) (bN Z (bN Z (bN Z (bN Z (bN Z (bN Z (bN Z (bN Z (bN Z (bN Z eZ)))))))))) (fun ρ37=>(aD (aA (dB Z Z Z Z (rS 33 Z (by first | decide | omega) (aB (aC (aD ?_))))))))))))))))))
     refine cU Z (aL (aC (aD (aT (aD (aA (aX Z Z (bP Z Z (aB (aC (aA (aX Z Z (dZ Z Z (aX Z Z (dI qM Z Z M36 (fO _ (i:Int) (by omega)) (fun w38 M38=>(aX Z Z (wq (fY Z Z (by omega) (by omega)) Z (wq (bM Z Z (by omega) (by omega)) Z (aS 41 (.int .i64 ((8+40*i+32:Nat):Int)) (iE (by omega)) (wq (fI (((8+40*i+32:Nat):Int)) (((n:Nat):Int)) lR Z ⟨_,Z⟩ Z (by omega) (by omega) (by omega)) Z (dI qE Z Z M38 (gQ _ _ _ _ ((ls.drop (8+40*i+32)).take (n - (8+40*i+32))) (Rd.subB (R.mem M38) (8+40*i+32) (n) (by omega) (by omega) hcap) (hB.sub _ _) (by omega)) (fun w39 M39 => ?_)))))))))))))))))))))))
     refine aS 43 (.int .u32 (eF ls (8+40*i+32))) (iE (iP (by omega))) (wq (fJ (8) fV Z Z Z (by decide)) Z (dN 1 (.int _ _) cA M39 Z Z Z Z Z Z (fun w40 M40=>(aB (dF (aC (aA (wq (bM Z Z (by first | decide | omega) (by first | decide | omega)) Z (aS 45 (.int .i64 9) (iE (by first | decide | omega)) (aX Z Z (aB (aC (iO (kR (fr:=[(0,.slice _ _ _),(2,.slice _ _ _),(3,.int .i64 0),(5,.slice _ _ _),(6,.int _ _),(7,.pointer _),(8,.int .i64 8),(28,.int _ _),(29,.int _ _),(32,.int .i64 9)]) (bN Z (bN Z (bN Z (bN Z (bN Z (bN Z (bN Z (bN Z (bN Z (bN Z eZ)))))))))) (fun ρ41 => ?_)))))))))))))))
     refine aD (aA (dB Z Z Z Z (rS 33 Z (by first | decide | omega) (aB (aC (aD (cU Z (aL (aC (aD (aT (aD (aA (aX Z Z (bP Z Z (aB (aC (aA (aX Z Z (dZ Z Z (aX Z Z (dI qM Z Z M40 (fO _ (i:Int) (by omega)) (fun w42 M42=>(aX Z Z (wq (fY Z Z (by omega) (by omega)) Z (wq (bM Z Z (by omega) (by omega)) Z ?_))))))))))))))))))))))))))
     refine aS 41 (.int .i64 ((8+40*i+36:Nat):Int)) (iE (by omega)) (wq (fI (((8+40*i+36:Nat):Int)) (((n:Nat):Int)) lR Z ⟨_,Z⟩ Z (by omega) (by omega) (by omega)) Z (dI qE Z Z M42 (gQ _ _ _ _ ((ls.drop (8+40*i+36)).take (n - (8+40*i+36))) (Rd.subB (R.mem M42) (8+40*i+36) (n) (by omega) (by omega) hcap) (hB.sub _ _) (by omega)) (fun w43 M43=>(aS 43 (.int .u32 (eF ls (8+40*i+36))) (iE (iP (by omega))) (wq (fJ (9) fV Z Z Z (by decide)) Z (dN 1 (.int _ _) cA M43 Z Z Z Z Z Z (fun w44 M44 => ?_)))))))
     refine aB (dF (aC (aA (wq (bM Z Z (by first | decide | omega) (by first | decide | omega)) Z (aS 45 (.int .i64 10) (iE (by first | decide | omega)) (aX Z Z (aB (aC (iO (kR (fr:=[(0,.slice _ _ _),(2,.slice _ _ _),(3,.int .i64 0),(5,.slice _ _ _),(6,.int _ _),(7,.pointer _),(8,.int .i64 9),(28,.int _ _),(29,.int _ _),(32,.int .i64 10)]) (bN Z (bN Z (bN Z (bN Z (bN Z (bN Z (bN Z (bN Z (bN Z (bN Z eZ)))))))))) (fun ρ45=>(aD (aA (dB Z Z Z Z (rP 33 Z (by first | decide | omega) (aB (aC (aD ?_))))))))))))))))))
     refine bW rfl (cO (dA (dA (eV (aC (aA (dZ rfl rfl (wq (bB 1 aOc M44 rfl rfl rfl) rfl (dI bLq rfl rfl M44 (aGi _ _ _ _ _ _ _ _ _ _ _ (bLf hB (a:=8+40*i) (by omega))) (fun w46 M46=>(aS 48 ((.agg (aF (lI ls (8+40*i))).toArray)) rfl (cP [.agg (List.toArray _)] [aF (lI ls (8+40*i))] rfl fC M46 rfl rfl rfl rfl (cW rfl) (by decide) (fun b47 w47 M47=>(dL 0 [aF (lI ls (8+40*i))] fC M47 rfl rfl rfl rfl rfl hq rfl (by simp [aF,Go.Bil.one]) (cZ.ofMem 2 M47 rfl) (by omega) (fun A48 c48 e48 w48 M48 hR48 => ?_)))))))))))))))
     refine eX Z Z (aB (dF (aC (aA (wq (bM Z Z (by omega) (by omega)) Z (aX Z Z (aB ?_)))))))
     refine cR (i+1,⟨A48,q.n+1,c48,e48⟩) (bN Z (bN Z eZ)) (cT Z (cT Z (cT Z (cT Z kB)))) ?_ ?_
     ·exact ⟨⟨by omega,by rw [aTe,List.map_append];exact hR48⟩,M48.keep [true,false,false]⟩
     ·(show N - (i+1) < N - i;omega)
    ·obtain rfl:i=N:=by omega
     refine cO (dA (cX (eV (aC (aD (aD (aA (dZ Z Z (dU bEo Z Z (aAm _ _ _ _ (mR ls i) (hq.rd hM4 (aV (i:=0) Z))) ?_)))))))))
     rintro v49 w49 ⟨rfl,hb49⟩
     have M49:=hM4.callB hb49
     refine bP Z Z (aB (aC (aD (aA (aX Z Z (dB Z Z Z Z (aB (aC ?_))))))))
     refine bA Z (fun h55 => ?_) (fun h55 => ?_)
     ·refine aD (aA (aX Z Z (eX Z Z (bP Z Z (aB (aC (aP (cL (gY (.slice _ _ _) (.int _ _) Z Z ?_)))))))))
      have hd:=bAv hfm hN h55
      exact ⟨⟨none,0,0,(none,default)⟩,by rw [hd],by rw [hd];exact aR.nil _ _ _,(M49.keep [false]).dummy default⟩
     ·refine aL (aC (aD (aA (dZ Z Z (eX Z Z (bP Z Z (aB (aC (aP (gY (.slice _ _ _) (.int _ _) Z Z ?_))))))))))
      have hd:=aZl hfm hN (Decidable.not_not.1 h55)
      exact ⟨q,by rw [hd],by rw [hd];exact hq,M49⟩
theorem aAe (w:World) (A:Option Addr) (n c:Nat) (xs:List Int) (R:Rd w 1 A n (xs.map bG)) (B:Option Addr) (m c':Nat) (ys:List Int) (R':Rd w 1 B m (ys.map bG)) :
  Calls prog 23 #[.slice A n c,.slice B m c'] w (Rb w (.bool (decide (xs=ys)))):=by
 have hlen:xs.length=n:=by simpa using R.len
 have hlen':ys.length=m:=by simpa using R'.len
 have hbd:=R.bound
 have hbd':=R'.bound
 refine aH #[.tmp 4] 26 func23 Z results23 ntmps23 Z ?_
 have M0:=Mem.refl w
 refine aD (aA (wq (aI (.bool false) Z) Z (aB (aC (aD (aD (aA (dZ Z Z (wq (cG underlying31 Z) Z (dZ Z Z (wq (cG underlying31 Z) Z (dB Z Z Z Z (aB (aC ?_))))))))))))))
 refine bA Z (fun h10 => ?_) (fun h10 => ?_)
 ·refine aD (aA (wq (aI (.bool false) Z) Z (aB (aC (aP (cL (cB (.bool false) Z ?_)))))))
  exact ⟨bF (fun e=>h10 (by rw [← hlen,← hlen',e])),M0.below⟩
 ·have hnm:n=m:=by omega
  refine aL (aC (aD (aD (aA (bP Z Z (aB (aC (aT (dK (σ:=Nat) [0,1] (fun k=>[(5,.int .i64 (k:Int))]) (fun k w'=>(k≤n∧∀ (j:Nat) (x:Int),j < k→xs[j]? = some x→ys[j]? = some x)∧Mem w [] [] w') (fun k=>n - k) 0 (bN Z eZ) (⟨⟨by omega,fun j c hj=>by omega⟩,M0⟩) ?_)))))))))
  rintro k ρ1 w1 ⟨⟨hk,hne⟩,hM1⟩
  refine aD (aD (aA (aX Z Z (dZ Z Z (wq (cG underlying31 Z) Z (dB Z Z Z Z (aB (aC ?_))))))))
  refine bA Z (fun h14 => ?_) (fun h14 => ?_)
  ·obtain ⟨xb,hxb⟩:=cF (xs:=xs) (k:=k) hlen (by omega)
   obtain ⟨yb,hyb⟩:=cF (xs:=ys) (k:=k) hlen' (by omega)
   refine aL (aC (aD (aT (aD (vB [(0,0),(1,0),(2,1),(3,1),(4,0),(5,0),(6,1),(7,1),(8,0)] mixed Z (by kernel_rfl) (fun w2 hb2 hh2 => ?_))))))
   have M2:=hM1.drew hb2 hh2
   refine sH Z Z Z (gR Z Z Z (bS Z Z Z (bR (k) lR Z Z Z ((R.mem M2).below_len (aJ bG hxb)) ((R.mem M2).someK (aJ bG hxb))) (bS Z Z Z (gL (.int _ _) aSy (R.mem M2) (aJ bG hxb) Z) (sH Z Z Z (gR Z Z Z (bS Z Z Z (bR (k) lR Z Z Z ((R'.mem M2).below_len (aJ bG hyb)) ((R'.mem M2).someK (aJ bG hyb))) (bS Z Z Z (gL (.int _ _) aSy (R'.mem M2) (aJ bG hyb) Z) (aU Z Z Z (fun _=>dP (.bool (decide _)) Z Z Z) (bZ (aC ?_))))))))))
   refine bA Z (fun h25 => ?_) (fun h25 => ?_)
   ·refine aD (aA (wq (aI (.bool false) Z) Z (aB (aC (aP (kA (cL (vX (kA (cL (cB (.bool false) Z ?_)))))))))))
    exact ⟨bF (fun e=>h25 (by rw [e] at hxb;rw [hxb] at hyb;injection hyb)),M2.below⟩
   ·refine aL (dF (aC (aA (aX Z Z (wq (bM Z Z (by omega) (by omega)) Z (bP Z Z (aB ?_)))))))
    refine cR (k+1) (bN Z eZ) (cT Z (cT Z kB)) ?_ ?_
    ·exact ⟨⟨by omega,rJ (p:=fun j x=>ys[j]? = some x) hne hxb (by rw [hyb,Decidable.not_not.1 h25])⟩,M2⟩
    ·omega
  ·refine cO (dA (cX (eV (aC (aD (aA (wq (aI (.bool true) Z) Z (aB (aC (aP (cB (.bool true) Z ?_)))))))))))
   exact ⟨bT (aYc hlen hlen' hnm (fun j x hj hx=>hne j x (by omega) hx)),hM1.below⟩
end Go.Proofs.YtaoaknafiegfoaaGreatDoor
