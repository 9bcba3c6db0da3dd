/- Part of the proof of a law of this seat (6 texts). No conditions. -/
import Derived.Test.YtpcloigancpnbaaGreatDoorK34
import Derived.Test.YtpcloigancpnbaaGreatDoorK24
set_option linter.unusedVariables false
set_option linter.unusedSimpArgs false
set_option linter.unnecessarySimpa false
set_option maxHeartbeats 100000000
namespace Go.Proofs.YtpcloigancpnbaaGreatDoor
open Go.Bil
open Go.RowKit (Below)
open Go.Proofs
open Go.Proofs.Tryz
theorem aXq (w:World) (b:Nat) (A:Option Addr) (n c:Nat) (p:Option Nat) (er em:eL) (m:List Body) (hs:StoreIs 43 A n c p er em m) (hO:Own [(some b,bc [.slice A n c,.map p] 73),er,em] w) (x:Body) :
  Calls prog 68 #[.pointer (some ⟨b,0,none⟩),(.agg (aF x).toArray)] w (gH (fun v w'=>v=.int .i64 (oT m x).2∧∃ A' n' c' p' er' em',StoreIs 43 A' n' c' p' er' em' (oT m x).1∧Mem w (bY [(some b,bc [.slice A n c,.map p] 73),er,em]) [(some b,bc [.slice A' n' c',.map p'] 73),er',em'] w')):=by
 have hlen:m.length=n:=by simpa using hs.row.1
 have hcap:=hs.cap
 refine aI #[.tmp 4] 62 func68 Z results68 ntmps68 Z ?_
 have M0:=hO.mem
 refine aE (aA (bN (.agg (.mk _)) M0 Z Z Z (fun b1 w1 M1=>(bK Z Z (aB (aC (aE (aE (aA (wq (aH (.pointer _) Z) Z (wq (gX false underlying104 Z Z) Z (aB (aC (cG Z (aM (aC (aE (aE (aA (wq (aX 3 bQ M1 Z Z Z) Z (dN bDn Z Z M1 (xL _ x) (fun w2 M2=>(bK Z Z (aB (aC (aE (aA (aQ Z Z (cX Z Z Z Z (aB (aC ?_)))))))))))))))))))))))))))))))
 refine aU Z (fun h13 => ?_) (fun h13 => ?_)
 ·refine aE (aA (aQ Z Z (bK Z Z (aB (aC (aO (cO (cI (.int _ _) Z ?_))))))))
  have ha:oT m x=(m,check x):=by unfold oT;rw [if_pos h13]
  exact ⟨by rw [ha],A,n,c,p,er,em,by rw [ha];exact hs,M2.keep [true,true,true,false]⟩
 ·refine aM (aC (aE (aE (fW [(0,0),(1,0),(2,0),(3,1),(4,0),(5,1),(6,1),(7,0),(8,0),(9,0),(10,0),(11,0)] mixed M2 Z (by kernel_rfl) (fun w3 M3=>(aV Z Z Z (fun _=>aH (.pointer _) Z) (aV Z Z Z (fun _=>bL Z) (aV Z Z Z (fun _=>aD 1 oA Z) (bP Z Z Z (aK 0 (.map _) xA M3 Z Z Z) (aV Z Z Z (fun _=>aD 0 dT Z) (bP Z Z Z (aK 3 (.int _ _) bV M3 Z Z Z) (bP Z Z Z (kX (enc:=(Value.int .i64)) 0 2 aCl zv3 M3 Z hs.map Z Z) (aV Z Z Z (fun _=>aH (.tuple (List.toArray _)) Z) ?_)))))))))))))
  refine aV Z Z Z (fun _=>bM (.int _ _) Z Z) (aV Z Z Z (fun _=>bM (.bool _) Z Z) (mW Z Z Z (aV Z Z Z (fun _=>aJ (.bool _) Z) (bS (aC (aE (aA (wq (aH (.bool _) Z) Z (aB (aC ?_))))))))))
  refine iL _ Z (fun h25 => ?_) (fun h25 => ?_)
  ·have hf:0≤dO x.key m:=by rw [aFx] at h25;exact of_decide_eq_true h25
   refine aE (aA (bK Z Z (aB (aC (aO (cO (cI (.int _ _) Z ?_)))))))
   have ha:oT m x=(m,10):=by unfold oT;rw [if_neg h13,if_pos hf]
   exact ⟨by rw [ha],A,n,c,p,er,em,by rw [ha];exact hs,M3.keep [true,true,true,false]⟩
  ·have hf:¬ (0≤dO x.key m):=fun h=>by rw [aFx,decide_eq_true h] at h25;simp at h25
   refine aM (aC (aE (aE (aA (wq (aH (.pointer _) Z) Z (wq (bL Z) Z (wq (aD 0 jR Z) Z (wq (aK 0 (.slice _ _ _) gM M3 Z Z Z) Z (wq (cK underlying46 Z) Z (cX Z Z Z Z (aB (aC ?_))))))))))))
   refine aU Z (fun h31 => ?_) (fun h31 => ?_)
   ·refine aE (aA (bK Z Z (aB (aC (aO (cO (cI (.int _ _) Z ?_)))))))
    have ha:oT m x=(m,12):=by unfold oT;rw [if_neg h13,if_neg hf,if_pos (by omega)]
    exact ⟨by rw [ha],A,n,c,p,er,em,by rw [ha];exact hs,M3.keep [true,true,true,false]⟩
   ·refine aM (aC (aE (aE (aA (wq (aH (.pointer _) Z) Z (wq (bL Z) Z (wq (aD 1 oA Z) Z (wq (aK 0 (.map _) xA M3 Z Z Z) Z (wq (aTo _ underlying67 Z Z) Z (aB (aC ?_)))))))))))
    refine iL _ Z (fun h36 => ?_) (fun h36 => ?_)
    ·have hpn:p=none:=by cases p <;> simp_all
     have hnone:∀ k,yD m k=(fun _=>none) k:=fun k=>by subst hpn;rcases hs.map with ⟨_,_,h⟩ | ⟨_,_,h,_⟩;exact h k;cases h
     refine aA (wq (aH (.pointer _) Z) Z (nS M3 Z Z (fun b4 w4 M4 => ?_)))
     have M5:=M4.replace (i:=2) (Nat.le_of_ble_eq_true rfl)
     refine wq (bL Z) Z (wq (aD 1 oA Z) Z (dA 0 (.map _) xA M5 Z Z Z Z Z Z (fun w6 M6=>(aB (aC (aE (fW [(0,0),(1,0),(2,0),(3,1),(4,0),(5,1),(6,0),(7,0),(8,0),(9,1),(10,0),(11,2)] mixed M6 Z (by kernel_rfl) (fun w7 M7=>(aV Z Z Z (fun _=>aH (.pointer _) Z) (aV Z Z Z (fun _=>bL Z) (aV Z Z Z (fun _=>aD 1 oA Z) (bP Z Z Z (aK 0 (.map _) xA M7 Z Z Z) (aV Z Z Z (fun _=>aD 0 dT Z) (bP Z Z Z (aK 3 (.int _ _) bV M7 Z Z Z) ?_))))))))))))))
     refine aV Z Z Z (fun _=>aH (.pointer _) Z) (aV Z Z Z (fun _=>bL Z) (aV Z Z Z (fun _=>aD 0 jR Z) (bP Z Z Z (aK 0 (.slice _ _ _) gM M7 Z Z Z) (aV Z Z Z (fun _=>cK underlying46 Z) (dI [true,true,true] Z (by kernel_rfl) (lK (enc:=(Value.int .i64)) 2 aCl M7 Z Z ((kT.empty _ _ b4).congr hnone) Z Z Z Z (fun e8 w8 hm8 M8 => ?_)))))))
     refine aB (aC ⟨dJ, ?_⟩)
     refine bS (aC (aE (fW [(0,0),(1,0),(2,0),(3,0),(4,1),(5,1),(6,2),(7,2),(8,0),(9,0),(10,2)] mixed M8 Z (by kernel_rfl) (fun w9 M9=>(aV Z Z Z (fun _=>aH (.pointer _) Z) (aV Z Z Z (fun _=>aH (.pointer _) Z) (aV Z Z Z (fun _=>bL Z) (aV Z Z Z (fun _=>aD 0 jR Z) (bP Z Z Z (aK 0 (.slice _ _ _) gM M9 Z Z Z) (bP Z Z Z (aX 3 bQ M9 Z Z Z) (dI [true,false] Z (by kernel_rfl) (cC [.agg (List.toArray _)] _ Z dP M9 Z Z Z Z (cU Z) (by decide) (fun b10 w10 M10 => ?_)))))))))))))
     refine aB (aC ⟨(dS (bI Z (aK 0 (.slice _ _ _) gM M10 Z Z Z)) dJ), ?_⟩)
     refine dI [true] rfl (by kernel_rfl) (cW 1 [aF x] dP M10 rfl rfl rfl rfl rfl hs.row rfl (by simpa using ⟨iP x,iQ x⟩) (dL.ofMem 4 M10 rfl) (by omega) (fun A11 c11 e11 w11 M11 hR11 => ?_))
     refine aB (aC ⟨dJ, ?_⟩)
     refine aV Z Z Z (fun _=>bL Z) (aV Z Z Z (fun _=>aD 0 jR Z) (dI [] Z (by kernel_rfl) (dA 0 (.slice _ _ _) gM M11 Z Z Z Z Z Z (fun w12 M12 => ?_))))
     refine aB (aC ⟨dJ, ?_⟩)
     refine bS (aC (aE (aA (bK Z Z (aB (aC (aO (cI (.int _ _) Z ?_))))))))
     have ha:oT m x=(m++[x],0):=by unfold oT;rw [if_neg h13,if_neg hf,if_neg (by omega)]
     have hall:=aLm (x:=x) ⟨hs.keys,hs.cap,hs.ok⟩
     rw [ha] at hall
     obtain ⟨hk',hc',ho'⟩:=hall
     have hix:=aPq hs.keys (x:=x) (by omega)
     rw [hlen] at hix
     exact ⟨by rw [ha],_,_,_,_,_,_,by rw [ha];exact ⟨(by simpa using hR11),(hm8.congr hix),hk',hc',ho'⟩,M12.keep [true,true,true,false,false]⟩
    ·have hps:p.isSome=true:=by cases p <;> simp_all
     refine aM (aC (aE (fW [(0,0),(1,0),(2,0),(3,1),(4,0),(5,1),(6,0),(7,0),(8,0),(9,1),(10,0),(11,2)] mixed M3 Z (by kernel_rfl) (fun w13 M13=>(aV Z Z Z (fun _=>aH (.pointer _) Z) (aV Z Z Z (fun _=>bL Z) (aV Z Z Z (fun _=>aD 1 oA Z) (bP Z Z Z (aK 0 (.map _) xA M13 Z Z Z) (aV Z Z Z (fun _=>aD 0 dT Z) (bP Z Z Z (aK 3 (.int _ _) bV M13 Z Z Z) (aV Z Z Z (fun _=>aH (.pointer _) Z) (aV Z Z Z (fun _=>bL Z) (aV Z Z Z (fun _=>aD 0 jR Z) ?_)))))))))))))
     refine bP Z Z Z (aK 0 (.slice _ _ _) gM M13 Z Z Z) (aV Z Z Z (fun _=>cK underlying46 Z) (dI [true,true,true] Z (by kernel_rfl) (lK (enc:=(Value.int .i64)) 2 aCl M13 Z Z hs.map hps Z Z Z (fun e14 w14 hm14 M14 => ?_))))
     refine aB (aC ⟨dJ, ?_⟩)
     refine bS (aC (aE (fW [(0,0),(1,0),(2,0),(3,0),(4,1),(5,1),(6,2),(7,2),(8,0),(9,0),(10,2)] mixed M14 Z (by kernel_rfl) (fun w15 M15=>(aV Z Z Z (fun _=>aH (.pointer _) Z) (aV Z Z Z (fun _=>aH (.pointer _) Z) (aV Z Z Z (fun _=>bL Z) (aV Z Z Z (fun _=>aD 0 jR Z) (bP Z Z Z (aK 0 (.slice _ _ _) gM M15 Z Z Z) (bP Z Z Z (aX 3 bQ M15 Z Z Z) (dI [true,false] Z (by kernel_rfl) (cC [.agg (List.toArray _)] _ Z dP M15 Z Z Z Z (cU Z) (by decide) (fun b16 w16 M16 => ?_)))))))))))))
     refine aB (aC ⟨(dS (bI Z (aK 0 (.slice _ _ _) gM M16 Z Z Z)) dJ), ?_⟩)
     refine dI [true] rfl (by kernel_rfl) (cW 1 [aF x] dP M16 rfl rfl rfl rfl rfl hs.row rfl (by simpa using ⟨iP x,iQ x⟩) (dL.ofMem 4 M16 rfl) (by omega) (fun A17 c17 e17 w17 M17 hR17 => ?_))
     refine aB (aC ⟨dJ, ?_⟩)
     refine aV Z Z Z (fun _=>bL Z) (aV Z Z Z (fun _=>aD 0 jR Z) (dI [] Z (by kernel_rfl) (dA 0 (.slice _ _ _) gM M17 Z Z Z Z Z Z (fun w18 M18 => ?_))))
     refine aB (aC ⟨dJ, ?_⟩)
     refine bS (aC (aE (aA (bK Z Z (aB (aC (aO (cI (.int _ _) Z ?_))))))))
     have ha:oT m x=(m++[x],0):=by unfold oT;rw [if_neg h13,if_neg hf,if_neg (by omega)]
     have hall:=aLm (x:=x) ⟨hs.keys,hs.cap,hs.ok⟩
     rw [ha] at hall
     obtain ⟨hk',hc',ho'⟩:=hall
     have hix:=aPq hs.keys (x:=x) (by omega)
     rw [hlen] at hix
     exact ⟨by rw [ha],_,_,_,_,_,_,by rw [ha];exact ⟨(by simpa using hR17),(hm14.congr hix),hk',hc',ho'⟩,M18.keep [true,true,true,false,false]⟩
theorem bLv (w:World) (b:Nat) (A:Option Addr) (n c:Nat) (p:Option Nat) (er em:eL) (m:List Body) (hs:StoreIs 43 A n c p er em m) (hO:Own [(some b,bc [.slice A n c,.map p] 73),er,em] w) (key:Int) :
  Calls prog 34 #[.pointer (some ⟨b,0,none⟩),.int .u32 key] w (gH (fun v w'=>(∃ x,v=.tuple #[.agg (aF x).toArray,.int .i64 (aFt m key).2]∧x=(aFt m key).1)∧Mem w (bY [(some b,bc [.slice A n c,.map p] 73),er,em]) [(some b,bc [.slice A n c,.map p] 73),er,em] w')):=by
 have hlen:m.length=n:=by simpa using hs.row.1
 have hcap:=hs.cap
 refine aI #[.cell 4 43,.tmp 5] 30 func34 Z results34 ntmps34 Z ?_
 have M0:=hO.mem
 refine aE (aA (aR fV M0 Z Z (fun b1 w1 M1=>(bK Z Z (aB (aC (aE (aE (aA (wq (aH (.pointer _) Z) Z (wq (gX false underlying104 Z Z) Z (aB (aC (cG Z (aM (aC (aE (aA (wq (aH (.pointer _) Z) Z (wq (bL Z) Z (wq (aD 1 oA Z) Z (wq (aK 0 (.map _) xA M1 Z Z Z) Z (aQ Z Z (wq (kX (enc:=(Value.int .i64)) 0 2 aCl zv3 M1 Z hs.map Z Z) Z (wq (aH (.tuple (List.toArray _)) Z) Z ?_)))))))))))))))))))))))))
 refine wq (bM (.int _ _) Z Z) Z (wq (bM (.bool _) Z Z) Z (bK Z Z (wq (aJ (.bool _) Z) Z (aB (aC (aE (aE (aA (wq (aH (.bool _) Z) Z (wq (gR _ Z Z) Z (aB (aC ?_))))))))))))
 refine iL _ Z (fun h21 => ?_) (fun h21 => ?_)
 ·have hi:yD m key=none:=by cases h:yD m key <;> simp_all
  refine aE (aA (wq (cB [] _ uU Z Z) Z (bG 3 _ bQ M1 Z Z Z Z Z (aS Z) Z (fun w2 M2=>(bK Z Z (aB (aC (aO (cO (tH (v2:=.int _ _) 3 bQ M2 Z Z Z Z ?_))))))))))
  exact ⟨⟨⟨0,0,0,0,0,0,0,0,0,0⟩,by rw [aKb hi];rfl,by rw [aKb hi]⟩,M2.keep [true,true,true,false]⟩
 ·rcases nO key m with ⟨hi,_⟩ | ⟨i,bi,hbi,hbk,hi⟩
  ·simp [hi] at h21
  refine aM (aC (aE (aA (wq (aH (.pointer _) Z) Z (wq (bL Z) Z (wq (aD 0 jR Z) Z (wq (aK 0 (.slice _ _ _) gM M1 Z Z Z) Z (aQ Z Z (wq (bJ (i) dP Z Z (by rw [hi];rfl) ((hs.row.rd M1 (bA (i:=1) Z)).below_len (aG aF hbi)) ((hs.row.rd M1 (bA (i:=1) Z)).someK (aG aF hbi))) Z (wq (dW _ bQ (hs.row.rd M1 (bA (i:=1) Z)) (aG aF hbi) Z) Z (bG 3 _ bQ M1 Z Z Z Z Z (aS Z) Z (fun w3 M3=>(bK Z Z (aB (aC (aO (tH (v2:=.int _ _) 3 bQ M3 Z Z Z Z ?_)))))))))))))))))
  exact ⟨⟨bi,by rw [aAx hi hbi],by rw [aAx hi hbi]⟩,M3.keep [true,true,true,false]⟩
theorem bLw (w:World) (b:Nat) (A:Option Addr) (n c:Nat) (p:Option Nat) (er em:eL) (m:List Body) (hs:StoreIs 43 A n c p er em m) (hO:Own [(some b,bc [.slice A n c,.map p] 73),er,em] w) (x:Body) :
  Calls prog 80 #[.pointer (some ⟨b,0,none⟩),(.agg (aF x).toArray)] w (gH (fun v w'=>v=.int .i64 (tK m x).2∧∃ A' n' c' p' er' em',StoreIs 43 A' n' c' p' er' em' (tK m x).1∧Mem w (bY [(some b,bc [.slice A n c,.map p] 73),er,em]) [(some b,bc [.slice A' n' c',.map p'] 73),er',em'] w')):=by
 have hlen:m.length=n:=by simpa using hs.row.1
 have hcap:=hs.cap
 refine aI #[.tmp 4] 34 func80 Z results80 ntmps80 Z ?_
 have M0:=hO.mem
 refine aE (aA (bN (.agg (.mk _)) M0 Z Z Z (fun b1 w1 M1=>(bK Z Z (aB (aC (aE (aE (aA (wq (aH (.pointer _) Z) Z (wq (gX false underlying104 Z Z) Z (aB (aC (cG Z (aM (aC (aE (aE (aA (wq (aX 3 bQ M1 Z Z Z) Z (dN bDn Z Z M1 (xL _ x) (fun w2 M2=>(bK Z Z (aB (aC (aE (aA (aQ Z Z (cX Z Z Z Z (aB (aC ?_)))))))))))))))))))))))))))))))
 refine aU Z (fun h13 => ?_) (fun h13 => ?_)
 ·refine aE (aA (aQ Z Z (bK Z Z (aB (aC (aO (cO (cI (.int _ _) Z ?_))))))))
  have ha:tK m x=(m,check x):=by unfold tK;rw [if_pos h13]
  exact ⟨by rw [ha],A,n,c,p,er,em,by rw [ha];exact hs,M2.keep [true,true,true,false]⟩
 ·refine aM (aC (aE (fW [(0,0),(1,0),(2,0),(3,1),(4,0),(5,1),(6,1),(7,0),(8,0),(9,0),(10,0),(11,0)] mixed M2 Z (by kernel_rfl) (fun w3 M3=>(aV Z Z Z (fun _=>aH (.pointer _) Z) (aV Z Z Z (fun _=>bL Z) (aV Z Z Z (fun _=>aD 1 oA Z) (bP Z Z Z (aK 0 (.map _) xA M3 Z Z Z) (aV Z Z Z (fun _=>aD 0 dT Z) (bP Z Z Z (aK 3 (.int _ _) bV M3 Z Z Z) (bP Z Z Z (kX (enc:=(Value.int .i64)) 0 2 aCl zv3 M3 Z hs.map Z Z) (aV Z Z Z (fun _=>aH (.tuple (List.toArray _)) Z) ?_))))))))))))
  refine aV Z Z Z (fun _=>bM (.int _ _) Z Z) (aV Z Z Z (fun _=>bM (.bool _) Z Z) (mW Z Z Z (aV Z Z Z (fun _=>aJ (.bool _) Z) (bS (aC (aE (aE (aA (wq (aH (.bool _) Z) Z (wq (gR _ Z Z) Z (aB (aC ?_))))))))))))
  refine iL _ Z (fun h26 => ?_) (fun h26 => ?_)
  ·have hi:yD m x.key=none:=by cases h:yD m x.key <;> simp_all
   refine aE (aA (bK Z Z (aB (aC (aO (cO (cI (.int _ _) Z ?_)))))))
   have ha:tK m x=(m,11):=by unfold tK;rw [if_neg h13,if_pos (by rw [lF,hi];decide)]
   exact ⟨by rw [ha],A,n,c,p,er,em,by rw [ha];exact hs,M3.keep [true,true,true,false]⟩
  ·rcases nO x.key m with ⟨hi,_⟩ | ⟨i,bi,hbi,hbk,hi⟩
   ·simp [hi] at h26
   refine aM (aC (aE (fW [(0,0),(1,0),(2,0),(3,1),(4,0),(5,1),(6,1),(7,2)] mixed M3 Z (by kernel_rfl) (fun w4 M4=>(aV Z Z Z (fun _=>aH (.pointer _) Z) (aV Z Z Z (fun _=>bL Z) (aV Z Z Z (fun _=>aD 0 jR Z) (bP Z Z Z (aK 0 (.slice _ _ _) gM M4 Z Z Z) (eD Z Z Z (bP Z Z Z (aX 3 bQ M4 Z Z Z) (bP Z Z Z (bJ (i) dP Z Z (by rw [hi];rfl) ((hs.row.rd M4 (bA (i:=1) Z)).below_len (aG aF hbi)) ((hs.row.rd M4 (bA (i:=1) Z)).someK (aG aF hbi))) ?_)))))))))))
   refine dI [true,true,true] Z (by kernel_rfl) (aNo 1 _ bQ M4 Z hs.row (aG aF hbi) Z Z Z Z (aS Z) (fun e5 w5 hR5 M5 => ?_))
   have hQ5:=hR5.mapSet (f:=aF) (x:=x) rfl
   refine aB (aC ⟨dJ, ?_⟩)
   refine bS (aC (aE (aA (bK Z Z (aB (aC (aO (cI (.int _ _) Z ?_))))))))
   have ha:tK m x=(m.set i x,0):=by unfold tK;rw [if_neg h13,lF,hi];simp only [];rw [if_neg (by omega),Int.toNat_natCast]
   exact ⟨by rw [ha],_,_,_,_,_,_,by rw [ha];exact hs.put hbi hbk.symm (by omega) hQ5,M5.keep [true,true,true,false]⟩
theorem aUx (w:World) (b:Nat) (A:Option Addr) (n c:Nat) (p:Option Nat) (er em:eL) (m:List Body) (hs:StoreIs 43 A n c p er em m) (hO:Own [(some b,bc [.slice A n c,.map p] 73),er,em] w) (key:Int) :
  Calls prog 77 #[.pointer (some ⟨b,0,none⟩),.int .u32 key] w (gH (fun v w'=>v=.int .i64 (mB m key).2∧∃ A' n' c' p' er' em',StoreIs 43 A' n' c' p' er' em' (mB m key).1∧Mem w (bY [(some b,bc [.slice A n c,.map p] 73),er,em]) [(some b,bc [.slice A' n' c',.map p'] 73),er',em'] w')):=by
 have hlen:m.length=n:=by simpa using hs.row.1
 have hcap:=hs.cap
 refine aI #[.tmp 4] 67 func77 Z results77 ntmps77 Z ?_
 have M0:=hO.mem
 refine aE (aA (bK Z Z (aB (aC (aE (aE (aA (wq (aH (.pointer _) Z) Z (wq (gX false underlying104 Z Z) Z (aB (aC (cG Z (aM (aC (aE (aA (wq (aH (.pointer _) Z) Z (wq (bL Z) Z (wq (aD 1 oA Z) Z (wq (aK 0 (.map _) xA M0 Z Z Z) Z (aQ Z Z (wq (kX (enc:=(Value.int .i64)) 0 2 aCl zv3 M0 Z hs.map Z Z) Z (wq (aH (.tuple (List.toArray _)) Z) Z (wq (bM (.int _ _) Z Z) Z ?_))))))))))))))))))))))))
 refine wq (bM (.bool _) Z Z) Z (bK Z Z (wq (aJ (.bool _) Z) Z (aB (aC (aE (aE (aA (wq (aH (.bool _) Z) Z (wq (gR _ Z Z) Z (aB (aC ?_)))))))))))
 refine iL _ Z (fun h20 => ?_) (fun h20 => ?_)
 ·have hi:yD m key=none:=by cases h:yD m key <;> simp_all
  refine aE (aA (bK Z Z (aB (aC (aO (cO (cI (.int _ _) Z ?_)))))))
  have ha:mB m key=(m,11):=by unfold mB;rw [if_pos (by rw [lF,hi];decide)]
  exact ⟨by rw [ha],A,n,c,p,er,em,by rw [ha];exact hs,M0.keep [true,true,true]⟩
 ·rcases nO key m with ⟨hi,_⟩ | ⟨i,bi,hbi,hbk,hi⟩
  ·simp [hi] at h20
  have hilt:i < m.length:=(List.getElem?_eq_some_iff.1 hbi).1
  obtain ⟨bl,hbl⟩:=cF (xs:=m) (k:=n - 1) rfl (by omega)
  have hps:p.isSome=true:=hs.map.isSome hi
  refine aM (aC (aE (aA (wq (aH (.pointer _) Z) Z (wq (bL Z) Z (wq (aD 0 jR Z) Z (wq (aK 0 (.slice _ _ _) gM M0 Z Z Z) Z (wq (cK underlying46 Z) Z (wq (gG Z Z (by omega) (by omega)) Z (bK Z Z (aB (aC (aE (fW [(0,0),(1,0),(2,0),(3,1),(4,0),(5,0),(6,0),(7,0),(8,1),(9,0),(10,1),(11,1),(12,1),(13,2)] mixed M0 Z (by kernel_rfl) (fun w1 M1=>(aV Z Z Z (fun _=>aH (.pointer _) Z) (aV Z Z Z (fun _=>bL Z) (aV Z Z Z (fun _=>aD 0 jR Z) ?_))))))))))))))))))
  refine bP Z Z Z (aK 0 (.slice _ _ _) gM M1 Z Z Z) (eD Z Z Z (aV Z Z Z (fun _=>aH (.pointer _) Z) (aV Z Z Z (fun _=>bL Z) (aV Z Z Z (fun _=>aD 0 jR Z) (bP Z Z Z (aK 0 (.slice _ _ _) gM M1 Z Z Z) (eD Z Z Z (bP Z Z Z (bJ (n - 1) dP Z Z (by omega) ((hs.row.rd M1 (bA (i:=1) Z)).below_len (aG aF hbl)) ((hs.row.rd M1 (bA (i:=1) Z)).someK (aG aF hbl))) (bP Z Z Z (dW _ bQ (hs.row.rd M1 (bA (i:=1) Z)) (aG aF hbl) Z) ?_))))))))
  refine bP Z Z Z (bJ (i) dP Z Z (by rw [hi];rfl) ((hs.row.rd M1 (bA (i:=1) Z)).below_len (aG aF hbi)) ((hs.row.rd M1 (bA (i:=1) Z)).someK (aG aF hbi))) (dI [true,true,true,true,true] Z (by kernel_rfl) (aNo 1 _ bQ M1 Z hs.row (aG aF hbi) Z Z Z Z (aS Z) (fun e2 w2 hR2 M2 => ?_)))
  have hQ2:=hR2.mapSet (f:=aF) (x:=bl) rfl
  refine aB (aC ⟨dJ, ?_⟩)
  refine bS (aC (aE (fW [(0,0),(1,0),(2,0),(3,1),(4,0),(5,0),(6,0),(7,1),(8,0),(9,1),(10,1),(11,1),(12,0),(13,2)] mixed M2 Z (by kernel_rfl) (fun w3 M3=>(aV Z Z Z (fun _=>aH (.pointer _) Z) (aV Z Z Z (fun _=>bL Z) (aV Z Z Z (fun _=>aD 1 oA Z) (bP Z Z Z (aK 0 (.map _) xA M3 Z Z Z) (aV Z Z Z (fun _=>aH (.pointer _) Z) (aV Z Z Z (fun _=>bL Z) (aV Z Z Z (fun _=>aD 0 jR Z) (bP Z Z Z (aK 0 (.slice _ _ _) gM M3 Z Z Z) ?_))))))))))))
  refine eD Z Z Z ?_
  refine bP Z Z Z (bJ (i) dP Z Z (by rw [hi];rfl) ((hQ2.rd M3 (bA (i:=1) Z)).below_len (aG aF (by rw [List.getElem?_set_self hilt]:(m.set i bl)[i]? = some bl))) ((hQ2.rd M3 (bA (i:=1) Z)).someK (aG aF (by rw [List.getElem?_set_self hilt]:(m.set i bl)[i]? = some bl)))) ?_
  refine bP Z Z Z (aT 0 dT (hQ2.rd M3 (bA (i:=1) Z)) (iR ((hQ2.rd M3 (bA (i:=1) Z)).below_len (aG aF (by rw [List.getElem?_set_self hilt]:(m.set i bl)[i]? = some bl)))) Z) ?_
  refine bP Z Z Z (dM (o:=0) (.int _ _) bV (hQ2.rd M3 (bA (i:=1) Z)) (aG aF (by rw [List.getElem?_set_self hilt]:(m.set i bl)[i]? = some bl)) Z Z) ?_
  refine eD Z Z Z (dI [true,true,true,true,true] Z (by kernel_rfl) (lK (enc:=(Value.int .i64)) 2 aCl M3 Z Z hs.map hps Z Z Z (fun e4 w4 hm4 M4 => ?_)))
  refine aB (aC ⟨dJ, ?_⟩)
  refine bS (aC (aE (aA (wq (aH (.pointer _) Z) Z (wq (aH (.pointer _) Z) Z (wq (bL Z) Z (wq (aD 0 jR Z) Z (wq (aK 0 (.slice _ _ _) gM M4 Z Z Z) Z (aQ Z Z (wq (eS (0) (((n:Int) - 1)) dP Z Z ⟨_,Z⟩ (by decide) (by omega) (by have:=hs.row.slice;omega)) Z (wq (bL Z) Z (wq (aD 0 jR Z) Z (dA 0 (.slice _ _ _) gM M4 Z Z Z Z Z Z (fun w5 M5=>(aB (aC (aE (aA (wq (aH (.pointer _) Z) Z (wq (bL Z) Z (wq (aD 1 oA Z) Z ?_)))))))))))))))))))))
  refine wq (aK 0 (.map _) xA M5 Z Z Z) Z (aQ Z Z (bBc (enc:=(Value.int .i64)) 2 aCl M5 Z Z hm4 hps Z Z (fun e6 w6 hm6 M6=>(aB (aC (aE (aA (bK Z Z (aB (aC (aO (cI (.int _ _) Z ?_))))))))))))
  have ha:mB m key=(aAq m i,0):=by unfold mB;rw [lF,hi];simp only [];rw [if_neg (by omega),Int.toNat_natCast]
  have hn1:((n:Int) - 1).toNat=n - 1:=by omega
  exact ⟨by rw [ha],_,_,_,_,_,_,by rw [ha];exact hs.cut hbi hbk (by rw [hlen];exact hbl) (by rw [hi];rfl) (by omega) hQ2 hm6,M6.keep [true,true,true]⟩
theorem aUw (w:World) (b:Nat) (A:Option Addr) (n c:Nat) (p:Option Nat) (er em:eL) (m:List Body) (hs:StoreIs 43 A n c p er em m) (hO:Own [(some b,bc [.slice A n c,.map p] 73),er,em] w) :
  Calls prog 45 #[.pointer (some ⟨b,0,none⟩)] w (gH (fun v w'=>∃ A' n' c' e',v=.slice A' n' c'∧aZ 43 10 A' n' c' ((aDb m).map aF) e'∧Mem w (bY [(some b,bc [.slice A n c,.map p] 73),er,em]) [(some b,bc [.slice A n c,.map p] 73),er,em,e'] w')):=by
 have hlen:m.length=n:=by simpa using hs.row.1
 have hcap:=hs.cap
 refine aI #[.tmp 2] 14 func45 Z results45 ntmps45 Z ?_
 have M0:=hO.mem
 refine aE (aA (eH Z Z (aB (aC (aE (aE (aA (wq (aH (.pointer _) Z) Z (wq (gX false underlying104 Z Z) Z (aB (aC (cG Z (aM (aC (aE (aA (wq (aH (.pointer _) Z) Z (wq (bL Z) Z (wq (aD 0 jR Z) Z (wq (aK 0 (.slice _ _ _) gM M0 Z Z Z) Z (eP bUp Z Z (aJe _ _ _ _ _ (hs.row.rd M0 (bA (i:=1) Z)) (aRs m) (by omega)) ?_)))))))))))))))))))))
 rintro v1 w1 ⟨A1,n1,c1,e1,rfl,hR1,hM1,_⟩
 have M1:Mem _ _ [_,_,_,_] _:=M0.call0 hM1
 have hn1:n1=m.length:=by simpa using hR1.1.symm
 refine eH Z Z (aB (aC (aE (aA (dK Z Z (eP bUq Z Z (aDn 73 bUr aDo _ _ _ _ m _ hR1 (M1.ownAt (i:=3) Z) (by omega)) ?_))))))
 rintro v2 w2 ⟨rfl,ys2,e2,hp2,hu2,hR2,hM2⟩
 have M2:Mem _ _ [_,_,_,_] _:=M1.seg 3 1 hM2
 have hys:ys2=aDb m:=bAz hu2 (aHg m) (hp2.trans (qK m).symm) (hs.keys.perm hp2)
 rw [hys] at hR2
 refine aB (aC (aE (aA (dK Z Z (eH Z Z (aB (aC (aO (cI (.slice _ _ _) Z ?_)))))))))
 exact ⟨_,_,_,_,Z,hR2,M2⟩
theorem lL {x:Int} (h:0≤x∧x≤4294967295):IntKind.wrap .i32 x=lB x:=by
 unfold lB
 simp [IntKind.wrap,IntKind.bits,IntKind.signed]
 split <;> split <;> omega
theorem sH {n k:Int} (h:0≤n∧n≤4294967296) (hk:0 < k):IntKind.i64.wrap (n.tdiv k)=n / k:=by
 rw [Int.tdiv_eq_ediv_of_nonneg h.1]
 have h1:=Int.ediv_nonneg h.1 (Int.le_of_lt hk)
 have h2:n / k≤n:=Int.ediv_le_self k h.1
 exact fJ _ (by omega) (by omega)
theorem aJo (w:World) (r:Row) (xs:List Int) (hr:aZ 5 1 r.A r.n r.c ((xs).map bB) r.e) (n:Int) (hn:0≤n∧n≤4294967295) (hl:r.n≤1048576) (hO:Own [r.e] w) :
  Calls prog 43 #[.slice r.A r.n r.c,.int .u32 n] w (gH (fun v w'=>∃ q:Row,v=.slice q.A q.n q.c∧q.n=r.n+4∧aZ 5 1 q.A q.n q.c ((xs++cY n).map bB) q.e∧Mem w (bY [r.e]) [q.e] w')):=by
 refine aI #[.tmp 4] 19 func43 Z results43 ntmps43 Z ?_
 have M0:=hO.mem
 refine aE (aA (eH Z Z (aB (aC (aE (aA (dK Z Z (aQ Z Z (wq (kK Z Z (by decide)) Z (aL 7 (.int .u32 (n / 16777216)) (iE (bKu n)) (wq (dF wU underlying5 Z) Z (aL 8 (.int .u8 (n / 16777216 % 256)) (iE (wr8 _)) (aQ Z Z (wq (kK Z Z (by decide)) Z (aL 10 (.int .u32 (n / 65536)) (iE (bKt n)) (wq (dF wU underlying5 Z) Z (aL 11 (.int .u8 (n / 65536 % 256)) (iE (wr8 _)) (aQ Z Z (wq (kK Z Z (by decide)) Z ?_)))))))))))))))))))
 refine aL 13 (.int .u32 (n / 256)) (iE (bSe n)) (wq (dF wU underlying5 rfl) rfl (aL 14 (.int .u8 (n / 256 % 256)) (iE (wr8 _)) (aQ rfl rfl (wq (dF wU underlying5 rfl) rfl (aL 16 (.int .u8 (n % 256)) (iE (wr8 _)) (cC [.int _ _,.int _ _,.int _ _,.int _ _] ((cY n).map bB) rfl gC M0 rfl rfl rfl rfl (cU rfl) (by decide) (fun b1 w1 M1=>(cW 0 ((cY n).map bB) gC M1 rfl rfl rfl rfl rfl hr rfl (by simp [cY,bB,Go.Bil.one]) (dL.ofMem 1 M1 rfl) (by omega) (fun A2 c2 e2 w2 M2 hR2=>(eH rfl rfl (aB (aC (aO (cI (.slice _ _ _) rfl ?_))))))))))))))
 exact ⟨⟨A2,_,c2,e2⟩,Z,Z,by rw [List.map_append];exact hR2,M2.keep [true,false]⟩
theorem jI (w:World) (x:Int) :
  Calls prog 70 #[.int .i32 x] w (Rb w (.int .u32 (x % 4294967296))):=by
 refine aI #[.tmp 2] 5 func70 Z results70 ntmps70 Z ?_
 have M0:=Mem.refl w
 refine aE (aA (bK Z Z (aB (aC (aE (aA (aQ Z Z (wq (dF dY underlying39 Z) Z (aL 4 (.int .u32 (x % 4294967296)) (iE (bIa _)) (bK Z Z (aB (aC (aO (cI (.int _ _) Z ?_))))))))))))))
 exact ⟨Z,M0.below⟩
theorem aSj (w:World) (b:Body) :
  Calls prog 44 #[(.agg (aF b).toArray)] w (Rb w (.agg ((aCo b).map (Value.int .u32)).toArray)):=by
 refine aI #[.cell 2 108] 49 func44 Z results44 ntmps44 Z ?_
 have M0:=Mem.refl w
 refine aE (aA (bN (.agg (.mk _)) M0 Z Z Z (fun b1 w1 M1=>(aR aNr M1 Z Z (fun b2 w2 M2=>(aB (aC (aE (aA (wq (aJ (.func _ _ _) Z) Z (aB (aC (aE (fW [(0,0),(1,1),(2,0),(3,0),(4,1),(6,0),(7,0),(8,0),(9,1),(11,0),(12,0),(13,0),(14,1),(16,0),(17,0),(18,1),(20,0),(21,0),(22,1),(24,0),(25,0),(26,0),(27,1),(29,0),(30,0),(31,0),(32,1),(34,0),(35,0),(36,0),(37,1),(39,0),(40,0),(41,0),(42,1),(5,2),(10,2),(15,2),(19,2),(23,2),(28,2),(33,2),(38,2),(43,2),(44,0),(45,2)] mixed M2 Z (by kernel_rfl) (fun w3 M3 => ?_)))))))))))))))
 refine aV Z Z Z (fun _=>aD 0 dT Z) (bP Z Z Z (aK 0 (.int _ _) bV M3 Z Z Z) (aV Z Z Z (fun _=>aH (.func _ _ _) Z) (aV Z Z Z (fun _=>aD 1 mA Z) (bP Z Z Z (aK 0 (.int _ _) aY M3 Z Z Z) (aV Z Z Z (fun _=>aH (.func _ _ _) Z) (aV Z Z Z (fun _=>aD 2 jJ Z) (aV Z Z Z (fun _=>aD 0 cV Z) (bP Z Z Z (aK 0 (.int _ _) aY M3 Z Z Z) (aV Z Z Z (fun _=>aH (.func _ _ _) Z) (aV Z Z Z (fun _=>aD 2 jJ Z) ?_))))))))))
 refine aV Z Z Z (fun _=>aD 1 cS Z) (bP Z Z Z (aK 0 (.int _ _) aY M3 Z Z Z) (aV Z Z Z (fun _=>aH (.func _ _ _) Z) (aV Z Z Z (fun _=>aD 4 eM Z) (bP Z Z Z (aK 0 (.int _ _) aY M3 Z Z Z) (aV Z Z Z (fun _=>aH (.func _ _ _) Z) (aV Z Z Z (fun _=>aD 5 nZ Z) (bP Z Z Z (aK 0 (.int _ _) aY M3 Z Z Z) (aV Z Z Z (fun _=>aH (.func _ _ _) Z) (aV Z Z Z (fun _=>aD 6 fL Z) (aV Z Z Z (fun _=>aD 0 cV Z) ?_))))))))))
 refine bP Z Z Z (aK 0 (.int _ _) aY M3 Z Z Z) (aV Z Z Z (fun _=>aH (.func _ _ _) Z) (aV Z Z Z (fun _=>aD 6 fL Z) (aV Z Z Z (fun _=>aD 1 cS Z) (bP Z Z Z (aK 0 (.int _ _) aY M3 Z Z Z) (aV Z Z Z (fun _=>aH (.func _ _ _) Z) (aV Z Z Z (fun _=>aD 8 eB Z) (aV Z Z Z (fun _=>aD 0 cV Z) (bP Z Z Z (aK 0 (.int _ _) aY M3 Z Z Z) (aV Z Z Z (fun _=>aH (.func _ _ _) Z) (aV Z Z Z (fun _=>aD 8 eB Z) ?_))))))))))
 refine aV Z Z Z (fun _=>aD 1 cS Z) (bP Z Z Z (aK 0 (.int _ _) aY M3 Z Z Z) (dI [false,false,false,false,false,false,false,false,true,false] Z (by kernel_rfl) (dN yH Z Z M3 (jI _ b.radius) (fun w4 M4 => ?_))))
 refine aB (aC ⟨(dS (bI Z (aK 0 (.int _ _) aY M4 Z Z Z)) (dS (bI Z (aK 0 (.int _ _) aY M4 Z Z Z)) (dS (bI Z (aK 0 (.int _ _) aY M4 Z Z Z)) (dS (bI Z (aK 0 (.int _ _) aY M4 Z Z Z)) (dS (bI Z (aK 0 (.int _ _) aY M4 Z Z Z)) (dS (bI Z (aK 0 (.int _ _) aY M4 Z Z Z)) (dS (bI Z (aK 0 (.int _ _) aY M4 Z Z Z)) (dS (bI Z (aK 0 (.int _ _) aY M4 Z Z Z)) (dS (bI Z (aK 0 (.int _ _) bV M4 Z Z Z)) dJ))))))))), ?_⟩)
 refine dI [false,false,false,false,false,false,false,true,false] Z (by kernel_rfl) (dN yH Z Z M4 (jI _ b.ax) (fun w5 M5 => ?_))
 refine aB (aC ⟨(dS (bI Z (aK 0 (.int _ _) aY M5 Z Z Z)) (dS (bI Z (aK 0 (.int _ _) aY M5 Z Z Z)) (dS (bI Z (aK 0 (.int _ _) aY M5 Z Z Z)) (dS (bI Z (aK 0 (.int _ _) aY M5 Z Z Z)) (dS (bI Z (aK 0 (.int _ _) aY M5 Z Z Z)) (dS (bI Z (aK 0 (.int _ _) aY M5 Z Z Z)) (dS (bI Z (aK 0 (.int _ _) aY M5 Z Z Z)) (dS (bI Z (aK 0 (.int _ _) bV M5 Z Z Z)) dJ)))))))), ?_⟩)
 refine dI [false,false,false,false,false,false,true,false] Z (by kernel_rfl) (dN yH Z Z M5 (jI _ b.ay) (fun w6 M6 => ?_))
 refine aB (aC ⟨(dS (bI Z (aK 0 (.int _ _) aY M6 Z Z Z)) (dS (bI Z (aK 0 (.int _ _) aY M6 Z Z Z)) (dS (bI Z (aK 0 (.int _ _) aY M6 Z Z Z)) (dS (bI Z (aK 0 (.int _ _) aY M6 Z Z Z)) (dS (bI Z (aK 0 (.int _ _) aY M6 Z Z Z)) (dS (bI Z (aK 0 (.int _ _) aY M6 Z Z Z)) (dS (bI Z (aK 0 (.int _ _) bV M6 Z Z Z)) dJ))))))), ?_⟩)
 refine dI [false,false,false,false,false,true,false] Z (by kernel_rfl) (dN yH Z Z M6 (jI _ b.mass) (fun w7 M7 => ?_))
 refine aB (aC ⟨(dS (bI Z (aK 0 (.int _ _) aY M7 Z Z Z)) (dS (bI Z (aK 0 (.int _ _) aY M7 Z Z Z)) (dS (bI Z (aK 0 (.int _ _) aY M7 Z Z Z)) (dS (bI Z (aK 0 (.int _ _) aY M7 Z Z Z)) (dS (bI Z (aK 0 (.int _ _) aY M7 Z Z Z)) (dS (bI Z (aK 0 (.int _ _) bV M7 Z Z Z)) dJ)))))), ?_⟩)
 refine dI [false,false,false,false,true,false] Z (by kernel_rfl) (dN yH Z Z M7 (jI _ b.bounce) (fun w8 M8 => ?_))
 refine aB (aC ⟨(dS (bI Z (aK 0 (.int _ _) aY M8 Z Z Z)) (dS (bI Z (aK 0 (.int _ _) aY M8 Z Z Z)) (dS (bI Z (aK 0 (.int _ _) aY M8 Z Z Z)) (dS (bI Z (aK 0 (.int _ _) aY M8 Z Z Z)) (dS (bI Z (aK 0 (.int _ _) bV M8 Z Z Z)) dJ))))), ?_⟩)
 refine dI [false,false,false,true,false] Z (by kernel_rfl) (dN yH Z Z M8 (jI _ b.px) (fun w9 M9 => ?_))
 refine aB (aC ⟨(dS (bI Z (aK 0 (.int _ _) aY M9 Z Z Z)) (dS (bI Z (aK 0 (.int _ _) aY M9 Z Z Z)) (dS (bI Z (aK 0 (.int _ _) aY M9 Z Z Z)) (dS (bI Z (aK 0 (.int _ _) bV M9 Z Z Z)) dJ)))), ?_⟩)
 refine dI [false,false,true,false] Z (by kernel_rfl) (dN yH Z Z M9 (jI _ b.py) (fun w10 M10 => ?_))
 refine aB (aC ⟨(dS (bI Z (aK 0 (.int _ _) aY M10 Z Z Z)) (dS (bI Z (aK 0 (.int _ _) aY M10 Z Z Z)) (dS (bI Z (aK 0 (.int _ _) bV M10 Z Z Z)) dJ))), ?_⟩)
 refine dI [false,true,false] Z (by kernel_rfl) (dN yH Z Z M10 (jI _ b.vx) (fun w11 M11 => ?_))
 refine aB (aC ⟨(dS (bI Z (aK 0 (.int _ _) aY M11 Z Z Z)) (dS (bI Z (aK 0 (.int _ _) bV M11 Z Z Z)) dJ)), ?_⟩)
 refine dI [true,false] Z (by kernel_rfl) (dN yH Z Z M11 (jI _ b.vy) (fun w12 M12 => ?_))
 refine aB (aC ⟨(dS (bI Z (aK 0 (.int _ _) bV M12 Z Z Z)) dJ), ?_⟩)
 refine aV Z Z Z (fun _=>uL [.int _ _,.int _ _,.int _ _,.int _ _,.int _ _,.int _ _,.int _ _,.int _ _,.int _ _,.int _ _] jC aNr Z Z (cU Z)) (dI [true] Z (by kernel_rfl) (bG 1 _ aRn M12 Z Z Z Z Z (aS Z) Z (fun w13 M13 => ?_)))
 refine aB (aC ⟨dJ, ?_⟩)
 refine bS (aC (aO (eQ 1 aRn M13 Z Z Z ?_)))
 exact ⟨Z,M13.below⟩
theorem jY (w:World) (A:Option Addr) (n c:Nat) (ls:List Int) (R:Rd w 1 A n (ls.map bB)) (hB:iG ls) (h4:4≤n) :
  Calls prog 65 #[.slice A n c] w (Rb w (.int .u32 (eK ls 0))):=by
 have hlen:ls.length=n:=by simpa using R.len
 have hbd:=R.bound
 obtain ⟨x0,hx0⟩:=cF (xs:=ls) (k:=0) hlen (by omega)
 obtain ⟨x1,hx1⟩:=cF (xs:=ls) (k:=1) hlen (by omega)
 obtain ⟨x2,hx2⟩:=cF (xs:=ls) (k:=2) hlen (by omega)
 obtain ⟨x3,hx3⟩:=cF (xs:=ls) (k:=3) hlen (by omega)
 obtain ⟨g0,g1⟩:=hB x0 (List.mem_of_getElem? hx0)
 obtain ⟨g2,g3⟩:=hB x1 (List.mem_of_getElem? hx1)
 obtain ⟨g4,g5⟩:=hB x2 (List.mem_of_getElem? hx2)
 obtain ⟨g6,g7⟩:=hB x3 (List.mem_of_getElem? hx3)
 have hnum:eK ls 0=((x0*256+x1)*256+x2)*256+x3:=by unfold eK;simp only [List.getD_eq_getElem?_getD,Nat.zero_add,hx0,hx1,hx2,hx3,Option.getD_some]
 obtain ⟨b0,rfl⟩:=Int.eq_ofNat_of_zero_le g0
 obtain ⟨b1,rfl⟩:=Int.eq_ofNat_of_zero_le g2
 obtain ⟨b2,rfl⟩:=Int.eq_ofNat_of_zero_le g4
 obtain ⟨b3,rfl⟩:=Int.eq_ofNat_of_zero_le g6
 refine aI #[.tmp 2] 25 func65 Z results65 ntmps65 Z ?_
 have M0:=Mem.refl w
 refine aE (aA (bK Z Z (aB (aC (aE (fW [(0,0),(1,1),(2,1),(3,0),(4,0),(5,0),(6,1),(7,1),(8,0),(9,0),(10,0),(11,0),(12,1),(13,1),(14,0),(15,0),(16,0),(17,0),(18,1),(19,1),(20,0),(21,0),(22,0)] mixed M0 Z (by kernel_rfl) (fun w1 M1=>(kA Z Z Z (bP Z Z Z (bJ (0) gC Z Z Z ((R.mem M1).below_len (aG bB hx0)) ((R.mem M1).someK (aG bB hx0))) (bP Z Z Z (fU (.int _ _) wP (R.mem M1) (aG bB hx0) Z) (aV Z Z Z (fun _=>bH us5 underlying39 Z (aIb _ (by omega) (by omega))) ?_)))))))))))
 refine aV Z Z Z (fun _=>zR Z Z (by decide)) (dV 7 (.int .u32 ((b0*16777216:Nat):Int)) (iE (bKs b0 (by omega))) (kA Z Z Z (bP Z Z Z (bJ (1) gC Z Z Z ((R.mem M1).below_len (aG bB hx1)) ((R.mem M1).someK (aG bB hx1))) (bP Z Z Z (fU (.int _ _) wP (R.mem M1) (aG bB hx1) Z) (aV Z Z Z (fun _=>bH us5 underlying39 Z (aIb _ (by omega) (by omega))) (aV Z Z Z (fun _=>zR Z Z (by decide)) (dV 12 (.int .u32 ((b1*65536:Nat):Int)) (iE (bKr b1 (by omega))) (aV Z Z Z (fun _=>cA (.int _ _) Z Z Z) ?_))))))))
 refine dV 13 (.int .u32 ((b0*16777216+b1*65536:Nat):Int)) (iE (bSc b0 (b0*16777216) (b1*65536) 24 Z (show b1*65536 < 16777216 by omega) (by omega))) (kA Z Z Z (bP Z Z Z (bJ (2) gC Z Z Z ((R.mem M1).below_len (aG bB hx2)) ((R.mem M1).someK (aG bB hx2))) (bP Z Z Z (fU (.int _ _) wP (R.mem M1) (aG bB hx2) Z) (aV Z Z Z (fun _=>bH us5 underlying39 Z (aIb _ (by omega) (by omega))) (aV Z Z Z (fun _=>zR Z Z (by decide)) (dV 18 (.int .u32 ((b2*256:Nat):Int)) (iE (bSd b2 (by omega))) ?_))))))
 refine aV Z Z Z (fun _=>cA (.int _ _) Z Z Z) (dV 19 (.int .u32 ((b0*16777216+b1*65536+b2*256:Nat):Int)) (iE (bSc (b0*256+b1) (b0*16777216+b1*65536) (b2*256) 16 (show (b0*256+b1)*65536=_ by omega) (show b2*256 < 65536 by omega) (by omega))) (kA Z Z Z (bP Z Z Z (bJ (3) gC Z Z Z ((R.mem M1).below_len (aG bB hx3)) ((R.mem M1).someK (aG bB hx3))) (bP Z Z Z (fU (.int _ _) wP (R.mem M1) (aG bB hx3) Z) (aV Z Z Z (fun _=>bH us5 underlying39 Z (aIb _ (by omega) (by omega))) ?_)))))
 refine aV Z Z Z (fun _=>cA (.int _ _) Z Z Z) (dV 24 (.int .u32 ((b0*16777216+b1*65536+b2*256+b3:Nat):Int)) (iE (bSc (b0*65536+b1*256+b2) (b0*16777216+b1*65536+b2*256) b3 8 (show (b0*65536+b1*256+b2)*256=_ by omega) (show b3 < 256 by omega) (by omega))) (mW Z Z Z (bS (aC (aO (cI (.int _ _) Z ?_))))))
 exact ⟨iE (by rw [hnum];omega),M1.below⟩
theorem iT (w:World) (n:Int) (hn:0≤n∧n≤4294967295) :
  Calls prog 66 #[.int .i64 n] w (Rb w (.int .i64 (8+40*n))):=by
 refine aI #[.tmp 2] 6 func66 Z results66 ntmps66 Z ?_
 have M0:=Mem.refl w
 refine aE (aA (bK Z Z (aB (aC (aE (aA (aQ Z Z (wq (fC Z Z (by omega) (by omega)) Z (wq (bC Z Z (by omega) (by omega)) Z (bK Z Z (aB (aC (aO (cI (.int _ _) Z ?_))))))))))))))
 exact ⟨iE (by omega),M0.below⟩
theorem aDf (w:World) (b:Nat) (x0 x1 x2 x3 x4 x5 x6 x7 x8 x9:Int) (h0:0≤x2∧x2≤4294967295) (h1:0≤x3∧x3≤4294967295) (hO:Own [(some b,bc [.int .u32 x0,.int .u32 x1,.int .u32 x2,.int .u32 x3,.int .u32 x4,.int .u32 x5,.int .u32 x6,.int .u32 x7,.int .u32 x8,.int .u32 x9] 108)] w) :
  Calls prog 93 #[.int .i64 2,.pointer (some ⟨b,0,none⟩)] w (gH (fun v w'=>v=.agg [.int .i32 (lB x2),.int .i32 (lB x3)].toArray∧Mem w (bY [(some b,bc [.int .u32 x0,.int .u32 x1,.int .u32 x2,.int .u32 x3,.int .u32 x4,.int .u32 x5,.int .u32 x6,.int .u32 x7,.int .u32 x8,.int .u32 x9] 108)]) [(some b,bc [.int .u32 x0,.int .u32 x1,.int .u32 x2,.int .u32 x3,.int .u32 x4,.int .u32 x5,.int .u32 x6,.int .u32 x7,.int .u32 x8,.int .u32 x9] 108)] w')):=by
 refine aI #[.cell 3 41] 14 func93 Z results93 ntmps93 Z ?_
 have M0:=hO.mem
 refine aE (aA (aR iY M0 Z Z (fun b1 w1 M1=>(aB (aC (aE (fW [(0,0),(1,0),(2,1),(3,0),(4,0),(5,0),(6,0),(7,1),(8,0),(9,0),(10,2)] mixed M1 Z (by kernel_rfl) (fun w2 M2=>(eD Z Z Z (aV Z Z Z (fun _=>cD (2) jC Z Z Z (by decide)) (bP Z Z Z (aK 0 (.int _ _) bV M2 Z Z Z) (aV Z Z Z (fun _=>dF wU underlying21 Z) (dV 7 (.int .i32 (lB x2)) (iE (lL h0)) (eD Z Z Z (aV Z Z Z (fun _=>bC Z Z (by first | decide | omega) (by first | decide | omega)) (aV Z Z Z (fun _=>cD (3) jC Z Z Z (by decide)) ?_))))))))))))))))
 refine bP Z Z Z (aK 0 (.int _ _) bV M2 Z Z Z) (aV Z Z Z (fun _=>dF wU underlying21 Z) (dV 12 (.int .i32 (lB x3)) (iE (lL h1)) (aV Z Z Z (fun _=>cB [(0,.int _ _),(1,.int _ _)] _ eZ Z Z) (dI [true,true] Z (by kernel_rfl) (bG 1 _ bO M2 Z Z Z Z Z (aS Z) Z (fun w3 M3 => ?_))))))
 refine aB (aC ⟨dJ, ?_⟩)
 refine bS (aC (aO (eQ 1 bO M3 Z Z Z ?_)))
 exact ⟨Z,M3.keep [true,false]⟩
theorem aDg (w:World) (b:Nat) (x0 x1 x2 x3 x4 x5 x6 x7 x8 x9:Int) (h0:0≤x6∧x6≤4294967295) (h1:0≤x7∧x7≤4294967295) (hO:Own [(some b,bc [.int .u32 x0,.int .u32 x1,.int .u32 x2,.int .u32 x3,.int .u32 x4,.int .u32 x5,.int .u32 x6,.int .u32 x7,.int .u32 x8,.int .u32 x9] 108)] w) :
  Calls prog 93 #[.int .i64 6,.pointer (some ⟨b,0,none⟩)] w (gH (fun v w'=>v=.agg [.int .i32 (lB x6),.int .i32 (lB x7)].toArray∧Mem w (bY [(some b,bc [.int .u32 x0,.int .u32 x1,.int .u32 x2,.int .u32 x3,.int .u32 x4,.int .u32 x5,.int .u32 x6,.int .u32 x7,.int .u32 x8,.int .u32 x9] 108)]) [(some b,bc [.int .u32 x0,.int .u32 x1,.int .u32 x2,.int .u32 x3,.int .u32 x4,.int .u32 x5,.int .u32 x6,.int .u32 x7,.int .u32 x8,.int .u32 x9] 108)] w')):=by
 refine aI #[.cell 3 41] 14 func93 Z results93 ntmps93 Z ?_
 have M0:=hO.mem
 refine aE (aA (aR iY M0 Z Z (fun b1 w1 M1=>(aB (aC (aE (fW [(0,0),(1,0),(2,1),(3,0),(4,0),(5,0),(6,0),(7,1),(8,0),(9,0),(10,2)] mixed M1 Z (by kernel_rfl) (fun w2 M2=>(eD Z Z Z (aV Z Z Z (fun _=>cD (6) jC Z Z Z (by decide)) (bP Z Z Z (aK 0 (.int _ _) bV M2 Z Z Z) (aV Z Z Z (fun _=>dF wU underlying21 Z) (dV 7 (.int .i32 (lB x6)) (iE (lL h0)) (eD Z Z Z (aV Z Z Z (fun _=>bC Z Z (by first | decide | omega) (by first | decide | omega)) (aV Z Z Z (fun _=>cD (7) jC Z Z Z (by decide)) ?_))))))))))))))))
 refine bP Z Z Z (aK 0 (.int _ _) bV M2 Z Z Z) (aV Z Z Z (fun _=>dF wU underlying21 Z) (dV 12 (.int .i32 (lB x7)) (iE (lL h1)) (aV Z Z Z (fun _=>cB [(0,.int _ _),(1,.int _ _)] _ eZ Z Z) (dI [true,true] Z (by kernel_rfl) (bG 1 _ bO M2 Z Z Z Z Z (aS Z) Z (fun w3 M3 => ?_))))))
 refine aB (aC ⟨dJ, ?_⟩)
 refine bS (aC (aO (eQ 1 bO M3 Z Z Z ?_)))
 exact ⟨Z,M3.keep [true,false]⟩
theorem aDh (w:World) (b:Nat) (x0 x1 x2 x3 x4 x5 x6 x7 x8 x9:Int) (h0:0≤x8∧x8≤4294967295) (h1:0≤x9∧x9≤4294967295) (hO:Own [(some b,bc [.int .u32 x0,.int .u32 x1,.int .u32 x2,.int .u32 x3,.int .u32 x4,.int .u32 x5,.int .u32 x6,.int .u32 x7,.int .u32 x8,.int .u32 x9] 108)] w) :
  Calls prog 93 #[.int .i64 8,.pointer (some ⟨b,0,none⟩)] w (gH (fun v w'=>v=.agg [.int .i32 (lB x8),.int .i32 (lB x9)].toArray∧Mem w (bY [(some b,bc [.int .u32 x0,.int .u32 x1,.int .u32 x2,.int .u32 x3,.int .u32 x4,.int .u32 x5,.int .u32 x6,.int .u32 x7,.int .u32 x8,.int .u32 x9] 108)]) [(some b,bc [.int .u32 x0,.int .u32 x1,.int .u32 x2,.int .u32 x3,.int .u32 x4,.int .u32 x5,.int .u32 x6,.int .u32 x7,.int .u32 x8,.int .u32 x9] 108)] w')):=by
 refine aI #[.cell 3 41] 14 func93 Z results93 ntmps93 Z ?_
 have M0:=hO.mem
 refine aE (aA (aR iY M0 Z Z (fun b1 w1 M1=>(aB (aC (aE (fW [(0,0),(1,0),(2,1),(3,0),(4,0),(5,0),(6,0),(7,1),(8,0),(9,0),(10,2)] mixed M1 Z (by kernel_rfl) (fun w2 M2=>(eD Z Z Z (aV Z Z Z (fun _=>cD (8) jC Z Z Z (by decide)) (bP Z Z Z (aK 0 (.int _ _) bV M2 Z Z Z) (aV Z Z Z (fun _=>dF wU underlying21 Z) (dV 7 (.int .i32 (lB x8)) (iE (lL h0)) (eD Z Z Z (aV Z Z Z (fun _=>bC Z Z (by first | decide | omega) (by first | decide | omega)) (aV Z Z Z (fun _=>cD (9) jC Z Z Z (by decide)) ?_))))))))))))))))
 refine bP Z Z Z (aK 0 (.int _ _) bV M2 Z Z Z) (aV Z Z Z (fun _=>dF wU underlying21 Z) (dV 12 (.int .i32 (lB x9)) (iE (lL h1)) (aV Z Z Z (fun _=>cB [(0,.int _ _),(1,.int _ _)] _ eZ Z Z) (dI [true,true] Z (by kernel_rfl) (bG 1 _ bO M2 Z Z Z Z Z (aS Z) Z (fun w3 M3 => ?_))))))
 refine aB (aC ⟨dJ, ?_⟩)
 refine bS (aC (aO (eQ 1 bO M3 Z Z Z ?_)))
 exact ⟨Z,M3.keep [true,false]⟩
theorem aMa (w:World) (x0 x1 x2 x3 x4 x5 x6 x7 x8 x9:Int) (hx:∀ x∈([x0,x1,x2,x3,x4,x5,x6,x7,x8,x9]:List Int),0≤x∧x≤4294967295) :
  Calls prog 67 #[.agg [.int .u32 x0,.int .u32 x1,.int .u32 x2,.int .u32 x3,.int .u32 x4,.int .u32 x5,.int .u32 x6,.int .u32 x7,.int .u32 x8,.int .u32 x9].toArray] w (Rb w ((.agg (aF (⟨x0,lB x1,lB x2,lB x3,lB x4,lB x5,lB x6,lB x7,lB x8,lB x9⟩:Body)).toArray))):=by
 refine aI #[.cell 2 43] 23 func67 Z results67 ntmps67 Z ?_
 have M0:=Mem.refl w
 refine aE (aA (bN (.agg (.mk _)) M0 Z Z Z (fun b1 w1 M1=>(aR fV M1 Z Z (fun b2 w2 M2=>(aB (aC (aE (aA (wq (dU [] [.pointer _] Z Z) Z (wq (aJ (.func _ _ _) Z) Z (aB (aC (aE (fW [(0,0),(1,1),(2,0),(3,1),(4,0),(5,0),(7,0),(8,1),(9,0),(10,0),(11,1),(12,0),(13,0),(15,0),(6,2),(14,2),(16,2),(17,0),(18,2)] mixed M2 Z (by kernel_rfl) (fun w3 M3=>(aV Z Z Z (fun _=>cD (0) jC Z Z Z (by decide)) (bP Z Z Z (aK 0 (.int _ _) bV M3 Z Z Z) (aV Z Z Z (fun _=>cD (1) jC Z Z Z (by decide)) ?_)))))))))))))))))))
 refine bP rfl rfl rfl (aK 0 (.int _ _) bV M3 rfl rfl rfl) (aV rfl rfl rfl (fun _=>dF wU underlying21 rfl) (dV 9 (.int .i32 (lB x1)) (iE (lL (hx _ (by simp)))) (aV rfl rfl rfl (fun _=>aH (.func _ _ _) rfl) (aV rfl rfl rfl (fun _=>cD (4) jC rfl rfl rfl (by decide)) (bP rfl rfl rfl (aK 0 (.int _ _) bV M3 rfl rfl rfl) (aV rfl rfl rfl (fun _=>dF wU underlying21 rfl) (dV 14 (.int .i32 (lB x4)) (iE (lL (hx _ (by simp)))) (aV rfl rfl rfl (fun _=>cD (5) jC rfl rfl rfl (by decide)) (bP rfl rfl rfl (aK 0 (.int _ _) bV M3 rfl rfl rfl) ?_)))))))))
 refine aV rfl rfl rfl (fun _=>dF wU underlying21 rfl) (dV 17 (.int .i32 (lB x5)) (iE (lL (hx _ (by simp)))) (aV rfl rfl rfl (fun _=>aH (.func _ _ _) rfl) (aV rfl rfl rfl (fun _=>aH (.func _ _ _) rfl) (dI [false,false,false,false] rfl (by kernel_rfl) (eP bDm rfl rfl (aDf _ b1 x0 x1 x2 x3 x4 x5 x6 x7 x8 x9 (hx _ (by simp)) (hx _ (by simp)) (M3.ownSeg 0 1)) ?_)))))
 rintro v4 w4 ⟨rfl,hM4⟩
 have M4:Mem _ _ [_,_] _:=M3.seg 0 1 hM4
 refine aB (aC ⟨(dS (bI Z (aK 0 (.int _ _) bV M4 Z Z Z)) (dS (bI Z (aK 0 (.int _ _) bV M4 Z Z Z)) (dS (bI Z (aK 0 (.int _ _) bV M4 Z Z Z)) (dS (bI Z (aK 0 (.int _ _) bV M4 Z Z Z)) dJ)))), ?_⟩)
 refine dI [false,false,false,false] rfl (by kernel_rfl) (eP bDm rfl rfl (aDg _ b1 x0 x1 x2 x3 x4 x5 x6 x7 x8 x9 (hx _ (by simp)) (hx _ (by simp)) (M4.ownSeg 0 1)) ?_)
 rintro v5 w5 ⟨rfl,hM5⟩
 have M5:Mem _ _ [_,_] _:=M4.seg 0 1 hM5
 refine aB (aC ⟨(dS (bI Z (aK 0 (.int _ _) bV M5 Z Z Z)) (dS (bI Z (aK 0 (.int _ _) bV M5 Z Z Z)) (dS (bI Z (aK 0 (.int _ _) bV M5 Z Z Z)) (dS (bI Z (aK 0 (.int _ _) bV M5 Z Z Z)) dJ)))), ?_⟩)
 refine dI [false,false,false,false] rfl (by kernel_rfl) (eP bDm rfl rfl (aDh _ b1 x0 x1 x2 x3 x4 x5 x6 x7 x8 x9 (hx _ (by simp)) (hx _ (by simp)) (M5.ownSeg 0 1)) ?_)
 rintro v6 w6 ⟨rfl,hM6⟩
 have M6:Mem _ _ [_,_] _:=M5.seg 0 1 hM6
 refine aB (aC ⟨(dS (bI Z (aK 0 (.int _ _) bV M6 Z Z Z)) (dS (bI Z (aK 0 (.int _ _) bV M6 Z Z Z)) (dS (bI Z (aK 0 (.int _ _) bV M6 Z Z Z)) (dS (bI Z (aK 0 (.int _ _) bV M6 Z Z Z)) dJ)))), ?_⟩)
 refine aV Z Z Z (fun _=>cB [(0,.int _ _),(1,.int _ _),(2,.agg (List.toArray _)),(3,.int _ _),(4,.int _ _),(5,.agg (List.toArray _)),(6,.agg (List.toArray _))] _ uU Z Z) (dI [true,true,true,true] Z (by kernel_rfl) (bG 1 _ bQ M6 Z Z Z Z Z (aS Z) Z (fun w7 M7 => ?_)))
 refine aB (aC ⟨dJ, ?_⟩)
 refine bS (aC (aO (eQ 1 bQ M7 Z Z Z ?_)))
 exact ⟨Z,M7.below⟩
theorem aLz (w:World) (A:Option Addr) (n c:Nat) (xs:List Body) (R:Rd w 10 A n (xs.map aF)) (hn:n≤4096) (hc:jD xs=0) (hb:∀ b∈xs,InB b) :
  Calls prog 35 #[.slice A n c] w (gH (fun v w'=>∃ q:Row,v=.tuple #[.slice q.A q.n q.c,.int .i64 0]∧aZ 5 1 q.A q.n q.c ((kH xs).map bB) q.e∧Mem w [] [q.e] w')):=by
 have hlen:xs.length=n:=by simpa using R.len
 have hbd:=R.bound
 refine aI #[.tmp 2,.tmp 3] 38 func35 Z results35 ntmps35 Z ?_
 have M0:=Mem.refl w
 refine aE (aA (eH Z Z (bK Z Z (aB (aC (aE (aE (aA (dK Z Z (dN bMw Z Z M0 (aHt _ _ _ _ xs (R.mem M0)) (fun w1 M1=>(bK Z Z (aB (aC (aE (aA (aQ Z Z (cX Z Z Z Z (pD 13 Z (fun h=>h hc) (aB (aC (cG Z (aM (aC (aE (aA (cC [.int _ _,.int _ _,.int _ _,.int _ _] (mI.map bB) Z gC M1 Z Z Z Z (cU Z) (by decide) (fun b2 w2 M2 => ?_))))))))))))))))))))))))))))
 have hlit15:=kZ (T:=5) (b:=b2) (mI.map bB) (sM _) rfl (by decide)
 refine aXo 0 underlying34 underlying5 M2 Z Z Z Z hlit15 (by decide) (fun e3 w3 M3 hR3=>(dK Z Z (wq (cK underlying46 Z) Z (wq (bH us3 underlying39 Z (aIb _ (by omega) (by omega))) Z (eP bMx Z Z (aJo _ ⟨(some ⟨b2,0,none⟩),4,4,e3⟩ mI hR3 (n:Int) (by omega) (by first | omega | exact (show 4≤1048576 by decide)) (M3.ownSeg 0 1)) ?_)))))
 rintro v4 w4 ⟨q0,rfl,hnq0,hq0,hM4⟩
 have M4:Mem _ _ [_] _:=M3.seg 0 1 hM4
 refine eH Z Z (aB (aC (aE (aE (aA (dK Z Z (wq (cK underlying46 Z) Z (aQ Z Z (aB (aC (aP (dG (σ:=Nat × Row) [2,3,21,22] (fun (k,q)=>[(5,.slice q.A q.n q.c),(23,.int .i64 (k:Int))]) (fun (k,q) w'=>(k≤n∧q.n=8+40*k∧aZ 5 1 q.A q.n q.c (((mI++cY (n:Int))++(xs.take k).flatMap nK).map bB) q.e)∧Mem w [] [q.e] w') (fun (k,q)=>n - k) (0,q0) (bE Z (bE Z dZ)) (⟨⟨by omega,hnq0,by rw [List.take_zero,List.flatMap_nil,List.append_nil];exact hq0⟩,M4⟩) ?_))))))))))))
 rintro ⟨k,q⟩ ρ5 w5 ⟨⟨hk,hqn,hq⟩,hM5⟩
 refine aE (aA (cX Z Z Z Z (aB (aC (aE ?_)))))
 refine aU Z (fun h24 => ?_) (fun h24 => ?_)
 ·obtain ⟨xb,hxb⟩:=cF (xs:=xs) (k:=k) hlen (by omega)
  have hxi:=aZw (hb xb (List.mem_of_getElem? hxb))
  refine aM (aC (aE (aP (aE (aA (wq (bJ (k) dP Z Z Z ((R.mem hM5).below_len (aG aF hxb)) ((R.mem hM5).someK (aG aF hxb))) Z (wq (dW _ bQ (R.mem hM5) (aG aF hxb) Z) Z (aR fV hM5 Z Z (fun b6 w6 M6=>(bG 1 _ bQ M6 Z Z Z Z Z (aS Z) Z (fun w7 M7=>(aB (aC (aE (aA (wq (aX 1 bQ M7 Z Z Z) Z (dN bTr Z Z M7 (aSj _ xb) (fun w8 M8=>(aQ Z Z (aB (aC (aP (dG (σ:=Nat × Row) [2,3,21,22,23,28] (fun (j,p)=>[(5,.slice p.A p.n p.c),(29,.int .i64 (j:Int))]) (fun (j,p) w'=>(j≤10∧p.n=q.n+4*j∧aZ 5 1 p.A p.n p.c (((mI++cY (n:Int))++(xs.take k).flatMap nK++((aCo xb).take j).flatMap cY).map bB) p.e)∧Mem w [] [p.e,(some b6,bc (aF xb) 43)] w') (fun (j,p)=>10 - j) (0,q) (bE Z (bE Z dZ)) (⟨⟨by omega,by omega,by rw [List.take_zero,List.flatMap_nil,List.append_nil];exact hq⟩,M8⟩) ?_)))))))))))))))))))))))
  rintro ⟨j,p⟩ ρ9 w9 ⟨⟨hj,hpn,hp⟩,hM9⟩
  refine aE (aA (cX Z Z Z Z (aB (aC (aE ?_)))))
  refine aU Z (fun h30 => ?_) (fun h30 => ?_)
  ·obtain ⟨x,hx⟩:=cF (xs:=aCo xb) (k:=j) (n:=10) rfl (by omega)
   have hxr:=hxi x (List.mem_of_getElem? hx)
   refine aM (aC (aE (aP (aE (aA ?_)))))
   refine wq (aBn (j) (.int .u32 x) jC bV Z Z (by omega) (by omega) Z (by rw [nQ,List.getElem?_map,hx];rfl)) Z ?_
   refine bK Z Z (aB (aC (aA (dK Z Z (aQ Z Z (eP bMx Z Z (aJo _ p _ hp x hxr (by first | omega | exact (show 4≤1048576 by decide)) (hM9.ownSeg 0 1)) ?_))))))
   rintro v10 w10 ⟨p2,rfl,hnp2,hp2,hM10⟩
   have M10:Mem _ _ [_,_] _:=hM9.seg 0 1 hM10
   refine eH Z Z (aB (cR (aC (aA (wq (bC Z Z (by omega) (by omega)) Z (aQ Z Z (aB ?_)))))))
   refine bX (j+1,p2) (bE Z (bE Z dZ)) (bZ Z (bZ Z (bZ Z (bZ Z (bZ Z (bZ Z gK)))))) ?_ ?_
   ·exact ⟨⟨by omega,by omega,by rw [aYx hx,← List.append_assoc];exact hp2⟩,M10⟩
   ·(show 10 - (j+1) < 10 - j;omega)
  ·obtain rfl:j=10:=by omega
   rw [List.take_of_length_le (show (aCo xb).length≤10 from Nat.le_refl _)] at hp
   refine cN (dC (dE (eJ (cR (aC (aA (wq (bC Z Z (by omega) (by omega)) Z (aQ Z Z (aB ?_)))))))))
   refine bX (k+1,p) (bE Z (bE Z dZ)) (bZ Z (bZ Z (bZ Z (bZ Z gK)))) ?_ ?_
   ·exact ⟨⟨by omega,by omega,by rw [aJx hxb,← aZv,← List.append_assoc];exact hp⟩,hM9.keep [true,false]⟩
   ·(show n - (k+1) < n - k;omega)
 ·obtain rfl:k=n:=by omega
  rw [List.take_of_length_le (by omega),← hlen] at hq
  refine cN (dC (dE (eJ (aC (aE (aA (dK Z Z (eH Z Z (bK Z Z (aB (aC (aO (fX (.slice _ _ _) (.int _ _) Z Z ?_)))))))))))))
  exact ⟨q,Z,hq,hM5⟩
theorem aLy (w:World) (A:Option Addr) (n c:Nat) (ls:List Int) (R:Rd w 1 A n (ls.map bB)) (hB:iG ls) (hcap:n≤c) (hn:n≤1048576) :
  Calls prog 40 #[.slice A n c] w (gH (fun v w'=>∃ r:Row,v=.tuple #[.slice r.A r.n r.c,.int .i64 (nJ ls).2]∧aZ 43 10 r.A r.n r.c (((nJ ls).1).map aF) r.e∧Mem w [] [r.e] w')):=by
 have hlen:ls.length=n:=by simpa using R.len
 have hbd:=R.bound
 refine aI #[.tmp 2,.tmp 3] 58 func40 Z results40 ntmps40 Z ?_
 have M0:=Mem.refl w
 refine aE (aA (eH Z Z (bK Z Z (aB (aC (aE (aE (aA (dK Z Z (wq (cK underlying34 Z) Z (cX Z Z Z Z (wq (aH (.bool (decide _)) Z) Z ?_))))))))))))
 refine dQ 13 Z (fun g13 => ?_) (fun g13 => ?_)
 ·refine aN Z Z (aN Z Z (aN Z Z (aN Z Z (wq (bR true (.bool true) Z Z) Z (aB (aC (cE Z (aE (aA (eH Z Z (bK Z Z (aB (aC (aO (cO (fX (.slice _ _ _) (.int _ _) Z Z ?_))))))))))))))))
  have hd:=vJ (l:=ls) (fun h=>by have:=h.1;omega)
  exact ⟨⟨none,0,0,(none,default)⟩,by rw [hd],by rw [hd];exact aZ.nil _ _ _,(M0.keep []).dummy default⟩
 ·refine dK Z Z (wq (eS (0) (4) gC Z Z ⟨_,Z⟩ (by omega) (by omega) (by omega)) Z (wq (aNc underlying34 underlying5 underlying9 (Rd.subB (R.mem M0) (0) (4) (by omega) (by omega) hcap) Z) Z (wq (aQj Z Z) Z (wq (bR false (.bool (decide _)) Z Z) Z (aB (aC ?_))))))
  refine aU Z (fun h18 => ?_) (fun h18 => ?_)
  ·refine aE (aA (eH Z Z (bK Z Z (aB (aC (aO (cO (fX (.slice _ _ _) (.int _ _) Z Z ?_))))))))
   have hd:=vJ (l:=ls) (fun h=>((wD ((ls.drop 0).take (4 - 0)) (hB.sub 0 4) [66,73,76,49]).1 h18) (by rw [← qW];simpa using h.2.1))
   exact ⟨⟨none,0,0,(none,default)⟩,by rw [hd],by rw [hd];exact aZ.nil _ _ _,(M0.keep []).dummy default⟩
  ·refine aM (aC (aE (aA (dK Z Z (wq (eS (4) (((n:Nat):Int)) gC Z ⟨_,Z⟩ Z (by omega) (by omega) (by omega)) Z (dN tS Z Z M0 (jY _ _ _ _ ((ls.drop (4)).take (n - (4))) (Rd.subB (R.mem M0) (4) (n) (by omega) (by omega) hcap) (hB.sub _ _) (by omega)) (fun w1 M1 => ?_)))))))
   have hr4:=nB hB (a:=4) (by omega)
   obtain ⟨N,hN⟩:∃ N:Nat,eK ls 4=(N:Int):=⟨(eK ls 4).toNat,by omega⟩
   have hNl:N≤4294967295:=by omega
   refine aL 21 (.int .u32 (N:Int)) (iE ((fS (by omega)).trans hN)) (wq (bH wU underlying3 Z (fJ _ (by omega) (by omega))) Z (bK Z Z (aB (aC (aE (aE (aA (dK Z Z (wq (cK underlying34 Z) Z (aQ Z Z (dN tT Z Z M1 (iT _ (N:Int) (by omega)) (fun w2 M2=>(cX Z Z Z Z (aB (aC ?_)))))))))))))))
   refine aU Z (fun h27 => ?_) (fun h27 => ?_)
   ·refine aE (aA (eH Z Z (bK Z Z (aB (aC (aO (cO (fX (.slice _ _ _) (.int _ _) Z Z ?_))))))))
    have hd:=vJ (l:=ls) (fun h=>h27 (by have:=h.2.2;rw [hN] at this;omega))
    exact ⟨⟨none,0,0,(none,default)⟩,by rw [hd],by rw [hd];exact aZ.nil _ _ _,(M2.keep []).dummy default⟩
   ·have hfm:aBv ls:=⟨by omega,by have h:=Decidable.not_not.1 (mt ((wD ((ls.drop 0).take (4 - 0)) (hB.sub 0 4) [66,73,76,49]).2) h18);rw [← qW] at h;simpa using h,by rw [hN];omega⟩
    refine aM (aC (aE (aA (eH Z Z ?_))))
    have M3:=M2.dummy default
    refine aB (aC (aE (aE (aA (aQ Z Z (aQ Z Z (aB (aC (aP (dG (σ:=Nat × Row) [0,2,3,28] (fun (i,q)=>[(5,.slice q.A q.n q.c),(29,.int .i64 (i:Int))]) (fun (i,q) w'=>(i≤N∧aZ 43 10 q.A q.n q.c ((oY ls i).map aF) q.e)∧Mem w [] [q.e] w') (fun (i,q)=>N - i) (0,fH) (bE Z (bE Z dZ)) (⟨⟨by omega,aZ.nil _ _ _⟩,M3⟩) ?_))))))))))
    rintro ⟨i,q⟩ ρ4 w4 ⟨⟨hi,hq⟩,hM4⟩
    have hqn:(oY ls i).length=q.n:=by simpa using hq.1
    rw [yL] at hqn
    refine aE (aA (cX Z Z Z Z (aB (aC (aE ?_)))))
    refine aU Z (fun h30 => ?_) (fun h30 => ?_)
    ·refine aM (aC (aE (aP (aE (aA (aQ Z Z (bK Z Z (aB (aC (aE (aA (aR aNr hM4 Z Z (fun b5 w5 M5=>(aB (aC (aE (aE (aA (aQ Z Z (aB (aC (aP (jH 11 (fO (aE (aA (cX Z Z Z Z (kR 33 Z (by first | decide | omega) (aB (aC (aE (cE Z (aM (aC (aE (aP (aE (aA (aQ Z Z ?_)))))))))))))))))))))))))))))))))))))))
     refine bK Z Z (aB (aC (aA (aQ Z Z (dK Z Z (aQ Z Z (dN tT Z Z M5 (iT _ (i:Int) (by omega)) (fun w6 M6=>(aQ Z Z (wq (fC Z Z (by omega) (by omega)) Z (wq (bC Z Z (by omega) (by omega)) Z (aL 41 (.int .i64 ((8+40*i:Nat):Int)) (iE (by omega)) (wq (eS (((8+40*i:Nat):Int)) (((n:Nat):Int)) gC Z ⟨_,Z⟩ Z (by omega) (by omega) (by omega)) Z (dN tS Z Z M6 (jY _ _ _ _ ((ls.drop (8+40*i)).take (n - (8+40*i))) (Rd.subB (R.mem M6) (8+40*i) (n) (by omega) (by omega) hcap) (hB.sub _ _) (by omega)) (fun w7 M7 => ?_)))))))))))))))
     refine aL 43 (.int .u32 (eK ls (8+40*i))) (iE (fS (by omega))) (wq (cD (0) jC Z Z Z (by decide)) Z (dA 1 (.int _ _) bV M7 Z Z Z Z Z Z (fun w8 M8=>(aB (cR (aC (aA (wq (bC Z Z (by first | decide | omega) (by first | decide | omega)) Z (aL 45 (.int .i64 1) (iE (by first | decide | omega)) (aQ Z Z (aB (aC (fO (eF (fr:=[(0,.slice _ _ _),(2,.slice _ _ _),(3,.int .i64 0),(5,.slice _ _ _),(6,.int _ _),(7,.pointer _),(8,.int .i64 0),(28,.int _ _),(29,.int _ _),(32,.int .i64 1)]) (bE Z (bE Z (bE Z (bE Z (bE Z (bE Z (bE Z (bE Z (bE Z (bE Z dZ)))))))))) (fun ρ9 => ?_)))))))))))))))
     refine aE (aA (cX Z Z Z Z (kR 33 Z (by first | decide | omega) (aB (aC (aE (cE Z (aM (aC (aE (aP (aE (aA (aQ Z Z (bK Z Z (aB (aC (aA (aQ Z Z (dK Z Z (aQ Z Z (dN tT Z Z M8 (iT _ (i:Int) (by omega)) (fun w10 M10=>(aQ Z Z (wq (fC Z Z (by omega) (by omega)) Z (wq (bC Z Z (by omega) (by omega)) Z ?_))))))))))))))))))))))))))
     refine aL 41 (.int .i64 ((8+40*i+4:Nat):Int)) (iE (by omega)) (wq (eS (((8+40*i+4:Nat):Int)) (((n:Nat):Int)) gC Z ⟨_,Z⟩ Z (by omega) (by omega) (by omega)) Z (dN tS Z Z M10 (jY _ _ _ _ ((ls.drop (8+40*i+4)).take (n - (8+40*i+4))) (Rd.subB (R.mem M10) (8+40*i+4) (n) (by omega) (by omega) hcap) (hB.sub _ _) (by omega)) (fun w11 M11=>(aL 43 (.int .u32 (eK ls (8+40*i+4))) (iE (fS (by omega))) (wq (cD (1) jC Z Z Z (by decide)) Z (dA 1 (.int _ _) bV M11 Z Z Z Z Z Z (fun w12 M12 => ?_)))))))
     refine aB (cR (aC (aA (wq (bC Z Z (by first | decide | omega) (by first | decide | omega)) Z (aL 45 (.int .i64 2) (iE (by first | decide | omega)) (aQ Z Z (aB (aC (fO (eF (fr:=[(0,.slice _ _ _),(2,.slice _ _ _),(3,.int .i64 0),(5,.slice _ _ _),(6,.int _ _),(7,.pointer _),(8,.int .i64 1),(28,.int _ _),(29,.int _ _),(32,.int .i64 2)]) (bE Z (bE Z (bE Z (bE Z (bE Z (bE Z (bE Z (bE Z (bE Z (bE Z dZ)))))))))) (fun ρ13=>(aE (aA (cX Z Z Z Z (kR 33 Z (by first | decide | omega) (aB (aC (aE ?_))))))))))))))))))
     refine cE Z (aM (aC (aE (aP (aE (aA (aQ Z Z (bK Z Z (aB (aC (aA (aQ Z Z (dK Z Z (aQ Z Z (dN tT Z Z M12 (iT _ (i:Int) (by omega)) (fun w14 M14=>(aQ Z Z (wq (fC Z Z (by omega) (by omega)) Z (wq (bC Z Z (by omega) (by omega)) Z (aL 41 (.int .i64 ((8+40*i+8:Nat):Int)) (iE (by omega)) (wq (eS (((8+40*i+8:Nat):Int)) (((n:Nat):Int)) gC Z ⟨_,Z⟩ Z (by omega) (by omega) (by omega)) Z (dN tS Z Z M14 (jY _ _ _ _ ((ls.drop (8+40*i+8)).take (n - (8+40*i+8))) (Rd.subB (R.mem M14) (8+40*i+8) (n) (by omega) (by omega) hcap) (hB.sub _ _) (by omega)) (fun w15 M15 => ?_)))))))))))))))))))))))
     refine aL 43 (.int .u32 (eK ls (8+40*i+8))) (iE (fS (by omega))) (wq (cD (2) jC Z Z Z (by decide)) Z (dA 1 (.int _ _) bV M15 Z Z Z Z Z Z (fun w16 M16=>(aB (cR (aC (aA (wq (bC Z Z (by first | decide | omega) (by first | decide | omega)) Z (aL 45 (.int .i64 3) (iE (by first | decide | omega)) (aQ Z Z (aB (aC (fO (eF (fr:=[(0,.slice _ _ _),(2,.slice _ _ _),(3,.int .i64 0),(5,.slice _ _ _),(6,.int _ _),(7,.pointer _),(8,.int .i64 2),(28,.int _ _),(29,.int _ _),(32,.int .i64 3)]) (bE Z (bE Z (bE Z (bE Z (bE Z (bE Z (bE Z (bE Z (bE Z (bE Z dZ)))))))))) (fun ρ17 => ?_)))))))))))))))
     refine aE (aA (cX Z Z Z Z (kR 33 Z (by first | decide | omega) (aB (aC (aE (cE Z (aM (aC (aE (aP (aE (aA (aQ Z Z (bK Z Z (aB (aC (aA (aQ Z Z (dK Z Z (aQ Z Z (dN tT Z Z M16 (iT _ (i:Int) (by omega)) (fun w18 M18=>(aQ Z Z (wq (fC Z Z (by omega) (by omega)) Z (wq (bC Z Z (by omega) (by omega)) Z ?_))))))))))))))))))))))))))
     refine aL 41 (.int .i64 ((8+40*i+12:Nat):Int)) (iE (by omega)) (wq (eS (((8+40*i+12:Nat):Int)) (((n:Nat):Int)) gC Z ⟨_,Z⟩ Z (by omega) (by omega) (by omega)) Z (dN tS Z Z M18 (jY _ _ _ _ ((ls.drop (8+40*i+12)).take (n - (8+40*i+12))) (Rd.subB (R.mem M18) (8+40*i+12) (n) (by omega) (by omega) hcap) (hB.sub _ _) (by omega)) (fun w19 M19=>(aL 43 (.int .u32 (eK ls (8+40*i+12))) (iE (fS (by omega))) (wq (cD (3) jC Z Z Z (by decide)) Z (dA 1 (.int _ _) bV M19 Z Z Z Z Z Z (fun w20 M20 => ?_)))))))
     refine aB (cR (aC (aA (wq (bC Z Z (by first | decide | omega) (by first | decide | omega)) Z (aL 45 (.int .i64 4) (iE (by first | decide | omega)) (aQ Z Z (aB (aC (fO (eF (fr:=[(0,.slice _ _ _),(2,.slice _ _ _),(3,.int .i64 0),(5,.slice _ _ _),(6,.int _ _),(7,.pointer _),(8,.int .i64 3),(28,.int _ _),(29,.int _ _),(32,.int .i64 4)]) (bE Z (bE Z (bE Z (bE Z (bE Z (bE Z (bE Z (bE Z (bE Z (bE Z dZ)))))))))) (fun ρ21=>(aE (aA (cX Z Z Z Z (kR 33 Z (by first | decide | omega) (aB (aC (aE ?_))))))))))))))))))
     refine cE Z (aM (aC (aE (aP (aE (aA (aQ Z Z (bK Z Z (aB (aC (aA (aQ Z Z (dK Z Z (aQ Z Z (dN tT Z Z M20 (iT _ (i:Int) (by omega)) (fun w22 M22=>(aQ Z Z (wq (fC Z Z (by omega) (by omega)) Z (wq (bC Z Z (by omega) (by omega)) Z (aL 41 (.int .i64 ((8+40*i+16:Nat):Int)) (iE (by omega)) (wq (eS (((8+40*i+16:Nat):Int)) (((n:Nat):Int)) gC Z ⟨_,Z⟩ Z (by omega) (by omega) (by omega)) Z (dN tS Z Z M22 (jY _ _ _ _ ((ls.drop (8+40*i+16)).take (n - (8+40*i+16))) (Rd.subB (R.mem M22) (8+40*i+16) (n) (by omega) (by omega) hcap) (hB.sub _ _) (by omega)) (fun w23 M23 => ?_)))))))))))))))))))))))
     refine aL 43 (.int .u32 (eK ls (8+40*i+16))) (iE (fS (by omega))) (wq (cD (4) jC Z Z Z (by decide)) Z (dA 1 (.int _ _) bV M23 Z Z Z Z Z Z (fun w24 M24=>(aB (cR (aC (aA (wq (bC Z Z (by first | decide | omega) (by first | decide | omega)) Z (aL 45 (.int .i64 5) (iE (by first | decide | omega)) (aQ Z Z (aB (aC (fO (eF (fr:=[(0,.slice _ _ _),(2,.slice _ _ _),(3,.int .i64 0),(5,.slice _ _ _),(6,.int _ _),(7,.pointer _),(8,.int .i64 4),(28,.int _ _),(29,.int _ _),(32,.int .i64 5)]) (bE Z (bE Z (bE Z (bE Z (bE Z (bE Z (bE Z (bE Z (bE Z (bE Z dZ)))))))))) (fun ρ25 => ?_)))))))))))))))
     refine aE (aA (cX Z Z Z Z (kR 33 Z (by first | decide | omega) (aB (aC (aE (cE Z (aM (aC (aE (aP (aE (aA (aQ Z Z (bK Z Z (aB (aC (aA (aQ Z Z (dK Z Z (aQ Z Z (dN tT Z Z M24 (iT _ (i:Int) (by omega)) (fun w26 M26=>(aQ Z Z (wq (fC Z Z (by omega) (by omega)) Z (wq (bC Z Z (by omega) (by omega)) Z ?_))))))))))))))))))))))))))
     refine aL 41 (.int .i64 ((8+40*i+20:Nat):Int)) (iE (by omega)) (wq (eS (((8+40*i+20:Nat):Int)) (((n:Nat):Int)) gC Z ⟨_,Z⟩ Z (by omega) (by omega) (by omega)) Z (dN tS Z Z M26 (jY _ _ _ _ ((ls.drop (8+40*i+20)).take (n - (8+40*i+20))) (Rd.subB (R.mem M26) (8+40*i+20) (n) (by omega) (by omega) hcap) (hB.sub _ _) (by omega)) (fun w27 M27=>(aL 43 (.int .u32 (eK ls (8+40*i+20))) (iE (fS (by omega))) (wq (cD (5) jC Z Z Z (by decide)) Z (dA 1 (.int _ _) bV M27 Z Z Z Z Z Z (fun w28 M28 => ?_)))))))
     refine aB (cR (aC (aA (wq (bC Z Z (by first | decide | omega) (by first | decide | omega)) Z (aL 45 (.int .i64 6) (iE (by first | decide | omega)) (aQ Z Z (aB (aC (fO (eF (fr:=[(0,.slice _ _ _),(2,.slice _ _ _),(3,.int .i64 0),(5,.slice _ _ _),(6,.int _ _),(7,.pointer _),(8,.int .i64 5),(28,.int _ _),(29,.int _ _),(32,.int .i64 6)]) (bE Z (bE Z (bE Z (bE Z (bE Z (bE Z (bE Z (bE Z (bE Z (bE Z dZ)))))))))) (fun ρ29=>(aE (aA (cX Z Z Z Z (kR 33 Z (by first | decide | omega) (aB (aC (aE ?_))))))))))))))))))
     refine cE Z (aM (aC (aE (aP (aE (aA (aQ Z Z (bK Z Z (aB (aC (aA (aQ Z Z (dK Z Z (aQ Z Z (dN tT Z Z M28 (iT _ (i:Int) (by omega)) (fun w30 M30=>(aQ Z Z (wq (fC Z Z (by omega) (by omega)) Z (wq (bC Z Z (by omega) (by omega)) Z (aL 41 (.int .i64 ((8+40*i+24:Nat):Int)) (iE (by omega)) (wq (eS (((8+40*i+24:Nat):Int)) (((n:Nat):Int)) gC Z ⟨_,Z⟩ Z (by omega) (by omega) (by omega)) Z (dN tS Z Z M30 (jY _ _ _ _ ((ls.drop (8+40*i+24)).take (n - (8+40*i+24))) (Rd.subB (R.mem M30) (8+40*i+24) (n) (by omega) (by omega) hcap) (hB.sub _ _) (by omega)) (fun w31 M31 => ?_)))))))))))))))))))))))
     refine aL 43 (.int .u32 (eK ls (8+40*i+24))) (iE (fS (by omega))) (wq (cD (6) jC Z Z Z (by decide)) Z (dA 1 (.int _ _) bV M31 Z Z Z Z Z Z (fun w32 M32=>(aB (cR (aC (aA (wq (bC Z Z (by first | decide | omega) (by first | decide | omega)) Z (aL 45 (.int .i64 7) (iE (by first | decide | omega)) (aQ Z Z (aB (aC (fO (eF (fr:=[(0,.slice _ _ _),(2,.slice _ _ _),(3,.int .i64 0),(5,.slice _ _ _),(6,.int _ _),(7,.pointer _),(8,.int .i64 6),(28,.int _ _),(29,.int _ _),(32,.int .i64 7)]) (bE Z (bE Z (bE Z (bE Z (bE Z (bE Z (bE Z (bE Z (bE Z (bE Z dZ)))))))))) (fun ρ33 => ?_)))))))))))))))
     refine aE (aA (cX Z Z Z Z (kR 33 Z (by first | decide | omega) (aB (aC (aE (cE Z (aM (aC (aE (aP (aE (aA (aQ Z Z (bK Z Z (aB (aC (aA (aQ Z Z (dK Z Z (aQ Z Z (dN tT Z Z M32 (iT _ (i:Int) (by omega)) (fun w34 M34=>(aQ Z Z (wq (fC Z Z (by omega) (by omega)) Z (wq (bC Z Z (by omega) (by omega)) Z ?_))))))))))))))))))))))))))
     refine aL 41 (.int .i64 ((8+40*i+28:Nat):Int)) (iE (by omega)) (wq (eS (((8+40*i+28:Nat):Int)) (((n:Nat):Int)) gC Z ⟨_,Z⟩ Z (by omega) (by omega) (by omega)) Z (dN tS Z Z M34 (jY _ _ _ _ ((ls.drop (8+40*i+28)).take (n - (8+40*i+28))) (Rd.subB (R.mem M34) (8+40*i+28) (n) (by omega) (by omega) hcap) (hB.sub _ _) (by omega)) (fun w35 M35=>(aL 43 (.int .u32 (eK ls (8+40*i+28))) (iE (fS (by omega))) (wq (cD (7) jC Z Z Z (by decide)) Z (dA 1 (.int _ _) bV M35 Z Z Z Z Z Z (fun w36 M36 => ?_)))))))
     refine aB (cR (aC (aA (wq (bC Z Z (by first | decide | omega) (by first | decide | omega)) Z (aL 45 (.int .i64 8) (iE (by first | decide | omega)) (aQ Z Z (aB (aC (fO (eF (fr:=[(0,.slice _ _ _),(2,.slice _ _ _),(3,.int .i64 0),(5,.slice _ _ _),(6,.int _ _),(7,.pointer _),(8,.int .i64 7),(28,.int _ _),(29,.int _ _),(32,.int .i64 8)]) (bE Z (bE Z (bE Z (bE Z (bE Z (bE Z (bE Z (bE Z (bE Z (bE Z dZ)))))))))) (fun ρ37=>(aE (aA (cX Z Z Z Z (kR 33 Z (by first | decide | omega) (aB (aC (aE ?_))))))))))))))))))
     refine cE Z (aM (aC (aE (aP (aE (aA (aQ Z Z (bK Z Z (aB (aC (aA (aQ Z Z (dK Z Z (aQ Z Z (dN tT Z Z M36 (iT _ (i:Int) (by omega)) (fun w38 M38=>(aQ Z Z (wq (fC Z Z (by omega) (by omega)) Z (wq (bC Z Z (by omega) (by omega)) Z (aL 41 (.int .i64 ((8+40*i+32:Nat):Int)) (iE (by omega)) (wq (eS (((8+40*i+32:Nat):Int)) (((n:Nat):Int)) gC Z ⟨_,Z⟩ Z (by omega) (by omega) (by omega)) Z (dN tS Z Z M38 (jY _ _ _ _ ((ls.drop (8+40*i+32)).take (n - (8+40*i+32))) (Rd.subB (R.mem M38) (8+40*i+32) (n) (by omega) (by omega) hcap) (hB.sub _ _) (by omega)) (fun w39 M39 => ?_)))))))))))))))))))))))
     refine aL 43 (.int .u32 (eK ls (8+40*i+32))) (iE (fS (by omega))) (wq (cD (8) jC Z Z Z (by decide)) Z (dA 1 (.int _ _) bV M39 Z Z Z Z Z Z (fun w40 M40=>(aB (cR (aC (aA (wq (bC Z Z (by first | decide | omega) (by first | decide | omega)) Z (aL 45 (.int .i64 9) (iE (by first | decide | omega)) (aQ Z Z (aB (aC (fO (eF (fr:=[(0,.slice _ _ _),(2,.slice _ _ _),(3,.int .i64 0),(5,.slice _ _ _),(6,.int _ _),(7,.pointer _),(8,.int .i64 8),(28,.int _ _),(29,.int _ _),(32,.int .i64 9)]) (bE Z (bE Z (bE Z (bE Z (bE Z (bE Z (bE Z (bE Z (bE Z (bE Z dZ)))))))))) (fun ρ41 => ?_)))))))))))))))
     refine aE (aA (cX Z Z Z Z (kR 33 Z (by first | decide | omega) (aB (aC (aE (cE Z (aM (aC (aE (aP (aE (aA (aQ Z Z (bK Z Z (aB (aC (aA (aQ Z Z (dK Z Z (aQ Z Z (dN tT Z Z M40 (iT _ (i:Int) (by omega)) (fun w42 M42=>(aQ Z Z (wq (fC Z Z (by omega) (by omega)) Z (wq (bC Z Z (by omega) (by omega)) Z ?_))))))))))))))))))))))))))
     refine aL 41 (.int .i64 ((8+40*i+36:Nat):Int)) (iE (by omega)) (wq (eS (((8+40*i+36:Nat):Int)) (((n:Nat):Int)) gC Z ⟨_,Z⟩ Z (by omega) (by omega) (by omega)) Z (dN tS Z Z M42 (jY _ _ _ _ ((ls.drop (8+40*i+36)).take (n - (8+40*i+36))) (Rd.subB (R.mem M42) (8+40*i+36) (n) (by omega) (by omega) hcap) (hB.sub _ _) (by omega)) (fun w43 M43=>(aL 43 (.int .u32 (eK ls (8+40*i+36))) (iE (fS (by omega))) (wq (cD (9) jC Z Z Z (by decide)) Z (dA 1 (.int _ _) bV M43 Z Z Z Z Z Z (fun w44 M44 => ?_)))))))
     refine aB (cR (aC (aA (wq (bC Z Z (by first | decide | omega) (by first | decide | omega)) Z (aL 45 (.int .i64 10) (iE (by first | decide | omega)) (aQ Z Z (aB (aC (fO (eF (fr:=[(0,.slice _ _ _),(2,.slice _ _ _),(3,.int .i64 0),(5,.slice _ _ _),(6,.int _ _),(7,.pointer _),(8,.int .i64 9),(28,.int _ _),(29,.int _ _),(32,.int .i64 10)]) (bE Z (bE Z (bE Z (bE Z (bE Z (bE Z (bE Z (bE Z (bE Z (bE Z dZ)))))))))) (fun ρ45=>(aE (aA (cX Z Z Z Z (pD 33 Z (by first | decide | omega) (aB (aC (aE ?_))))))))))))))))))
     refine cG rfl (cN (dC (dC (eJ (aC (aA (dK rfl rfl (wq (aX 1 aRn M44 rfl rfl rfl) rfl (dN bUm rfl rfl M44 (aMa _ _ _ _ _ _ _ _ _ _ _ (bVp hB (a:=8+40*i) (by omega))) (fun w46 M46=>(aL 48 ((.agg (aF (mG ls (8+40*i))).toArray)) rfl (cC [.agg (List.toArray _)] [aF (mG ls (8+40*i))] rfl dP M46 rfl rfl rfl rfl (cU rfl) (by decide) (fun b47 w47 M47=>(cW 0 [aF (mG ls (8+40*i))] dP M47 rfl rfl rfl rfl rfl hq rfl (by simp [aF,Go.Bil.one]) (dL.ofMem 2 M47 rfl) (by omega) (fun A48 c48 e48 w48 M48 hR48 => ?_)))))))))))))))
     refine eH Z Z (aB (cR (aC (aA (wq (bC Z Z (by omega) (by omega)) Z (aQ Z Z (aB ?_)))))))
     refine bX (i+1,⟨A48,q.n+1,c48,e48⟩) (bE Z (bE Z dZ)) (bZ Z (bZ Z (bZ Z (bZ Z gK)))) ?_ ?_
     ·exact ⟨⟨by omega,by rw [aJs,List.map_append];exact hR48⟩,M48.keep [true,false,false]⟩
     ·(show N - (i+1) < N - i;omega)
    ·obtain rfl:i=N:=by omega
     refine cN (dC (dE (eJ (aC (aE (aE (aA (dK Z Z (eP bMw Z Z (aHt _ _ _ _ (oY ls i) (hq.rd hM4 (bA (i:=0) Z))) ?_)))))))))
     rintro v49 w49 ⟨rfl,hb49⟩
     have M49:=hM4.callB hb49
     refine bK Z Z (aB (aC (aE (aA (aQ Z Z (cX Z Z Z Z (aB (aC ?_))))))))
     refine aU Z (fun h55 => ?_) (fun h55 => ?_)
     ·refine aE (aA (aQ Z Z (eH Z Z (bK Z Z (aB (aC (aO (cO (fX (.slice _ _ _) (.int _ _) Z Z ?_)))))))))
      have hd:=aVy hfm hN h55
      exact ⟨⟨none,0,0,(none,default)⟩,by rw [hd],by rw [hd];exact aZ.nil _ _ _,(M49.keep [false]).dummy default⟩
     ·refine aM (aC (aE (aA (dK Z Z (eH Z Z (bK Z Z (aB (aC (aO (fX (.slice _ _ _) (.int _ _) Z Z ?_))))))))))
      have hd:=aOv hfm hN (Decidable.not_not.1 h55)
      exact ⟨q,by rw [hd],by rw [hd];exact hq,M49⟩
theorem iW (w:World) (n:Int) (hn : -2147483648≤n∧n≤4294967295) :
  Calls prog 39 #[.int .i64 n] w (gH (fun v w'=>∃ q:Row,v=.slice q.A q.n q.c∧q.n=4∧aZ 5 1 q.A q.n q.c ((cY n).map bB) q.e∧Mem w [] [q.e] w')):=by
 obtain ⟨m,hm⟩:∃ m,m=n % 4294967296:=⟨_,rfl⟩
 have hmr:0≤m∧m≤4294967296:=by omega
 have hwm:cY m=cY n:=by rw [hm];exact wJ n
 refine aI #[.tmp 2] 19 func39 Z results39 ntmps39 Z ?_
 have M0:=Mem.refl w
 refine aE (aA (eH Z Z (aB (aC (aE (aE (aA (aQ Z Z (cX Z Z Z Z (aB (aC ?_)))))))))))
 refine aU Z (fun h4 => ?_) (fun h4 => ?_)
 ·refine aA (aQ Z Z (wq (bC Z Z (by omega) (by omega)) Z (aL 6 (.int .i64 m) (iE (by omega)) (bK Z Z (aB (aC (aE (aA (aQ Z Z (aL 7 (.int .i64 m) (iE (by omega)) (wq (gA Z Z (by decide)) Z (aL 8 (.int .i64 (m / 16777216)) (iE (sH (by omega) (by omega))) (wq (dF mV underlying5 Z) Z (aL 9 (.int .u8 (m / 16777216 % 256)) (iE (wr8 _)) (aQ Z Z (aL 10 (.int .i64 m) (iE (by omega)) (wq (gA Z Z (by decide)) Z (aL 11 (.int .i64 (m / 65536)) (iE (sH (by omega) (by omega))) ?_))))))))))))))))))
  refine wq (dF mV underlying5 Z) Z (aL 12 (.int .u8 (m / 65536 % 256)) (iE (wr8 _)) (aQ Z Z (aL 13 (.int .i64 m) (iE (by omega)) (wq (gA Z Z (by decide)) Z (aL 14 (.int .i64 (m / 256)) (iE (sH (by omega) (by omega))) (wq (dF mV underlying5 Z) Z (aL 15 (.int .u8 (m / 256 % 256)) (iE (wr8 _)) (aQ Z Z (aL 16 (.int .i64 m) (iE (by omega)) (wq (dF mV underlying5 Z) Z (aL 17 (.int .u8 (m % 256)) (iE (wr8 _)) (cC [.int _ _,.int _ _,.int _ _,.int _ _] ((cY m).map bB) Z gC M0 Z Z Z Z (cU Z) (by decide) (fun b1 w1 M1 => ?_)))))))))))))
  have hlit18:=kZ (T:=5) (b:=b1) ((cY m).map bB) (sM _) rfl (show 4≤281474976710656 by decide)
  refine eH Z Z (aB (aC (aO (cI (.slice _ _ _) Z ?_))))
  exact ⟨⟨some ⟨b1,0,none⟩,4,4,_⟩,Z,Z,by rw [← hwm];exact hlit18,M1⟩
 ·refine aM (aC (aE (aA (aQ Z Z (aL 7 (.int .i64 m) (iE (by omega)) (wq (gA Z Z (by decide)) Z (aL 8 (.int .i64 (m / 16777216)) (iE (sH (by omega) (by omega))) (wq (dF mV underlying5 Z) Z (aL 9 (.int .u8 (m / 16777216 % 256)) (iE (wr8 _)) (aQ Z Z (aL 10 (.int .i64 m) (iE (by omega)) (wq (gA Z Z (by decide)) Z (aL 11 (.int .i64 (m / 65536)) (iE (sH (by omega) (by omega))) (wq (dF mV underlying5 Z) Z (aL 12 (.int .u8 (m / 65536 % 256)) (iE (wr8 _)) (aQ Z Z (aL 13 (.int .i64 m) (iE (by omega)) (wq (gA Z Z (by decide)) Z ?_))))))))))))))))))
  refine aL 14 (.int .i64 (m / 256)) (iE (sH (by omega) (by omega))) (wq (dF mV underlying5 Z) Z (aL 15 (.int .u8 (m / 256 % 256)) (iE (wr8 _)) (aQ Z Z (aL 16 (.int .i64 m) (iE (by omega)) (wq (dF mV underlying5 Z) Z (aL 17 (.int .u8 (m % 256)) (iE (wr8 _)) (cC [.int _ _,.int _ _,.int _ _,.int _ _] ((cY m).map bB) Z gC M0 Z Z Z Z (cU Z) (by decide) (fun b2 w2 M2 => ?_))))))))
  have hlit18:=kZ (T:=5) (b:=b2) ((cY m).map bB) (sM _) rfl (show 4≤281474976710656 by decide)
  refine eH Z Z (aB (aC (aO (cI (.slice _ _ _) Z ?_))))
  exact ⟨⟨some ⟨b2,0,none⟩,4,4,_⟩,Z,Z,by rw [← hwm];exact hlit18,M2⟩
theorem sZ (w:World) (A:Option Addr) (n c:Nat) (ls:List Int) (R:Rd w 1 A n (ls.map bB)) (hB:iG ls) (h4:4≤n) :
  Calls prog 90 #[.slice A n c] w (Rb w (.int .i64 (eK ls 0))):=by
 have hlen:ls.length=n:=by simpa using R.len
 have hbd:=R.bound
 obtain ⟨x0,hx0⟩:=cF (xs:=ls) (k:=0) hlen (by omega)
 obtain ⟨x1,hx1⟩:=cF (xs:=ls) (k:=1) hlen (by omega)
 obtain ⟨x2,hx2⟩:=cF (xs:=ls) (k:=2) hlen (by omega)
 obtain ⟨x3,hx3⟩:=cF (xs:=ls) (k:=3) hlen (by omega)
 obtain ⟨g0,g1⟩:=hB x0 (List.mem_of_getElem? hx0)
 obtain ⟨g2,g3⟩:=hB x1 (List.mem_of_getElem? hx1)
 obtain ⟨g4,g5⟩:=hB x2 (List.mem_of_getElem? hx2)
 obtain ⟨g6,g7⟩:=hB x3 (List.mem_of_getElem? hx3)
 have hnum:eK ls 0=((x0*256+x1)*256+x2)*256+x3:=by unfold eK;simp only [List.getD_eq_getElem?_getD,Nat.zero_add,hx0,hx1,hx2,hx3,Option.getD_some]
 refine aI #[.tmp 2] 25 func90 Z results90 ntmps90 Z ?_
 have M0:=Mem.refl w
 refine aE (aA (bK Z Z (aB (aC (aE (fW [(0,0),(1,1),(2,1),(3,0),(4,0),(5,0),(6,1),(7,1),(8,0),(9,0),(10,0),(11,0),(12,1),(13,1),(14,0),(15,0),(16,0),(17,0),(18,1),(19,1),(20,0),(21,0),(22,0)] mixed M0 Z (by kernel_rfl) (fun w1 M1=>(kA Z Z Z (bP Z Z Z (bJ (0) gC Z Z Z ((R.mem M1).below_len (aG bB hx0)) ((R.mem M1).someK (aG bB hx0))) (bP Z Z Z (fU (.int _ _) wP (R.mem M1) (aG bB hx0) Z) (aV Z Z Z (fun _=>bH us5 underlying2 Z (fJ _ (by omega) (by omega))) ?_)))))))))))
 refine aV Z Z Z (fun _=>fC Z Z (by omega) (by omega)) (kA Z Z Z (bP Z Z Z (bJ (1) gC Z Z Z ((R.mem M1).below_len (aG bB hx1)) ((R.mem M1).someK (aG bB hx1))) (bP Z Z Z (fU (.int _ _) wP (R.mem M1) (aG bB hx1) Z) (aV Z Z Z (fun _=>bH us5 underlying2 Z (fJ _ (by omega) (by omega))) (aV Z Z Z (fun _=>bC Z Z (by omega) (by omega)) (aV Z Z Z (fun _=>fC Z Z (by omega) (by omega)) (kA Z Z Z (bP Z Z Z (bJ (2) gC Z Z Z ((R.mem M1).below_len (aG bB hx2)) ((R.mem M1).someK (aG bB hx2))) ?_))))))))
 refine bP Z Z Z (fU (.int _ _) wP (R.mem M1) (aG bB hx2) Z) (aV Z Z Z (fun _=>bH us5 underlying2 Z (fJ _ (by omega) (by omega))) (aV Z Z Z (fun _=>bC Z Z (by omega) (by omega)) (aV Z Z Z (fun _=>fC Z Z (by omega) (by omega)) (kA Z Z Z (bP Z Z Z (bJ (3) gC Z Z Z ((R.mem M1).below_len (aG bB hx3)) ((R.mem M1).someK (aG bB hx3))) (bP Z Z Z (fU (.int _ _) wP (R.mem M1) (aG bB hx3) Z) (aV Z Z Z (fun _=>bH us5 underlying2 Z (fJ _ (by omega) (by omega))) ?_)))))))
 refine aV Z Z Z (fun _=>bC Z Z (by omega) (by omega)) (mW Z Z Z (bS (aC (aO (cI (.int _ _) Z ?_)))))
 exact ⟨iE (by rw [hnum]),M1.below⟩
theorem iN (w:World) (A:Option Addr) (n c:Nat) (ls:List Int) (R:Rd w 1 A n (ls.map bB)) (hB:iG ls) (h4:4≤n) :
  Calls prog 91 #[.slice A n c] w (Rb w (.int .i32 (lB (eK ls 0)))):=by
 have hlen:ls.length=n:=by simpa using R.len
 have hbd:=R.bound
 obtain ⟨hr1,hr2,_⟩:=nB hB (a:=0) (by omega)
 have hsg:=oE ⟨hr1,hr2⟩
 refine aI #[.tmp 2] 12 func91 Z results91 ntmps91 Z ?_
 have M0:=Mem.refl w
 refine aE (aA (bK Z Z (aB (aC (aE (aA (dK Z Z (dN bDl Z Z M0 (sZ _ A n c ls (R.mem M0) hB h4) (fun w1 M1=>(bK Z Z (aB (aC (aE (aE (aA (aQ Z Z (cX Z Z Z Z (aB (aC ?_)))))))))))))))))))
 refine aU Z (fun h7 => ?_) (fun h7 => ?_)
 ·refine aA (aQ Z Z (wq (gG Z Z (by omega) (by omega)) Z (bK Z Z (aB (aC (aE (aA (aQ Z Z (wq (dF mV underlying21 Z) Z (aL 11 (.int .i32 (lB (eK ls 0))) (iE (by first | (rw [show eK ls 0 - 4294967296=lB (eK ls 0) by unfold lB;rw [if_pos (by omega)]];exact jQ _ (by omega) (by omega)) | (rw [show lB (eK ls 0)=eK ls 0 by unfold lB;rw [if_neg (by omega)]];exact jQ _ (by omega) (by omega)))) (bK Z Z (aB (aC (aO (cI (.int _ _) Z ?_)))))))))))))))
  exact ⟨Z,M1.below⟩
 ·refine aM (aC (aE (aA (aQ Z Z (wq (dF mV underlying21 Z) Z (aL 11 (.int .i32 (lB (eK ls 0))) (iE (by first | (rw [show eK ls 0 - 4294967296=lB (eK ls 0) by unfold lB;rw [if_pos (by omega)]];exact jQ _ (by omega) (by omega)) | (rw [show lB (eK ls 0)=eK ls 0 by unfold lB;rw [if_neg (by omega)]];exact jQ _ (by omega) (by omega)))) (bK Z Z (aB (aC (aO (cI (.int _ _) Z ?_)))))))))))
  exact ⟨Z,M1.below⟩
theorem xY (w:World) (A:Option Addr) (n c:Nat) (xs:List Int) (R:Rd w 1 A n (xs.map bB)) (B:Option Addr) (m c':Nat) (ys:List Int) (R':Rd w 1 B m (ys.map bB)) :
  Calls prog 15 #[.slice A n c,.slice B m c'] w (Rb w (.bool (decide (xs=ys)))):=by
 have hlen:xs.length=n:=by simpa using R.len
 have hlen':ys.length=m:=by simpa using R'.len
 have hbd:=R.bound
 have hbd':=R'.bound
 refine aI #[.tmp 4] 26 func15 Z results15 ntmps15 Z ?_
 have M0:=Mem.refl w
 refine aE (aA (wq (aJ (.bool false) Z) Z (aB (aC (aE (aE (aA (dK Z Z (wq (cK underlying34 Z) Z (dK Z Z (wq (cK underlying34 Z) Z (cX Z Z Z Z (aB (aC ?_))))))))))))))
 refine aU Z (fun h10 => ?_) (fun h10 => ?_)
 ·refine aE (aA (wq (aJ (.bool false) Z) Z (aB (aC (aO (cO (cI (.bool false) Z ?_)))))))
  exact ⟨bF (fun e=>h10 (by rw [← hlen,← hlen',e])),M0.below⟩
 ·have hnm:n=m:=by omega
  refine aM (aC (aE (aE (aA (bK Z Z (aB (aC (aP (dG (σ:=Nat) [0,1] (fun k=>[(5,.int .i64 (k:Int))]) (fun k w'=>(k≤n∧∀ (j:Nat) (x:Int),j < k→xs[j]? = some x→ys[j]? = some x)∧Mem w [] [] w') (fun k=>n - k) 0 (bE Z dZ) (⟨⟨by omega,fun j c hj=>by omega⟩,M0⟩) ?_)))))))))
  rintro k ρ1 w1 ⟨⟨hk,hne⟩,hM1⟩
  refine aE (aE (aA (aQ Z Z (dK Z Z (wq (cK underlying34 Z) Z (cX Z Z Z Z (aB (aC ?_))))))))
  refine aU Z (fun h14 => ?_) (fun h14 => ?_)
  ·obtain ⟨xb,hxb⟩:=cF (xs:=xs) (k:=k) hlen (by omega)
   obtain ⟨yb,hyb⟩:=cF (xs:=ys) (k:=k) hlen' (by omega)
   refine aM (aC (aE (aP (aE (mF [(0,0),(1,0),(2,1),(3,1),(4,0),(5,0),(6,1),(7,1),(8,0)] mixed Z (by kernel_rfl) (fun w2 hb2 hh2 => ?_))))))
   have M2:=hM1.drew hb2 hh2
   refine kA Z Z Z (eD Z Z Z (bP Z Z Z (bJ (k) gC Z Z Z ((R.mem M2).below_len (aG bB hxb)) ((R.mem M2).someK (aG bB hxb))) (bP Z Z Z (fU (.int _ _) wP (R.mem M2) (aG bB hxb) Z) (kA Z Z Z (eD Z Z Z (bP Z Z Z (bJ (k) gC Z Z Z ((R'.mem M2).below_len (aG bB hyb)) ((R'.mem M2).someK (aG bB hyb))) (bP Z Z Z (fU (.int _ _) wP (R'.mem M2) (aG bB hyb) Z) (aV Z Z Z (fun _=>cA (.bool (decide _)) Z Z Z) (bS (aC ?_))))))))))
   refine aU Z (fun h25 => ?_) (fun h25 => ?_)
   ·refine aE (aA (wq (aJ (.bool false) Z) Z (aB (aC (aO (lU (cO (uQ (lU (cO (cI (.bool false) Z ?_)))))))))))
    exact ⟨bF (fun e=>h25 (by rw [e] at hxb;rw [hxb] at hyb;injection hyb)),M2.below⟩
   ·refine aM (cR (aC (aA (aQ Z Z (wq (bC Z Z (by omega) (by omega)) Z (bK Z Z (aB ?_)))))))
    refine bX (k+1) (bE Z dZ) (bZ Z (bZ Z gK)) ?_ ?_
    ·exact ⟨⟨by omega,sK (p:=fun j x=>ys[j]? = some x) hne hxb (by rw [hyb,Decidable.not_not.1 h25])⟩,M2⟩
    ·omega
  ·refine cN (dC (dE (eJ (aC (aE (aA (wq (aJ (.bool true) Z) Z (aB (aC (aO (cI (.bool true) Z ?_)))))))))))
   exact ⟨bT (bFg hlen hlen' hnm (fun j x hj hx=>hne j x (by omega) hx)),hM1.below⟩
theorem aCx (w:World) (A:Option Addr) (n c:Nat) (xs:List Body) (R:Rd w 10 A n (xs.map aF)) (hn:n≤4096) (hb:∀ b∈xs,InB b) :
  Calls prog 27 #[.slice A n c] w (gH (fun v w'=>∃ q:Row,v=.slice q.A q.n q.c∧aZ 5 1 q.A q.n q.c ((kH xs).map bB) q.e∧Mem w [] [q.e] w')):=by
 have hlen:xs.length=n:=by simpa using R.len
 have hbd:=R.bound
 refine aI #[.tmp 2] 84 func27 Z results27 ntmps27 Z ?_
 have M0:=Mem.refl w
 refine aE (aA (eH Z Z (aB (aC (aE (aA (cC [.int _ _,.int _ _,.int _ _,.int _ _] (mI.map bB) Z gC M0 Z Z Z Z (cU Z) (by decide) (fun b1 w1 M1 => ?_))))))))
 have hlit6:=kZ (T:=5) (b:=b1) (mI.map bB) (sM _) rfl (by decide)
 refine aXo 0 underlying34 underlying5 M1 Z Z Z Z hlit6 (by decide) (fun e2 w2 M2 hR2=>(dK Z Z (wq (cK underlying46 Z) Z (eP tR Z Z (iW _ (n:Int) (by omega)) ?_))))
 rintro v3 w3 ⟨q0,rfl,hn0,hw0,hM3⟩
 have M3:Mem _ _ [_,_] _:=M2.call0 hM3
 refine gJ 0 ((cY (n:Int)).map bB) gC M3 Z Z Z Z Z hR2 (hw0.rd M3 (bA (i:=1) Z)) (iS _) (by omega) (fun A4 c4 e4 w4 M4 hR4 hA4=>(eH Z Z (aB (aC (aE (aE (aA (bK Z Z (aB (aC (aP (dG (σ:=Nat × Row) [0,2] (fun (k,q)=>[(3,.slice q.A q.n q.c),(4,.int .i64 (k:Int))]) (fun (k,q) w'=>(k≤n∧q.n=8+40*k∧aZ 5 1 q.A q.n q.c (((mI++cY (n:Int))++(xs.take k).flatMap nK).map bB) q.e)∧Mem w [] [q.e] w') (fun (k,q)=>n - k) (0,⟨A4,4+q0.n,c4,e4⟩) (bE Z (bE Z dZ)) (⟨⟨by omega,(show 4+q0.n=8 by omega),by rw [List.take_zero,List.flatMap_nil,List.append_nil,List.map_append];exact hR4⟩,M4.keep [true,false]⟩) ?_))))))))))))
 rintro ⟨k,q⟩ ρ5 w5 ⟨⟨hk,hqn,hq⟩,hM5⟩
 refine aE (aE (aA (aQ Z Z (dK Z Z (wq (cK underlying46 Z) Z (cX Z Z Z Z (aB (aC ?_))))))))
 refine aU Z (fun h15 => ?_) (fun h15 => ?_)
 ·obtain ⟨xb,hxb⟩:=cF (xs:=xs) (k:=k) hlen (by omega)
  obtain ⟨i0,i1,i2,i3,i4,i5,i6,i7,i8,i9⟩:=hb xb (List.mem_of_getElem? hxb)
  refine aM (aC (aE (aP (aE (aA (dK Z Z (aQ Z Z (wq (bJ (k) dP Z Z Z ((R.mem hM5).below_len (aG aF hxb)) ((R.mem hM5).someK (aG aF hxb))) Z (wq (dW _ bQ (R.mem hM5) (aG aF hxb) Z) Z (aR fV hM5 Z Z (fun b6 w6 M6=>(bG 1 _ bQ M6 Z Z Z Z Z (aS Z) Z (fun w7 M7=>(aB (aC (aE (fW [(0,0),(1,0),(2,1),(3,0),(6,0),(7,1),(8,0),(4,2),(5,2),(9,2),(10,2),(11,0)] mixed M7 Z (by kernel_rfl) (fun w8 M8=>(kA Z Z Z (aV Z Z Z (fun _=>aD 0 dT Z) ?_))))))))))))))))))))
  refine bP Z Z Z (aK 1 (.int _ _) bV M8 Z Z Z) (aV Z Z Z (fun _=>bH wU underlying2 Z (fJ _ (by omega) (by omega))) (aV Z Z Z (fun _=>aD 1 mA Z) (bP Z Z Z (aK 1 (.int _ _) aY M8 Z Z Z) (aV Z Z Z (fun _=>bH dY underlying2 Z (fJ _ (by omega) (by omega))) (dI [false,true] Z (by kernel_rfl) (eP tR Z Z (iW _ xb.key (by omega)) ?_))))))
  rintro v9 w9 ⟨q9,rfl,hn9,hw9,hM9⟩
  have M9:Mem _ _ [_,_,_] _:=M8.call0 hM9
  refine aB (aC ⟨(dS (bI Z (aK 1 (.int _ _) aY M9 Z Z Z)) dJ), ?_⟩)
  refine dI [false] Z (by kernel_rfl) (gJ 0 ((cY xb.key).map bB) gC M9 Z Z Z Z Z hq (hw9.rd M9 (bA (i:=2) Z)) (iS _) (by omega) (fun A10 c10 e10 w10 M10 hR10 hA10 => ?_))
  refine aB (aC ⟨(dS (bI Z (aK 1 (.int _ _) aY M10 Z Z Z)) dJ), ?_⟩)
  refine dI [true] Z (by kernel_rfl) (eP tR Z Z (iW _ xb.radius (by omega)) ?_)
  rintro v11 w11 ⟨q11,rfl,hn11,hw11,hM11⟩
  have M11:Mem _ _ [_,_,_,_] _:=M10.call0 hM11
  refine aB (aC ⟨dJ, ?_⟩)
  refine dI [] Z (by kernel_rfl) (gJ 0 ((cY xb.radius).map bB) gC M11 Z Z Z Z Z hR10 (hw11.rd M11 (bA (i:=3) Z)) (iS _) (by omega) (fun A12 c12 e12 w12 M12 hR12 hA12 => ?_))
  refine aB (aC ⟨dJ, ?_⟩)
  refine aV Z Z Z (fun _=>aJ (.slice _ _ _) Z) (bS (aC (aE (fW [(0,0),(1,0),(2,0),(3,1),(4,0),(7,0),(8,0),(9,1),(10,0),(5,2),(6,2),(11,2),(12,2),(13,0)] mixed M12 Z (by kernel_rfl) (fun w13 M13=>(kA Z Z Z (aV Z Z Z (fun _=>aD 2 jJ Z) (aV Z Z Z (fun _=>aD 0 cV Z) (bP Z Z Z (aK 1 (.int _ _) aY M13 Z Z Z) (aV Z Z Z (fun _=>bH dY underlying2 Z (fJ _ (by omega) (by omega))) (aV Z Z Z (fun _=>aD 2 jJ Z) (aV Z Z Z (fun _=>aD 1 cS Z) ?_))))))))))))
  refine bP Z Z Z (aK 1 (.int _ _) aY M13 Z Z Z) (aV Z Z Z (fun _=>bH dY underlying2 Z (fJ _ (by omega) (by omega))) (dI [false,true] Z (by kernel_rfl) (eP tR Z Z (iW _ xb.ax (by omega)) ?_)))
  rintro v14 w14 ⟨q14,rfl,hn14,hw14,hM14⟩
  have M14:Mem _ _ [_,_,_,_,_] _:=M13.call0 hM14
  refine aB (aC ⟨(dS (bI Z (aK 1 (.int _ _) aY M14 Z Z Z)) dJ), ?_⟩)
  refine dI [false] Z (by kernel_rfl) (gJ 0 ((cY xb.ax).map bB) gC M14 Z Z Z Z Z hR12 (hw14.rd M14 (bA (i:=4) Z)) (iS _) (by omega) (fun A15 c15 e15 w15 M15 hR15 hA15 => ?_))
  refine aB (aC ⟨(dS (bI Z (aK 1 (.int _ _) aY M15 Z Z Z)) dJ), ?_⟩)
  refine dI [true] Z (by kernel_rfl) (eP tR Z Z (iW _ xb.ay (by omega)) ?_)
  rintro v16 w16 ⟨q16,rfl,hn16,hw16,hM16⟩
  have M16:Mem _ _ [_,_,_,_,_,_] _:=M15.call0 hM16
  refine aB (aC ⟨dJ, ?_⟩)
  refine dI [] Z (by kernel_rfl) (gJ 0 ((cY xb.ay).map bB) gC M16 Z Z Z Z Z hR15 (hw16.rd M16 (bA (i:=5) Z)) (iS _) (by omega) (fun A17 c17 e17 w17 M17 hR17 hA17 => ?_))
  refine aB (aC ⟨dJ, ?_⟩)
  refine aV Z Z Z (fun _=>aJ (.slice _ _ _) Z) (bS (aC (aE (fW [(0,0),(1,0),(2,1),(3,0),(6,0),(7,1),(8,0),(4,2),(5,2),(9,2),(10,2),(11,0)] mixed M17 Z (by kernel_rfl) (fun w18 M18=>(kA Z Z Z (aV Z Z Z (fun _=>aD 4 eM Z) (bP Z Z Z (aK 1 (.int _ _) aY M18 Z Z Z) (aV Z Z Z (fun _=>bH dY underlying2 Z (fJ _ (by omega) (by omega))) (aV Z Z Z (fun _=>aD 5 nZ Z) (bP Z Z Z (aK 1 (.int _ _) aY M18 Z Z Z) (aV Z Z Z (fun _=>bH dY underlying2 Z (fJ _ (by omega) (by omega))) ?_))))))))))))
  refine dI [false,true] Z (by kernel_rfl) (eP tR Z Z (iW _ xb.mass (by omega)) ?_)
  rintro v19 w19 ⟨q19,rfl,hn19,hw19,hM19⟩
  have M19:Mem _ _ [_,_,_,_,_,_,_] _:=M18.call0 hM19
  refine aB (aC ⟨(dS (bI Z (aK 1 (.int _ _) aY M19 Z Z Z)) dJ), ?_⟩)
  refine dI [false] Z (by kernel_rfl) (gJ 0 ((cY xb.mass).map bB) gC M19 Z Z Z Z Z hR17 (hw19.rd M19 (bA (i:=6) Z)) (iS _) (by omega) (fun A20 c20 e20 w20 M20 hR20 hA20 => ?_))
  refine aB (aC ⟨(dS (bI Z (aK 1 (.int _ _) aY M20 Z Z Z)) dJ), ?_⟩)
  refine dI [true] Z (by kernel_rfl) (eP tR Z Z (iW _ xb.bounce (by omega)) ?_)
  rintro v21 w21 ⟨q21,rfl,hn21,hw21,hM21⟩
  have M21:Mem _ _ [_,_,_,_,_,_,_,_] _:=M20.call0 hM21
  refine aB (aC ⟨dJ, ?_⟩)
  refine dI [] Z (by kernel_rfl) (gJ 0 ((cY xb.bounce).map bB) gC M21 Z Z Z Z Z hR20 (hw21.rd M21 (bA (i:=7) Z)) (iS _) (by omega) (fun A22 c22 e22 w22 M22 hR22 hA22 => ?_))
  refine aB (aC ⟨dJ, ?_⟩)
  refine aV Z Z Z (fun _=>aJ (.slice _ _ _) Z) (bS (aC (aE (fW [(0,0),(1,0),(2,0),(3,1),(4,0),(7,0),(8,0),(9,1),(10,0),(5,2),(6,2),(11,2),(12,2),(13,0)] mixed M22 Z (by kernel_rfl) (fun w23 M23=>(kA Z Z Z (aV Z Z Z (fun _=>aD 6 fL Z) (aV Z Z Z (fun _=>aD 0 cV Z) (bP Z Z Z (aK 1 (.int _ _) aY M23 Z Z Z) (aV Z Z Z (fun _=>bH dY underlying2 Z (fJ _ (by omega) (by omega))) (aV Z Z Z (fun _=>aD 6 fL Z) (aV Z Z Z (fun _=>aD 1 cS Z) ?_))))))))))))
  refine bP Z Z Z (aK 1 (.int _ _) aY M23 Z Z Z) (aV Z Z Z (fun _=>bH dY underlying2 Z (fJ _ (by omega) (by omega))) (dI [false,true] Z (by kernel_rfl) (eP tR Z Z (iW _ xb.px (by omega)) ?_)))
  rintro v24 w24 ⟨q24,rfl,hn24,hw24,hM24⟩
  have M24:Mem _ _ [_,_,_,_,_,_,_,_,_] _:=M23.call0 hM24
  refine aB (aC ⟨(dS (bI Z (aK 1 (.int _ _) aY M24 Z Z Z)) dJ), ?_⟩)
  refine dI [false] Z (by kernel_rfl) (gJ 0 ((cY xb.px).map bB) gC M24 Z Z Z Z Z hR22 (hw24.rd M24 (bA (i:=8) Z)) (iS _) (by omega) (fun A25 c25 e25 w25 M25 hR25 hA25 => ?_))
  refine aB (aC ⟨(dS (bI Z (aK 1 (.int _ _) aY M25 Z Z Z)) dJ), ?_⟩)
  refine dI [true] Z (by kernel_rfl) (eP tR Z Z (iW _ xb.py (by omega)) ?_)
  rintro v26 w26 ⟨q26,rfl,hn26,hw26,hM26⟩
  have M26:Mem _ _ [_,_,_,_,_,_,_,_,_,_] _:=M25.call0 hM26
  refine aB (aC ⟨dJ, ?_⟩)
  refine dI [] Z (by kernel_rfl) (gJ 0 ((cY xb.py).map bB) gC M26 Z Z Z Z Z hR25 (hw26.rd M26 (bA (i:=9) Z)) (iS _) (by omega) (fun A27 c27 e27 w27 M27 hR27 hA27 => ?_))
  refine aB (aC ⟨dJ, ?_⟩)
  refine aV Z Z Z (fun _=>aJ (.slice _ _ _) Z) (bS (aC (fW [(0,0),(1,0),(2,0),(3,1),(4,0),(7,0),(8,0),(9,1),(10,0),(5,2),(6,2),(11,2),(12,2),(13,0)] mixed M27 Z (by kernel_rfl) (fun w28 M28=>(kA Z Z Z (aV Z Z Z (fun _=>aD 8 eB Z) (aV Z Z Z (fun _=>aD 0 cV Z) (bP Z Z Z (aK 1 (.int _ _) aY M28 Z Z Z) (aV Z Z Z (fun _=>bH dY underlying2 Z (fJ _ (by omega) (by omega))) (aV Z Z Z (fun _=>aD 8 eB Z) (aV Z Z Z (fun _=>aD 1 cS Z) ?_)))))))))))
  refine bP Z Z Z (aK 1 (.int _ _) aY M28 Z Z Z) (aV Z Z Z (fun _=>bH dY underlying2 Z (fJ _ (by omega) (by omega))) (dI [false,true] Z (by kernel_rfl) (eP tR Z Z (iW _ xb.vx (by omega)) ?_)))
  rintro v29 w29 ⟨q29,rfl,hn29,hw29,hM29⟩
  have M29:Mem _ _ [_,_,_,_,_,_,_,_,_,_,_] _:=M28.call0 hM29
  refine aB (aC ⟨(dS (bI Z (aK 1 (.int _ _) aY M29 Z Z Z)) dJ), ?_⟩)
  refine dI [false] Z (by kernel_rfl) (gJ 0 ((cY xb.vx).map bB) gC M29 Z Z Z Z Z hR27 (hw29.rd M29 (bA (i:=10) Z)) (iS _) (by omega) (fun A30 c30 e30 w30 M30 hR30 hA30 => ?_))
  refine aB (aC ⟨(dS (bI Z (aK 1 (.int _ _) aY M30 Z Z Z)) dJ), ?_⟩)
  refine dI [true] Z (by kernel_rfl) (eP tR Z Z (iW _ xb.vy (by omega)) ?_)
  rintro v31 w31 ⟨q31,rfl,hn31,hw31,hM31⟩
  have M31:Mem _ _ [_,_,_,_,_,_,_,_,_,_,_,_] _:=M30.call0 hM31
  refine aB (aC ⟨dJ, ?_⟩)
  refine dI [] Z (by kernel_rfl) (gJ 0 ((cY xb.vy).map bB) gC M31 Z Z Z Z Z hR30 (hw31.rd M31 (bA (i:=11) Z)) (iS _) (by omega) (fun A32 c32 e32 w32 M32 hR32 hA32 => ?_))
  refine aB (aC ⟨dJ, ?_⟩)
  refine aV Z Z Z (fun _=>aJ (.slice _ _ _) Z) (bS (cR (aC (aA (aQ Z Z (wq (bC Z Z (by omega) (by omega)) Z (bK Z Z (aB ?_))))))))
  refine bX (k+1,⟨A32,q.n+q9.n+q11.n+q14.n+q16.n+q19.n+q21.n+q24.n+q26.n+q29.n+q31.n,c32,e32⟩) (bE Z (bE Z dZ)) (bZ Z (bZ Z gK)) ?_ ?_
  ·exact ⟨⟨by omega,(show q.n+q9.n+q11.n+q14.n+q16.n+q19.n+q21.n+q24.n+q26.n+q29.n+q31.n=8+40*(k+1) by omega),by rw [aJx hxb,← List.append_assoc,List.map_append];simpa only [nK,aWj,List.flatMap_cons,List.flatMap_nil,List.append_nil,List.map_append,List.append_assoc] using hR32⟩,M32.keep [true,false,false,false,false,false,false,false,false,false,false,false]⟩
  ·(show n - (k+1) < n - k;omega)
 ·obtain rfl:k=n:=by omega
  rw [List.take_of_length_le (by omega),← hlen] at hq
  refine cN (dC (dE (eJ (aC (aE (aA (dK Z Z (eH Z Z (aB (aC (aO (cI (.slice _ _ _) Z ?_))))))))))))
  exact ⟨q,Z,hq,hM5⟩
theorem lY (l:List Int) (a b:Nat) {m:Nat} (h:b+4≤m):eK ((l.drop a).take m) b=eK l (a+b):=by
 have g (j:Nat) (hj:j < m):((l.drop a).take m).getD j 0=l.getD (a+j) 0:=by
  rw [List.getD_eq_getElem?_getD,List.getD_eq_getElem?_getD,List.getElem?_take_of_lt hj,List.getElem?_drop]
 unfold eK
 rw [g b (by omega),g (b+1) (by omega),g (b+2) (by omega),g (b+3) (by omega)]
 rfl
theorem aNi (w:World) (A:Option Addr) (n c:Nat) (ls:List Int) (R:Rd w 1 A n (ls.map bB)) (hB:iG ls) (hcap:n≤c) (hn:n≤1048576) :
  Calls prog 63 #[.slice A n c] w (gH (fun v w'=>∃ r:Row,v=.tuple #[.slice r.A r.n r.c,.int .i64 (nJ ls).2]∧aZ 43 10 r.A r.n r.c (((nJ ls).1).map aF) r.e∧Mem w [] [r.e] w')):=by
 have hlen:ls.length=n:=by simpa using R.len
 have hbd:=R.bound
 refine aI #[.tmp 2,.tmp 3] 82 func63 Z results63 ntmps63 Z ?_
 have M0:=Mem.refl w
 refine aE (aA (eH Z Z (bK Z Z (aB (aC (aE (aE (aA (dK Z Z (wq (cK underlying34 Z) Z (cX Z Z Z Z (wq (aH (.bool (decide _)) Z) Z ?_))))))))))))
 refine dQ 11 Z (fun g11 => ?_) (fun g11 => ?_)
 ·refine aN Z Z (aN Z Z (aN Z Z (aN Z Z (wq (bR true (.bool true) Z Z) Z (wq (aH (.bool true) Z) Z (aN Z Z (aN Z Z (aN Z Z (aN Z Z (aN Z Z (aN Z Z (aN Z Z (aN Z Z (wq (bR true (.bool true) Z Z) Z (aB (aC ?_))))))))))))))))
  refine cE Z (aE (aA (eH Z Z (bK Z Z (aB (aC (aO (cO (fX (.slice _ _ _) (.int _ _) Z Z ?_)))))))))
  have hd:=vJ (l:=ls) (fun h=>by have:=h.1;omega)
  exact ⟨⟨none,0,0,(none,default)⟩,by rw [hd],by rw [hd];exact aZ.nil _ _ _,(M0.keep []).dummy default⟩
 ·refine dK Z Z (wq (eS (0) (4) gC Z Z ⟨_,Z⟩ (by omega) (by omega) (by omega)) Z (wq (aNc underlying34 underlying5 underlying9 (Rd.subB (R.mem M0) (0) (4) (by omega) (by omega) hcap) Z) Z (wq (aQj Z Z) Z (wq (bR false (.bool (decide _)) Z Z) Z (wq (aH (.bool (decide _)) Z) Z ?_)))))
  refine dQ 17 Z (fun g17 => ?_) (fun g17 => ?_)
  ·refine aN Z Z (aN Z Z (aN Z Z (aN Z Z (aN Z Z (aN Z Z (aN Z Z (aN Z Z (wq (bR true (.bool true) Z Z) Z (aB (aC (cE Z (aE (aA (eH Z Z (bK Z Z (aB (aC (aO (cO (fX (.slice _ _ _) (.int _ _) Z Z ?_))))))))))))))))))))
   have hd:=vJ (l:=ls) (fun h=>((wD ((ls.drop 0).take (4 - 0)) (hB.sub 0 4) [66,73,76,49]).1 g17) (by rw [← qW];simpa using h.2.1))
   exact ⟨⟨none,0,0,(none,default)⟩,by rw [hd],by rw [hd];exact aZ.nil _ _ _,(M0.keep []).dummy default⟩
  ·refine dK Z Z (wq (cK underlying34 Z) Z (dK Z Z (wq (eS (4) (8) gC Z ⟨_,Z⟩ ⟨_,Z⟩ (by omega) (by omega) (by omega)) Z (dN bDl Z Z M0 (sZ _ _ _ _ ((ls.drop (4)).take (8 - (4))) (Rd.subB (R.mem M0) (4) (8) (by omega) (by omega) hcap) (hB.sub _ _) (by omega)) (fun w1 M1 => ?_)))))
   have hr4:=nB hB (a:=4) (by omega)
   obtain ⟨N,hN⟩:∃ N:Nat,eK ls 4=(N:Int):=⟨(eK ls 4).toNat,by omega⟩
   have hNl:N≤4294967295:=by omega
   refine aL 22 (.int .i64 (N:Int)) (iE ((fS (by omega)).trans hN)) (wq (fC Z Z (by omega) (by omega)) Z (wq (bC Z Z (by omega) (by omega)) Z (cX Z Z Z Z (wq (bR false (.bool (decide _)) Z Z) Z (aB (aC ?_))))))
   refine aU Z (fun h26 => ?_) (fun h26 => ?_)
   ·refine aE (aA (eH Z Z (bK Z Z (aB (aC (aO (cO (fX (.slice _ _ _) (.int _ _) Z Z ?_))))))))
    have hd:=vJ (l:=ls) (fun h=>h26 (by have:=h.2.2;rw [hN] at this;omega))
    exact ⟨⟨none,0,0,(none,default)⟩,by rw [hd],by rw [hd];exact aZ.nil _ _ _,(M1.keep []).dummy default⟩
   ·have hm4:=Decidable.not_not.1 (mt ((wD ((ls.drop 0).take (4 - 0)) (hB.sub 0 4) [66,73,76,49]).2) g17)
    rw [← qW] at hm4
    have hfm:aBv ls:=⟨by omega,by simpa using hm4,by rw [hN];omega⟩
    have hnN:n=8+40*N:=by omega
    refine aM (aC (aE (aA (eH Z Z ?_))))
    have M2:=M1.dummy default
    refine aB (aC (aE (aE (aA (bK Z Z (aB (aC (aP (dG (σ:=Nat × Row) [0,2,3] (fun (i,q)=>[(4,.slice q.A q.n q.c),(5,.int .i64 ((8+40*i:Nat):Int))]) (fun (i,q) w'=>(i≤N∧aZ 43 10 q.A q.n q.c ((oY ls i).map aF) q.e)∧Mem w [] [q.e] w') (fun (i,q)=>N - i) (0,fH) (bE Z (bE Z dZ)) (⟨⟨by omega,aZ.nil _ _ _⟩,M2⟩) ?_)))))))))
    rintro ⟨i,q⟩ ρ3 w3 ⟨⟨hi,hq⟩,hM3⟩
    have hqn:(oY ls i).length=q.n:=by simpa using hq.1
    rw [yL] at hqn
    refine aE (aE (aA (aQ Z Z (dK Z Z (wq (cK underlying34 Z) Z (cX Z Z Z Z (aB (aC ?_))))))))
    refine aU Z (fun h30 => ?_) (fun h30 => ?_)
    ·refine aM (aC (aE (aP (aE (aA (dK Z Z (aQ Z Z (aQ Z Z (wq (bC Z Z (by omega) (by omega)) Z (aL 36 (.int .i64 ((8+40*i+40:Nat):Int)) (iE (by omega)) (wq (eS (((8+40*i:Nat):Int)) (((8+40*i+40:Nat):Int)) gC Z ⟨_,Z⟩ ⟨_,Z⟩ (by omega) (by omega) (by omega)) Z (eH Z Z (aB (aC (mF [(0,0),(1,0),(2,0),(5,0),(6,0),(8,0),(9,0),(11,0),(12,0),(15,0),(16,0),(18,0),(19,0),(21,0),(22,0),(24,0),(25,0),(28,0),(29,0),(31,0),(32,0),(3,2),(4,0),(7,2),(10,2),(13,2),(14,0),(17,2),(20,2),(23,2),(26,2),(27,0),(30,2),(33,2),(34,0),(35,0),(36,2),(37,2),(38,0)] mixed Z (by kernel_rfl) (fun w4 hb4 hh4 => ?_))))))))))))))))
     have M4:=hM3.drew hb4 hh4
     refine kA Z Z Z (kA Z Z Z (aV Z Z Z (fun _=>eS (0) (4) gC Z Z ⟨_,Z⟩ (by omega) (by omega) (by omega)) (kA Z Z Z (aV Z Z Z (fun _=>eS (4) (8) gC Z ⟨_,Z⟩ ⟨_,Z⟩ (by omega) (by omega) (by omega)) (kA Z Z Z (aV Z Z Z (fun _=>eS (8) (12) gC Z ⟨_,Z⟩ ⟨_,Z⟩ (by omega) (by omega) (by omega)) (kA Z Z Z (aV Z Z Z (fun _=>eS (12) (16) gC Z ⟨_,Z⟩ ⟨_,Z⟩ (by omega) (by omega) (by omega)) (kA Z Z Z (aV Z Z Z (fun _=>eS (16) (20) gC Z ⟨_,Z⟩ ⟨_,Z⟩ (by omega) (by omega) (by omega)) ?_))))))))))
     refine kA Z Z Z (aV Z Z Z (fun _=>eS (20) (24) gC Z ⟨_,Z⟩ ⟨_,Z⟩ (by omega) (by omega) (by omega)) (kA Z Z Z (aV Z Z Z (fun _=>eS (24) (28) gC Z ⟨_,Z⟩ ⟨_,Z⟩ (by omega) (by omega) (by omega)) (kA Z Z Z (aV Z Z Z (fun _=>eS (28) (32) gC Z ⟨_,Z⟩ ⟨_,Z⟩ (by omega) (by omega) (by omega)) (kA Z Z Z (aV Z Z Z (fun _=>eS (32) (36) gC Z ⟨_,Z⟩ ⟨_,Z⟩ (by omega) (by omega) (by omega)) (kA Z Z Z (aV Z Z Z (fun _=>eS (36) (40) gC Z ⟨_,Z⟩ ⟨_,Z⟩ (by omega) (by omega) (by omega)) ?_)))))))))
     refine dI [] Z (by kernel_rfl) (dN bDl Z Z M4 (sZ _ _ _ _ ((((ls.drop (8+40*i)).take ((8+40*i)+40 - (8+40*i))).drop 0).take (4 - 0)) (Rd.subB (Rd.subB (R.mem M4) ((8+40*i)) ((8+40*i)+40) (by omega) (by omega) hcap) 0 4 (by omega) (by omega) (by omega)) ((hB.sub _ _).sub _ _) (by omega)) (fun w5 M5 => ?_))
     refine aB (aC ⟨dJ, ?_⟩)
     refine dV 41 (.int .i64 (eK ls (8+40*i))) (iE ((fS (by omega)).trans (lY ls (8+40*i) 0 (by omega)))) (aV Z Z Z (fun _=>dF mV underlying39 Z) (dV 42 (.int .u32 (eK ls (8+40*i))) (iE (aIb _ (nB hB (a:=8+40*i) (by omega)).1 (nB hB (a:=8+40*i) (by omega)).2.1)) (dI [] Z (by kernel_rfl) (dN yI Z Z M5 (iN _ _ _ _ ((((ls.drop (8+40*i)).take ((8+40*i)+40 - (8+40*i))).drop 4).take (8 - 4)) (Rd.subB (Rd.subB (R.mem M5) ((8+40*i)) ((8+40*i)+40) (by omega) (by omega) hcap) 4 8 (by omega) (by omega) (by omega)) ((hB.sub _ _).sub _ _) (by omega)) (fun w6 M6 => ?_)))))
     refine aB (aC ⟨dJ, ?_⟩)
     refine dV 45 (.int .i32 (lB (eK ls (8+40*i+4)))) (iE (congrArg lB ((fS (by omega)).trans (lY ls (8+40*i) 4 (by omega))))) (dI [] Z (by kernel_rfl) (dN yI Z Z M6 (iN _ _ _ _ ((((ls.drop (8+40*i)).take ((8+40*i)+40 - (8+40*i))).drop 8).take (12 - 8)) (Rd.subB (Rd.subB (R.mem M6) ((8+40*i)) ((8+40*i)+40) (by omega) (by omega) hcap) 8 12 (by omega) (by omega) (by omega)) ((hB.sub _ _).sub _ _) (by omega)) (fun w7 M7 => ?_)))
     refine aB (aC ⟨dJ, ?_⟩)
     refine dV 48 (.int .i32 (lB (eK ls (8+40*i+8)))) (iE (congrArg lB ((fS (by omega)).trans (lY ls (8+40*i) 8 (by omega))))) (dI [] Z (by kernel_rfl) (dN yI Z Z M7 (iN _ _ _ _ ((((ls.drop (8+40*i)).take ((8+40*i)+40 - (8+40*i))).drop 12).take (16 - 12)) (Rd.subB (Rd.subB (R.mem M7) ((8+40*i)) ((8+40*i)+40) (by omega) (by omega) hcap) 12 16 (by omega) (by omega) (by omega)) ((hB.sub _ _).sub _ _) (by omega)) (fun w8 M8 => ?_)))
     refine aB (aC ⟨dJ, ?_⟩)
     refine dV 51 (.int .i32 (lB (eK ls (8+40*i+12)))) (iE (congrArg lB ((fS (by omega)).trans (lY ls (8+40*i) 12 (by omega))))) (aV Z Z Z (fun _=>cB [(0,.int _ _),(1,.int _ _)] _ eZ Z Z) (dI [] Z (by kernel_rfl) (dN yI Z Z M8 (iN _ _ _ _ ((((ls.drop (8+40*i)).take ((8+40*i)+40 - (8+40*i))).drop 16).take (20 - 16)) (Rd.subB (Rd.subB (R.mem M8) ((8+40*i)) ((8+40*i)+40) (by omega) (by omega) hcap) 16 20 (by omega) (by omega) (by omega)) ((hB.sub _ _).sub _ _) (by omega)) (fun w9 M9 => ?_))))
     refine aB (aC ⟨dJ, ?_⟩)
     refine dV 55 (.int .i32 (lB (eK ls (8+40*i+16)))) (iE (congrArg lB ((fS (by omega)).trans (lY ls (8+40*i) 16 (by omega))))) (dI [] Z (by kernel_rfl) (dN yI Z Z M9 (iN _ _ _ _ ((((ls.drop (8+40*i)).take ((8+40*i)+40 - (8+40*i))).drop 20).take (24 - 20)) (Rd.subB (Rd.subB (R.mem M9) ((8+40*i)) ((8+40*i)+40) (by omega) (by omega) hcap) 20 24 (by omega) (by omega) (by omega)) ((hB.sub _ _).sub _ _) (by omega)) (fun w10 M10 => ?_)))
     refine aB (aC ⟨dJ, ?_⟩)
     refine dV 58 (.int .i32 (lB (eK ls (8+40*i+20)))) (iE (congrArg lB ((fS (by omega)).trans (lY ls (8+40*i) 20 (by omega))))) (dI [] Z (by kernel_rfl) (dN yI Z Z M10 (iN _ _ _ _ ((((ls.drop (8+40*i)).take ((8+40*i)+40 - (8+40*i))).drop 24).take (28 - 24)) (Rd.subB (Rd.subB (R.mem M10) ((8+40*i)) ((8+40*i)+40) (by omega) (by omega) hcap) 24 28 (by omega) (by omega) (by omega)) ((hB.sub _ _).sub _ _) (by omega)) (fun w11 M11 => ?_)))
     refine aB (aC ⟨dJ, ?_⟩)
     refine dV 61 (.int .i32 (lB (eK ls (8+40*i+24)))) (iE (congrArg lB ((fS (by omega)).trans (lY ls (8+40*i) 24 (by omega))))) (dI [] Z (by kernel_rfl) (dN yI Z Z M11 (iN _ _ _ _ ((((ls.drop (8+40*i)).take ((8+40*i)+40 - (8+40*i))).drop 28).take (32 - 28)) (Rd.subB (Rd.subB (R.mem M11) ((8+40*i)) ((8+40*i)+40) (by omega) (by omega) hcap) 28 32 (by omega) (by omega) (by omega)) ((hB.sub _ _).sub _ _) (by omega)) (fun w12 M12 => ?_)))
     refine aB (aC ⟨dJ, ?_⟩)
     refine dV 64 (.int .i32 (lB (eK ls (8+40*i+28)))) (iE (congrArg lB ((fS (by omega)).trans (lY ls (8+40*i) 28 (by omega))))) (aV Z Z Z (fun _=>cB [(0,.int _ _),(1,.int _ _)] _ eZ Z Z) (dI [] Z (by kernel_rfl) (dN yI Z Z M12 (iN _ _ _ _ ((((ls.drop (8+40*i)).take ((8+40*i)+40 - (8+40*i))).drop 32).take (36 - 32)) (Rd.subB (Rd.subB (R.mem M12) ((8+40*i)) ((8+40*i)+40) (by omega) (by omega) hcap) 32 36 (by omega) (by omega) (by omega)) ((hB.sub _ _).sub _ _) (by omega)) (fun w13 M13 => ?_))))
     refine aB (aC ⟨dJ, ?_⟩)
     refine dV 68 (.int .i32 (lB (eK ls (8+40*i+32)))) (iE (congrArg lB ((fS (by omega)).trans (lY ls (8+40*i) 32 (by omega))))) (dI [] Z (by kernel_rfl) (dN yI Z Z M13 (iN _ _ _ _ ((((ls.drop (8+40*i)).take ((8+40*i)+40 - (8+40*i))).drop 36).take (40 - 36)) (Rd.subB (Rd.subB (R.mem M13) ((8+40*i)) ((8+40*i)+40) (by omega) (by omega) hcap) 36 40 (by omega) (by omega) (by omega)) ((hB.sub _ _).sub _ _) (by omega)) (fun w14 M14 => ?_)))
     refine aB (aC ⟨dJ, ?_⟩)
     refine dV 71 (.int .i32 (lB (eK ls (8+40*i+36)))) (iE (congrArg lB ((fS (by omega)).trans (lY ls (8+40*i) 36 (by omega))))) (aV Z Z Z (fun _=>cB [(0,.int _ _),(1,.int _ _)] _ eZ Z Z) (aV Z Z Z (fun _=>cB [(0,.int _ _),(1,.int _ _),(2,.agg (List.toArray _)),(3,.int _ _),(4,.int _ _),(5,.agg (List.toArray _)),(6,.agg (List.toArray _))] _ uU Z Z) (dV 73 ((.agg (aF (mG ls (8+40*i))).toArray)) Z (dI [] Z (by kernel_rfl) (cC [.agg (List.toArray _)] [aF (mG ls (8+40*i))] Z dP M14 Z Z Z Z (cU Z) (by decide) (fun b15 w15 M15 => ?_))))))
     refine aB (aC ⟨dJ, ?_⟩)
     refine dI [] rfl (by kernel_rfl) (cW 0 [aF (mG ls (8+40*i))] dP M15 rfl rfl rfl rfl rfl hq rfl (by simp [aF,Go.Bil.one]) (dL.ofMem 1 M15 rfl) (by omega) (fun A16 c16 e16 w16 M16 hR16 => ?_))
     refine aB (aC ⟨dJ, ?_⟩)
     refine aV Z Z Z (fun _=>aJ (.slice _ _ _) Z) (bS (cR (aC (aA (aQ Z Z (wq (bC Z Z (by omega) (by omega)) Z (bK Z Z (aB ?_))))))))
     refine bX (i+1,⟨A16,q.n+1,c16,e16⟩) (bE Z (bE (iv Z (by omega)) dZ)) (bZ Z (bZ Z (bZ Z gK))) ?_ ?_
     ·exact ⟨⟨by omega,by rw [aJs,List.map_append];exact hR16⟩,M16.keep [true,false]⟩
     ·(show N - (i+1) < N - i;omega)
    ·obtain rfl:i=N:=by omega
     refine cN (dC (dE (eJ (aC (aE (aA (dK Z Z (eP bVg Z Z (aQm _ _ _ _ (oY ls i) (hq.rd hM3 (bA (i:=0) Z))) ?_))))))))
     rintro v17 w17 ⟨rfl,hb17⟩
     have M17:=hM3.callB hb17
     refine bK Z Z (aB (aC (aE (aE (aA (aQ Z Z (cX Z Z Z Z (aB (aC ?_)))))))))
     refine aU Z (fun h79 => ?_) (fun h79 => ?_)
     ·refine aE (aA (aQ Z Z (eH Z Z (bK Z Z (aB (aC (aO (cO (fX (.slice _ _ _) (.int _ _) Z Z ?_)))))))))
      have hd:=aVy hfm hN h79
      exact ⟨⟨none,0,0,(none,default)⟩,by rw [hd],by rw [hd];exact aZ.nil _ _ _,(M17.keep [false]).dummy default⟩
     ·refine aM (aC (aE (aA (dK Z Z (eH Z Z (bK Z Z (aB (aC (aO (fX (.slice _ _ _) (.int _ _) Z Z ?_))))))))))
      have hd:=aOv hfm hN (Decidable.not_not.1 h79)
      exact ⟨q,by rw [hd],by rw [hd];exact hq,M17⟩
end Go.Proofs.YtpcloigancpnbaaGreatDoor
