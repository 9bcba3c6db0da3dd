/- Part of the proof of a law of this seat (6 texts). No conditions. -/
import Derived.Test.YtaoaknafiegfoaaGreatDoorK34
import Derived.Test.YtaoaknafiegfoaaGreatDoorK24
set_option linter.unusedVariables false
set_option linter.unusedSimpArgs false
set_option linter.unnecessarySimpa false
set_option maxHeartbeats 100000000
namespace Go.Proofs.YtaoaknafiegfoaaGreatDoor
open Go.Bil
open Go.RowKit (Below)
open Go.Proofs
open Go.Proofs.Tryz
theorem bAg (w:World) (b:Nat) (A:Option Addr) (n c:Nat) (p:Option Nat) (er em:eQ) (m:List Body) (hs:StoreIs 39 A n c p er em m) (hO:Own [(some b,bc [.slice A n c,.map p] 107),er,em] w) (x:Body) :
  Calls prog 61 #[.pointer (some ⟨b,0,none⟩),(.agg (aF x).toArray)] w (gY (fun v w'=>v=.int .i64 (pX m x).2∧∃ A' n' c' p' er' em',StoreIs 39 A' n' c' p' er' em' (pX m x).1∧Mem w (cD [(some b,bc [.slice A n c,.map p] 107),er,em]) [(some b,bc [.slice A' n' c',.map p'] 107),er',em'] w')):=by
 have hlen:m.length=n:=by simpa using hs.row.1
 have hcap:=hs.cap
 refine aI #[.tmp 4] 62 func61 Z results61 ntmps61 Z ?_
 have M0:=hO.mem
 refine aE (aA (bO (.agg (.mk _)) M0 Z Z Z (fun b1 w1 M1=>(bL Z Z (aB (aC (aE (aE (aA (wq (aH (.pointer _) Z) Z (wq (gT false underlying162 Z Z) Z (aB (aC (cB Z (aM (aC (aE (aE (aA (wq (aV 3 bR M1 Z Z Z) Z (dM aUg Z Z M1 (zB _ x) (fun w2 M2=>(bL Z Z (aB (aC (aE (aA (aT Z Z (cV Z Z Z Z (aB (aC ?_)))))))))))))))))))))))))))))))
 refine aW Z (fun h13 => ?_) (fun h13 => ?_)
 ·refine aE (aA (aT Z Z (bL Z Z (aB (aC (aR (cK (cF (.int _ _) Z ?_))))))))
  have ha:pX m x=(m,check x):=by unfold pX;rw [if_pos h13]
  exact ⟨by rw [ha],A,n,c,p,er,em,by rw [ha];exact hs,M2.keep [true,true,true,false]⟩
 ·refine aM (aC (aE (aE (gJ [(0,0),(1,0),(2,0),(3,1),(4,0),(5,1),(6,1),(7,0),(8,0),(9,0),(10,0),(11,0)] mixed M2 Z (by kernel_rfl) (fun w3 M3=>(aX Z Z Z (fun _=>aH (.pointer _) Z) (aX Z Z Z (fun _=>bN Z) (aX Z Z Z (fun _=>aD 1 mN Z) (bQ Z Z Z (aK 0 (.map _) sV M3 Z Z Z) (aX Z Z Z (fun _=>aD 0 dZ Z) (bQ Z Z Z (aK 3 (.int _ _) bZ M3 Z Z Z) (bQ Z Z Z (lT (enc:=(Value.int .i64)) 0 2 wB zv3 M3 Z hs.map Z Z) (aX Z Z Z (fun _=>aH (.tuple (List.toArray _)) Z) ?_)))))))))))))
  refine aX Z Z Z (fun _=>bJ (.int _ _) Z Z) (aX Z Z Z (fun _=>bJ (.bool _) Z Z) (nV Z Z Z (aX Z Z Z (fun _=>aJ (.bool _) Z) (bS (aC (aE (aA (wq (aH (.bool _) Z) Z (aB (aC ?_))))))))))
  refine iN _ Z (fun h25 => ?_) (fun h25 => ?_)
  ·have hf:0≤dV x.key m:=by rw [aHu] at h25;exact of_decide_eq_true h25
   refine aE (aA (bL Z Z (aB (aC (aR (cK (cF (.int _ _) Z ?_)))))))
   have ha:pX m x=(m,10):=by unfold pX;rw [if_neg h13,if_pos hf]
   exact ⟨by rw [ha],A,n,c,p,er,em,by rw [ha];exact hs,M3.keep [true,true,true,false]⟩
  ·have hf:¬ (0≤dV x.key m):=fun h=>by rw [aHu,decide_eq_true h] at h25;simp at h25
   refine aM (aC (aE (aE (aA (wq (aH (.pointer _) Z) Z (wq (bN Z) Z (wq (aD 0 jA Z) Z (wq (aK 0 (.slice _ _ _) iD M3 Z Z Z) Z (wq (bW underlying29 Z) Z (cV Z Z Z Z (aB (aC ?_))))))))))))
   refine aW Z (fun h31 => ?_) (fun h31 => ?_)
   ·refine aE (aA (bL Z Z (aB (aC (aR (cK (cF (.int _ _) Z ?_)))))))
    have ha:pX m x=(m,12):=by unfold pX;rw [if_neg h13,if_neg hf,if_pos (by omega)]
    exact ⟨by rw [ha],A,n,c,p,er,em,by rw [ha];exact hs,M3.keep [true,true,true,false]⟩
   ·refine aM (aC (aE (aE (aA (wq (aH (.pointer _) Z) Z (wq (bN Z) Z (wq (aD 1 mN Z) Z (wq (aK 0 (.map _) sV M3 Z Z Z) Z (wq (aWg _ underlying101 Z Z) Z (aB (aC ?_)))))))))))
    refine iN _ Z (fun h36 => ?_) (fun h36 => ?_)
    ·have hpn:p=none:=by cases p <;> simp_all
     have hnone:∀ k,zY m k=(fun _=>none) k:=fun k=>by subst hpn;rcases hs.map with ⟨_,_,h⟩ | ⟨_,_,h,_⟩;exact h k;cases h
     refine aA (wq (aH (.pointer _) Z) Z (pB M3 Z Z (fun b4 w4 M4 => ?_)))
     have M5:=M4.replace (i:=2) (Nat.le_of_ble_eq_true rfl)
     refine wq (bN Z) Z (wq (aD 1 mN Z) Z (dA 0 (.map _) sV M5 Z Z Z Z Z Z (fun w6 M6=>(aB (aC (aE (gJ [(0,0),(1,0),(2,0),(3,1),(4,0),(5,1),(6,0),(7,0),(8,0),(9,1),(10,0),(11,2)] mixed M6 Z (by kernel_rfl) (fun w7 M7=>(aX Z Z Z (fun _=>aH (.pointer _) Z) (aX Z Z Z (fun _=>bN Z) (aX Z Z Z (fun _=>aD 1 mN Z) (bQ Z Z Z (aK 0 (.map _) sV M7 Z Z Z) (aX Z Z Z (fun _=>aD 0 dZ Z) (bQ Z Z Z (aK 3 (.int _ _) bZ M7 Z Z Z) ?_))))))))))))))
     refine aX Z Z Z (fun _=>aH (.pointer _) Z) (aX Z Z Z (fun _=>bN Z) (aX Z Z Z (fun _=>aD 0 jA Z) (bQ Z Z Z (aK 0 (.slice _ _ _) iD M7 Z Z Z) (aX Z Z Z (fun _=>bW underlying29 Z) (dO [true,true,true] Z (by kernel_rfl) (mF (enc:=(Value.int .i64)) 2 wB M7 Z Z ((lQ.empty _ _ b4).congr hnone) Z Z Z Z (fun e8 w8 hm8 M8 => ?_)))))))
     refine aB (aC ⟨dI, ?_⟩)
     refine bS (aC (aE (gJ [(0,0),(1,0),(2,0),(3,0),(4,1),(5,1),(6,2),(7,2),(8,0),(9,0),(10,2)] mixed M8 Z (by kernel_rfl) (fun w9 M9=>(aX Z Z Z (fun _=>aH (.pointer _) Z) (aX Z Z Z (fun _=>aH (.pointer _) Z) (aX Z Z Z (fun _=>bN Z) (aX Z Z Z (fun _=>aD 0 jA Z) (bQ Z Z Z (aK 0 (.slice _ _ _) iD M9 Z Z Z) (bQ Z Z Z (aV 3 bR M9 Z Z Z) (dO [true,false] Z (by kernel_rfl) (bV [.agg (List.toArray _)] _ Z dU M9 Z Z Z Z (cO Z) (by decide) (fun b10 w10 M10 => ?_)))))))))))))
     refine aB (aC ⟨(dS (bH Z (aK 0 (.slice _ _ _) iD M10 Z Z Z)) dI), ?_⟩)
     refine dO [true] rfl (by kernel_rfl) (cP 1 [aF x] dU M10 rfl rfl rfl rfl rfl hs.row rfl (by simpa using ⟨jJ x,jK x⟩) (dN.ofMem 4 M10 rfl) (by omega) (fun A11 c11 e11 w11 M11 hR11 => ?_))
     refine aB (aC ⟨dI, ?_⟩)
     refine aX Z Z Z (fun _=>bN Z) (aX Z Z Z (fun _=>aD 0 jA Z) (dO [] Z (by kernel_rfl) (dA 0 (.slice _ _ _) iD M11 Z Z Z Z Z Z (fun w12 M12 => ?_))))
     refine aB (aC ⟨dI, ?_⟩)
     refine bS (aC (aE (aA (bL Z Z (aB (aC (aR (cF (.int _ _) Z ?_))))))))
     have ha:pX m x=(m++[x],0):=by unfold pX;rw [if_neg h13,if_neg hf,if_neg (by omega)]
     have hall:=aNc (x:=x) ⟨hs.keys,hs.cap,hs.ok⟩
     rw [ha] at hall
     obtain ⟨hk',hc',ho'⟩:=hall
     have hix:=aRt hs.keys (x:=x) (by omega)
     rw [hlen] at hix
     exact ⟨by rw [ha],_,_,_,_,_,_,by rw [ha];exact ⟨(by simpa using hR11),(hm8.congr hix),hk',hc',ho'⟩,M12.keep [true,true,true,false,false]⟩
    ·have hps:p.isSome=true:=by cases p <;> simp_all
     refine aM (aC (aE (gJ [(0,0),(1,0),(2,0),(3,1),(4,0),(5,1),(6,0),(7,0),(8,0),(9,1),(10,0),(11,2)] mixed M3 Z (by kernel_rfl) (fun w13 M13=>(aX Z Z Z (fun _=>aH (.pointer _) Z) (aX Z Z Z (fun _=>bN Z) (aX Z Z Z (fun _=>aD 1 mN Z) (bQ Z Z Z (aK 0 (.map _) sV M13 Z Z Z) (aX Z Z Z (fun _=>aD 0 dZ Z) (bQ Z Z Z (aK 3 (.int _ _) bZ M13 Z Z Z) (aX Z Z Z (fun _=>aH (.pointer _) Z) (aX Z Z Z (fun _=>bN Z) (aX Z Z Z (fun _=>aD 0 jA Z) ?_)))))))))))))
     refine bQ Z Z Z (aK 0 (.slice _ _ _) iD M13 Z Z Z) (aX Z Z Z (fun _=>bW underlying29 Z) (dO [true,true,true] Z (by kernel_rfl) (mF (enc:=(Value.int .i64)) 2 wB M13 Z Z hs.map hps Z Z Z (fun e14 w14 hm14 M14 => ?_))))
     refine aB (aC ⟨dI, ?_⟩)
     refine bS (aC (aE (gJ [(0,0),(1,0),(2,0),(3,0),(4,1),(5,1),(6,2),(7,2),(8,0),(9,0),(10,2)] mixed M14 Z (by kernel_rfl) (fun w15 M15=>(aX Z Z Z (fun _=>aH (.pointer _) Z) (aX Z Z Z (fun _=>aH (.pointer _) Z) (aX Z Z Z (fun _=>bN Z) (aX Z Z Z (fun _=>aD 0 jA Z) (bQ Z Z Z (aK 0 (.slice _ _ _) iD M15 Z Z Z) (bQ Z Z Z (aV 3 bR M15 Z Z Z) (dO [true,false] Z (by kernel_rfl) (bV [.agg (List.toArray _)] _ Z dU M15 Z Z Z Z (cO Z) (by decide) (fun b16 w16 M16 => ?_)))))))))))))
     refine aB (aC ⟨(dS (bH Z (aK 0 (.slice _ _ _) iD M16 Z Z Z)) dI), ?_⟩)
     refine dO [true] rfl (by kernel_rfl) (cP 1 [aF x] dU M16 rfl rfl rfl rfl rfl hs.row rfl (by simpa using ⟨jJ x,jK x⟩) (dN.ofMem 4 M16 rfl) (by omega) (fun A17 c17 e17 w17 M17 hR17 => ?_))
     refine aB (aC ⟨dI, ?_⟩)
     refine aX Z Z Z (fun _=>bN Z) (aX Z Z Z (fun _=>aD 0 jA Z) (dO [] Z (by kernel_rfl) (dA 0 (.slice _ _ _) iD M17 Z Z Z Z Z Z (fun w18 M18 => ?_))))
     refine aB (aC ⟨dI, ?_⟩)
     refine bS (aC (aE (aA (bL Z Z (aB (aC (aR (cF (.int _ _) Z ?_))))))))
     have ha:pX m x=(m++[x],0):=by unfold pX;rw [if_neg h13,if_neg hf,if_neg (by omega)]
     have hall:=aNc (x:=x) ⟨hs.keys,hs.cap,hs.ok⟩
     rw [ha] at hall
     obtain ⟨hk',hc',ho'⟩:=hall
     have hix:=aRt hs.keys (x:=x) (by omega)
     rw [hlen] at hix
     exact ⟨by rw [ha],_,_,_,_,_,_,by rw [ha];exact ⟨(by simpa using hR17),(hm14.congr hix),hk',hc',ho'⟩,M18.keep [true,true,true,false,false]⟩
theorem bOr (w:World) (b:Nat) (A:Option Addr) (n c:Nat) (p:Option Nat) (er em:eQ) (m:List Body) (hs:StoreIs 39 A n c p er em m) (hO:Own [(some b,bc [.slice A n c,.map p] 107),er,em] w) (key:Int) :
  Calls prog 117 #[.pointer (some ⟨b,0,none⟩),.int .u32 key] w (gY (fun v w'=>(∃ x,v=.tuple #[.agg (aF x).toArray,.int .i64 (aHq m key).2]∧x=(aHq m key).1)∧Mem w (cD [(some b,bc [.slice A n c,.map p] 107),er,em]) [(some b,bc [.slice A n c,.map p] 107),er,em] w')):=by
 have hlen:m.length=n:=by simpa using hs.row.1
 have hcap:=hs.cap
 refine aI #[.cell 4 39,.tmp 5] 30 func117 Z results117 ntmps117 Z ?_
 have M0:=hO.mem
 refine aE (aA (aO gL M0 Z Z (fun b1 w1 M1=>(bL Z Z (aB (aC (aE (aE (aA (wq (aH (.pointer _) Z) Z (wq (gT false underlying162 Z Z) Z (aB (aC (cB Z (aM (aC (aE (aA (wq (aH (.pointer _) Z) Z (wq (bN Z) Z (wq (aD 1 mN Z) Z (wq (aK 0 (.map _) sV M1 Z Z Z) Z (aT Z Z (wq (lT (enc:=(Value.int .i64)) 0 2 wB zv3 M1 Z hs.map Z Z) Z (wq (aH (.tuple (List.toArray _)) Z) Z ?_)))))))))))))))))))))))))
 refine wq (bJ (.int _ _) Z Z) Z (wq (bJ (.bool _) Z Z) Z (bL Z Z (wq (aJ (.bool _) Z) Z (aB (aC (aE (aE (aA (wq (aH (.bool _) Z) Z (wq (fB _ Z Z) Z (aB (aC ?_))))))))))))
 refine iN _ Z (fun h21 => ?_) (fun h21 => ?_)
 ·have hi:zY m key=none:=by cases h:zY m key <;> simp_all
  refine aE (aA (wq (cI [] _ wN Z Z) Z (bC 3 _ bR M1 Z Z Z Z Z (aP Z) Z (fun w2 M2=>(bL Z Z (aB (aC (aR (cK (vB (v2:=.int _ _) 3 bR M2 Z Z Z Z ?_))))))))))
  exact ⟨⟨⟨0,0,0,0,0,0,0,0,0,0⟩,by rw [aLq hi];rfl,by rw [aLq hi]⟩,M2.keep [true,true,true,false]⟩
 ·rcases oU key m with ⟨hi,_⟩ | ⟨i,bi,hbi,hbk,hi⟩
  ·simp [hi] at h21
  refine aM (aC (aE (aA (wq (aH (.pointer _) Z) Z (wq (bN Z) Z (wq (aD 0 jA Z) Z (wq (aK 0 (.slice _ _ _) iD M1 Z Z Z) Z (aT Z Z (wq (bG (i) dU Z Z (by rw [hi];rfl) ((hs.row.rd M1 (aN (i:=1) Z)).below_len (aG aF hbi)) ((hs.row.rd M1 (aN (i:=1) Z)).someK (aG aF hbi))) Z (wq (dQ _ bR (hs.row.rd M1 (aN (i:=1) Z)) (aG aF hbi) Z) Z (bC 3 _ bR M1 Z Z Z Z Z (aP Z) Z (fun w3 M3=>(bL Z Z (aB (aC (aR (vB (v2:=.int _ _) 3 bR M3 Z Z Z Z ?_)))))))))))))))))
  exact ⟨⟨bi,by rw [aCr hi hbi],by rw [aCr hi hbi]⟩,M3.keep [true,true,true,false]⟩
theorem bOs (w:World) (b:Nat) (A:Option Addr) (n c:Nat) (p:Option Nat) (er em:eQ) (m:List Body) (hs:StoreIs 39 A n c p er em m) (hO:Own [(some b,bc [.slice A n c,.map p] 107),er,em] w) (x:Body) :
  Calls prog 125 #[.pointer (some ⟨b,0,none⟩),(.agg (aF x).toArray)] w (gY (fun v w'=>v=.int .i64 (vF m x).2∧∃ A' n' c' p' er' em',StoreIs 39 A' n' c' p' er' em' (vF m x).1∧Mem w (cD [(some b,bc [.slice A n c,.map p] 107),er,em]) [(some b,bc [.slice A' n' c',.map p'] 107),er',em'] w')):=by
 have hlen:m.length=n:=by simpa using hs.row.1
 have hcap:=hs.cap
 refine aI #[.tmp 4] 34 func125 Z results125 ntmps125 Z ?_
 have M0:=hO.mem
 refine aE (aA (bO (.agg (.mk _)) M0 Z Z Z (fun b1 w1 M1=>(bL Z Z (aB (aC (aE (aE (aA (wq (aH (.pointer _) Z) Z (wq (gT false underlying162 Z Z) Z (aB (aC (cB Z (aM (aC (aE (aE (aA (wq (aV 3 bR M1 Z Z Z) Z (dM aUg Z Z M1 (zB _ x) (fun w2 M2=>(bL Z Z (aB (aC (aE (aA (aT Z Z (cV Z Z Z Z (aB (aC ?_)))))))))))))))))))))))))))))))
 refine aW Z (fun h13 => ?_) (fun h13 => ?_)
 ·refine aE (aA (aT Z Z (bL Z Z (aB (aC (aR (cK (cF (.int _ _) Z ?_))))))))
  have ha:vF m x=(m,check x):=by unfold vF;rw [if_pos h13]
  exact ⟨by rw [ha],A,n,c,p,er,em,by rw [ha];exact hs,M2.keep [true,true,true,false]⟩
 ·refine aM (aC (aE (gJ [(0,0),(1,0),(2,0),(3,1),(4,0),(5,1),(6,1),(7,0),(8,0),(9,0),(10,0),(11,0)] mixed M2 Z (by kernel_rfl) (fun w3 M3=>(aX Z Z Z (fun _=>aH (.pointer _) Z) (aX Z Z Z (fun _=>bN Z) (aX Z Z Z (fun _=>aD 1 mN Z) (bQ Z Z Z (aK 0 (.map _) sV M3 Z Z Z) (aX Z Z Z (fun _=>aD 0 dZ Z) (bQ Z Z Z (aK 3 (.int _ _) bZ M3 Z Z Z) (bQ Z Z Z (lT (enc:=(Value.int .i64)) 0 2 wB zv3 M3 Z hs.map Z Z) (aX Z Z Z (fun _=>aH (.tuple (List.toArray _)) Z) ?_))))))))))))
  refine aX Z Z Z (fun _=>bJ (.int _ _) Z Z) (aX Z Z Z (fun _=>bJ (.bool _) Z Z) (nV Z Z Z (aX Z Z Z (fun _=>aJ (.bool _) Z) (bS (aC (aE (aE (aA (wq (aH (.bool _) Z) Z (wq (fB _ Z Z) Z (aB (aC ?_))))))))))))
  refine iN _ Z (fun h26 => ?_) (fun h26 => ?_)
  ·have hi:zY m x.key=none:=by cases h:zY m x.key <;> simp_all
   refine aE (aA (bL Z Z (aB (aC (aR (cK (cF (.int _ _) Z ?_)))))))
   have ha:vF m x=(m,11):=by unfold vF;rw [if_neg h13,if_pos (by rw [mA,hi];decide)]
   exact ⟨by rw [ha],A,n,c,p,er,em,by rw [ha];exact hs,M3.keep [true,true,true,false]⟩
  ·rcases oU x.key m with ⟨hi,_⟩ | ⟨i,bi,hbi,hbk,hi⟩
   ·simp [hi] at h26
   refine aM (aC (aE (gJ [(0,0),(1,0),(2,0),(3,1),(4,0),(5,1),(6,1),(7,2)] mixed M3 Z (by kernel_rfl) (fun w4 M4=>(aX Z Z Z (fun _=>aH (.pointer _) Z) (aX Z Z Z (fun _=>bN Z) (aX Z Z Z (fun _=>aD 0 jA Z) (bQ Z Z Z (aK 0 (.slice _ _ _) iD M4 Z Z Z) (eG Z Z Z (bQ Z Z Z (aV 3 bR M4 Z Z Z) (bQ Z Z Z (bG (i) dU Z Z (by rw [hi];rfl) ((hs.row.rd M4 (aN (i:=1) Z)).below_len (aG aF hbi)) ((hs.row.rd M4 (aN (i:=1) Z)).someK (aG aF hbi))) ?_)))))))))))
   refine dO [true,true,true] Z (by kernel_rfl) (aPi 1 _ bR M4 Z hs.row (aG aF hbi) Z Z Z Z (aP Z) (fun e5 w5 hR5 M5 => ?_))
   have hQ5:=hR5.mapSet (f:=aF) (x:=x) rfl
   refine aB (aC ⟨dI, ?_⟩)
   refine bS (aC (aE (aA (bL Z Z (aB (aC (aR (cF (.int _ _) Z ?_))))))))
   have ha:vF m x=(m.set i x,0):=by unfold vF;rw [if_neg h13,mA,hi];simp only [];rw [if_neg (by omega),Int.toNat_natCast]
   exact ⟨by rw [ha],_,_,_,_,_,_,by rw [ha];exact hs.put hbi hbk.symm (by omega) hQ5,M5.keep [true,true,true,false]⟩
theorem aXm (w:World) (b:Nat) (A:Option Addr) (n c:Nat) (p:Option Nat) (er em:eQ) (m:List Body) (hs:StoreIs 39 A n c p er em m) (hO:Own [(some b,bc [.slice A n c,.map p] 107),er,em] w) (key:Int) :
  Calls prog 122 #[.pointer (some ⟨b,0,none⟩),.int .u32 key] w (gY (fun v w'=>v=.int .i64 (mW m key).2∧∃ A' n' c' p' er' em',StoreIs 39 A' n' c' p' er' em' (mW m key).1∧Mem w (cD [(some b,bc [.slice A n c,.map p] 107),er,em]) [(some b,bc [.slice A' n' c',.map p'] 107),er',em'] w')):=by
 have hlen:m.length=n:=by simpa using hs.row.1
 have hcap:=hs.cap
 refine aI #[.tmp 4] 67 func122 Z results122 ntmps122 Z ?_
 have M0:=hO.mem
 refine aE (aA (bL Z Z (aB (aC (aE (aE (aA (wq (aH (.pointer _) Z) Z (wq (gT false underlying162 Z Z) Z (aB (aC (cB Z (aM (aC (aE (aA (wq (aH (.pointer _) Z) Z (wq (bN Z) Z (wq (aD 1 mN Z) Z (wq (aK 0 (.map _) sV M0 Z Z Z) Z (aT Z Z (wq (lT (enc:=(Value.int .i64)) 0 2 wB zv3 M0 Z hs.map Z Z) Z (wq (aH (.tuple (List.toArray _)) Z) Z (wq (bJ (.int _ _) Z Z) Z ?_))))))))))))))))))))))))
 refine wq (bJ (.bool _) Z Z) Z (bL Z Z (wq (aJ (.bool _) Z) Z (aB (aC (aE (aE (aA (wq (aH (.bool _) Z) Z (wq (fB _ Z Z) Z (aB (aC ?_)))))))))))
 refine iN _ Z (fun h20 => ?_) (fun h20 => ?_)
 ·have hi:zY m key=none:=by cases h:zY m key <;> simp_all
  refine aE (aA (bL Z Z (aB (aC (aR (cK (cF (.int _ _) Z ?_)))))))
  have ha:mW m key=(m,11):=by unfold mW;rw [if_pos (by rw [mA,hi];decide)]
  exact ⟨by rw [ha],A,n,c,p,er,em,by rw [ha];exact hs,M0.keep [true,true,true]⟩
 ·rcases oU key m with ⟨hi,_⟩ | ⟨i,bi,hbi,hbk,hi⟩
  ·simp [hi] at h20
  have hilt:i < m.length:=(List.getElem?_eq_some_iff.1 hbi).1
  obtain ⟨bl,hbl⟩:=cG (xs:=m) (k:=n - 1) rfl (by omega)
  have hps:p.isSome=true:=hs.map.isSome hi
  refine aM (aC (aE (aA (wq (aH (.pointer _) Z) Z (wq (bN Z) Z (wq (aD 0 jA Z) Z (wq (aK 0 (.slice _ _ _) iD M0 Z Z Z) Z (wq (bW underlying29 Z) Z (wq (gX Z Z (by omega) (by omega)) Z (bL Z Z (aB (aC (aE (gJ [(0,0),(1,0),(2,0),(3,1),(4,0),(5,0),(6,0),(7,0),(8,1),(9,0),(10,1),(11,1),(12,1),(13,2)] mixed M0 Z (by kernel_rfl) (fun w1 M1=>(aX Z Z Z (fun _=>aH (.pointer _) Z) (aX Z Z Z (fun _=>bN Z) (aX Z Z Z (fun _=>aD 0 jA Z) ?_))))))))))))))))))
  refine bQ Z Z Z (aK 0 (.slice _ _ _) iD M1 Z Z Z) (eG Z Z Z (aX Z Z Z (fun _=>aH (.pointer _) Z) (aX Z Z Z (fun _=>bN Z) (aX Z Z Z (fun _=>aD 0 jA Z) (bQ Z Z Z (aK 0 (.slice _ _ _) iD M1 Z Z Z) (eG Z Z Z (bQ Z Z Z (bG (n - 1) dU Z Z (by omega) ((hs.row.rd M1 (aN (i:=1) Z)).below_len (aG aF hbl)) ((hs.row.rd M1 (aN (i:=1) Z)).someK (aG aF hbl))) (bQ Z Z Z (dQ _ bR (hs.row.rd M1 (aN (i:=1) Z)) (aG aF hbl) Z) ?_))))))))
  refine bQ Z Z Z (bG (i) dU Z Z (by rw [hi];rfl) ((hs.row.rd M1 (aN (i:=1) Z)).below_len (aG aF hbi)) ((hs.row.rd M1 (aN (i:=1) Z)).someK (aG aF hbi))) (dO [true,true,true,true,true] Z (by kernel_rfl) (aPi 1 _ bR M1 Z hs.row (aG aF hbi) Z Z Z Z (aP Z) (fun e2 w2 hR2 M2 => ?_)))
  have hQ2:=hR2.mapSet (f:=aF) (x:=bl) rfl
  refine aB (aC ⟨dI, ?_⟩)
  refine bS (aC (aE (gJ [(0,0),(1,0),(2,0),(3,1),(4,0),(5,0),(6,0),(7,1),(8,0),(9,1),(10,1),(11,1),(12,0),(13,2)] mixed M2 Z (by kernel_rfl) (fun w3 M3=>(aX Z Z Z (fun _=>aH (.pointer _) Z) (aX Z Z Z (fun _=>bN Z) (aX Z Z Z (fun _=>aD 1 mN Z) (bQ Z Z Z (aK 0 (.map _) sV M3 Z Z Z) (aX Z Z Z (fun _=>aH (.pointer _) Z) (aX Z Z Z (fun _=>bN Z) (aX Z Z Z (fun _=>aD 0 jA Z) (bQ Z Z Z (aK 0 (.slice _ _ _) iD M3 Z Z Z) ?_))))))))))))
  refine eG Z Z Z ?_
  refine bQ Z Z Z (bG (i) dU Z Z (by rw [hi];rfl) ((hQ2.rd M3 (aN (i:=1) Z)).below_len (aG aF (by rw [List.getElem?_set_self hilt]:(m.set i bl)[i]? = some bl))) ((hQ2.rd M3 (aN (i:=1) Z)).someK (aG aF (by rw [List.getElem?_set_self hilt]:(m.set i bl)[i]? = some bl)))) ?_
  refine bQ Z Z Z (aU 0 dZ (hQ2.rd M3 (aN (i:=1) Z)) (jD ((hQ2.rd M3 (aN (i:=1) Z)).below_len (aG aF (by rw [List.getElem?_set_self hilt]:(m.set i bl)[i]? = some bl)))) Z) ?_
  refine bQ Z Z Z (dR (o:=0) (.int _ _) bZ (hQ2.rd M3 (aN (i:=1) Z)) (aG aF (by rw [List.getElem?_set_self hilt]:(m.set i bl)[i]? = some bl)) Z Z) ?_
  refine eG Z Z Z (dO [true,true,true,true,true] Z (by kernel_rfl) (mF (enc:=(Value.int .i64)) 2 wB M3 Z Z hs.map hps Z Z Z (fun e4 w4 hm4 M4 => ?_)))
  refine aB (aC ⟨dI, ?_⟩)
  refine bS (aC (aE (aA (wq (aH (.pointer _) Z) Z (wq (aH (.pointer _) Z) Z (wq (bN Z) Z (wq (aD 0 jA Z) Z (wq (aK 0 (.slice _ _ _) iD M4 Z Z Z) Z (aT Z Z (wq (fF (0) (((n:Int) - 1)) dU Z Z ⟨_,Z⟩ (by decide) (by omega) (by have:=hs.row.slice;omega)) Z (wq (bN Z) Z (wq (aD 0 jA Z) Z (dA 0 (.slice _ _ _) iD M4 Z Z Z Z Z Z (fun w5 M5=>(aB (aC (aE (aA (wq (aH (.pointer _) Z) Z (wq (bN Z) Z (wq (aD 1 mN Z) Z ?_)))))))))))))))))))))
  refine wq (aK 0 (.map _) sV M5 Z Z Z) Z (aT Z Z (bDr (enc:=(Value.int .i64)) 2 wB M5 Z Z hm4 hps Z Z (fun e6 w6 hm6 M6=>(aB (aC (aE (aA (bL Z Z (aB (aC (aR (cF (.int _ _) Z ?_))))))))))))
  have ha:mW m key=(aCk m i,0):=by unfold mW;rw [mA,hi];simp only [];rw [if_neg (by omega),Int.toNat_natCast]
  have hn1:((n:Int) - 1).toNat=n - 1:=by omega
  exact ⟨by rw [ha],_,_,_,_,_,_,by rw [ha];exact hs.cut hbi hbk (by rw [hlen];exact hbl) (by rw [hi];rfl) (by omega) hQ2 hm6,M6.keep [true,true,true]⟩
theorem aXl (w:World) (b:Nat) (A:Option Addr) (n c:Nat) (p:Option Nat) (er em:eQ) (m:List Body) (hs:StoreIs 39 A n c p er em m) (hO:Own [(some b,bc [.slice A n c,.map p] 107),er,em] w) :
  Calls prog 68 #[.pointer (some ⟨b,0,none⟩)] w (gY (fun v w'=>∃ A' n' c' e',v=.slice A' n' c'∧bA 39 10 A' n' c' ((aEx m).map aF) e'∧Mem w (cD [(some b,bc [.slice A n c,.map p] 107),er,em]) [(some b,bc [.slice A n c,.map p] 107),er,em,e'] w')):=by
 have hlen:m.length=n:=by simpa using hs.row.1
 have hcap:=hs.cap
 refine aI #[.tmp 2] 14 func68 Z results68 ntmps68 Z ?_
 have M0:=hO.mem
 refine aE (aA (eI Z Z (aB (aC (aE (aE (aA (wq (aH (.pointer _) Z) Z (wq (gT false underlying162 Z Z) Z (aB (aC (cB Z (aM (aC (aE (aA (wq (aH (.pointer _) Z) Z (wq (bN Z) Z (wq (aD 0 jA Z) Z (wq (aK 0 (.slice _ _ _) iD M0 Z Z Z) Z (eJ bWr Z Z (aKq _ _ _ _ _ (hs.row.rd M0 (aN (i:=1) Z)) (aUe m) (by omega)) ?_)))))))))))))))))))))
 rintro v1 w1 ⟨A1,n1,c1,e1,rfl,hR1,hM1,_⟩
 have M1:Mem _ _ [_,_,_,_] _:=M0.call0 hM1
 have hn1:n1=m.length:=by simpa using hR1.1.symm
 refine eI Z Z (aB (aC (aE (aA (dJ Z Z (eJ bRk Z Z (aFj 115 bRl aFk _ _ _ _ m _ hR1 (M1.ownAt (i:=3) Z) (by omega)) ?_))))))
 rintro v2 w2 ⟨rfl,ys2,e2,hp2,hu2,hR2,hM2⟩
 have M2:Mem _ _ [_,_,_,_] _:=M1.seg 3 1 hM2
 have hys:ys2=aEx m:=bDp hu2 (aIy m) (hp2.trans (rM m).symm) (hs.keys.perm hp2)
 rw [hys] at hR2
 refine aB (aC (aE (aA (dJ Z Z (eI Z Z (aB (aC (aR (cF (.slice _ _ _) Z ?_)))))))))
 exact ⟨_,_,_,_,Z,hR2,M2⟩
theorem mG {x:Int} (h:0≤x∧x≤4294967295):IntKind.wrap .i32 x=lX x:=by
 unfold lX
 simp [IntKind.wrap,IntKind.bits,IntKind.signed]
 split <;> split <;> omega
theorem uA {n k:Int} (h:0≤n∧n≤4294967296) (hk:0 < k):IntKind.i64.wrap (n.tdiv k)=n / k:=by
 rw [Int.tdiv_eq_ediv_of_nonneg h.1]
 have h1:=Int.ediv_nonneg h.1 (Int.le_of_lt hk)
 have h2:n / k≤n:=Int.ediv_le_self k h.1
 exact fU _ (by omega) (by omega)
theorem aLf (w:World) (r:Row) (xs:List Int) (hr:bA 5 1 r.A r.n r.c ((xs).map aZ) r.e) (n:Int) (hn:0≤n∧n≤4294967295) (hl:r.n≤1048576) (hO:Own [r.e] w) :
  Calls prog 100 #[.slice r.A r.n r.c,.int .u32 n] w (gY (fun v w'=>∃ q:Row,v=.slice q.A q.n q.c∧q.n=r.n+4∧bA 5 1 q.A q.n q.c ((xs++dB n).map aZ) q.e∧Mem w (cD [r.e]) [q.e] w')):=by
 refine aI #[.tmp 4] 19 func100 Z results100 ntmps100 Z ?_
 have M0:=hO.mem
 refine aE (aA (eI Z Z (aB (aC (aE (aA (dJ Z Z (aT Z Z (wq (lH Z Z (by decide)) Z (aL 7 (.int .u32 (n / 16777216)) (iE (bNr n)) (wq (dL yL underlying5 Z) Z (aL 8 (.int .u8 (n / 16777216 % 256)) (iE (wr8 _)) (aT Z Z (wq (lH Z Z (by decide)) Z (aL 10 (.int .u32 (n / 65536)) (iE (bNq n)) (wq (dL yL underlying5 Z) Z (aL 11 (.int .u8 (n / 65536 % 256)) (iE (wr8 _)) (aT Z Z (wq (lH Z Z (by decide)) Z ?_)))))))))))))))))))
 refine aL 13 (.int .u32 (n / 256)) (iE (bVl n)) (wq (dL yL underlying5 rfl) rfl (aL 14 (.int .u8 (n / 256 % 256)) (iE (wr8 _)) (aT rfl rfl (wq (dL yL underlying5 rfl) rfl (aL 16 (.int .u8 (n % 256)) (iE (wr8 _)) (bV [.int _ _,.int _ _,.int _ _,.int _ _] ((dB n).map aZ) rfl gI M0 rfl rfl rfl rfl (cO rfl) (by decide) (fun b1 w1 M1=>(cP 0 ((dB n).map aZ) gI M1 rfl rfl rfl rfl rfl hr rfl (by simp [dB,aZ,Go.Bil.one]) (dN.ofMem 1 M1 rfl) (by omega) (fun A2 c2 e2 w2 M2 hR2=>(eI rfl rfl (aB (aC (aR (cF (.slice _ _ _) rfl ?_))))))))))))))
 exact ⟨⟨A2,_,c2,e2⟩,Z,Z,by rw [List.map_append];exact hR2,M2.keep [true,false]⟩
theorem kD (w:World) (x:Int) :
  Calls prog 136 #[.int .i32 x] w (Rb w (.int .u32 (x % 4294967296))):=by
 refine aI #[.tmp 2] 5 func136 Z results136 ntmps136 Z ?_
 have M0:=Mem.refl w
 refine aE (aA (bL Z Z (aB (aC (aE (aA (aT Z Z (wq (dL eF underlying35 Z) Z (aL 4 (.int .u32 (x % 4294967296)) (iE (bKy _)) (bL Z Z (aB (aC (aR (cF (.int _ _) Z ?_))))))))))))))
 exact ⟨Z,M0.below⟩
theorem aUy (w:World) (b:Body) :
  Calls prog 101 #[(.agg (aF b).toArray)] w (Rb w (.agg ((aEk b).map (Value.int .u32)).toArray)):=by
 refine aI #[.cell 2 139] 49 func101 Z results101 ntmps101 Z ?_
 have M0:=Mem.refl w
 refine aE (aA (bO (.agg (.mk _)) M0 Z Z Z (fun b1 w1 M1=>(aO aPn M1 Z Z (fun b2 w2 M2=>(aB (aC (aE (aA (wq (aJ (.func _ _ _) Z) Z (aB (aC (aE (gJ [(0,0),(1,1),(2,0),(3,0),(4,1),(6,0),(7,0),(8,0),(9,1),(11,0),(12,0),(13,0),(14,1),(16,0),(17,0),(18,1),(20,0),(21,0),(22,1),(24,0),(25,0),(26,0),(27,1),(29,0),(30,0),(31,0),(32,1),(34,0),(35,0),(36,0),(37,1),(39,0),(40,0),(41,0),(42,1),(5,2),(10,2),(15,2),(19,2),(23,2),(28,2),(33,2),(38,2),(43,2),(44,0),(45,2)] mixed M2 Z (by kernel_rfl) (fun w3 M3 => ?_)))))))))))))))
 refine aX Z Z Z (fun _=>aD 0 dZ Z) (bQ Z Z Z (aK 0 (.int _ _) bZ M3 Z Z Z) (aX Z Z Z (fun _=>aH (.func _ _ _) Z) (aX Z Z Z (fun _=>aD 1 mU Z) (bQ Z Z Z (aK 0 (.int _ _) bB M3 Z Z Z) (aX Z Z Z (fun _=>aH (.func _ _ _) Z) (aX Z Z Z (fun _=>aD 2 kE Z) (aX Z Z Z (fun _=>aD 0 cY Z) (bQ Z Z Z (aK 0 (.int _ _) bB M3 Z Z Z) (aX Z Z Z (fun _=>aH (.func _ _ _) Z) (aX Z Z Z (fun _=>aD 2 kE Z) ?_))))))))))
 refine aX Z Z Z (fun _=>aD 1 cW Z) (bQ Z Z Z (aK 0 (.int _ _) bB M3 Z Z Z) (aX Z Z Z (fun _=>aH (.func _ _ _) Z) (aX Z Z Z (fun _=>aD 4 eS Z) (bQ Z Z Z (aK 0 (.int _ _) bB M3 Z Z Z) (aX Z Z Z (fun _=>aH (.func _ _ _) Z) (aX Z Z Z (fun _=>aD 5 pG Z) (bQ Z Z Z (aK 0 (.int _ _) bB M3 Z Z Z) (aX Z Z Z (fun _=>aH (.func _ _ _) Z) (aX Z Z Z (fun _=>aD 6 fZ Z) (aX Z Z Z (fun _=>aD 0 cY Z) ?_))))))))))
 refine bQ Z Z Z (aK 0 (.int _ _) bB M3 Z Z Z) (aX Z Z Z (fun _=>aH (.func _ _ _) Z) (aX Z Z Z (fun _=>aD 6 fZ Z) (aX Z Z Z (fun _=>aD 1 cW Z) (bQ Z Z Z (aK 0 (.int _ _) bB M3 Z Z Z) (aX Z Z Z (fun _=>aH (.func _ _ _) Z) (aX Z Z Z (fun _=>aD 8 eH Z) (aX Z Z Z (fun _=>aD 0 cY Z) (bQ Z Z Z (aK 0 (.int _ _) bB M3 Z Z Z) (aX Z Z Z (fun _=>aH (.func _ _ _) Z) (aX Z Z Z (fun _=>aD 8 eH Z) ?_))))))))))
 refine aX Z Z Z (fun _=>aD 1 cW Z) (bQ Z Z Z (aK 0 (.int _ _) bB M3 Z Z Z) (dO [false,false,false,false,false,false,false,false,true,false] Z (by kernel_rfl) (dM uF Z Z M3 (kD _ b.radius) (fun w4 M4 => ?_))))
 refine aB (aC ⟨(dS (bH Z (aK 0 (.int _ _) bB M4 Z Z Z)) (dS (bH Z (aK 0 (.int _ _) bB M4 Z Z Z)) (dS (bH Z (aK 0 (.int _ _) bB M4 Z Z Z)) (dS (bH Z (aK 0 (.int _ _) bB M4 Z Z Z)) (dS (bH Z (aK 0 (.int _ _) bB M4 Z Z Z)) (dS (bH Z (aK 0 (.int _ _) bB M4 Z Z Z)) (dS (bH Z (aK 0 (.int _ _) bB M4 Z Z Z)) (dS (bH Z (aK 0 (.int _ _) bB M4 Z Z Z)) (dS (bH Z (aK 0 (.int _ _) bZ M4 Z Z Z)) dI))))))))), ?_⟩)
 refine dO [false,false,false,false,false,false,false,true,false] Z (by kernel_rfl) (dM uF Z Z M4 (kD _ b.ax) (fun w5 M5 => ?_))
 refine aB (aC ⟨(dS (bH Z (aK 0 (.int _ _) bB M5 Z Z Z)) (dS (bH Z (aK 0 (.int _ _) bB M5 Z Z Z)) (dS (bH Z (aK 0 (.int _ _) bB M5 Z Z Z)) (dS (bH Z (aK 0 (.int _ _) bB M5 Z Z Z)) (dS (bH Z (aK 0 (.int _ _) bB M5 Z Z Z)) (dS (bH Z (aK 0 (.int _ _) bB M5 Z Z Z)) (dS (bH Z (aK 0 (.int _ _) bB M5 Z Z Z)) (dS (bH Z (aK 0 (.int _ _) bZ M5 Z Z Z)) dI)))))))), ?_⟩)
 refine dO [false,false,false,false,false,false,true,false] Z (by kernel_rfl) (dM uF Z Z M5 (kD _ b.ay) (fun w6 M6 => ?_))
 refine aB (aC ⟨(dS (bH Z (aK 0 (.int _ _) bB M6 Z Z Z)) (dS (bH Z (aK 0 (.int _ _) bB M6 Z Z Z)) (dS (bH Z (aK 0 (.int _ _) bB M6 Z Z Z)) (dS (bH Z (aK 0 (.int _ _) bB M6 Z Z Z)) (dS (bH Z (aK 0 (.int _ _) bB M6 Z Z Z)) (dS (bH Z (aK 0 (.int _ _) bB M6 Z Z Z)) (dS (bH Z (aK 0 (.int _ _) bZ M6 Z Z Z)) dI))))))), ?_⟩)
 refine dO [false,false,false,false,false,true,false] Z (by kernel_rfl) (dM uF Z Z M6 (kD _ b.mass) (fun w7 M7 => ?_))
 refine aB (aC ⟨(dS (bH Z (aK 0 (.int _ _) bB M7 Z Z Z)) (dS (bH Z (aK 0 (.int _ _) bB M7 Z Z Z)) (dS (bH Z (aK 0 (.int _ _) bB M7 Z Z Z)) (dS (bH Z (aK 0 (.int _ _) bB M7 Z Z Z)) (dS (bH Z (aK 0 (.int _ _) bB M7 Z Z Z)) (dS (bH Z (aK 0 (.int _ _) bZ M7 Z Z Z)) dI)))))), ?_⟩)
 refine dO [false,false,false,false,true,false] Z (by kernel_rfl) (dM uF Z Z M7 (kD _ b.bounce) (fun w8 M8 => ?_))
 refine aB (aC ⟨(dS (bH Z (aK 0 (.int _ _) bB M8 Z Z Z)) (dS (bH Z (aK 0 (.int _ _) bB M8 Z Z Z)) (dS (bH Z (aK 0 (.int _ _) bB M8 Z Z Z)) (dS (bH Z (aK 0 (.int _ _) bB M8 Z Z Z)) (dS (bH Z (aK 0 (.int _ _) bZ M8 Z Z Z)) dI))))), ?_⟩)
 refine dO [false,false,false,true,false] Z (by kernel_rfl) (dM uF Z Z M8 (kD _ b.px) (fun w9 M9 => ?_))
 refine aB (aC ⟨(dS (bH Z (aK 0 (.int _ _) bB M9 Z Z Z)) (dS (bH Z (aK 0 (.int _ _) bB M9 Z Z Z)) (dS (bH Z (aK 0 (.int _ _) bB M9 Z Z Z)) (dS (bH Z (aK 0 (.int _ _) bZ M9 Z Z Z)) dI)))), ?_⟩)
 refine dO [false,false,true,false] Z (by kernel_rfl) (dM uF Z Z M9 (kD _ b.py) (fun w10 M10 => ?_))
 refine aB (aC ⟨(dS (bH Z (aK 0 (.int _ _) bB M10 Z Z Z)) (dS (bH Z (aK 0 (.int _ _) bB M10 Z Z Z)) (dS (bH Z (aK 0 (.int _ _) bZ M10 Z Z Z)) dI))), ?_⟩)
 refine dO [false,true,false] Z (by kernel_rfl) (dM uF Z Z M10 (kD _ b.vx) (fun w11 M11 => ?_))
 refine aB (aC ⟨(dS (bH Z (aK 0 (.int _ _) bB M11 Z Z Z)) (dS (bH Z (aK 0 (.int _ _) bZ M11 Z Z Z)) dI)), ?_⟩)
 refine dO [true,false] Z (by kernel_rfl) (dM uF Z Z M11 (kD _ b.vy) (fun w12 M12 => ?_))
 refine aB (aC ⟨(dS (bH Z (aK 0 (.int _ _) bZ M12 Z Z Z)) dI), ?_⟩)
 refine aX Z Z Z (fun _=>wG [.int _ _,.int _ _,.int _ _,.int _ _,.int _ _,.int _ _,.int _ _,.int _ _,.int _ _,.int _ _] jS aPn Z Z (cO Z)) (dO [true] Z (by kernel_rfl) (bC 1 _ aTz M12 Z Z Z Z Z (aP Z) Z (fun w13 M13 => ?_)))
 refine aB (aC ⟨dI, ?_⟩)
 refine bS (aC (aR (fA 1 aTz M13 Z Z Z ?_)))
 exact ⟨Z,M13.below⟩
theorem kT (w:World) (A:Option Addr) (n c:Nat) (ls:List Int) (R:Rd w 1 A n (ls.map aZ)) (hB:gU ls) (h4:4≤n) :
  Calls prog 79 #[.slice A n c] w (Rb w (.int .u32 (eP ls 0))):=by
 have hlen:ls.length=n:=by simpa using R.len
 have hbd:=R.bound
 obtain ⟨x0,hx0⟩:=cG (xs:=ls) (k:=0) hlen (by omega)
 obtain ⟨x1,hx1⟩:=cG (xs:=ls) (k:=1) hlen (by omega)
 obtain ⟨x2,hx2⟩:=cG (xs:=ls) (k:=2) hlen (by omega)
 obtain ⟨x3,hx3⟩:=cG (xs:=ls) (k:=3) hlen (by omega)
 obtain ⟨g0,g1⟩:=hB x0 (List.mem_of_getElem? hx0)
 obtain ⟨g2,g3⟩:=hB x1 (List.mem_of_getElem? hx1)
 obtain ⟨g4,g5⟩:=hB x2 (List.mem_of_getElem? hx2)
 obtain ⟨g6,g7⟩:=hB x3 (List.mem_of_getElem? hx3)
 have hnum:eP ls 0=((x0*256+x1)*256+x2)*256+x3:=by unfold eP;simp only [List.getD_eq_getElem?_getD,Nat.zero_add,hx0,hx1,hx2,hx3,Option.getD_some]
 obtain ⟨b0,rfl⟩:=Int.eq_ofNat_of_zero_le g0
 obtain ⟨b1,rfl⟩:=Int.eq_ofNat_of_zero_le g2
 obtain ⟨b2,rfl⟩:=Int.eq_ofNat_of_zero_le g4
 obtain ⟨b3,rfl⟩:=Int.eq_ofNat_of_zero_le g6
 refine aI #[.tmp 2] 25 func79 Z results79 ntmps79 Z ?_
 have M0:=Mem.refl w
 refine aE (aA (bL Z Z (aB (aC (aE (gJ [(0,0),(1,1),(2,1),(3,0),(4,0),(5,0),(6,1),(7,1),(8,0),(9,0),(10,0),(11,0),(12,1),(13,1),(14,0),(15,0),(16,0),(17,0),(18,1),(19,1),(20,0),(21,0),(22,0)] mixed M0 Z (by kernel_rfl) (fun w1 M1=>(kB Z Z Z (bQ Z Z Z (bG (0) gI Z Z Z ((R.mem M1).below_len (aG aZ hx0)) ((R.mem M1).someK (aG aZ hx0))) (bQ Z Z Z (fG (.int _ _) vE (R.mem M1) (aG aZ hx0) Z) (aX Z Z Z (fun _=>bK us5 underlying35 Z (aJo _ (by omega) (by omega))) ?_)))))))))))
 refine aX Z Z Z (fun _=>aBk Z Z (by decide)) (dX 7 (.int .u32 ((b0*16777216:Nat):Int)) (iE (bNp b0 (by omega))) (kB Z Z Z (bQ Z Z Z (bG (1) gI Z Z Z ((R.mem M1).below_len (aG aZ hx1)) ((R.mem M1).someK (aG aZ hx1))) (bQ Z Z Z (fG (.int _ _) vE (R.mem M1) (aG aZ hx1) Z) (aX Z Z Z (fun _=>bK us5 underlying35 Z (aJo _ (by omega) (by omega))) (aX Z Z Z (fun _=>aBk Z Z (by decide)) (dX 12 (.int .u32 ((b1*65536:Nat):Int)) (iE (bNo b1 (by omega))) (aX Z Z Z (fun _=>cH (.int _ _) Z Z Z) ?_))))))))
 refine dX 13 (.int .u32 ((b0*16777216+b1*65536:Nat):Int)) (iE (bVj b0 (b0*16777216) (b1*65536) 24 Z (show b1*65536 < 16777216 by omega) (by omega))) (kB Z Z Z (bQ Z Z Z (bG (2) gI Z Z Z ((R.mem M1).below_len (aG aZ hx2)) ((R.mem M1).someK (aG aZ hx2))) (bQ Z Z Z (fG (.int _ _) vE (R.mem M1) (aG aZ hx2) Z) (aX Z Z Z (fun _=>bK us5 underlying35 Z (aJo _ (by omega) (by omega))) (aX Z Z Z (fun _=>aBk Z Z (by decide)) (dX 18 (.int .u32 ((b2*256:Nat):Int)) (iE (bVk b2 (by omega))) ?_))))))
 refine aX Z Z Z (fun _=>cH (.int _ _) Z Z Z) (dX 19 (.int .u32 ((b0*16777216+b1*65536+b2*256:Nat):Int)) (iE (bVj (b0*256+b1) (b0*16777216+b1*65536) (b2*256) 16 (show (b0*256+b1)*65536=_ by omega) (show b2*256 < 65536 by omega) (by omega))) (kB Z Z Z (bQ Z Z Z (bG (3) gI Z Z Z ((R.mem M1).below_len (aG aZ hx3)) ((R.mem M1).someK (aG aZ hx3))) (bQ Z Z Z (fG (.int _ _) vE (R.mem M1) (aG aZ hx3) Z) (aX Z Z Z (fun _=>bK us5 underlying35 Z (aJo _ (by omega) (by omega))) ?_)))))
 refine aX Z Z Z (fun _=>cH (.int _ _) Z Z Z) (dX 24 (.int .u32 ((b0*16777216+b1*65536+b2*256+b3:Nat):Int)) (iE (bVj (b0*65536+b1*256+b2) (b0*16777216+b1*65536+b2*256) b3 8 (show (b0*65536+b1*256+b2)*256=_ by omega) (show b3 < 256 by omega) (by omega))) (nV Z Z Z (bS (aC (aR (cF (.int _ _) Z ?_))))))
 exact ⟨iE (by rw [hnum];omega),M1.below⟩
theorem jN (w:World) (n:Int) (hn:0≤n∧n≤4294967295) :
  Calls prog 80 #[.int .i64 n] w (Rb w (.int .i64 (8+40*n))):=by
 refine aI #[.tmp 2] 6 func80 Z results80 ntmps80 Z ?_
 have M0:=Mem.refl w
 refine aE (aA (bL Z Z (aB (aC (aE (aA (aT Z Z (wq (fO Z Z (by omega) (by omega)) Z (wq (bE Z Z (by omega) (by omega)) Z (bL Z Z (aB (aC (aR (cF (.int _ _) Z ?_))))))))))))))
 exact ⟨iE (by omega),M0.below⟩
theorem aFb (w:World) (b:Nat) (x0 x1 x2 x3 x4 x5 x6 x7 x8 x9:Int) (h0:0≤x2∧x2≤4294967295) (h1:0≤x3∧x3≤4294967295) (hO:Own [(some b,bc [.int .u32 x0,.int .u32 x1,.int .u32 x2,.int .u32 x3,.int .u32 x4,.int .u32 x5,.int .u32 x6,.int .u32 x7,.int .u32 x8,.int .u32 x9] 139)] w) :
  Calls prog 118 #[.int .i64 2,.pointer (some ⟨b,0,none⟩)] w (gY (fun v w'=>v=.agg [.int .i32 (lX x2),.int .i32 (lX x3)].toArray∧Mem w (cD [(some b,bc [.int .u32 x0,.int .u32 x1,.int .u32 x2,.int .u32 x3,.int .u32 x4,.int .u32 x5,.int .u32 x6,.int .u32 x7,.int .u32 x8,.int .u32 x9] 139)]) [(some b,bc [.int .u32 x0,.int .u32 x1,.int .u32 x2,.int .u32 x3,.int .u32 x4,.int .u32 x5,.int .u32 x6,.int .u32 x7,.int .u32 x8,.int .u32 x9] 139)] w')):=by
 refine aI #[.cell 3 37] 14 func118 Z results118 ntmps118 Z ?_
 have M0:=hO.mem
 refine aE (aA (aO jQ M0 Z Z (fun b1 w1 M1=>(aB (aC (aE (gJ [(0,0),(1,0),(2,1),(3,0),(4,0),(5,0),(6,0),(7,1),(8,0),(9,0),(10,2)] mixed M1 Z (by kernel_rfl) (fun w2 M2=>(eG Z Z Z (aX Z Z Z (fun _=>cL (2) jS Z Z Z (by decide)) (bQ Z Z Z (aK 0 (.int _ _) bZ M2 Z Z Z) (aX Z Z Z (fun _=>dL yL underlying21 Z) (dX 7 (.int .i32 (lX x2)) (iE (mG h0)) (eG Z Z Z (aX Z Z Z (fun _=>bE Z Z (by first | decide | omega) (by first | decide | omega)) (aX Z Z Z (fun _=>cL (3) jS Z Z Z (by decide)) ?_))))))))))))))))
 refine bQ Z Z Z (aK 0 (.int _ _) bZ M2 Z Z Z) (aX Z Z Z (fun _=>dL yL underlying21 Z) (dX 12 (.int .i32 (lX x3)) (iE (mG h1)) (aX Z Z Z (fun _=>cI [(0,.int _ _),(1,.int _ _)] _ fK Z Z) (dO [true,true] Z (by kernel_rfl) (bC 1 _ bP M2 Z Z Z Z Z (aP Z) Z (fun w3 M3 => ?_))))))
 refine aB (aC ⟨dI, ?_⟩)
 refine bS (aC (aR (fA 1 bP M3 Z Z Z ?_)))
 exact ⟨Z,M3.keep [true,false]⟩
theorem aFc (w:World) (b:Nat) (x0 x1 x2 x3 x4 x5 x6 x7 x8 x9:Int) (h0:0≤x6∧x6≤4294967295) (h1:0≤x7∧x7≤4294967295) (hO:Own [(some b,bc [.int .u32 x0,.int .u32 x1,.int .u32 x2,.int .u32 x3,.int .u32 x4,.int .u32 x5,.int .u32 x6,.int .u32 x7,.int .u32 x8,.int .u32 x9] 139)] w) :
  Calls prog 118 #[.int .i64 6,.pointer (some ⟨b,0,none⟩)] w (gY (fun v w'=>v=.agg [.int .i32 (lX x6),.int .i32 (lX x7)].toArray∧Mem w (cD [(some b,bc [.int .u32 x0,.int .u32 x1,.int .u32 x2,.int .u32 x3,.int .u32 x4,.int .u32 x5,.int .u32 x6,.int .u32 x7,.int .u32 x8,.int .u32 x9] 139)]) [(some b,bc [.int .u32 x0,.int .u32 x1,.int .u32 x2,.int .u32 x3,.int .u32 x4,.int .u32 x5,.int .u32 x6,.int .u32 x7,.int .u32 x8,.int .u32 x9] 139)] w')):=by
 refine aI #[.cell 3 37] 14 func118 Z results118 ntmps118 Z ?_
 have M0:=hO.mem
 refine aE (aA (aO jQ M0 Z Z (fun b1 w1 M1=>(aB (aC (aE (gJ [(0,0),(1,0),(2,1),(3,0),(4,0),(5,0),(6,0),(7,1),(8,0),(9,0),(10,2)] mixed M1 Z (by kernel_rfl) (fun w2 M2=>(eG Z Z Z (aX Z Z Z (fun _=>cL (6) jS Z Z Z (by decide)) (bQ Z Z Z (aK 0 (.int _ _) bZ M2 Z Z Z) (aX Z Z Z (fun _=>dL yL underlying21 Z) (dX 7 (.int .i32 (lX x6)) (iE (mG h0)) (eG Z Z Z (aX Z Z Z (fun _=>bE Z Z (by first | decide | omega) (by first | decide | omega)) (aX Z Z Z (fun _=>cL (7) jS Z Z Z (by decide)) ?_))))))))))))))))
 refine bQ Z Z Z (aK 0 (.int _ _) bZ M2 Z Z Z) (aX Z Z Z (fun _=>dL yL underlying21 Z) (dX 12 (.int .i32 (lX x7)) (iE (mG h1)) (aX Z Z Z (fun _=>cI [(0,.int _ _),(1,.int _ _)] _ fK Z Z) (dO [true,true] Z (by kernel_rfl) (bC 1 _ bP M2 Z Z Z Z Z (aP Z) Z (fun w3 M3 => ?_))))))
 refine aB (aC ⟨dI, ?_⟩)
 refine bS (aC (aR (fA 1 bP M3 Z Z Z ?_)))
 exact ⟨Z,M3.keep [true,false]⟩
theorem aFd (w:World) (b:Nat) (x0 x1 x2 x3 x4 x5 x6 x7 x8 x9:Int) (h0:0≤x8∧x8≤4294967295) (h1:0≤x9∧x9≤4294967295) (hO:Own [(some b,bc [.int .u32 x0,.int .u32 x1,.int .u32 x2,.int .u32 x3,.int .u32 x4,.int .u32 x5,.int .u32 x6,.int .u32 x7,.int .u32 x8,.int .u32 x9] 139)] w) :
  Calls prog 118 #[.int .i64 8,.pointer (some ⟨b,0,none⟩)] w (gY (fun v w'=>v=.agg [.int .i32 (lX x8),.int .i32 (lX x9)].toArray∧Mem w (cD [(some b,bc [.int .u32 x0,.int .u32 x1,.int .u32 x2,.int .u32 x3,.int .u32 x4,.int .u32 x5,.int .u32 x6,.int .u32 x7,.int .u32 x8,.int .u32 x9] 139)]) [(some b,bc [.int .u32 x0,.int .u32 x1,.int .u32 x2,.int .u32 x3,.int .u32 x4,.int .u32 x5,.int .u32 x6,.int .u32 x7,.int .u32 x8,.int .u32 x9] 139)] w')):=by
 refine aI #[.cell 3 37] 14 func118 Z results118 ntmps118 Z ?_
 have M0:=hO.mem
 refine aE (aA (aO jQ M0 Z Z (fun b1 w1 M1=>(aB (aC (aE (gJ [(0,0),(1,0),(2,1),(3,0),(4,0),(5,0),(6,0),(7,1),(8,0),(9,0),(10,2)] mixed M1 Z (by kernel_rfl) (fun w2 M2=>(eG Z Z Z (aX Z Z Z (fun _=>cL (8) jS Z Z Z (by decide)) (bQ Z Z Z (aK 0 (.int _ _) bZ M2 Z Z Z) (aX Z Z Z (fun _=>dL yL underlying21 Z) (dX 7 (.int .i32 (lX x8)) (iE (mG h0)) (eG Z Z Z (aX Z Z Z (fun _=>bE Z Z (by first | decide | omega) (by first | decide | omega)) (aX Z Z Z (fun _=>cL (9) jS Z Z Z (by decide)) ?_))))))))))))))))
 refine bQ Z Z Z (aK 0 (.int _ _) bZ M2 Z Z Z) (aX Z Z Z (fun _=>dL yL underlying21 Z) (dX 12 (.int .i32 (lX x9)) (iE (mG h1)) (aX Z Z Z (fun _=>cI [(0,.int _ _),(1,.int _ _)] _ fK Z Z) (dO [true,true] Z (by kernel_rfl) (bC 1 _ bP M2 Z Z Z Z Z (aP Z) Z (fun w3 M3 => ?_))))))
 refine aB (aC ⟨dI, ?_⟩)
 refine bS (aC (aR (fA 1 bP M3 Z Z Z ?_)))
 exact ⟨Z,M3.keep [true,false]⟩
theorem aNs (w:World) (x0 x1 x2 x3 x4 x5 x6 x7 x8 x9:Int) (hx:∀ x∈([x0,x1,x2,x3,x4,x5,x6,x7,x8,x9]:List Int),0≤x∧x≤4294967295) :
  Calls prog 81 #[.agg [.int .u32 x0,.int .u32 x1,.int .u32 x2,.int .u32 x3,.int .u32 x4,.int .u32 x5,.int .u32 x6,.int .u32 x7,.int .u32 x8,.int .u32 x9].toArray] w (Rb w ((.agg (aF (⟨x0,lX x1,lX x2,lX x3,lX x4,lX x5,lX x6,lX x7,lX x8,lX x9⟩:Body)).toArray))):=by
 refine aI #[.cell 2 39] 23 func81 Z results81 ntmps81 Z ?_
 have M0:=Mem.refl w
 refine aE (aA (bO (.agg (.mk _)) M0 Z Z Z (fun b1 w1 M1=>(aO gL M1 Z Z (fun b2 w2 M2=>(aB (aC (aE (aA (wq (eB [] [.pointer _] Z Z) Z (wq (aJ (.func _ _ _) Z) Z (aB (aC (aE (gJ [(0,0),(1,1),(2,0),(3,1),(4,0),(5,0),(7,0),(8,1),(9,0),(10,0),(11,1),(12,0),(13,0),(15,0),(6,2),(14,2),(16,2),(17,0),(18,2)] mixed M2 Z (by kernel_rfl) (fun w3 M3=>(aX Z Z Z (fun _=>cL (0) jS Z Z Z (by decide)) (bQ Z Z Z (aK 0 (.int _ _) bZ M3 Z Z Z) (aX Z Z Z (fun _=>cL (1) jS Z Z Z (by decide)) ?_)))))))))))))))))))
 refine bQ rfl rfl rfl (aK 0 (.int _ _) bZ M3 rfl rfl rfl) (aX rfl rfl rfl (fun _=>dL yL underlying21 rfl) (dX 9 (.int .i32 (lX x1)) (iE (mG (hx _ (by simp)))) (aX rfl rfl rfl (fun _=>aH (.func _ _ _) rfl) (aX rfl rfl rfl (fun _=>cL (4) jS rfl rfl rfl (by decide)) (bQ rfl rfl rfl (aK 0 (.int _ _) bZ M3 rfl rfl rfl) (aX rfl rfl rfl (fun _=>dL yL underlying21 rfl) (dX 14 (.int .i32 (lX x4)) (iE (mG (hx _ (by simp)))) (aX rfl rfl rfl (fun _=>cL (5) jS rfl rfl rfl (by decide)) (bQ rfl rfl rfl (aK 0 (.int _ _) bZ M3 rfl rfl rfl) ?_)))))))))
 refine aX rfl rfl rfl (fun _=>dL yL underlying21 rfl) (dX 17 (.int .i32 (lX x5)) (iE (mG (hx _ (by simp)))) (aX rfl rfl rfl (fun _=>aH (.func _ _ _) rfl) (aX rfl rfl rfl (fun _=>aH (.func _ _ _) rfl) (dO [false,false,false,false] rfl (by kernel_rfl) (eJ aUh rfl rfl (aFb _ b1 x0 x1 x2 x3 x4 x5 x6 x7 x8 x9 (hx _ (by simp)) (hx _ (by simp)) (M3.ownSeg 0 1)) ?_)))))
 rintro v4 w4 ⟨rfl,hM4⟩
 have M4:Mem _ _ [_,_] _:=M3.seg 0 1 hM4
 refine aB (aC ⟨(dS (bH Z (aK 0 (.int _ _) bZ M4 Z Z Z)) (dS (bH Z (aK 0 (.int _ _) bZ M4 Z Z Z)) (dS (bH Z (aK 0 (.int _ _) bZ M4 Z Z Z)) (dS (bH Z (aK 0 (.int _ _) bZ M4 Z Z Z)) dI)))), ?_⟩)
 refine dO [false,false,false,false] rfl (by kernel_rfl) (eJ aUh rfl rfl (aFc _ b1 x0 x1 x2 x3 x4 x5 x6 x7 x8 x9 (hx _ (by simp)) (hx _ (by simp)) (M4.ownSeg 0 1)) ?_)
 rintro v5 w5 ⟨rfl,hM5⟩
 have M5:Mem _ _ [_,_] _:=M4.seg 0 1 hM5
 refine aB (aC ⟨(dS (bH Z (aK 0 (.int _ _) bZ M5 Z Z Z)) (dS (bH Z (aK 0 (.int _ _) bZ M5 Z Z Z)) (dS (bH Z (aK 0 (.int _ _) bZ M5 Z Z Z)) (dS (bH Z (aK 0 (.int _ _) bZ M5 Z Z Z)) dI)))), ?_⟩)
 refine dO [false,false,false,false] rfl (by kernel_rfl) (eJ aUh rfl rfl (aFd _ b1 x0 x1 x2 x3 x4 x5 x6 x7 x8 x9 (hx _ (by simp)) (hx _ (by simp)) (M5.ownSeg 0 1)) ?_)
 rintro v6 w6 ⟨rfl,hM6⟩
 have M6:Mem _ _ [_,_] _:=M5.seg 0 1 hM6
 refine aB (aC ⟨(dS (bH Z (aK 0 (.int _ _) bZ M6 Z Z Z)) (dS (bH Z (aK 0 (.int _ _) bZ M6 Z Z Z)) (dS (bH Z (aK 0 (.int _ _) bZ M6 Z Z Z)) (dS (bH Z (aK 0 (.int _ _) bZ M6 Z Z Z)) dI)))), ?_⟩)
 refine aX Z Z Z (fun _=>cI [(0,.int _ _),(1,.int _ _),(2,.agg (List.toArray _)),(3,.int _ _),(4,.int _ _),(5,.agg (List.toArray _)),(6,.agg (List.toArray _))] _ wN Z Z) (dO [true,true,true,true] Z (by kernel_rfl) (bC 1 _ bR M6 Z Z Z Z Z (aP Z) Z (fun w7 M7 => ?_)))
 refine aB (aC ⟨dI, ?_⟩)
 refine bS (aC (aR (fA 1 bR M7 Z Z Z ?_)))
 exact ⟨Z,M7.below⟩
theorem aNr (w:World) (A:Option Addr) (n c:Nat) (xs:List Body) (R:Rd w 10 A n (xs.map aF)) (hn:n≤4096) (hc:jT xs=0) (hb:∀ b∈xs,InB b) :
  Calls prog 58 #[.slice A n c] w (gY (fun v w'=>∃ q:Row,v=.tuple #[.slice q.A q.n q.c,.int .i64 0]∧bA 5 1 q.A q.n q.c ((lE xs).map aZ) q.e∧Mem w [] [q.e] w')):=by
 have hlen:xs.length=n:=by simpa using R.len
 have hbd:=R.bound
 refine aI #[.tmp 2,.tmp 3] 38 func58 Z results58 ntmps58 Z ?_
 have M0:=Mem.refl w
 refine aE (aA (eI Z Z (bL Z Z (aB (aC (aE (aE (aA (dJ Z Z (dM bPs Z Z M0 (aJi _ _ _ _ xs (R.mem M0)) (fun w1 M1=>(bL Z Z (aB (aC (aE (aA (aT Z Z (cV Z Z Z Z (nP 13 Z (fun h=>h hc) (aB (aC (cB Z (aM (aC (aE (aA (bV [.int _ _,.int _ _,.int _ _,.int _ _] (nD.map aZ) Z gI M1 Z Z Z Z (cO Z) (by decide) (fun b2 w2 M2 => ?_))))))))))))))))))))))))))))
 have hlit15:=lV (T:=5) (b:=b2) (nD.map aZ) (uD _) rfl (by decide)
 refine bAe 0 underlying31 underlying5 M2 Z Z Z Z hlit15 (by decide) (fun e3 w3 M3 hR3=>(dJ Z Z (wq (bW underlying29 Z) Z (wq (bK us3 underlying35 Z (aJo _ (by omega) (by omega))) Z (eJ bEw Z Z (aLf _ ⟨(some ⟨b2,0,none⟩),4,4,e3⟩ nD hR3 (n:Int) (by omega) (by first | omega | exact (show 4≤1048576 by decide)) (M3.ownSeg 0 1)) ?_)))))
 rintro v4 w4 ⟨q0,rfl,hnq0,hq0,hM4⟩
 have M4:Mem _ _ [_] _:=M3.seg 0 1 hM4
 refine eI Z Z (aB (aC (aE (aE (aA (dJ Z Z (wq (bW underlying29 Z) Z (aT Z Z (aB (aC (aS (dK (σ:=Nat × Row) [2,3,21,22] (fun (k,q)=>[(5,.slice q.A q.n q.c),(23,.int .i64 (k:Int))]) (fun (k,q) w'=>(k≤n∧q.n=8+40*k∧bA 5 1 q.A q.n q.c (((nD++dB (n:Int))++(xs.take k).flatMap oN).map aZ) q.e)∧Mem w [] [q.e] w') (fun (k,q)=>n - k) (0,q0) (bI Z (bI Z eC)) (⟨⟨by omega,hnq0,by rw [List.take_zero,List.flatMap_nil,List.append_nil];exact hq0⟩,M4⟩) ?_))))))))))))
 rintro ⟨k,q⟩ ρ5 w5 ⟨⟨hk,hqn,hq⟩,hM5⟩
 refine aE (aA (cV Z Z Z Z (aB (aC (aE ?_)))))
 refine aW Z (fun h24 => ?_) (fun h24 => ?_)
 ·obtain ⟨xb,hxb⟩:=cG (xs:=xs) (k:=k) hlen (by omega)
  have hxi:=bCl (hb xb (List.mem_of_getElem? hxb))
  refine aM (aC (aE (aS (aE (aA (wq (bG (k) dU Z Z Z ((R.mem hM5).below_len (aG aF hxb)) ((R.mem hM5).someK (aG aF hxb))) Z (wq (dQ _ bR (R.mem hM5) (aG aF hxb) Z) Z (aO gL hM5 Z Z (fun b6 w6 M6=>(bC 1 _ bR M6 Z Z Z Z Z (aP Z) Z (fun w7 M7=>(aB (aC (aE (aA (wq (aV 1 bR M7 Z Z Z) Z (dM bRb Z Z M7 (aUy _ xb) (fun w8 M8=>(aT Z Z (aB (aC (aS (dK (σ:=Nat × Row) [2,3,21,22,23,28] (fun (j,p)=>[(5,.slice p.A p.n p.c),(29,.int .i64 (j:Int))]) (fun (j,p) w'=>(j≤10∧p.n=q.n+4*j∧bA 5 1 p.A p.n p.c (((nD++dB (n:Int))++(xs.take k).flatMap oN++((aEk xb).take j).flatMap dB).map aZ) p.e)∧Mem w [] [p.e,(some b6,bc (aF xb) 39)] w') (fun (j,p)=>10 - j) (0,q) (bI Z (bI Z eC)) (⟨⟨by omega,by omega,by rw [List.take_zero,List.flatMap_nil,List.append_nil];exact hq⟩,M8⟩) ?_)))))))))))))))))))))))
  rintro ⟨j,p⟩ ρ9 w9 ⟨⟨hj,hpn,hp⟩,hM9⟩
  refine aE (aA (cV Z Z Z Z (aB (aC (aE ?_)))))
  refine aW Z (fun h30 => ?_) (fun h30 => ?_)
  ·obtain ⟨x,hx⟩:=cG (xs:=aEk xb) (k:=j) (n:=10) rfl (by omega)
   have hxr:=hxi x (List.mem_of_getElem? hx)
   refine aM (aC (aE (aS (aE (aA ?_)))))
   refine wq (aDh (j) (.int .u32 x) jS bZ Z Z (by omega) (by omega) Z (by rw [oY,List.getElem?_map,hx];rfl)) Z ?_
   refine bL Z Z (aB (aC (aA (dJ Z Z (aT Z Z (eJ bEw Z Z (aLf _ p _ hp x hxr (by first | omega | exact (show 4≤1048576 by decide)) (hM9.ownSeg 0 1)) ?_))))))
   rintro v10 w10 ⟨p2,rfl,hnp2,hp2,hM10⟩
   have M10:Mem _ _ [_,_] _:=hM9.seg 0 1 hM10
   refine eI Z Z (aB (cS (aC (aA (wq (bE Z Z (by omega) (by omega)) Z (aT Z Z (aB ?_)))))))
   refine bU (j+1,p2) (bI Z (bI Z eC)) (bX Z (bX Z (bX Z (bX Z (bX Z (bX Z gR)))))) ?_ ?_
   ·exact ⟨⟨by omega,by omega,by rw [bBp hx,← List.append_assoc];exact hp2⟩,M10⟩
   ·(show 10 - (j+1) < 10 - j;omega)
  ·obtain rfl:j=10:=by omega
   rw [List.take_of_length_le (show (aEk xb).length≤10 from Nat.le_refl _)] at hp
   refine cM (cZ (dF (eL (cS (aC (aA (wq (bE Z Z (by omega) (by omega)) Z (aT Z Z (aB ?_)))))))))
   refine bU (k+1,p) (bI Z (bI Z eC)) (bX Z (bX Z (bX Z (bX Z gR)))) ?_ ?_
   ·exact ⟨⟨by omega,by omega,by rw [aLm hxb,← bCk,← List.append_assoc];exact hp⟩,hM9.keep [true,false]⟩
   ·(show n - (k+1) < n - k;omega)
 ·obtain rfl:k=n:=by omega
  rw [List.take_of_length_le (by omega),← hlen] at hq
  refine cM (cZ (dF (eL (aC (aE (aA (dJ Z Z (eI Z Z (bL Z Z (aB (aC (aR (gE (.slice _ _ _) (.int _ _) Z Z ?_)))))))))))))
  exact ⟨q,Z,hq,hM5⟩
theorem aNq (w:World) (A:Option Addr) (n c:Nat) (ls:List Int) (R:Rd w 1 A n (ls.map aZ)) (hB:gU ls) (hcap:n≤c) (hn:n≤1048576) :
  Calls prog 54 #[.slice A n c] w (gY (fun v w'=>∃ r:Row,v=.tuple #[.slice r.A r.n r.c,.int .i64 (oM ls).2]∧bA 39 10 r.A r.n r.c (((oM ls).1).map aF) r.e∧Mem w [] [r.e] w')):=by
 have hlen:ls.length=n:=by simpa using R.len
 have hbd:=R.bound
 refine aI #[.tmp 2,.tmp 3] 58 func54 Z results54 ntmps54 Z ?_
 have M0:=Mem.refl w
 refine aE (aA (eI Z Z (bL Z Z (aB (aC (aE (aE (aA (dJ Z Z (wq (bW underlying31 Z) Z (cV Z Z Z Z (wq (aH (.bool (decide _)) Z) Z ?_))))))))))))
 refine dT 13 Z (fun g13 => ?_) (fun g13 => ?_)
 ·refine aQ Z Z (aQ Z Z (aQ Z Z (aQ Z Z (wq (bM true (.bool true) Z Z) Z (aB (aC (cE Z (aE (aA (eI Z Z (bL Z Z (aB (aC (aR (cK (gE (.slice _ _ _) (.int _ _) Z Z ?_))))))))))))))))
  have hd:=xF (l:=ls) (fun h=>by have:=h.1;omega)
  exact ⟨⟨none,0,0,(none,default)⟩,by rw [hd],by rw [hd];exact bA.nil _ _ _,(M0.keep []).dummy default⟩
 ·refine dJ Z Z (wq (fF (0) (4) gI Z Z ⟨_,Z⟩ (by omega) (by omega) (by omega)) Z (wq (aOu underlying31 underlying5 underlying9 (Rd.subB (R.mem M0) (0) (4) (by omega) (by omega) hcap) Z) Z (wq (aSp Z Z) Z (wq (bM false (.bool (decide _)) Z Z) Z (aB (aC ?_))))))
  refine aW Z (fun h18 => ?_) (fun h18 => ?_)
  ·refine aE (aA (eI Z Z (bL Z Z (aB (aC (aR (cK (gE (.slice _ _ _) (.int _ _) Z Z ?_))))))))
   have hd:=xF (l:=ls) (fun h=>((xV ((ls.drop 0).take (4 - 0)) (hB.sub 0 4) [66,73,76,49]).1 h18) (by rw [← sD];simpa using h.2.1))
   exact ⟨⟨none,0,0,(none,default)⟩,by rw [hd],by rw [hd];exact bA.nil _ _ _,(M0.keep []).dummy default⟩
  ·refine aM (aC (aE (aA (dJ Z Z (wq (fF (4) (((n:Nat):Int)) gI Z ⟨_,Z⟩ Z (by omega) (by omega) (by omega)) Z (dM vM Z Z M0 (kT _ _ _ _ ((ls.drop (4)).take (n - (4))) (Rd.subB (R.mem M0) (4) (n) (by omega) (by omega) hcap) (hB.sub _ _) (by omega)) (fun w1 M1 => ?_)))))))
   have hr4:=oC hB (a:=4) (by omega)
   obtain ⟨N,hN⟩:∃ N:Nat,eP ls 4=(N:Int):=⟨(eP ls 4).toNat,by omega⟩
   have hNl:N≤4294967295:=by omega
   refine aL 21 (.int .u32 (N:Int)) (iE ((gH (by omega)).trans hN)) (wq (bK yL underlying3 Z (fU _ (by omega) (by omega))) Z (bL Z Z (aB (aC (aE (aE (aA (dJ Z Z (wq (bW underlying31 Z) Z (aT Z Z (dM vN Z Z M1 (jN _ (N:Int) (by omega)) (fun w2 M2=>(cV Z Z Z Z (aB (aC ?_)))))))))))))))
   refine aW Z (fun h27 => ?_) (fun h27 => ?_)
   ·refine aE (aA (eI Z Z (bL Z Z (aB (aC (aR (cK (gE (.slice _ _ _) (.int _ _) Z Z ?_))))))))
    have hd:=xF (l:=ls) (fun h=>h27 (by have:=h.2.2;rw [hN] at this;omega))
    exact ⟨⟨none,0,0,(none,default)⟩,by rw [hd],by rw [hd];exact bA.nil _ _ _,(M2.keep []).dummy default⟩
   ·have hfm:aDp ls:=⟨by omega,by have h:=Decidable.not_not.1 (mt ((xV ((ls.drop 0).take (4 - 0)) (hB.sub 0 4) [66,73,76,49]).2) h18);rw [← sD] at h;simpa using h,by rw [hN];omega⟩
    refine aM (aC (aE (aA (eI Z Z ?_))))
    have M3:=M2.dummy default
    refine aB (aC (aE (aE (aA (aT Z Z (aT Z Z (aB (aC (aS (dK (σ:=Nat × Row) [0,2,3,28] (fun (i,q)=>[(5,.slice q.A q.n q.c),(29,.int .i64 (i:Int))]) (fun (i,q) w'=>(i≤N∧bA 39 10 q.A q.n q.c ((qD ls i).map aF) q.e)∧Mem w [] [q.e] w') (fun (i,q)=>N - i) (0,eN) (bI Z (bI Z eC)) (⟨⟨by omega,bA.nil _ _ _⟩,M3⟩) ?_))))))))))
    rintro ⟨i,q⟩ ρ4 w4 ⟨⟨hi,hq⟩,hM4⟩
    have hqn:(qD ls i).length=q.n:=by simpa using hq.1
    rw [aAh] at hqn
    refine aE (aA (cV Z Z Z Z (aB (aC (aE ?_)))))
    refine aW Z (fun h30 => ?_) (fun h30 => ?_)
    ·refine aM (aC (aE (aS (aE (aA (aT Z Z (bL Z Z (aB (aC (aE (aA (aO aPn hM4 Z Z (fun b5 w5 M5=>(aB (aC (aE (aE (aA (aT Z Z (aB (aC (aS (kC 11 (gD (aE (aA (cV Z Z Z Z (jU 33 Z (by first | decide | omega) (aB (aC (aE (cE Z (aM (aC (aE (aS (aE (aA (aT Z Z ?_)))))))))))))))))))))))))))))))))))))))
     refine bL Z Z (aB (aC (aA (aT Z Z (dJ Z Z (aT Z Z (dM vN Z Z M5 (jN _ (i:Int) (by omega)) (fun w6 M6=>(aT Z Z (wq (fO Z Z (by omega) (by omega)) Z (wq (bE Z Z (by omega) (by omega)) Z (aL 41 (.int .i64 ((8+40*i:Nat):Int)) (iE (by omega)) (wq (fF (((8+40*i:Nat):Int)) (((n:Nat):Int)) gI Z ⟨_,Z⟩ Z (by omega) (by omega) (by omega)) Z (dM vM Z Z M6 (kT _ _ _ _ ((ls.drop (8+40*i)).take (n - (8+40*i))) (Rd.subB (R.mem M6) (8+40*i) (n) (by omega) (by omega) hcap) (hB.sub _ _) (by omega)) (fun w7 M7 => ?_)))))))))))))))
     refine aL 43 (.int .u32 (eP ls (8+40*i))) (iE (gH (by omega))) (wq (cL (0) jS Z Z Z (by decide)) Z (dA 1 (.int _ _) bZ M7 Z Z Z Z Z Z (fun w8 M8=>(aB (cS (aC (aA (wq (bE Z Z (by first | decide | omega) (by first | decide | omega)) Z (aL 45 (.int .i64 1) (iE (by first | decide | omega)) (aT Z Z (aB (aC (gD (eM (fr:=[(0,.slice _ _ _),(2,.slice _ _ _),(3,.int .i64 0),(5,.slice _ _ _),(6,.int _ _),(7,.pointer _),(8,.int .i64 0),(28,.int _ _),(29,.int _ _),(32,.int .i64 1)]) (bI Z (bI Z (bI Z (bI Z (bI Z (bI Z (bI Z (bI Z (bI Z (bI Z eC)))))))))) (fun ρ9 => ?_)))))))))))))))
     refine aE (aA (cV Z Z Z Z (jU 33 Z (by first | decide | omega) (aB (aC (aE (cE Z (aM (aC (aE (aS (aE (aA (aT Z Z (bL Z Z (aB (aC (aA (aT Z Z (dJ Z Z (aT Z Z (dM vN Z Z M8 (jN _ (i:Int) (by omega)) (fun w10 M10=>(aT Z Z (wq (fO Z Z (by omega) (by omega)) Z (wq (bE Z Z (by omega) (by omega)) Z ?_))))))))))))))))))))))))))
     refine aL 41 (.int .i64 ((8+40*i+4:Nat):Int)) (iE (by omega)) (wq (fF (((8+40*i+4:Nat):Int)) (((n:Nat):Int)) gI Z ⟨_,Z⟩ Z (by omega) (by omega) (by omega)) Z (dM vM Z Z M10 (kT _ _ _ _ ((ls.drop (8+40*i+4)).take (n - (8+40*i+4))) (Rd.subB (R.mem M10) (8+40*i+4) (n) (by omega) (by omega) hcap) (hB.sub _ _) (by omega)) (fun w11 M11=>(aL 43 (.int .u32 (eP ls (8+40*i+4))) (iE (gH (by omega))) (wq (cL (1) jS Z Z Z (by decide)) Z (dA 1 (.int _ _) bZ M11 Z Z Z Z Z Z (fun w12 M12 => ?_)))))))
     refine aB (cS (aC (aA (wq (bE Z Z (by first | decide | omega) (by first | decide | omega)) Z (aL 45 (.int .i64 2) (iE (by first | decide | omega)) (aT Z Z (aB (aC (gD (eM (fr:=[(0,.slice _ _ _),(2,.slice _ _ _),(3,.int .i64 0),(5,.slice _ _ _),(6,.int _ _),(7,.pointer _),(8,.int .i64 1),(28,.int _ _),(29,.int _ _),(32,.int .i64 2)]) (bI Z (bI Z (bI Z (bI Z (bI Z (bI Z (bI Z (bI Z (bI Z (bI Z eC)))))))))) (fun ρ13=>(aE (aA (cV Z Z Z Z (jU 33 Z (by first | decide | omega) (aB (aC (aE ?_))))))))))))))))))
     refine cE Z (aM (aC (aE (aS (aE (aA (aT Z Z (bL Z Z (aB (aC (aA (aT Z Z (dJ Z Z (aT Z Z (dM vN Z Z M12 (jN _ (i:Int) (by omega)) (fun w14 M14=>(aT Z Z (wq (fO Z Z (by omega) (by omega)) Z (wq (bE Z Z (by omega) (by omega)) Z (aL 41 (.int .i64 ((8+40*i+8:Nat):Int)) (iE (by omega)) (wq (fF (((8+40*i+8:Nat):Int)) (((n:Nat):Int)) gI Z ⟨_,Z⟩ Z (by omega) (by omega) (by omega)) Z (dM vM Z Z M14 (kT _ _ _ _ ((ls.drop (8+40*i+8)).take (n - (8+40*i+8))) (Rd.subB (R.mem M14) (8+40*i+8) (n) (by omega) (by omega) hcap) (hB.sub _ _) (by omega)) (fun w15 M15 => ?_)))))))))))))))))))))))
     refine aL 43 (.int .u32 (eP ls (8+40*i+8))) (iE (gH (by omega))) (wq (cL (2) jS Z Z Z (by decide)) Z (dA 1 (.int _ _) bZ M15 Z Z Z Z Z Z (fun w16 M16=>(aB (cS (aC (aA (wq (bE Z Z (by first | decide | omega) (by first | decide | omega)) Z (aL 45 (.int .i64 3) (iE (by first | decide | omega)) (aT Z Z (aB (aC (gD (eM (fr:=[(0,.slice _ _ _),(2,.slice _ _ _),(3,.int .i64 0),(5,.slice _ _ _),(6,.int _ _),(7,.pointer _),(8,.int .i64 2),(28,.int _ _),(29,.int _ _),(32,.int .i64 3)]) (bI Z (bI Z (bI Z (bI Z (bI Z (bI Z (bI Z (bI Z (bI Z (bI Z eC)))))))))) (fun ρ17 => ?_)))))))))))))))
     refine aE (aA (cV Z Z Z Z (jU 33 Z (by first | decide | omega) (aB (aC (aE (cE Z (aM (aC (aE (aS (aE (aA (aT Z Z (bL Z Z (aB (aC (aA (aT Z Z (dJ Z Z (aT Z Z (dM vN Z Z M16 (jN _ (i:Int) (by omega)) (fun w18 M18=>(aT Z Z (wq (fO Z Z (by omega) (by omega)) Z (wq (bE Z Z (by omega) (by omega)) Z ?_))))))))))))))))))))))))))
     refine aL 41 (.int .i64 ((8+40*i+12:Nat):Int)) (iE (by omega)) (wq (fF (((8+40*i+12:Nat):Int)) (((n:Nat):Int)) gI Z ⟨_,Z⟩ Z (by omega) (by omega) (by omega)) Z (dM vM Z Z M18 (kT _ _ _ _ ((ls.drop (8+40*i+12)).take (n - (8+40*i+12))) (Rd.subB (R.mem M18) (8+40*i+12) (n) (by omega) (by omega) hcap) (hB.sub _ _) (by omega)) (fun w19 M19=>(aL 43 (.int .u32 (eP ls (8+40*i+12))) (iE (gH (by omega))) (wq (cL (3) jS Z Z Z (by decide)) Z (dA 1 (.int _ _) bZ M19 Z Z Z Z Z Z (fun w20 M20 => ?_)))))))
     refine aB (cS (aC (aA (wq (bE Z Z (by first | decide | omega) (by first | decide | omega)) Z (aL 45 (.int .i64 4) (iE (by first | decide | omega)) (aT Z Z (aB (aC (gD (eM (fr:=[(0,.slice _ _ _),(2,.slice _ _ _),(3,.int .i64 0),(5,.slice _ _ _),(6,.int _ _),(7,.pointer _),(8,.int .i64 3),(28,.int _ _),(29,.int _ _),(32,.int .i64 4)]) (bI Z (bI Z (bI Z (bI Z (bI Z (bI Z (bI Z (bI Z (bI Z (bI Z eC)))))))))) (fun ρ21=>(aE (aA (cV Z Z Z Z (jU 33 Z (by first | decide | omega) (aB (aC (aE ?_))))))))))))))))))
     refine cE Z (aM (aC (aE (aS (aE (aA (aT Z Z (bL Z Z (aB (aC (aA (aT Z Z (dJ Z Z (aT Z Z (dM vN Z Z M20 (jN _ (i:Int) (by omega)) (fun w22 M22=>(aT Z Z (wq (fO Z Z (by omega) (by omega)) Z (wq (bE Z Z (by omega) (by omega)) Z (aL 41 (.int .i64 ((8+40*i+16:Nat):Int)) (iE (by omega)) (wq (fF (((8+40*i+16:Nat):Int)) (((n:Nat):Int)) gI Z ⟨_,Z⟩ Z (by omega) (by omega) (by omega)) Z (dM vM Z Z M22 (kT _ _ _ _ ((ls.drop (8+40*i+16)).take (n - (8+40*i+16))) (Rd.subB (R.mem M22) (8+40*i+16) (n) (by omega) (by omega) hcap) (hB.sub _ _) (by omega)) (fun w23 M23 => ?_)))))))))))))))))))))))
     refine aL 43 (.int .u32 (eP ls (8+40*i+16))) (iE (gH (by omega))) (wq (cL (4) jS Z Z Z (by decide)) Z (dA 1 (.int _ _) bZ M23 Z Z Z Z Z Z (fun w24 M24=>(aB (cS (aC (aA (wq (bE Z Z (by first | decide | omega) (by first | decide | omega)) Z (aL 45 (.int .i64 5) (iE (by first | decide | omega)) (aT Z Z (aB (aC (gD (eM (fr:=[(0,.slice _ _ _),(2,.slice _ _ _),(3,.int .i64 0),(5,.slice _ _ _),(6,.int _ _),(7,.pointer _),(8,.int .i64 4),(28,.int _ _),(29,.int _ _),(32,.int .i64 5)]) (bI Z (bI Z (bI Z (bI Z (bI Z (bI Z (bI Z (bI Z (bI Z (bI Z eC)))))))))) (fun ρ25 => ?_)))))))))))))))
     refine aE (aA (cV Z Z Z Z (jU 33 Z (by first | decide | omega) (aB (aC (aE (cE Z (aM (aC (aE (aS (aE (aA (aT Z Z (bL Z Z (aB (aC (aA (aT Z Z (dJ Z Z (aT Z Z (dM vN Z Z M24 (jN _ (i:Int) (by omega)) (fun w26 M26=>(aT Z Z (wq (fO Z Z (by omega) (by omega)) Z (wq (bE Z Z (by omega) (by omega)) Z ?_))))))))))))))))))))))))))
     refine aL 41 (.int .i64 ((8+40*i+20:Nat):Int)) (iE (by omega)) (wq (fF (((8+40*i+20:Nat):Int)) (((n:Nat):Int)) gI Z ⟨_,Z⟩ Z (by omega) (by omega) (by omega)) Z (dM vM Z Z M26 (kT _ _ _ _ ((ls.drop (8+40*i+20)).take (n - (8+40*i+20))) (Rd.subB (R.mem M26) (8+40*i+20) (n) (by omega) (by omega) hcap) (hB.sub _ _) (by omega)) (fun w27 M27=>(aL 43 (.int .u32 (eP ls (8+40*i+20))) (iE (gH (by omega))) (wq (cL (5) jS Z Z Z (by decide)) Z (dA 1 (.int _ _) bZ M27 Z Z Z Z Z Z (fun w28 M28 => ?_)))))))
     refine aB (cS (aC (aA (wq (bE Z Z (by first | decide | omega) (by first | decide | omega)) Z (aL 45 (.int .i64 6) (iE (by first | decide | omega)) (aT Z Z (aB (aC (gD (eM (fr:=[(0,.slice _ _ _),(2,.slice _ _ _),(3,.int .i64 0),(5,.slice _ _ _),(6,.int _ _),(7,.pointer _),(8,.int .i64 5),(28,.int _ _),(29,.int _ _),(32,.int .i64 6)]) (bI Z (bI Z (bI Z (bI Z (bI Z (bI Z (bI Z (bI Z (bI Z (bI Z eC)))))))))) (fun ρ29=>(aE (aA (cV Z Z Z Z (jU 33 Z (by first | decide | omega) (aB (aC (aE ?_))))))))))))))))))
     refine cE Z (aM (aC (aE (aS (aE (aA (aT Z Z (bL Z Z (aB (aC (aA (aT Z Z (dJ Z Z (aT Z Z (dM vN Z Z M28 (jN _ (i:Int) (by omega)) (fun w30 M30=>(aT Z Z (wq (fO Z Z (by omega) (by omega)) Z (wq (bE Z Z (by omega) (by omega)) Z (aL 41 (.int .i64 ((8+40*i+24:Nat):Int)) (iE (by omega)) (wq (fF (((8+40*i+24:Nat):Int)) (((n:Nat):Int)) gI Z ⟨_,Z⟩ Z (by omega) (by omega) (by omega)) Z (dM vM Z Z M30 (kT _ _ _ _ ((ls.drop (8+40*i+24)).take (n - (8+40*i+24))) (Rd.subB (R.mem M30) (8+40*i+24) (n) (by omega) (by omega) hcap) (hB.sub _ _) (by omega)) (fun w31 M31 => ?_)))))))))))))))))))))))
     refine aL 43 (.int .u32 (eP ls (8+40*i+24))) (iE (gH (by omega))) (wq (cL (6) jS Z Z Z (by decide)) Z (dA 1 (.int _ _) bZ M31 Z Z Z Z Z Z (fun w32 M32=>(aB (cS (aC (aA (wq (bE Z Z (by first | decide | omega) (by first | decide | omega)) Z (aL 45 (.int .i64 7) (iE (by first | decide | omega)) (aT Z Z (aB (aC (gD (eM (fr:=[(0,.slice _ _ _),(2,.slice _ _ _),(3,.int .i64 0),(5,.slice _ _ _),(6,.int _ _),(7,.pointer _),(8,.int .i64 6),(28,.int _ _),(29,.int _ _),(32,.int .i64 7)]) (bI Z (bI Z (bI Z (bI Z (bI Z (bI Z (bI Z (bI Z (bI Z (bI Z eC)))))))))) (fun ρ33 => ?_)))))))))))))))
     refine aE (aA (cV Z Z Z Z (jU 33 Z (by first | decide | omega) (aB (aC (aE (cE Z (aM (aC (aE (aS (aE (aA (aT Z Z (bL Z Z (aB (aC (aA (aT Z Z (dJ Z Z (aT Z Z (dM vN Z Z M32 (jN _ (i:Int) (by omega)) (fun w34 M34=>(aT Z Z (wq (fO Z Z (by omega) (by omega)) Z (wq (bE Z Z (by omega) (by omega)) Z ?_))))))))))))))))))))))))))
     refine aL 41 (.int .i64 ((8+40*i+28:Nat):Int)) (iE (by omega)) (wq (fF (((8+40*i+28:Nat):Int)) (((n:Nat):Int)) gI Z ⟨_,Z⟩ Z (by omega) (by omega) (by omega)) Z (dM vM Z Z M34 (kT _ _ _ _ ((ls.drop (8+40*i+28)).take (n - (8+40*i+28))) (Rd.subB (R.mem M34) (8+40*i+28) (n) (by omega) (by omega) hcap) (hB.sub _ _) (by omega)) (fun w35 M35=>(aL 43 (.int .u32 (eP ls (8+40*i+28))) (iE (gH (by omega))) (wq (cL (7) jS Z Z Z (by decide)) Z (dA 1 (.int _ _) bZ M35 Z Z Z Z Z Z (fun w36 M36 => ?_)))))))
     refine aB (cS (aC (aA (wq (bE Z Z (by first | decide | omega) (by first | decide | omega)) Z (aL 45 (.int .i64 8) (iE (by first | decide | omega)) (aT Z Z (aB (aC (gD (eM (fr:=[(0,.slice _ _ _),(2,.slice _ _ _),(3,.int .i64 0),(5,.slice _ _ _),(6,.int _ _),(7,.pointer _),(8,.int .i64 7),(28,.int _ _),(29,.int _ _),(32,.int .i64 8)]) (bI Z (bI Z (bI Z (bI Z (bI Z (bI Z (bI Z (bI Z (bI Z (bI Z eC)))))))))) (fun ρ37=>(aE (aA (cV Z Z Z Z (jU 33 Z (by first | decide | omega) (aB (aC (aE ?_))))))))))))))))))
     refine cE Z (aM (aC (aE (aS (aE (aA (aT Z Z (bL Z Z (aB (aC (aA (aT Z Z (dJ Z Z (aT Z Z (dM vN Z Z M36 (jN _ (i:Int) (by omega)) (fun w38 M38=>(aT Z Z (wq (fO Z Z (by omega) (by omega)) Z (wq (bE Z Z (by omega) (by omega)) Z (aL 41 (.int .i64 ((8+40*i+32:Nat):Int)) (iE (by omega)) (wq (fF (((8+40*i+32:Nat):Int)) (((n:Nat):Int)) gI Z ⟨_,Z⟩ Z (by omega) (by omega) (by omega)) Z (dM vM Z Z M38 (kT _ _ _ _ ((ls.drop (8+40*i+32)).take (n - (8+40*i+32))) (Rd.subB (R.mem M38) (8+40*i+32) (n) (by omega) (by omega) hcap) (hB.sub _ _) (by omega)) (fun w39 M39 => ?_)))))))))))))))))))))))
     refine aL 43 (.int .u32 (eP ls (8+40*i+32))) (iE (gH (by omega))) (wq (cL (8) jS Z Z Z (by decide)) Z (dA 1 (.int _ _) bZ M39 Z Z Z Z Z Z (fun w40 M40=>(aB (cS (aC (aA (wq (bE Z Z (by first | decide | omega) (by first | decide | omega)) Z (aL 45 (.int .i64 9) (iE (by first | decide | omega)) (aT Z Z (aB (aC (gD (eM (fr:=[(0,.slice _ _ _),(2,.slice _ _ _),(3,.int .i64 0),(5,.slice _ _ _),(6,.int _ _),(7,.pointer _),(8,.int .i64 8),(28,.int _ _),(29,.int _ _),(32,.int .i64 9)]) (bI Z (bI Z (bI Z (bI Z (bI Z (bI Z (bI Z (bI Z (bI Z (bI Z eC)))))))))) (fun ρ41 => ?_)))))))))))))))
     refine aE (aA (cV Z Z Z Z (jU 33 Z (by first | decide | omega) (aB (aC (aE (cE Z (aM (aC (aE (aS (aE (aA (aT Z Z (bL Z Z (aB (aC (aA (aT Z Z (dJ Z Z (aT Z Z (dM vN Z Z M40 (jN _ (i:Int) (by omega)) (fun w42 M42=>(aT Z Z (wq (fO Z Z (by omega) (by omega)) Z (wq (bE Z Z (by omega) (by omega)) Z ?_))))))))))))))))))))))))))
     refine aL 41 (.int .i64 ((8+40*i+36:Nat):Int)) (iE (by omega)) (wq (fF (((8+40*i+36:Nat):Int)) (((n:Nat):Int)) gI Z ⟨_,Z⟩ Z (by omega) (by omega) (by omega)) Z (dM vM Z Z M42 (kT _ _ _ _ ((ls.drop (8+40*i+36)).take (n - (8+40*i+36))) (Rd.subB (R.mem M42) (8+40*i+36) (n) (by omega) (by omega) hcap) (hB.sub _ _) (by omega)) (fun w43 M43=>(aL 43 (.int .u32 (eP ls (8+40*i+36))) (iE (gH (by omega))) (wq (cL (9) jS Z Z Z (by decide)) Z (dA 1 (.int _ _) bZ M43 Z Z Z Z Z Z (fun w44 M44 => ?_)))))))
     refine aB (cS (aC (aA (wq (bE Z Z (by first | decide | omega) (by first | decide | omega)) Z (aL 45 (.int .i64 10) (iE (by first | decide | omega)) (aT Z Z (aB (aC (gD (eM (fr:=[(0,.slice _ _ _),(2,.slice _ _ _),(3,.int .i64 0),(5,.slice _ _ _),(6,.int _ _),(7,.pointer _),(8,.int .i64 9),(28,.int _ _),(29,.int _ _),(32,.int .i64 10)]) (bI Z (bI Z (bI Z (bI Z (bI Z (bI Z (bI Z (bI Z (bI Z (bI Z eC)))))))))) (fun ρ45=>(aE (aA (cV Z Z Z Z (nP 33 Z (by first | decide | omega) (aB (aC (aE ?_))))))))))))))))))
     refine cB rfl (cM (cZ (cZ (eL (aC (aA (dJ rfl rfl (wq (aV 1 aTz M44 rfl rfl rfl) rfl (dM bXa rfl rfl M44 (aNs _ _ _ _ _ _ _ _ _ _ _ (bXy hB (a:=8+40*i) (by omega))) (fun w46 M46=>(aL 48 ((.agg (aF (nA ls (8+40*i))).toArray)) rfl (bV [.agg (List.toArray _)] [aF (nA ls (8+40*i))] rfl dU M46 rfl rfl rfl rfl (cO rfl) (by decide) (fun b47 w47 M47=>(cP 0 [aF (nA ls (8+40*i))] dU M47 rfl rfl rfl rfl rfl hq rfl (by simp [aF,Go.Bil.one]) (dN.ofMem 2 M47 rfl) (by omega) (fun A48 c48 e48 w48 M48 hR48 => ?_)))))))))))))))
     refine eI Z Z (aB (cS (aC (aA (wq (bE Z Z (by omega) (by omega)) Z (aT Z Z (aB ?_)))))))
     refine bU (i+1,⟨A48,q.n+1,c48,e48⟩) (bI Z (bI Z eC)) (bX Z (bX Z (bX Z (bX Z gR)))) ?_ ?_
     ·exact ⟨⟨by omega,by rw [aLj,List.map_append];exact hR48⟩,M48.keep [true,false,false]⟩
     ·(show N - (i+1) < N - i;omega)
    ·obtain rfl:i=N:=by omega
     refine cM (cZ (dF (eL (aC (aE (aE (aA (dJ Z Z (eJ bPs Z Z (aJi _ _ _ _ (qD ls i) (hq.rd hM4 (aN (i:=0) Z))) ?_)))))))))
     rintro v49 w49 ⟨rfl,hb49⟩
     have M49:=hM4.callB hb49
     refine bL Z Z (aB (aC (aE (aA (aT Z Z (cV Z Z Z Z (aB (aC ?_))))))))
     refine aW Z (fun h55 => ?_) (fun h55 => ?_)
     ·refine aE (aA (aT Z Z (eI Z Z (bL Z Z (aB (aC (aR (cK (gE (.slice _ _ _) (.int _ _) Z Z ?_)))))))))
      have hd:=aYk hfm hN h55
      exact ⟨⟨none,0,0,(none,default)⟩,by rw [hd],by rw [hd];exact bA.nil _ _ _,(M49.keep [false]).dummy default⟩
     ·refine aM (aC (aE (aA (dJ Z Z (eI Z Z (bL Z Z (aB (aC (aR (gE (.slice _ _ _) (.int _ _) Z Z ?_))))))))))
      have hd:=aQw hfm hN (Decidable.not_not.1 h55)
      exact ⟨q,by rw [hd],by rw [hd];exact hq,M49⟩
theorem jP (w:World) (n:Int) (hn : -2147483648≤n∧n≤4294967295) :
  Calls prog 59 #[.int .i64 n] w (gY (fun v w'=>∃ q:Row,v=.slice q.A q.n q.c∧q.n=4∧bA 5 1 q.A q.n q.c ((dB n).map aZ) q.e∧Mem w [] [q.e] w')):=by
 obtain ⟨m,hm⟩:∃ m,m=n % 4294967296:=⟨_,rfl⟩
 have hmr:0≤m∧m≤4294967296:=by omega
 have hwm:dB m=dB n:=by rw [hm];exact yB n
 refine aI #[.tmp 2] 19 func59 Z results59 ntmps59 Z ?_
 have M0:=Mem.refl w
 refine aE (aA (eI Z Z (aB (aC (aE (aE (aA (aT Z Z (cV Z Z Z Z (aB (aC ?_)))))))))))
 refine aW Z (fun h4 => ?_) (fun h4 => ?_)
 ·refine aA (aT Z Z (wq (bE Z Z (by omega) (by omega)) Z (aL 6 (.int .i64 m) (iE (by omega)) (bL Z Z (aB (aC (aE (aA (aT Z Z (aL 7 (.int .i64 m) (iE (by omega)) (wq (gO Z Z (by decide)) Z (aL 8 (.int .i64 (m / 16777216)) (iE (uA (by omega) (by omega))) (wq (dL nU underlying5 Z) Z (aL 9 (.int .u8 (m / 16777216 % 256)) (iE (wr8 _)) (aT Z Z (aL 10 (.int .i64 m) (iE (by omega)) (wq (gO Z Z (by decide)) Z (aL 11 (.int .i64 (m / 65536)) (iE (uA (by omega) (by omega))) ?_))))))))))))))))))
  refine wq (dL nU underlying5 Z) Z (aL 12 (.int .u8 (m / 65536 % 256)) (iE (wr8 _)) (aT Z Z (aL 13 (.int .i64 m) (iE (by omega)) (wq (gO Z Z (by decide)) Z (aL 14 (.int .i64 (m / 256)) (iE (uA (by omega) (by omega))) (wq (dL nU underlying5 Z) Z (aL 15 (.int .u8 (m / 256 % 256)) (iE (wr8 _)) (aT Z Z (aL 16 (.int .i64 m) (iE (by omega)) (wq (dL nU underlying5 Z) Z (aL 17 (.int .u8 (m % 256)) (iE (wr8 _)) (bV [.int _ _,.int _ _,.int _ _,.int _ _] ((dB m).map aZ) Z gI M0 Z Z Z Z (cO Z) (by decide) (fun b1 w1 M1 => ?_)))))))))))))
  have hlit18:=lV (T:=5) (b:=b1) ((dB m).map aZ) (uD _) rfl (show 4≤281474976710656 by decide)
  refine eI Z Z (aB (aC (aR (cF (.slice _ _ _) Z ?_))))
  exact ⟨⟨some ⟨b1,0,none⟩,4,4,_⟩,Z,Z,by rw [← hwm];exact hlit18,M1⟩
 ·refine aM (aC (aE (aA (aT Z Z (aL 7 (.int .i64 m) (iE (by omega)) (wq (gO Z Z (by decide)) Z (aL 8 (.int .i64 (m / 16777216)) (iE (uA (by omega) (by omega))) (wq (dL nU underlying5 Z) Z (aL 9 (.int .u8 (m / 16777216 % 256)) (iE (wr8 _)) (aT Z Z (aL 10 (.int .i64 m) (iE (by omega)) (wq (gO Z Z (by decide)) Z (aL 11 (.int .i64 (m / 65536)) (iE (uA (by omega) (by omega))) (wq (dL nU underlying5 Z) Z (aL 12 (.int .u8 (m / 65536 % 256)) (iE (wr8 _)) (aT Z Z (aL 13 (.int .i64 m) (iE (by omega)) (wq (gO Z Z (by decide)) Z ?_))))))))))))))))))
  refine aL 14 (.int .i64 (m / 256)) (iE (uA (by omega) (by omega))) (wq (dL nU underlying5 Z) Z (aL 15 (.int .u8 (m / 256 % 256)) (iE (wr8 _)) (aT Z Z (aL 16 (.int .i64 m) (iE (by omega)) (wq (dL nU underlying5 Z) Z (aL 17 (.int .u8 (m % 256)) (iE (wr8 _)) (bV [.int _ _,.int _ _,.int _ _,.int _ _] ((dB m).map aZ) Z gI M0 Z Z Z Z (cO Z) (by decide) (fun b2 w2 M2 => ?_))))))))
  have hlit18:=lV (T:=5) (b:=b2) ((dB m).map aZ) (uD _) rfl (show 4≤281474976710656 by decide)
  refine eI Z Z (aB (aC (aR (cF (.slice _ _ _) Z ?_))))
  exact ⟨⟨some ⟨b2,0,none⟩,4,4,_⟩,Z,Z,by rw [← hwm];exact hlit18,M2⟩
theorem uS (w:World) (A:Option Addr) (n c:Nat) (ls:List Int) (R:Rd w 1 A n (ls.map aZ)) (hB:gU ls) (h4:4≤n) :
  Calls prog 133 #[.slice A n c] w (Rb w (.int .i64 (eP ls 0))):=by
 have hlen:ls.length=n:=by simpa using R.len
 have hbd:=R.bound
 obtain ⟨x0,hx0⟩:=cG (xs:=ls) (k:=0) hlen (by omega)
 obtain ⟨x1,hx1⟩:=cG (xs:=ls) (k:=1) hlen (by omega)
 obtain ⟨x2,hx2⟩:=cG (xs:=ls) (k:=2) hlen (by omega)
 obtain ⟨x3,hx3⟩:=cG (xs:=ls) (k:=3) hlen (by omega)
 obtain ⟨g0,g1⟩:=hB x0 (List.mem_of_getElem? hx0)
 obtain ⟨g2,g3⟩:=hB x1 (List.mem_of_getElem? hx1)
 obtain ⟨g4,g5⟩:=hB x2 (List.mem_of_getElem? hx2)
 obtain ⟨g6,g7⟩:=hB x3 (List.mem_of_getElem? hx3)
 have hnum:eP ls 0=((x0*256+x1)*256+x2)*256+x3:=by unfold eP;simp only [List.getD_eq_getElem?_getD,Nat.zero_add,hx0,hx1,hx2,hx3,Option.getD_some]
 refine aI #[.tmp 2] 25 func133 Z results133 ntmps133 Z ?_
 have M0:=Mem.refl w
 refine aE (aA (bL Z Z (aB (aC (aE (gJ [(0,0),(1,1),(2,1),(3,0),(4,0),(5,0),(6,1),(7,1),(8,0),(9,0),(10,0),(11,0),(12,1),(13,1),(14,0),(15,0),(16,0),(17,0),(18,1),(19,1),(20,0),(21,0),(22,0)] mixed M0 Z (by kernel_rfl) (fun w1 M1=>(kB Z Z Z (bQ Z Z Z (bG (0) gI Z Z Z ((R.mem M1).below_len (aG aZ hx0)) ((R.mem M1).someK (aG aZ hx0))) (bQ Z Z Z (fG (.int _ _) vE (R.mem M1) (aG aZ hx0) Z) (aX Z Z Z (fun _=>bK us5 underlying2 Z (fU _ (by omega) (by omega))) ?_)))))))))))
 refine aX Z Z Z (fun _=>fO Z Z (by omega) (by omega)) (kB Z Z Z (bQ Z Z Z (bG (1) gI Z Z Z ((R.mem M1).below_len (aG aZ hx1)) ((R.mem M1).someK (aG aZ hx1))) (bQ Z Z Z (fG (.int _ _) vE (R.mem M1) (aG aZ hx1) Z) (aX Z Z Z (fun _=>bK us5 underlying2 Z (fU _ (by omega) (by omega))) (aX Z Z Z (fun _=>bE Z Z (by omega) (by omega)) (aX Z Z Z (fun _=>fO Z Z (by omega) (by omega)) (kB Z Z Z (bQ Z Z Z (bG (2) gI Z Z Z ((R.mem M1).below_len (aG aZ hx2)) ((R.mem M1).someK (aG aZ hx2))) ?_))))))))
 refine bQ Z Z Z (fG (.int _ _) vE (R.mem M1) (aG aZ hx2) Z) (aX Z Z Z (fun _=>bK us5 underlying2 Z (fU _ (by omega) (by omega))) (aX Z Z Z (fun _=>bE Z Z (by omega) (by omega)) (aX Z Z Z (fun _=>fO Z Z (by omega) (by omega)) (kB Z Z Z (bQ Z Z Z (bG (3) gI Z Z Z ((R.mem M1).below_len (aG aZ hx3)) ((R.mem M1).someK (aG aZ hx3))) (bQ Z Z Z (fG (.int _ _) vE (R.mem M1) (aG aZ hx3) Z) (aX Z Z Z (fun _=>bK us5 underlying2 Z (fU _ (by omega) (by omega))) ?_)))))))
 refine aX Z Z Z (fun _=>bE Z Z (by omega) (by omega)) (nV Z Z Z (bS (aC (aR (cF (.int _ _) Z ?_)))))
 exact ⟨iE (by rw [hnum]),M1.below⟩
theorem jG (w:World) (A:Option Addr) (n c:Nat) (ls:List Int) (R:Rd w 1 A n (ls.map aZ)) (hB:gU ls) (h4:4≤n) :
  Calls prog 134 #[.slice A n c] w (Rb w (.int .i32 (lX (eP ls 0)))):=by
 have hlen:ls.length=n:=by simpa using R.len
 have hbd:=R.bound
 obtain ⟨hr1,hr2,_⟩:=oC hB (a:=0) (by omega)
 have hsg:=pL ⟨hr1,hr2⟩
 refine aI #[.tmp 2] 12 func134 Z results134 ntmps134 Z ?_
 have M0:=Mem.refl w
 refine aE (aA (bL Z Z (aB (aC (aE (aA (dJ Z Z (dM aUi Z Z M0 (uS _ A n c ls (R.mem M0) hB h4) (fun w1 M1=>(bL Z Z (aB (aC (aE (aE (aA (aT Z Z (cV Z Z Z Z (aB (aC ?_)))))))))))))))))))
 refine aW Z (fun h7 => ?_) (fun h7 => ?_)
 ·refine aA (aT Z Z (wq (gX Z Z (by omega) (by omega)) Z (bL Z Z (aB (aC (aE (aA (aT Z Z (wq (dL nU underlying21 Z) Z (aL 11 (.int .i32 (lX (eP ls 0))) (iE (by first | (rw [show eP ls 0 - 4294967296=lX (eP ls 0) by unfold lX;rw [if_pos (by omega)]];exact kM _ (by omega) (by omega)) | (rw [show lX (eP ls 0)=eP ls 0 by unfold lX;rw [if_neg (by omega)]];exact kM _ (by omega) (by omega)))) (bL Z Z (aB (aC (aR (cF (.int _ _) Z ?_)))))))))))))))
  exact ⟨Z,M1.below⟩
 ·refine aM (aC (aE (aA (aT Z Z (wq (dL nU underlying21 Z) Z (aL 11 (.int .i32 (lX (eP ls 0))) (iE (by first | (rw [show eP ls 0 - 4294967296=lX (eP ls 0) by unfold lX;rw [if_pos (by omega)]];exact kM _ (by omega) (by omega)) | (rw [show lX (eP ls 0)=eP ls 0 by unfold lX;rw [if_neg (by omega)]];exact kM _ (by omega) (by omega)))) (bL Z Z (aB (aC (aR (cF (.int _ _) Z ?_)))))))))))
  exact ⟨Z,M1.below⟩
theorem rI (w:World) (A:Option Addr) (n c:Nat) (xs:List Int) (R:Rd w 1 A n (xs.map aZ)) (B:Option Addr) (m c':Nat) (ys:List Int) (R':Rd w 1 B m (ys.map aZ)) :
  Calls prog 23 #[.slice A n c,.slice B m c'] w (Rb w (.bool (decide (xs=ys)))):=by
 have hlen:xs.length=n:=by simpa using R.len
 have hlen':ys.length=m:=by simpa using R'.len
 have hbd:=R.bound
 have hbd':=R'.bound
 refine aI #[.tmp 4] 26 func23 Z results23 ntmps23 Z ?_
 have M0:=Mem.refl w
 refine aE (aA (wq (aJ (.bool false) Z) Z (aB (aC (aE (aE (aA (dJ Z Z (wq (bW underlying31 Z) Z (dJ Z Z (wq (bW underlying31 Z) Z (cV Z Z Z Z (aB (aC ?_))))))))))))))
 refine aW Z (fun h10 => ?_) (fun h10 => ?_)
 ·refine aE (aA (wq (aJ (.bool false) Z) Z (aB (aC (aR (cK (cF (.bool false) Z ?_)))))))
  exact ⟨bF (fun e=>h10 (by rw [← hlen,← hlen',e])),M0.below⟩
 ·have hnm:n=m:=by omega
  refine aM (aC (aE (aE (aA (bL Z Z (aB (aC (aS (dK (σ:=Nat) [0,1] (fun k=>[(5,.int .i64 (k:Int))]) (fun k w'=>(k≤n∧∀ (j:Nat) (x:Int),j < k→xs[j]? = some x→ys[j]? = some x)∧Mem w [] [] w') (fun k=>n - k) 0 (bI Z eC) (⟨⟨by omega,fun j c hj=>by omega⟩,M0⟩) ?_)))))))))
  rintro k ρ1 w1 ⟨⟨hk,hne⟩,hM1⟩
  refine aE (aE (aA (aT Z Z (dJ Z Z (wq (bW underlying31 Z) Z (cV Z Z Z Z (aB (aC ?_))))))))
  refine aW Z (fun h14 => ?_) (fun h14 => ?_)
  ·obtain ⟨xb,hxb⟩:=cG (xs:=xs) (k:=k) hlen (by omega)
   obtain ⟨yb,hyb⟩:=cG (xs:=ys) (k:=k) hlen' (by omega)
   refine aM (aC (aE (aS (aE (kY [(0,0),(1,0),(2,1),(3,1),(4,0),(5,0),(6,1),(7,1),(8,0)] mixed Z (by kernel_rfl) (fun w2 hb2 hh2 => ?_))))))
   have M2:=hM1.drew hb2 hh2
   refine kB Z Z Z (eG Z Z Z (bQ Z Z Z (bG (k) gI Z Z Z ((R.mem M2).below_len (aG aZ hxb)) ((R.mem M2).someK (aG aZ hxb))) (bQ Z Z Z (fG (.int _ _) vE (R.mem M2) (aG aZ hxb) Z) (kB Z Z Z (eG Z Z Z (bQ Z Z Z (bG (k) gI Z Z Z ((R'.mem M2).below_len (aG aZ hyb)) ((R'.mem M2).someK (aG aZ hyb))) (bQ Z Z Z (fG (.int _ _) vE (R'.mem M2) (aG aZ hyb) Z) (aX Z Z Z (fun _=>cH (.bool (decide _)) Z Z Z) (bS (aC ?_))))))))))
   refine aW Z (fun h25 => ?_) (fun h25 => ?_)
   ·refine aE (aA (wq (aJ (.bool false) Z) Z (aB (aC (aR (lP (cK (sY (lP (cK (cF (.bool false) Z ?_)))))))))))
    exact ⟨bF (fun e=>h25 (by rw [e] at hxb;rw [hxb] at hyb;injection hyb)),M2.below⟩
   ·refine aM (cS (aC (aA (aT Z Z (wq (bE Z Z (by omega) (by omega)) Z (bL Z Z (aB ?_)))))))
    refine bU (k+1) (bI Z eC) (bX Z (bX Z gR)) ?_ ?_
    ·exact ⟨⟨by omega,rU (p:=fun j x=>ys[j]? = some x) hne hxb (by rw [hyb,Decidable.not_not.1 h25])⟩,M2⟩
    ·omega
  ·refine cM (cZ (dF (eL (aC (aE (aA (wq (aJ (.bool true) Z) Z (aB (aC (aR (cF (.bool true) Z ?_)))))))))))
   exact ⟨bT (bIg hlen hlen' hnm (fun j x hj hx=>hne j x (by omega) hx)),hM1.below⟩
theorem aEu (w:World) (A:Option Addr) (n c:Nat) (xs:List Body) (R:Rd w 10 A n (xs.map aF)) (hn:n≤4096) (hb:∀ b∈xs,InB b) :
  Calls prog 25 #[.slice A n c] w (gY (fun v w'=>∃ q:Row,v=.slice q.A q.n q.c∧bA 5 1 q.A q.n q.c ((lE xs).map aZ) q.e∧Mem w [] [q.e] w')):=by
 have hlen:xs.length=n:=by simpa using R.len
 have hbd:=R.bound
 refine aI #[.tmp 2] 84 func25 Z results25 ntmps25 Z ?_
 have M0:=Mem.refl w
 refine aE (aA (eI Z Z (aB (aC (aE (aA (bV [.int _ _,.int _ _,.int _ _,.int _ _] (nD.map aZ) Z gI M0 Z Z Z Z (cO Z) (by decide) (fun b1 w1 M1 => ?_))))))))
 have hlit6:=lV (T:=5) (b:=b1) (nD.map aZ) (uD _) rfl (by decide)
 refine bAe 0 underlying31 underlying5 M1 Z Z Z Z hlit6 (by decide) (fun e2 w2 M2 hR2=>(dJ Z Z (wq (bW underlying29 Z) Z (eJ vL Z Z (jP _ (n:Int) (by omega)) ?_))))
 rintro v3 w3 ⟨q0,rfl,hn0,hw0,hM3⟩
 have M3:Mem _ _ [_,_] _:=M2.call0 hM3
 refine gK 0 ((dB (n:Int)).map aZ) gI M3 Z Z Z Z Z hR2 (hw0.rd M3 (aN (i:=1) Z)) (jM _) (by omega) (fun A4 c4 e4 w4 M4 hR4 hA4=>(eI Z Z (aB (aC (aE (aE (aA (bL Z Z (aB (aC (aS (dK (σ:=Nat × Row) [0,2] (fun (k,q)=>[(3,.slice q.A q.n q.c),(4,.int .i64 (k:Int))]) (fun (k,q) w'=>(k≤n∧q.n=8+40*k∧bA 5 1 q.A q.n q.c (((nD++dB (n:Int))++(xs.take k).flatMap oN).map aZ) q.e)∧Mem w [] [q.e] w') (fun (k,q)=>n - k) (0,⟨A4,4+q0.n,c4,e4⟩) (bI Z (bI Z eC)) (⟨⟨by omega,(show 4+q0.n=8 by omega),by rw [List.take_zero,List.flatMap_nil,List.append_nil,List.map_append];exact hR4⟩,M4.keep [true,false]⟩) ?_))))))))))))
 rintro ⟨k,q⟩ ρ5 w5 ⟨⟨hk,hqn,hq⟩,hM5⟩
 refine aE (aE (aA (aT Z Z (dJ Z Z (wq (bW underlying29 Z) Z (cV Z Z Z Z (aB (aC ?_))))))))
 refine aW Z (fun h15 => ?_) (fun h15 => ?_)
 ·obtain ⟨xb,hxb⟩:=cG (xs:=xs) (k:=k) hlen (by omega)
  obtain ⟨i0,i1,i2,i3,i4,i5,i6,i7,i8,i9⟩:=hb xb (List.mem_of_getElem? hxb)
  refine aM (aC (aE (aS (aE (aA (dJ Z Z (aT Z Z (wq (bG (k) dU Z Z Z ((R.mem hM5).below_len (aG aF hxb)) ((R.mem hM5).someK (aG aF hxb))) Z (wq (dQ _ bR (R.mem hM5) (aG aF hxb) Z) Z (aO gL hM5 Z Z (fun b6 w6 M6=>(bC 1 _ bR M6 Z Z Z Z Z (aP Z) Z (fun w7 M7=>(aB (aC (aE (gJ [(0,0),(1,0),(2,1),(3,0),(6,0),(7,1),(8,0),(4,2),(5,2),(9,2),(10,2),(11,0)] mixed M7 Z (by kernel_rfl) (fun w8 M8=>(kB Z Z Z (aX Z Z Z (fun _=>aD 0 dZ Z) ?_))))))))))))))))))))
  refine bQ Z Z Z (aK 1 (.int _ _) bZ M8 Z Z Z) (aX Z Z Z (fun _=>bK yL underlying2 Z (fU _ (by omega) (by omega))) (aX Z Z Z (fun _=>aD 1 mU Z) (bQ Z Z Z (aK 1 (.int _ _) bB M8 Z Z Z) (aX Z Z Z (fun _=>bK eF underlying2 Z (fU _ (by omega) (by omega))) (dO [false,true] Z (by kernel_rfl) (eJ vL Z Z (jP _ xb.key (by omega)) ?_))))))
  rintro v9 w9 ⟨q9,rfl,hn9,hw9,hM9⟩
  have M9:Mem _ _ [_,_,_] _:=M8.call0 hM9
  refine aB (aC ⟨(dS (bH Z (aK 1 (.int _ _) bB M9 Z Z Z)) dI), ?_⟩)
  refine dO [false] Z (by kernel_rfl) (gK 0 ((dB xb.key).map aZ) gI M9 Z Z Z Z Z hq (hw9.rd M9 (aN (i:=2) Z)) (jM _) (by omega) (fun A10 c10 e10 w10 M10 hR10 hA10 => ?_))
  refine aB (aC ⟨(dS (bH Z (aK 1 (.int _ _) bB M10 Z Z Z)) dI), ?_⟩)
  refine dO [true] Z (by kernel_rfl) (eJ vL Z Z (jP _ xb.radius (by omega)) ?_)
  rintro v11 w11 ⟨q11,rfl,hn11,hw11,hM11⟩
  have M11:Mem _ _ [_,_,_,_] _:=M10.call0 hM11
  refine aB (aC ⟨dI, ?_⟩)
  refine dO [] Z (by kernel_rfl) (gK 0 ((dB xb.radius).map aZ) gI M11 Z Z Z Z Z hR10 (hw11.rd M11 (aN (i:=3) Z)) (jM _) (by omega) (fun A12 c12 e12 w12 M12 hR12 hA12 => ?_))
  refine aB (aC ⟨dI, ?_⟩)
  refine aX Z Z Z (fun _=>aJ (.slice _ _ _) Z) (bS (aC (aE (gJ [(0,0),(1,0),(2,0),(3,1),(4,0),(7,0),(8,0),(9,1),(10,0),(5,2),(6,2),(11,2),(12,2),(13,0)] mixed M12 Z (by kernel_rfl) (fun w13 M13=>(kB Z Z Z (aX Z Z Z (fun _=>aD 2 kE Z) (aX Z Z Z (fun _=>aD 0 cY Z) (bQ Z Z Z (aK 1 (.int _ _) bB M13 Z Z Z) (aX Z Z Z (fun _=>bK eF underlying2 Z (fU _ (by omega) (by omega))) (aX Z Z Z (fun _=>aD 2 kE Z) (aX Z Z Z (fun _=>aD 1 cW Z) ?_))))))))))))
  refine bQ Z Z Z (aK 1 (.int _ _) bB M13 Z Z Z) (aX Z Z Z (fun _=>bK eF underlying2 Z (fU _ (by omega) (by omega))) (dO [false,true] Z (by kernel_rfl) (eJ vL Z Z (jP _ xb.ax (by omega)) ?_)))
  rintro v14 w14 ⟨q14,rfl,hn14,hw14,hM14⟩
  have M14:Mem _ _ [_,_,_,_,_] _:=M13.call0 hM14
  refine aB (aC ⟨(dS (bH Z (aK 1 (.int _ _) bB M14 Z Z Z)) dI), ?_⟩)
  refine dO [false] Z (by kernel_rfl) (gK 0 ((dB xb.ax).map aZ) gI M14 Z Z Z Z Z hR12 (hw14.rd M14 (aN (i:=4) Z)) (jM _) (by omega) (fun A15 c15 e15 w15 M15 hR15 hA15 => ?_))
  refine aB (aC ⟨(dS (bH Z (aK 1 (.int _ _) bB M15 Z Z Z)) dI), ?_⟩)
  refine dO [true] Z (by kernel_rfl) (eJ vL Z Z (jP _ xb.ay (by omega)) ?_)
  rintro v16 w16 ⟨q16,rfl,hn16,hw16,hM16⟩
  have M16:Mem _ _ [_,_,_,_,_,_] _:=M15.call0 hM16
  refine aB (aC ⟨dI, ?_⟩)
  refine dO [] Z (by kernel_rfl) (gK 0 ((dB xb.ay).map aZ) gI M16 Z Z Z Z Z hR15 (hw16.rd M16 (aN (i:=5) Z)) (jM _) (by omega) (fun A17 c17 e17 w17 M17 hR17 hA17 => ?_))
  refine aB (aC ⟨dI, ?_⟩)
  refine aX Z Z Z (fun _=>aJ (.slice _ _ _) Z) (bS (aC (aE (gJ [(0,0),(1,0),(2,1),(3,0),(6,0),(7,1),(8,0),(4,2),(5,2),(9,2),(10,2),(11,0)] mixed M17 Z (by kernel_rfl) (fun w18 M18=>(kB Z Z Z (aX Z Z Z (fun _=>aD 4 eS Z) (bQ Z Z Z (aK 1 (.int _ _) bB M18 Z Z Z) (aX Z Z Z (fun _=>bK eF underlying2 Z (fU _ (by omega) (by omega))) (aX Z Z Z (fun _=>aD 5 pG Z) (bQ Z Z Z (aK 1 (.int _ _) bB M18 Z Z Z) (aX Z Z Z (fun _=>bK eF underlying2 Z (fU _ (by omega) (by omega))) ?_))))))))))))
  refine dO [false,true] Z (by kernel_rfl) (eJ vL Z Z (jP _ xb.mass (by omega)) ?_)
  rintro v19 w19 ⟨q19,rfl,hn19,hw19,hM19⟩
  have M19:Mem _ _ [_,_,_,_,_,_,_] _:=M18.call0 hM19
  refine aB (aC ⟨(dS (bH Z (aK 1 (.int _ _) bB M19 Z Z Z)) dI), ?_⟩)
  refine dO [false] Z (by kernel_rfl) (gK 0 ((dB xb.mass).map aZ) gI M19 Z Z Z Z Z hR17 (hw19.rd M19 (aN (i:=6) Z)) (jM _) (by omega) (fun A20 c20 e20 w20 M20 hR20 hA20 => ?_))
  refine aB (aC ⟨(dS (bH Z (aK 1 (.int _ _) bB M20 Z Z Z)) dI), ?_⟩)
  refine dO [true] Z (by kernel_rfl) (eJ vL Z Z (jP _ xb.bounce (by omega)) ?_)
  rintro v21 w21 ⟨q21,rfl,hn21,hw21,hM21⟩
  have M21:Mem _ _ [_,_,_,_,_,_,_,_] _:=M20.call0 hM21
  refine aB (aC ⟨dI, ?_⟩)
  refine dO [] Z (by kernel_rfl) (gK 0 ((dB xb.bounce).map aZ) gI M21 Z Z Z Z Z hR20 (hw21.rd M21 (aN (i:=7) Z)) (jM _) (by omega) (fun A22 c22 e22 w22 M22 hR22 hA22 => ?_))
  refine aB (aC ⟨dI, ?_⟩)
  refine aX Z Z Z (fun _=>aJ (.slice _ _ _) Z) (bS (aC (aE (gJ [(0,0),(1,0),(2,0),(3,1),(4,0),(7,0),(8,0),(9,1),(10,0),(5,2),(6,2),(11,2),(12,2),(13,0)] mixed M22 Z (by kernel_rfl) (fun w23 M23=>(kB Z Z Z (aX Z Z Z (fun _=>aD 6 fZ Z) (aX Z Z Z (fun _=>aD 0 cY Z) (bQ Z Z Z (aK 1 (.int _ _) bB M23 Z Z Z) (aX Z Z Z (fun _=>bK eF underlying2 Z (fU _ (by omega) (by omega))) (aX Z Z Z (fun _=>aD 6 fZ Z) (aX Z Z Z (fun _=>aD 1 cW Z) ?_))))))))))))
  refine bQ Z Z Z (aK 1 (.int _ _) bB M23 Z Z Z) (aX Z Z Z (fun _=>bK eF underlying2 Z (fU _ (by omega) (by omega))) (dO [false,true] Z (by kernel_rfl) (eJ vL Z Z (jP _ xb.px (by omega)) ?_)))
  rintro v24 w24 ⟨q24,rfl,hn24,hw24,hM24⟩
  have M24:Mem _ _ [_,_,_,_,_,_,_,_,_] _:=M23.call0 hM24
  refine aB (aC ⟨(dS (bH Z (aK 1 (.int _ _) bB M24 Z Z Z)) dI), ?_⟩)
  refine dO [false] Z (by kernel_rfl) (gK 0 ((dB xb.px).map aZ) gI M24 Z Z Z Z Z hR22 (hw24.rd M24 (aN (i:=8) Z)) (jM _) (by omega) (fun A25 c25 e25 w25 M25 hR25 hA25 => ?_))
  refine aB (aC ⟨(dS (bH Z (aK 1 (.int _ _) bB M25 Z Z Z)) dI), ?_⟩)
  refine dO [true] Z (by kernel_rfl) (eJ vL Z Z (jP _ xb.py (by omega)) ?_)
  rintro v26 w26 ⟨q26,rfl,hn26,hw26,hM26⟩
  have M26:Mem _ _ [_,_,_,_,_,_,_,_,_,_] _:=M25.call0 hM26
  refine aB (aC ⟨dI, ?_⟩)
  refine dO [] Z (by kernel_rfl) (gK 0 ((dB xb.py).map aZ) gI M26 Z Z Z Z Z hR25 (hw26.rd M26 (aN (i:=9) Z)) (jM _) (by omega) (fun A27 c27 e27 w27 M27 hR27 hA27 => ?_))
  refine aB (aC ⟨dI, ?_⟩)
  refine aX Z Z Z (fun _=>aJ (.slice _ _ _) Z) (bS (aC (gJ [(0,0),(1,0),(2,0),(3,1),(4,0),(7,0),(8,0),(9,1),(10,0),(5,2),(6,2),(11,2),(12,2),(13,0)] mixed M27 Z (by kernel_rfl) (fun w28 M28=>(kB Z Z Z (aX Z Z Z (fun _=>aD 8 eH Z) (aX Z Z Z (fun _=>aD 0 cY Z) (bQ Z Z Z (aK 1 (.int _ _) bB M28 Z Z Z) (aX Z Z Z (fun _=>bK eF underlying2 Z (fU _ (by omega) (by omega))) (aX Z Z Z (fun _=>aD 8 eH Z) (aX Z Z Z (fun _=>aD 1 cW Z) ?_)))))))))))
  refine bQ Z Z Z (aK 1 (.int _ _) bB M28 Z Z Z) (aX Z Z Z (fun _=>bK eF underlying2 Z (fU _ (by omega) (by omega))) (dO [false,true] Z (by kernel_rfl) (eJ vL Z Z (jP _ xb.vx (by omega)) ?_)))
  rintro v29 w29 ⟨q29,rfl,hn29,hw29,hM29⟩
  have M29:Mem _ _ [_,_,_,_,_,_,_,_,_,_,_] _:=M28.call0 hM29
  refine aB (aC ⟨(dS (bH Z (aK 1 (.int _ _) bB M29 Z Z Z)) dI), ?_⟩)
  refine dO [false] Z (by kernel_rfl) (gK 0 ((dB xb.vx).map aZ) gI M29 Z Z Z Z Z hR27 (hw29.rd M29 (aN (i:=10) Z)) (jM _) (by omega) (fun A30 c30 e30 w30 M30 hR30 hA30 => ?_))
  refine aB (aC ⟨(dS (bH Z (aK 1 (.int _ _) bB M30 Z Z Z)) dI), ?_⟩)
  refine dO [true] Z (by kernel_rfl) (eJ vL Z Z (jP _ xb.vy (by omega)) ?_)
  rintro v31 w31 ⟨q31,rfl,hn31,hw31,hM31⟩
  have M31:Mem _ _ [_,_,_,_,_,_,_,_,_,_,_,_] _:=M30.call0 hM31
  refine aB (aC ⟨dI, ?_⟩)
  refine dO [] Z (by kernel_rfl) (gK 0 ((dB xb.vy).map aZ) gI M31 Z Z Z Z Z hR30 (hw31.rd M31 (aN (i:=11) Z)) (jM _) (by omega) (fun A32 c32 e32 w32 M32 hR32 hA32 => ?_))
  refine aB (aC ⟨dI, ?_⟩)
  refine aX Z Z Z (fun _=>aJ (.slice _ _ _) Z) (bS (cS (aC (aA (aT Z Z (wq (bE Z Z (by omega) (by omega)) Z (bL Z Z (aB ?_))))))))
  refine bU (k+1,⟨A32,q.n+q9.n+q11.n+q14.n+q16.n+q19.n+q21.n+q24.n+q26.n+q29.n+q31.n,c32,e32⟩) (bI Z (bI Z eC)) (bX Z (bX Z gR)) ?_ ?_
  ·exact ⟨⟨by omega,(show q.n+q9.n+q11.n+q14.n+q16.n+q19.n+q21.n+q24.n+q26.n+q29.n+q31.n=8+40*(k+1) by omega),by rw [aLm hxb,← List.append_assoc,List.map_append];simpa only [oN,aYy,List.flatMap_cons,List.flatMap_nil,List.append_nil,List.map_append,List.append_assoc] using hR32⟩,M32.keep [true,false,false,false,false,false,false,false,false,false,false,false]⟩
  ·(show n - (k+1) < n - k;omega)
 ·obtain rfl:k=n:=by omega
  rw [List.take_of_length_le (by omega),← hlen] at hq
  refine cM (cZ (dF (eL (aC (aE (aA (dJ Z Z (eI Z Z (aB (aC (aR (cF (.slice _ _ _) Z ?_))))))))))))
  exact ⟨q,Z,hq,hM5⟩
theorem mT (l:List Int) (a b:Nat) {m:Nat} (h:b+4≤m):eP ((l.drop a).take m) b=eP l (a+b):=by
 have g (j:Nat) (hj:j < m):((l.drop a).take m).getD j 0=l.getD (a+j) 0:=by
  rw [List.getD_eq_getElem?_getD,List.getD_eq_getElem?_getD,List.getElem?_take_of_lt hj,List.getElem?_drop]
 unfold eP
 rw [g b (by omega),g (b+1) (by omega),g (b+2) (by omega),g (b+3) (by omega)]
 rfl
theorem aPa (w:World) (A:Option Addr) (n c:Nat) (ls:List Int) (R:Rd w 1 A n (ls.map aZ)) (hB:gU ls) (hcap:n≤c) (hn:n≤1048576) :
  Calls prog 98 #[.slice A n c] w (gY (fun v w'=>∃ r:Row,v=.tuple #[.slice r.A r.n r.c,.int .i64 (oM ls).2]∧bA 39 10 r.A r.n r.c (((oM ls).1).map aF) r.e∧Mem w [] [r.e] w')):=by
 have hlen:ls.length=n:=by simpa using R.len
 have hbd:=R.bound
 refine aI #[.tmp 2,.tmp 3] 82 func98 Z results98 ntmps98 Z ?_
 have M0:=Mem.refl w
 refine aE (aA (eI Z Z (bL Z Z (aB (aC (aE (aE (aA (dJ Z Z (wq (bW underlying31 Z) Z (cV Z Z Z Z (wq (aH (.bool (decide _)) Z) Z ?_))))))))))))
 refine dT 11 Z (fun g11 => ?_) (fun g11 => ?_)
 ·refine aQ Z Z (aQ Z Z (aQ Z Z (aQ Z Z (wq (bM true (.bool true) Z Z) Z (wq (aH (.bool true) Z) Z (aQ Z Z (aQ Z Z (aQ Z Z (aQ Z Z (aQ Z Z (aQ Z Z (aQ Z Z (aQ Z Z (wq (bM true (.bool true) Z Z) Z (aB (aC ?_))))))))))))))))
  refine cE Z (aE (aA (eI Z Z (bL Z Z (aB (aC (aR (cK (gE (.slice _ _ _) (.int _ _) Z Z ?_)))))))))
  have hd:=xF (l:=ls) (fun h=>by have:=h.1;omega)
  exact ⟨⟨none,0,0,(none,default)⟩,by rw [hd],by rw [hd];exact bA.nil _ _ _,(M0.keep []).dummy default⟩
 ·refine dJ Z Z (wq (fF (0) (4) gI Z Z ⟨_,Z⟩ (by omega) (by omega) (by omega)) Z (wq (aOu underlying31 underlying5 underlying9 (Rd.subB (R.mem M0) (0) (4) (by omega) (by omega) hcap) Z) Z (wq (aSp Z Z) Z (wq (bM false (.bool (decide _)) Z Z) Z (wq (aH (.bool (decide _)) Z) Z ?_)))))
  refine dT 17 Z (fun g17 => ?_) (fun g17 => ?_)
  ·refine aQ Z Z (aQ Z Z (aQ Z Z (aQ Z Z (aQ Z Z (aQ Z Z (aQ Z Z (aQ Z Z (wq (bM true (.bool true) Z Z) Z (aB (aC (cE Z (aE (aA (eI Z Z (bL Z Z (aB (aC (aR (cK (gE (.slice _ _ _) (.int _ _) Z Z ?_))))))))))))))))))))
   have hd:=xF (l:=ls) (fun h=>((xV ((ls.drop 0).take (4 - 0)) (hB.sub 0 4) [66,73,76,49]).1 g17) (by rw [← sD];simpa using h.2.1))
   exact ⟨⟨none,0,0,(none,default)⟩,by rw [hd],by rw [hd];exact bA.nil _ _ _,(M0.keep []).dummy default⟩
  ·refine dJ Z Z (wq (bW underlying31 Z) Z (dJ Z Z (wq (fF (4) (8) gI Z ⟨_,Z⟩ ⟨_,Z⟩ (by omega) (by omega) (by omega)) Z (dM aUi Z Z M0 (uS _ _ _ _ ((ls.drop (4)).take (8 - (4))) (Rd.subB (R.mem M0) (4) (8) (by omega) (by omega) hcap) (hB.sub _ _) (by omega)) (fun w1 M1 => ?_)))))
   have hr4:=oC hB (a:=4) (by omega)
   obtain ⟨N,hN⟩:∃ N:Nat,eP ls 4=(N:Int):=⟨(eP ls 4).toNat,by omega⟩
   have hNl:N≤4294967295:=by omega
   refine aL 22 (.int .i64 (N:Int)) (iE ((gH (by omega)).trans hN)) (wq (fO Z Z (by omega) (by omega)) Z (wq (bE Z Z (by omega) (by omega)) Z (cV Z Z Z Z (wq (bM false (.bool (decide _)) Z Z) Z (aB (aC ?_))))))
   refine aW Z (fun h26 => ?_) (fun h26 => ?_)
   ·refine aE (aA (eI Z Z (bL Z Z (aB (aC (aR (cK (gE (.slice _ _ _) (.int _ _) Z Z ?_))))))))
    have hd:=xF (l:=ls) (fun h=>h26 (by have:=h.2.2;rw [hN] at this;omega))
    exact ⟨⟨none,0,0,(none,default)⟩,by rw [hd],by rw [hd];exact bA.nil _ _ _,(M1.keep []).dummy default⟩
   ·have hm4:=Decidable.not_not.1 (mt ((xV ((ls.drop 0).take (4 - 0)) (hB.sub 0 4) [66,73,76,49]).2) g17)
    rw [← sD] at hm4
    have hfm:aDp ls:=⟨by omega,by simpa using hm4,by rw [hN];omega⟩
    have hnN:n=8+40*N:=by omega
    refine aM (aC (aE (aA (eI Z Z ?_))))
    have M2:=M1.dummy default
    refine aB (aC (aE (aE (aA (bL Z Z (aB (aC (aS (dK (σ:=Nat × Row) [0,2,3] (fun (i,q)=>[(4,.slice q.A q.n q.c),(5,.int .i64 ((8+40*i:Nat):Int))]) (fun (i,q) w'=>(i≤N∧bA 39 10 q.A q.n q.c ((qD ls i).map aF) q.e)∧Mem w [] [q.e] w') (fun (i,q)=>N - i) (0,eN) (bI Z (bI Z eC)) (⟨⟨by omega,bA.nil _ _ _⟩,M2⟩) ?_)))))))))
    rintro ⟨i,q⟩ ρ3 w3 ⟨⟨hi,hq⟩,hM3⟩
    have hqn:(qD ls i).length=q.n:=by simpa using hq.1
    rw [aAh] at hqn
    refine aE (aE (aA (aT Z Z (dJ Z Z (wq (bW underlying31 Z) Z (cV Z Z Z Z (aB (aC ?_))))))))
    refine aW Z (fun h30 => ?_) (fun h30 => ?_)
    ·refine aM (aC (aE (aS (aE (aA (dJ Z Z (aT Z Z (aT Z Z (wq (bE Z Z (by omega) (by omega)) Z (aL 36 (.int .i64 ((8+40*i+40:Nat):Int)) (iE (by omega)) (wq (fF (((8+40*i:Nat):Int)) (((8+40*i+40:Nat):Int)) gI Z ⟨_,Z⟩ ⟨_,Z⟩ (by omega) (by omega) (by omega)) Z (eI Z Z (aB (aC (kY [(0,0),(1,0),(2,0),(5,0),(6,0),(8,0),(9,0),(11,0),(12,0),(15,0),(16,0),(18,0),(19,0),(21,0),(22,0),(24,0),(25,0),(28,0),(29,0),(31,0),(32,0),(3,2),(4,0),(7,2),(10,2),(13,2),(14,0),(17,2),(20,2),(23,2),(26,2),(27,0),(30,2),(33,2),(34,0),(35,0),(36,2),(37,2),(38,0)] mixed Z (by kernel_rfl) (fun w4 hb4 hh4 => ?_))))))))))))))))
     have M4:=hM3.drew hb4 hh4
     refine kB Z Z Z (kB Z Z Z (aX Z Z Z (fun _=>fF (0) (4) gI Z Z ⟨_,Z⟩ (by omega) (by omega) (by omega)) (kB Z Z Z (aX Z Z Z (fun _=>fF (4) (8) gI Z ⟨_,Z⟩ ⟨_,Z⟩ (by omega) (by omega) (by omega)) (kB Z Z Z (aX Z Z Z (fun _=>fF (8) (12) gI Z ⟨_,Z⟩ ⟨_,Z⟩ (by omega) (by omega) (by omega)) (kB Z Z Z (aX Z Z Z (fun _=>fF (12) (16) gI Z ⟨_,Z⟩ ⟨_,Z⟩ (by omega) (by omega) (by omega)) (kB Z Z Z (aX Z Z Z (fun _=>fF (16) (20) gI Z ⟨_,Z⟩ ⟨_,Z⟩ (by omega) (by omega) (by omega)) ?_))))))))))
     refine kB Z Z Z (aX Z Z Z (fun _=>fF (20) (24) gI Z ⟨_,Z⟩ ⟨_,Z⟩ (by omega) (by omega) (by omega)) (kB Z Z Z (aX Z Z Z (fun _=>fF (24) (28) gI Z ⟨_,Z⟩ ⟨_,Z⟩ (by omega) (by omega) (by omega)) (kB Z Z Z (aX Z Z Z (fun _=>fF (28) (32) gI Z ⟨_,Z⟩ ⟨_,Z⟩ (by omega) (by omega) (by omega)) (kB Z Z Z (aX Z Z Z (fun _=>fF (32) (36) gI Z ⟨_,Z⟩ ⟨_,Z⟩ (by omega) (by omega) (by omega)) (kB Z Z Z (aX Z Z Z (fun _=>fF (36) (40) gI Z ⟨_,Z⟩ ⟨_,Z⟩ (by omega) (by omega) (by omega)) ?_)))))))))
     refine dO [] Z (by kernel_rfl) (dM aUi Z Z M4 (uS _ _ _ _ ((((ls.drop (8+40*i)).take ((8+40*i)+40 - (8+40*i))).drop 0).take (4 - 0)) (Rd.subB (Rd.subB (R.mem M4) ((8+40*i)) ((8+40*i)+40) (by omega) (by omega) hcap) 0 4 (by omega) (by omega) (by omega)) ((hB.sub _ _).sub _ _) (by omega)) (fun w5 M5 => ?_))
     refine aB (aC ⟨dI, ?_⟩)
     refine dX 41 (.int .i64 (eP ls (8+40*i))) (iE ((gH (by omega)).trans (mT ls (8+40*i) 0 (by omega)))) (aX Z Z Z (fun _=>dL nU underlying35 Z) (dX 42 (.int .u32 (eP ls (8+40*i))) (iE (aJo _ (oC hB (a:=8+40*i) (by omega)).1 (oC hB (a:=8+40*i) (by omega)).2.1)) (dO [] Z (by kernel_rfl) (dM uE Z Z M5 (jG _ _ _ _ ((((ls.drop (8+40*i)).take ((8+40*i)+40 - (8+40*i))).drop 4).take (8 - 4)) (Rd.subB (Rd.subB (R.mem M5) ((8+40*i)) ((8+40*i)+40) (by omega) (by omega) hcap) 4 8 (by omega) (by omega) (by omega)) ((hB.sub _ _).sub _ _) (by omega)) (fun w6 M6 => ?_)))))
     refine aB (aC ⟨dI, ?_⟩)
     refine dX 45 (.int .i32 (lX (eP ls (8+40*i+4)))) (iE (congrArg lX ((gH (by omega)).trans (mT ls (8+40*i) 4 (by omega))))) (dO [] Z (by kernel_rfl) (dM uE Z Z M6 (jG _ _ _ _ ((((ls.drop (8+40*i)).take ((8+40*i)+40 - (8+40*i))).drop 8).take (12 - 8)) (Rd.subB (Rd.subB (R.mem M6) ((8+40*i)) ((8+40*i)+40) (by omega) (by omega) hcap) 8 12 (by omega) (by omega) (by omega)) ((hB.sub _ _).sub _ _) (by omega)) (fun w7 M7 => ?_)))
     refine aB (aC ⟨dI, ?_⟩)
     refine dX 48 (.int .i32 (lX (eP ls (8+40*i+8)))) (iE (congrArg lX ((gH (by omega)).trans (mT ls (8+40*i) 8 (by omega))))) (dO [] Z (by kernel_rfl) (dM uE Z Z M7 (jG _ _ _ _ ((((ls.drop (8+40*i)).take ((8+40*i)+40 - (8+40*i))).drop 12).take (16 - 12)) (Rd.subB (Rd.subB (R.mem M7) ((8+40*i)) ((8+40*i)+40) (by omega) (by omega) hcap) 12 16 (by omega) (by omega) (by omega)) ((hB.sub _ _).sub _ _) (by omega)) (fun w8 M8 => ?_)))
     refine aB (aC ⟨dI, ?_⟩)
     refine dX 51 (.int .i32 (lX (eP ls (8+40*i+12)))) (iE (congrArg lX ((gH (by omega)).trans (mT ls (8+40*i) 12 (by omega))))) (aX Z Z Z (fun _=>cI [(0,.int _ _),(1,.int _ _)] _ fK Z Z) (dO [] Z (by kernel_rfl) (dM uE Z Z M8 (jG _ _ _ _ ((((ls.drop (8+40*i)).take ((8+40*i)+40 - (8+40*i))).drop 16).take (20 - 16)) (Rd.subB (Rd.subB (R.mem M8) ((8+40*i)) ((8+40*i)+40) (by omega) (by omega) hcap) 16 20 (by omega) (by omega) (by omega)) ((hB.sub _ _).sub _ _) (by omega)) (fun w9 M9 => ?_))))
     refine aB (aC ⟨dI, ?_⟩)
     refine dX 55 (.int .i32 (lX (eP ls (8+40*i+16)))) (iE (congrArg lX ((gH (by omega)).trans (mT ls (8+40*i) 16 (by omega))))) (dO [] Z (by kernel_rfl) (dM uE Z Z M9 (jG _ _ _ _ ((((ls.drop (8+40*i)).take ((8+40*i)+40 - (8+40*i))).drop 20).take (24 - 20)) (Rd.subB (Rd.subB (R.mem M9) ((8+40*i)) ((8+40*i)+40) (by omega) (by omega) hcap) 20 24 (by omega) (by omega) (by omega)) ((hB.sub _ _).sub _ _) (by omega)) (fun w10 M10 => ?_)))
     refine aB (aC ⟨dI, ?_⟩)
     refine dX 58 (.int .i32 (lX (eP ls (8+40*i+20)))) (iE (congrArg lX ((gH (by omega)).trans (mT ls (8+40*i) 20 (by omega))))) (dO [] Z (by kernel_rfl) (dM uE Z Z M10 (jG _ _ _ _ ((((ls.drop (8+40*i)).take ((8+40*i)+40 - (8+40*i))).drop 24).take (28 - 24)) (Rd.subB (Rd.subB (R.mem M10) ((8+40*i)) ((8+40*i)+40) (by omega) (by omega) hcap) 24 28 (by omega) (by omega) (by omega)) ((hB.sub _ _).sub _ _) (by omega)) (fun w11 M11 => ?_)))
     refine aB (aC ⟨dI, ?_⟩)
     refine dX 61 (.int .i32 (lX (eP ls (8+40*i+24)))) (iE (congrArg lX ((gH (by omega)).trans (mT ls (8+40*i) 24 (by omega))))) (dO [] Z (by kernel_rfl) (dM uE Z Z M11 (jG _ _ _ _ ((((ls.drop (8+40*i)).take ((8+40*i)+40 - (8+40*i))).drop 28).take (32 - 28)) (Rd.subB (Rd.subB (R.mem M11) ((8+40*i)) ((8+40*i)+40) (by omega) (by omega) hcap) 28 32 (by omega) (by omega) (by omega)) ((hB.sub _ _).sub _ _) (by omega)) (fun w12 M12 => ?_)))
     refine aB (aC ⟨dI, ?_⟩)
     refine dX 64 (.int .i32 (lX (eP ls (8+40*i+28)))) (iE (congrArg lX ((gH (by omega)).trans (mT ls (8+40*i) 28 (by omega))))) (aX Z Z Z (fun _=>cI [(0,.int _ _),(1,.int _ _)] _ fK Z Z) (dO [] Z (by kernel_rfl) (dM uE Z Z M12 (jG _ _ _ _ ((((ls.drop (8+40*i)).take ((8+40*i)+40 - (8+40*i))).drop 32).take (36 - 32)) (Rd.subB (Rd.subB (R.mem M12) ((8+40*i)) ((8+40*i)+40) (by omega) (by omega) hcap) 32 36 (by omega) (by omega) (by omega)) ((hB.sub _ _).sub _ _) (by omega)) (fun w13 M13 => ?_))))
     refine aB (aC ⟨dI, ?_⟩)
     refine dX 68 (.int .i32 (lX (eP ls (8+40*i+32)))) (iE (congrArg lX ((gH (by omega)).trans (mT ls (8+40*i) 32 (by omega))))) (dO [] Z (by kernel_rfl) (dM uE Z Z M13 (jG _ _ _ _ ((((ls.drop (8+40*i)).take ((8+40*i)+40 - (8+40*i))).drop 36).take (40 - 36)) (Rd.subB (Rd.subB (R.mem M13) ((8+40*i)) ((8+40*i)+40) (by omega) (by omega) hcap) 36 40 (by omega) (by omega) (by omega)) ((hB.sub _ _).sub _ _) (by omega)) (fun w14 M14 => ?_)))
     refine aB (aC ⟨dI, ?_⟩)
     refine dX 71 (.int .i32 (lX (eP ls (8+40*i+36)))) (iE (congrArg lX ((gH (by omega)).trans (mT ls (8+40*i) 36 (by omega))))) (aX Z Z Z (fun _=>cI [(0,.int _ _),(1,.int _ _)] _ fK Z Z) (aX Z Z Z (fun _=>cI [(0,.int _ _),(1,.int _ _),(2,.agg (List.toArray _)),(3,.int _ _),(4,.int _ _),(5,.agg (List.toArray _)),(6,.agg (List.toArray _))] _ wN Z Z) (dX 73 ((.agg (aF (nA ls (8+40*i))).toArray)) Z (dO [] Z (by kernel_rfl) (bV [.agg (List.toArray _)] [aF (nA ls (8+40*i))] Z dU M14 Z Z Z Z (cO Z) (by decide) (fun b15 w15 M15 => ?_))))))
     refine aB (aC ⟨dI, ?_⟩)
     refine dO [] rfl (by kernel_rfl) (cP 0 [aF (nA ls (8+40*i))] dU M15 rfl rfl rfl rfl rfl hq rfl (by simp [aF,Go.Bil.one]) (dN.ofMem 1 M15 rfl) (by omega) (fun A16 c16 e16 w16 M16 hR16 => ?_))
     refine aB (aC ⟨dI, ?_⟩)
     refine aX Z Z Z (fun _=>aJ (.slice _ _ _) Z) (bS (cS (aC (aA (aT Z Z (wq (bE Z Z (by omega) (by omega)) Z (bL Z Z (aB ?_))))))))
     refine bU (i+1,⟨A16,q.n+1,c16,e16⟩) (bI Z (bI (iv Z (by omega)) eC)) (bX Z (bX Z (bX Z gR))) ?_ ?_
     ·exact ⟨⟨by omega,by rw [aLj,List.map_append];exact hR16⟩,M16.keep [true,false]⟩
     ·(show N - (i+1) < N - i;omega)
    ·obtain rfl:i=N:=by omega
     refine cM (cZ (dF (eL (aC (aE (aA (dJ Z Z (eJ bRz Z Z (aSr _ _ _ _ (qD ls i) (hq.rd hM3 (aN (i:=0) Z))) ?_))))))))
     rintro v17 w17 ⟨rfl,hb17⟩
     have M17:=hM3.callB hb17
     refine bL Z Z (aB (aC (aE (aE (aA (aT Z Z (cV Z Z Z Z (aB (aC ?_)))))))))
     refine aW Z (fun h79 => ?_) (fun h79 => ?_)
     ·refine aE (aA (aT Z Z (eI Z Z (bL Z Z (aB (aC (aR (cK (gE (.slice _ _ _) (.int _ _) Z Z ?_)))))))))
      have hd:=aYk hfm hN h79
      exact ⟨⟨none,0,0,(none,default)⟩,by rw [hd],by rw [hd];exact bA.nil _ _ _,(M17.keep [false]).dummy default⟩
     ·refine aM (aC (aE (aA (dJ Z Z (eI Z Z (bL Z Z (aB (aC (aR (gE (.slice _ _ _) (.int _ _) Z Z ?_))))))))))
      have hd:=aQw hfm hN (Decidable.not_not.1 h79)
      exact ⟨q,by rw [hd],by rw [hd];exact hq,M17⟩
end Go.Proofs.YtaoaknafiegfoaaGreatDoor
