/- Part of the proof of a law of this seat (6 texts). No conditions. -/
import Derived.Test.YtpcloigancpnbaaGreatDoorK34
import Derived.Test.YtpcloigancpnbaaGreatDoorK24
set_option linter.unusedVariables false
set_option linter.unusedSimpArgs false
set_option linter.unnecessarySimpa false
set_option maxHeartbeats 100000000
namespace Go.Proofs.YtpcloigancpnbaaGreatDoor
open Go.Bil
open Go.RowKit (Below)
open Go.Proofs
open Go.Proofs.Tryz
theorem aYa (w:World) (b:Nat) (A:Option Addr) (n c:Nat) (p:Option Nat) (er em:eN) (m:List Body) (hs:StoreIs 43 A n c p er em m) (hO:Own [(some b,bc [.slice A n c,.map p] 73),er,em] w) (x:Body) :
  Calls prog 68 #[.pointer (some ⟨b,0,none⟩),(.agg (aF x).toArray)] w (gK (fun v w'=>v=.int .i64 (pC m x).2∧∃ A' n' c' p' er' em',StoreIs 43 A' n' c' p' er' em' (pC m x).1∧Mem w (bZ [(some b,bc [.slice A n c,.map p] 73),er,em]) [(some b,bc [.slice A' n' c',.map p'] 73),er',em'] w')):=by
 have hlen:m.length=n:=by simpa using hs.row.1
 have hcap:=hs.cap
 refine aI #[.tmp 4] 62 func68 Z results68 ntmps68 Z ?_
 have M0:=hO.mem
 refine aE (aA (bN (.agg (.mk _)) M0 Z Z Z (fun b1 w1 M1=>(bJ Z Z (aB (aC (aE (aE (aA (wq (aH (.pointer _) Z) Z (wq (iB false underlying104 Z Z) Z (aB (aC (cF Z (aM (aC (aE (aE (aA (wq (aU 3 bR M1 Z Z Z) Z (dO bEa Z Z M1 (xM _ x) (fun w2 M2=>(bJ Z Z (aB (aC (aE (aA (aR Z Z (cY Z Z Z Z (aB (aC ?_)))))))))))))))))))))))))))))))
 refine aW Z (fun h13 => ?_) (fun h13 => ?_)
 ·refine aE (aA (aR Z Z (bJ Z Z (aB (aC (aP (cN (cI (.int _ _) Z ?_))))))))
  have ha:pC m x=(m,check x):=by unfold pC;rw [if_pos h13]
  exact ⟨by rw [ha],A,n,c,p,er,em,by rw [ha];exact hs,M2.keep [true,true,true,false]⟩
 ·refine aM (aC (aE (aE (fY [(0,0),(1,0),(2,0),(3,1),(4,0),(5,1),(6,1),(7,0),(8,0),(9,0),(10,0),(11,0)] mixed M2 Z (by kernel_rfl) (fun w3 M3=>(aX Z Z Z (fun _=>aH (.pointer _) Z) (aX Z Z Z (fun _=>bK Z) (aX Z Z Z (fun _=>aD 1 oM Z) (bP Z Z Z (aK 0 (.map _) xC M3 Z Z Z) (aX Z Z Z (fun _=>aD 0 dV Z) (bP Z Z Z (aK 3 (.int _ _) bV M3 Z Z Z) (bP Z Z Z (lC (enc:=(Value.int .i64)) 0 2 aCq zv3 M3 Z hs.map Z Z) (aX Z Z Z (fun _=>aH (.tuple (List.toArray _)) Z) ?_)))))))))))))
  refine aX Z Z Z (fun _=>bM (.int _ _) Z Z) (aX Z Z Z (fun _=>bM (.bool _) Z Z) (nF Z Z Z (aX Z Z Z (fun _=>aJ (.bool _) Z) (bS (aC (aE (aA (wq (aH (.bool _) Z) Z (aB (aC ?_))))))))))
  refine iV _ Z (fun h25 => ?_) (fun h25 => ?_)
  ·have hf:0≤dR x.key m:=by rw [aGb] at h25;exact of_decide_eq_true h25
   refine aE (aA (bJ Z Z (aB (aC (aP (cN (cI (.int _ _) Z ?_)))))))
   have ha:pC m x=(m,10):=by unfold pC;rw [if_neg h13,if_pos hf]
   exact ⟨by rw [ha],A,n,c,p,er,em,by rw [ha];exact hs,M3.keep [true,true,true,false]⟩
  ·have hf:¬ (0≤dR x.key m):=fun h=>by rw [aGb,decide_eq_true h] at h25;simp at h25
   refine aM (aC (aE (aE (aA (wq (aH (.pointer _) Z) Z (wq (bK Z) Z (wq (aD 0 jZ Z) Z (wq (aK 0 (.slice _ _ _) gR M3 Z Z Z) Z (wq (cK underlying46 Z) Z (cY Z Z Z Z (aB (aC ?_))))))))))))
   refine aW Z (fun h31 => ?_) (fun h31 => ?_)
   ·refine aE (aA (bJ Z Z (aB (aC (aP (cN (cI (.int _ _) Z ?_)))))))
    have ha:pC m x=(m,12):=by unfold pC;rw [if_neg h13,if_neg hf,if_pos (by omega)]
    exact ⟨by rw [ha],A,n,c,p,er,em,by rw [ha];exact hs,M3.keep [true,true,true,false]⟩
   ·refine aM (aC (aE (aE (aA (wq (aH (.pointer _) Z) Z (wq (bK Z) Z (wq (aD 1 oM Z) Z (wq (aK 0 (.map _) xC M3 Z Z Z) Z (wq (aTx _ underlying67 Z Z) Z (aB (aC ?_)))))))))))
    refine iV _ Z (fun h36 => ?_) (fun h36 => ?_)
    ·have hpn:p=none:=by cases p <;> simp_all
     have hnone:∀ k,yF m k=(fun _=>none) k:=fun k=>by subst hpn;rcases hs.map with ⟨_,_,h⟩ | ⟨_,_,h,_⟩;exact h k;cases h
     refine aA (wq (aH (.pointer _) Z) Z (oG M3 Z Z (fun b4 w4 M4 => ?_)))
     have M5:=M4.replace (i:=2) (Nat.le_of_ble_eq_true rfl)
     refine wq (bK Z) Z (wq (aD 1 oM Z) Z (dB 0 (.map _) xC M5 Z Z Z Z Z Z (fun w6 M6=>(aB (aC (aE (fY [(0,0),(1,0),(2,0),(3,1),(4,0),(5,1),(6,0),(7,0),(8,0),(9,1),(10,0),(11,2)] mixed M6 Z (by kernel_rfl) (fun w7 M7=>(aX Z Z Z (fun _=>aH (.pointer _) Z) (aX Z Z Z (fun _=>bK Z) (aX Z Z Z (fun _=>aD 1 oM Z) (bP Z Z Z (aK 0 (.map _) xC M7 Z Z Z) (aX Z Z Z (fun _=>aD 0 dV Z) (bP Z Z Z (aK 3 (.int _ _) bV M7 Z Z Z) ?_))))))))))))))
     refine aX Z Z Z (fun _=>aH (.pointer _) Z) (aX Z Z Z (fun _=>bK Z) (aX Z Z Z (fun _=>aD 0 jZ Z) (bP Z Z Z (aK 0 (.slice _ _ _) gR M7 Z Z Z) (aX Z Z Z (fun _=>cK underlying46 Z) (dL [true,true,true] Z (by kernel_rfl) (lO (enc:=(Value.int .i64)) 2 aCq M7 Z Z ((kZ.empty _ _ b4).congr hnone) Z Z Z Z (fun e8 w8 hm8 M8 => ?_)))))))
     refine aB (aC ⟨dG, ?_⟩)
     refine bS (aC (aE (fY [(0,0),(1,0),(2,0),(3,0),(4,1),(5,1),(6,2),(7,2),(8,0),(9,0),(10,2)] mixed M8 Z (by kernel_rfl) (fun w9 M9=>(aX Z Z Z (fun _=>aH (.pointer _) Z) (aX Z Z Z (fun _=>aH (.pointer _) Z) (aX Z Z Z (fun _=>bK Z) (aX Z Z Z (fun _=>aD 0 jZ Z) (bP Z Z Z (aK 0 (.slice _ _ _) gR M9 Z Z Z) (bP Z Z Z (aU 3 bR M9 Z Z Z) (dL [true,false] Z (by kernel_rfl) (bW [.agg (List.toArray _)] _ Z dS M9 Z Z Z Z (cQ Z) (by decide) (fun b10 w10 M10 => ?_)))))))))))))
     refine aB (aC ⟨(dQ (bC Z (aK 0 (.slice _ _ _) gR M10 Z Z Z)) dG), ?_⟩)
     refine dL [true] rfl (by kernel_rfl) (cO 1 [aF x] dS M10 rfl rfl rfl rfl rfl hs.row rfl (by simpa using ⟨iS x,iT x⟩) (dI.ofMem 4 M10 rfl) (by omega) (fun A11 c11 e11 w11 M11 hR11 => ?_))
     refine aB (aC ⟨dG, ?_⟩)
     refine aX Z Z Z (fun _=>bK Z) (aX Z Z Z (fun _=>aD 0 jZ Z) (dL [] Z (by kernel_rfl) (dB 0 (.slice _ _ _) gR M11 Z Z Z Z Z Z (fun w12 M12 => ?_))))
     refine aB (aC ⟨dG, ?_⟩)
     refine bS (aC (aE (aA (bJ Z Z (aB (aC (aP (cI (.int _ _) Z ?_))))))))
     have ha:pC m x=(m++[x],0):=by unfold pC;rw [if_neg h13,if_neg hf,if_neg (by omega)]
     have hall:=aLm (x:=x) ⟨hs.keys,hs.cap,hs.ok⟩
     rw [ha] at hall
     obtain ⟨hk',hc',ho'⟩:=hall
     have hix:=aPu hs.keys (x:=x) (by omega)
     rw [hlen] at hix
     exact ⟨by rw [ha],_,_,_,_,_,_,by rw [ha];exact ⟨(by simpa using hR11),(hm8.congr hix),hk',hc',ho'⟩,M12.keep [true,true,true,false,false]⟩
    ·have hps:p.isSome=true:=by cases p <;> simp_all
     refine aM (aC (aE (fY [(0,0),(1,0),(2,0),(3,1),(4,0),(5,1),(6,0),(7,0),(8,0),(9,1),(10,0),(11,2)] mixed M3 Z (by kernel_rfl) (fun w13 M13=>(aX Z Z Z (fun _=>aH (.pointer _) Z) (aX Z Z Z (fun _=>bK Z) (aX Z Z Z (fun _=>aD 1 oM Z) (bP Z Z Z (aK 0 (.map _) xC M13 Z Z Z) (aX Z Z Z (fun _=>aD 0 dV Z) (bP Z Z Z (aK 3 (.int _ _) bV M13 Z Z Z) (aX Z Z Z (fun _=>aH (.pointer _) Z) (aX Z Z Z (fun _=>bK Z) (aX Z Z Z (fun _=>aD 0 jZ Z) ?_)))))))))))))
     refine bP Z Z Z (aK 0 (.slice _ _ _) gR M13 Z Z Z) (aX Z Z Z (fun _=>cK underlying46 Z) (dL [true,true,true] Z (by kernel_rfl) (lO (enc:=(Value.int .i64)) 2 aCq M13 Z Z hs.map hps Z Z Z (fun e14 w14 hm14 M14 => ?_))))
     refine aB (aC ⟨dG, ?_⟩)
     refine bS (aC (aE (fY [(0,0),(1,0),(2,0),(3,0),(4,1),(5,1),(6,2),(7,2),(8,0),(9,0),(10,2)] mixed M14 Z (by kernel_rfl) (fun w15 M15=>(aX Z Z Z (fun _=>aH (.pointer _) Z) (aX Z Z Z (fun _=>aH (.pointer _) Z) (aX Z Z Z (fun _=>bK Z) (aX Z Z Z (fun _=>aD 0 jZ Z) (bP Z Z Z (aK 0 (.slice _ _ _) gR M15 Z Z Z) (bP Z Z Z (aU 3 bR M15 Z Z Z) (dL [true,false] Z (by kernel_rfl) (bW [.agg (List.toArray _)] _ Z dS M15 Z Z Z Z (cQ Z) (by decide) (fun b16 w16 M16 => ?_)))))))))))))
     refine aB (aC ⟨(dQ (bC Z (aK 0 (.slice _ _ _) gR M16 Z Z Z)) dG), ?_⟩)
     refine dL [true] rfl (by kernel_rfl) (cO 1 [aF x] dS M16 rfl rfl rfl rfl rfl hs.row rfl (by simpa using ⟨iS x,iT x⟩) (dI.ofMem 4 M16 rfl) (by omega) (fun A17 c17 e17 w17 M17 hR17 => ?_))
     refine aB (aC ⟨dG, ?_⟩)
     refine aX Z Z Z (fun _=>bK Z) (aX Z Z Z (fun _=>aD 0 jZ Z) (dL [] Z (by kernel_rfl) (dB 0 (.slice _ _ _) gR M17 Z Z Z Z Z Z (fun w18 M18 => ?_))))
     refine aB (aC ⟨dG, ?_⟩)
     refine bS (aC (aE (aA (bJ Z Z (aB (aC (aP (cI (.int _ _) Z ?_))))))))
     have ha:pC m x=(m++[x],0):=by unfold pC;rw [if_neg h13,if_neg hf,if_neg (by omega)]
     have hall:=aLm (x:=x) ⟨hs.keys,hs.cap,hs.ok⟩
     rw [ha] at hall
     obtain ⟨hk',hc',ho'⟩:=hall
     have hix:=aPu hs.keys (x:=x) (by omega)
     rw [hlen] at hix
     exact ⟨by rw [ha],_,_,_,_,_,_,by rw [ha];exact ⟨(by simpa using hR17),(hm14.congr hix),hk',hc',ho'⟩,M18.keep [true,true,true,false,false]⟩
theorem bMk (w:World) (b:Nat) (A:Option Addr) (n c:Nat) (p:Option Nat) (er em:eN) (m:List Body) (hs:StoreIs 43 A n c p er em m) (hO:Own [(some b,bc [.slice A n c,.map p] 73),er,em] w) (key:Int) :
  Calls prog 34 #[.pointer (some ⟨b,0,none⟩),.int .u32 key] w (gK (fun v w'=>(∃ x,v=.tuple #[.agg (aF x).toArray,.int .i64 (aFx m key).2]∧x=(aFx m key).1)∧Mem w (bZ [(some b,bc [.slice A n c,.map p] 73),er,em]) [(some b,bc [.slice A n c,.map p] 73),er,em] w')):=by
 have hlen:m.length=n:=by simpa using hs.row.1
 have hcap:=hs.cap
 refine aI #[.cell 4 43,.tmp 5] 30 func34 Z results34 ntmps34 Z ?_
 have M0:=hO.mem
 refine aE (aA (aQ fX M0 Z Z (fun b1 w1 M1=>(bJ Z Z (aB (aC (aE (aE (aA (wq (aH (.pointer _) Z) Z (wq (iB false underlying104 Z Z) Z (aB (aC (cF Z (aM (aC (aE (aA (wq (aH (.pointer _) Z) Z (wq (bK Z) Z (wq (aD 1 oM Z) Z (wq (aK 0 (.map _) xC M1 Z Z Z) Z (aR Z Z (wq (lC (enc:=(Value.int .i64)) 0 2 aCq zv3 M1 Z hs.map Z Z) Z (wq (aH (.tuple (List.toArray _)) Z) Z ?_)))))))))))))))))))))))))
 refine wq (bM (.int _ _) Z Z) Z (wq (bM (.bool _) Z Z) Z (bJ Z Z (wq (aJ (.bool _) Z) Z (aB (aC (aE (aE (aA (wq (aH (.bool _) Z) Z (wq (gV _ Z Z) Z (aB (aC ?_))))))))))))
 refine iV _ Z (fun h21 => ?_) (fun h21 => ?_)
 ·have hi:yF m key=none:=by cases h:yF m key <;> simp_all
  refine aE (aA (wq (cD [] _ uX Z Z) Z (bB 3 _ bR M1 Z Z Z Z Z (aO Z) Z (fun w2 M2=>(bJ Z Z (aB (aC (aP (cN (tO (v2:=.int _ _) 3 bR M2 Z Z Z Z ?_))))))))))
  exact ⟨⟨⟨0,0,0,0,0,0,0,0,0,0⟩,by rw [aKb hi];rfl,by rw [aKb hi]⟩,M2.keep [true,true,true,false]⟩
 ·rcases oC key m with ⟨hi,_⟩ | ⟨i,bi,hbi,hbk,hi⟩
  ·simp [hi] at h21
  refine aM (aC (aE (aA (wq (aH (.pointer _) Z) Z (wq (bK Z) Z (wq (aD 0 jZ Z) Z (wq (aK 0 (.slice _ _ _) gR M1 Z Z Z) Z (aR Z Z (wq (bI (i) dS Z Z (by rw [hi];rfl) ((hs.row.rd M1 (bH (i:=1) Z)).below_len (aG aF hbi)) ((hs.row.rd M1 (bH (i:=1) Z)).someK (aG aF hbi))) Z (wq (dN _ bR (hs.row.rd M1 (bH (i:=1) Z)) (aG aF hbi) Z) Z (bB 3 _ bR M1 Z Z Z Z Z (aO Z) Z (fun w3 M3=>(bJ Z Z (aB (aC (aP (tO (v2:=.int _ _) 3 bR M3 Z Z Z Z ?_)))))))))))))))))
  exact ⟨⟨bi,by rw [aBd hi hbi],by rw [aBd hi hbi]⟩,M3.keep [true,true,true,false]⟩
theorem bMl (w:World) (b:Nat) (A:Option Addr) (n c:Nat) (p:Option Nat) (er em:eN) (m:List Body) (hs:StoreIs 43 A n c p er em m) (hO:Own [(some b,bc [.slice A n c,.map p] 73),er,em] w) (x:Body) :
  Calls prog 80 #[.pointer (some ⟨b,0,none⟩),(.agg (aF x).toArray)] w (gK (fun v w'=>v=.int .i64 (tR m x).2∧∃ A' n' c' p' er' em',StoreIs 43 A' n' c' p' er' em' (tR m x).1∧Mem w (bZ [(some b,bc [.slice A n c,.map p] 73),er,em]) [(some b,bc [.slice A' n' c',.map p'] 73),er',em'] w')):=by
 have hlen:m.length=n:=by simpa using hs.row.1
 have hcap:=hs.cap
 refine aI #[.tmp 4] 34 func80 Z results80 ntmps80 Z ?_
 have M0:=hO.mem
 refine aE (aA (bN (.agg (.mk _)) M0 Z Z Z (fun b1 w1 M1=>(bJ Z Z (aB (aC (aE (aE (aA (wq (aH (.pointer _) Z) Z (wq (iB false underlying104 Z Z) Z (aB (aC (cF Z (aM (aC (aE (aE (aA (wq (aU 3 bR M1 Z Z Z) Z (dO bEa Z Z M1 (xM _ x) (fun w2 M2=>(bJ Z Z (aB (aC (aE (aA (aR Z Z (cY Z Z Z Z (aB (aC ?_)))))))))))))))))))))))))))))))
 refine aW Z (fun h13 => ?_) (fun h13 => ?_)
 ·refine aE (aA (aR Z Z (bJ Z Z (aB (aC (aP (cN (cI (.int _ _) Z ?_))))))))
  have ha:tR m x=(m,check x):=by unfold tR;rw [if_pos h13]
  exact ⟨by rw [ha],A,n,c,p,er,em,by rw [ha];exact hs,M2.keep [true,true,true,false]⟩
 ·refine aM (aC (aE (fY [(0,0),(1,0),(2,0),(3,1),(4,0),(5,1),(6,1),(7,0),(8,0),(9,0),(10,0),(11,0)] mixed M2 Z (by kernel_rfl) (fun w3 M3=>(aX Z Z Z (fun _=>aH (.pointer _) Z) (aX Z Z Z (fun _=>bK Z) (aX Z Z Z (fun _=>aD 1 oM Z) (bP Z Z Z (aK 0 (.map _) xC M3 Z Z Z) (aX Z Z Z (fun _=>aD 0 dV Z) (bP Z Z Z (aK 3 (.int _ _) bV M3 Z Z Z) (bP Z Z Z (lC (enc:=(Value.int .i64)) 0 2 aCq zv3 M3 Z hs.map Z Z) (aX Z Z Z (fun _=>aH (.tuple (List.toArray _)) Z) ?_))))))))))))
  refine aX Z Z Z (fun _=>bM (.int _ _) Z Z) (aX Z Z Z (fun _=>bM (.bool _) Z Z) (nF Z Z Z (aX Z Z Z (fun _=>aJ (.bool _) Z) (bS (aC (aE (aE (aA (wq (aH (.bool _) Z) Z (wq (gV _ Z Z) Z (aB (aC ?_))))))))))))
  refine iV _ Z (fun h26 => ?_) (fun h26 => ?_)
  ·have hi:yF m x.key=none:=by cases h:yF m x.key <;> simp_all
   refine aE (aA (bJ Z Z (aB (aC (aP (cN (cI (.int _ _) Z ?_)))))))
   have ha:tR m x=(m,11):=by unfold tR;rw [if_neg h13,if_pos (by rw [lJ,hi];decide)]
   exact ⟨by rw [ha],A,n,c,p,er,em,by rw [ha];exact hs,M3.keep [true,true,true,false]⟩
  ·rcases oC x.key m with ⟨hi,_⟩ | ⟨i,bi,hbi,hbk,hi⟩
   ·simp [hi] at h26
   refine aM (aC (aE (fY [(0,0),(1,0),(2,0),(3,1),(4,0),(5,1),(6,1),(7,2)] mixed M3 Z (by kernel_rfl) (fun w4 M4=>(aX Z Z Z (fun _=>aH (.pointer _) Z) (aX Z Z Z (fun _=>bK Z) (aX Z Z Z (fun _=>aD 0 jZ Z) (bP Z Z Z (aK 0 (.slice _ _ _) gR M4 Z Z Z) (eD Z Z Z (bP Z Z Z (aU 3 bR M4 Z Z Z) (bP Z Z Z (bI (i) dS Z Z (by rw [hi];rfl) ((hs.row.rd M4 (bH (i:=1) Z)).below_len (aG aF hbi)) ((hs.row.rd M4 (bH (i:=1) Z)).someK (aG aF hbi))) ?_)))))))))))
   refine dL [true,true,true] Z (by kernel_rfl) (aNo 1 _ bR M4 Z hs.row (aG aF hbi) Z Z Z Z (aO Z) (fun e5 w5 hR5 M5 => ?_))
   have hQ5:=hR5.mapSet (f:=aF) (x:=x) rfl
   refine aB (aC ⟨dG, ?_⟩)
   refine bS (aC (aE (aA (bJ Z Z (aB (aC (aP (cI (.int _ _) Z ?_))))))))
   have ha:tR m x=(m.set i x,0):=by unfold tR;rw [if_neg h13,lJ,hi];simp only [];rw [if_neg (by omega),Int.toNat_natCast]
   exact ⟨by rw [ha],_,_,_,_,_,_,by rw [ha];exact hs.put hbi hbk.symm (by omega) hQ5,M5.keep [true,true,true,false]⟩
theorem aVf (w:World) (b:Nat) (A:Option Addr) (n c:Nat) (p:Option Nat) (er em:eN) (m:List Body) (hs:StoreIs 43 A n c p er em m) (hO:Own [(some b,bc [.slice A n c,.map p] 73),er,em] w) (key:Int) :
  Calls prog 77 #[.pointer (some ⟨b,0,none⟩),.int .u32 key] w (gK (fun v w'=>v=.int .i64 (mJ m key).2∧∃ A' n' c' p' er' em',StoreIs 43 A' n' c' p' er' em' (mJ m key).1∧Mem w (bZ [(some b,bc [.slice A n c,.map p] 73),er,em]) [(some b,bc [.slice A' n' c',.map p'] 73),er',em'] w')):=by
 have hlen:m.length=n:=by simpa using hs.row.1
 have hcap:=hs.cap
 refine aI #[.tmp 4] 67 func77 Z results77 ntmps77 Z ?_
 have M0:=hO.mem
 refine aE (aA (bJ Z Z (aB (aC (aE (aE (aA (wq (aH (.pointer _) Z) Z (wq (iB false underlying104 Z Z) Z (aB (aC (cF Z (aM (aC (aE (aA (wq (aH (.pointer _) Z) Z (wq (bK Z) Z (wq (aD 1 oM Z) Z (wq (aK 0 (.map _) xC M0 Z Z Z) Z (aR Z Z (wq (lC (enc:=(Value.int .i64)) 0 2 aCq zv3 M0 Z hs.map Z Z) Z (wq (aH (.tuple (List.toArray _)) Z) Z (wq (bM (.int _ _) Z Z) Z ?_))))))))))))))))))))))))
 refine wq (bM (.bool _) Z Z) Z (bJ Z Z (wq (aJ (.bool _) Z) Z (aB (aC (aE (aE (aA (wq (aH (.bool _) Z) Z (wq (gV _ Z Z) Z (aB (aC ?_)))))))))))
 refine iV _ Z (fun h20 => ?_) (fun h20 => ?_)
 ·have hi:yF m key=none:=by cases h:yF m key <;> simp_all
  refine aE (aA (bJ Z Z (aB (aC (aP (cN (cI (.int _ _) Z ?_)))))))
  have ha:mJ m key=(m,11):=by unfold mJ;rw [if_pos (by rw [lJ,hi];decide)]
  exact ⟨by rw [ha],A,n,c,p,er,em,by rw [ha];exact hs,M0.keep [true,true,true]⟩
 ·rcases oC key m with ⟨hi,_⟩ | ⟨i,bi,hbi,hbk,hi⟩
  ·simp [hi] at h20
  have hilt:i < m.length:=(List.getElem?_eq_some_iff.1 hbi).1
  obtain ⟨bl,hbl⟩:=cT (xs:=m) (k:=n - 1) rfl (by omega)
  have hps:p.isSome=true:=hs.map.isSome hi
  refine aM (aC (aE (aA (wq (aH (.pointer _) Z) Z (wq (bK Z) Z (wq (aD 0 jZ Z) Z (wq (aK 0 (.slice _ _ _) gR M0 Z Z Z) Z (wq (cK underlying46 Z) Z (wq (gJ Z Z (by omega) (by omega)) Z (bJ Z Z (aB (aC (aE (fY [(0,0),(1,0),(2,0),(3,1),(4,0),(5,0),(6,0),(7,0),(8,1),(9,0),(10,1),(11,1),(12,1),(13,2)] mixed M0 Z (by kernel_rfl) (fun w1 M1=>(aX Z Z Z (fun _=>aH (.pointer _) Z) (aX Z Z Z (fun _=>bK Z) (aX Z Z Z (fun _=>aD 0 jZ Z) ?_))))))))))))))))))
  refine bP Z Z Z (aK 0 (.slice _ _ _) gR M1 Z Z Z) (eD Z Z Z (aX Z Z Z (fun _=>aH (.pointer _) Z) (aX Z Z Z (fun _=>bK Z) (aX Z Z Z (fun _=>aD 0 jZ Z) (bP Z Z Z (aK 0 (.slice _ _ _) gR M1 Z Z Z) (eD Z Z Z (bP Z Z Z (bI (n - 1) dS Z Z (by omega) ((hs.row.rd M1 (bH (i:=1) Z)).below_len (aG aF hbl)) ((hs.row.rd M1 (bH (i:=1) Z)).someK (aG aF hbl))) (bP Z Z Z (dN _ bR (hs.row.rd M1 (bH (i:=1) Z)) (aG aF hbl) Z) ?_))))))))
  refine bP Z Z Z (bI (i) dS Z Z (by rw [hi];rfl) ((hs.row.rd M1 (bH (i:=1) Z)).below_len (aG aF hbi)) ((hs.row.rd M1 (bH (i:=1) Z)).someK (aG aF hbi))) (dL [true,true,true,true,true] Z (by kernel_rfl) (aNo 1 _ bR M1 Z hs.row (aG aF hbi) Z Z Z Z (aO Z) (fun e2 w2 hR2 M2 => ?_)))
  have hQ2:=hR2.mapSet (f:=aF) (x:=bl) rfl
  refine aB (aC ⟨dG, ?_⟩)
  refine bS (aC (aE (fY [(0,0),(1,0),(2,0),(3,1),(4,0),(5,0),(6,0),(7,1),(8,0),(9,1),(10,1),(11,1),(12,0),(13,2)] mixed M2 Z (by kernel_rfl) (fun w3 M3=>(aX Z Z Z (fun _=>aH (.pointer _) Z) (aX Z Z Z (fun _=>bK Z) (aX Z Z Z (fun _=>aD 1 oM Z) (bP Z Z Z (aK 0 (.map _) xC M3 Z Z Z) (aX Z Z Z (fun _=>aH (.pointer _) Z) (aX Z Z Z (fun _=>bK Z) (aX Z Z Z (fun _=>aD 0 jZ Z) (bP Z Z Z (aK 0 (.slice _ _ _) gR M3 Z Z Z) ?_))))))))))))
  refine eD Z Z Z ?_
  refine bP Z Z Z (bI (i) dS Z Z (by rw [hi];rfl) ((hQ2.rd M3 (bH (i:=1) Z)).below_len (aG aF (by rw [List.getElem?_set_self hilt]:(m.set i bl)[i]? = some bl))) ((hQ2.rd M3 (bH (i:=1) Z)).someK (aG aF (by rw [List.getElem?_set_self hilt]:(m.set i bl)[i]? = some bl)))) ?_
  refine bP Z Z Z (aT 0 dV (hQ2.rd M3 (bH (i:=1) Z)) (iU ((hQ2.rd M3 (bH (i:=1) Z)).below_len (aG aF (by rw [List.getElem?_set_self hilt]:(m.set i bl)[i]? = some bl)))) Z) ?_
  refine bP Z Z Z (dP (o:=0) (.int _ _) bV (hQ2.rd M3 (bH (i:=1) Z)) (aG aF (by rw [List.getElem?_set_self hilt]:(m.set i bl)[i]? = some bl)) Z Z) ?_
  refine eD Z Z Z (dL [true,true,true,true,true] Z (by kernel_rfl) (lO (enc:=(Value.int .i64)) 2 aCq M3 Z Z hs.map hps Z Z Z (fun e4 w4 hm4 M4 => ?_)))
  refine aB (aC ⟨dG, ?_⟩)
  refine bS (aC (aE (aA (wq (aH (.pointer _) Z) Z (wq (aH (.pointer _) Z) Z (wq (bK Z) Z (wq (aD 0 jZ Z) Z (wq (aK 0 (.slice _ _ _) gR M4 Z Z Z) Z (aR Z Z (wq (eV (0) (((n:Int) - 1)) dS Z Z ⟨_,Z⟩ (by decide) (by omega) (by have:=hs.row.slice;omega)) Z (wq (bK Z) Z (wq (aD 0 jZ Z) Z (dB 0 (.slice _ _ _) gR M4 Z Z Z Z Z Z (fun w5 M5=>(aB (aC (aE (aA (wq (aH (.pointer _) Z) Z (wq (bK Z) Z (wq (aD 1 oM Z) Z ?_)))))))))))))))))))))
  refine wq (aK 0 (.map _) xC M5 Z Z Z) Z (aR Z Z (bBm (enc:=(Value.int .i64)) 2 aCq M5 Z Z hm4 hps Z Z (fun e6 w6 hm6 M6=>(aB (aC (aE (aA (bJ Z Z (aB (aC (aP (cI (.int _ _) Z ?_))))))))))))
  have ha:mJ m key=(aAw m i,0):=by unfold mJ;rw [lJ,hi];simp only [];rw [if_neg (by omega),Int.toNat_natCast]
  have hn1:((n:Int) - 1).toNat=n - 1:=by omega
  exact ⟨by rw [ha],_,_,_,_,_,_,by rw [ha];exact hs.cut hbi hbk (by rw [hlen];exact hbl) (by rw [hi];rfl) (by omega) hQ2 hm6,M6.keep [true,true,true]⟩
theorem aVe (w:World) (b:Nat) (A:Option Addr) (n c:Nat) (p:Option Nat) (er em:eN) (m:List Body) (hs:StoreIs 43 A n c p er em m) (hO:Own [(some b,bc [.slice A n c,.map p] 73),er,em] w) :
  Calls prog 45 #[.pointer (some ⟨b,0,none⟩)] w (gK (fun v w'=>∃ A' n' c' e',v=.slice A' n' c'∧aZ 43 10 A' n' c' ((aDg m).map aF) e'∧Mem w (bZ [(some b,bc [.slice A n c,.map p] 73),er,em]) [(some b,bc [.slice A n c,.map p] 73),er,em,e'] w')):=by
 have hlen:m.length=n:=by simpa using hs.row.1
 have hcap:=hs.cap
 refine aI #[.tmp 2] 14 func45 Z results45 ntmps45 Z ?_
 have M0:=hO.mem
 refine aE (aA (eG Z Z (aB (aC (aE (aE (aA (wq (aH (.pointer _) Z) Z (wq (iB false underlying104 Z Z) Z (aB (aC (cF Z (aM (aC (aE (aA (wq (aH (.pointer _) Z) Z (wq (bK Z) Z (wq (aD 0 jZ Z) Z (wq (aK 0 (.slice _ _ _) gR M0 Z Z Z) Z (eL bVi Z Z (aJe _ _ _ _ _ (hs.row.rd M0 (bH (i:=1) Z)) (aRz m) (by omega)) ?_)))))))))))))))))))))
 rintro v1 w1 ⟨A1,n1,c1,e1,rfl,hR1,hM1,_⟩
 have M1:Mem _ _ [_,_,_,_] _:=M0.call0 hM1
 have hn1:n1=m.length:=by simpa using hR1.1.symm
 refine eG Z Z (aB (aC (aE (aA (dK Z Z (eL bVj Z Z (aDr 73 bVk aDs _ _ _ _ m _ hR1 (M1.ownAt (i:=3) Z) (by omega)) ?_))))))
 rintro v2 w2 ⟨rfl,ys2,e2,hp2,hu2,hR2,hM2⟩
 have M2:Mem _ _ [_,_,_,_] _:=M1.seg 3 1 hM2
 have hys:ys2=aDg m:=bBj hu2 (aHj m) (hp2.trans (qO m).symm) (hs.keys.perm hp2)
 rw [hys] at hR2
 refine aB (aC (aE (aA (dK Z Z (eG Z Z (aB (aC (aP (cI (.slice _ _ _) Z ?_)))))))))
 exact ⟨_,_,_,_,Z,hR2,M2⟩
theorem lP {x:Int} (h:0≤x∧x≤4294967295):IntKind.wrap .i32 x=lG x:=by
 unfold lG
 simp [IntKind.wrap,IntKind.bits,IntKind.signed]
 split <;> split <;> omega
theorem sP {n k:Int} (h:0≤n∧n≤4294967296) (hk:0 < k):IntKind.i64.wrap (n.tdiv k)=n / k:=by
 rw [Int.tdiv_eq_ediv_of_nonneg h.1]
 have h1:=Int.ediv_nonneg h.1 (Int.le_of_lt hk)
 have h2:n / k≤n:=Int.ediv_le_self k h.1
 exact fL _ (by omega) (by omega)
theorem aJp (w:World) (r:Row) (xs:List Int) (hr:aZ 5 1 r.A r.n r.c ((xs).map bL) r.e) (n:Int) (hn:0≤n∧n≤4294967295) (hl:r.n≤1048576) (hO:Own [r.e] w) :
  Calls prog 43 #[.slice r.A r.n r.c,.int .u32 n] w (gK (fun v w'=>∃ q:Row,v=.slice q.A q.n q.c∧q.n=r.n+4∧aZ 5 1 q.A q.n q.c ((xs++cZ n).map bL) q.e∧Mem w (bZ [r.e]) [q.e] w')):=by
 refine aI #[.tmp 4] 19 func43 Z results43 ntmps43 Z ?_
 have M0:=hO.mem
 refine aE (aA (eG Z Z (aB (aC (aE (aA (dK Z Z (aR Z Z (wq (kQ Z Z (by decide)) Z (aL 7 (.int .u32 (n / 16777216)) (iE (bLj n)) (wq (dF wV underlying5 Z) Z (aL 8 (.int .u8 (n / 16777216 % 256)) (iE (wr8 _)) (aR Z Z (wq (kQ Z Z (by decide)) Z (aL 10 (.int .u32 (n / 65536)) (iE (bLi n)) (wq (dF wV underlying5 Z) Z (aL 11 (.int .u8 (n / 65536 % 256)) (iE (wr8 _)) (aR Z Z (wq (kQ Z Z (by decide)) Z ?_)))))))))))))))))))
 refine aL 13 (.int .u32 (n / 256)) (iE (bSx n)) (wq (dF wV underlying5 rfl) rfl (aL 14 (.int .u8 (n / 256 % 256)) (iE (wr8 _)) (aR rfl rfl (wq (dF wV underlying5 rfl) rfl (aL 16 (.int .u8 (n % 256)) (iE (wr8 _)) (bW [.int _ _,.int _ _,.int _ _,.int _ _] ((cZ n).map bL) rfl gW M0 rfl rfl rfl rfl (cQ rfl) (by decide) (fun b1 w1 M1=>(cO 0 ((cZ n).map bL) gW M1 rfl rfl rfl rfl rfl hr rfl (by simp [cZ,bL,Go.Bil.one]) (dI.ofMem 1 M1 rfl) (by omega) (fun A2 c2 e2 w2 M2 hR2=>(eG rfl rfl (aB (aC (aP (cI (.slice _ _ _) rfl ?_))))))))))))))
 exact ⟨⟨A2,_,c2,e2⟩,Z,Z,by rw [List.map_append];exact hR2,M2.keep [true,false]⟩
theorem jM (w:World) (x:Int) :
  Calls prog 70 #[.int .i32 x] w (Rb w (.int .u32 (x % 4294967296))):=by
 refine aI #[.tmp 2] 5 func70 Z results70 ntmps70 Z ?_
 have M0:=Mem.refl w
 refine aE (aA (bJ Z Z (aB (aC (aE (aA (aR Z Z (wq (dF dZ underlying39 Z) Z (aL 4 (.int .u32 (x % 4294967296)) (iE (bIo _)) (bJ Z Z (aB (aC (aP (cI (.int _ _) Z ?_))))))))))))))
 exact ⟨Z,M0.below⟩
theorem aSq (w:World) (b:Body) :
  Calls prog 44 #[(.agg (aF b).toArray)] w (Rb w (.agg ((aCt b).map (Value.int .u32)).toArray)):=by
 refine aI #[.cell 2 108] 49 func44 Z results44 ntmps44 Z ?_
 have M0:=Mem.refl w
 refine aE (aA (bN (.agg (.mk _)) M0 Z Z Z (fun b1 w1 M1=>(aQ aNr M1 Z Z (fun b2 w2 M2=>(aB (aC (aE (aA (wq (aJ (.func _ _ _) Z) Z (aB (aC (aE (fY [(0,0),(1,1),(2,0),(3,0),(4,1),(6,0),(7,0),(8,0),(9,1),(11,0),(12,0),(13,0),(14,1),(16,0),(17,0),(18,1),(20,0),(21,0),(22,1),(24,0),(25,0),(26,0),(27,1),(29,0),(30,0),(31,0),(32,1),(34,0),(35,0),(36,0),(37,1),(39,0),(40,0),(41,0),(42,1),(5,2),(10,2),(15,2),(19,2),(23,2),(28,2),(33,2),(38,2),(43,2),(44,0),(45,2)] mixed M2 Z (by kernel_rfl) (fun w3 M3 => ?_)))))))))))))))
 refine aX Z Z Z (fun _=>aD 0 dV Z) (bP Z Z Z (aK 0 (.int _ _) bV M3 Z Z Z) (aX Z Z Z (fun _=>aH (.func _ _ _) Z) (aX Z Z Z (fun _=>aD 1 mI Z) (bP Z Z Z (aK 0 (.int _ _) aY M3 Z Z Z) (aX Z Z Z (fun _=>aH (.func _ _ _) Z) (aX Z Z Z (fun _=>aD 2 jN Z) (aX Z Z Z (fun _=>aD 0 cX Z) (bP Z Z Z (aK 0 (.int _ _) aY M3 Z Z Z) (aX Z Z Z (fun _=>aH (.func _ _ _) Z) (aX Z Z Z (fun _=>aD 2 jN Z) ?_))))))))))
 refine aX Z Z Z (fun _=>aD 1 cV Z) (bP Z Z Z (aK 0 (.int _ _) aY M3 Z Z Z) (aX Z Z Z (fun _=>aH (.func _ _ _) Z) (aX Z Z Z (fun _=>aD 4 eK Z) (bP Z Z Z (aK 0 (.int _ _) aY M3 Z Z Z) (aX Z Z Z (fun _=>aH (.func _ _ _) Z) (aX Z Z Z (fun _=>aD 5 oL Z) (bP Z Z Z (aK 0 (.int _ _) aY M3 Z Z Z) (aX Z Z Z (fun _=>aH (.func _ _ _) Z) (aX Z Z Z (fun _=>aD 6 fO Z) (aX Z Z Z (fun _=>aD 0 cX Z) ?_))))))))))
 refine bP Z Z Z (aK 0 (.int _ _) aY M3 Z Z Z) (aX Z Z Z (fun _=>aH (.func _ _ _) Z) (aX Z Z Z (fun _=>aD 6 fO Z) (aX Z Z Z (fun _=>aD 1 cV Z) (bP Z Z Z (aK 0 (.int _ _) aY M3 Z Z Z) (aX Z Z Z (fun _=>aH (.func _ _ _) Z) (aX Z Z Z (fun _=>aD 8 eC Z) (aX Z Z Z (fun _=>aD 0 cX Z) (bP Z Z Z (aK 0 (.int _ _) aY M3 Z Z Z) (aX Z Z Z (fun _=>aH (.func _ _ _) Z) (aX Z Z Z (fun _=>aD 8 eC Z) ?_))))))))))
 refine aX Z Z Z (fun _=>aD 1 cV Z) (bP Z Z Z (aK 0 (.int _ _) aY M3 Z Z Z) (dL [false,false,false,false,false,false,false,false,true,false] Z (by kernel_rfl) (dO yM Z Z M3 (jM _ b.radius) (fun w4 M4 => ?_))))
 refine aB (aC ⟨(dQ (bC Z (aK 0 (.int _ _) aY M4 Z Z Z)) (dQ (bC Z (aK 0 (.int _ _) aY M4 Z Z Z)) (dQ (bC Z (aK 0 (.int _ _) aY M4 Z Z Z)) (dQ (bC Z (aK 0 (.int _ _) aY M4 Z Z Z)) (dQ (bC Z (aK 0 (.int _ _) aY M4 Z Z Z)) (dQ (bC Z (aK 0 (.int _ _) aY M4 Z Z Z)) (dQ (bC Z (aK 0 (.int _ _) aY M4 Z Z Z)) (dQ (bC Z (aK 0 (.int _ _) aY M4 Z Z Z)) (dQ (bC Z (aK 0 (.int _ _) bV M4 Z Z Z)) dG))))))))), ?_⟩)
 refine dL [false,false,false,false,false,false,false,true,false] Z (by kernel_rfl) (dO yM Z Z M4 (jM _ b.ax) (fun w5 M5 => ?_))
 refine aB (aC ⟨(dQ (bC Z (aK 0 (.int _ _) aY M5 Z Z Z)) (dQ (bC Z (aK 0 (.int _ _) aY M5 Z Z Z)) (dQ (bC Z (aK 0 (.int _ _) aY M5 Z Z Z)) (dQ (bC Z (aK 0 (.int _ _) aY M5 Z Z Z)) (dQ (bC Z (aK 0 (.int _ _) aY M5 Z Z Z)) (dQ (bC Z (aK 0 (.int _ _) aY M5 Z Z Z)) (dQ (bC Z (aK 0 (.int _ _) aY M5 Z Z Z)) (dQ (bC Z (aK 0 (.int _ _) bV M5 Z Z Z)) dG)))))))), ?_⟩)
 refine dL [false,false,false,false,false,false,true,false] Z (by kernel_rfl) (dO yM Z Z M5 (jM _ b.ay) (fun w6 M6 => ?_))
 refine aB (aC ⟨(dQ (bC Z (aK 0 (.int _ _) aY M6 Z Z Z)) (dQ (bC Z (aK 0 (.int _ _) aY M6 Z Z Z)) (dQ (bC Z (aK 0 (.int _ _) aY M6 Z Z Z)) (dQ (bC Z (aK 0 (.int _ _) aY M6 Z Z Z)) (dQ (bC Z (aK 0 (.int _ _) aY M6 Z Z Z)) (dQ (bC Z (aK 0 (.int _ _) aY M6 Z Z Z)) (dQ (bC Z (aK 0 (.int _ _) bV M6 Z Z Z)) dG))))))), ?_⟩)
 refine dL [false,false,false,false,false,true,false] Z (by kernel_rfl) (dO yM Z Z M6 (jM _ b.mass) (fun w7 M7 => ?_))
 refine aB (aC ⟨(dQ (bC Z (aK 0 (.int _ _) aY M7 Z Z Z)) (dQ (bC Z (aK 0 (.int _ _) aY M7 Z Z Z)) (dQ (bC Z (aK 0 (.int _ _) aY M7 Z Z Z)) (dQ (bC Z (aK 0 (.int _ _) aY M7 Z Z Z)) (dQ (bC Z (aK 0 (.int _ _) aY M7 Z Z Z)) (dQ (bC Z (aK 0 (.int _ _) bV M7 Z Z Z)) dG)))))), ?_⟩)
 refine dL [false,false,false,false,true,false] Z (by kernel_rfl) (dO yM Z Z M7 (jM _ b.bounce) (fun w8 M8 => ?_))
 refine aB (aC ⟨(dQ (bC Z (aK 0 (.int _ _) aY M8 Z Z Z)) (dQ (bC Z (aK 0 (.int _ _) aY M8 Z Z Z)) (dQ (bC Z (aK 0 (.int _ _) aY M8 Z Z Z)) (dQ (bC Z (aK 0 (.int _ _) aY M8 Z Z Z)) (dQ (bC Z (aK 0 (.int _ _) bV M8 Z Z Z)) dG))))), ?_⟩)
 refine dL [false,false,false,true,false] Z (by kernel_rfl) (dO yM Z Z M8 (jM _ b.px) (fun w9 M9 => ?_))
 refine aB (aC ⟨(dQ (bC Z (aK 0 (.int _ _) aY M9 Z Z Z)) (dQ (bC Z (aK 0 (.int _ _) aY M9 Z Z Z)) (dQ (bC Z (aK 0 (.int _ _) aY M9 Z Z Z)) (dQ (bC Z (aK 0 (.int _ _) bV M9 Z Z Z)) dG)))), ?_⟩)
 refine dL [false,false,true,false] Z (by kernel_rfl) (dO yM Z Z M9 (jM _ b.py) (fun w10 M10 => ?_))
 refine aB (aC ⟨(dQ (bC Z (aK 0 (.int _ _) aY M10 Z Z Z)) (dQ (bC Z (aK 0 (.int _ _) aY M10 Z Z Z)) (dQ (bC Z (aK 0 (.int _ _) bV M10 Z Z Z)) dG))), ?_⟩)
 refine dL [false,true,false] Z (by kernel_rfl) (dO yM Z Z M10 (jM _ b.vx) (fun w11 M11 => ?_))
 refine aB (aC ⟨(dQ (bC Z (aK 0 (.int _ _) aY M11 Z Z Z)) (dQ (bC Z (aK 0 (.int _ _) bV M11 Z Z Z)) dG)), ?_⟩)
 refine dL [true,false] Z (by kernel_rfl) (dO yM Z Z M11 (jM _ b.vy) (fun w12 M12 => ?_))
 refine aB (aC ⟨(dQ (bC Z (aK 0 (.int _ _) bV M12 Z Z Z)) dG), ?_⟩)
 refine aX Z Z Z (fun _=>uP [.int _ _,.int _ _,.int _ _,.int _ _,.int _ _,.int _ _,.int _ _,.int _ _,.int _ _,.int _ _] jG aNr Z Z (cQ Z)) (dL [true] Z (by kernel_rfl) (bB 1 _ aRu M12 Z Z Z Z Z (aO Z) Z (fun w13 M13 => ?_)))
 refine aB (aC ⟨dG, ?_⟩)
 refine bS (aC (aP (eS 1 aRu M13 Z Z Z ?_)))
 exact ⟨Z,M13.below⟩
theorem kE (w:World) (A:Option Addr) (n c:Nat) (ls:List Int) (R:Rd w 1 A n (ls.map bL)) (hB:iK ls) (h4:4≤n) :
  Calls prog 65 #[.slice A n c] w (Rb w (.int .u32 (eJ ls 0))):=by
 have hlen:ls.length=n:=by simpa using R.len
 have hbd:=R.bound
 obtain ⟨x0,hx0⟩:=cT (xs:=ls) (k:=0) hlen (by omega)
 obtain ⟨x1,hx1⟩:=cT (xs:=ls) (k:=1) hlen (by omega)
 obtain ⟨x2,hx2⟩:=cT (xs:=ls) (k:=2) hlen (by omega)
 obtain ⟨x3,hx3⟩:=cT (xs:=ls) (k:=3) hlen (by omega)
 obtain ⟨g0,g1⟩:=hB x0 (List.mem_of_getElem? hx0)
 obtain ⟨g2,g3⟩:=hB x1 (List.mem_of_getElem? hx1)
 obtain ⟨g4,g5⟩:=hB x2 (List.mem_of_getElem? hx2)
 obtain ⟨g6,g7⟩:=hB x3 (List.mem_of_getElem? hx3)
 have hnum:eJ ls 0=((x0*256+x1)*256+x2)*256+x3:=by unfold eJ;simp only [List.getD_eq_getElem?_getD,Nat.zero_add,hx0,hx1,hx2,hx3,Option.getD_some]
 obtain ⟨b0,rfl⟩:=Int.eq_ofNat_of_zero_le g0
 obtain ⟨b1,rfl⟩:=Int.eq_ofNat_of_zero_le g2
 obtain ⟨b2,rfl⟩:=Int.eq_ofNat_of_zero_le g4
 obtain ⟨b3,rfl⟩:=Int.eq_ofNat_of_zero_le g6
 refine aI #[.tmp 2] 25 func65 Z results65 ntmps65 Z ?_
 have M0:=Mem.refl w
 refine aE (aA (bJ Z Z (aB (aC (aE (fY [(0,0),(1,1),(2,1),(3,0),(4,0),(5,0),(6,1),(7,1),(8,0),(9,0),(10,0),(11,0),(12,1),(13,1),(14,0),(15,0),(16,0),(17,0),(18,1),(19,1),(20,0),(21,0),(22,0)] mixed M0 Z (by kernel_rfl) (fun w1 M1=>(jY Z Z Z (bP Z Z Z (bI (0) gW Z Z Z ((R.mem M1).below_len (aG bL hx0)) ((R.mem M1).someK (aG bL hx0))) (bP Z Z Z (iC (.int _ _) aIv (R.mem M1) (aG bL hx0) Z) (aX Z Z Z (fun _=>bG us5 underlying39 Z (aIb _ (by omega) (by omega))) ?_)))))))))))
 refine aX Z Z Z (fun _=>zV Z Z (by decide)) (dX 7 (.int .u32 ((b0*16777216:Nat):Int)) (iE (bLh b0 (by omega))) (jY Z Z Z (bP Z Z Z (bI (1) gW Z Z Z ((R.mem M1).below_len (aG bL hx1)) ((R.mem M1).someK (aG bL hx1))) (bP Z Z Z (iC (.int _ _) aIv (R.mem M1) (aG bL hx1) Z) (aX Z Z Z (fun _=>bG us5 underlying39 Z (aIb _ (by omega) (by omega))) (aX Z Z Z (fun _=>zV Z Z (by decide)) (dX 12 (.int .u32 ((b1*65536:Nat):Int)) (iE (bLg b1 (by omega))) (aX Z Z Z (fun _=>cE (.int _ _) Z Z Z) ?_))))))))
 refine dX 13 (.int .u32 ((b0*16777216+b1*65536:Nat):Int)) (iE (bSv b0 (b0*16777216) (b1*65536) 24 Z (show b1*65536 < 16777216 by omega) (by omega))) (jY Z Z Z (bP Z Z Z (bI (2) gW Z Z Z ((R.mem M1).below_len (aG bL hx2)) ((R.mem M1).someK (aG bL hx2))) (bP Z Z Z (iC (.int _ _) aIv (R.mem M1) (aG bL hx2) Z) (aX Z Z Z (fun _=>bG us5 underlying39 Z (aIb _ (by omega) (by omega))) (aX Z Z Z (fun _=>zV Z Z (by decide)) (dX 18 (.int .u32 ((b2*256:Nat):Int)) (iE (bSw b2 (by omega))) ?_))))))
 refine aX Z Z Z (fun _=>cE (.int _ _) Z Z Z) (dX 19 (.int .u32 ((b0*16777216+b1*65536+b2*256:Nat):Int)) (iE (bSv (b0*256+b1) (b0*16777216+b1*65536) (b2*256) 16 (show (b0*256+b1)*65536=_ by omega) (show b2*256 < 65536 by omega) (by omega))) (jY Z Z Z (bP Z Z Z (bI (3) gW Z Z Z ((R.mem M1).below_len (aG bL hx3)) ((R.mem M1).someK (aG bL hx3))) (bP Z Z Z (iC (.int _ _) aIv (R.mem M1) (aG bL hx3) Z) (aX Z Z Z (fun _=>bG us5 underlying39 Z (aIb _ (by omega) (by omega))) ?_)))))
 refine aX Z Z Z (fun _=>cE (.int _ _) Z Z Z) (dX 24 (.int .u32 ((b0*16777216+b1*65536+b2*256+b3:Nat):Int)) (iE (bSv (b0*65536+b1*256+b2) (b0*16777216+b1*65536+b2*256) b3 8 (show (b0*65536+b1*256+b2)*256=_ by omega) (show b3 < 256 by omega) (by omega))) (nF Z Z Z (bS (aC (aP (cI (.int _ _) Z ?_))))))
 exact ⟨iE (by rw [hnum];omega),M1.below⟩
theorem iX (w:World) (n:Int) (hn:0≤n∧n≤4294967295) :
  Calls prog 66 #[.int .i64 n] w (Rb w (.int .i64 (8+40*n))):=by
 refine aI #[.tmp 2] 6 func66 Z results66 ntmps66 Z ?_
 have M0:=Mem.refl w
 refine aE (aA (bJ Z Z (aB (aC (aE (aA (aR Z Z (wq (fF Z Z (by omega) (by omega)) Z (wq (bA Z Z (by omega) (by omega)) Z (bJ Z Z (aB (aC (aP (cI (.int _ _) Z ?_))))))))))))))
 exact ⟨iE (by omega),M0.below⟩
theorem aDk (w:World) (b:Nat) (x0 x1 x2 x3 x4 x5 x6 x7 x8 x9:Int) (h0:0≤x2∧x2≤4294967295) (h1:0≤x3∧x3≤4294967295) (hO:Own [(some b,bc [.int .u32 x0,.int .u32 x1,.int .u32 x2,.int .u32 x3,.int .u32 x4,.int .u32 x5,.int .u32 x6,.int .u32 x7,.int .u32 x8,.int .u32 x9] 108)] w) :
  Calls prog 93 #[.int .i64 2,.pointer (some ⟨b,0,none⟩)] w (gK (fun v w'=>v=.agg [.int .i32 (lG x2),.int .i32 (lG x3)].toArray∧Mem w (bZ [(some b,bc [.int .u32 x0,.int .u32 x1,.int .u32 x2,.int .u32 x3,.int .u32 x4,.int .u32 x5,.int .u32 x6,.int .u32 x7,.int .u32 x8,.int .u32 x9] 108)]) [(some b,bc [.int .u32 x0,.int .u32 x1,.int .u32 x2,.int .u32 x3,.int .u32 x4,.int .u32 x5,.int .u32 x6,.int .u32 x7,.int .u32 x8,.int .u32 x9] 108)] w')):=by
 refine aI #[.cell 3 41] 14 func93 Z results93 ntmps93 Z ?_
 have M0:=hO.mem
 refine aE (aA (aQ jD M0 Z Z (fun b1 w1 M1=>(aB (aC (aE (fY [(0,0),(1,0),(2,1),(3,0),(4,0),(5,0),(6,0),(7,1),(8,0),(9,0),(10,2)] mixed M1 Z (by kernel_rfl) (fun w2 M2=>(eD Z Z Z (aX Z Z Z (fun _=>cH (2) jG Z Z Z (by decide)) (bP Z Z Z (aK 0 (.int _ _) bV M2 Z Z Z) (aX Z Z Z (fun _=>dF wV underlying21 Z) (dX 7 (.int .i32 (lG x2)) (iE (lP h0)) (eD Z Z Z (aX Z Z Z (fun _=>bA Z Z (by first | decide | omega) (by first | decide | omega)) (aX Z Z Z (fun _=>cH (3) jG Z Z Z (by decide)) ?_))))))))))))))))
 refine bP Z Z Z (aK 0 (.int _ _) bV M2 Z Z Z) (aX Z Z Z (fun _=>dF wV underlying21 Z) (dX 12 (.int .i32 (lG x3)) (iE (lP h1)) (aX Z Z Z (fun _=>cD [(0,.int _ _),(1,.int _ _)] _ fB Z Z) (dL [true,true] Z (by kernel_rfl) (bB 1 _ bO M2 Z Z Z Z Z (aO Z) Z (fun w3 M3 => ?_))))))
 refine aB (aC ⟨dG, ?_⟩)
 refine bS (aC (aP (eS 1 bO M3 Z Z Z ?_)))
 exact ⟨Z,M3.keep [true,false]⟩
theorem aDl (w:World) (b:Nat) (x0 x1 x2 x3 x4 x5 x6 x7 x8 x9:Int) (h0:0≤x6∧x6≤4294967295) (h1:0≤x7∧x7≤4294967295) (hO:Own [(some b,bc [.int .u32 x0,.int .u32 x1,.int .u32 x2,.int .u32 x3,.int .u32 x4,.int .u32 x5,.int .u32 x6,.int .u32 x7,.int .u32 x8,.int .u32 x9] 108)] w) :
  Calls prog 93 #[.int .i64 6,.pointer (some ⟨b,0,none⟩)] w (gK (fun v w'=>v=.agg [.int .i32 (lG x6),.int .i32 (lG x7)].toArray∧Mem w (bZ [(some b,bc [.int .u32 x0,.int .u32 x1,.int .u32 x2,.int .u32 x3,.int .u32 x4,.int .u32 x5,.int .u32 x6,.int .u32 x7,.int .u32 x8,.int .u32 x9] 108)]) [(some b,bc [.int .u32 x0,.int .u32 x1,.int .u32 x2,.int .u32 x3,.int .u32 x4,.int .u32 x5,.int .u32 x6,.int .u32 x7,.int .u32 x8,.int .u32 x9] 108)] w')):=by
 refine aI #[.cell 3 41] 14 func93 Z results93 ntmps93 Z ?_
 have M0:=hO.mem
 refine aE (aA (aQ jD M0 Z Z (fun b1 w1 M1=>(aB (aC (aE (fY [(0,0),(1,0),(2,1),(3,0),(4,0),(5,0),(6,0),(7,1),(8,0),(9,0),(10,2)] mixed M1 Z (by kernel_rfl) (fun w2 M2=>(eD Z Z Z (aX Z Z Z (fun _=>cH (6) jG Z Z Z (by decide)) (bP Z Z Z (aK 0 (.int _ _) bV M2 Z Z Z) (aX Z Z Z (fun _=>dF wV underlying21 Z) (dX 7 (.int .i32 (lG x6)) (iE (lP h0)) (eD Z Z Z (aX Z Z Z (fun _=>bA Z Z (by first | decide | omega) (by first | decide | omega)) (aX Z Z Z (fun _=>cH (7) jG Z Z Z (by decide)) ?_))))))))))))))))
 refine bP Z Z Z (aK 0 (.int _ _) bV M2 Z Z Z) (aX Z Z Z (fun _=>dF wV underlying21 Z) (dX 12 (.int .i32 (lG x7)) (iE (lP h1)) (aX Z Z Z (fun _=>cD [(0,.int _ _),(1,.int _ _)] _ fB Z Z) (dL [true,true] Z (by kernel_rfl) (bB 1 _ bO M2 Z Z Z Z Z (aO Z) Z (fun w3 M3 => ?_))))))
 refine aB (aC ⟨dG, ?_⟩)
 refine bS (aC (aP (eS 1 bO M3 Z Z Z ?_)))
 exact ⟨Z,M3.keep [true,false]⟩
theorem aDm (w:World) (b:Nat) (x0 x1 x2 x3 x4 x5 x6 x7 x8 x9:Int) (h0:0≤x8∧x8≤4294967295) (h1:0≤x9∧x9≤4294967295) (hO:Own [(some b,bc [.int .u32 x0,.int .u32 x1,.int .u32 x2,.int .u32 x3,.int .u32 x4,.int .u32 x5,.int .u32 x6,.int .u32 x7,.int .u32 x8,.int .u32 x9] 108)] w) :
  Calls prog 93 #[.int .i64 8,.pointer (some ⟨b,0,none⟩)] w (gK (fun v w'=>v=.agg [.int .i32 (lG x8),.int .i32 (lG x9)].toArray∧Mem w (bZ [(some b,bc [.int .u32 x0,.int .u32 x1,.int .u32 x2,.int .u32 x3,.int .u32 x4,.int .u32 x5,.int .u32 x6,.int .u32 x7,.int .u32 x8,.int .u32 x9] 108)]) [(some b,bc [.int .u32 x0,.int .u32 x1,.int .u32 x2,.int .u32 x3,.int .u32 x4,.int .u32 x5,.int .u32 x6,.int .u32 x7,.int .u32 x8,.int .u32 x9] 108)] w')):=by
 refine aI #[.cell 3 41] 14 func93 Z results93 ntmps93 Z ?_
 have M0:=hO.mem
 refine aE (aA (aQ jD M0 Z Z (fun b1 w1 M1=>(aB (aC (aE (fY [(0,0),(1,0),(2,1),(3,0),(4,0),(5,0),(6,0),(7,1),(8,0),(9,0),(10,2)] mixed M1 Z (by kernel_rfl) (fun w2 M2=>(eD Z Z Z (aX Z Z Z (fun _=>cH (8) jG Z Z Z (by decide)) (bP Z Z Z (aK 0 (.int _ _) bV M2 Z Z Z) (aX Z Z Z (fun _=>dF wV underlying21 Z) (dX 7 (.int .i32 (lG x8)) (iE (lP h0)) (eD Z Z Z (aX Z Z Z (fun _=>bA Z Z (by first | decide | omega) (by first | decide | omega)) (aX Z Z Z (fun _=>cH (9) jG Z Z Z (by decide)) ?_))))))))))))))))
 refine bP Z Z Z (aK 0 (.int _ _) bV M2 Z Z Z) (aX Z Z Z (fun _=>dF wV underlying21 Z) (dX 12 (.int .i32 (lG x9)) (iE (lP h1)) (aX Z Z Z (fun _=>cD [(0,.int _ _),(1,.int _ _)] _ fB Z Z) (dL [true,true] Z (by kernel_rfl) (bB 1 _ bO M2 Z Z Z Z Z (aO Z) Z (fun w3 M3 => ?_))))))
 refine aB (aC ⟨dG, ?_⟩)
 refine bS (aC (aP (eS 1 bO M3 Z Z Z ?_)))
 exact ⟨Z,M3.keep [true,false]⟩
theorem aMa (w:World) (x0 x1 x2 x3 x4 x5 x6 x7 x8 x9:Int) (hx:∀ x∈([x0,x1,x2,x3,x4,x5,x6,x7,x8,x9]:List Int),0≤x∧x≤4294967295) :
  Calls prog 67 #[.agg [.int .u32 x0,.int .u32 x1,.int .u32 x2,.int .u32 x3,.int .u32 x4,.int .u32 x5,.int .u32 x6,.int .u32 x7,.int .u32 x8,.int .u32 x9].toArray] w (Rb w ((.agg (aF (⟨x0,lG x1,lG x2,lG x3,lG x4,lG x5,lG x6,lG x7,lG x8,lG x9⟩:Body)).toArray))):=by
 refine aI #[.cell 2 43] 23 func67 Z results67 ntmps67 Z ?_
 have M0:=Mem.refl w
 refine aE (aA (bN (.agg (.mk _)) M0 Z Z Z (fun b1 w1 M1=>(aQ fX M1 Z Z (fun b2 w2 M2=>(aB (aC (aE (aA (wq (dW [] [.pointer _] Z Z) Z (wq (aJ (.func _ _ _) Z) Z (aB (aC (aE (fY [(0,0),(1,1),(2,0),(3,1),(4,0),(5,0),(7,0),(8,1),(9,0),(10,0),(11,1),(12,0),(13,0),(15,0),(6,2),(14,2),(16,2),(17,0),(18,2)] mixed M2 Z (by kernel_rfl) (fun w3 M3=>(aX Z Z Z (fun _=>cH (0) jG Z Z Z (by decide)) (bP Z Z Z (aK 0 (.int _ _) bV M3 Z Z Z) (aX Z Z Z (fun _=>cH (1) jG Z Z Z (by decide)) ?_)))))))))))))))))))
 refine bP rfl rfl rfl (aK 0 (.int _ _) bV M3 rfl rfl rfl) (aX rfl rfl rfl (fun _=>dF wV underlying21 rfl) (dX 9 (.int .i32 (lG x1)) (iE (lP (hx _ (by simp)))) (aX rfl rfl rfl (fun _=>aH (.func _ _ _) rfl) (aX rfl rfl rfl (fun _=>cH (4) jG rfl rfl rfl (by decide)) (bP rfl rfl rfl (aK 0 (.int _ _) bV M3 rfl rfl rfl) (aX rfl rfl rfl (fun _=>dF wV underlying21 rfl) (dX 14 (.int .i32 (lG x4)) (iE (lP (hx _ (by simp)))) (aX rfl rfl rfl (fun _=>cH (5) jG rfl rfl rfl (by decide)) (bP rfl rfl rfl (aK 0 (.int _ _) bV M3 rfl rfl rfl) ?_)))))))))
 refine aX rfl rfl rfl (fun _=>dF wV underlying21 rfl) (dX 17 (.int .i32 (lG x5)) (iE (lP (hx _ (by simp)))) (aX rfl rfl rfl (fun _=>aH (.func _ _ _) rfl) (aX rfl rfl rfl (fun _=>aH (.func _ _ _) rfl) (dL [false,false,false,false] rfl (by kernel_rfl) (eL bDz rfl rfl (aDk _ b1 x0 x1 x2 x3 x4 x5 x6 x7 x8 x9 (hx _ (by simp)) (hx _ (by simp)) (M3.ownSeg 0 1)) ?_)))))
 rintro v4 w4 ⟨rfl,hM4⟩
 have M4:Mem _ _ [_,_] _:=M3.seg 0 1 hM4
 refine aB (aC ⟨(dQ (bC Z (aK 0 (.int _ _) bV M4 Z Z Z)) (dQ (bC Z (aK 0 (.int _ _) bV M4 Z Z Z)) (dQ (bC Z (aK 0 (.int _ _) bV M4 Z Z Z)) (dQ (bC Z (aK 0 (.int _ _) bV M4 Z Z Z)) dG)))), ?_⟩)
 refine dL [false,false,false,false] rfl (by kernel_rfl) (eL bDz rfl rfl (aDl _ b1 x0 x1 x2 x3 x4 x5 x6 x7 x8 x9 (hx _ (by simp)) (hx _ (by simp)) (M4.ownSeg 0 1)) ?_)
 rintro v5 w5 ⟨rfl,hM5⟩
 have M5:Mem _ _ [_,_] _:=M4.seg 0 1 hM5
 refine aB (aC ⟨(dQ (bC Z (aK 0 (.int _ _) bV M5 Z Z Z)) (dQ (bC Z (aK 0 (.int _ _) bV M5 Z Z Z)) (dQ (bC Z (aK 0 (.int _ _) bV M5 Z Z Z)) (dQ (bC Z (aK 0 (.int _ _) bV M5 Z Z Z)) dG)))), ?_⟩)
 refine dL [false,false,false,false] rfl (by kernel_rfl) (eL bDz rfl rfl (aDm _ b1 x0 x1 x2 x3 x4 x5 x6 x7 x8 x9 (hx _ (by simp)) (hx _ (by simp)) (M5.ownSeg 0 1)) ?_)
 rintro v6 w6 ⟨rfl,hM6⟩
 have M6:Mem _ _ [_,_] _:=M5.seg 0 1 hM6
 refine aB (aC ⟨(dQ (bC Z (aK 0 (.int _ _) bV M6 Z Z Z)) (dQ (bC Z (aK 0 (.int _ _) bV M6 Z Z Z)) (dQ (bC Z (aK 0 (.int _ _) bV M6 Z Z Z)) (dQ (bC Z (aK 0 (.int _ _) bV M6 Z Z Z)) dG)))), ?_⟩)
 refine aX Z Z Z (fun _=>cD [(0,.int _ _),(1,.int _ _),(2,.agg (List.toArray _)),(3,.int _ _),(4,.int _ _),(5,.agg (List.toArray _)),(6,.agg (List.toArray _))] _ uX Z Z) (dL [true,true,true,true] Z (by kernel_rfl) (bB 1 _ bR M6 Z Z Z Z Z (aO Z) Z (fun w7 M7 => ?_)))
 refine aB (aC ⟨dG, ?_⟩)
 refine bS (aC (aP (eS 1 bR M7 Z Z Z ?_)))
 exact ⟨Z,M7.below⟩
theorem aLz (w:World) (A:Option Addr) (n c:Nat) (xs:List Body) (R:Rd w 10 A n (xs.map aF)) (hn:n≤4096) (hc:jH xs=0) (hb:∀ b∈xs,InB b) :
  Calls prog 35 #[.slice A n c] w (gK (fun v w'=>∃ q:Row,v=.tuple #[.slice q.A q.n q.c,.int .i64 0]∧aZ 5 1 q.A q.n q.c ((kN xs).map bL) q.e∧Mem w [] [q.e] w')):=by
 have hlen:xs.length=n:=by simpa using R.len
 have hbd:=R.bound
 refine aI #[.tmp 2,.tmp 3] 38 func35 Z results35 ntmps35 Z ?_
 have M0:=Mem.refl w
 refine aE (aA (eG Z Z (bJ Z Z (aB (aC (aE (aE (aA (dK Z Z (dO bNl Z Z M0 (aHt _ _ _ _ xs (R.mem M0)) (fun w1 M1=>(bJ Z Z (aB (aC (aE (aA (aR Z Z (cY Z Z Z Z (oZ 13 Z (fun h=>h hc) (aB (aC (cF Z (aM (aC (aE (aA (bW [.int _ _,.int _ _,.int _ _,.int _ _] (mP.map bL) Z gW M1 Z Z Z Z (cQ Z) (by decide) (fun b2 w2 M2 => ?_))))))))))))))))))))))))))))
 have hlit15:=lE (T:=5) (b:=b2) (mP.map bL) (sU _) rfl (by decide)
 refine aXy 0 underlying34 underlying5 M2 Z Z Z Z hlit15 (by decide) (fun e3 w3 M3 hR3=>(dK Z Z (wq (cK underlying46 Z) Z (wq (bG us3 underlying39 Z (aIb _ (by omega) (by omega))) Z (eL bNm Z Z (aJp _ ⟨(some ⟨b2,0,none⟩),4,4,e3⟩ mP hR3 (n:Int) (by omega) (by first | omega | exact (show 4≤1048576 by decide)) (M3.ownSeg 0 1)) ?_)))))
 rintro v4 w4 ⟨q0,rfl,hnq0,hq0,hM4⟩
 have M4:Mem _ _ [_] _:=M3.seg 0 1 hM4
 refine eG Z Z (aB (aC (aE (aE (aA (dK Z Z (wq (cK underlying46 Z) Z (aR Z Z (aB (aC (aS (dM (σ:=Nat × Row) [2,3,21,22] (fun (k,q)=>[(5,.slice q.A q.n q.c),(23,.int .i64 (k:Int))]) (fun (k,q) w'=>(k≤n∧q.n=8+40*k∧aZ 5 1 q.A q.n q.c (((mP++cZ (n:Int))++(xs.take k).flatMap nT).map bL) q.e)∧Mem w [] [q.e] w') (fun (k,q)=>n - k) (0,q0) (bE Z (bE Z eB)) (⟨⟨by omega,hnq0,by rw [List.take_zero,List.flatMap_nil,List.append_nil];exact hq0⟩,M4⟩) ?_))))))))))))
 rintro ⟨k,q⟩ ρ5 w5 ⟨⟨hk,hqn,hq⟩,hM5⟩
 refine aE (aA (cY Z Z Z Z (aB (aC (aE ?_)))))
 refine aW Z (fun h24 => ?_) (fun h24 => ?_)
 ·obtain ⟨xb,hxb⟩:=cT (xs:=xs) (k:=k) hlen (by omega)
  have hxi:=bAh (hb xb (List.mem_of_getElem? hxb))
  refine aM (aC (aE (aS (aE (aA (wq (bI (k) dS Z Z Z ((R.mem hM5).below_len (aG aF hxb)) ((R.mem hM5).someK (aG aF hxb))) Z (wq (dN _ bR (R.mem hM5) (aG aF hxb) Z) Z (aQ fX hM5 Z Z (fun b6 w6 M6=>(bB 1 _ bR M6 Z Z Z Z Z (aO Z) Z (fun w7 M7=>(aB (aC (aE (aA (wq (aU 1 bR M7 Z Z Z) Z (dO bUl Z Z M7 (aSq _ xb) (fun w8 M8=>(aR Z Z (aB (aC (aS (dM (σ:=Nat × Row) [2,3,21,22,23,28] (fun (j,p)=>[(5,.slice p.A p.n p.c),(29,.int .i64 (j:Int))]) (fun (j,p) w'=>(j≤10∧p.n=q.n+4*j∧aZ 5 1 p.A p.n p.c (((mP++cZ (n:Int))++(xs.take k).flatMap nT++((aCt xb).take j).flatMap cZ).map bL) p.e)∧Mem w [] [p.e,(some b6,bc (aF xb) 43)] w') (fun (j,p)=>10 - j) (0,q) (bE Z (bE Z eB)) (⟨⟨by omega,by omega,by rw [List.take_zero,List.flatMap_nil,List.append_nil];exact hq⟩,M8⟩) ?_)))))))))))))))))))))))
  rintro ⟨j,p⟩ ρ9 w9 ⟨⟨hj,hpn,hp⟩,hM9⟩
  refine aE (aA (cY Z Z Z Z (aB (aC (aE ?_)))))
  refine aW Z (fun h30 => ?_) (fun h30 => ?_)
  ·obtain ⟨x,hx⟩:=cT (xs:=aCt xb) (k:=j) (n:=10) rfl (by omega)
   have hxr:=hxi x (List.mem_of_getElem? hx)
   refine aM (aC (aE (aS (aE (aA ?_)))))
   refine wq (aBs (j) (.int .u32 x) jG bV Z Z (by omega) (by omega) Z (by rw [oE,List.getElem?_map,hx];rfl)) Z ?_
   refine bJ Z Z (aB (aC (aA (dK Z Z (aR Z Z (eL bNm Z Z (aJp _ p _ hp x hxr (by first | omega | exact (show 4≤1048576 by decide)) (hM9.ownSeg 0 1)) ?_))))))
   rintro v10 w10 ⟨p2,rfl,hnp2,hp2,hM10⟩
   have M10:Mem _ _ [_,_] _:=hM9.seg 0 1 hM10
   refine eG Z Z (aB (cU (aC (aA (wq (bA Z Z (by omega) (by omega)) Z (aR Z Z (aB ?_)))))))
   refine bX (j+1,p2) (bE Z (bE Z eB)) (cA Z (cA Z (cA Z (cA Z (cA Z (cA Z gL)))))) ?_ ?_
   ·exact ⟨⟨by omega,by omega,by rw [aZj hx,← List.append_assoc];exact hp2⟩,M10⟩
   ·(show 10 - (j+1) < 10 - j;omega)
  ·obtain rfl:j=10:=by omega
   rw [List.take_of_length_le (show (aCt xb).length≤10 from Nat.le_refl _)] at hp
   refine cS (dE (dH (eO (cU (aC (aA (wq (bA Z Z (by omega) (by omega)) Z (aR Z Z (aB ?_)))))))))
   refine bX (k+1,p) (bE Z (bE Z eB)) (cA Z (cA Z (cA Z (cA Z gL)))) ?_ ?_
   ·exact ⟨⟨by omega,by omega,by rw [aJx hxb,← bAg,← List.append_assoc];exact hp⟩,hM9.keep [true,false]⟩
   ·(show n - (k+1) < n - k;omega)
 ·obtain rfl:k=n:=by omega
  rw [List.take_of_length_le (by omega),← hlen] at hq
  refine cS (dE (dH (eO (aC (aE (aA (dK Z Z (eG Z Z (bJ Z Z (aB (aC (aP (gA (.slice _ _ _) (.int _ _) Z Z ?_)))))))))))))
  exact ⟨q,Z,hq,hM5⟩
theorem aLy (w:World) (A:Option Addr) (n c:Nat) (ls:List Int) (R:Rd w 1 A n (ls.map bL)) (hB:iK ls) (hcap:n≤c) (hn:n≤1048576) :
  Calls prog 40 #[.slice A n c] w (gK (fun v w'=>∃ r:Row,v=.tuple #[.slice r.A r.n r.c,.int .i64 (nS ls).2]∧aZ 43 10 r.A r.n r.c (((nS ls).1).map aF) r.e∧Mem w [] [r.e] w')):=by
 have hlen:ls.length=n:=by simpa using R.len
 have hbd:=R.bound
 refine aI #[.tmp 2,.tmp 3] 58 func40 Z results40 ntmps40 Z ?_
 have M0:=Mem.refl w
 refine aE (aA (eG Z Z (bJ Z Z (aB (aC (aE (aE (aA (dK Z Z (wq (cK underlying34 Z) Z (cY Z Z Z Z (wq (aH (.bool (decide _)) Z) Z ?_))))))))))))
 refine dT 13 Z (fun g13 => ?_) (fun g13 => ?_)
 ·refine aN Z Z (aN Z Z (aN Z Z (aN Z Z (wq (bQ true (.bool true) Z Z) Z (aB (aC (cG Z (aE (aA (eG Z Z (bJ Z Z (aB (aC (aP (cN (gA (.slice _ _ _) (.int _ _) Z Z ?_))))))))))))))))
  have hd:=vM (l:=ls) (fun h=>by have:=h.1;omega)
  exact ⟨⟨none,0,0,(none,default)⟩,by rw [hd],by rw [hd];exact aZ.nil _ _ _,(M0.keep []).dummy default⟩
 ·refine dK Z Z (wq (eV (0) (4) gW Z Z ⟨_,Z⟩ (by omega) (by omega) (by omega)) Z (wq (aNb underlying34 underlying5 underlying9 (Rd.subB (R.mem M0) (0) (4) (by omega) (by omega) hcap) Z) Z (wq (aQp Z Z) Z (wq (bQ false (.bool (decide _)) Z Z) Z (aB (aC ?_))))))
  refine aW Z (fun h18 => ?_) (fun h18 => ?_)
  ·refine aE (aA (eG Z Z (bJ Z Z (aB (aC (aP (cN (gA (.slice _ _ _) (.int _ _) Z Z ?_))))))))
   have hd:=vM (l:=ls) (fun h=>((wF ((ls.drop 0).take (4 - 0)) (hB.sub 0 4) [66,73,76,49]).1 h18) (by rw [← rA];simpa using h.2.1))
   exact ⟨⟨none,0,0,(none,default)⟩,by rw [hd],by rw [hd];exact aZ.nil _ _ _,(M0.keep []).dummy default⟩
  ·refine aM (aC (aE (aA (dK Z Z (wq (eV (4) (((n:Nat):Int)) gW Z ⟨_,Z⟩ Z (by omega) (by omega) (by omega)) Z (dO tX Z Z M0 (kE _ _ _ _ ((ls.drop (4)).take (n - (4))) (Rd.subB (R.mem M0) (4) (n) (by omega) (by omega) hcap) (hB.sub _ _) (by omega)) (fun w1 M1 => ?_)))))))
   have hr4:=nJ hB (a:=4) (by omega)
   obtain ⟨N,hN⟩:∃ N:Nat,eJ ls 4=(N:Int):=⟨(eJ ls 4).toNat,by omega⟩
   have hNl:N≤4294967295:=by omega
   refine aL 21 (.int .u32 (N:Int)) (iE ((fW (by omega)).trans hN)) (wq (bG wV underlying3 Z (fL _ (by omega) (by omega))) Z (bJ Z Z (aB (aC (aE (aE (aA (dK Z Z (wq (cK underlying34 Z) Z (aR Z Z (dO tY Z Z M1 (iX _ (N:Int) (by omega)) (fun w2 M2=>(cY Z Z Z Z (aB (aC ?_)))))))))))))))
   refine aW Z (fun h27 => ?_) (fun h27 => ?_)
   ·refine aE (aA (eG Z Z (bJ Z Z (aB (aC (aP (cN (gA (.slice _ _ _) (.int _ _) Z Z ?_))))))))
    have hd:=vM (l:=ls) (fun h=>h27 (by have:=h.2.2;rw [hN] at this;omega))
    exact ⟨⟨none,0,0,(none,default)⟩,by rw [hd],by rw [hd];exact aZ.nil _ _ _,(M2.keep []).dummy default⟩
   ·have hfm:aCa ls:=⟨by omega,by have h:=Decidable.not_not.1 (mt ((wF ((ls.drop 0).take (4 - 0)) (hB.sub 0 4) [66,73,76,49]).2) h18);rw [← rA] at h;simpa using h,by rw [hN];omega⟩
    refine aM (aC (aE (aA (eG Z Z ?_))))
    have M3:=M2.dummy default
    refine aB (aC (aE (aE (aA (aR Z Z (aR Z Z (aB (aC (aS (dM (σ:=Nat × Row) [0,2,3,28] (fun (i,q)=>[(5,.slice q.A q.n q.c),(29,.int .i64 (i:Int))]) (fun (i,q) w'=>(i≤N∧aZ 43 10 q.A q.n q.c ((pH ls i).map aF) q.e)∧Mem w [] [q.e] w') (fun (i,q)=>N - i) (0,fE) (bE Z (bE Z eB)) (⟨⟨by omega,aZ.nil _ _ _⟩,M3⟩) ?_))))))))))
    rintro ⟨i,q⟩ ρ4 w4 ⟨⟨hi,hq⟩,hM4⟩
    have hqn:(pH ls i).length=q.n:=by simpa using hq.1
    rw [yQ] at hqn
    refine aE (aA (cY Z Z Z Z (aB (aC (aE ?_)))))
    refine aW Z (fun h30 => ?_) (fun h30 => ?_)
    ·refine aM (aC (aE (aS (aE (aA (aR Z Z (bJ Z Z (aB (aC (aE (aA (aQ aNr hM4 Z Z (fun b5 w5 M5=>(aB (aC (aE (aE (aA (aR Z Z (aB (aC (aS (jL 11 (fS (aE (aA (cY Z Z Z Z (kT 33 Z (by first | decide | omega) (aB (aC (aE (cG Z (aM (aC (aE (aS (aE (aA (aR Z Z ?_)))))))))))))))))))))))))))))))))))))))
     refine bJ Z Z (aB (aC (aA (aR Z Z (dK Z Z (aR Z Z (dO tY Z Z M5 (iX _ (i:Int) (by omega)) (fun w6 M6=>(aR Z Z (wq (fF Z Z (by omega) (by omega)) Z (wq (bA Z Z (by omega) (by omega)) Z (aL 41 (.int .i64 ((8+40*i:Nat):Int)) (iE (by omega)) (wq (eV (((8+40*i:Nat):Int)) (((n:Nat):Int)) gW Z ⟨_,Z⟩ Z (by omega) (by omega) (by omega)) Z (dO tX Z Z M6 (kE _ _ _ _ ((ls.drop (8+40*i)).take (n - (8+40*i))) (Rd.subB (R.mem M6) (8+40*i) (n) (by omega) (by omega) hcap) (hB.sub _ _) (by omega)) (fun w7 M7 => ?_)))))))))))))))
     refine aL 43 (.int .u32 (eJ ls (8+40*i))) (iE (fW (by omega))) (wq (cH (0) jG Z Z Z (by decide)) Z (dB 1 (.int _ _) bV M7 Z Z Z Z Z Z (fun w8 M8=>(aB (cU (aC (aA (wq (bA Z Z (by first | decide | omega) (by first | decide | omega)) Z (aL 45 (.int .i64 1) (iE (by first | decide | omega)) (aR Z Z (aB (aC (fS (eH (fr:=[(0,.slice _ _ _),(2,.slice _ _ _),(3,.int .i64 0),(5,.slice _ _ _),(6,.int _ _),(7,.pointer _),(8,.int .i64 0),(28,.int _ _),(29,.int _ _),(32,.int .i64 1)]) (bE Z (bE Z (bE Z (bE Z (bE Z (bE Z (bE Z (bE Z (bE Z (bE Z eB)))))))))) (fun ρ9 => ?_)))))))))))))))
     refine aE (aA (cY Z Z Z Z (kT 33 Z (by first | decide | omega) (aB (aC (aE (cG Z (aM (aC (aE (aS (aE (aA (aR Z Z (bJ Z Z (aB (aC (aA (aR Z Z (dK Z Z (aR Z Z (dO tY Z Z M8 (iX _ (i:Int) (by omega)) (fun w10 M10=>(aR Z Z (wq (fF Z Z (by omega) (by omega)) Z (wq (bA Z Z (by omega) (by omega)) Z ?_))))))))))))))))))))))))))
     refine aL 41 (.int .i64 ((8+40*i+4:Nat):Int)) (iE (by omega)) (wq (eV (((8+40*i+4:Nat):Int)) (((n:Nat):Int)) gW Z ⟨_,Z⟩ Z (by omega) (by omega) (by omega)) Z (dO tX Z Z M10 (kE _ _ _ _ ((ls.drop (8+40*i+4)).take (n - (8+40*i+4))) (Rd.subB (R.mem M10) (8+40*i+4) (n) (by omega) (by omega) hcap) (hB.sub _ _) (by omega)) (fun w11 M11=>(aL 43 (.int .u32 (eJ ls (8+40*i+4))) (iE (fW (by omega))) (wq (cH (1) jG Z Z Z (by decide)) Z (dB 1 (.int _ _) bV M11 Z Z Z Z Z Z (fun w12 M12 => ?_)))))))
     refine aB (cU (aC (aA (wq (bA Z Z (by first | decide | omega) (by first | decide | omega)) Z (aL 45 (.int .i64 2) (iE (by first | decide | omega)) (aR Z Z (aB (aC (fS (eH (fr:=[(0,.slice _ _ _),(2,.slice _ _ _),(3,.int .i64 0),(5,.slice _ _ _),(6,.int _ _),(7,.pointer _),(8,.int .i64 1),(28,.int _ _),(29,.int _ _),(32,.int .i64 2)]) (bE Z (bE Z (bE Z (bE Z (bE Z (bE Z (bE Z (bE Z (bE Z (bE Z eB)))))))))) (fun ρ13=>(aE (aA (cY Z Z Z Z (kT 33 Z (by first | decide | omega) (aB (aC (aE ?_))))))))))))))))))
     refine cG Z (aM (aC (aE (aS (aE (aA (aR Z Z (bJ Z Z (aB (aC (aA (aR Z Z (dK Z Z (aR Z Z (dO tY Z Z M12 (iX _ (i:Int) (by omega)) (fun w14 M14=>(aR Z Z (wq (fF Z Z (by omega) (by omega)) Z (wq (bA Z Z (by omega) (by omega)) Z (aL 41 (.int .i64 ((8+40*i+8:Nat):Int)) (iE (by omega)) (wq (eV (((8+40*i+8:Nat):Int)) (((n:Nat):Int)) gW Z ⟨_,Z⟩ Z (by omega) (by omega) (by omega)) Z (dO tX Z Z M14 (kE _ _ _ _ ((ls.drop (8+40*i+8)).take (n - (8+40*i+8))) (Rd.subB (R.mem M14) (8+40*i+8) (n) (by omega) (by omega) hcap) (hB.sub _ _) (by omega)) (fun w15 M15 => ?_)))))))))))))))))))))))
     refine aL 43 (.int .u32 (eJ ls (8+40*i+8))) (iE (fW (by omega))) (wq (cH (2) jG Z Z Z (by decide)) Z (dB 1 (.int _ _) bV M15 Z Z Z Z Z Z (fun w16 M16=>(aB (cU (aC (aA (wq (bA Z Z (by first | decide | omega) (by first | decide | omega)) Z (aL 45 (.int .i64 3) (iE (by first | decide | omega)) (aR Z Z (aB (aC (fS (eH (fr:=[(0,.slice _ _ _),(2,.slice _ _ _),(3,.int .i64 0),(5,.slice _ _ _),(6,.int _ _),(7,.pointer _),(8,.int .i64 2),(28,.int _ _),(29,.int _ _),(32,.int .i64 3)]) (bE Z (bE Z (bE Z (bE Z (bE Z (bE Z (bE Z (bE Z (bE Z (bE Z eB)))))))))) (fun ρ17 => ?_)))))))))))))))
     refine aE (aA (cY Z Z Z Z (kT 33 Z (by first | decide | omega) (aB (aC (aE (cG Z (aM (aC (aE (aS (aE (aA (aR Z Z (bJ Z Z (aB (aC (aA (aR Z Z (dK Z Z (aR Z Z (dO tY Z Z M16 (iX _ (i:Int) (by omega)) (fun w18 M18=>(aR Z Z (wq (fF Z Z (by omega) (by omega)) Z (wq (bA Z Z (by omega) (by omega)) Z ?_))))))))))))))))))))))))))
     refine aL 41 (.int .i64 ((8+40*i+12:Nat):Int)) (iE (by omega)) (wq (eV (((8+40*i+12:Nat):Int)) (((n:Nat):Int)) gW Z ⟨_,Z⟩ Z (by omega) (by omega) (by omega)) Z (dO tX Z Z M18 (kE _ _ _ _ ((ls.drop (8+40*i+12)).take (n - (8+40*i+12))) (Rd.subB (R.mem M18) (8+40*i+12) (n) (by omega) (by omega) hcap) (hB.sub _ _) (by omega)) (fun w19 M19=>(aL 43 (.int .u32 (eJ ls (8+40*i+12))) (iE (fW (by omega))) (wq (cH (3) jG Z Z Z (by decide)) Z (dB 1 (.int _ _) bV M19 Z Z Z Z Z Z (fun w20 M20 => ?_)))))))
     refine aB (cU (aC (aA (wq (bA Z Z (by first | decide | omega) (by first | decide | omega)) Z (aL 45 (.int .i64 4) (iE (by first | decide | omega)) (aR Z Z (aB (aC (fS (eH (fr:=[(0,.slice _ _ _),(2,.slice _ _ _),(3,.int .i64 0),(5,.slice _ _ _),(6,.int _ _),(7,.pointer _),(8,.int .i64 3),(28,.int _ _),(29,.int _ _),(32,.int .i64 4)]) (bE Z (bE Z (bE Z (bE Z (bE Z (bE Z (bE Z (bE Z (bE Z (bE Z eB)))))))))) (fun ρ21=>(aE (aA (cY Z Z Z Z (kT 33 Z (by first | decide | omega) (aB (aC (aE ?_))))))))))))))))))
     refine cG Z (aM (aC (aE (aS (aE (aA (aR Z Z (bJ Z Z (aB (aC (aA (aR Z Z (dK Z Z (aR Z Z (dO tY Z Z M20 (iX _ (i:Int) (by omega)) (fun w22 M22=>(aR Z Z (wq (fF Z Z (by omega) (by omega)) Z (wq (bA Z Z (by omega) (by omega)) Z (aL 41 (.int .i64 ((8+40*i+16:Nat):Int)) (iE (by omega)) (wq (eV (((8+40*i+16:Nat):Int)) (((n:Nat):Int)) gW Z ⟨_,Z⟩ Z (by omega) (by omega) (by omega)) Z (dO tX Z Z M22 (kE _ _ _ _ ((ls.drop (8+40*i+16)).take (n - (8+40*i+16))) (Rd.subB (R.mem M22) (8+40*i+16) (n) (by omega) (by omega) hcap) (hB.sub _ _) (by omega)) (fun w23 M23 => ?_)))))))))))))))))))))))
     refine aL 43 (.int .u32 (eJ ls (8+40*i+16))) (iE (fW (by omega))) (wq (cH (4) jG Z Z Z (by decide)) Z (dB 1 (.int _ _) bV M23 Z Z Z Z Z Z (fun w24 M24=>(aB (cU (aC (aA (wq (bA Z Z (by first | decide | omega) (by first | decide | omega)) Z (aL 45 (.int .i64 5) (iE (by first | decide | omega)) (aR Z Z (aB (aC (fS (eH (fr:=[(0,.slice _ _ _),(2,.slice _ _ _),(3,.int .i64 0),(5,.slice _ _ _),(6,.int _ _),(7,.pointer _),(8,.int .i64 4),(28,.int _ _),(29,.int _ _),(32,.int .i64 5)]) (bE Z (bE Z (bE Z (bE Z (bE Z (bE Z (bE Z (bE Z (bE Z (bE Z eB)))))))))) (fun ρ25 => ?_)))))))))))))))
     refine aE (aA (cY Z Z Z Z (kT 33 Z (by first | decide | omega) (aB (aC (aE (cG Z (aM (aC (aE (aS (aE (aA (aR Z Z (bJ Z Z (aB (aC (aA (aR Z Z (dK Z Z (aR Z Z (dO tY Z Z M24 (iX _ (i:Int) (by omega)) (fun w26 M26=>(aR Z Z (wq (fF Z Z (by omega) (by omega)) Z (wq (bA Z Z (by omega) (by omega)) Z ?_))))))))))))))))))))))))))
     refine aL 41 (.int .i64 ((8+40*i+20:Nat):Int)) (iE (by omega)) (wq (eV (((8+40*i+20:Nat):Int)) (((n:Nat):Int)) gW Z ⟨_,Z⟩ Z (by omega) (by omega) (by omega)) Z (dO tX Z Z M26 (kE _ _ _ _ ((ls.drop (8+40*i+20)).take (n - (8+40*i+20))) (Rd.subB (R.mem M26) (8+40*i+20) (n) (by omega) (by omega) hcap) (hB.sub _ _) (by omega)) (fun w27 M27=>(aL 43 (.int .u32 (eJ ls (8+40*i+20))) (iE (fW (by omega))) (wq (cH (5) jG Z Z Z (by decide)) Z (dB 1 (.int _ _) bV M27 Z Z Z Z Z Z (fun w28 M28 => ?_)))))))
     refine aB (cU (aC (aA (wq (bA Z Z (by first | decide | omega) (by first | decide | omega)) Z (aL 45 (.int .i64 6) (iE (by first | decide | omega)) (aR Z Z (aB (aC (fS (eH (fr:=[(0,.slice _ _ _),(2,.slice _ _ _),(3,.int .i64 0),(5,.slice _ _ _),(6,.int _ _),(7,.pointer _),(8,.int .i64 5),(28,.int _ _),(29,.int _ _),(32,.int .i64 6)]) (bE Z (bE Z (bE Z (bE Z (bE Z (bE Z (bE Z (bE Z (bE Z (bE Z eB)))))))))) (fun ρ29=>(aE (aA (cY Z Z Z Z (kT 33 Z (by first | decide | omega) (aB (aC (aE ?_))))))))))))))))))
     refine cG Z (aM (aC (aE (aS (aE (aA (aR Z Z (bJ Z Z (aB (aC (aA (aR Z Z (dK Z Z (aR Z Z (dO tY Z Z M28 (iX _ (i:Int) (by omega)) (fun w30 M30=>(aR Z Z (wq (fF Z Z (by omega) (by omega)) Z (wq (bA Z Z (by omega) (by omega)) Z (aL 41 (.int .i64 ((8+40*i+24:Nat):Int)) (iE (by omega)) (wq (eV (((8+40*i+24:Nat):Int)) (((n:Nat):Int)) gW Z ⟨_,Z⟩ Z (by omega) (by omega) (by omega)) Z (dO tX Z Z M30 (kE _ _ _ _ ((ls.drop (8+40*i+24)).take (n - (8+40*i+24))) (Rd.subB (R.mem M30) (8+40*i+24) (n) (by omega) (by omega) hcap) (hB.sub _ _) (by omega)) (fun w31 M31 => ?_)))))))))))))))))))))))
     refine aL 43 (.int .u32 (eJ ls (8+40*i+24))) (iE (fW (by omega))) (wq (cH (6) jG Z Z Z (by decide)) Z (dB 1 (.int _ _) bV M31 Z Z Z Z Z Z (fun w32 M32=>(aB (cU (aC (aA (wq (bA Z Z (by first | decide | omega) (by first | decide | omega)) Z (aL 45 (.int .i64 7) (iE (by first | decide | omega)) (aR Z Z (aB (aC (fS (eH (fr:=[(0,.slice _ _ _),(2,.slice _ _ _),(3,.int .i64 0),(5,.slice _ _ _),(6,.int _ _),(7,.pointer _),(8,.int .i64 6),(28,.int _ _),(29,.int _ _),(32,.int .i64 7)]) (bE Z (bE Z (bE Z (bE Z (bE Z (bE Z (bE Z (bE Z (bE Z (bE Z eB)))))))))) (fun ρ33 => ?_)))))))))))))))
     refine aE (aA (cY Z Z Z Z (kT 33 Z (by first | decide | omega) (aB (aC (aE (cG Z (aM (aC (aE (aS (aE (aA (aR Z Z (bJ Z Z (aB (aC (aA (aR Z Z (dK Z Z (aR Z Z (dO tY Z Z M32 (iX _ (i:Int) (by omega)) (fun w34 M34=>(aR Z Z (wq (fF Z Z (by omega) (by omega)) Z (wq (bA Z Z (by omega) (by omega)) Z ?_))))))))))))))))))))))))))
     refine aL 41 (.int .i64 ((8+40*i+28:Nat):Int)) (iE (by omega)) (wq (eV (((8+40*i+28:Nat):Int)) (((n:Nat):Int)) gW Z ⟨_,Z⟩ Z (by omega) (by omega) (by omega)) Z (dO tX Z Z M34 (kE _ _ _ _ ((ls.drop (8+40*i+28)).take (n - (8+40*i+28))) (Rd.subB (R.mem M34) (8+40*i+28) (n) (by omega) (by omega) hcap) (hB.sub _ _) (by omega)) (fun w35 M35=>(aL 43 (.int .u32 (eJ ls (8+40*i+28))) (iE (fW (by omega))) (wq (cH (7) jG Z Z Z (by decide)) Z (dB 1 (.int _ _) bV M35 Z Z Z Z Z Z (fun w36 M36 => ?_)))))))
     refine aB (cU (aC (aA (wq (bA Z Z (by first | decide | omega) (by first | decide | omega)) Z (aL 45 (.int .i64 8) (iE (by first | decide | omega)) (aR Z Z (aB (aC (fS (eH (fr:=[(0,.slice _ _ _),(2,.slice _ _ _),(3,.int .i64 0),(5,.slice _ _ _),(6,.int _ _),(7,.pointer _),(8,.int .i64 7),(28,.int _ _),(29,.int _ _),(32,.int .i64 8)]) (bE Z (bE Z (bE Z (bE Z (bE Z (bE Z (bE Z (bE Z (bE Z (bE Z eB)))))))))) (fun ρ37=>(aE (aA (cY Z Z Z Z (kT 33 Z (by first | decide | omega) (aB (aC (aE ?_))))))))))))))))))
     refine cG Z (aM (aC (aE (aS (aE (aA (aR Z Z (bJ Z Z (aB (aC (aA (aR Z Z (dK Z Z (aR Z Z (dO tY Z Z M36 (iX _ (i:Int) (by omega)) (fun w38 M38=>(aR Z Z (wq (fF Z Z (by omega) (by omega)) Z (wq (bA Z Z (by omega) (by omega)) Z (aL 41 (.int .i64 ((8+40*i+32:Nat):Int)) (iE (by omega)) (wq (eV (((8+40*i+32:Nat):Int)) (((n:Nat):Int)) gW Z ⟨_,Z⟩ Z (by omega) (by omega) (by omega)) Z (dO tX Z Z M38 (kE _ _ _ _ ((ls.drop (8+40*i+32)).take (n - (8+40*i+32))) (Rd.subB (R.mem M38) (8+40*i+32) (n) (by omega) (by omega) hcap) (hB.sub _ _) (by omega)) (fun w39 M39 => ?_)))))))))))))))))))))))
     refine aL 43 (.int .u32 (eJ ls (8+40*i+32))) (iE (fW (by omega))) (wq (cH (8) jG Z Z Z (by decide)) Z (dB 1 (.int _ _) bV M39 Z Z Z Z Z Z (fun w40 M40=>(aB (cU (aC (aA (wq (bA Z Z (by first | decide | omega) (by first | decide | omega)) Z (aL 45 (.int .i64 9) (iE (by first | decide | omega)) (aR Z Z (aB (aC (fS (eH (fr:=[(0,.slice _ _ _),(2,.slice _ _ _),(3,.int .i64 0),(5,.slice _ _ _),(6,.int _ _),(7,.pointer _),(8,.int .i64 8),(28,.int _ _),(29,.int _ _),(32,.int .i64 9)]) (bE Z (bE Z (bE Z (bE Z (bE Z (bE Z (bE Z (bE Z (bE Z (bE Z eB)))))))))) (fun ρ41 => ?_)))))))))))))))
     refine aE (aA (cY Z Z Z Z (kT 33 Z (by first | decide | omega) (aB (aC (aE (cG Z (aM (aC (aE (aS (aE (aA (aR Z Z (bJ Z Z (aB (aC (aA (aR Z Z (dK Z Z (aR Z Z (dO tY Z Z M40 (iX _ (i:Int) (by omega)) (fun w42 M42=>(aR Z Z (wq (fF Z Z (by omega) (by omega)) Z (wq (bA Z Z (by omega) (by omega)) Z ?_))))))))))))))))))))))))))
     refine aL 41 (.int .i64 ((8+40*i+36:Nat):Int)) (iE (by omega)) (wq (eV (((8+40*i+36:Nat):Int)) (((n:Nat):Int)) gW Z ⟨_,Z⟩ Z (by omega) (by omega) (by omega)) Z (dO tX Z Z M42 (kE _ _ _ _ ((ls.drop (8+40*i+36)).take (n - (8+40*i+36))) (Rd.subB (R.mem M42) (8+40*i+36) (n) (by omega) (by omega) hcap) (hB.sub _ _) (by omega)) (fun w43 M43=>(aL 43 (.int .u32 (eJ ls (8+40*i+36))) (iE (fW (by omega))) (wq (cH (9) jG Z Z Z (by decide)) Z (dB 1 (.int _ _) bV M43 Z Z Z Z Z Z (fun w44 M44 => ?_)))))))
     refine aB (cU (aC (aA (wq (bA Z Z (by first | decide | omega) (by first | decide | omega)) Z (aL 45 (.int .i64 10) (iE (by first | decide | omega)) (aR Z Z (aB (aC (fS (eH (fr:=[(0,.slice _ _ _),(2,.slice _ _ _),(3,.int .i64 0),(5,.slice _ _ _),(6,.int _ _),(7,.pointer _),(8,.int .i64 9),(28,.int _ _),(29,.int _ _),(32,.int .i64 10)]) (bE Z (bE Z (bE Z (bE Z (bE Z (bE Z (bE Z (bE Z (bE Z (bE Z eB)))))))))) (fun ρ45=>(aE (aA (cY Z Z Z Z (oZ 33 Z (by first | decide | omega) (aB (aC (aE ?_))))))))))))))))))
     refine cF rfl (cS (dE (dE (eO (aC (aA (dK rfl rfl (wq (aU 1 aRu M44 rfl rfl rfl) rfl (dO bVf rfl rfl M44 (aMa _ _ _ _ _ _ _ _ _ _ _ (bWh hB (a:=8+40*i) (by omega))) (fun w46 M46=>(aL 48 ((.agg (aF (mN ls (8+40*i))).toArray)) rfl (bW [.agg (List.toArray _)] [aF (mN ls (8+40*i))] rfl dS M46 rfl rfl rfl rfl (cQ rfl) (by decide) (fun b47 w47 M47=>(cO 0 [aF (mN ls (8+40*i))] dS M47 rfl rfl rfl rfl rfl hq rfl (by simp [aF,Go.Bil.one]) (dI.ofMem 2 M47 rfl) (by omega) (fun A48 c48 e48 w48 M48 hR48 => ?_)))))))))))))))
     refine eG Z Z (aB (cU (aC (aA (wq (bA Z Z (by omega) (by omega)) Z (aR Z Z (aB ?_)))))))
     refine bX (i+1,⟨A48,q.n+1,c48,e48⟩) (bE Z (bE Z eB)) (cA Z (cA Z (cA Z (cA Z gL)))) ?_ ?_
     ·exact ⟨⟨by omega,by rw [aJt,List.map_append];exact hR48⟩,M48.keep [true,false,false]⟩
     ·(show N - (i+1) < N - i;omega)
    ·obtain rfl:i=N:=by omega
     refine cS (dE (dH (eO (aC (aE (aE (aA (dK Z Z (eL bNl Z Z (aHt _ _ _ _ (pH ls i) (hq.rd hM4 (bH (i:=0) Z))) ?_)))))))))
     rintro v49 w49 ⟨rfl,hb49⟩
     have M49:=hM4.callB hb49
     refine bJ Z Z (aB (aC (aE (aA (aR Z Z (cY Z Z Z Z (aB (aC ?_))))))))
     refine aW Z (fun h55 => ?_) (fun h55 => ?_)
     ·refine aE (aA (aR Z Z (eG Z Z (bJ Z Z (aB (aC (aP (cN (gA (.slice _ _ _) (.int _ _) Z Z ?_)))))))))
      have hd:=aWf hfm hN h55
      exact ⟨⟨none,0,0,(none,default)⟩,by rw [hd],by rw [hd];exact aZ.nil _ _ _,(M49.keep [false]).dummy default⟩
     ·refine aM (aC (aE (aA (dK Z Z (eG Z Z (bJ Z Z (aB (aC (aP (gA (.slice _ _ _) (.int _ _) Z Z ?_))))))))))
      have hd:=aOy hfm hN (Decidable.not_not.1 h55)
      exact ⟨q,by rw [hd],by rw [hd];exact hq,M49⟩
theorem jB (w:World) (n:Int) (hn : -2147483648≤n∧n≤4294967295) :
  Calls prog 39 #[.int .i64 n] w (gK (fun v w'=>∃ q:Row,v=.slice q.A q.n q.c∧q.n=4∧aZ 5 1 q.A q.n q.c ((cZ n).map bL) q.e∧Mem w [] [q.e] w')):=by
 obtain ⟨m,hm⟩:∃ m,m=n % 4294967296:=⟨_,rfl⟩
 have hmr:0≤m∧m≤4294967296:=by omega
 have hwm:cZ m=cZ n:=by rw [hm];exact wL n
 refine aI #[.tmp 2] 19 func39 Z results39 ntmps39 Z ?_
 have M0:=Mem.refl w
 refine aE (aA (eG Z Z (aB (aC (aE (aE (aA (aR Z Z (cY Z Z Z Z (aB (aC ?_)))))))))))
 refine aW Z (fun h4 => ?_) (fun h4 => ?_)
 ·refine aA (aR Z Z (wq (bA Z Z (by omega) (by omega)) Z (aL 6 (.int .i64 m) (iE (by omega)) (bJ Z Z (aB (aC (aE (aA (aR Z Z (aL 7 (.int .i64 m) (iE (by omega)) (wq (gD Z Z (by decide)) Z (aL 8 (.int .i64 (m / 16777216)) (iE (sP (by omega) (by omega))) (wq (dF nE underlying5 Z) Z (aL 9 (.int .u8 (m / 16777216 % 256)) (iE (wr8 _)) (aR Z Z (aL 10 (.int .i64 m) (iE (by omega)) (wq (gD Z Z (by decide)) Z (aL 11 (.int .i64 (m / 65536)) (iE (sP (by omega) (by omega))) ?_))))))))))))))))))
  refine wq (dF nE underlying5 Z) Z (aL 12 (.int .u8 (m / 65536 % 256)) (iE (wr8 _)) (aR Z Z (aL 13 (.int .i64 m) (iE (by omega)) (wq (gD Z Z (by decide)) Z (aL 14 (.int .i64 (m / 256)) (iE (sP (by omega) (by omega))) (wq (dF nE underlying5 Z) Z (aL 15 (.int .u8 (m / 256 % 256)) (iE (wr8 _)) (aR Z Z (aL 16 (.int .i64 m) (iE (by omega)) (wq (dF nE underlying5 Z) Z (aL 17 (.int .u8 (m % 256)) (iE (wr8 _)) (bW [.int _ _,.int _ _,.int _ _,.int _ _] ((cZ m).map bL) Z gW M0 Z Z Z Z (cQ Z) (by decide) (fun b1 w1 M1 => ?_)))))))))))))
  have hlit18:=lE (T:=5) (b:=b1) ((cZ m).map bL) (sU _) rfl (show 4≤281474976710656 by decide)
  refine eG Z Z (aB (aC (aP (cI (.slice _ _ _) Z ?_))))
  exact ⟨⟨some ⟨b1,0,none⟩,4,4,_⟩,Z,Z,by rw [← hwm];exact hlit18,M1⟩
 ·refine aM (aC (aE (aA (aR Z Z (aL 7 (.int .i64 m) (iE (by omega)) (wq (gD Z Z (by decide)) Z (aL 8 (.int .i64 (m / 16777216)) (iE (sP (by omega) (by omega))) (wq (dF nE underlying5 Z) Z (aL 9 (.int .u8 (m / 16777216 % 256)) (iE (wr8 _)) (aR Z Z (aL 10 (.int .i64 m) (iE (by omega)) (wq (gD Z Z (by decide)) Z (aL 11 (.int .i64 (m / 65536)) (iE (sP (by omega) (by omega))) (wq (dF nE underlying5 Z) Z (aL 12 (.int .u8 (m / 65536 % 256)) (iE (wr8 _)) (aR Z Z (aL 13 (.int .i64 m) (iE (by omega)) (wq (gD Z Z (by decide)) Z ?_))))))))))))))))))
  refine aL 14 (.int .i64 (m / 256)) (iE (sP (by omega) (by omega))) (wq (dF nE underlying5 Z) Z (aL 15 (.int .u8 (m / 256 % 256)) (iE (wr8 _)) (aR Z Z (aL 16 (.int .i64 m) (iE (by omega)) (wq (dF nE underlying5 Z) Z (aL 17 (.int .u8 (m % 256)) (iE (wr8 _)) (bW [.int _ _,.int _ _,.int _ _,.int _ _] ((cZ m).map bL) Z gW M0 Z Z Z Z (cQ Z) (by decide) (fun b2 w2 M2 => ?_))))))))
  have hlit18:=lE (T:=5) (b:=b2) ((cZ m).map bL) (sU _) rfl (show 4≤281474976710656 by decide)
  refine eG Z Z (aB (aC (aP (cI (.slice _ _ _) Z ?_))))
  exact ⟨⟨some ⟨b2,0,none⟩,4,4,_⟩,Z,Z,by rw [← hwm];exact hlit18,M2⟩
theorem tI (w:World) (A:Option Addr) (n c:Nat) (ls:List Int) (R:Rd w 1 A n (ls.map bL)) (hB:iK ls) (h4:4≤n) :
  Calls prog 90 #[.slice A n c] w (Rb w (.int .i64 (eJ ls 0))):=by
 have hlen:ls.length=n:=by simpa using R.len
 have hbd:=R.bound
 obtain ⟨x0,hx0⟩:=cT (xs:=ls) (k:=0) hlen (by omega)
 obtain ⟨x1,hx1⟩:=cT (xs:=ls) (k:=1) hlen (by omega)
 obtain ⟨x2,hx2⟩:=cT (xs:=ls) (k:=2) hlen (by omega)
 obtain ⟨x3,hx3⟩:=cT (xs:=ls) (k:=3) hlen (by omega)
 obtain ⟨g0,g1⟩:=hB x0 (List.mem_of_getElem? hx0)
 obtain ⟨g2,g3⟩:=hB x1 (List.mem_of_getElem? hx1)
 obtain ⟨g4,g5⟩:=hB x2 (List.mem_of_getElem? hx2)
 obtain ⟨g6,g7⟩:=hB x3 (List.mem_of_getElem? hx3)
 have hnum:eJ ls 0=((x0*256+x1)*256+x2)*256+x3:=by unfold eJ;simp only [List.getD_eq_getElem?_getD,Nat.zero_add,hx0,hx1,hx2,hx3,Option.getD_some]
 refine aI #[.tmp 2] 25 func90 Z results90 ntmps90 Z ?_
 have M0:=Mem.refl w
 refine aE (aA (bJ Z Z (aB (aC (aE (fY [(0,0),(1,1),(2,1),(3,0),(4,0),(5,0),(6,1),(7,1),(8,0),(9,0),(10,0),(11,0),(12,1),(13,1),(14,0),(15,0),(16,0),(17,0),(18,1),(19,1),(20,0),(21,0),(22,0)] mixed M0 Z (by kernel_rfl) (fun w1 M1=>(jY Z Z Z (bP Z Z Z (bI (0) gW Z Z Z ((R.mem M1).below_len (aG bL hx0)) ((R.mem M1).someK (aG bL hx0))) (bP Z Z Z (iC (.int _ _) aIv (R.mem M1) (aG bL hx0) Z) (aX Z Z Z (fun _=>bG us5 underlying2 Z (fL _ (by omega) (by omega))) ?_)))))))))))
 refine aX Z Z Z (fun _=>fF Z Z (by omega) (by omega)) (jY Z Z Z (bP Z Z Z (bI (1) gW Z Z Z ((R.mem M1).below_len (aG bL hx1)) ((R.mem M1).someK (aG bL hx1))) (bP Z Z Z (iC (.int _ _) aIv (R.mem M1) (aG bL hx1) Z) (aX Z Z Z (fun _=>bG us5 underlying2 Z (fL _ (by omega) (by omega))) (aX Z Z Z (fun _=>bA Z Z (by omega) (by omega)) (aX Z Z Z (fun _=>fF Z Z (by omega) (by omega)) (jY Z Z Z (bP Z Z Z (bI (2) gW Z Z Z ((R.mem M1).below_len (aG bL hx2)) ((R.mem M1).someK (aG bL hx2))) ?_))))))))
 refine bP Z Z Z (iC (.int _ _) aIv (R.mem M1) (aG bL hx2) Z) (aX Z Z Z (fun _=>bG us5 underlying2 Z (fL _ (by omega) (by omega))) (aX Z Z Z (fun _=>bA Z Z (by omega) (by omega)) (aX Z Z Z (fun _=>fF Z Z (by omega) (by omega)) (jY Z Z Z (bP Z Z Z (bI (3) gW Z Z Z ((R.mem M1).below_len (aG bL hx3)) ((R.mem M1).someK (aG bL hx3))) (bP Z Z Z (iC (.int _ _) aIv (R.mem M1) (aG bL hx3) Z) (aX Z Z Z (fun _=>bG us5 underlying2 Z (fL _ (by omega) (by omega))) ?_)))))))
 refine aX Z Z Z (fun _=>bA Z Z (by omega) (by omega)) (nF Z Z Z (bS (aC (aP (cI (.int _ _) Z ?_)))))
 exact ⟨iE (by rw [hnum]),M1.below⟩
theorem iP (w:World) (A:Option Addr) (n c:Nat) (ls:List Int) (R:Rd w 1 A n (ls.map bL)) (hB:iK ls) (h4:4≤n) :
  Calls prog 91 #[.slice A n c] w (Rb w (.int .i32 (lG (eJ ls 0)))):=by
 have hlen:ls.length=n:=by simpa using R.len
 have hbd:=R.bound
 obtain ⟨hr1,hr2,_⟩:=nJ hB (a:=0) (by omega)
 have hsg:=oR ⟨hr1,hr2⟩
 refine aI #[.tmp 2] 12 func91 Z results91 ntmps91 Z ?_
 have M0:=Mem.refl w
 refine aE (aA (bJ Z Z (aB (aC (aE (aA (dK Z Z (dO bDy Z Z M0 (tI _ A n c ls (R.mem M0) hB h4) (fun w1 M1=>(bJ Z Z (aB (aC (aE (aE (aA (aR Z Z (cY Z Z Z Z (aB (aC ?_)))))))))))))))))))
 refine aW Z (fun h7 => ?_) (fun h7 => ?_)
 ·refine aA (aR Z Z (wq (gJ Z Z (by omega) (by omega)) Z (bJ Z Z (aB (aC (aE (aA (aR Z Z (wq (dF nE underlying21 Z) Z (aL 11 (.int .i32 (lG (eJ ls 0))) (iE (by first | (rw [show eJ ls 0 - 4294967296=lG (eJ ls 0) by unfold lG;rw [if_pos (by omega)]];exact jU _ (by omega) (by omega)) | (rw [show lG (eJ ls 0)=eJ ls 0 by unfold lG;rw [if_neg (by omega)]];exact jU _ (by omega) (by omega)))) (bJ Z Z (aB (aC (aP (cI (.int _ _) Z ?_)))))))))))))))
  exact ⟨Z,M1.below⟩
 ·refine aM (aC (aE (aA (aR Z Z (wq (dF nE underlying21 Z) Z (aL 11 (.int .i32 (lG (eJ ls 0))) (iE (by first | (rw [show eJ ls 0 - 4294967296=lG (eJ ls 0) by unfold lG;rw [if_pos (by omega)]];exact jU _ (by omega) (by omega)) | (rw [show lG (eJ ls 0)=eJ ls 0 by unfold lG;rw [if_neg (by omega)]];exact jU _ (by omega) (by omega)))) (bJ Z Z (aB (aC (aP (cI (.int _ _) Z ?_)))))))))))
  exact ⟨Z,M1.below⟩
theorem yA (w:World) (A:Option Addr) (n c:Nat) (xs:List Int) (R:Rd w 1 A n (xs.map bL)) (B:Option Addr) (m c':Nat) (ys:List Int) (R':Rd w 1 B m (ys.map bL)) :
  Calls prog 15 #[.slice A n c,.slice B m c'] w (Rb w (.bool (decide (xs=ys)))):=by
 have hlen:xs.length=n:=by simpa using R.len
 have hlen':ys.length=m:=by simpa using R'.len
 have hbd:=R.bound
 have hbd':=R'.bound
 refine aI #[.tmp 4] 26 func15 Z results15 ntmps15 Z ?_
 have M0:=Mem.refl w
 refine aE (aA (wq (aJ (.bool false) Z) Z (aB (aC (aE (aE (aA (dK Z Z (wq (cK underlying34 Z) Z (dK Z Z (wq (cK underlying34 Z) Z (cY Z Z Z Z (aB (aC ?_))))))))))))))
 refine aW Z (fun h10 => ?_) (fun h10 => ?_)
 ·refine aE (aA (wq (aJ (.bool false) Z) Z (aB (aC (aP (cN (cI (.bool false) Z ?_)))))))
  exact ⟨bF (fun e=>h10 (by rw [← hlen,← hlen',e])),M0.below⟩
 ·have hnm:n=m:=by omega
  refine aM (aC (aE (aE (aA (bJ Z Z (aB (aC (aS (dM (σ:=Nat) [0,1] (fun k=>[(5,.int .i64 (k:Int))]) (fun k w'=>(k≤n∧∀ (j:Nat) (x:Int),j < k→xs[j]? = some x→ys[j]? = some x)∧Mem w [] [] w') (fun k=>n - k) 0 (bE Z eB) (⟨⟨by omega,fun j c hj=>by omega⟩,M0⟩) ?_)))))))))
  rintro k ρ1 w1 ⟨⟨hk,hne⟩,hM1⟩
  refine aE (aE (aA (aR Z Z (dK Z Z (wq (cK underlying34 Z) Z (cY Z Z Z Z (aB (aC ?_))))))))
  refine aW Z (fun h14 => ?_) (fun h14 => ?_)
  ·obtain ⟨xb,hxb⟩:=cT (xs:=xs) (k:=k) hlen (by omega)
   obtain ⟨yb,hyb⟩:=cT (xs:=ys) (k:=k) hlen' (by omega)
   refine aM (aC (aE (aS (aE (lT [(0,0),(1,0),(2,1),(3,1),(4,0),(5,0),(6,1),(7,1),(8,0)] mixed Z (by kernel_rfl) (fun w2 hb2 hh2 => ?_))))))
   have M2:=hM1.drew hb2 hh2
   refine jY Z Z Z (eD Z Z Z (bP Z Z Z (bI (k) gW Z Z Z ((R.mem M2).below_len (aG bL hxb)) ((R.mem M2).someK (aG bL hxb))) (bP Z Z Z (iC (.int _ _) aIv (R.mem M2) (aG bL hxb) Z) (jY Z Z Z (eD Z Z Z (bP Z Z Z (bI (k) gW Z Z Z ((R'.mem M2).below_len (aG bL hyb)) ((R'.mem M2).someK (aG bL hyb))) (bP Z Z Z (iC (.int _ _) aIv (R'.mem M2) (aG bL hyb) Z) (aX Z Z Z (fun _=>cE (.bool (decide _)) Z Z Z) (bS (aC ?_))))))))))
   refine aW Z (fun h25 => ?_) (fun h25 => ?_)
   ·refine aE (aA (wq (aJ (.bool false) Z) Z (aB (aC (aP (lZ (cN (uU (lZ (cN (cI (.bool false) Z ?_)))))))))))
    exact ⟨bF (fun e=>h25 (by rw [e] at hxb;rw [hxb] at hyb;injection hyb)),M2.below⟩
   ·refine aM (cU (aC (aA (aR Z Z (wq (bA Z Z (by omega) (by omega)) Z (bJ Z Z (aB ?_)))))))
    refine bX (k+1) (bE Z eB) (cA Z (cA Z gL)) ?_ ?_
    ·exact ⟨⟨by omega,sS (p:=fun j x=>ys[j]? = some x) hne hxb (by rw [hyb,Decidable.not_not.1 h25])⟩,M2⟩
    ·omega
  ·refine cS (dE (dH (eO (aC (aE (aA (wq (aJ (.bool true) Z) Z (aB (aC (aP (cI (.bool true) Z ?_)))))))))))
   exact ⟨bT (bFu hlen hlen' hnm (fun j x hj hx=>hne j x (by omega) hx)),hM1.below⟩
theorem aDc (w:World) (A:Option Addr) (n c:Nat) (xs:List Body) (R:Rd w 10 A n (xs.map aF)) (hn:n≤4096) (hb:∀ b∈xs,InB b) :
  Calls prog 27 #[.slice A n c] w (gK (fun v w'=>∃ q:Row,v=.slice q.A q.n q.c∧aZ 5 1 q.A q.n q.c ((kN xs).map bL) q.e∧Mem w [] [q.e] w')):=by
 have hlen:xs.length=n:=by simpa using R.len
 have hbd:=R.bound
 refine aI #[.tmp 2] 84 func27 Z results27 ntmps27 Z ?_
 have M0:=Mem.refl w
 refine aE (aA (eG Z Z (aB (aC (aE (aA (bW [.int _ _,.int _ _,.int _ _,.int _ _] (mP.map bL) Z gW M0 Z Z Z Z (cQ Z) (by decide) (fun b1 w1 M1 => ?_))))))))
 have hlit6:=lE (T:=5) (b:=b1) (mP.map bL) (sU _) rfl (by decide)
 refine aXy 0 underlying34 underlying5 M1 Z Z Z Z hlit6 (by decide) (fun e2 w2 M2 hR2=>(dK Z Z (wq (cK underlying46 Z) Z (eL tW Z Z (jB _ (n:Int) (by omega)) ?_))))
 rintro v3 w3 ⟨q0,rfl,hn0,hw0,hM3⟩
 have M3:Mem _ _ [_,_] _:=M2.call0 hM3
 refine gO 0 ((cZ (n:Int)).map bL) gW M3 Z Z Z Z Z hR2 (hw0.rd M3 (bH (i:=1) Z)) (iW _) (by omega) (fun A4 c4 e4 w4 M4 hR4 hA4=>(eG Z Z (aB (aC (aE (aE (aA (bJ Z Z (aB (aC (aS (dM (σ:=Nat × Row) [0,2] (fun (k,q)=>[(3,.slice q.A q.n q.c),(4,.int .i64 (k:Int))]) (fun (k,q) w'=>(k≤n∧q.n=8+40*k∧aZ 5 1 q.A q.n q.c (((mP++cZ (n:Int))++(xs.take k).flatMap nT).map bL) q.e)∧Mem w [] [q.e] w') (fun (k,q)=>n - k) (0,⟨A4,4+q0.n,c4,e4⟩) (bE Z (bE Z eB)) (⟨⟨by omega,(show 4+q0.n=8 by omega),by rw [List.take_zero,List.flatMap_nil,List.append_nil,List.map_append];exact hR4⟩,M4.keep [true,false]⟩) ?_))))))))))))
 rintro ⟨k,q⟩ ρ5 w5 ⟨⟨hk,hqn,hq⟩,hM5⟩
 refine aE (aE (aA (aR Z Z (dK Z Z (wq (cK underlying46 Z) Z (cY Z Z Z Z (aB (aC ?_))))))))
 refine aW Z (fun h15 => ?_) (fun h15 => ?_)
 ·obtain ⟨xb,hxb⟩:=cT (xs:=xs) (k:=k) hlen (by omega)
  obtain ⟨i0,i1,i2,i3,i4,i5,i6,i7,i8,i9⟩:=hb xb (List.mem_of_getElem? hxb)
  refine aM (aC (aE (aS (aE (aA (dK Z Z (aR Z Z (wq (bI (k) dS Z Z Z ((R.mem hM5).below_len (aG aF hxb)) ((R.mem hM5).someK (aG aF hxb))) Z (wq (dN _ bR (R.mem hM5) (aG aF hxb) Z) Z (aQ fX hM5 Z Z (fun b6 w6 M6=>(bB 1 _ bR M6 Z Z Z Z Z (aO Z) Z (fun w7 M7=>(aB (aC (aE (fY [(0,0),(1,0),(2,1),(3,0),(6,0),(7,1),(8,0),(4,2),(5,2),(9,2),(10,2),(11,0)] mixed M7 Z (by kernel_rfl) (fun w8 M8=>(jY Z Z Z (aX Z Z Z (fun _=>aD 0 dV Z) ?_))))))))))))))))))))
  refine bP Z Z Z (aK 1 (.int _ _) bV M8 Z Z Z) (aX Z Z Z (fun _=>bG wV underlying2 Z (fL _ (by omega) (by omega))) (aX Z Z Z (fun _=>aD 1 mI Z) (bP Z Z Z (aK 1 (.int _ _) aY M8 Z Z Z) (aX Z Z Z (fun _=>bG dZ underlying2 Z (fL _ (by omega) (by omega))) (dL [false,true] Z (by kernel_rfl) (eL tW Z Z (jB _ xb.key (by omega)) ?_))))))
  rintro v9 w9 ⟨q9,rfl,hn9,hw9,hM9⟩
  have M9:Mem _ _ [_,_,_] _:=M8.call0 hM9
  refine aB (aC ⟨(dQ (bC Z (aK 1 (.int _ _) aY M9 Z Z Z)) dG), ?_⟩)
  refine dL [false] Z (by kernel_rfl) (gO 0 ((cZ xb.key).map bL) gW M9 Z Z Z Z Z hq (hw9.rd M9 (bH (i:=2) Z)) (iW _) (by omega) (fun A10 c10 e10 w10 M10 hR10 hA10 => ?_))
  refine aB (aC ⟨(dQ (bC Z (aK 1 (.int _ _) aY M10 Z Z Z)) dG), ?_⟩)
  refine dL [true] Z (by kernel_rfl) (eL tW Z Z (jB _ xb.radius (by omega)) ?_)
  rintro v11 w11 ⟨q11,rfl,hn11,hw11,hM11⟩
  have M11:Mem _ _ [_,_,_,_] _:=M10.call0 hM11
  refine aB (aC ⟨dG, ?_⟩)
  refine dL [] Z (by kernel_rfl) (gO 0 ((cZ xb.radius).map bL) gW M11 Z Z Z Z Z hR10 (hw11.rd M11 (bH (i:=3) Z)) (iW _) (by omega) (fun A12 c12 e12 w12 M12 hR12 hA12 => ?_))
  refine aB (aC ⟨dG, ?_⟩)
  refine aX Z Z Z (fun _=>aJ (.slice _ _ _) Z) (bS (aC (aE (fY [(0,0),(1,0),(2,0),(3,1),(4,0),(7,0),(8,0),(9,1),(10,0),(5,2),(6,2),(11,2),(12,2),(13,0)] mixed M12 Z (by kernel_rfl) (fun w13 M13=>(jY Z Z Z (aX Z Z Z (fun _=>aD 2 jN Z) (aX Z Z Z (fun _=>aD 0 cX Z) (bP Z Z Z (aK 1 (.int _ _) aY M13 Z Z Z) (aX Z Z Z (fun _=>bG dZ underlying2 Z (fL _ (by omega) (by omega))) (aX Z Z Z (fun _=>aD 2 jN Z) (aX Z Z Z (fun _=>aD 1 cV Z) ?_))))))))))))
  refine bP Z Z Z (aK 1 (.int _ _) aY M13 Z Z Z) (aX Z Z Z (fun _=>bG dZ underlying2 Z (fL _ (by omega) (by omega))) (dL [false,true] Z (by kernel_rfl) (eL tW Z Z (jB _ xb.ax (by omega)) ?_)))
  rintro v14 w14 ⟨q14,rfl,hn14,hw14,hM14⟩
  have M14:Mem _ _ [_,_,_,_,_] _:=M13.call0 hM14
  refine aB (aC ⟨(dQ (bC Z (aK 1 (.int _ _) aY M14 Z Z Z)) dG), ?_⟩)
  refine dL [false] Z (by kernel_rfl) (gO 0 ((cZ xb.ax).map bL) gW M14 Z Z Z Z Z hR12 (hw14.rd M14 (bH (i:=4) Z)) (iW _) (by omega) (fun A15 c15 e15 w15 M15 hR15 hA15 => ?_))
  refine aB (aC ⟨(dQ (bC Z (aK 1 (.int _ _) aY M15 Z Z Z)) dG), ?_⟩)
  refine dL [true] Z (by kernel_rfl) (eL tW Z Z (jB _ xb.ay (by omega)) ?_)
  rintro v16 w16 ⟨q16,rfl,hn16,hw16,hM16⟩
  have M16:Mem _ _ [_,_,_,_,_,_] _:=M15.call0 hM16
  refine aB (aC ⟨dG, ?_⟩)
  refine dL [] Z (by kernel_rfl) (gO 0 ((cZ xb.ay).map bL) gW M16 Z Z Z Z Z hR15 (hw16.rd M16 (bH (i:=5) Z)) (iW _) (by omega) (fun A17 c17 e17 w17 M17 hR17 hA17 => ?_))
  refine aB (aC ⟨dG, ?_⟩)
  refine aX Z Z Z (fun _=>aJ (.slice _ _ _) Z) (bS (aC (aE (fY [(0,0),(1,0),(2,1),(3,0),(6,0),(7,1),(8,0),(4,2),(5,2),(9,2),(10,2),(11,0)] mixed M17 Z (by kernel_rfl) (fun w18 M18=>(jY Z Z Z (aX Z Z Z (fun _=>aD 4 eK Z) (bP Z Z Z (aK 1 (.int _ _) aY M18 Z Z Z) (aX Z Z Z (fun _=>bG dZ underlying2 Z (fL _ (by omega) (by omega))) (aX Z Z Z (fun _=>aD 5 oL Z) (bP Z Z Z (aK 1 (.int _ _) aY M18 Z Z Z) (aX Z Z Z (fun _=>bG dZ underlying2 Z (fL _ (by omega) (by omega))) ?_))))))))))))
  refine dL [false,true] Z (by kernel_rfl) (eL tW Z Z (jB _ xb.mass (by omega)) ?_)
  rintro v19 w19 ⟨q19,rfl,hn19,hw19,hM19⟩
  have M19:Mem _ _ [_,_,_,_,_,_,_] _:=M18.call0 hM19
  refine aB (aC ⟨(dQ (bC Z (aK 1 (.int _ _) aY M19 Z Z Z)) dG), ?_⟩)
  refine dL [false] Z (by kernel_rfl) (gO 0 ((cZ xb.mass).map bL) gW M19 Z Z Z Z Z hR17 (hw19.rd M19 (bH (i:=6) Z)) (iW _) (by omega) (fun A20 c20 e20 w20 M20 hR20 hA20 => ?_))
  refine aB (aC ⟨(dQ (bC Z (aK 1 (.int _ _) aY M20 Z Z Z)) dG), ?_⟩)
  refine dL [true] Z (by kernel_rfl) (eL tW Z Z (jB _ xb.bounce (by omega)) ?_)
  rintro v21 w21 ⟨q21,rfl,hn21,hw21,hM21⟩
  have M21:Mem _ _ [_,_,_,_,_,_,_,_] _:=M20.call0 hM21
  refine aB (aC ⟨dG, ?_⟩)
  refine dL [] Z (by kernel_rfl) (gO 0 ((cZ xb.bounce).map bL) gW M21 Z Z Z Z Z hR20 (hw21.rd M21 (bH (i:=7) Z)) (iW _) (by omega) (fun A22 c22 e22 w22 M22 hR22 hA22 => ?_))
  refine aB (aC ⟨dG, ?_⟩)
  refine aX Z Z Z (fun _=>aJ (.slice _ _ _) Z) (bS (aC (aE (fY [(0,0),(1,0),(2,0),(3,1),(4,0),(7,0),(8,0),(9,1),(10,0),(5,2),(6,2),(11,2),(12,2),(13,0)] mixed M22 Z (by kernel_rfl) (fun w23 M23=>(jY Z Z Z (aX Z Z Z (fun _=>aD 6 fO Z) (aX Z Z Z (fun _=>aD 0 cX Z) (bP Z Z Z (aK 1 (.int _ _) aY M23 Z Z Z) (aX Z Z Z (fun _=>bG dZ underlying2 Z (fL _ (by omega) (by omega))) (aX Z Z Z (fun _=>aD 6 fO Z) (aX Z Z Z (fun _=>aD 1 cV Z) ?_))))))))))))
  refine bP Z Z Z (aK 1 (.int _ _) aY M23 Z Z Z) (aX Z Z Z (fun _=>bG dZ underlying2 Z (fL _ (by omega) (by omega))) (dL [false,true] Z (by kernel_rfl) (eL tW Z Z (jB _ xb.px (by omega)) ?_)))
  rintro v24 w24 ⟨q24,rfl,hn24,hw24,hM24⟩
  have M24:Mem _ _ [_,_,_,_,_,_,_,_,_] _:=M23.call0 hM24
  refine aB (aC ⟨(dQ (bC Z (aK 1 (.int _ _) aY M24 Z Z Z)) dG), ?_⟩)
  refine dL [false] Z (by kernel_rfl) (gO 0 ((cZ xb.px).map bL) gW M24 Z Z Z Z Z hR22 (hw24.rd M24 (bH (i:=8) Z)) (iW _) (by omega) (fun A25 c25 e25 w25 M25 hR25 hA25 => ?_))
  refine aB (aC ⟨(dQ (bC Z (aK 1 (.int _ _) aY M25 Z Z Z)) dG), ?_⟩)
  refine dL [true] Z (by kernel_rfl) (eL tW Z Z (jB _ xb.py (by omega)) ?_)
  rintro v26 w26 ⟨q26,rfl,hn26,hw26,hM26⟩
  have M26:Mem _ _ [_,_,_,_,_,_,_,_,_,_] _:=M25.call0 hM26
  refine aB (aC ⟨dG, ?_⟩)
  refine dL [] Z (by kernel_rfl) (gO 0 ((cZ xb.py).map bL) gW M26 Z Z Z Z Z hR25 (hw26.rd M26 (bH (i:=9) Z)) (iW _) (by omega) (fun A27 c27 e27 w27 M27 hR27 hA27 => ?_))
  refine aB (aC ⟨dG, ?_⟩)
  refine aX Z Z Z (fun _=>aJ (.slice _ _ _) Z) (bS (aC (fY [(0,0),(1,0),(2,0),(3,1),(4,0),(7,0),(8,0),(9,1),(10,0),(5,2),(6,2),(11,2),(12,2),(13,0)] mixed M27 Z (by kernel_rfl) (fun w28 M28=>(jY Z Z Z (aX Z Z Z (fun _=>aD 8 eC Z) (aX Z Z Z (fun _=>aD 0 cX Z) (bP Z Z Z (aK 1 (.int _ _) aY M28 Z Z Z) (aX Z Z Z (fun _=>bG dZ underlying2 Z (fL _ (by omega) (by omega))) (aX Z Z Z (fun _=>aD 8 eC Z) (aX Z Z Z (fun _=>aD 1 cV Z) ?_)))))))))))
  refine bP Z Z Z (aK 1 (.int _ _) aY M28 Z Z Z) (aX Z Z Z (fun _=>bG dZ underlying2 Z (fL _ (by omega) (by omega))) (dL [false,true] Z (by kernel_rfl) (eL tW Z Z (jB _ xb.vx (by omega)) ?_)))
  rintro v29 w29 ⟨q29,rfl,hn29,hw29,hM29⟩
  have M29:Mem _ _ [_,_,_,_,_,_,_,_,_,_,_] _:=M28.call0 hM29
  refine aB (aC ⟨(dQ (bC Z (aK 1 (.int _ _) aY M29 Z Z Z)) dG), ?_⟩)
  refine dL [false] Z (by kernel_rfl) (gO 0 ((cZ xb.vx).map bL) gW M29 Z Z Z Z Z hR27 (hw29.rd M29 (bH (i:=10) Z)) (iW _) (by omega) (fun A30 c30 e30 w30 M30 hR30 hA30 => ?_))
  refine aB (aC ⟨(dQ (bC Z (aK 1 (.int _ _) aY M30 Z Z Z)) dG), ?_⟩)
  refine dL [true] Z (by kernel_rfl) (eL tW Z Z (jB _ xb.vy (by omega)) ?_)
  rintro v31 w31 ⟨q31,rfl,hn31,hw31,hM31⟩
  have M31:Mem _ _ [_,_,_,_,_,_,_,_,_,_,_,_] _:=M30.call0 hM31
  refine aB (aC ⟨dG, ?_⟩)
  refine dL [] Z (by kernel_rfl) (gO 0 ((cZ xb.vy).map bL) gW M31 Z Z Z Z Z hR30 (hw31.rd M31 (bH (i:=11) Z)) (iW _) (by omega) (fun A32 c32 e32 w32 M32 hR32 hA32 => ?_))
  refine aB (aC ⟨dG, ?_⟩)
  refine aX Z Z Z (fun _=>aJ (.slice _ _ _) Z) (bS (cU (aC (aA (aR Z Z (wq (bA Z Z (by omega) (by omega)) Z (bJ Z Z (aB ?_))))))))
  refine bX (k+1,⟨A32,q.n+q9.n+q11.n+q14.n+q16.n+q19.n+q21.n+q24.n+q26.n+q29.n+q31.n,c32,e32⟩) (bE Z (bE Z eB)) (cA Z (cA Z gL)) ?_ ?_
  ·exact ⟨⟨by omega,(show q.n+q9.n+q11.n+q14.n+q16.n+q19.n+q21.n+q24.n+q26.n+q29.n+q31.n=8+40*(k+1) by omega),by rw [aJx hxb,← List.append_assoc,List.map_append];simpa only [nT,aWv,List.flatMap_cons,List.flatMap_nil,List.append_nil,List.map_append,List.append_assoc] using hR32⟩,M32.keep [true,false,false,false,false,false,false,false,false,false,false,false]⟩
  ·(show n - (k+1) < n - k;omega)
 ·obtain rfl:k=n:=by omega
  rw [List.take_of_length_le (by omega),← hlen] at hq
  refine cS (dE (dH (eO (aC (aE (aA (dK Z Z (eG Z Z (aB (aC (aP (cI (.slice _ _ _) Z ?_))))))))))))
  exact ⟨q,Z,hq,hM5⟩
theorem mF (l:List Int) (a b:Nat) {m:Nat} (h:b+4≤m):eJ ((l.drop a).take m) b=eJ l (a+b):=by
 have g (j:Nat) (hj:j < m):((l.drop a).take m).getD j 0=l.getD (a+j) 0:=by
  rw [List.getD_eq_getElem?_getD,List.getD_eq_getElem?_getD,List.getElem?_take_of_lt hj,List.getElem?_drop]
 unfold eJ
 rw [g b (by omega),g (b+1) (by omega),g (b+2) (by omega),g (b+3) (by omega)]
 rfl
theorem aNh (w:World) (A:Option Addr) (n c:Nat) (ls:List Int) (R:Rd w 1 A n (ls.map bL)) (hB:iK ls) (hcap:n≤c) (hn:n≤1048576) :
  Calls prog 63 #[.slice A n c] w (gK (fun v w'=>∃ r:Row,v=.tuple #[.slice r.A r.n r.c,.int .i64 (nS ls).2]∧aZ 43 10 r.A r.n r.c (((nS ls).1).map aF) r.e∧Mem w [] [r.e] w')):=by
 have hlen:ls.length=n:=by simpa using R.len
 have hbd:=R.bound
 refine aI #[.tmp 2,.tmp 3] 82 func63 Z results63 ntmps63 Z ?_
 have M0:=Mem.refl w
 refine aE (aA (eG Z Z (bJ Z Z (aB (aC (aE (aE (aA (dK Z Z (wq (cK underlying34 Z) Z (cY Z Z Z Z (wq (aH (.bool (decide _)) Z) Z ?_))))))))))))
 refine dT 11 Z (fun g11 => ?_) (fun g11 => ?_)
 ·refine aN Z Z (aN Z Z (aN Z Z (aN Z Z (wq (bQ true (.bool true) Z Z) Z (wq (aH (.bool true) Z) Z (aN Z Z (aN Z Z (aN Z Z (aN Z Z (aN Z Z (aN Z Z (aN Z Z (aN Z Z (wq (bQ true (.bool true) Z Z) Z (aB (aC ?_))))))))))))))))
  refine cG Z (aE (aA (eG Z Z (bJ Z Z (aB (aC (aP (cN (gA (.slice _ _ _) (.int _ _) Z Z ?_)))))))))
  have hd:=vM (l:=ls) (fun h=>by have:=h.1;omega)
  exact ⟨⟨none,0,0,(none,default)⟩,by rw [hd],by rw [hd];exact aZ.nil _ _ _,(M0.keep []).dummy default⟩
 ·refine dK Z Z (wq (eV (0) (4) gW Z Z ⟨_,Z⟩ (by omega) (by omega) (by omega)) Z (wq (aNb underlying34 underlying5 underlying9 (Rd.subB (R.mem M0) (0) (4) (by omega) (by omega) hcap) Z) Z (wq (aQp Z Z) Z (wq (bQ false (.bool (decide _)) Z Z) Z (wq (aH (.bool (decide _)) Z) Z ?_)))))
  refine dT 17 Z (fun g17 => ?_) (fun g17 => ?_)
  ·refine aN Z Z (aN Z Z (aN Z Z (aN Z Z (aN Z Z (aN Z Z (aN Z Z (aN Z Z (wq (bQ true (.bool true) Z Z) Z (aB (aC (cG Z (aE (aA (eG Z Z (bJ Z Z (aB (aC (aP (cN (gA (.slice _ _ _) (.int _ _) Z Z ?_))))))))))))))))))))
   have hd:=vM (l:=ls) (fun h=>((wF ((ls.drop 0).take (4 - 0)) (hB.sub 0 4) [66,73,76,49]).1 g17) (by rw [← rA];simpa using h.2.1))
   exact ⟨⟨none,0,0,(none,default)⟩,by rw [hd],by rw [hd];exact aZ.nil _ _ _,(M0.keep []).dummy default⟩
  ·refine dK Z Z (wq (cK underlying34 Z) Z (dK Z Z (wq (eV (4) (8) gW Z ⟨_,Z⟩ ⟨_,Z⟩ (by omega) (by omega) (by omega)) Z (dO bDy Z Z M0 (tI _ _ _ _ ((ls.drop (4)).take (8 - (4))) (Rd.subB (R.mem M0) (4) (8) (by omega) (by omega) hcap) (hB.sub _ _) (by omega)) (fun w1 M1 => ?_)))))
   have hr4:=nJ hB (a:=4) (by omega)
   obtain ⟨N,hN⟩:∃ N:Nat,eJ ls 4=(N:Int):=⟨(eJ ls 4).toNat,by omega⟩
   have hNl:N≤4294967295:=by omega
   refine aL 22 (.int .i64 (N:Int)) (iE ((fW (by omega)).trans hN)) (wq (fF Z Z (by omega) (by omega)) Z (wq (bA Z Z (by omega) (by omega)) Z (cY Z Z Z Z (wq (bQ false (.bool (decide _)) Z Z) Z (aB (aC ?_))))))
   refine aW Z (fun h26 => ?_) (fun h26 => ?_)
   ·refine aE (aA (eG Z Z (bJ Z Z (aB (aC (aP (cN (gA (.slice _ _ _) (.int _ _) Z Z ?_))))))))
    have hd:=vM (l:=ls) (fun h=>h26 (by have:=h.2.2;rw [hN] at this;omega))
    exact ⟨⟨none,0,0,(none,default)⟩,by rw [hd],by rw [hd];exact aZ.nil _ _ _,(M1.keep []).dummy default⟩
   ·have hm4:=Decidable.not_not.1 (mt ((wF ((ls.drop 0).take (4 - 0)) (hB.sub 0 4) [66,73,76,49]).2) g17)
    rw [← rA] at hm4
    have hfm:aCa ls:=⟨by omega,by simpa using hm4,by rw [hN];omega⟩
    have hnN:n=8+40*N:=by omega
    refine aM (aC (aE (aA (eG Z Z ?_))))
    have M2:=M1.dummy default
    refine aB (aC (aE (aE (aA (bJ Z Z (aB (aC (aS (dM (σ:=Nat × Row) [0,2,3] (fun (i,q)=>[(4,.slice q.A q.n q.c),(5,.int .i64 ((8+40*i:Nat):Int))]) (fun (i,q) w'=>(i≤N∧aZ 43 10 q.A q.n q.c ((pH ls i).map aF) q.e)∧Mem w [] [q.e] w') (fun (i,q)=>N - i) (0,fE) (bE Z (bE Z eB)) (⟨⟨by omega,aZ.nil _ _ _⟩,M2⟩) ?_)))))))))
    rintro ⟨i,q⟩ ρ3 w3 ⟨⟨hi,hq⟩,hM3⟩
    have hqn:(pH ls i).length=q.n:=by simpa using hq.1
    rw [yQ] at hqn
    refine aE (aE (aA (aR Z Z (dK Z Z (wq (cK underlying34 Z) Z (cY Z Z Z Z (aB (aC ?_))))))))
    refine aW Z (fun h30 => ?_) (fun h30 => ?_)
    ·refine aM (aC (aE (aS (aE (aA (dK Z Z (aR Z Z (aR Z Z (wq (bA Z Z (by omega) (by omega)) Z (aL 36 (.int .i64 ((8+40*i+40:Nat):Int)) (iE (by omega)) (wq (eV (((8+40*i:Nat):Int)) (((8+40*i+40:Nat):Int)) gW Z ⟨_,Z⟩ ⟨_,Z⟩ (by omega) (by omega) (by omega)) Z (eG Z Z (aB (aC (lT [(0,0),(1,0),(2,0),(5,0),(6,0),(8,0),(9,0),(11,0),(12,0),(15,0),(16,0),(18,0),(19,0),(21,0),(22,0),(24,0),(25,0),(28,0),(29,0),(31,0),(32,0),(3,2),(4,0),(7,2),(10,2),(13,2),(14,0),(17,2),(20,2),(23,2),(26,2),(27,0),(30,2),(33,2),(34,0),(35,0),(36,2),(37,2),(38,0)] mixed Z (by kernel_rfl) (fun w4 hb4 hh4 => ?_))))))))))))))))
     have M4:=hM3.drew hb4 hh4
     refine jY Z Z Z (jY Z Z Z (aX Z Z Z (fun _=>eV (0) (4) gW Z Z ⟨_,Z⟩ (by omega) (by omega) (by omega)) (jY Z Z Z (aX Z Z Z (fun _=>eV (4) (8) gW Z ⟨_,Z⟩ ⟨_,Z⟩ (by omega) (by omega) (by omega)) (jY Z Z Z (aX Z Z Z (fun _=>eV (8) (12) gW Z ⟨_,Z⟩ ⟨_,Z⟩ (by omega) (by omega) (by omega)) (jY Z Z Z (aX Z Z Z (fun _=>eV (12) (16) gW Z ⟨_,Z⟩ ⟨_,Z⟩ (by omega) (by omega) (by omega)) (jY Z Z Z (aX Z Z Z (fun _=>eV (16) (20) gW Z ⟨_,Z⟩ ⟨_,Z⟩ (by omega) (by omega) (by omega)) ?_))))))))))
     refine jY Z Z Z (aX Z Z Z (fun _=>eV (20) (24) gW Z ⟨_,Z⟩ ⟨_,Z⟩ (by omega) (by omega) (by omega)) (jY Z Z Z (aX Z Z Z (fun _=>eV (24) (28) gW Z ⟨_,Z⟩ ⟨_,Z⟩ (by omega) (by omega) (by omega)) (jY Z Z Z (aX Z Z Z (fun _=>eV (28) (32) gW Z ⟨_,Z⟩ ⟨_,Z⟩ (by omega) (by omega) (by omega)) (jY Z Z Z (aX Z Z Z (fun _=>eV (32) (36) gW Z ⟨_,Z⟩ ⟨_,Z⟩ (by omega) (by omega) (by omega)) (jY Z Z Z (aX Z Z Z (fun _=>eV (36) (40) gW Z ⟨_,Z⟩ ⟨_,Z⟩ (by omega) (by omega) (by omega)) ?_)))))))))
     refine dL [] Z (by kernel_rfl) (dO bDy Z Z M4 (tI _ _ _ _ ((((ls.drop (8+40*i)).take ((8+40*i)+40 - (8+40*i))).drop 0).take (4 - 0)) (Rd.subB (Rd.subB (R.mem M4) ((8+40*i)) ((8+40*i)+40) (by omega) (by omega) hcap) 0 4 (by omega) (by omega) (by omega)) ((hB.sub _ _).sub _ _) (by omega)) (fun w5 M5 => ?_))
     refine aB (aC ⟨dG, ?_⟩)
     refine dX 41 (.int .i64 (eJ ls (8+40*i))) (iE ((fW (by omega)).trans (mF ls (8+40*i) 0 (by omega)))) (aX Z Z Z (fun _=>dF nE underlying39 Z) (dX 42 (.int .u32 (eJ ls (8+40*i))) (iE (aIb _ (nJ hB (a:=8+40*i) (by omega)).1 (nJ hB (a:=8+40*i) (by omega)).2.1)) (dL [] Z (by kernel_rfl) (dO yN Z Z M5 (iP _ _ _ _ ((((ls.drop (8+40*i)).take ((8+40*i)+40 - (8+40*i))).drop 4).take (8 - 4)) (Rd.subB (Rd.subB (R.mem M5) ((8+40*i)) ((8+40*i)+40) (by omega) (by omega) hcap) 4 8 (by omega) (by omega) (by omega)) ((hB.sub _ _).sub _ _) (by omega)) (fun w6 M6 => ?_)))))
     refine aB (aC ⟨dG, ?_⟩)
     refine dX 45 (.int .i32 (lG (eJ ls (8+40*i+4)))) (iE (congrArg lG ((fW (by omega)).trans (mF ls (8+40*i) 4 (by omega))))) (dL [] Z (by kernel_rfl) (dO yN Z Z M6 (iP _ _ _ _ ((((ls.drop (8+40*i)).take ((8+40*i)+40 - (8+40*i))).drop 8).take (12 - 8)) (Rd.subB (Rd.subB (R.mem M6) ((8+40*i)) ((8+40*i)+40) (by omega) (by omega) hcap) 8 12 (by omega) (by omega) (by omega)) ((hB.sub _ _).sub _ _) (by omega)) (fun w7 M7 => ?_)))
     refine aB (aC ⟨dG, ?_⟩)
     refine dX 48 (.int .i32 (lG (eJ ls (8+40*i+8)))) (iE (congrArg lG ((fW (by omega)).trans (mF ls (8+40*i) 8 (by omega))))) (dL [] Z (by kernel_rfl) (dO yN Z Z M7 (iP _ _ _ _ ((((ls.drop (8+40*i)).take ((8+40*i)+40 - (8+40*i))).drop 12).take (16 - 12)) (Rd.subB (Rd.subB (R.mem M7) ((8+40*i)) ((8+40*i)+40) (by omega) (by omega) hcap) 12 16 (by omega) (by omega) (by omega)) ((hB.sub _ _).sub _ _) (by omega)) (fun w8 M8 => ?_)))
     refine aB (aC ⟨dG, ?_⟩)
     refine dX 51 (.int .i32 (lG (eJ ls (8+40*i+12)))) (iE (congrArg lG ((fW (by omega)).trans (mF ls (8+40*i) 12 (by omega))))) (aX Z Z Z (fun _=>cD [(0,.int _ _),(1,.int _ _)] _ fB Z Z) (dL [] Z (by kernel_rfl) (dO yN Z Z M8 (iP _ _ _ _ ((((ls.drop (8+40*i)).take ((8+40*i)+40 - (8+40*i))).drop 16).take (20 - 16)) (Rd.subB (Rd.subB (R.mem M8) ((8+40*i)) ((8+40*i)+40) (by omega) (by omega) hcap) 16 20 (by omega) (by omega) (by omega)) ((hB.sub _ _).sub _ _) (by omega)) (fun w9 M9 => ?_))))
     refine aB (aC ⟨dG, ?_⟩)
     refine dX 55 (.int .i32 (lG (eJ ls (8+40*i+16)))) (iE (congrArg lG ((fW (by omega)).trans (mF ls (8+40*i) 16 (by omega))))) (dL [] Z (by kernel_rfl) (dO yN Z Z M9 (iP _ _ _ _ ((((ls.drop (8+40*i)).take ((8+40*i)+40 - (8+40*i))).drop 20).take (24 - 20)) (Rd.subB (Rd.subB (R.mem M9) ((8+40*i)) ((8+40*i)+40) (by omega) (by omega) hcap) 20 24 (by omega) (by omega) (by omega)) ((hB.sub _ _).sub _ _) (by omega)) (fun w10 M10 => ?_)))
     refine aB (aC ⟨dG, ?_⟩)
     refine dX 58 (.int .i32 (lG (eJ ls (8+40*i+20)))) (iE (congrArg lG ((fW (by omega)).trans (mF ls (8+40*i) 20 (by omega))))) (dL [] Z (by kernel_rfl) (dO yN Z Z M10 (iP _ _ _ _ ((((ls.drop (8+40*i)).take ((8+40*i)+40 - (8+40*i))).drop 24).take (28 - 24)) (Rd.subB (Rd.subB (R.mem M10) ((8+40*i)) ((8+40*i)+40) (by omega) (by omega) hcap) 24 28 (by omega) (by omega) (by omega)) ((hB.sub _ _).sub _ _) (by omega)) (fun w11 M11 => ?_)))
     refine aB (aC ⟨dG, ?_⟩)
     refine dX 61 (.int .i32 (lG (eJ ls (8+40*i+24)))) (iE (congrArg lG ((fW (by omega)).trans (mF ls (8+40*i) 24 (by omega))))) (dL [] Z (by kernel_rfl) (dO yN Z Z M11 (iP _ _ _ _ ((((ls.drop (8+40*i)).take ((8+40*i)+40 - (8+40*i))).drop 28).take (32 - 28)) (Rd.subB (Rd.subB (R.mem M11) ((8+40*i)) ((8+40*i)+40) (by omega) (by omega) hcap) 28 32 (by omega) (by omega) (by omega)) ((hB.sub _ _).sub _ _) (by omega)) (fun w12 M12 => ?_)))
     refine aB (aC ⟨dG, ?_⟩)
     refine dX 64 (.int .i32 (lG (eJ ls (8+40*i+28)))) (iE (congrArg lG ((fW (by omega)).trans (mF ls (8+40*i) 28 (by omega))))) (aX Z Z Z (fun _=>cD [(0,.int _ _),(1,.int _ _)] _ fB Z Z) (dL [] Z (by kernel_rfl) (dO yN Z Z M12 (iP _ _ _ _ ((((ls.drop (8+40*i)).take ((8+40*i)+40 - (8+40*i))).drop 32).take (36 - 32)) (Rd.subB (Rd.subB (R.mem M12) ((8+40*i)) ((8+40*i)+40) (by omega) (by omega) hcap) 32 36 (by omega) (by omega) (by omega)) ((hB.sub _ _).sub _ _) (by omega)) (fun w13 M13 => ?_))))
     refine aB (aC ⟨dG, ?_⟩)
     refine dX 68 (.int .i32 (lG (eJ ls (8+40*i+32)))) (iE (congrArg lG ((fW (by omega)).trans (mF ls (8+40*i) 32 (by omega))))) (dL [] Z (by kernel_rfl) (dO yN Z Z M13 (iP _ _ _ _ ((((ls.drop (8+40*i)).take ((8+40*i)+40 - (8+40*i))).drop 36).take (40 - 36)) (Rd.subB (Rd.subB (R.mem M13) ((8+40*i)) ((8+40*i)+40) (by omega) (by omega) hcap) 36 40 (by omega) (by omega) (by omega)) ((hB.sub _ _).sub _ _) (by omega)) (fun w14 M14 => ?_)))
     refine aB (aC ⟨dG, ?_⟩)
     refine dX 71 (.int .i32 (lG (eJ ls (8+40*i+36)))) (iE (congrArg lG ((fW (by omega)).trans (mF ls (8+40*i) 36 (by omega))))) (aX Z Z Z (fun _=>cD [(0,.int _ _),(1,.int _ _)] _ fB Z Z) (aX Z Z Z (fun _=>cD [(0,.int _ _),(1,.int _ _),(2,.agg (List.toArray _)),(3,.int _ _),(4,.int _ _),(5,.agg (List.toArray _)),(6,.agg (List.toArray _))] _ uX Z Z) (dX 73 ((.agg (aF (mN ls (8+40*i))).toArray)) Z (dL [] Z (by kernel_rfl) (bW [.agg (List.toArray _)] [aF (mN ls (8+40*i))] Z dS M14 Z Z Z Z (cQ Z) (by decide) (fun b15 w15 M15 => ?_))))))
     refine aB (aC ⟨dG, ?_⟩)
     refine dL [] rfl (by kernel_rfl) (cO 0 [aF (mN ls (8+40*i))] dS M15 rfl rfl rfl rfl rfl hq rfl (by simp [aF,Go.Bil.one]) (dI.ofMem 1 M15 rfl) (by omega) (fun A16 c16 e16 w16 M16 hR16 => ?_))
     refine aB (aC ⟨dG, ?_⟩)
     refine aX Z Z Z (fun _=>aJ (.slice _ _ _) Z) (bS (cU (aC (aA (aR Z Z (wq (bA Z Z (by omega) (by omega)) Z (bJ Z Z (aB ?_))))))))
     refine bX (i+1,⟨A16,q.n+1,c16,e16⟩) (bE Z (bE (iv Z (by omega)) eB)) (cA Z (cA Z (cA Z gL))) ?_ ?_
     ·exact ⟨⟨by omega,by rw [aJt,List.map_append];exact hR16⟩,M16.keep [true,false]⟩
     ·(show N - (i+1) < N - i;omega)
    ·obtain rfl:i=N:=by omega
     refine cS (dE (dH (eO (aC (aE (aA (dK Z Z (eL bVy Z Z (aQs _ _ _ _ (pH ls i) (hq.rd hM3 (bH (i:=0) Z))) ?_))))))))
     rintro v17 w17 ⟨rfl,hb17⟩
     have M17:=hM3.callB hb17
     refine bJ Z Z (aB (aC (aE (aE (aA (aR Z Z (cY Z Z Z Z (aB (aC ?_)))))))))
     refine aW Z (fun h79 => ?_) (fun h79 => ?_)
     ·refine aE (aA (aR Z Z (eG Z Z (bJ Z Z (aB (aC (aP (cN (gA (.slice _ _ _) (.int _ _) Z Z ?_)))))))))
      have hd:=aWf hfm hN h79
      exact ⟨⟨none,0,0,(none,default)⟩,by rw [hd],by rw [hd];exact aZ.nil _ _ _,(M17.keep [false]).dummy default⟩
     ·refine aM (aC (aE (aA (dK Z Z (eG Z Z (bJ Z Z (aB (aC (aP (gA (.slice _ _ _) (.int _ _) Z Z ?_))))))))))
      have hd:=aOy hfm hN (Decidable.not_not.1 h79)
      exact ⟨q,by rw [hd],by rw [hd];exact hq,M17⟩
end Go.Proofs.YtpcloigancpnbaaGreatDoor
