/- Part of the proof of a law of this seat (2 texts). No conditions. -/
import Derived.Test.YtpcloigancpnbaaGreatDoorK36
set_option linter.unusedVariables false
set_option linter.unusedSimpArgs false
set_option linter.unnecessarySimpa false
set_option maxHeartbeats 100000000
namespace Go.Proofs.YtpcloigancpnbaaGreatDoor
open Go.Bil
open Go.RowKit (Below)
open Go.Proofs
open Go.Proofs.Tryz
theorem bAf (w:World) (A:Option Addr) (n c:Nat) (l:List OpRow) (hl:OpsRd w A n l) :
  Calls prog 6 #[.slice A n c] w (gH (fun v w'=>(∃ g:Bool,v=.bool g∧(g=true→n≤16∧∀ x∈l,x.n≤500))∧Below w.heap.size w w')):=by
 have hlen:l.length=n:=by simpa using hl.rd.len
 have hbd:=hl.rd.bound
 refine aI #[.tmp 2] 37 func6 Z results6 ntmps6 Z ?_
 have M0:=Mem.refl w
 refine aE (aA (wq (aJ (.bool false) Z) Z (aB (aC (aE (aA (bK Z Z (aB (aC (aE (aE (aA (bK Z Z (aB (aC (aP (dG (σ:=Nat × Nat) [0] (fun (i,s)=>[(3,.int .i64 (s:Int)),(4,.int .i64 (i:Int))]) (fun (i,s) w'=>(i≤n∧s≤i∧∀ (j:Nat) (x:OpRow),j < i→l[j]? = some x→x.n≤500)∧Mem w [] [] w') (fun (i,s)=>n - i) (0,0) (bE Z (bE Z dZ)) (⟨⟨by omega,by omega,fun j x hj=>by omega⟩,M0⟩) ?_)))))))))))))))))
 rintro ⟨i,s⟩ ρ1 w1 ⟨⟨hi,hs,hal⟩,hM1⟩
 refine aE (aE (aA (aQ Z Z (dK Z Z (wq (cK underlying22 Z) Z (cX Z Z Z Z (wq (aH (.bool (decide _)) Z) Z ?_)))))))
 refine dQ 9 Z (fun g9 => ?_) (fun g9 => ?_)
 ·refine aQ Z Z (cX Z Z Z Z (wq (bR true (.bool (decide _)) Z Z) Z (aB (aC ?_))))
  refine aU Z (fun h12 => ?_) (fun h12 => ?_)
  ·obtain ⟨x,hx⟩:=cF (xs:=l) (k:=i) hlen (by omega)
   refine aM (aC (aE (aP (aE (aE (aA (dK Z Z (aQ Z Z (wq (bJ (i) lR Z Z Z ((hl.rd.mem hM1).below_len (aG OpRow.cells hx)) ((hl.rd.mem hM1).someK (aG OpRow.cells hx))) Z (wq (aT 14 vP (hl.rd.mem hM1) (iR ((hl.rd.mem hM1).below_len (aG OpRow.cells hx))) Z) Z (wq (dM (o:=14) (.slice _ _ _) kC (hl.rd.mem hM1) (aG OpRow.cells hx) Z Z) Z (wq (cK underlying34 Z) Z (cX Z Z Z Z (aB (aC ?_)))))))))))))))
   refine aU Z (fun h21 => ?_) (fun h21 => ?_)
   ·refine aE (aA (wq (aJ (.bool false) Z) Z (aB (aC (aO (cO (lU (cO (uQ (lU (cO (cI (.bool false) Z ?_))))))))))))
    exact ⟨⟨false,Z,fun h=>by cases h⟩,hM1.below⟩
   ·refine aM (aC (aE (aA (dK Z Z (aQ Z Z (wq (bJ (i) lR Z Z Z ((hl.rd.mem hM1).below_len (aG OpRow.cells hx)) ((hl.rd.mem hM1).someK (aG OpRow.cells hx))) Z (wq (aT 0 pN (hl.rd.mem hM1) (iR ((hl.rd.mem hM1).below_len (aG OpRow.cells hx))) Z) Z (wq (dM (o:=0) (.int _ _) fT (hl.rd.mem hM1) (aG OpRow.cells hx) Z Z) Z (cX Z Z Z Z (aB (aC ?_)))))))))))
    refine aU Z (fun h27 => ?_) (fun h27 => ?_)
    ·refine aA (aQ Z Z (wq (bC Z Z (by omega) (by omega)) Z (bK Z Z (aB (cR (aC (aA (aQ Z Z (wq (bC Z Z (by omega) (by omega)) Z (bK Z Z (aB ?_)))))))))))
     refine bX (i+1,s+1) (bE Z (bE Z dZ)) (bZ Z gK) ?_ ?_
     ·exact ⟨⟨by omega,by omega,sK (p:=fun _ x=>x.n≤500) hal hx (by omega)⟩,hM1⟩
     ·(show n - (i+1) < n - i;omega)
    ·refine aM (cR (aC (aA (aQ Z Z (wq (bC Z Z (by omega) (by omega)) Z (bK Z Z (aB ?_)))))))
     refine bX (i+1,s) (bE Z (bE Z dZ)) (bZ Z gK) ?_ ?_
     ·exact ⟨⟨by omega,by omega,sK (p:=fun _ x=>x.n≤500) hal hx (by omega)⟩,hM1⟩
     ·(show n - (i+1) < n - i;omega)
  ·refine cN (dC (dE (eJ (aC (aE (aA (dK Z Z (wq (cK underlying22 Z) Z (cX Z Z Z Z (wq (aH (.bool (decide _)) Z) Z ?_))))))))))
   refine dQ 33 Z (fun g33 => ?_) (fun g33 => ?_)
   ·refine aQ Z Z (cX Z Z Z Z (wq (bR true (.bool (decide _)) Z Z) Z (wq (aJ (.bool (decide _)) Z) Z (aB (aC (aO (cI (.bool (decide _)) Z ?_)))))))
    refine ⟨⟨_,Z,fun hg => ?_⟩,hM1.below⟩
    first | (cases hg;done) | exact ⟨(by omega),fun x hx=>(by obtain ⟨j,hj⟩:=List.getElem?_of_mem hx;exact hal j x (by have:=(List.getElem?_eq_some_iff.1 hj).1;omega) hj)⟩
   ·refine aN Z Z (aN Z Z (wq (bR false (.bool false) Z Z) Z (wq (aJ (.bool false) Z) Z (aB (aC (aO (cI (.bool false) Z ?_)))))))
    refine ⟨⟨_,Z,fun hg => ?_⟩,hM1.below⟩
    first | (cases hg;done) | exact ⟨(by omega),fun x hx=>(by obtain ⟨j,hj⟩:=List.getElem?_of_mem hx;exact hal j x (by have:=(List.getElem?_eq_some_iff.1 hj).1;omega) hj)⟩
 ·refine aN Z Z (aN Z Z (wq (bR false (.bool false) Z Z) Z (aB (aC (cG Z (cN (dC (dE (eJ (aC (aE (aA (dK Z Z (wq (cK underlying22 Z) Z (cX Z Z Z Z (wq (aH (.bool (decide _)) Z) Z ?_))))))))))))))))
  refine dQ 33 Z (fun g33 => ?_) (fun g33 => ?_)
  ·refine aQ Z Z (cX Z Z Z Z (wq (bR true (.bool (decide _)) Z Z) Z (wq (aJ (.bool (decide _)) Z) Z (aB (aC (aO (cI (.bool (decide _)) Z ?_)))))))
   refine ⟨⟨_,Z,fun hg => ?_⟩,hM1.below⟩
   first | (cases hg;done) | exact ⟨(by omega),fun x hx=>(by obtain ⟨j,hj⟩:=List.getElem?_of_mem hx;exact hal j x (by have:=(List.getElem?_eq_some_iff.1 hj).1;omega) hj)⟩
  ·refine aN Z Z (aN Z Z (wq (bR false (.bool false) Z Z) Z (wq (aJ (.bool false) Z) Z (aB (aC (aO (cI (.bool false) Z ?_)))))))
   refine ⟨⟨_,Z,fun hg => ?_⟩,hM1.below⟩
   first | (cases hg;done) | exact ⟨(by omega),fun x hx=>(by obtain ⟨j,hj⟩:=List.getElem?_of_mem hx;exact hal j x (by have:=(List.getElem?_eq_some_iff.1 hj).1;omega) hj)⟩
theorem aNj (w:World) (A:Option Addr) (n c:Nat) (l:List OpRow) (hl:OpsRd w A n l) (hcap:n≤c) (hby:∀ x∈l,x.n≤1000000) (hn:n≤1000000) (z:Int) (k:Nat) (hz:max z 1=(k:Int)) :
  Calls prog 13 #[.slice A n c,.int .i64 z] w (gH (fun v w'=>∃ (qm:Row) (ms:List Row),v=.agg [.slice A n c,.int .i64 (k:Int),.slice qm.A qm.n qm.c].toArray∧aZ 34 1 qm.A qm.n qm.c ((ms).map pS) qm.e∧BytR 5 ms (fM (opsO l) k ((opsO l).length / k))∧Mem w [] ([qm.e]++ms.map Row.e) w')):=by
 have hlen:l.length=n:=by simpa using hl.rd.len
 have hbd:=hl.rd.bound
 have hkp:0 < k:=by omega
 have hok:=hl.okO hby
 refine aI #[.cell 4 52] 44 func13 Z results13 ntmps13 Z ?_
 have M0:=Mem.refl w
 refine aE (aA (aR aIe M0 Z Z (fun b1 w1 M1=>(aB (aC (aE (aA (dK Z Z (aQ Z Z (wq (pB Z Z ) Z (aL 11 (.int .i64 (k:Int)) (iE hz) (wq (cB [(0,.slice _ _ _),(1,.int _ _)] _ aRg Z Z) Z (aR aIe M1 Z Z (fun b2 w2 M2=>(bG 1 _ tO M2 Z Z Z Z Z (aS Z) Z (fun w3 M3=>(aB (aC (aE (aE (aA (wq (aD 1 zA Z) Z (wq (aK 1 (.int _ _) fT M3 Z Z Z) Z (aL 14 (.int .i64 (((0+1)*k:Nat):Int)) (iE (by omega)) (bK Z Z ?_)))))))))))))))))))))))))
 have M4:=M3.dummy default
 refine aB (aC (aP (dG (σ:=Nat × Row × List Row) [0,4,5] (fun (i,qm,ms)=>[(6,.int .i64 (((i+1)*k:Nat):Int))]) (fun (i,qm,ms) w'=>(i≤n∧i*k≤n∧aZ 34 1 qm.A qm.n qm.c ((ms).map pS) qm.e∧BytR 5 ms (fM (opsO l) k i))∧Mem w [] ([(some b1,bc [.slice none 0 0,.int .i64 0,.slice none 0 0] 52),(some b2,bc [.slice A n c,.int .i64 (k:Int),.slice qm.A qm.n qm.c] 52),qm.e]++ms.map Row.e) w') (fun (i,qm,ms)=>n - i) (0,fH,[]) (bE Z dZ) (⟨⟨by omega,by omega,aZ.nil _ _ _,BytR.nil _⟩,M4⟩) ?_)))
 rintro ⟨i,qm,ms⟩ ρ5 w5 ⟨⟨hi,hik0,hqm,hmb⟩,hM5⟩
 have hmn:(ms.map pS).length=qm.n:=hqm.1
 rw [List.length_map,hmb.len,mP] at hmn
 refine aE (aE (aA (aQ Z Z (dK Z Z (wq (cK underlying22 Z) Z (cX Z Z Z Z (aB (aC ?_))))))))
 refine aU Z (fun h18 => ?_) (fun h18 => ?_)
 ·have hik:(i+1)*k≤n:=Int.ofNat_le.1 h18
  have hi1:i+1≤(i+1)*k:=Nat.le_mul_of_pos_right _ hkp
  have hkn:k≤n:=Nat.le_trans (Nat.le_mul_of_pos_left k (by omega)) hik
  have hS:=hl.sub 0 ((i+1)*k) (Nat.zero_le _) hik hcap
  rw [List.drop_zero,Nat.sub_zero] at hS
  have hGk:GoodV (iB [] (opsO (l.take ((i+1)*k)))):=by rw [vY];exact aKe hok _
  refine aM (aC (aE (aP (aE (aA (dK Z Z (aQ Z Z (wq (eS (0) ((((i+1)*k:Nat):Int)) lR Z Z ⟨_,Z⟩ (by omega) (by omega) (by omega)) Z (eP bTe Z Z (aTv _ _ ((i+1)*k - 0) _ (l.take ((i+1)*k)) (hS.mem hM5) (fun x hx=>hby x (List.mem_of_mem_take hx)) (by omega)) ?_)))))))))
  rintro v6 w6 ⟨v1,o1,rs1,rfl,hv1,ho1,hoR1,hM6⟩
  have M6:Mem _ _ ([_,_,_,_,_]++_) _:=Mem.front (L:=[_,_,_]) (Mem.call0U (L:=[_,_,_]) (A:=[_,_]) hM5 hM6)
  have ho1n:(lZ [] (opsO ((l.take ((i+1)*k))))).length=o1.n:=by have h:(kV _ rs1).length=o1.n:=ho1.1;rwa [oO hoR1.len] at h
  rw [oQ,fE] at ho1n
  refine wq (aH (.tuple (List.toArray _)) Z) Z (wq (bM (.slice _ _ _) Z Z) Z (wq (bM (.slice _ _ _) Z Z) Z (eH Z Z (eH Z Z (aB (aC (aE (fW [(0,0),(1,1),(2,0),(3,2),(4,2),(5,2),(6,0),(7,2)] mixed M6 Z (by kernel_rfl) (fun w7 M7=>(aV Z Z Z (fun _=>aD 2 pM Z) (bP Z Z Z (aK 1 (.slice _ _ _) gY M7 Z Z Z) (kA Z Z Z (dI [false] Z (by kernel_rfl) (eP bMr Z Z (aCx _ _ _ _ (iB [] (opsO (l.take ((i+1)*k)))) (hv1.rd M7 (bA (i:=3) Z)) (by have h:=hv1.1;have g:=hGk.len;rw [List.length_map] at h;omega) hGk.inb) ?_))))))))))))))
  rintro v8 w8 ⟨pm,rfl,hpm,hM8⟩
  have M8:Mem _ _ ([_,_,_,_,_,_]++_) _:=Mem.front (L:=[_,_,_,_,_]) (M7.call0 hM8)
  refine aB (aC ⟨(dS (bI Z (aK 1 (.slice _ _ _) gY M8 Z Z Z)) dJ), ?_⟩)
  refine dI [false] Z (by kernel_rfl) (cC [.slice _ _ _] [pS pm] Z uS M8 Z Z Z Z (cU Z) (by decide) (fun b9 w9 M9 => ?_))
  have M10:Mem _ _ ([_,_,_,_,_,_,_]++_) _:=Mem.front (L:=[_,_,_,_,_,_]) M9
  refine aB (aC ⟨(dS (bI Z (aK 1 (.slice _ _ _) gY M10 Z Z Z)) dJ), ?_⟩)
  refine dI [true] rfl (by kernel_rfl) (cW 2 [pS pm] uS M10 rfl rfl rfl rfl rfl hqm rfl (by simp [pS,Go.Bil.one]) (dL.ofMem 6 M10 rfl) (by omega) (fun A11 c11 e11 w11 M11 hR11 => ?_))
  refine aB (aC ⟨dJ, ?_⟩)
  refine aV Z Z Z (fun _=>aD 2 pM Z) (dI [] Z (by kernel_rfl) (dA 1 (.slice _ _ _) gY M11 Z Z Z Z Z Z (fun w12 M12 => ?_)))
  refine aB (aC ⟨dJ, ?_⟩)
  refine bS (aC (aE (aA (wq (aD 1 zA Z) Z (wq (aK 1 (.int _ _) fT M12 Z Z Z) Z (dK Z Z (wq (cK underlying22 Z) Z (cX Z Z Z Z (pD 41 Z (by omega) (aB (aC (cG Z (aM (cR (aC (aA (aQ Z Z (wq (aD 1 zA Z) Z (wq (aK 1 (.int _ _) fT M12 Z Z Z) Z ?_)))))))))))))))))))
  refine wq (bC Z Z (by omega) (by omega)) Z (aL 22 (.int .i64 (((i+1+1)*k:Nat):Int)) (iE (bKk i k)) (bK Z Z (aB ?_)))
  refine bX (i+1,⟨A11,qm.n+1,c11,e11⟩,ms++[pm]) (bE Z dZ) (bZ Z (bZ Z (bZ Z gK))) ?_ ?_
  ·exact ⟨⟨by omega,hik,by rw [List.map_append];exact hR11,by rw [aGf];show BytR 5 _ (_++[kH (iB [] ((opsO l).take ((i+1)*k)))]);rw [← vY];exact hmb.add hpm⟩,Mem.pushNew (L:=[_,_,_]) pm (Mem.cutT (Mem.keepL (L:=[_,_,_,_,_,_,_]) [true,true,true,false,false,true,false] M12))⟩
  ·(show n - (i+1) < n - i;omega)
 ·have hend:=bJa hkp hik0 (show n < (i+1)*k from Nat.lt_of_not_le fun h=>h18 (Int.ofNat_le.2 h))
  refine cN (dC (dE (eJ (aC (aE (aA (wq (aX 1 tO hM5 Z Z Z) Z (bG 0 _ tO hM5 Z Z Z Z Z (aS Z) Z (fun w13 M13=>(aB (aC (aO (eQ 0 tO M13 Z Z Z ?_)))))))))))))
  exact ⟨qm,ms,Z,hqm,by rw [fE,hlen,hend];exact hmb,Mem.keepL (L:=[_,_,_]) [false,false,true] M13⟩
theorem aJb (w:World) (A:Option Addr) (n c:Nat) (l:List OpRow) (hl:OpsRd w A n l) (A2:Option Addr) (n2 c2:Nat) (l2:List OpRow) (hl2:OpsRd w A2 n2 l2) (heq:opsO l=opsO l2) :
  Calls prog 26 #[.slice A n c,.slice A2 n2 c2] w (Rb w (.bool true)):=by
 have hlen:l.length=n:=by simpa using hl.rd.len
 have hbd:=hl.rd.bound
 have hlen2:l2.length=n2:=by simpa using hl2.rd.len
 have hbd2:=hl2.rd.bound
 have hll:l.length=l2.length:=by rw [← fE l,heq,fE]
 refine aI #[.tmp 4] 81 func26 Z results26 ntmps26 Z ?_
 have M0:=Mem.refl w
 refine aE (aA (wq (aJ (.bool false) Z) Z (aB (aC (aE (aE (aA (dK Z Z (wq (cK underlying22 Z) Z (dK Z Z (wq (cK underlying22 Z) Z (cX Z Z Z Z (pD 10 Z (by omega) (aB (aC (cG Z (aM (aC (aE (aE (aA (bK Z Z (aB (aC (aP (dG (σ:=Nat) [0,1] (fun i=>[(5,.int .i64 (i:Int))]) (fun i w'=>i≤n∧Mem w [] [] w') (fun i=>n - i) 0 (bE Z dZ) (⟨by omega,M0⟩) ?_))))))))))))))))))))))))))
 rintro i ρ1 w1 ⟨hi,hM1⟩
 refine aE (aE (aA (aQ Z Z (dK Z Z (wq (cK underlying22 Z) Z (cX Z Z Z Z (aB (aC ?_))))))))
 refine aU Z (fun h14 => ?_) (fun h14 => ?_)
 ·obtain ⟨x,hx⟩:=cF (xs:=l) (k:=i) hlen (by omega)
  obtain ⟨x2,hx2⟩:=cF (xs:=l2) (k:=i) hlen2 (by omega)
  have hxx:x.o=x2.o:=by have h1:=pP hx;have h2:=pP hx2;rw [heq,h2] at h1;exact (Option.some.inj h1).symm
  refine aM (aC (aE (aP (aE (mF [(0,0),(1,0),(2,1),(3,1),(4,1),(5,0),(6,0),(7,1),(8,1),(9,1),(10,0),(11,0),(12,0),(13,0),(14,1),(15,1),(16,1),(17,0),(18,0),(19,1),(20,1),(21,1),(22,0),(23,0),(24,0),(25,0),(26,0),(27,1),(28,1),(29,1),(30,0),(31,0),(32,1),(33,1),(34,1),(35,0),(36,0),(37,0),(38,0),(39,0),(40,1),(41,1),(42,1),(43,0),(44,0),(45,1),(46,1),(47,1),(48,0),(49,0),(50,0),(51,0),(52,0),(53,1),(54,1),(55,1),(56,0),(57,0),(58,1),(59,1),(60,1),(61,2),(62,0),(63,0)] mixed Z (by kernel_rfl) (fun w2 hb2 hh2 => ?_))))))
  have M2:=hM1.drew hb2 hh2
  refine kA Z Z Z (eD Z Z Z (bP Z Z Z (bJ (i) lR Z Z Z ((hl.rd.mem M2).below_len (aG OpRow.cells hx)) ((hl.rd.mem M2).someK (aG OpRow.cells hx))) (bP Z Z Z (aT 0 pN (hl.rd.mem M2) (iR ((hl.rd.mem M2).below_len (aG OpRow.cells hx))) Z) (bP Z Z Z (dM (o:=0) (.int _ _) fT (hl.rd.mem M2) (aG OpRow.cells hx) Z Z) (kA Z Z Z (eD Z Z Z (bP Z Z Z (bJ (i) lR Z Z Z ((hl2.rd.mem M2).below_len (aG OpRow.cells hx2)) ((hl2.rd.mem M2).someK (aG OpRow.cells hx2))) (bP Z Z Z (aT 0 pN (hl2.rd.mem M2) (iR ((hl2.rd.mem M2).below_len (aG OpRow.cells hx2))) Z) ?_))))))))
  refine bP Z Z Z (dM (o:=0) (.int _ _) fT (hl2.rd.mem M2) (aG OpRow.cells hx2) Z Z) (aV Z Z Z (fun _=>cA (.bool (decide _)) Z Z Z) (dV 27 (.bool false) (bF (fun h=>h (by rw [hxx]))).symm (aV Z Z Z (fun _=>aH (.bool false) Z) (kA Z Z Z (eD Z Z Z (bP Z Z Z (bJ (i) lR Z Z Z ((hl.rd.mem M2).below_len (aG OpRow.cells hx)) ((hl.rd.mem M2).someK (aG OpRow.cells hx))) (bP Z Z Z (aT 1 vM (hl.rd.mem M2) (iR ((hl.rd.mem M2).below_len (aG OpRow.cells hx))) Z) (bP Z Z Z (kW (o:=1) _ bQ (hl.rd.mem M2) (aG OpRow.cells hx) Z Z Z) ?_))))))))
  refine dV 33 ((.agg (aF x.o.body).toArray)) Z (kA Z Z Z (eD Z Z Z (bP Z Z Z (bJ (i) lR Z Z Z ((hl2.rd.mem M2).below_len (aG OpRow.cells hx2)) ((hl2.rd.mem M2).someK (aG OpRow.cells hx2))) (bP Z Z Z (aT 1 vM (hl2.rd.mem M2) (iR ((hl2.rd.mem M2).below_len (aG OpRow.cells hx2))) Z) (bP Z Z Z (kW (o:=1) _ bQ (hl2.rd.mem M2) (aG OpRow.cells hx2) Z Z Z) (dV 38 ((.agg (aF x2.o.body).toArray)) Z (aV Z Z Z (fun _=>bNt (bRi x.o.body x2.o.body) Z Z) (dV 39 (.bool false) (bF (fun h=>h (by rw [hxx]))).symm ?_))))))))
  refine aV Z Z Z (fun _=>bR false (.bool false) Z Z) (aV Z Z Z (fun _=>aH (.bool false) Z) (kA Z Z Z (eD Z Z Z (bP Z Z Z (bJ (i) lR Z Z Z ((hl.rd.mem M2).below_len (aG OpRow.cells hx)) ((hl.rd.mem M2).someK (aG OpRow.cells hx))) (bP Z Z Z (aT 11 vN (hl.rd.mem M2) (iR ((hl.rd.mem M2).below_len (aG OpRow.cells hx))) Z) (bP Z Z Z (dM (o:=11) (.int _ _) bV (hl.rd.mem M2) (aG OpRow.cells hx) Z Z) (kA Z Z Z (eD Z Z Z (bP Z Z Z (bJ (i) lR Z Z Z ((hl2.rd.mem M2).below_len (aG OpRow.cells hx2)) ((hl2.rd.mem M2).someK (aG OpRow.cells hx2))) ?_)))))))))
  refine bP Z Z Z (aT 11 vN (hl2.rd.mem M2) (iR ((hl2.rd.mem M2).below_len (aG OpRow.cells hx2))) Z) (bP Z Z Z (dM (o:=11) (.int _ _) bV (hl2.rd.mem M2) (aG OpRow.cells hx2) Z Z) (aV Z Z Z (fun _=>cA (.bool (decide _)) Z Z Z) (dV 52 (.bool false) (bF (fun h=>h (by rw [hxx]))).symm (aV Z Z Z (fun _=>bR false (.bool false) Z Z) (aV Z Z Z (fun _=>aH (.bool false) Z) (kA Z Z Z (eD Z Z Z (bP Z Z Z (bJ (i) lR Z Z Z ((hl.rd.mem M2).below_len (aG OpRow.cells hx)) ((hl.rd.mem M2).someK (aG OpRow.cells hx))) ?_))))))))
  refine bP Z Z Z (aT 12 vO (hl.rd.mem M2) (iR ((hl.rd.mem M2).below_len (aG OpRow.cells hx))) Z) (bP Z Z Z (kW (o:=12) _ bO (hl.rd.mem M2) (aG OpRow.cells hx) Z Z Z) (kA Z Z Z (eD Z Z Z (bP Z Z Z (bJ (i) lR Z Z Z ((hl2.rd.mem M2).below_len (aG OpRow.cells hx2)) ((hl2.rd.mem M2).someK (aG OpRow.cells hx2))) (bP Z Z Z (aT 12 vO (hl2.rd.mem M2) (iR ((hl2.rd.mem M2).below_len (aG OpRow.cells hx2))) Z) (bP Z Z Z (kW (o:=12) _ bO (hl2.rd.mem M2) (aG OpRow.cells hx2) Z Z Z) ?_))))))
  refine aV Z Z Z (fun _=>bNt (bNi _ _ _ _) Z Z) (dV 65 (.bool false) (bF (fun h=>h ⟨by rw [hxx],by rw [hxx]⟩)).symm (aV Z Z Z (fun _=>bR false (.bool false) Z Z) (aV Z Z Z (fun _=>aH (.bool false) Z) (kA Z Z Z (eD Z Z Z (bP Z Z Z (bJ (i) lR Z Z Z ((hl.rd.mem M2).below_len (aG OpRow.cells hx)) ((hl.rd.mem M2).someK (aG OpRow.cells hx))) (bP Z Z Z (aT 14 vP (hl.rd.mem M2) (iR ((hl.rd.mem M2).below_len (aG OpRow.cells hx))) Z) (bP Z Z Z (dM (o:=14) (.slice _ _ _) kC (hl.rd.mem M2) (aG OpRow.cells hx) Z Z) ?_))))))))
  refine kA Z Z Z (eD Z Z Z (bP Z Z Z (bJ (i) lR Z Z Z ((hl2.rd.mem M2).below_len (aG OpRow.cells hx2)) ((hl2.rd.mem M2).someK (aG OpRow.cells hx2))) (bP Z Z Z (aT 14 vP (hl2.rd.mem M2) (iR ((hl2.rd.mem M2).below_len (aG OpRow.cells hx2))) Z) (bP Z Z Z (dM (o:=14) (.slice _ _ _) kC (hl2.rd.mem M2) (aG OpRow.cells hx2) Z Z) (dI [true,true,true,true,true,true,true,true,true,true,true,true,true,true,true,true,true,true,true,true,true,true,true,true,true,true,true,true,true,true] Z (by kernel_rfl) ?_)))))
  refine dN bCf Z Z M2 (xY _ _ _ _ x.o.bytes ((hl.each x (List.mem_of_getElem? hx)).rd.mem M2) _ _ _ x2.o.bytes ((hl2.each x2 (List.mem_of_getElem? hx2)).rd.mem M2)) (fun w3 M3 => ?_)
  refine aB (aC ⟨dJ, ?_⟩)
  refine dV 78 (.bool true) (bT (by rw [hxx])).symm (aV Z Z Z (fun _=>gR false Z Z) (aV Z Z Z (fun _=>bR false (.bool false) Z Z) (bS (aC (cG Z (aM (cR (aC (aA (aQ Z Z (wq (bC Z Z (by omega) (by omega)) Z (bK Z Z (aB ?_)))))))))))))
  refine bX (i+1) (bE Z dZ) (bZ Z (bZ Z gK)) ?_ ?_
  ·exact ⟨by omega,M3⟩
  ·omega
 ·refine cN (dC (dE (eJ (aC (aE (aA (wq (aJ (.bool true) Z) Z (aB (aC (aO (cI (.bool true) Z ?_)))))))))))
  exact ⟨Z,hM1.below⟩
theorem aTw (w:World) (A:Option Addr) (n c:Nat) (l:List OpRow) (hl:OpsRd w A n l) (B:Option Addr) (m d:Nat) (rs:List Row) (bs:List (List Int)) (hB:BytRd w B m rs bs) (A2:Option Addr) (n2 c2:Nat) (l2:List OpRow) (hl2:OpsRd w A2 n2 l2) (heq:opsO l=opsO l2) (B2:Option Addr) (m2 d2:Nat) (rs2:List Row) (hB2:BytRd w B2 m2 rs2 bs) (z:Int) :
  Calls prog 11 #[.agg [.slice A n c,.int .i64 z,.slice B m d].toArray,.agg [.slice A2 n2 c2,.int .i64 z,.slice B2 m2 d2].toArray] w (Rb w (.bool true)):=by
 have hbm:=hB.n_eq.1
 have hbm2:=hB2.n_eq.1
 have hbd:=hB.rd.bound
 have hbd2:=hB2.rd.bound
 refine aI #[.tmp 4] 47 func11 Z results11 ntmps11 Z ?_
 have M0:=Mem.refl w
 refine aE (aA (bN (.agg (.mk _)) M0 Z Z Z (fun b1 w1 M1=>(bN (.agg (.mk _)) M1 Z Z Z (fun b2 w2 M2=>(wq (aJ (.bool false) Z) Z (aB (aC (aE (aE (aA (wq (aD 1 zA Z) Z (wq (aK 0 (.int _ _) fT M2 Z Z Z) Z (wq (aD 1 zA Z) Z (wq (aK 1 (.int _ _) fT M2 Z Z Z) Z (cX Z Z Z Z (pD 10 Z (fun h=>h Z) (wq (aH (.bool false) Z) Z (wq (aD 2 pM Z) Z (wq (aK 0 (.slice _ _ _) gY M2 Z Z Z) Z (wq (cK underlying26 Z) Z (wq (aD 2 pM Z) Z ?_))))))))))))))))))))))
 refine wq (aK 1 (.slice _ _ _) gY M2 Z Z Z) Z (wq (cK underlying26 Z) Z (cX Z Z Z Z (pD 18 Z (by omega) (wq (bR false (.bool false) Z Z) Z (wq (aH (.bool false) Z) Z (wq (aD 0 aDw Z) Z (wq (aK 0 (.slice _ _ _) aQd M2 Z Z Z) Z (wq (aD 0 aDw Z) Z (wq (aK 1 (.slice _ _ _) aQd M2 Z Z Z) Z (dN bTk Z Z M2 (aJb _ A n c l (hl.mem M2) A2 n2 c2 l2 (hl2.mem M2) heq) (fun w3 M3=>(wq (gR false Z Z) Z (wq (bR false (.bool false) Z Z) Z (aB (aC (cG Z ?_))))))))))))))))
 refine aM (aC (aE (aE (aA (bK Z Z (aB (aC (aP (dG (σ:=Nat) [2,3] (fun i=>[(5,.int .i64 (i:Int))]) (fun i w'=>i≤m∧Mem w [] [(some b1,bc [.slice A n c,.int .i64 z,.slice B m d] 52),(some b2,bc [.slice A2 n2 c2,.int .i64 z,.slice B2 m2 d2] 52)] w') (fun i=>m - i) 0 (bE Z dZ) (⟨by omega,M3⟩) ?_)))))))))
 rintro i ρ4 w4 ⟨hi,hM4⟩
 refine aE (aE (aA (aQ Z Z (wq (aD 2 pM Z) Z (wq (aK 0 (.slice _ _ _) gY hM4 Z Z Z) Z (wq (cK underlying26 Z) Z (cX Z Z Z Z (aB (aC ?_)))))))))
 refine aU Z (fun h32 => ?_) (fun h32 => ?_)
 ·obtain ⟨rj,bj,hrj,hbj,hhj,hrd,hbl,hcp⟩:=hB.at (j:=i) (by omega)
  obtain ⟨rk,bk,hrk,hbk,hhk,hrd2,_,_⟩:=hB2.at (j:=i) (by omega)
  obtain rfl:bj=bk:=by rw [hbj] at hbk;exact Option.some.inj hbk
  refine aM (aC (aE (aP (aE (mF [(0,0),(1,1),(2,0),(3,1),(4,1),(5,0),(6,1),(7,0),(8,1),(9,1),(10,2),(11,0)] mixed Z (by kernel_rfl) (fun w5 hb5 hh5 => ?_))))))
  have M5:=hM4.drew hb5 hh5
  refine aV Z Z Z (fun _=>aD 2 pM Z) (bP Z Z Z (aK 0 (.slice _ _ _) gY M5 Z Z Z) (eD Z Z Z (bP Z Z Z (bJ (i) uS Z Z Z ((hB.rd.mem M5).below_len (hhj)) ((hB.rd.mem M5).someK (hhj))) (bP Z Z Z (fU (.slice _ _ _) kC (hB.rd.mem M5) (hhj) Z) (aV Z Z Z (fun _=>aD 2 pM Z) (bP Z Z Z (aK 1 (.slice _ _ _) gY M5 Z Z Z) (eD Z Z Z (bP Z Z Z (bJ (i) uS Z Z Z ((hB2.rd.mem M5).below_len (hhk)) ((hB2.rd.mem M5).someK (hhk))) (bP Z Z Z (fU (.slice _ _ _) kC (hB2.rd.mem M5) (hhk) Z) ?_)))))))))
  refine dI [true,true,true,true,true,true] Z (by kernel_rfl) (dN bCf Z Z M5 (xY _ _ _ _ bj (hrd.mem M5) _ _ _ bj (hrd2.mem M5)) (fun w6 M6 => ?_))
  refine aB (aC ⟨dJ, ?_⟩)
  refine dV 45 (.bool true) (bT Z).symm (aV Z Z Z (fun _=>gR false Z Z) (bS (aC (cG Z (aM (cR (aC (aA (aQ Z Z (wq (bC Z Z (by omega) (by omega)) Z (bK Z Z (aB ?_))))))))))))
  refine bX (i+1) (bE Z dZ) (bZ Z (bZ Z gK)) ?_ ?_
  ·exact ⟨by omega,M6⟩
  ·omega
 ·refine cN (dC (dE (eJ (aC (aE (aA (wq (aJ (.bool true) Z) Z (aB (aC (aO (cI (.bool true) Z ?_)))))))))))
  exact ⟨Z,hM4.below⟩
theorem wZ (w:World) (A:Option Addr) (n c:Nat) (l:List OpRow) (hl:OpsRd w A n l) (hby:∀ x∈l,x.n≤1000000) (hn:n≤1000000) :
  Calls prog 8 #[.slice A n c] w (gH (fun v w'=>∃ (q:Row) (ps:List Row),v=.slice q.A q.n q.c∧aZ 45 15 q.A q.n q.c ((oM (opsO l) ps).map OpRow.cells) q.e∧BytR 5 ps ((opsO l).map OpI.bytes)∧Mem w [] ([q.e]++ps.map Row.e) w')):=by
 have hlen:l.length=n:=by simpa using hl.rd.len
 have hbd:=hl.rd.bound
 refine aI #[.tmp 2] 43 func8 Z results8 ntmps8 Z ?_
 have M0:=Mem.refl w
 refine aE (aA (eH Z Z (aB (aC (aE (aA (eH Z Z ?_)))))))
 have M1:=M0.dummy default
 refine aB (aC (aE (aE (aA (bK Z Z (aB (aC (aP (dG (σ:=Nat × Row × List Row) [0,2] (fun (i,q,ps)=>[(3,.slice q.A q.n q.c),(4,.int .i64 (i:Int))]) (fun (i,q,ps) w'=>(i≤n∧aZ 45 15 q.A q.n q.c ((oM ((opsO l).take i) ps).map OpRow.cells) q.e∧BytR 5 ps (((opsO l).take i).map OpI.bytes))∧Mem w [] ([q.e]++ps.map Row.e) w') (fun (i,q,ps)=>n - i) (0,fH,[]) (bE Z (bE Z dZ)) (⟨⟨by omega,aZ.nil _ _ _,BytR.nil _⟩,M1⟩) ?_)))))))))
 rintro ⟨i,q,ps⟩ ρ2 w2 ⟨⟨hi,hq,hpb⟩,hM2⟩
 have hpl:ps.length=((opsO l).take i).length:=by rw [hpb.len,List.length_map]
 have hqn:((oM ((opsO l).take i) ps).map OpRow.cells).length=q.n:=hq.1
 rw [List.length_map,vW hpl,List.length_take,fE] at hqn
 refine aE (aE (aA (aQ Z Z (dK Z Z (wq (cK underlying22 Z) Z (cX Z Z Z Z (aB (aC ?_))))))))
 refine aU Z (fun h8 => ?_) (fun h8 => ?_)
 ·obtain ⟨x,hx⟩:=cF (xs:=l) (k:=i) hlen (by omega)
  have hxm:=List.mem_of_getElem? hx
  have hxo:=pP hx
  have hP:=hl.each x hxm
  have hxn:=hby x hxm
  refine aM (aC (aE (aP (mF [(0,0),(1,0),(2,0),(3,1),(4,1),(5,1),(6,0),(7,0),(8,1),(9,1),(10,1),(11,0),(12,0),(13,1),(14,1),(15,1),(16,0),(17,0),(18,1),(19,1),(20,1),(22,0),(23,0),(24,1),(25,1),(26,1),(21,2),(27,2),(28,0),(29,2),(30,2),(31,0)] mixed Z (by kernel_rfl) (fun w3 hb3 hh3 => ?_)))))
  have M3:=hM2.drew hb3 hh3
  refine kA Z Z Z (kA Z Z Z (eD Z Z Z (bP Z Z Z (bJ (i) lR Z Z Z ((hl.rd.mem M3).below_len (aG OpRow.cells hx)) ((hl.rd.mem M3).someK (aG OpRow.cells hx))) (bP Z Z Z (aT 0 pN (hl.rd.mem M3) (iR ((hl.rd.mem M3).below_len (aG OpRow.cells hx))) Z) (bP Z Z Z (dM (o:=0) (.int _ _) fT (hl.rd.mem M3) (aG OpRow.cells hx) Z Z) (kA Z Z Z (eD Z Z Z (bP Z Z Z (bJ (i) lR Z Z Z ((hl.rd.mem M3).below_len (aG OpRow.cells hx)) ((hl.rd.mem M3).someK (aG OpRow.cells hx))) (bP Z Z Z (aT 1 vM (hl.rd.mem M3) (iR ((hl.rd.mem M3).below_len (aG OpRow.cells hx))) Z) ?_)))))))))
  refine bP Z Z Z (kW (o:=1) _ bQ (hl.rd.mem M3) (aG OpRow.cells hx) Z Z Z) (kA Z Z Z (eD Z Z Z (bP Z Z Z (bJ (i) lR Z Z Z ((hl.rd.mem M3).below_len (aG OpRow.cells hx)) ((hl.rd.mem M3).someK (aG OpRow.cells hx))) (bP Z Z Z (aT 11 vN (hl.rd.mem M3) (iR ((hl.rd.mem M3).below_len (aG OpRow.cells hx))) Z) (bP Z Z Z (dM (o:=11) (.int _ _) bV (hl.rd.mem M3) (aG OpRow.cells hx) Z Z) (kA Z Z Z (eD Z Z Z (bP Z Z Z (bJ (i) lR Z Z Z ((hl.rd.mem M3).below_len (aG OpRow.cells hx)) ((hl.rd.mem M3).someK (aG OpRow.cells hx))) ?_))))))))
  refine bP Z Z Z (aT 12 vO (hl.rd.mem M3) (iR ((hl.rd.mem M3).below_len (aG OpRow.cells hx))) Z) (bP Z Z Z (kW (o:=12) _ bO (hl.rd.mem M3) (aG OpRow.cells hx) Z Z Z) (kA Z Z Z (eD Z Z Z (bP Z Z Z (bJ (i) lR Z Z Z ((hl.rd.mem M3).below_len (aG OpRow.cells hx)) ((hl.rd.mem M3).someK (aG OpRow.cells hx))) (bP Z Z Z (aT 14 vP (hl.rd.mem M3) (iR ((hl.rd.mem M3).below_len (aG OpRow.cells hx))) Z) (bP Z Z Z (dM (o:=14) (.slice _ _ _) kC (hl.rd.mem M3) (aG OpRow.cells hx) Z Z) ?_))))))
  refine dI [false,false,false,false,false,false,false,false,false,false,false,false,false,false,false] Z (by kernel_rfl) (cC [] [] Z gC M3 Z Z Z Z (cU Z) (by decide) (fun b4 w4 M4 => ?_))
  have M5:Mem _ _ ([_,_]++_) _:=Mem.front (L:=[_]) M4
  refine aB (aC ⟨(dS (bI Z (dM (o:=14) (.slice _ _ _) kC (hl.rd.mem M5) (aG OpRow.cells hx) Z Z)) (dS (bI Z (aT 14 vP (hl.rd.mem M5) (iR ((hl.rd.mem M5).below_len (aG OpRow.cells hx))) Z)) (dS (bI Z (bJ (i) lR Z Z Z ((hl.rd.mem M5).below_len (aG OpRow.cells hx)) ((hl.rd.mem M5).someK (aG OpRow.cells hx)))) (dS (bI Z (kW (o:=12) _ bO (hl.rd.mem M5) (aG OpRow.cells hx) Z Z Z)) (dS (bI Z (aT 12 vO (hl.rd.mem M5) (iR ((hl.rd.mem M5).below_len (aG OpRow.cells hx))) Z)) (dS (bI Z (bJ (i) lR Z Z Z ((hl.rd.mem M5).below_len (aG OpRow.cells hx)) ((hl.rd.mem M5).someK (aG OpRow.cells hx)))) (dS (bI Z (dM (o:=11) (.int _ _) bV (hl.rd.mem M5) (aG OpRow.cells hx) Z Z)) (dS (bI Z (aT 11 vN (hl.rd.mem M5) (iR ((hl.rd.mem M5).below_len (aG OpRow.cells hx))) Z)) (dS (bI Z (bJ (i) lR Z Z Z ((hl.rd.mem M5).below_len (aG OpRow.cells hx)) ((hl.rd.mem M5).someK (aG OpRow.cells hx)))) (dS (bI Z (kW (o:=1) _ bQ (hl.rd.mem M5) (aG OpRow.cells hx) Z Z Z)) (dS (bI Z (aT 1 vM (hl.rd.mem M5) (iR ((hl.rd.mem M5).below_len (aG OpRow.cells hx))) Z)) (dS (bI Z (bJ (i) lR Z Z Z ((hl.rd.mem M5).below_len (aG OpRow.cells hx)) ((hl.rd.mem M5).someK (aG OpRow.cells hx)))) (dS (bI Z (dM (o:=0) (.int _ _) fT (hl.rd.mem M5) (aG OpRow.cells hx) Z Z)) (dS (bI Z (aT 0 pN (hl.rd.mem M5) (iR ((hl.rd.mem M5).below_len (aG OpRow.cells hx))) Z)) (dS (bI Z (bJ (i) lR Z Z Z ((hl.rd.mem M5).below_len (aG OpRow.cells hx)) ((hl.rd.mem M5).someK (aG OpRow.cells hx)))) dJ))))))))))))))), ?_⟩)
  refine dI [true,true,true,false,false,false,false,false,false,false,false,false,false,false,false] Z (by kernel_rfl) (gJ 1 (x.o.bytes.map bB) gC M5 Z Z Z Z Z (aZ.empty b4) (hP.rd.mem M5) (aEq _) (by omega) (fun A6 c6 e6 w6 M6 hR6 hA6 => ?_))
  refine aB (aC ⟨(dS (bI Z (kW (o:=12) _ bO (hl.rd.mem M6) (aG OpRow.cells hx) Z Z Z)) (dS (bI Z (aT 12 vO (hl.rd.mem M6) (iR ((hl.rd.mem M6).below_len (aG OpRow.cells hx))) Z)) (dS (bI Z (bJ (i) lR Z Z Z ((hl.rd.mem M6).below_len (aG OpRow.cells hx)) ((hl.rd.mem M6).someK (aG OpRow.cells hx)))) (dS (bI Z (dM (o:=11) (.int _ _) bV (hl.rd.mem M6) (aG OpRow.cells hx) Z Z)) (dS (bI Z (aT 11 vN (hl.rd.mem M6) (iR ((hl.rd.mem M6).below_len (aG OpRow.cells hx))) Z)) (dS (bI Z (bJ (i) lR Z Z Z ((hl.rd.mem M6).below_len (aG OpRow.cells hx)) ((hl.rd.mem M6).someK (aG OpRow.cells hx)))) (dS (bI Z (kW (o:=1) _ bQ (hl.rd.mem M6) (aG OpRow.cells hx) Z Z Z)) (dS (bI Z (aT 1 vM (hl.rd.mem M6) (iR ((hl.rd.mem M6).below_len (aG OpRow.cells hx))) Z)) (dS (bI Z (bJ (i) lR Z Z Z ((hl.rd.mem M6).below_len (aG OpRow.cells hx)) ((hl.rd.mem M6).someK (aG OpRow.cells hx)))) (dS (bI Z (dM (o:=0) (.int _ _) fT (hl.rd.mem M6) (aG OpRow.cells hx) Z Z)) (dS (bI Z (aT 0 pN (hl.rd.mem M6) (iR ((hl.rd.mem M6).below_len (aG OpRow.cells hx))) Z)) (dS (bI Z (bJ (i) lR Z Z Z ((hl.rd.mem M6).below_len (aG OpRow.cells hx)) ((hl.rd.mem M6).someK (aG OpRow.cells hx)))) dJ)))))))))))), ?_⟩)
  refine aV Z Z Z (fun _=>cB [(0,.int _ _),(1,.agg (List.toArray _)),(2,.int _ _),(3,.agg (List.toArray _)),(4,.slice _ _ _)] _ aHn Z Z) (dI [true,true,true,true,true,true,true,true,true,true,true,true] Z (by kernel_rfl) (cC [.agg (List.toArray _)] [dR x.o A6 (0+x.n) c6] Z pC M6 Z Z Z Z (cU Z) (by decide) (fun b7 w7 M7 => ?_)))
  have M8:Mem _ _ ([_,_,_]++_) _:=Mem.front (L:=[_,_]) M7
  refine aB (aC ⟨dJ, ?_⟩)
  refine dI [] rfl (by kernel_rfl) (cW 0 [dR x.o A6 (0+x.n) c6] pC M8 rfl rfl rfl rfl rfl hq rfl (by simp [dR,aF,Go.Bil.one]) (dL.ofMem 2 M8 rfl) (by omega) (fun A9 c9 e9 w9 M9 hR9 => ?_))
  refine aB (aC ⟨dJ, ?_⟩)
  refine aV Z Z Z (fun _=>aJ (.slice _ _ _) Z) (bS (cR (aC (aA (aQ Z Z (wq (bC Z Z (by omega) (by omega)) Z (bK Z Z (aB ?_))))))))
  refine bX (i+1,⟨A9,q.n+1,c9,e9⟩,ps++[⟨A6,0+x.n,c6,e6⟩]) (bE Z (bE Z dZ)) (bZ Z (bZ Z gK)) ?_ ?_
  ·exact ⟨⟨by omega,by rw [cH hxo,uH hpl,List.map_append];exact hR9,by rw [cH hxo,List.map_append];exact hpb.add (by simpa using hR6)⟩,Mem.pushNew (L:=[_]) ⟨A6,0+x.n,c6,e6⟩ (Mem.keepL (L:=[_,_,_]) [true,true,false] M9)⟩
  ·(show n - (i+1) < n - i;omega)
 ·have hin:i=n:=by omega
  rw [hin,List.take_of_length_le (by rw [fE];omega)] at hq hpb
  refine cN (dC (dE (eJ (aC (aE (aA (dK Z Z (eH Z Z (aB (aC (aO (cI (.slice _ _ _) Z ?_))))))))))))
  exact ⟨q,ps,Z,hq,hpb,hM2⟩
theorem aZi (w:World) (A:Option Addr) (n c:Nat) (l:List OpRow) (hl:OpsRd w A n l) (hn:n≤1000000) (z:Int) (B:Option Addr) (m d:Nat) :
  Calls prog 12 #[.agg [.slice A n c,.int .i64 z,.slice B m d].toArray] w (gH (fun v w'=>∃ q:Row,v=.agg [.slice q.A q.n q.c,.int .i64 z,.slice B m d].toArray∧aZ 58 15 q.A q.n q.c (l.map OpRow.cells) q.e∧Mem w [] [q.e] w')):=by
 have hlen:l.length=n:=by simpa using hl.rd.len
 have hbd:=hl.rd.bound
 refine aI #[.cell 2 52] 54 func12 Z results12 ntmps12 Z ?_
 have M0:=Mem.refl w
 refine aE (aA (bN (.agg (.mk _)) M0 Z Z Z (fun b1 w1 M1=>(aR aIe M1 Z Z (fun b2 w2 M2=>(aB (aC (aE (aA (wq (aD 1 mZ Z) Z (wq (aK 0 (.int _ _) fT M2 Z Z Z) Z (wq (aD 2 iZ Z) Z (wq (aK 0 (.slice _ _ _) gY M2 Z Z Z) Z (wq (cB [(1,.int _ _),(2,.slice _ _ _)] _ aRg Z Z) Z (aR aIe M2 Z Z (fun b3 w3 M3=>(bG 2 _ tO M3 Z Z Z Z Z (aS Z) Z (fun w4 M4=>(aB (aC (aE (aE (aA (bK Z Z ?_))))))))))))))))))))))))
 have M5:=M4.dummy default
 refine aB (aC (aP (dG (σ:=Nat × Row) [1,2,3] (fun (i,q)=>[(4,.int .i64 (i:Int))]) (fun (i,q) w'=>(i≤n∧aZ 58 15 q.A q.n q.c ((l.take i).map OpRow.cells) q.e)∧Mem w [] [(some b1,bc [.slice A n c,.int .i64 z,.slice B m d] 28),(some b2,bc [.slice none 0 0,.int .i64 0,.slice none 0 0] 52),(some b3,bc [.slice q.A q.n q.c,.int .i64 z,.slice B m d] 52),q.e] w') (fun (i,q)=>n - i) (0,fH) (bE Z dZ) (⟨⟨by omega,aZ.nil _ _ _⟩,M5⟩) ?_)))
 rintro ⟨i,q⟩ ρ6 w6 ⟨⟨hi,hq⟩,hM6⟩
 have hqn:((l.take i).map OpRow.cells).length=q.n:=hq.1
 rw [List.length_map,List.length_take] at hqn
 refine aE (aE (aA (aQ Z Z (wq (aD 0 fP Z) Z (wq (aK 0 (.slice _ _ _) iI hM6 Z Z Z) Z (wq (cK underlying25 Z) Z (cX Z Z Z Z (aB (aC ?_)))))))))
 refine aU Z (fun h14 => ?_) (fun h14 => ?_)
 ·obtain ⟨x,hx⟩:=cF (xs:=l) (k:=i) hlen (by omega)
  refine aM (aC (aE (aP (mF [(0,0),(1,1),(2,0),(3,1),(4,0),(5,1),(6,1),(7,1),(8,0),(9,1),(10,0),(11,1),(12,1),(13,1),(14,0),(15,1),(16,0),(17,1),(18,1),(19,1),(20,0),(21,1),(22,0),(23,1),(24,1),(25,1),(26,0),(27,1),(28,0),(29,1),(30,1),(31,1),(32,0),(33,2),(34,2),(35,0),(36,2)] mixed Z (by kernel_rfl) (fun w7 hb7 hh7 => ?_)))))
  have M7:=hM6.drew hb7 hh7
  refine aV Z Z Z (fun _=>aD 0 aDw Z) (bP Z Z Z (aK 2 (.slice _ _ _) aQd M7 Z Z Z) (aV Z Z Z (fun _=>aD 0 fP Z) (bP Z Z Z (aK 0 (.slice _ _ _) iI M7 Z Z Z) (eD Z Z Z (bP Z Z Z (bJ (i) pC Z Z Z ((hl.rd.mem M7).below_len (aG OpRow.cells hx)) ((hl.rd.mem M7).someK (aG OpRow.cells hx))) (bP Z Z Z (aT 0 pL (hl.rd.mem M7) (iR ((hl.rd.mem M7).below_len (aG OpRow.cells hx))) Z) (bP Z Z Z (dM (o:=0) (.int _ _) fT (hl.rd.mem M7) (aG OpRow.cells hx) Z Z) ?_)))))))
  refine aV Z Z Z (fun _=>aD 0 fP Z) (bP Z Z Z (aK 0 (.slice _ _ _) iI M7 Z Z Z) (eD Z Z Z (bP Z Z Z (bJ (i) pC Z Z Z ((hl.rd.mem M7).below_len (aG OpRow.cells hx)) ((hl.rd.mem M7).someK (aG OpRow.cells hx))) (bP Z Z Z (aT 1 aWe (hl.rd.mem M7) (iR ((hl.rd.mem M7).below_len (aG OpRow.cells hx))) Z) (bP Z Z Z (kW (o:=1) _ bQ (hl.rd.mem M7) (aG OpRow.cells hx) Z Z Z) (aV Z Z Z (fun _=>aD 0 fP Z) (bP Z Z Z (aK 0 (.slice _ _ _) iI M7 Z Z Z) ?_)))))))
  refine eD Z Z Z (bP Z Z Z (bJ (i) pC Z Z Z ((hl.rd.mem M7).below_len (aG OpRow.cells hx)) ((hl.rd.mem M7).someK (aG OpRow.cells hx))) (bP Z Z Z (aT 11 aMi (hl.rd.mem M7) (iR ((hl.rd.mem M7).below_len (aG OpRow.cells hx))) Z) (bP Z Z Z (dM (o:=11) (.int _ _) bV (hl.rd.mem M7) (aG OpRow.cells hx) Z Z) (aV Z Z Z (fun _=>aD 0 fP Z) (bP Z Z Z (aK 0 (.slice _ _ _) iI M7 Z Z Z) (eD Z Z Z (bP Z Z Z (bJ (i) pC Z Z Z ((hl.rd.mem M7).below_len (aG OpRow.cells hx)) ((hl.rd.mem M7).someK (aG OpRow.cells hx))) ?_)))))))
  refine bP Z Z Z (aT 12 aWf (hl.rd.mem M7) (iR ((hl.rd.mem M7).below_len (aG OpRow.cells hx))) Z) (bP Z Z Z (kW (o:=12) _ bO (hl.rd.mem M7) (aG OpRow.cells hx) Z Z Z) (aV Z Z Z (fun _=>aD 0 fP Z) (bP Z Z Z (aK 0 (.slice _ _ _) iI M7 Z Z Z) (eD Z Z Z (bP Z Z Z (bJ (i) pC Z Z Z ((hl.rd.mem M7).below_len (aG OpRow.cells hx)) ((hl.rd.mem M7).someK (aG OpRow.cells hx))) (bP Z Z Z (aT 14 qR (hl.rd.mem M7) (iR ((hl.rd.mem M7).below_len (aG OpRow.cells hx))) Z) ?_))))))
  refine bP Z Z Z (dM (o:=14) (.slice _ _ _) kC (hl.rd.mem M7) (aG OpRow.cells hx) Z Z) (aV Z Z Z (fun _=>cB [(0,.int _ _),(1,.agg (List.toArray _)),(2,.int _ _),(3,.agg (List.toArray _)),(4,.slice _ _ _)] _ aAe Z Z) (dI [true,true,true,true,true,true,true,true,true,true,true,true,true,true,true,true,true,true,true,true,false] Z (by kernel_rfl) (cC [.agg (List.toArray _)] [x.cells] Z lR M7 Z Z Z Z (cU Z) (by decide) (fun b8 w8 M8 => ?_))))
  refine aB (aC ⟨(dS (bI Z (aK 2 (.slice _ _ _) aQd M8 Z Z Z)) dJ), ?_⟩)
  refine dI [true] rfl (by kernel_rfl) (cW 3 [x.cells] lR M8 rfl rfl rfl rfl rfl hq rfl (by simp [OpRow.cells,dR,aF,Go.Bil.one]) (dL.ofMem 4 M8 rfl) (by omega) (fun A9 c9 e9 w9 M9 hR9 => ?_))
  refine aB (aC ⟨dJ, ?_⟩)
  refine aV Z Z Z (fun _=>aD 0 aDw Z) (dI [] Z (by kernel_rfl) (dA 2 (.slice _ _ _) aQd M9 Z Z Z Z Z Z (fun w10 M10 => ?_)))
  refine aB (aC ⟨dJ, ?_⟩)
  refine bS (cR (aC (aA (aQ Z Z (wq (bC Z Z (by omega) (by omega)) Z (bK Z Z (aB ?_)))))))
  refine bX (i+1,⟨A9,q.n+1,c9,e9⟩) (bE Z dZ) (bZ Z (bZ Z (bZ Z gK))) ?_ ?_
  ·exact ⟨⟨by omega,by rw [cH hx,List.map_append];exact hR9⟩,M10.keep [true,true,true,true,false]⟩
  ·(show n - (i+1) < n - i;omega)
 ·have hin:i=n:=by omega
  rw [hin,List.take_of_length_le (by omega)] at hq
  refine cN (dC (dE (eJ (aC (aE (aA (wq (aX 2 tO hM6 Z Z Z) Z (bG 1 _ tO hM6 Z Z Z Z Z (aS Z) Z (fun w11 M11=>(aB (aC (aO (eQ 1 tO M11 Z Z Z ?_)))))))))))))
  exact ⟨q,Z,hq,M11.keep [false,false,false,true]⟩
theorem bTd (w:World) (F:Rd w 2 (some ⟨0,0,none⟩) 1 [[.int .u32 73856093,.int .u32 19349663]]) (N:Rd w 4 (some ⟨3,0,none⟩) 1 [eC iU]) :
  Calls prog 5 #[] w (Rb w (.bool true)):=by
 refine aI #[.tmp 0] 116 func5 Z results5 ntmps5 Z ?_
 have M0:=Mem.refl w
 refine aE (aA (wq (aJ (.bool false) Z) Z (aB (aC (aE (aA (wq (cB [(0,.int _ _),(1,.int _ _),(3,.int _ _)] _ uU Z Z) Z (wq (cB [(0,.int _ _),(1,.agg (List.toArray _))] _ aAe Z Z) Z (aL 17 (.agg (OpRow.cells (opA tC)).toArray) Z (wq (cB [(0,.int _ _)] _ aAe Z Z) Z (aL 18 (.agg (OpRow.cells (opZ 4)).toArray) Z (wq (cB [(0,.int _ _)] _ aAe Z Z) Z (aL 19 (.agg (OpRow.cells (opZ 4)).toArray) Z (cC [.agg (List.toArray _),.agg (List.toArray _),.agg (List.toArray _)] (mQ.map OpRow.cells) Z lR M0 Z Z Z Z (cU Z) (by decide) (fun b1 w1 M1 => ?_)))))))))))))))
 have hlit20:=kZ (T:=58) (sz:=15) (b:=b1) (nn:=3) (mQ.map OpRow.cells) (bKn _) rfl (by decide)
 refine eH Z Z (aB (aC (aE (aA (dK Z Z (eP bUx Z Z (wZ _ _ 3 3 mQ ⟨(hlit20.rd M1 (bA (i:=0) Z)),aGp _⟩ (fun x hx=>by rw [aWu x hx];decide) (by decide)) ?_))))))
 rintro v2 w2 ⟨qf,pf,rfl,hqf,hpf,hM2⟩
 have M2:Mem _ _ ([_,_]++_) _:=M1.call0 hM2
 have hplpf:pf.length=(opsO (mQ)).length:=by rw [hpf.len,List.length_map]
 have hnqf:((oM (opsO (mQ)) pf).map OpRow.cells).length=qf.n:=hqf.1
 rw [List.length_map,vW hplpf,fE] at hnqf
 refine vA bUo Z Z Z ?_
 have hgood:∀ o∈opsO mQ,GoodO o:=fun o ho=>by obtain ⟨x,hx,rfl⟩:=List.mem_map.1 ho;exact (aGp w2 x hx).good (by rw [aWu x hx];decide)
 refine (aKv _ (F.mem M2) (N.mem M2) qf.A qf.n qf.c (oM (opsO mQ) pf) (aDy hpf hgood hqf M2 (bA (i:=1) Z) (jE sT)) (aWp hpf hgood) (by rw [← hnqf];decide) 2 2 (by decide)).mono ?_
 rintro _ w3 ⟨v3,rfl,⟨qo,qm,q,ps,ms,rs,rfl,hL,hq,hoR,hM3⟩⟩
 refine ⟨_,Z, ?_⟩
 have M3:Mem _ _ ([_,_,_,_,_]++_) _:=Mem.front (L:=[_,_]) (Mem.call0U (L:=[_,_]) (A:=[_,_,_]) M2 hM3)
 rw [zO hplpf] at hL hq hoR
 have hon:=hL.on
 have hmn:=hL.mn
 have hqn:(kV _ rs).length=q.n:=hq.1
 rw [oO hoR.len,oQ] at hqn
 have ho3:qo.n=3:=hon
 have hm1:qm.n=1:=hmn
 have hq3:3=q.n:=hqn
 refine wq (aH (.tuple (List.toArray _)) Z) Z (wq (bM (.agg (.mk _)) Z Z) Z (wq (bM (.slice _ _ _) Z Z) Z (aR vC M3 Z Z (fun b4 w4 M4 => ?_))))
 have M5:Mem _ _ ([_,_,_,_,_,_]++_) _:=Mem.front (L:=[_,_,_,_,_]) M4
 refine bG 5 _ lM M5 Z Z Z Z Z (aS Z) Z (fun w6 M6=>(eH Z Z (aB (aC (aE (aA ?_))))))
 have M7:Mem _ _ ([_,_,_,_,_,_]++(pf.map Row.e++(ps.map Row.e++(rs.map Row.e++ms.map Row.e)))) _:=M6
 refine wq (aX 5 lM M7 Z Z Z) Z (dN bMn Z Z M7 (bSl _ (F.mem M7) (N.mem M7) qo.A qo.n qo.c (oM (opsO mQ) ps) (hL.opsRd M7 (bA (i:=2) Z) (jE (jE (aBi sT)))) hL.bn (by rw [hon];decide) qm.A qm.n qm.c ms _ (hL.bytRd M7 (bA (i:=3) Z) (jE (jE (jE (jE sT))))) 2 (by decide) (by rw [hmn,hon])) (fun w8 M8 => ?_))
 have hver:aUq (opsO (oM (opsO mQ) ps)) 2 (fM (opsO mQ) 2 ((opsO mQ).length / 2))=((((opsO mQ).length / 2:Nat):Int),0):=by rw [hL.opsO];exact bBa
 refine wq (aH (.tuple (List.toArray _)) Z) Z (wq (bM (.int _ _) Z Z) Z (aL 30 (.int .i64 1) (iE (congrArg Prod.fst hver)) (wq (bM (.int _ _) Z Z) Z (aL 31 (.int .i64 0) (iE (congrArg Prod.snd hver)) (bK Z Z (bK Z Z (aB (aC (aE (aA (wq (aX 5 lM M8 Z Z Z) Z (eP bCn Z Z (aXb _ (F.mem M8) (N.mem M8) qo.A qo.n qo.c (oM (opsO mQ) ps) (hL.opsRd M8 (bA (i:=2) Z) (jE (jE (aBi sT)))) hL.ops.slice hL.bn (by omega) qm.A qm.n qm.c ms _ (hL.bytRd M8 (bA (i:=3) Z) (jE (jE (jE (jE sT))))) (aCm hL.okO) 2 (by decide) (by rw [hmn,hon];exact Nat.le_refl _) 3 (by rw [hon];decide)) ?_))))))))))))
 rintro v9 w9 ⟨wb,r,rfl,hr,hM9⟩
 have M9:Mem _ _ ([_,_,_,_,_,_,_,_,_]++_) _:=Mem.front (L:=[_,_,_,_,_,_]) (M8.call0 hM9)
 rw [hL.opsO,aHd hL.okO (by decide) (by decide),List.take_of_length_le (by decide),bSy] at hr
 refine wq (aH (.tuple (List.toArray _)) Z) Z (wq (bM (.pointer _) Z Z) Z (wq (bM (.int _ _) Z Z) Z (wq (aJ (.pointer _) Z) Z (bK Z Z (aB (aC (aE (aA (wq (aX 5 lM M9 Z Z Z) Z (dN bCn Z Z M9 (bGw _ (F.mem M9) (N.mem M9) qo.A qo.n qo.c (oM (opsO mQ) ps) (hL.opsRd M9 (bA (i:=2) Z) (jE (jE (aBi sT)))) hL.ops.slice hL.bn (by rw [hon];decide) qm.A qm.n qm.c ms _ (hL.bytRd M9 (bA (i:=3) Z) (jE (jE (jE (jE sT))))) 2 4 (.inr (by rw [hon];decide))) (fun w10 M10=>(wq (aH (.tuple (List.toArray _)) Z) Z ?_))))))))))))
 refine wq (bM (.pointer _) Z Z) Z (wq (bM (.int _ _) Z Z) Z (wq (aJ (.pointer _) Z) Z (bK Z Z (aB (aC (aE (aA (wq (aX 5 lM M10 Z Z Z) Z (wq (cB [(0,.int _ _)] _ aHn Z Z) Z (aL 44 (.agg (dR (opZ 9).o none 0 0).toArray) Z (eP bVf Z Z (aKu _ (F.mem M10) (N.mem M10) qo.A qo.n qo.c (oM (opsO mQ) ps) (hL.opsRd M10 (bA (i:=2) Z) (jE (jE (aBi sT)))) hL.ops.slice hL.bn (by rw [hon];decide) 2 (by decide) qm.A qm.n qm.c ms (by rw [hL.opsO];exact (hL.bytRd M10 (bA (i:=3) Z) (jE (jE (jE (jE sT)))))) (opZ 9).o none 0 0 (aMz _ 9) (by decide)) ?_)))))))))))
 rintro v11 w11 ⟨qo2,qm2,pz,ps2,ms2,rfl,hL2,hpz,hM11⟩
 have M11:Mem _ _ ([_,_,_,_,_,_,_,_,_,_,_,_]++_) _:=Mem.front (L:=[_,_,_,_,_,_,_,_,_]) (Mem.call0U (L:=[_,_,_,_,_,_,_,_,_]) (A:=[_,_,_]) M10 hM11)
 rw [hL.opsO] at hL2
 have ho4:qo2.n=4:=hL2.on
 have hm2:qm2.n=2:=hL2.mn
 refine wq (aH (.tuple (List.toArray _)) Z) Z (wq (bM (.agg (.mk _)) Z Z) Z (wq (bM (.agg (.mk _)) Z Z) Z (aL 47 (.agg (eG { nL with err:=1 } pz).toArray) (congrArg (fun x:List Body × ResI=>Value.agg (eG x.2 pz).toArray) (jO (by decide))) (aR vC M11 Z Z (fun b12 w12 M12 => ?_)))))
 have M13:Mem _ _ ([_,_,_,_,_,_,_,_,_,_,_,_,_]++_) _:=Mem.front (L:=[_,_,_,_,_,_,_,_,_,_,_,_]) M12
 refine aR lC M13 Z Z (fun b14 w14 M14 => ?_)
 have M15:Mem _ _ ([_,_,_,_,_,_,_,_,_,_,_,_,_,_]++_) _:=Mem.front (L:=[_,_,_,_,_,_,_,_,_,_,_,_,_]) M14
 refine bG 12 _ lM M15 Z Z Z Z Z (aS Z) Z (fun w16 M16=>(bG 13 _ gT M16 Z Z Z Z Z (aS Z) Z (fun w17 M17=>(aB (aC (aE (aA ?_)))))))
 have M18:Mem _ _ ([_,_,_,_,_,_,_,_,_,_,_,_,_,_]++(pf.map Row.e++(ps.map Row.e++(rs.map Row.e++ms.map Row.e))++(ps2.map Row.e++ms2.map Row.e))) _:=M17
 refine wq (cB [] _ aHm rfl rfl) rfl (dN bMn rfl rfl M18 (bLr _ (F.mem M18) (N.mem M18) none 0 0 [] (OpsRd.none _) (by simp) (by decide) none 0 0 [] [] (BytRd.none _) 0 (by decide)) (fun w19 M19=>(wq (aH (.tuple (List.toArray _)) rfl) rfl (wq (bM (.int _ _) rfl rfl) rfl (wq (bM (.int _ _) rfl rfl) rfl (bK rfl rfl (bK rfl rfl (aB (aC (aE (aE (aA (wq (aH (.pointer _) rfl) rfl (wq (gX false underlying61 rfl rfl) rfl (wq (aH (.bool false) rfl) rfl (dK rfl rfl (wq (cK underlying29 rfl) rfl (cX rfl rfl rfl rfl (pD 58 rfl (by omega) ?_)))))))))))))))))))
 refine wq (bR false (.bool false) Z Z) Z (aB (aC (cG Z (aM (aC (aE (aA (wq (aH (.pointer _) Z) Z (eP bMo Z Z (aLi _ _ r _ hr (M19.ownSeg 6 3) 1) ?_)))))))))
 rintro v20 w20 ⟨rfl,hM20⟩
 have M20:Mem _ _ ([_,_,_,_,_,_,_,_,_,_,_,_,_,_]++_) _:=Mem.segE (L:=[_,_,_,_,_,_,_,_,_,_,_,_,_,_]) 6 3 M19 (Nat.le_of_ble_eq_true rfl) hM20
 refine wq (aH (.tuple (List.toArray _)) Z) Z (wq (bM (.agg (.mk _)) Z Z) Z (aL 63 ((.agg (aF tC2).toArray)) (congrArg (fun x:ResI=>Value.agg (aF x.body).toArray) bMi) (wq (bM (.int _ _) Z Z) Z (aL 64 (.int .i64 0) (iE (by rw [bMi];rfl)) (aR fV M20 Z Z (fun b21 w21 M21 => ?_))))))
 have M22:Mem _ _ ([_,_,_,_,_,_,_,_,_,_,_,_,_,_,_]++_) _:=Mem.front (L:=[_,_,_,_,_,_,_,_,_,_,_,_,_,_]) M21
 refine bG 14 _ bQ M22 Z Z Z Z Z (aS Z) Z (fun w23 M23=>(bK Z Z (aB (aC (aE (aA ?_))))))
 have M24:Mem _ _ ([_,_,_,_,_,_,_,_,_,_,_,_,_,_,_]++(pf.map Row.e++(ps.map Row.e++(rs.map Row.e++ms.map Row.e))++(ps2.map Row.e++ms2.map Row.e))) _:=M23
 refine wq (aD 2 iZ Z) Z (wq (aK 5 (.slice _ _ _) gY M24 Z Z Z) Z (wq (cK underlying26 Z) Z (cX Z Z Z Z (kR 68 Z (by omega) (wq (aH (.bool true) Z) Z (aQ Z Z (cX Z Z Z Z (kR 71 Z (by first | decide | omega) (wq (bR true (.bool true) Z Z) Z (wq (aH (.bool true) Z) Z (aQ Z Z (cX Z Z Z Z (kR 75 Z (by first | decide | omega) (wq (bR true (.bool true) Z Z) Z (wq (aH (.bool true) Z) Z ?_)))))))))))))))
 refine aQ Z Z (cX Z Z Z Z (kR 79 Z (by first | decide | omega) (wq (bR true (.bool true) Z Z) Z (wq (aH (.bool true) Z) Z (aQ Z Z (cX Z Z Z Z (kR 83 Z (by first | decide | omega) (wq (bR true (.bool true) Z Z) Z (wq (aH (.bool true) Z) Z (wq (aD 0 fP Z) Z (wq (aK 12 (.slice _ _ _) iI M24 Z Z Z) Z (wq (cK underlying25 Z) Z (cX Z Z Z Z (kR 89 Z (by omega) (wq (bR true (.bool true) Z Z) Z ?_)))))))))))))))
 refine wq (aH (.bool true) Z) Z (wq (aD 2 iZ Z) Z (wq (aK 12 (.slice _ _ _) gY M24 Z Z Z) Z (wq (cK underlying26 Z) Z (cX Z Z Z Z (kR 95 Z (by omega) (wq (bR true (.bool true) Z Z) Z (wq (aH (.bool true) Z) Z (wq (aD 0 bJe Z) Z (wq (aK 13 (.int _ _) aGo M24 Z Z Z) Z (cX Z Z Z Z (kR 100 Z (by first | decide | omega) (wq (bR true (.bool true) Z Z) Z (wq (aH (.bool true) Z) Z (aQ Z Z (cX Z Z Z Z ?_)))))))))))))))
 refine kR 104 Z (by first | decide | omega) (wq (bR true (.bool true) Z Z) Z (wq (aH (.bool true) Z) Z (wq (aD 6 fL Z) Z (wq (qZ 14 _ bO M24 Z Z Z Z) Z (wq (cB [(1,.int _ _)] _ eZ Z Z) Z (wq (bVr (bNi _ _ _ _) Z Z) Z (kR 110 Z (by decide) (wq (bR true (.bool true) Z Z) Z (wq (aH (.bool true) Z) Z (aQ Z Z (cX Z Z Z Z (kR 114 Z (by first | decide | omega) (wq (bR true (.bool true) Z Z) Z (wq (aJ (.bool true) Z) Z (aB (aC (aO ?_)))))))))))))))))
 refine cI (.bool true) Z ?_
 exact ⟨Z,(Mem.noT M24).below⟩
end Go.Proofs.YtpcloigancpnbaaGreatDoor
