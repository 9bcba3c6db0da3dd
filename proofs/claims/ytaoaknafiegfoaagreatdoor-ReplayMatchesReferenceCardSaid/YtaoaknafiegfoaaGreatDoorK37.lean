/- Part of the proof of a law of this seat (2 texts). No conditions. -/
import Derived.Test.YtaoaknafiegfoaaGreatDoorK36
set_option linter.unusedVariables false
set_option linter.unusedSimpArgs false
set_option linter.unnecessarySimpa false
set_option maxHeartbeats 100000000
namespace Go.Proofs.YtaoaknafiegfoaaGreatDoor
open Go.Bil
open Go.RowKit (Below)
open Go.Proofs
open Go.Proofs.Tryz
theorem qS (w:World) (A:Option Addr) (n c:Nat) (l:List OpRow) (hl:OpsRd w A n l) :
  Calls prog 41 #[.slice A n c] w (gY (fun v w'=>(∃ g:Bool,v=.bool g∧(g=true→n≤16∧∀ x∈l,x.n≤500))∧Below w.heap.size w w')):=by
 have hlen:l.length=n:=by simpa using hl.rd.len
 have hbd:=hl.rd.bound
 refine aI #[.tmp 2] 37 func41 Z results41 ntmps41 Z ?_
 have M0:=Mem.refl w
 refine aE (aA (wq (aJ (.bool false) Z) Z (aB (aC (aE (aA (bL Z Z (aB (aC (aE (aE (aA (bL Z Z (aB (aC (aS (dK (σ:=Nat × Nat) [0] (fun (i,s)=>[(3,.int .i64 (s:Int)),(4,.int .i64 (i:Int))]) (fun (i,s) w'=>(i≤n∧s≤i∧∀ (j:Nat) (x:OpRow),j < i→l[j]? = some x→x.n≤500)∧Mem w [] [] w') (fun (i,s)=>n - i) (0,0) (bI Z (bI Z eC)) (⟨⟨by omega,by omega,fun j x hj=>by omega⟩,M0⟩) ?_)))))))))))))))))
 rintro ⟨i,s⟩ ρ1 w1 ⟨⟨hi,hs,hal⟩,hM1⟩
 refine aE (aE (aA (aT Z Z (dJ Z Z (wq (bW underlying22 Z) Z (cV Z Z Z Z (wq (aH (.bool (decide _)) Z) Z ?_)))))))
 refine dT 9 Z (fun g9 => ?_) (fun g9 => ?_)
 ·refine aT Z Z (cV Z Z Z Z (wq (bM true (.bool (decide _)) Z Z) Z (aB (aC ?_))))
  refine aW Z (fun h12 => ?_) (fun h12 => ?_)
  ·obtain ⟨x,hx⟩:=cG (xs:=l) (k:=i) hlen (by omega)
   refine aM (aC (aE (aS (aE (aE (aA (dJ Z Z (aT Z Z (wq (bG (i) kU Z Z Z ((hl.rd.mem hM1).below_len (aG OpRow.cells hx)) ((hl.rd.mem hM1).someK (aG OpRow.cells hx))) Z (wq (aU 14 xM (hl.rd.mem hM1) (jD ((hl.rd.mem hM1).below_len (aG OpRow.cells hx))) Z) Z (wq (dR (o:=14) (.slice _ _ _) iR (hl.rd.mem hM1) (aG OpRow.cells hx) Z Z) Z (wq (bW underlying31 Z) Z (cV Z Z Z Z (aB (aC ?_)))))))))))))))
   refine aW Z (fun h21 => ?_) (fun h21 => ?_)
   ·refine aE (aA (wq (aJ (.bool false) Z) Z (aB (aC (aR (cK (lP (cK (sY (lP (cK (cF (.bool false) Z ?_))))))))))))
    exact ⟨⟨false,Z,fun h=>by cases h⟩,hM1.below⟩
   ·refine aM (aC (aE (aA (dJ Z Z (aT Z Z (wq (bG (i) kU Z Z Z ((hl.rd.mem hM1).below_len (aG OpRow.cells hx)) ((hl.rd.mem hM1).someK (aG OpRow.cells hx))) Z (wq (aU 0 qM (hl.rd.mem hM1) (jD ((hl.rd.mem hM1).below_len (aG OpRow.cells hx))) Z) Z (wq (dR (o:=0) (.int _ _) fE (hl.rd.mem hM1) (aG OpRow.cells hx) Z Z) Z (cV Z Z Z Z (aB (aC ?_)))))))))))
    refine aW Z (fun h27 => ?_) (fun h27 => ?_)
    ·refine aA (aT Z Z (wq (bE Z Z (by omega) (by omega)) Z (bL Z Z (aB (cS (aC (aA (aT Z Z (wq (bE Z Z (by omega) (by omega)) Z (bL Z Z (aB ?_)))))))))))
     refine bU (i+1,s+1) (bI Z (bI Z eC)) (bX Z gR) ?_ ?_
     ·exact ⟨⟨by omega,by omega,rU (p:=fun _ x=>x.n≤500) hal hx (by omega)⟩,hM1⟩
     ·(show n - (i+1) < n - i;omega)
    ·refine aM (cS (aC (aA (aT Z Z (wq (bE Z Z (by omega) (by omega)) Z (bL Z Z (aB ?_)))))))
     refine bU (i+1,s) (bI Z (bI Z eC)) (bX Z gR) ?_ ?_
     ·exact ⟨⟨by omega,by omega,rU (p:=fun _ x=>x.n≤500) hal hx (by omega)⟩,hM1⟩
     ·(show n - (i+1) < n - i;omega)
  ·refine cM (cZ (dF (eL (aC (aE (aA (dJ Z Z (wq (bW underlying22 Z) Z (cV Z Z Z Z (wq (aH (.bool (decide _)) Z) Z ?_))))))))))
   refine dT 33 Z (fun g33 => ?_) (fun g33 => ?_)
   ·refine aT Z Z (cV Z Z Z Z (wq (bM true (.bool (decide _)) Z Z) Z (wq (aJ (.bool (decide _)) Z) Z (aB (aC (aR (cF (.bool (decide _)) Z ?_)))))))
    refine ⟨⟨_,Z,fun hg => ?_⟩,hM1.below⟩
    first | (cases hg;done) | exact ⟨(by omega),fun x hx=>(by obtain ⟨j,hj⟩:=List.getElem?_of_mem hx;exact hal j x (by have:=(List.getElem?_eq_some_iff.1 hj).1;omega) hj)⟩
   ·refine aQ Z Z (aQ Z Z (wq (bM false (.bool false) Z Z) Z (wq (aJ (.bool false) Z) Z (aB (aC (aR (cF (.bool false) Z ?_)))))))
    refine ⟨⟨_,Z,fun hg => ?_⟩,hM1.below⟩
    first | (cases hg;done) | exact ⟨(by omega),fun x hx=>(by obtain ⟨j,hj⟩:=List.getElem?_of_mem hx;exact hal j x (by have:=(List.getElem?_eq_some_iff.1 hj).1;omega) hj)⟩
 ·refine aQ Z Z (aQ Z Z (wq (bM false (.bool false) Z Z) Z (aB (aC (cB Z (cM (cZ (dF (eL (aC (aE (aA (dJ Z Z (wq (bW underlying22 Z) Z (cV Z Z Z Z (wq (aH (.bool (decide _)) Z) Z ?_))))))))))))))))
  refine dT 33 Z (fun g33 => ?_) (fun g33 => ?_)
  ·refine aT Z Z (cV Z Z Z Z (wq (bM true (.bool (decide _)) Z Z) Z (wq (aJ (.bool (decide _)) Z) Z (aB (aC (aR (cF (.bool (decide _)) Z ?_)))))))
   refine ⟨⟨_,Z,fun hg => ?_⟩,hM1.below⟩
   first | (cases hg;done) | exact ⟨(by omega),fun x hx=>(by obtain ⟨j,hj⟩:=List.getElem?_of_mem hx;exact hal j x (by have:=(List.getElem?_eq_some_iff.1 hj).1;omega) hj)⟩
  ·refine aQ Z Z (aQ Z Z (wq (bM false (.bool false) Z Z) Z (wq (aJ (.bool false) Z) Z (aB (aC (aR (cF (.bool false) Z ?_)))))))
   refine ⟨⟨_,Z,fun hg => ?_⟩,hM1.below⟩
   first | (cases hg;done) | exact ⟨(by omega),fun x hx=>(by obtain ⟨j,hj⟩:=List.getElem?_of_mem hx;exact hal j x (by have:=(List.getElem?_eq_some_iff.1 hj).1;omega) hj)⟩
theorem mC (w:World) (A:Option Addr) (n c:Nat) (l:List OpRow) (hl:OpsRd w A n l) (hcap:n≤c) (hby:∀ x∈l,x.n≤1000000) (hn:n≤1000000) (z:Int) (k:Nat) (hz:max z 1=(k:Int)) :
  Calls prog 46 #[.slice A n c,.int .i64 z] w (gY (fun v w'=>∃ (qm:Row) (ms:List Row),v=.agg [.slice A n c,.int .i64 (k:Int),.slice qm.A qm.n qm.c].toArray∧bA 31 1 qm.A qm.n qm.c ((ms).map kX) qm.e∧BytR 5 ms (fD (opsO l) k ((opsO l).length / k))∧Mem w [] ([qm.e]++ms.map Row.e) w')):=by
 have hlen:l.length=n:=by simpa using hl.rd.len
 have hbd:=hl.rd.bound
 have hkp:0 < k:=by omega
 have hok:=hl.okO hby
 refine aI #[.cell 4 80] 44 func46 Z results46 ntmps46 Z ?_
 have M0:=Mem.refl w
 refine aE (aA (aO zX M0 Z Z (fun b1 w1 M1=>(aB (aC (aE (aA (dJ Z Z (aT Z Z (wq (qF Z Z ) Z (aL 11 (.int .i64 (k:Int)) (iE hz) (wq (cI [(0,.slice _ _ _),(1,.int _ _)] _ aTn Z Z) Z (aO zX M1 Z Z (fun b2 w2 M2=>(bC 1 _ rA M2 Z Z Z Z Z (aP Z) Z (fun w3 M3=>(aB (aC (aE (aE (aA (wq (aD 1 oA Z) Z (wq (aK 1 (.int _ _) fE M3 Z Z Z) Z (aL 14 (.int .i64 (((0+1)*k:Nat):Int)) (iE (by omega)) (bL Z Z ?_)))))))))))))))))))))))))
 have M4:=M3.dummy default
 refine aB (aC (aS (dK (σ:=Nat × Row × List Row) [0,4,5] (fun (i,qm,ms)=>[(6,.int .i64 (((i+1)*k:Nat):Int))]) (fun (i,qm,ms) w'=>(i≤n∧i*k≤n∧bA 31 1 qm.A qm.n qm.c ((ms).map kX) qm.e∧BytR 5 ms (fD (opsO l) k i))∧Mem w [] ([(some b1,bc [.slice none 0 0,.int .i64 0,.slice none 0 0] 80),(some b2,bc [.slice A n c,.int .i64 (k:Int),.slice qm.A qm.n qm.c] 80),qm.e]++ms.map Row.e) w') (fun (i,qm,ms)=>n - i) (0,eN,[]) (bI Z eC) (⟨⟨by omega,by omega,bA.nil _ _ _,BytR.nil _⟩,M4⟩) ?_)))
 rintro ⟨i,qm,ms⟩ ρ5 w5 ⟨⟨hi,hik0,hqm,hmb⟩,hM5⟩
 have hmn:(ms.map kX).length=qm.n:=hqm.1
 rw [List.length_map,hmb.len,iV] at hmn
 refine aE (aE (aA (aT Z Z (dJ Z Z (wq (bW underlying22 Z) Z (cV Z Z Z Z (aB (aC ?_))))))))
 refine aW Z (fun h18 => ?_) (fun h18 => ?_)
 ·have hik:(i+1)*k≤n:=Int.ofNat_le.1 h18
  have hi1:i+1≤(i+1)*k:=Nat.le_mul_of_pos_right _ hkp
  have hkn:k≤n:=Nat.le_trans (Nat.le_mul_of_pos_left k (by omega)) hik
  have hS:=hl.sub 0 ((i+1)*k) (Nat.zero_le _) hik hcap
  rw [List.drop_zero,Nat.sub_zero] at hS
  have hGk:GoodV (fH [] (opsO (l.take ((i+1)*k)))):=by rw [tV];exact aLu hok _
  refine aM (aC (aE (aS (aE (aA (dJ Z Z (aT Z Z (wq (fF (0) ((((i+1)*k:Nat):Int)) kU Z Z ⟨_,Z⟩ (by omega) (by omega) (by omega)) Z (eJ aQn Z Z (rJ _ _ ((i+1)*k - 0) _ (l.take ((i+1)*k)) (hS.mem hM5) (fun x hx=>hby x (List.mem_of_mem_take hx)) (by omega)) ?_)))))))))
  rintro v6 w6 ⟨v1,o1,rs1,rfl,hv1,ho1,hoR1,hM6⟩
  have M6:Mem _ _ ([_,_,_,_,_]++_) _:=Mem.front (L:=[_,_,_]) (Mem.call0U (L:=[_,_,_]) (A:=[_,_]) hM5 hM6)
  have ho1n:(kO [] (opsO ((l.take ((i+1)*k))))).length=o1.n:=by have h:(iS _ rs1).length=o1.n:=ho1.1;rwa [iT hoR1.len] at h
  rw [iU,dE] at ho1n
  refine wq (aH (.tuple (List.toArray _)) Z) Z (wq (bJ (.slice _ _ _) Z Z) Z (wq (bJ (.slice _ _ _) Z Z) Z (eI Z Z (eI Z Z (aB (aC (aE (gJ [(0,0),(1,1),(2,0),(3,2),(4,2),(5,2),(6,0),(7,2)] mixed M6 Z (by kernel_rfl) (fun w7 M7=>(aX Z Z Z (fun _=>aD 2 jE Z) (bQ Z Z Z (aK 1 (.slice _ _ _) eV M7 Z Z Z) (kB Z Z Z (dO [false] Z (by kernel_rfl) (eJ bPi Z Z (aEu _ _ _ _ (fH [] (opsO (l.take ((i+1)*k)))) (hv1.rd M7 (aN (i:=3) Z)) (by have h:=hv1.1;have g:=hGk.len;rw [List.length_map] at h;omega) hGk.inb) ?_))))))))))))))
  rintro v8 w8 ⟨pm,rfl,hpm,hM8⟩
  have M8:Mem _ _ ([_,_,_,_,_,_]++_) _:=Mem.front (L:=[_,_,_,_,_]) (M7.call0 hM8)
  refine aB (aC ⟨(dS (bH Z (aK 1 (.slice _ _ _) eV M8 Z Z Z)) dI), ?_⟩)
  refine dO [false] Z (by kernel_rfl) (bV [.slice _ _ _] [kX pm] Z nT M8 Z Z Z Z (cO Z) (by decide) (fun b9 w9 M9 => ?_))
  have M10:Mem _ _ ([_,_,_,_,_,_,_]++_) _:=Mem.front (L:=[_,_,_,_,_,_]) M9
  refine aB (aC ⟨(dS (bH Z (aK 1 (.slice _ _ _) eV M10 Z Z Z)) dI), ?_⟩)
  refine dO [true] rfl (by kernel_rfl) (cP 2 [kX pm] nT M10 rfl rfl rfl rfl rfl hqm rfl (by simp [kX,Go.Bil.one]) (dN.ofMem 6 M10 rfl) (by omega) (fun A11 c11 e11 w11 M11 hR11 => ?_))
  refine aB (aC ⟨dI, ?_⟩)
  refine aX Z Z Z (fun _=>aD 2 jE Z) (dO [] Z (by kernel_rfl) (dA 1 (.slice _ _ _) eV M11 Z Z Z Z Z Z (fun w12 M12 => ?_)))
  refine aB (aC ⟨dI, ?_⟩)
  refine bS (aC (aE (aA (wq (aD 1 oA Z) Z (wq (aK 1 (.int _ _) fE M12 Z Z Z) Z (dJ Z Z (wq (bW underlying22 Z) Z (cV Z Z Z Z (nP 41 Z (by omega) (aB (aC (cB Z (aM (cS (aC (aA (aT Z Z (wq (aD 1 oA Z) Z (wq (aK 1 (.int _ _) fE M12 Z Z Z) Z ?_)))))))))))))))))))
  refine wq (bE Z Z (by omega) (by omega)) Z (aL 22 (.int .i64 (((i+1+1)*k:Nat):Int)) (iE (bNh i k)) (bL Z Z (aB ?_)))
  refine bU (i+1,⟨A11,qm.n+1,c11,e11⟩,ms++[pm]) (bI Z eC) (bX Z (bX Z (bX Z gR))) ?_ ?_
  ·exact ⟨⟨by omega,hik,by rw [List.map_append];exact hR11,by rw [aHz];show BytR 5 _ (_++[lE (fH [] ((opsO l).take ((i+1)*k)))]);rw [← tV];exact hmb.add hpm⟩,Mem.pushNew (L:=[_,_,_]) pm (Mem.cutT (Mem.keepL (L:=[_,_,_,_,_,_,_]) [true,true,true,false,false,true,false] M12))⟩
  ·(show n - (i+1) < n - i;omega)
 ·have hend:=bLz hkp hik0 (show n < (i+1)*k from Nat.lt_of_not_le fun h=>h18 (Int.ofNat_le.2 h))
  refine cM (cZ (dF (eL (aC (aE (aA (wq (aV 1 rA hM5 Z Z Z) Z (bC 0 _ rA hM5 Z Z Z Z Z (aP Z) Z (fun w13 M13=>(aB (aC (aR (fA 0 rA M13 Z Z Z ?_)))))))))))))
  exact ⟨qm,ms,Z,hqm,by rw [dE,hlen,hend];exact hmb,Mem.keepL (L:=[_,_,_]) [false,false,true] M13⟩
theorem aKn (w:World) (A:Option Addr) (n c:Nat) (l:List OpRow) (hl:OpsRd w A n l) (A2:Option Addr) (n2 c2:Nat) (l2:List OpRow) (hl2:OpsRd w A2 n2 l2) (heq:opsO l=opsO l2) :
  Calls prog 73 #[.slice A n c,.slice A2 n2 c2] w (Rb w (.bool true)):=by
 have hlen:l.length=n:=by simpa using hl.rd.len
 have hbd:=hl.rd.bound
 have hlen2:l2.length=n2:=by simpa using hl2.rd.len
 have hbd2:=hl2.rd.bound
 have hll:l.length=l2.length:=by rw [← dE l,heq,dE]
 refine aI #[.tmp 4] 81 func73 Z results73 ntmps73 Z ?_
 have M0:=Mem.refl w
 refine aE (aA (wq (aJ (.bool false) Z) Z (aB (aC (aE (aE (aA (dJ Z Z (wq (bW underlying22 Z) Z (dJ Z Z (wq (bW underlying22 Z) Z (cV Z Z Z Z (nP 10 Z (by omega) (aB (aC (cB Z (aM (aC (aE (aE (aA (bL Z Z (aB (aC (aS (dK (σ:=Nat) [0,1] (fun i=>[(5,.int .i64 (i:Int))]) (fun i w'=>i≤n∧Mem w [] [] w') (fun i=>n - i) 0 (bI Z eC) (⟨by omega,M0⟩) ?_))))))))))))))))))))))))))
 rintro i ρ1 w1 ⟨hi,hM1⟩
 refine aE (aE (aA (aT Z Z (dJ Z Z (wq (bW underlying22 Z) Z (cV Z Z Z Z (aB (aC ?_))))))))
 refine aW Z (fun h14 => ?_) (fun h14 => ?_)
 ·obtain ⟨x,hx⟩:=cG (xs:=l) (k:=i) hlen (by omega)
  obtain ⟨x2,hx2⟩:=cG (xs:=l2) (k:=i) hlen2 (by omega)
  have hxx:x.o=x2.o:=by have h1:=pH hx;have h2:=pH hx2;rw [heq,h2] at h1;exact (Option.some.inj h1).symm
  refine aM (aC (aE (aS (aE (kY [(0,0),(1,0),(2,1),(3,1),(4,1),(5,0),(6,0),(7,1),(8,1),(9,1),(10,0),(11,0),(12,0),(13,0),(14,1),(15,1),(16,1),(17,0),(18,0),(19,1),(20,1),(21,1),(22,0),(23,0),(24,0),(25,0),(26,0),(27,1),(28,1),(29,1),(30,0),(31,0),(32,1),(33,1),(34,1),(35,0),(36,0),(37,0),(38,0),(39,0),(40,1),(41,1),(42,1),(43,0),(44,0),(45,1),(46,1),(47,1),(48,0),(49,0),(50,0),(51,0),(52,0),(53,1),(54,1),(55,1),(56,0),(57,0),(58,1),(59,1),(60,1),(61,2),(62,0),(63,0)] mixed Z (by kernel_rfl) (fun w2 hb2 hh2 => ?_))))))
  have M2:=hM1.drew hb2 hh2
  refine kB Z Z Z (eG Z Z Z (bQ Z Z Z (bG (i) kU Z Z Z ((hl.rd.mem M2).below_len (aG OpRow.cells hx)) ((hl.rd.mem M2).someK (aG OpRow.cells hx))) (bQ Z Z Z (aU 0 qM (hl.rd.mem M2) (jD ((hl.rd.mem M2).below_len (aG OpRow.cells hx))) Z) (bQ Z Z Z (dR (o:=0) (.int _ _) fE (hl.rd.mem M2) (aG OpRow.cells hx) Z Z) (kB Z Z Z (eG Z Z Z (bQ Z Z Z (bG (i) kU Z Z Z ((hl2.rd.mem M2).below_len (aG OpRow.cells hx2)) ((hl2.rd.mem M2).someK (aG OpRow.cells hx2))) (bQ Z Z Z (aU 0 qM (hl2.rd.mem M2) (jD ((hl2.rd.mem M2).below_len (aG OpRow.cells hx2))) Z) ?_))))))))
  refine bQ Z Z Z (dR (o:=0) (.int _ _) fE (hl2.rd.mem M2) (aG OpRow.cells hx2) Z Z) (aX Z Z Z (fun _=>cH (.bool (decide _)) Z Z Z) (dX 27 (.bool false) (bF (fun h=>h (by rw [hxx]))).symm (aX Z Z Z (fun _=>aH (.bool false) Z) (kB Z Z Z (eG Z Z Z (bQ Z Z Z (bG (i) kU Z Z Z ((hl.rd.mem M2).below_len (aG OpRow.cells hx)) ((hl.rd.mem M2).someK (aG OpRow.cells hx))) (bQ Z Z Z (aU 1 xJ (hl.rd.mem M2) (jD ((hl.rd.mem M2).below_len (aG OpRow.cells hx))) Z) (bQ Z Z Z (lS (o:=1) _ bR (hl.rd.mem M2) (aG OpRow.cells hx) Z Z Z) ?_))))))))
  refine dX 33 ((.agg (aF x.o.body).toArray)) Z (kB Z Z Z (eG Z Z Z (bQ Z Z Z (bG (i) kU Z Z Z ((hl2.rd.mem M2).below_len (aG OpRow.cells hx2)) ((hl2.rd.mem M2).someK (aG OpRow.cells hx2))) (bQ Z Z Z (aU 1 xJ (hl2.rd.mem M2) (jD ((hl2.rd.mem M2).below_len (aG OpRow.cells hx2))) Z) (bQ Z Z Z (lS (o:=1) _ bR (hl2.rd.mem M2) (aG OpRow.cells hx2) Z Z Z) (dX 38 ((.agg (aF x2.o.body).toArray)) Z (aX Z Z Z (fun _=>bJh (bGz x.o.body x2.o.body) Z Z) (dX 39 (.bool false) (bF (fun h=>h (by rw [hxx]))).symm ?_))))))))
  refine aX Z Z Z (fun _=>bM false (.bool false) Z Z) (aX Z Z Z (fun _=>aH (.bool false) Z) (kB Z Z Z (eG Z Z Z (bQ Z Z Z (bG (i) kU Z Z Z ((hl.rd.mem M2).below_len (aG OpRow.cells hx)) ((hl.rd.mem M2).someK (aG OpRow.cells hx))) (bQ Z Z Z (aU 11 xK (hl.rd.mem M2) (jD ((hl.rd.mem M2).below_len (aG OpRow.cells hx))) Z) (bQ Z Z Z (dR (o:=11) (.int _ _) bZ (hl.rd.mem M2) (aG OpRow.cells hx) Z Z) (kB Z Z Z (eG Z Z Z (bQ Z Z Z (bG (i) kU Z Z Z ((hl2.rd.mem M2).below_len (aG OpRow.cells hx2)) ((hl2.rd.mem M2).someK (aG OpRow.cells hx2))) ?_)))))))))
  refine bQ Z Z Z (aU 11 xK (hl2.rd.mem M2) (jD ((hl2.rd.mem M2).below_len (aG OpRow.cells hx2))) Z) (bQ Z Z Z (dR (o:=11) (.int _ _) bZ (hl2.rd.mem M2) (aG OpRow.cells hx2) Z Z) (aX Z Z Z (fun _=>cH (.bool (decide _)) Z Z Z) (dX 52 (.bool false) (bF (fun h=>h (by rw [hxx]))).symm (aX Z Z Z (fun _=>bM false (.bool false) Z Z) (aX Z Z Z (fun _=>aH (.bool false) Z) (kB Z Z Z (eG Z Z Z (bQ Z Z Z (bG (i) kU Z Z Z ((hl.rd.mem M2).below_len (aG OpRow.cells hx)) ((hl.rd.mem M2).someK (aG OpRow.cells hx))) ?_))))))))
  refine bQ Z Z Z (aU 12 xL (hl.rd.mem M2) (jD ((hl.rd.mem M2).below_len (aG OpRow.cells hx))) Z) (bQ Z Z Z (lS (o:=12) _ bP (hl.rd.mem M2) (aG OpRow.cells hx) Z Z Z) (kB Z Z Z (eG Z Z Z (bQ Z Z Z (bG (i) kU Z Z Z ((hl2.rd.mem M2).below_len (aG OpRow.cells hx2)) ((hl2.rd.mem M2).someK (aG OpRow.cells hx2))) (bQ Z Z Z (aU 12 xL (hl2.rd.mem M2) (jD ((hl2.rd.mem M2).below_len (aG OpRow.cells hx2))) Z) (bQ Z Z Z (lS (o:=12) _ bP (hl2.rd.mem M2) (aG OpRow.cells hx2) Z Z Z) ?_))))))
  refine aX Z Z Z (fun _=>bJh (bPz _ _ _ _) Z Z) (dX 65 (.bool false) (bF (fun h=>h ⟨by rw [hxx],by rw [hxx]⟩)).symm (aX Z Z Z (fun _=>bM false (.bool false) Z Z) (aX Z Z Z (fun _=>aH (.bool false) Z) (kB Z Z Z (eG Z Z Z (bQ Z Z Z (bG (i) kU Z Z Z ((hl.rd.mem M2).below_len (aG OpRow.cells hx)) ((hl.rd.mem M2).someK (aG OpRow.cells hx))) (bQ Z Z Z (aU 14 xM (hl.rd.mem M2) (jD ((hl.rd.mem M2).below_len (aG OpRow.cells hx))) Z) (bQ Z Z Z (dR (o:=14) (.slice _ _ _) iR (hl.rd.mem M2) (aG OpRow.cells hx) Z Z) ?_))))))))
  refine kB Z Z Z (eG Z Z Z (bQ Z Z Z (bG (i) kU Z Z Z ((hl2.rd.mem M2).below_len (aG OpRow.cells hx2)) ((hl2.rd.mem M2).someK (aG OpRow.cells hx2))) (bQ Z Z Z (aU 14 xM (hl2.rd.mem M2) (jD ((hl2.rd.mem M2).below_len (aG OpRow.cells hx2))) Z) (bQ Z Z Z (dR (o:=14) (.slice _ _ _) iR (hl2.rd.mem M2) (aG OpRow.cells hx2) Z Z) (dO [true,true,true,true,true,true,true,true,true,true,true,true,true,true,true,true,true,true,true,true,true,true,true,true,true,true,true,true,true,true] Z (by kernel_rfl) ?_)))))
  refine dM aQm Z Z M2 (rI _ _ _ _ x.o.bytes ((hl.each x (List.mem_of_getElem? hx)).rd.mem M2) _ _ _ x2.o.bytes ((hl2.each x2 (List.mem_of_getElem? hx2)).rd.mem M2)) (fun w3 M3 => ?_)
  refine aB (aC ⟨dI, ?_⟩)
  refine dX 78 (.bool true) (bT (by rw [hxx])).symm (aX Z Z Z (fun _=>fB false Z Z) (aX Z Z Z (fun _=>bM false (.bool false) Z Z) (bS (aC (cB Z (aM (cS (aC (aA (aT Z Z (wq (bE Z Z (by omega) (by omega)) Z (bL Z Z (aB ?_)))))))))))))
  refine bU (i+1) (bI Z eC) (bX Z (bX Z gR)) ?_ ?_
  ·exact ⟨by omega,M3⟩
  ·omega
 ·refine cM (cZ (dF (eL (aC (aE (aA (wq (aJ (.bool true) Z) Z (aB (aC (aR (cF (.bool true) Z ?_)))))))))))
  exact ⟨Z,hM1.below⟩
theorem uT (w:World) (A:Option Addr) (n c:Nat) (l:List OpRow) (hl:OpsRd w A n l) (B:Option Addr) (m d:Nat) (rs:List Row) (bs:List (List Int)) (hB:BytRd w B m rs bs) (A2:Option Addr) (n2 c2:Nat) (l2:List OpRow) (hl2:OpsRd w A2 n2 l2) (heq:opsO l=opsO l2) (B2:Option Addr) (m2 d2:Nat) (rs2:List Row) (hB2:BytRd w B2 m2 rs2 bs) (z:Int) :
  Calls prog 44 #[.agg [.slice A n c,.int .i64 z,.slice B m d].toArray,.agg [.slice A2 n2 c2,.int .i64 z,.slice B2 m2 d2].toArray] w (Rb w (.bool true)):=by
 have hbm:=hB.n_eq.1
 have hbm2:=hB2.n_eq.1
 have hbd:=hB.rd.bound
 have hbd2:=hB2.rd.bound
 refine aI #[.tmp 4] 47 func44 Z results44 ntmps44 Z ?_
 have M0:=Mem.refl w
 refine aE (aA (bO (.agg (.mk _)) M0 Z Z Z (fun b1 w1 M1=>(bO (.agg (.mk _)) M1 Z Z Z (fun b2 w2 M2=>(wq (aJ (.bool false) Z) Z (aB (aC (aE (aE (aA (wq (aD 1 oA Z) Z (wq (aK 0 (.int _ _) fE M2 Z Z Z) Z (wq (aD 1 oA Z) Z (wq (aK 1 (.int _ _) fE M2 Z Z Z) Z (cV Z Z Z Z (nP 10 Z (fun h=>h Z) (wq (aH (.bool false) Z) Z (wq (aD 2 jE Z) Z (wq (aK 0 (.slice _ _ _) eV M2 Z Z Z) Z (wq (bW underlying73 Z) Z (wq (aD 2 jE Z) Z ?_))))))))))))))))))))))
 refine wq (aK 1 (.slice _ _ _) eV M2 Z Z Z) Z (wq (bW underlying73 Z) Z (cV Z Z Z Z (nP 18 Z (by omega) (wq (bM false (.bool false) Z Z) Z (wq (aH (.bool false) Z) Z (wq (aD 0 rY Z) Z (wq (aK 0 (.slice _ _ _) yR M2 Z Z Z) Z (wq (aD 0 rY Z) Z (wq (aK 1 (.slice _ _ _) yR M2 Z Z Z) Z (dM bWx Z Z M2 (aKn _ A n c l (hl.mem M2) A2 n2 c2 l2 (hl2.mem M2) heq) (fun w3 M3=>(wq (fB false Z Z) Z (wq (bM false (.bool false) Z Z) Z (aB (aC (cB Z ?_))))))))))))))))
 refine aM (aC (aE (aE (aA (bL Z Z (aB (aC (aS (dK (σ:=Nat) [2,3] (fun i=>[(5,.int .i64 (i:Int))]) (fun i w'=>i≤m∧Mem w [] [(some b1,bc [.slice A n c,.int .i64 z,.slice B m d] 80),(some b2,bc [.slice A2 n2 c2,.int .i64 z,.slice B2 m2 d2] 80)] w') (fun i=>m - i) 0 (bI Z eC) (⟨by omega,M3⟩) ?_)))))))))
 rintro i ρ4 w4 ⟨hi,hM4⟩
 refine aE (aE (aA (aT Z Z (wq (aD 2 jE Z) Z (wq (aK 0 (.slice _ _ _) eV hM4 Z Z Z) Z (wq (bW underlying73 Z) Z (cV Z Z Z Z (aB (aC ?_)))))))))
 refine aW Z (fun h32 => ?_) (fun h32 => ?_)
 ·obtain ⟨rj,bj,hrj,hbj,hhj,hrd,hbl,hcp⟩:=hB.at (j:=i) (by omega)
  obtain ⟨rk,bk,hrk,hbk,hhk,hrd2,_,_⟩:=hB2.at (j:=i) (by omega)
  obtain rfl:bj=bk:=by rw [hbj] at hbk;exact Option.some.inj hbk
  refine aM (aC (aE (aS (aE (kY [(0,0),(1,1),(2,0),(3,1),(4,1),(5,0),(6,1),(7,0),(8,1),(9,1),(10,2),(11,0)] mixed Z (by kernel_rfl) (fun w5 hb5 hh5 => ?_))))))
  have M5:=hM4.drew hb5 hh5
  refine aX Z Z Z (fun _=>aD 2 jE Z) (bQ Z Z Z (aK 0 (.slice _ _ _) eV M5 Z Z Z) (eG Z Z Z (bQ Z Z Z (bG (i) nT Z Z Z ((hB.rd.mem M5).below_len (hhj)) ((hB.rd.mem M5).someK (hhj))) (bQ Z Z Z (fG (.slice _ _ _) iR (hB.rd.mem M5) (hhj) Z) (aX Z Z Z (fun _=>aD 2 jE Z) (bQ Z Z Z (aK 1 (.slice _ _ _) eV M5 Z Z Z) (eG Z Z Z (bQ Z Z Z (bG (i) nT Z Z Z ((hB2.rd.mem M5).below_len (hhk)) ((hB2.rd.mem M5).someK (hhk))) (bQ Z Z Z (fG (.slice _ _ _) iR (hB2.rd.mem M5) (hhk) Z) ?_)))))))))
  refine dO [true,true,true,true,true,true] Z (by kernel_rfl) (dM aQm Z Z M5 (rI _ _ _ _ bj (hrd.mem M5) _ _ _ bj (hrd2.mem M5)) (fun w6 M6 => ?_))
  refine aB (aC ⟨dI, ?_⟩)
  refine dX 45 (.bool true) (bT Z).symm (aX Z Z Z (fun _=>fB false Z Z) (bS (aC (cB Z (aM (cS (aC (aA (aT Z Z (wq (bE Z Z (by omega) (by omega)) Z (bL Z Z (aB ?_))))))))))))
  refine bU (i+1) (bI Z eC) (bX Z (bX Z gR)) ?_ ?_
  ·exact ⟨by omega,M6⟩
  ·omega
 ·refine cM (cZ (dF (eL (aC (aE (aA (wq (aJ (.bool true) Z) Z (aB (aC (aR (cF (.bool true) Z ?_)))))))))))
  exact ⟨Z,hM4.below⟩
theorem bJu (w:World) (A:Option Addr) (n c:Nat) (l:List OpRow) (hl:OpsRd w A n l) (hcap:n≤c) (hby:∀ x∈l,x.n≤1000000) (hn:n≤1000000) (B:Option Addr) (m d:Nat) (rs:List Row) (bs:List (List Int)) (hB:BytRd w B m rs bs) (z:Int) (hz:z < 1) :
  Calls prog 50 #[.agg [.slice A n c,.int .i64 z,.slice B m d].toArray] w (Rb w (.tuple #[.int .i64 0,.int .i64 1])):=by
 have hlen:l.length=n:=by simpa using hl.rd.len
 have hbd:=hl.rd.bound
 have hbm:=hB.n_eq.1
 have hbd2:=hB.rd.bound
 refine aI #[.tmp 2,.tmp 3] 44 func50 Z results50 ntmps50 Z ?_
 have M0:=Mem.refl w
 refine aE (aA (bO (.agg (.mk _)) M0 Z Z Z (fun b1 w1 M1=>(bL Z Z (bL Z Z (aB (aC (aE (aE (aA (wq (aD 1 oA Z) Z (wq (aK 0 (.int _ _) fE M1 Z Z Z) Z (cV Z Z Z Z (jU 8 Z (by omega) (aB (aC (cE Z (aE (aA (bL Z Z (bL Z Z (aB (aC (aR (cK (gE (.int _ _) (.int _ _) Z Z ?_))))))))))))))))))))))))))
 exact ⟨Z,M1.below⟩
theorem bJt (w:World) (A:Option Addr) (n c:Nat) (l:List OpRow) (hl:OpsRd w A n l) (hcap:n≤c) (hby:∀ x∈l,x.n≤1000000) (hn:n≤1000000) (B:Option Addr) (m d:Nat) (rs:List Row) (bs:List (List Int)) (hB:BytRd w B m rs bs) (k:Nat) (hkp:0 < k) (hm:m≠n / k) :
  Calls prog 50 #[.agg [.slice A n c,.int .i64 (k:Int),.slice B m d].toArray] w (Rb w (.tuple #[.int .i64 0,.int .i64 1])):=by
 have hlen:l.length=n:=by simpa using hl.rd.len
 have hbd:=hl.rd.bound
 have hbm:=hB.n_eq.1
 have hbd2:=hB.rd.bound
 refine aI #[.tmp 2,.tmp 3] 44 func50 Z results50 ntmps50 Z ?_
 have M0:=Mem.refl w
 refine aE (aA (bO (.agg (.mk _)) M0 Z Z Z (fun b1 w1 M1=>(bL Z Z (bL Z Z (aB (aC (aE (aE (aA (wq (aD 1 oA Z) Z (wq (aK 0 (.int _ _) fE M1 Z Z Z) Z (cV Z Z Z Z (nP 8 Z (by omega) (aB (aC (cB Z (aM (aC (aE (aA (wq (aD 0 rY Z) Z (wq (aK 0 (.slice _ _ _) yR M1 Z Z Z) Z (wq (aD 1 oA Z) Z (wq (aK 0 (.int _ _) fE M1 Z Z Z) Z ?_)))))))))))))))))))))))))
 refine eJ aLc Z Z (mC _ A n c l (hl.mem M1) hcap hby hn (k:Int) k (by omega)) ?_
 rintro v2 w2 ⟨qm,ms,rfl,hqm,hmb,hM2⟩
 have M2:Mem _ _ ([_,_]++_) _:=M1.call0 hM2
 have hmn:(ms.map kX).length=qm.n:=hqm.1
 rw [List.length_map,hmb.len,iV,dE,hlen] at hmn
 refine aO zX M2 Z Z (fun b3 w3 M3 => ?_)
 have M4:Mem _ _ ([_,_,_]++_) _:=Mem.front (L:=[_,_]) M3
 refine bC 2 _ rA M4 Z Z Z Z Z (aP Z) Z (fun w5 M5=>(aB (aC (aE (aE (aA (wq (aD 2 jE Z) Z (wq (aK 0 (.slice _ _ _) eV M5 Z Z Z) Z (wq (bW underlying73 Z) Z (wq (aD 2 jE Z) Z (wq (aK 2 (.slice _ _ _) eV M5 Z Z Z) Z (wq (bW underlying73 Z) Z (cV Z Z Z Z (jU 20 Z (fun h=>hm (by rw [hmn];exact Int.ofNat.inj h)) (aB (aC (cE Z (aE (aA (bL Z Z (bL Z Z (aB (aC (aR (cK ?_)))))))))))))))))))))))))
 refine gE (.int _ _) (.int _ _) Z Z ?_
 exact ⟨Z,M5.below⟩
theorem bNz (w:World) (A:Option Addr) (n c:Nat) (l:List OpRow) (hl:OpsRd w A n l) (hcap:n≤c) (hby:∀ x∈l,x.n≤1000000) (hn:n≤1000000) (B:Option Addr) (m d:Nat) (rs:List Row) (bs:List (List Int)) (hB:BytRd w B m rs bs) (k:Nat) (hkp:0 < k) (hm:m=n / k) :
  Calls prog 50 #[.agg [.slice A n c,.int .i64 (k:Int),.slice B m d].toArray] w (Rb w (.tuple #[.int .i64 (vG (opsO l) k bs).1,.int .i64 (vG (opsO l) k bs).2])):=by
 have hlen:l.length=n:=by simpa using hl.rd.len
 have hbd:=hl.rd.bound
 have hbm:=hB.n_eq.1
 have hbd2:=hB.rd.bound
 refine aI #[.tmp 2,.tmp 3] 44 func50 Z results50 ntmps50 Z ?_
 have M0:=Mem.refl w
 refine aE (aA (bO (.agg (.mk _)) M0 Z Z Z (fun b1 w1 M1=>(bL Z Z (bL Z Z (aB (aC (aE (aE (aA (wq (aD 1 oA Z) Z (wq (aK 0 (.int _ _) fE M1 Z Z Z) Z (cV Z Z Z Z (nP 8 Z (by omega) (aB (aC (cB Z (aM (aC (aE (aA (wq (aD 0 rY Z) Z (wq (aK 0 (.slice _ _ _) yR M1 Z Z Z) Z (wq (aD 1 oA Z) Z (wq (aK 0 (.int _ _) fE M1 Z Z Z) Z ?_)))))))))))))))))))))))))
 refine eJ aLc Z Z (mC _ A n c l (hl.mem M1) hcap hby hn (k:Int) k (by omega)) ?_
 rintro v2 w2 ⟨qm,ms,rfl,hqm,hmb,hM2⟩
 have M2:Mem _ _ ([_,_]++_) _:=M1.call0 hM2
 have hmn:(ms.map kX).length=qm.n:=hqm.1
 rw [List.length_map,hmb.len,iV,dE,hlen] at hmn
 refine aO zX M2 Z Z (fun b3 w3 M3 => ?_)
 have M4:Mem _ _ ([_,_,_]++_) _:=Mem.front (L:=[_,_]) M3
 refine bC 2 _ rA M4 Z Z Z Z Z (aP Z) Z (fun w5 M5=>(aB (aC (aE (aE (aA (wq (aD 2 jE Z) Z (wq (aK 0 (.slice _ _ _) eV M5 Z Z Z) Z (wq (bW underlying73 Z) Z (wq (aD 2 jE Z) Z (wq (aK 2 (.slice _ _ _) eV M5 Z Z Z) Z (wq (bW underlying73 Z) Z (cV Z Z Z Z (nP 20 Z (fun h=>h (by rw [← hmn,← hm])) (aB (aC (cB Z (aM (aC (aE (aE (aA (bL Z Z (aB (aC (aS (dK (σ:=Nat) [1,4] (fun i=>[(5,.int .i64 (i:Int))]) (fun i w'=>(i≤m∧∀ j,j < i→bs[j]? = some (iJ (opsO l) k j))∧Mem w [] ([(some b1,bc [.slice A n c,.int .i64 (k:Int),.slice B m d] 80),qm.e,(some b3,bc [.slice A n c,.int .i64 (k:Int),.slice qm.A qm.n qm.c] 80)]++ms.map Row.e) w') (fun i=>m - i) 0 (bI Z eC) (⟨⟨by omega,fun j hj=>by omega⟩,M5⟩) ?_)))))))))))))))))))))))))))
 rintro i ρ6 w6 ⟨⟨hi,hall⟩,hM6⟩
 refine aE (aE (aA (aT Z Z (wq (aD 2 jE Z) Z (wq (aK 2 (.slice _ _ _) eV hM6 Z Z Z) Z (wq (bW underlying73 Z) Z (cV Z Z Z Z (aB (aC ?_)))))))))
 refine aW Z (fun h25 => ?_) (fun h25 => ?_)
 ·have hqm2:qm.n=m:=by rw [← hmn,hm]
  obtain ⟨rj,bj,hrj,hbj,hhj,hrd,hbl,hcp⟩:=hB.at (j:=i) (by omega)
  obtain ⟨pm,hpm1,hpm2⟩:=hmb.at (mR (opsO l) k (n:=(opsO l).length / k) (i:=i) (by rw [dE,hlen,← hm];omega))
  refine aM (aC (aE (aS (aE (kY [(0,0),(1,1),(2,0),(3,1),(4,1),(5,0),(6,1),(7,0),(8,1),(9,1),(10,2),(11,0)] mixed Z (by kernel_rfl) (fun w7 hb7 hh7 => ?_))))))
  have M7:=hM6.drew hb7 hh7
  refine aX Z Z Z (fun _=>aD 2 jE Z) (bQ Z Z Z (aK 0 (.slice _ _ _) eV M7 Z Z Z) (eG Z Z Z (bQ Z Z Z (bG (i) nT Z Z Z ((hB.rd.mem M7).below_len (hhj)) ((hB.rd.mem M7).someK (hhj))) (bQ Z Z Z (fG (.slice _ _ _) iR (hB.rd.mem M7) (hhj) Z) (aX Z Z Z (fun _=>aD 2 jE Z) (bQ Z Z Z (aK 2 (.slice _ _ _) eV M7 Z Z Z) (eG Z Z Z (bQ Z Z Z (bG (i) nT Z Z Z ((hqm.rd M7 (aN (i:=1) Z)).below_len (aG kX hpm1)) ((hqm.rd M7 (aN (i:=1) Z)).someK (aG kX hpm1))) ?_))))))))
  refine bQ Z Z Z (fG (.slice _ _ _) iR (hqm.rd M7 (aN (i:=1) Z)) (aG kX hpm1) Z) (dO [true,true,true,true,true,true] Z (by kernel_rfl) (dM aQm Z Z M7 (rI _ _ _ _ bj (hrd.mem M7) _ _ _ (iJ (opsO l) k i) (hpm2.rd M7 (dC fY pm (List.mem_of_getElem? hpm1)))) (fun w8 M8 => ?_)))
  refine aB (aC ⟨dI, ?_⟩)
  refine aX Z Z Z (fun _=>pT Z) (bS (aC ?_))
  refine aW Z (fun h39 => ?_) (fun h39 => ?_)
  ·refine aE (aA (aT Z Z (bL Z Z (bL Z Z (aB (aC (aR (lP (cK (sY (lP (cK (gE (.int _ _) (.int _ _) Z Z ?_)))))))))))))
   exact ⟨by rw [bKr (by omega) hall (by rw [hbj];intro e;exact h39 (Option.some.inj e))],M8.below⟩
  ·refine aM (cS (aC (aA (aT Z Z (wq (bE Z Z (by omega) (by omega)) Z (bL Z Z (aB ?_)))))))
   refine bU (i+1) (bI Z eC) (bX Z (bX Z gR)) ?_ ?_
   ·exact ⟨⟨by omega,bEl hall (by rw [hbj,Decidable.not_not.1 h39])⟩,M8⟩
   ·omega
 ·have hqm2:qm.n=m:=by rw [← hmn,hm]
  have him:i=m:=by omega
  refine cM (cZ (dF (eL (aC (aE (aA (wq (aD 2 jE Z) Z (wq (aK 2 (.slice _ _ _) eV hM6 Z Z Z) Z (wq (bW underlying73 Z) Z (bL Z Z (bL Z Z (aB (aC (aR (gE (.int _ _) (.int _ _) Z Z ?_)))))))))))))))
  exact ⟨by rw [bOn (fun j hj=>hall j (by omega)),hbm,← hqm2],hM6.below⟩
theorem jL (w:World) (A:Option Addr) (n c:Nat) (l:List OpRow) (hl:OpsRd w A n l) (hby:∀ x∈l,x.n≤1000000) (hn:n≤1000000) :
  Calls prog 43 #[.slice A n c] w (gY (fun v w'=>∃ (q:Row) (ps:List Row),v=.slice q.A q.n q.c∧bA 41 15 q.A q.n q.c ((kN (opsO l) ps).map OpRow.cells) q.e∧BytR 5 ps ((opsO l).map OpI.bytes)∧Mem w [] ([q.e]++ps.map Row.e) w')):=by
 have hlen:l.length=n:=by simpa using hl.rd.len
 have hbd:=hl.rd.bound
 refine aI #[.tmp 2] 43 func43 Z results43 ntmps43 Z ?_
 have M0:=Mem.refl w
 refine aE (aA (eI Z Z (aB (aC (aE (aA (eI Z Z ?_)))))))
 have M1:=M0.dummy default
 refine aB (aC (aE (aE (aA (bL Z Z (aB (aC (aS (dK (σ:=Nat × Row × List Row) [0,2] (fun (i,q,ps)=>[(3,.slice q.A q.n q.c),(4,.int .i64 (i:Int))]) (fun (i,q,ps) w'=>(i≤n∧bA 41 15 q.A q.n q.c ((kN ((opsO l).take i) ps).map OpRow.cells) q.e∧BytR 5 ps (((opsO l).take i).map OpI.bytes))∧Mem w [] ([q.e]++ps.map Row.e) w') (fun (i,q,ps)=>n - i) (0,eN,[]) (bI Z (bI Z eC)) (⟨⟨by omega,bA.nil _ _ _,BytR.nil _⟩,M1⟩) ?_)))))))))
 rintro ⟨i,q,ps⟩ ρ2 w2 ⟨⟨hi,hq,hpb⟩,hM2⟩
 have hpl:ps.length=((opsO l).take i).length:=by rw [hpb.len,List.length_map]
 have hqn:((kN ((opsO l).take i) ps).map OpRow.cells).length=q.n:=hq.1
 rw [List.length_map,mV hpl,List.length_take,dE] at hqn
 refine aE (aE (aA (aT Z Z (dJ Z Z (wq (bW underlying22 Z) Z (cV Z Z Z Z (aB (aC ?_))))))))
 refine aW Z (fun h8 => ?_) (fun h8 => ?_)
 ·obtain ⟨x,hx⟩:=cG (xs:=l) (k:=i) hlen (by omega)
  have hxm:=List.mem_of_getElem? hx
  have hxo:=pH hx
  have hP:=hl.each x hxm
  have hxn:=hby x hxm
  refine aM (aC (aE (aS (kY [(0,0),(1,0),(2,0),(3,1),(4,1),(5,1),(6,0),(7,0),(8,1),(9,1),(10,1),(11,0),(12,0),(13,1),(14,1),(15,1),(16,0),(17,0),(18,1),(19,1),(20,1),(22,0),(23,0),(24,1),(25,1),(26,1),(21,2),(27,2),(28,0),(29,2),(30,2),(31,0)] mixed Z (by kernel_rfl) (fun w3 hb3 hh3 => ?_)))))
  have M3:=hM2.drew hb3 hh3
  refine kB Z Z Z (kB Z Z Z (eG Z Z Z (bQ Z Z Z (bG (i) kU Z Z Z ((hl.rd.mem M3).below_len (aG OpRow.cells hx)) ((hl.rd.mem M3).someK (aG OpRow.cells hx))) (bQ Z Z Z (aU 0 qM (hl.rd.mem M3) (jD ((hl.rd.mem M3).below_len (aG OpRow.cells hx))) Z) (bQ Z Z Z (dR (o:=0) (.int _ _) fE (hl.rd.mem M3) (aG OpRow.cells hx) Z Z) (kB Z Z Z (eG Z Z Z (bQ Z Z Z (bG (i) kU Z Z Z ((hl.rd.mem M3).below_len (aG OpRow.cells hx)) ((hl.rd.mem M3).someK (aG OpRow.cells hx))) (bQ Z Z Z (aU 1 xJ (hl.rd.mem M3) (jD ((hl.rd.mem M3).below_len (aG OpRow.cells hx))) Z) ?_)))))))))
  refine bQ Z Z Z (lS (o:=1) _ bR (hl.rd.mem M3) (aG OpRow.cells hx) Z Z Z) (kB Z Z Z (eG Z Z Z (bQ Z Z Z (bG (i) kU Z Z Z ((hl.rd.mem M3).below_len (aG OpRow.cells hx)) ((hl.rd.mem M3).someK (aG OpRow.cells hx))) (bQ Z Z Z (aU 11 xK (hl.rd.mem M3) (jD ((hl.rd.mem M3).below_len (aG OpRow.cells hx))) Z) (bQ Z Z Z (dR (o:=11) (.int _ _) bZ (hl.rd.mem M3) (aG OpRow.cells hx) Z Z) (kB Z Z Z (eG Z Z Z (bQ Z Z Z (bG (i) kU Z Z Z ((hl.rd.mem M3).below_len (aG OpRow.cells hx)) ((hl.rd.mem M3).someK (aG OpRow.cells hx))) ?_))))))))
  refine bQ Z Z Z (aU 12 xL (hl.rd.mem M3) (jD ((hl.rd.mem M3).below_len (aG OpRow.cells hx))) Z) (bQ Z Z Z (lS (o:=12) _ bP (hl.rd.mem M3) (aG OpRow.cells hx) Z Z Z) (kB Z Z Z (eG Z Z Z (bQ Z Z Z (bG (i) kU Z Z Z ((hl.rd.mem M3).below_len (aG OpRow.cells hx)) ((hl.rd.mem M3).someK (aG OpRow.cells hx))) (bQ Z Z Z (aU 14 xM (hl.rd.mem M3) (jD ((hl.rd.mem M3).below_len (aG OpRow.cells hx))) Z) (bQ Z Z Z (dR (o:=14) (.slice _ _ _) iR (hl.rd.mem M3) (aG OpRow.cells hx) Z Z) ?_))))))
  refine dO [false,false,false,false,false,false,false,false,false,false,false,false,false,false,false] Z (by kernel_rfl) (bV [] [] Z gI M3 Z Z Z Z (cO Z) (by decide) (fun b4 w4 M4 => ?_))
  have M5:Mem _ _ ([_,_]++_) _:=Mem.front (L:=[_]) M4
  refine aB (aC ⟨(dS (bH Z (dR (o:=14) (.slice _ _ _) iR (hl.rd.mem M5) (aG OpRow.cells hx) Z Z)) (dS (bH Z (aU 14 xM (hl.rd.mem M5) (jD ((hl.rd.mem M5).below_len (aG OpRow.cells hx))) Z)) (dS (bH Z (bG (i) kU Z Z Z ((hl.rd.mem M5).below_len (aG OpRow.cells hx)) ((hl.rd.mem M5).someK (aG OpRow.cells hx)))) (dS (bH Z (lS (o:=12) _ bP (hl.rd.mem M5) (aG OpRow.cells hx) Z Z Z)) (dS (bH Z (aU 12 xL (hl.rd.mem M5) (jD ((hl.rd.mem M5).below_len (aG OpRow.cells hx))) Z)) (dS (bH Z (bG (i) kU Z Z Z ((hl.rd.mem M5).below_len (aG OpRow.cells hx)) ((hl.rd.mem M5).someK (aG OpRow.cells hx)))) (dS (bH Z (dR (o:=11) (.int _ _) bZ (hl.rd.mem M5) (aG OpRow.cells hx) Z Z)) (dS (bH Z (aU 11 xK (hl.rd.mem M5) (jD ((hl.rd.mem M5).below_len (aG OpRow.cells hx))) Z)) (dS (bH Z (bG (i) kU Z Z Z ((hl.rd.mem M5).below_len (aG OpRow.cells hx)) ((hl.rd.mem M5).someK (aG OpRow.cells hx)))) (dS (bH Z (lS (o:=1) _ bR (hl.rd.mem M5) (aG OpRow.cells hx) Z Z Z)) (dS (bH Z (aU 1 xJ (hl.rd.mem M5) (jD ((hl.rd.mem M5).below_len (aG OpRow.cells hx))) Z)) (dS (bH Z (bG (i) kU Z Z Z ((hl.rd.mem M5).below_len (aG OpRow.cells hx)) ((hl.rd.mem M5).someK (aG OpRow.cells hx)))) (dS (bH Z (dR (o:=0) (.int _ _) fE (hl.rd.mem M5) (aG OpRow.cells hx) Z Z)) (dS (bH Z (aU 0 qM (hl.rd.mem M5) (jD ((hl.rd.mem M5).below_len (aG OpRow.cells hx))) Z)) (dS (bH Z (bG (i) kU Z Z Z ((hl.rd.mem M5).below_len (aG OpRow.cells hx)) ((hl.rd.mem M5).someK (aG OpRow.cells hx)))) dI))))))))))))))), ?_⟩)
  refine dO [true,true,true,false,false,false,false,false,false,false,false,false,false,false,false] Z (by kernel_rfl) (gK 1 (x.o.bytes.map aZ) gI M5 Z Z Z Z Z (bA.empty b4) (hP.rd.mem M5) (zC _) (by omega) (fun A6 c6 e6 w6 M6 hR6 hA6 => ?_))
  refine aB (aC ⟨(dS (bH Z (lS (o:=12) _ bP (hl.rd.mem M6) (aG OpRow.cells hx) Z Z Z)) (dS (bH Z (aU 12 xL (hl.rd.mem M6) (jD ((hl.rd.mem M6).below_len (aG OpRow.cells hx))) Z)) (dS (bH Z (bG (i) kU Z Z Z ((hl.rd.mem M6).below_len (aG OpRow.cells hx)) ((hl.rd.mem M6).someK (aG OpRow.cells hx)))) (dS (bH Z (dR (o:=11) (.int _ _) bZ (hl.rd.mem M6) (aG OpRow.cells hx) Z Z)) (dS (bH Z (aU 11 xK (hl.rd.mem M6) (jD ((hl.rd.mem M6).below_len (aG OpRow.cells hx))) Z)) (dS (bH Z (bG (i) kU Z Z Z ((hl.rd.mem M6).below_len (aG OpRow.cells hx)) ((hl.rd.mem M6).someK (aG OpRow.cells hx)))) (dS (bH Z (lS (o:=1) _ bR (hl.rd.mem M6) (aG OpRow.cells hx) Z Z Z)) (dS (bH Z (aU 1 xJ (hl.rd.mem M6) (jD ((hl.rd.mem M6).below_len (aG OpRow.cells hx))) Z)) (dS (bH Z (bG (i) kU Z Z Z ((hl.rd.mem M6).below_len (aG OpRow.cells hx)) ((hl.rd.mem M6).someK (aG OpRow.cells hx)))) (dS (bH Z (dR (o:=0) (.int _ _) fE (hl.rd.mem M6) (aG OpRow.cells hx) Z Z)) (dS (bH Z (aU 0 qM (hl.rd.mem M6) (jD ((hl.rd.mem M6).below_len (aG OpRow.cells hx))) Z)) (dS (bH Z (bG (i) kU Z Z Z ((hl.rd.mem M6).below_len (aG OpRow.cells hx)) ((hl.rd.mem M6).someK (aG OpRow.cells hx)))) dI)))))))))))), ?_⟩)
  refine aX Z Z Z (fun _=>cI [(0,.int _ _),(1,.agg (List.toArray _)),(2,.int _ _),(3,.agg (List.toArray _)),(4,.slice _ _ _)] _ aJd Z Z) (dO [true,true,true,true,true,true,true,true,true,true,true,true] Z (by kernel_rfl) (bV [.agg (List.toArray _)] [dW x.o A6 (0+x.n) c6] Z nS M6 Z Z Z Z (cO Z) (by decide) (fun b7 w7 M7 => ?_)))
  have M8:Mem _ _ ([_,_,_]++_) _:=Mem.front (L:=[_,_]) M7
  refine aB (aC ⟨dI, ?_⟩)
  refine dO [] rfl (by kernel_rfl) (cP 0 [dW x.o A6 (0+x.n) c6] nS M8 rfl rfl rfl rfl rfl hq rfl (by simp [dW,aF,Go.Bil.one]) (dN.ofMem 2 M8 rfl) (by omega) (fun A9 c9 e9 w9 M9 hR9 => ?_))
  refine aB (aC ⟨dI, ?_⟩)
  refine aX Z Z Z (fun _=>aJ (.slice _ _ _) Z) (bS (cS (aC (aA (aT Z Z (wq (bE Z Z (by omega) (by omega)) Z (bL Z Z (aB ?_))))))))
  refine bU (i+1,⟨A9,q.n+1,c9,e9⟩,ps++[⟨A6,0+x.n,c6,e6⟩]) (bI Z (bI Z eC)) (bX Z (bX Z gR)) ?_ ?_
  ·exact ⟨⟨by omega,by rw [cC hxo,wC hpl,List.map_append];exact hR9,by rw [cC hxo,List.map_append];exact hpb.add (by simpa using hR6)⟩,Mem.pushNew (L:=[_]) ⟨A6,0+x.n,c6,e6⟩ (Mem.keepL (L:=[_,_,_]) [true,true,false] M9)⟩
  ·(show n - (i+1) < n - i;omega)
 ·have hin:i=n:=by omega
  rw [hin,List.take_of_length_le (by rw [dE];omega)] at hq hpb
  refine cM (cZ (dF (eL (aC (aE (aA (dJ Z Z (eI Z Z (aB (aC (aR (cF (.slice _ _ _) Z ?_))))))))))))
  exact ⟨q,ps,Z,hq,hpb,hM2⟩
theorem xO (w:World) (A:Option Addr) (n c:Nat) (l:List OpRow) (hl:OpsRd w A n l) (hn:n≤1000000) (z:Int) (B:Option Addr) (m d:Nat) :
  Calls prog 45 #[.agg [.slice A n c,.int .i64 z,.slice B m d].toArray] w (gY (fun v w'=>∃ q:Row,v=.agg [.slice q.A q.n q.c,.int .i64 z,.slice B m d].toArray∧bA 46 15 q.A q.n q.c (l.map OpRow.cells) q.e∧Mem w [] [q.e] w')):=by
 have hlen:l.length=n:=by simpa using hl.rd.len
 have hbd:=hl.rd.bound
 refine aI #[.cell 2 80] 54 func45 Z results45 ntmps45 Z ?_
 have M0:=Mem.refl w
 refine aE (aA (bO (.agg (.mk _)) M0 Z Z Z (fun b1 w1 M1=>(aO zX M1 Z Z (fun b2 w2 M2=>(aB (aC (aE (aA (wq (aD 1 lN Z) Z (wq (aK 0 (.int _ _) fE M2 Z Z Z) Z (wq (aD 2 gB Z) Z (wq (aK 0 (.slice _ _ _) eV M2 Z Z Z) Z (wq (cI [(1,.int _ _),(2,.slice _ _ _)] _ aTn Z Z) Z (aO zX M2 Z Z (fun b3 w3 M3=>(bC 2 _ rA M3 Z Z Z Z Z (aP Z) Z (fun w4 M4=>(aB (aC (aE (aE (aA (bL Z Z ?_))))))))))))))))))))))))
 have M5:=M4.dummy default
 refine aB (aC (aS (dK (σ:=Nat × Row) [1,2,3] (fun (i,q)=>[(4,.int .i64 (i:Int))]) (fun (i,q) w'=>(i≤n∧bA 46 15 q.A q.n q.c ((l.take i).map OpRow.cells) q.e)∧Mem w [] [(some b1,bc [.slice A n c,.int .i64 z,.slice B m d] 75),(some b2,bc [.slice none 0 0,.int .i64 0,.slice none 0 0] 80),(some b3,bc [.slice q.A q.n q.c,.int .i64 z,.slice B m d] 80),q.e] w') (fun (i,q)=>n - i) (0,eN) (bI Z eC) (⟨⟨by omega,bA.nil _ _ _⟩,M5⟩) ?_)))
 rintro ⟨i,q⟩ ρ6 w6 ⟨⟨hi,hq⟩,hM6⟩
 have hqn:((l.take i).map OpRow.cells).length=q.n:=hq.1
 rw [List.length_map,List.length_take] at hqn
 refine aE (aE (aA (aT Z Z (wq (aD 0 gA Z) Z (wq (aK 0 (.slice _ _ _) iW hM6 Z Z Z) Z (wq (bW underlying27 Z) Z (cV Z Z Z Z (aB (aC ?_)))))))))
 refine aW Z (fun h14 => ?_) (fun h14 => ?_)
 ·obtain ⟨x,hx⟩:=cG (xs:=l) (k:=i) hlen (by omega)
  refine aM (aC (aE (aS (kY [(0,0),(1,1),(2,0),(3,1),(4,0),(5,1),(6,1),(7,1),(8,0),(9,1),(10,0),(11,1),(12,1),(13,1),(14,0),(15,1),(16,0),(17,1),(18,1),(19,1),(20,0),(21,1),(22,0),(23,1),(24,1),(25,1),(26,0),(27,1),(28,0),(29,1),(30,1),(31,1),(32,0),(33,2),(34,2),(35,0),(36,2)] mixed Z (by kernel_rfl) (fun w7 hb7 hh7 => ?_)))))
  have M7:=hM6.drew hb7 hh7
  refine aX Z Z Z (fun _=>aD 0 rY Z) (bQ Z Z Z (aK 2 (.slice _ _ _) yR M7 Z Z Z) (aX Z Z Z (fun _=>aD 0 gA Z) (bQ Z Z Z (aK 0 (.slice _ _ _) iW M7 Z Z Z) (eG Z Z Z (bQ Z Z Z (bG (i) nS Z Z Z ((hl.rd.mem M7).below_len (aG OpRow.cells hx)) ((hl.rd.mem M7).someK (aG OpRow.cells hx))) (bQ Z Z Z (aU 0 qL (hl.rd.mem M7) (jD ((hl.rd.mem M7).below_len (aG OpRow.cells hx))) Z) (bQ Z Z Z (dR (o:=0) (.int _ _) fE (hl.rd.mem M7) (aG OpRow.cells hx) Z Z) ?_)))))))
  refine aX Z Z Z (fun _=>aD 0 gA Z) (bQ Z Z Z (aK 0 (.slice _ _ _) iW M7 Z Z Z) (eG Z Z Z (bQ Z Z Z (bG (i) nS Z Z Z ((hl.rd.mem M7).below_len (aG OpRow.cells hx)) ((hl.rd.mem M7).someK (aG OpRow.cells hx))) (bQ Z Z Z (aU 1 aYr (hl.rd.mem M7) (jD ((hl.rd.mem M7).below_len (aG OpRow.cells hx))) Z) (bQ Z Z Z (lS (o:=1) _ bR (hl.rd.mem M7) (aG OpRow.cells hx) Z Z Z) (aX Z Z Z (fun _=>aD 0 gA Z) (bQ Z Z Z (aK 0 (.slice _ _ _) iW M7 Z Z Z) ?_)))))))
  refine eG Z Z Z (bQ Z Z Z (bG (i) nS Z Z Z ((hl.rd.mem M7).below_len (aG OpRow.cells hx)) ((hl.rd.mem M7).someK (aG OpRow.cells hx))) (bQ Z Z Z (aU 11 aOa (hl.rd.mem M7) (jD ((hl.rd.mem M7).below_len (aG OpRow.cells hx))) Z) (bQ Z Z Z (dR (o:=11) (.int _ _) bZ (hl.rd.mem M7) (aG OpRow.cells hx) Z Z) (aX Z Z Z (fun _=>aD 0 gA Z) (bQ Z Z Z (aK 0 (.slice _ _ _) iW M7 Z Z Z) (eG Z Z Z (bQ Z Z Z (bG (i) nS Z Z Z ((hl.rd.mem M7).below_len (aG OpRow.cells hx)) ((hl.rd.mem M7).someK (aG OpRow.cells hx))) ?_)))))))
  refine bQ Z Z Z (aU 12 aYs (hl.rd.mem M7) (jD ((hl.rd.mem M7).below_len (aG OpRow.cells hx))) Z) (bQ Z Z Z (lS (o:=12) _ bP (hl.rd.mem M7) (aG OpRow.cells hx) Z Z Z) (aX Z Z Z (fun _=>aD 0 gA Z) (bQ Z Z Z (aK 0 (.slice _ _ _) iW M7 Z Z Z) (eG Z Z Z (bQ Z Z Z (bG (i) nS Z Z Z ((hl.rd.mem M7).below_len (aG OpRow.cells hx)) ((hl.rd.mem M7).someK (aG OpRow.cells hx))) (bQ Z Z Z (aU 14 rX (hl.rd.mem M7) (jD ((hl.rd.mem M7).below_len (aG OpRow.cells hx))) Z) ?_))))))
  refine bQ Z Z Z (dR (o:=14) (.slice _ _ _) iR (hl.rd.mem M7) (aG OpRow.cells hx) Z Z) (aX Z Z Z (fun _=>cI [(0,.int _ _),(1,.agg (List.toArray _)),(2,.int _ _),(3,.agg (List.toArray _)),(4,.slice _ _ _)] _ aCa Z Z) (dO [true,true,true,true,true,true,true,true,true,true,true,true,true,true,true,true,true,true,true,true,false] Z (by kernel_rfl) (bV [.agg (List.toArray _)] [x.cells] Z kU M7 Z Z Z Z (cO Z) (by decide) (fun b8 w8 M8 => ?_))))
  refine aB (aC ⟨(dS (bH Z (aK 2 (.slice _ _ _) yR M8 Z Z Z)) dI), ?_⟩)
  refine dO [true] rfl (by kernel_rfl) (cP 3 [x.cells] kU M8 rfl rfl rfl rfl rfl hq rfl (by simp [OpRow.cells,dW,aF,Go.Bil.one]) (dN.ofMem 4 M8 rfl) (by omega) (fun A9 c9 e9 w9 M9 hR9 => ?_))
  refine aB (aC ⟨dI, ?_⟩)
  refine aX Z Z Z (fun _=>aD 0 rY Z) (dO [] Z (by kernel_rfl) (dA 2 (.slice _ _ _) yR M9 Z Z Z Z Z Z (fun w10 M10 => ?_)))
  refine aB (aC ⟨dI, ?_⟩)
  refine bS (cS (aC (aA (aT Z Z (wq (bE Z Z (by omega) (by omega)) Z (bL Z Z (aB ?_)))))))
  refine bU (i+1,⟨A9,q.n+1,c9,e9⟩) (bI Z eC) (bX Z (bX Z (bX Z gR))) ?_ ?_
  ·exact ⟨⟨by omega,by rw [cC hx,List.map_append];exact hR9⟩,M10.keep [true,true,true,true,false]⟩
  ·(show n - (i+1) < n - i;omega)
 ·have hin:i=n:=by omega
  rw [hin,List.take_of_length_le (by omega)] at hq
  refine cM (cZ (dF (eL (aC (aE (aA (wq (aV 2 rA hM6 Z Z Z) Z (bC 1 _ rA hM6 Z Z Z Z Z (aP Z) Z (fun w11 M11=>(aB (aC (aR (fA 1 rA M11 Z Z Z ?_)))))))))))))
  exact ⟨q,Z,hq,M11.keep [false,false,false,true]⟩
theorem zK (w:World) (zs:List ResI) (A:Option Addr) (n c:Nat) (rs:List Row) (hO:OutRd w A n rs zs) (A2:Option Addr) (n2 c2:Nat) (rs2:List Row) (hO2:OutRd w A2 n2 rs2 zs) :
  Calls prog 47 #[.slice A n c,.slice A2 n2 c2] w (Rb w (.bool true)):=by
 have hzn:=hO.n_eq
 have hzn2:=hO2.n_eq
 have hbd:=hO.rd.bound
 have hbd2:=hO2.rd.bound
 refine aI #[.tmp 4] 44 func47 Z results47 ntmps47 Z ?_
 have M0:=Mem.refl w
 refine aE (aA (wq (aJ (.bool false) Z) Z (aB (aC (aE (aE (aA (dJ Z Z (wq (bW underlying63 Z) Z (dJ Z Z (wq (bW underlying65 Z) Z (cV Z Z Z Z (nP 10 Z (by omega) (aB (aC (cB Z (aM (aC (aE (aE (aA (bL Z Z (aB (aC (aS (dK (σ:=Nat) [0,1] (fun i=>[(5,.int .i64 (i:Int))]) (fun i w'=>i≤n∧Mem w [] [] w') (fun i=>n - i) 0 (bI Z eC) (⟨by omega,M0⟩) ?_))))))))))))))))))))))))))
 rintro i ρ1 w1 ⟨hi,hM1⟩
 refine aE (aE (aA (aT Z Z (dJ Z Z (wq (bW underlying63 Z) Z (cV Z Z Z Z (aB (aC ?_))))))))
 refine aW Z (fun h14 => ?_) (fun h14 => ?_)
 ·obtain ⟨z,hz⟩:=cG (xs:=zs) (k:=i) hzn (by omega)
  obtain ⟨pa,hpa1,hpa2⟩:=aZi (j:=i) hO.len hz
  obtain ⟨pb,hpb1,hpb2⟩:=aZi (j:=i) hO2.len hz
  refine aM (aC (aE (aS (aE (kY [(0,0),(1,0),(2,1),(3,1),(4,1),(5,0),(6,0),(7,1),(8,1),(9,1),(10,0),(11,0),(12,1),(13,1),(14,1),(15,0),(16,0),(17,1),(18,1),(19,1),(20,0),(21,0),(22,0),(23,1),(24,1),(25,2),(26,0)] mixed Z (by kernel_rfl) (fun w2 hb2 hh2 => ?_))))))
  have M2:=hM1.drew hb2 hh2
  refine kB Z Z Z (eG Z Z Z (bQ Z Z Z (bG (i) rT Z Z Z ((hO.rd.mem M2).below_len (hpa2)) ((hO.rd.mem M2).someK (hpa2))) (bQ Z Z Z (aU 0 aYq (hO.rd.mem M2) (jD ((hO.rd.mem M2).below_len (hpa2))) Z) (bQ Z Z Z (dR (o:=0) (.int _ _) aEi (hO.rd.mem M2) (hpa2) Z Z) (kB Z Z Z (eG Z Z Z (bQ Z Z Z (bG (i) rT Z Z Z ((hO.rd.mem M2).below_len (hpa2)) ((hO.rd.mem M2).someK (hpa2))) (bQ Z Z Z (aU 1 bMd (hO.rd.mem M2) (jD ((hO.rd.mem M2).below_len (hpa2))) Z) (bQ Z Z Z (dR (o:=1) (.slice _ _ _) iR (hO.rd.mem M2) (hpa2) Z Z) ?_)))))))))
  refine kB Z Z Z (eG Z Z Z (bQ Z Z Z (bG (i) rT Z Z Z ((hO.rd.mem M2).below_len (hpa2)) ((hO.rd.mem M2).someK (hpa2))) (bQ Z Z Z (aU 2 bMe (hO.rd.mem M2) (jD ((hO.rd.mem M2).below_len (hpa2))) Z) (bQ Z Z Z (dR (o:=2) (.int _ _) fE (hO.rd.mem M2) (hpa2) Z Z) (kB Z Z Z (eG Z Z Z (bQ Z Z Z (bG (i) rT Z Z Z ((hO.rd.mem M2).below_len (hpa2)) ((hO.rd.mem M2).someK (hpa2))) (bQ Z Z Z (aU 3 bMf (hO.rd.mem M2) (jD ((hO.rd.mem M2).below_len (hpa2))) Z) (bQ Z Z Z (dR (o:=3) (.bool _) rR (hO.rd.mem M2) (hpa2) Z Z) ?_)))))))))
  refine aX Z Z Z (fun _=>cI [(0,.int _ _),(1,.slice _ _ _),(2,.int _ _),(3,.bool _)] _ aBz Z Z) (dX 37 (.agg (cJ z pa).toArray) Z (kB Z Z Z (eG Z Z Z (bQ Z Z Z (bG (i) bVr Z Z Z ((hO2.rd.mem M2).below_len (hpb2)) ((hO2.rd.mem M2).someK (hpb2))) (bQ Z Z Z (dQ _ aAc (hO2.rd.mem M2) (hpb2) Z) (dX 41 (.agg (cJ z pb).toArray) Z (dO [true,true,true,true,true,true,true,true,true,true,true,true,true,true] Z (by kernel_rfl) (dM bWp Z Z M2 (aWo _ z pa pb ((hO.row i pa z hpa1 hz).mem M2) ((hO2.row i pb z hpb1 hz).mem M2)) (fun w3 M3 => ?_)))))))))
  refine aB (aC ⟨dI, ?_⟩)
  refine aX Z Z Z (fun _=>fB false Z Z) (bS (aC (cB Z (aM (cS (aC (aA (aT Z Z (wq (bE Z Z (by omega) (by omega)) Z (bL Z Z (aB ?_)))))))))))
  refine bU (i+1) (bI Z eC) (bX Z (bX Z gR)) ?_ ?_
  ·exact ⟨by omega,M3⟩
  ·omega
 ·refine cM (cZ (dF (eL (aC (aE (aA (wq (aJ (.bool true) Z) Z (aB (aC (aR (cF (.bool true) Z ?_)))))))))))
  exact ⟨Z,hM1.below⟩
theorem aAe (w:World) (F:Rd w 2 (some ⟨0,0,none⟩) 1 [[.int .u32 73856093,.int .u32 19349663]]) (N:Rd w 4 (some ⟨3,0,none⟩) 1 [dY gZ]) :
  Calls prog 40 #[] w (Rb w (.bool true)):=by
 refine aI #[.tmp 0] 116 func40 Z results40 ntmps40 Z ?_
 have M0:=Mem.refl w
 refine aE (aA (wq (aJ (.bool false) Z) Z (aB (aC (aE (aA (wq (cI [(0,.int _ _),(1,.int _ _),(3,.int _ _)] _ wN Z Z) Z (wq (cI [(0,.int _ _),(1,.agg (List.toArray _))] _ aCa Z Z) Z (aL 17 (.agg (OpRow.cells (opA tC)).toArray) Z (wq (cI [(0,.int _ _)] _ aCa Z Z) Z (aL 18 (.agg (OpRow.cells (opZ 4)).toArray) Z (wq (cI [(0,.int _ _)] _ aCa Z Z) Z (aL 19 (.agg (OpRow.cells (opZ 4)).toArray) Z (bV [.agg (List.toArray _),.agg (List.toArray _),.agg (List.toArray _)] (nK.map OpRow.cells) Z kU M0 Z Z Z Z (cO Z) (by decide) (fun b1 w1 M1 => ?_)))))))))))))))
 have hlit20:=lV (T:=46) (sz:=15) (b:=b1) (nn:=3) (nK.map OpRow.cells) (bNk _) rfl (by decide)
 refine eI Z Z (aB (aC (aE (aA (dJ Z Z (eJ aDu Z Z (jL _ _ 3 3 nK ⟨(hlit20.rd M1 (aN (i:=0) Z)),aIi _⟩ (fun x hx=>by rw [aZh x hx];decide) (by decide)) ?_))))))
 rintro v2 w2 ⟨qf,pf,rfl,hqf,hpf,hM2⟩
 have M2:Mem _ _ ([_,_]++_) _:=M1.call0 hM2
 have hplpf:pf.length=(opsO (nK)).length:=by rw [hpf.len,List.length_map]
 have hnqf:((kN (opsO (nK)) pf).map OpRow.cells).length=qf.n:=hqf.1
 rw [List.length_map,mV hplpf,dE] at hnqf
 refine wW aLb Z Z Z ?_
 have hgood:∀ o∈opsO nK,GoodO o:=fun o ho=>by obtain ⟨x,hx,rfl⟩:=List.mem_map.1 ho;exact (aIi w2 x hx).good (by rw [aZh x hx];decide)
 refine (qT _ (F.mem M2) (N.mem M2) qf.A qf.n qf.c (kN (opsO nK) pf) (qO hpf hgood hqf M2 (aN (i:=1) Z) (dC fY)) (aBg hpf hgood) (by rw [← hnqf];decide) 2 2 (by decide)).mono ?_
 rintro _ w3 ⟨v3,rfl,⟨qo,qm,q,ps,ms,rs,rfl,hL,hq,hoR,hM3⟩⟩
 refine ⟨_,Z, ?_⟩
 have M3:Mem _ _ ([_,_,_,_,_]++_) _:=Mem.front (L:=[_,_]) (Mem.call0U (L:=[_,_]) (A:=[_,_,_]) M2 hM3)
 rw [oD hplpf] at hL hq hoR
 have hon:=hL.on
 have hmn:=hL.mn
 have hqn:(iS _ rs).length=q.n:=hq.1
 rw [iT hoR.len,iU] at hqn
 have ho3:qo.n=3:=hon
 have hm1:qm.n=1:=hmn
 have hq3:3=q.n:=hqn
 refine wq (aH (.tuple (List.toArray _)) Z) Z (wq (bJ (.agg (.mk _)) Z Z) Z (wq (bJ (.slice _ _ _) Z Z) Z (aO jX M3 Z Z (fun b4 w4 M4 => ?_))))
 have M5:Mem _ _ ([_,_,_,_,_,_]++_) _:=Mem.front (L:=[_,_,_,_,_]) M4
 refine bC 5 _ eK M5 Z Z Z Z Z (aP Z) Z (fun w6 M6=>(eI Z Z (aB (aC (aE (aA ?_))))))
 have M7:Mem _ _ ([_,_,_,_,_,_]++(pf.map Row.e++(ps.map Row.e++(rs.map Row.e++ms.map Row.e)))) _:=M6
 refine wq (aV 5 eK M7 Z Z Z) Z (dM aDv Z Z M7 (aPh _ (F.mem M7) (N.mem M7) qo.A qo.n qo.c (kN (opsO nK) ps) (hL.opsRd M7 (aN (i:=2) Z) (dC (dC (fQ fY)))) hL.bn (by rw [hon];decide) qm.A qm.n qm.c ms _ (hL.bytRd M7 (aN (i:=3) Z) (dC (dC (dC (dC fY))))) 2 (by decide) (by rw [hmn,hon])) (fun w8 M8 => ?_))
 have hver:vG (opsO (kN (opsO nK) ps)) 2 (fD (opsO nK) 2 ((opsO nK).length / 2))=((((opsO nK).length / 2:Nat):Int),0):=by rw [hL.opsO];exact aMv
 refine wq (aH (.tuple (List.toArray _)) Z) Z (wq (bJ (.int _ _) Z Z) Z (aL 30 (.int .i64 1) (iE (congrArg Prod.fst hver)) (wq (bJ (.int _ _) Z Z) Z (aL 31 (.int .i64 0) (iE (congrArg Prod.snd hver)) (bL Z Z (bL Z Z (aB (aC (aE (aA (wq (aV 5 eK M8 Z Z Z) Z (eJ aQo Z Z (aPd _ (F.mem M8) (N.mem M8) qo.A qo.n qo.c (kN (opsO nK) ps) (hL.opsRd M8 (aN (i:=2) Z) (dC (dC (fQ fY)))) hL.ops.slice hL.bn (by omega) qm.A qm.n qm.c ms _ (hL.bytRd M8 (aN (i:=3) Z) (dC (dC (dC (dC fY))))) (sE hL.okO) 2 (by decide) (by rw [hmn,hon];exact Nat.le_refl _) 3 (by rw [hon];decide)) ?_))))))))))))
 rintro v9 w9 ⟨wb,r,rfl,hr,hM9⟩
 have M9:Mem _ _ ([_,_,_,_,_,_,_,_,_]++_) _:=Mem.front (L:=[_,_,_,_,_,_]) (M8.call0 hM9)
 rw [hL.opsO,zT hL.okO (by decide) (by decide),List.take_of_length_le (by decide),bWf] at hr
 refine wq (aH (.tuple (List.toArray _)) Z) Z (wq (bJ (.pointer _) Z Z) Z (wq (bJ (.int _ _) Z Z) Z (wq (aJ (.pointer _) Z) Z (bL Z Z (aB (aC (aE (aA (wq (aV 5 eK M9 Z Z Z) Z (dM aQo Z Z M9 (aTf _ (F.mem M9) (N.mem M9) qo.A qo.n qo.c (kN (opsO nK) ps) (hL.opsRd M9 (aN (i:=2) Z) (dC (dC (fQ fY)))) hL.ops.slice hL.bn (by rw [hon];decide) qm.A qm.n qm.c ms _ (hL.bytRd M9 (aN (i:=3) Z) (dC (dC (dC (dC fY))))) 2 4 (.inr (by rw [hon];decide))) (fun w10 M10=>(wq (aH (.tuple (List.toArray _)) Z) Z ?_))))))))))))
 refine wq (bJ (.pointer _) Z Z) Z (wq (bJ (.int _ _) Z Z) Z (wq (aJ (.pointer _) Z) Z (bL Z Z (aB (aC (aE (aA (wq (aV 5 eK M10 Z Z Z) Z (wq (cI [(0,.int _ _)] _ aJd Z Z) Z (aL 44 (.agg (dW (opZ 9).o none 0 0).toArray) Z (eJ aGn Z Z (pA _ (F.mem M10) (N.mem M10) qo.A qo.n qo.c (kN (opsO nK) ps) (hL.opsRd M10 (aN (i:=2) Z) (dC (dC (fQ fY)))) hL.ops.slice hL.bn (by rw [hon];decide) 2 (by decide) qm.A qm.n qm.c ms (by rw [hL.opsO];exact (hL.bytRd M10 (aN (i:=3) Z) (dC (dC (dC (dC fY)))))) (opZ 9).o none 0 0 (aOr _ 9) (by decide)) ?_)))))))))))
 rintro v11 w11 ⟨qo2,qm2,pz,ps2,ms2,rfl,hL2,hpz,hM11⟩
 have M11:Mem _ _ ([_,_,_,_,_,_,_,_,_,_,_,_]++_) _:=Mem.front (L:=[_,_,_,_,_,_,_,_,_]) (Mem.call0U (L:=[_,_,_,_,_,_,_,_,_]) (A:=[_,_,_]) M10 hM11)
 rw [hL.opsO] at hL2
 have ho4:qo2.n=4:=hL2.on
 have hm2:qm2.n=2:=hL2.mn
 refine wq (aH (.tuple (List.toArray _)) Z) Z (wq (bJ (.agg (.mk _)) Z Z) Z (wq (bJ (.agg (.mk _)) Z Z) Z (aL 47 (.agg (cJ { oP with err:=1 } pz).toArray) (congrArg (fun x:List Body × ResI=>Value.agg (cJ x.2 pz).toArray) (kK (by decide))) (aO jX M11 Z Z (fun b12 w12 M12 => ?_)))))
 have M13:Mem _ _ ([_,_,_,_,_,_,_,_,_,_,_,_,_]++_) _:=Mem.front (L:=[_,_,_,_,_,_,_,_,_,_,_,_]) M12
 refine aO jW M13 Z Z (fun b14 w14 M14 => ?_)
 have M15:Mem _ _ ([_,_,_,_,_,_,_,_,_,_,_,_,_,_]++_) _:=Mem.front (L:=[_,_,_,_,_,_,_,_,_,_,_,_,_]) M14
 refine bC 12 _ eK M15 Z Z Z Z Z (aP Z) Z (fun w16 M16=>(bC 13 _ fV M16 Z Z Z Z Z (aP Z) Z (fun w17 M17=>(aB (aC (aE (aA ?_)))))))
 have M18:Mem _ _ ([_,_,_,_,_,_,_,_,_,_,_,_,_,_]++(pf.map Row.e++(ps.map Row.e++(rs.map Row.e++ms.map Row.e))++(ps2.map Row.e++ms2.map Row.e))) _:=M17
 refine wq (cI [] _ wO rfl rfl) rfl (dM aDv rfl rfl M18 (aPg _ (F.mem M18) (N.mem M18) none 0 0 [] (OpsRd.none _) (by simp) (by decide) none 0 0 [] [] (BytRd.none _) 0 (by decide)) (fun w19 M19=>(wq (aH (.tuple (List.toArray _)) rfl) rfl (wq (bJ (.int _ _) rfl rfl) rfl (wq (bJ (.int _ _) rfl rfl) rfl (bL rfl rfl (bL rfl rfl (aB (aC (aE (aE (aA (wq (aH (.pointer _) rfl) rfl (wq (gT false underlying25 rfl rfl) rfl (wq (aH (.bool false) rfl) rfl (dJ rfl rfl (wq (bW underlying63 rfl) rfl (cV rfl rfl rfl rfl (nP 58 rfl (by omega) ?_)))))))))))))))))))
 refine wq (bM false (.bool false) Z Z) Z (aB (aC (cB Z (aM (aC (aE (aA (wq (aH (.pointer _) Z) Z (eJ bPn Z Z (aMy _ _ r _ hr (M19.ownSeg 6 3) 1) ?_)))))))))
 rintro v20 w20 ⟨rfl,hM20⟩
 have M20:Mem _ _ ([_,_,_,_,_,_,_,_,_,_,_,_,_,_]++_) _:=Mem.segE (L:=[_,_,_,_,_,_,_,_,_,_,_,_,_,_]) 6 3 M19 (Nat.le_of_ble_eq_true rfl) hM20
 refine wq (aH (.tuple (List.toArray _)) Z) Z (wq (bJ (.agg (.mk _)) Z Z) Z (aL 63 ((.agg (aF tC2).toArray)) (congrArg (fun x:ResI=>Value.agg (aF x.body).toArray) bPd) (wq (bJ (.int _ _) Z Z) Z (aL 64 (.int .i64 0) (iE (by rw [bPd];rfl)) (aO gL M20 Z Z (fun b21 w21 M21 => ?_))))))
 have M22:Mem _ _ ([_,_,_,_,_,_,_,_,_,_,_,_,_,_,_]++_) _:=Mem.front (L:=[_,_,_,_,_,_,_,_,_,_,_,_,_,_]) M21
 refine bC 14 _ bR M22 Z Z Z Z Z (aP Z) Z (fun w23 M23=>(bL Z Z (aB (aC (aE (aA ?_))))))
 have M24:Mem _ _ ([_,_,_,_,_,_,_,_,_,_,_,_,_,_,_]++(pf.map Row.e++(ps.map Row.e++(rs.map Row.e++ms.map Row.e))++(ps2.map Row.e++ms2.map Row.e))) _:=M23
 refine wq (aD 2 gB Z) Z (wq (aK 5 (.slice _ _ _) eV M24 Z Z Z) Z (wq (bW underlying73 Z) Z (cV Z Z Z Z (jU 68 Z (by omega) (wq (aH (.bool true) Z) Z (aT Z Z (cV Z Z Z Z (jU 71 Z (by first | decide | omega) (wq (bM true (.bool true) Z Z) Z (wq (aH (.bool true) Z) Z (aT Z Z (cV Z Z Z Z (jU 75 Z (by first | decide | omega) (wq (bM true (.bool true) Z Z) Z (wq (aH (.bool true) Z) Z ?_)))))))))))))))
 refine aT Z Z (cV Z Z Z Z (jU 79 Z (by first | decide | omega) (wq (bM true (.bool true) Z Z) Z (wq (aH (.bool true) Z) Z (aT Z Z (cV Z Z Z Z (jU 83 Z (by first | decide | omega) (wq (bM true (.bool true) Z Z) Z (wq (aH (.bool true) Z) Z (wq (aD 0 gA Z) Z (wq (aK 12 (.slice _ _ _) iW M24 Z Z Z) Z (wq (bW underlying27 Z) Z (cV Z Z Z Z (jU 89 Z (by omega) (wq (bM true (.bool true) Z Z) Z ?_)))))))))))))))
 refine wq (aH (.bool true) Z) Z (wq (aD 2 gB Z) Z (wq (aK 12 (.slice _ _ _) eV M24 Z Z Z) Z (wq (bW underlying73 Z) Z (cV Z Z Z Z (jU 95 Z (by omega) (wq (bM true (.bool true) Z Z) Z (wq (aH (.bool true) Z) Z (wq (aD 0 aYq Z) Z (wq (aK 13 (.int _ _) aEi M24 Z Z Z) Z (cV Z Z Z Z (jU 100 Z (by first | decide | omega) (wq (bM true (.bool true) Z Z) Z (wq (aH (.bool true) Z) Z (aT Z Z (cV Z Z Z Z ?_)))))))))))))))
 refine jU 104 Z (by first | decide | omega) (wq (bM true (.bool true) Z Z) Z (wq (aH (.bool true) Z) Z (wq (aD 6 fZ Z) Z (wq (sJ 14 _ bP M24 Z Z Z Z) Z (wq (cI [(1,.int _ _)] _ fK Z Z) Z (wq (bXz (bPz _ _ _ _) Z Z) Z (jU 110 Z (by decide) (wq (bM true (.bool true) Z Z) Z (wq (aH (.bool true) Z) Z (aT Z Z (cV Z Z Z Z (jU 114 Z (by first | decide | omega) (wq (bM true (.bool true) Z Z) Z (wq (aJ (.bool true) Z) Z (aB (aC (aR ?_)))))))))))))))))
 refine cF (.bool true) Z ?_
 exact ⟨Z,(Mem.noT M24).below⟩
end Go.Proofs.YtaoaknafiegfoaaGreatDoor
