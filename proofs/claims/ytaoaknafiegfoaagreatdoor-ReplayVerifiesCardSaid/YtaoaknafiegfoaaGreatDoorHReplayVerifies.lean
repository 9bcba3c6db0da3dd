import Derived.Test.YtaoaknafiegfoaaGreatDoorK37
import Derived.Test.YtaoaknafiegfoaaGreatDoorK38
import Derived.Test.YtaoaknafiegfoaaGreatDoorTie
import Derived.Test.YtaoaknafiegfoaaGreatDoorCards
import Derived.OpenShut
import Derived.ShutString
import Derived.Below
set_option linter.unusedVariables false
set_option linter.unusedSimpArgs false
set_option linter.unnecessarySimpa false
set_option maxHeartbeats 100000000
namespace Go.Proofs.YtaoaknafiegfoaaGreatDoor
open Go.Bil
open Go.RowKit (Below)
open Go.Proofs
theorem zL (w:World) (F:Rd w 2 (some ⟨0,0,none⟩) 1 [[.int .u32 73856093,.int .u32 19349663]]) (N:Rd w 4 (some ⟨3,0,none⟩) 1 [dY gZ]) (A:Option Addr) (n c:Nat) (l:List OpRow) (hl:OpsRd w A n l) (hcap:n≤c) (f:Nat) (hf:f≤255) (u:Nat) (hu:u≤255) (v1:Nat) (hv1:v1≤65535) :
  Calls Tryz.prog 11 #[.slice A n c,.int .u8 (f:Int),.int .u8 (u:Int),.int .u16 (v1:Int)] w (Rb w (.bool true)):=by
 have hlen:l.length=n:=by simpa using hl.rd.len
 have hbd:=hl.rd.bound
 refine aI #[.tmp 8] 156 Tryz.func11 Z Tryz.results11 Tryz.ntmps11 Z ?_
 have M0:=Mem.refl w
 refine aE (aA (wq (aJ (.bool false) Z) Z (aB (aC (aE (aE (aA (dM rV Z Z M0 (aAe _ (F.mem M0) (N.mem M0)) (fun w1 M1=>(wq (fB false Z Z) Z (wq (aH (.bool false) Z) Z (dJ Z Z (eJ aLa Z Z (qS _ A n c l (hl.mem M1)) ?_)))))))))))))
 rintro v2 w2 ⟨⟨g,rfl,hg⟩,hb2⟩
 have M2:=M1.callB hb2
 refine wq (fB _ Z Z) Z (wq (bM false (.bool _) Z Z) Z (aB (aC ?_)))
 refine iN _ Z (fun h31 => ?_) (fun h31 => ?_)
 ·refine aE (aA (dM rV Z Z M2 (aAe _ (F.mem M2) (N.mem M2)) (fun w3 M3=>(wq (aJ (.bool true) Z) Z (aB (aC (aR (cK (cF (.bool true) Z ?_)))))))))
  exact ⟨Z,M3.below⟩
 ·obtain ⟨hn16,hby⟩:=hg (by simpa using h31)
  have hby2:∀ x∈l,x.n≤1000000:=fun x hx=>Nat.le_trans (hby x hx) (by decide)
  have hn2:n≤1000000:=by omega
  have hgood:=hl.good hby2
  have hok:=hl.okO hby2
  obtain ⟨kk,hkk⟩:∃ kk:Nat,kk=f % 5:=⟨_,rfl⟩
  have hkl:kk < 5:=by rw [hkk];exact Nat.mod_lt _ (by decide)
  obtain ⟨k,hk⟩:∃ k:Nat,k=1+kk:=⟨_,rfl⟩
  have hkp:0 < k:=by omega
  refine aM (aC (aE (aA (dJ Z Z (eJ aDu Z Z (jL _ A n c l (hl.mem M2) hby2 hn2) ?_)))))
  rintro v4 w4 ⟨qf,pf,rfl,hqf,hpf,hM4⟩
  have M4:Mem _ _ ([_]++_) _:=M2.call0 hM4
  have hplpf:pf.length=(opsO (l)).length:=by rw [hpf.len,List.length_map]
  have hnqf:((kN (opsO (l)) pf).map OpRow.cells).length=qf.n:=hqf.1
  rw [List.length_map,mV hplpf,dE] at hnqf
  refine aT Z Z (wq (iL Z Z (by decide)) Z (aL 37 (.int .u8 (kk:Int)) (iE (pU Z hkk)) (wq (bK us5 Tryz.underlying3 Z (fU _ (by omega) (by omega))) Z (wq (bE Z Z (by omega) (by omega)) Z (aL 39 (.int .i64 (k:Int)) (iE (by omega)) (eJ aLb Z Z (qT _ (F.mem M4) (N.mem M4) qf.A qf.n qf.c (kN (opsO l) pf) (qO hpf hgood hqf M4 (aN (i:=0) Z) (dC fY)) (aBg hpf hgood) (by omega) (k:Int) k (by omega)) ?_))))))
  rintro v5 w5 ⟨qo,qm,q,ps,ms,rs,rfl,hL,hq,hoR,hM5⟩
  have M5:Mem _ _ ([_,_,_,_]++_) _:=Mem.front (L:=[_]) (Mem.call0U (L:=[_]) (A:=[_,_,_]) M4 hM5)
  rw [oD hplpf] at hL hq hoR
  have hon:=hL.on
  have hmn:=hL.mn
  have hqn:(iS _ rs).length=q.n:=hq.1
  rw [iT hoR.len,iU] at hqn
  rw [dE] at hon hqn hmn
  refine wq (aH (.tuple (List.toArray _)) Z) Z (wq (bJ (.agg (.mk _)) Z Z) Z (wq (bJ (.slice _ _ _) Z Z) Z (aO jX M5 Z Z (fun b6 w6 M6 => ?_))))
  have M7:Mem _ _ ([_,_,_,_,_]++_) _:=Mem.front (L:=[_,_,_,_]) M6
  refine bC 4 _ eK M7 Z Z Z Z Z (aP Z) Z (fun w8 M8=>(eI Z Z (aB (aC (aE (aA ?_))))))
  have M9:Mem _ _ ([_,_,_,_,_]++(pf.map Row.e++(ps.map Row.e++(rs.map Row.e++ms.map Row.e)))) _:=M8
  refine wq (aV 4 eK M9 Z Z Z) Z (dM aDv Z Z M9 (aPh _ (F.mem M9) (N.mem M9) qo.A qo.n qo.c (kN (opsO l) ps) (hL.opsRd M9 (aN (i:=1) Z) (dC (dC (fQ fY)))) hL.bn (by omega) qm.A qm.n qm.c ms _ (hL.bytRd M9 (aN (i:=2) Z) (dC (dC (dC (dC fY))))) k hkp (by rw [hmn,hon])) (fun w10 M10 => ?_))
  have hver:vG (opsO (kN (opsO l) ps)) k (fD (opsO l) k ((opsO l).length / k))=((qm.n:Int),0):=by rw [hL.opsO,aMv,hL.mn]
  have hqb:qm.n≤l.length:=by rw [hmn];exact Nat.div_le_self _ _
  refine wq (aH (.tuple (List.toArray _)) Z) Z (wq (bJ (.int _ _) Z Z) Z (aL 46 (.int .i64 (qm.n:Int)) (iE (congrArg Prod.fst hver)) (wq (bJ (.int _ _) Z Z) Z (aL 47 (.int .i64 0) (iE (congrArg Prod.snd hver)) (bL Z Z (bL Z Z (aB (aC (aE (aE (aA (aT Z Z (cV Z Z Z Z (nP 49 Z (by first | decide | omega) (wq (aH (.bool false) Z) Z (aT Z Z (wq (aD 2 gB Z) Z (wq (aK 4 (.slice _ _ _) eV M10 Z Z Z) Z (wq (bW Tryz.underlying73 Z) Z ?_)))))))))))))))))))
  refine cV Z Z Z Z (nP 55 Z (fun h=>h Z) (wq (bM false (.bool false) Z Z) Z (aB (aC (cB Z (aM (aC (aE (aA (wq (aV 4 eK M10 Z Z Z) Z (aO jX M10 Z Z (fun b11 w11 M11 => ?_))))))))))))
  have M12:Mem _ _ ([_,_,_,_,_,_]++_) _:=Mem.front (L:=[_,_,_,_,_]) M11
  refine bC 5 _ eK M12 Z Z Z Z Z (aP Z) Z (fun w13 M13=>(aB (aC (aE (aA ?_)))))
  have M14:Mem _ _ ([_,_,_,_,_,_]++(pf.map Row.e++(ps.map Row.e++(rs.map Row.e++ms.map Row.e)))) _:=M13
  refine bV [] [] Z nT M14 Z Z Z Z (cO Z) (by decide) (fun b15 w15 M15 => ?_)
  have M16:Mem _ _ ([_,_,_,_,_,_,_]++_) _:=Mem.front (L:=[_,_,_,_,_,_]) M15
  refine wq (aD 2 gB Z) Z (wq (aK 4 (.slice _ _ _) eV M16 Z Z Z) Z (gK 6 (ms.map kX) nT M16 Z Z Z Z Z (bA.empty b15) (hL.mks.rd M16 (aN (i:=2) Z)) (bMo ms) (by omega) (fun A17 c17 e17 w17 M17 hR17 hA17=>(bV [.slice _ _ _] [kX eN] Z nT M17 Z Z Z Z (cO Z) (by decide) (fun b18 w18 M18 => ?_)))))
  have M19:Mem _ _ ([_,_,_,_,_,_,_,_]++_) _:=Mem.front (L:=[_,_,_,_,_,_,_]) M18
  refine cP 6 [kX eN] nT M19 rfl rfl rfl rfl rfl hR17 rfl (by simp [kX,eN,Go.Bil.one]) (dN.ofMem 7 M19 rfl) (by omega) (fun A20 c20 e20 w20 M20 hR20=>(wq (aD 2 gB rfl) rfl (dA 5 (.slice _ _ _) eV M20 rfl rfl rfl rfl rfl rfl (fun w21 M21=>(aB (aC (aE (aA ?_))))))))
  have M22:Mem _ _ ([_,_,_,_,_,_,_,_]++(pf.map Row.e++(ps.map Row.e++(rs.map Row.e++ms.map Row.e)))) _:=M21
  refine wq (aV 5 eK M22 Z Z Z) Z (dM aDv Z Z M22 (bAb _ (F.mem M22) (N.mem M22) qo.A qo.n qo.c (kN (opsO l) ps) (hL.opsRd M22 (aN (i:=1) Z) (dC (dC (fQ fY)))) hL.bn (by omega) A20 (0+qm.n+1) c20 (ms++[eN]) ((fD (opsO l) k ((opsO l).length / k))++[[]]) ((hL.bytRd M22 (aN (i:=2) Z) (dC (dC (dC (dC fY))))).snocNil (by have h:=(hR20.rd M22 (aN (i:=6) Z));rw [List.nil_append] at h;rw [List.map_append];exact h)) k hkp (by rw [hmn,hon];omega)) (fun w23 M23=>(wq (aH (.tuple (List.toArray _)) Z) Z (wq (bJ (.int _ _) Z Z) Z ?_))))
  refine wq (bJ (.int _ _) Z Z) Z (bL Z Z (bL Z Z (aB (aC (aE (aA (wq (aV 4 eK M23 Z Z Z) Z (aO jX M23 Z Z (fun b24 w24 M24 => ?_)))))))))
  have M25:Mem _ _ ([_,_,_,_,_,_,_,_,_]++_) _:=Mem.front (L:=[_,_,_,_,_,_,_,_]) M24
  refine bC 8 _ eK M25 Z Z Z Z Z (aP Z) Z (fun w26 M26=>(aB (aC (aE (aA (wq (aD 1 lN Z) Z (dA 8 (.int _ _) fE M26 Z Z Z Z Z Z (fun w27 M27=>(aB (aC (aE (aA ?_))))))))))))
  have M28:Mem _ _ ([_,_,_,_,_,_,_,_,_]++(pf.map Row.e++(ps.map Row.e++(rs.map Row.e++ms.map Row.e)))) _:=M27
  refine wq (aV 8 eK M28 Z Z Z) Z (dM aDv Z Z M28 (aPg _ (F.mem M28) (N.mem M28) qo.A qo.n qo.c (kN (opsO l) ps) (hL.opsRd M28 (aN (i:=1) Z) (dC (dC (fQ fY)))) hL.bn (by omega) qm.A qm.n qm.c ms _ (hL.bytRd M28 (aN (i:=2) Z) (dC (dC (dC (dC fY))))) 0 (by decide)) (fun w29 M29=>(wq (aH (.tuple (List.toArray _)) Z) Z (wq (bJ (.int _ _) Z Z) Z (wq (bJ (.int _ _) Z Z) Z (bL Z Z (bL Z Z (aB (aC (aE (aE (aA (aT Z Z (cV Z Z Z Z (nP 78 Z (by first | decide | omega) (wq (aH (.bool false) Z) Z ?_))))))))))))))))
  refine aT Z Z (cV Z Z Z Z (nP 81 Z (by first | decide | omega) (wq (bM false (.bool false) Z Z) Z (wq (aH (.bool false) Z) Z (wq (aD 2 gB Z) Z (wq (aK 4 (.slice _ _ _) eV M29 Z Z Z) Z (wq (bW Tryz.underlying73 Z) Z (cV Z Z Z Z (wq (bM false (.bool (decide _)) Z Z) Z (aB (aC ?_)))))))))))
  refine aW Z (fun h88 => ?_) (fun h88 => ?_)
  ·refine aE (aA (aT Z Z (cV Z Z Z Z (jU 90 Z (by first | decide | omega) (wq (aH (.bool true) Z) Z (aT Z Z (cV Z Z Z Z (jU 93 Z (by first | decide | omega) (wq (bM true (.bool true) Z Z) Z (wq (aJ (.bool true) Z) Z (aB (aC (aR (cK (cF (.bool true) Z ?_)))))))))))))))
   exact ⟨Z,M29.below⟩
  ·have hq0:0 < qm.n:=by omega
   obtain ⟨ii,hii⟩:∃ ii:Nat,ii=u % qm.n:=⟨_,rfl⟩
   have hil:ii < qm.n:=by rw [hii];exact Nat.mod_lt _ hq0
   obtain ⟨pj,hpj,hrj⟩:=hL.mby.at (mR (opsO l) k (n:=(opsO l).length / k) (i:=ii) (by rw [dE,← hmn];omega))
   have hpjn:pj.n=(iJ (opsO l) k ii).length:=by have h:=hrj.1;rw [List.length_map] at h;exact h.symm
   have hml8:=aLt (opsO l) k ii
   refine aM (aC (aE (aA (aT Z Z (wq (bK us5 Tryz.underlying3 Z (fU _ (by omega) (by omega))) Z (wq (aD 2 gB Z) Z (wq (aK 4 (.slice _ _ _) eV M29 Z Z Z) Z (wq (bW Tryz.underlying73 Z) Z (wq (iL Z Z (by omega)) Z (aL 100 (.int .i64 (ii:Int)) (iE (pU Z hii)) (bL Z Z (aB (aC (aE (aE (aA (wq (aD 2 gB Z) Z (wq (aK 4 (.slice _ _ _) eV M29 Z Z Z) Z (aT Z Z (wq (bG (ii) nT Z Z Z ((hL.mks.rd M29 (aN (i:=2) Z)).below_len (aG kX hpj)) ((hL.mks.rd M29 (aN (i:=2) Z)).someK (aG kX hpj))) Z ?_))))))))))))))))))))
   refine wq (fG (.slice _ _ _) iR (hL.mks.rd M29 (aN (i:=2) Z)) (aG kX hpj) Z) Z (wq (bW Tryz.underlying31 Z) Z (cV Z Z Z Z (nP 107 Z (by omega) (aB (aC (cB Z (aM (aC (aE (aA (eI Z Z ?_)))))))))))
   have M30:=Mem.dummyL (L:=[_,_,_,_,_,_,_,_,_]) M29 default
   refine aB (aC (aE (aE (aA (bL rfl rfl (aB (aC (aS (dK (σ:=Nat × Row × List Row) [3,8,9,19] (fun (i,qc,cs)=>[(20,.slice qc.A qc.n qc.c),(21,.int .i64 (i:Int))]) (fun (i,qc,cs) w'=>(i≤qm.n∧bA 31 1 qc.A qc.n qc.c ((cs).map kX) qc.e∧BytR 5 cs ((fD (opsO l) k ((opsO l).length / k)).take i))∧Mem w [] ([qf.e,qo.e,qm.e,q.e,(some b6,bc [.slice qo.A qo.n qo.c,.int .i64 (k:Int),.slice qm.A qm.n qm.c] 75),qc.e]++((pf.map Row.e++(ps.map Row.e++(rs.map Row.e++ms.map Row.e)))++cs.map Row.e)) w') (fun (i,qc,cs)=>qm.n - i) (0,eN,[]) (bI rfl (bI rfl eC)) (⟨⟨by omega,bA.nil _ _ _,BytR.nil _⟩,(show Mem _ _ ([qf.e,qo.e,qm.e,q.e,(some b6,bc [.slice qo.A qo.n qo.c,.int .i64 (k:Int),.slice qm.A qm.n qm.c] 75),_,e20,_,_,eN.e]++(pf.map Row.e++(ps.map Row.e++(rs.map Row.e++ms.map Row.e)))) _ from M30).re (fun p=>by simp only [List.countP_append,List.countP_cons,List.countP_nil,List.map_append,List.map_cons,List.map_nil];omega)⟩) ?_)))))))))
   rintro ⟨i,qc,cs⟩ ρ31 w31 ⟨⟨hi,hqc,hcs⟩,hM31⟩
   have hcn:(cs.map kX).length=qc.n:=hqc.1
   rw [List.length_map,hcs.len,List.length_take,iV,dE,← hmn] at hcn
   refine aE (aE (aA (aT Z Z (wq (aD 2 gB Z) Z (wq (aK 4 (.slice _ _ _) eV hM31 Z Z Z) Z (wq (bW Tryz.underlying73 Z) Z (cV Z Z Z Z (aB (aC ?_)))))))))
   refine aW Z (fun h112 => ?_) (fun h112 => ?_)
   ·obtain ⟨pi,hpi,hri⟩:=hL.mby.at (mR (opsO l) k (n:=(opsO l).length / k) (i:=i) (by rw [dE,← hmn];omega))
    have hpin:pi.n=(iJ (opsO l) k i).length:=by have h:=hri.1;rw [List.length_map] at h;exact h.symm
    have hps:pi.n≤1000000:=by rw [hpin];exact sE hL.okO _ (List.mem_of_getElem? (mR (opsO l) k (n:=(opsO l).length / k) (i:=i) (by rw [dE,← hmn];omega)))
    refine aM (aC (aE (aS (aA (dJ Z Z (bV [] [] Z gI hM31 Z Z Z Z (cO Z) (by decide) (fun b32 w32 M32 => ?_)))))))
    have M33:Mem _ _ ([_,_,_,_,_,_,_]++_) _:=Mem.front (L:=[_,_,_,_,_,_]) M32
    refine wq (aD 2 gB Z) Z (wq (aK 4 (.slice _ _ _) eV M33 Z Z Z) Z (aT Z Z (wq (bG (i) nT Z Z Z ((hL.mks.rd M33 (aN (i:=2) Z)).below_len (aG kX hpi)) ((hL.mks.rd M33 (aN (i:=2) Z)).someK (aG kX hpi))) Z (wq (fG (.slice _ _ _) iR (hL.mks.rd M33 (aN (i:=2) Z)) (aG kX hpi) Z) Z (gK 6 ((iJ (opsO l) k i).map aZ) gI M33 Z Z Z Z Z (bA.empty b32) (hri.rd M33 ((dC (fQ (dC (dC (dC fY))))) pi (List.mem_of_getElem? hpi))) (zC _) (by omega) (fun A34 c34 e34 w34 M34 hR34 hA34 => ?_))))))
    refine bV [.slice _ _ _] [kX ⟨A34,0+pi.n,c34,e34⟩] Z nT M34 Z Z Z Z (cO Z) (by decide) (fun b35 w35 M35 => ?_)
    have M36:Mem _ _ ([_,_,_,_,_,_,_,_]++_) _:=Mem.front (L:=[_,_,_,_,_,_,_]) M35
    refine cP 5 [kX ⟨A34,0+pi.n,c34,e34⟩] nT M36 rfl rfl rfl rfl rfl hqc rfl (by simp [kX,Go.Bil.one]) (dN.ofMem 7 M36 rfl) (by omega) (fun A37 c37 e37 w37 M37 hR37=>(eI rfl rfl (aB (cS (aC (aA (aT rfl rfl (wq (bE rfl rfl (by omega) (by omega)) rfl (bL rfl rfl (aB ?_))))))))))
    refine bU (i+1,⟨A37,qc.n+1,c37,e37⟩,cs++[⟨A34,0+pi.n,c34,e34⟩]) (bI Z (bI Z eC)) (bX Z (bX Z (bX Z (bX Z gR)))) ?_ ?_
    ·exact ⟨⟨by omega,by rw [List.map_append];exact hR37,by rw [cC (mR (opsO l) k (n:=(opsO l).length / k) (i:=i) (by rw [dE,← hmn];omega))];exact hcs.add (by simpa using hR34)⟩,Mem.pushB (L:=[_,_,_,_,_,_]) ⟨A34,0+pi.n,c34,e34⟩ (Mem.keepL (L:=[_,_,_,_,_,_,_,_]) [true,true,true,true,true,true,true,false] M37)⟩
    ·(show qm.n - (i+1) < qm.n - i;omega)
   ·have hin:i=qm.n:=by omega
    rw [hin,List.take_of_length_le (by rw [iV,dE,← hmn];exact Nat.le_refl _)] at hcs
    have hcn2:qc.n=qm.n:=by omega
    obtain ⟨ci,hci,hcr⟩:=hcs.at (mR (opsO l) k (n:=(opsO l).length / k) (i:=ii) (by rw [dE,← hmn];omega))
    obtain ⟨ca,cb,rfl,hca⟩:=aBx hci
    have hcin:ci.n=(iJ (opsO l) k ii).length:=by have h:=hcr.1;rw [List.length_map] at h;exact h.symm
    obtain ⟨jj,hjj⟩:∃ jj:Nat,jj=v1 % ci.n:=⟨_,rfl⟩
    have hjl:jj < ci.n:=by rw [hjj];exact Nat.mod_lt _ (by omega)
    obtain ⟨y,hy⟩:=cG (xs:=(iJ (opsO l) k ii)) (k:=jj) rfl (by omega)
    have hyb:=aVw (opsO l) k ii y (List.mem_of_getElem? hy)
    clear hcn
    have hcn:=hcn2
    refine cM (cZ (dF (eL (aC (aE (kY [(0,0),(1,0),(2,1),(3,1),(4,0),(5,0),(6,0),(7,0),(8,1),(9,1),(10,0),(11,0),(12,1),(13,1),(14,0),(15,1),(16,2)] mixed Z (by kernel_rfl) (fun w38 hb38 hh38 => ?_)))))))
    have M38:=hM31.drew hb38 hh38
    have M39:Mem _ _ ([qf.e,qo.e,qm.e,q.e,(some b6,bc [.slice qo.A qo.n qo.c,.int .i64 (k:Int),.slice qm.A qm.n qm.c] 75),qc.e,ci.e]++((pf.map Row.e++(ps.map Row.e++(rs.map Row.e++ms.map Row.e)))++(ca.map Row.e++cb.map Row.e))) _:=(show Mem _ _ ([qf.e,qo.e,qm.e,q.e,(some b6,bc [.slice qo.A qo.n qo.c,.int .i64 (k:Int),.slice qm.A qm.n qm.c] 75),qc.e]++((pf.map Row.e++(ps.map Row.e++(rs.map Row.e++ms.map Row.e)))++(ca++ci::cb).map Row.e)) _ from M38).re (fun p=>by simp only [List.countP_append,List.countP_cons,List.countP_nil,List.map_append,List.map_cons,List.map_nil];omega)
    refine kB Z Z Z (eG Z Z Z (bQ Z Z Z (bG (ii) nT Z Z Z ((hqc.rd M39 (aN (i:=5) Z)).below_len (aG kX hci)) ((hqc.rd M39 (aN (i:=5) Z)).someK (aG kX hci))) (bQ Z Z Z (fG (.slice _ _ _) iR (hqc.rd M39 (aN (i:=5) Z)) (aG kX hci) Z) (eG Z Z Z (aX Z Z Z (fun _=>bK bYu Tryz.underlying3 Z (fU _ (by omega) (by omega))) (kB Z Z Z (eG Z Z Z (bQ Z Z Z (bG (ii) nT Z Z Z ((hqc.rd M39 (aN (i:=5) Z)).below_len (aG kX hci)) ((hqc.rd M39 (aN (i:=5) Z)).someK (aG kX hci))) ?_))))))))
    refine bQ Z Z Z (fG (.slice _ _ _) iR (hqc.rd M39 (aN (i:=5) Z)) (aG kX hci) Z) (aX Z Z Z (fun _=>bW Tryz.underlying31 Z) (aX Z Z Z (fun _=>iL Z Z (by omega)) (dX 136 (.int .i64 (jj:Int)) (iE (pU Z hjj)) (bQ Z Z Z (bG (jj) gI Z Z Z ((hcr.rd M39 (aN (i:=6) Z)).below_len (aG aZ hy)) ((hcr.rd M39 (aN (i:=6) Z)).someK (aG aZ hy))) (bQ Z Z Z (fG (.int _ _) vE (hcr.rd M39 (aN (i:=6) Z)) (aG aZ hy) Z) (aX Z Z Z (fun _=>cH (.int _ _) Z Z Z) ?_))))))
    refine dX 139 (.int .u8 ((y+1) % 256)) (iE (wr8 _)) (bQ Z Z Z (bG (jj) gI Z Z Z ((hcr.rd M39 (aN (i:=6) Z)).below_len (aG aZ hy)) ((hcr.rd M39 (aN (i:=6) Z)).someK (aG aZ hy))) (dO [true,true,true,true,true,true,true] Z (by kernel_rfl) (sQ 6 (.int _ _) vE M39 Z hcr (aG aZ hy) Z Z Z Z (fun e40 w40 hR40 M40 => ?_))))
    have hcy:=bA.mapSet (f:=aZ) (x:=(y+1) % 256) hR40 rfl
    refine aB (aC ⟨dI, ?_⟩)
    refine bS (aC (aE (aA (wq (aV 4 eK M40 Z Z Z) Z (aO jX M40 Z Z (fun b41 w41 M41 => ?_))))))
    have M42:Mem _ _ ([_,_,_,_,_,_,_,_]++_) _:=Mem.front (L:=[_,_,_,_,_,_,_]) M41
    refine bC 7 _ eK M42 Z Z Z Z Z (aP Z) Z (fun w43 M43=>(aB (aC (aE (aA (dJ Z Z (wq (aD 2 gB Z) Z (dA 7 (.slice _ _ _) eV M43 Z Z Z Z Z Z (fun w44 M44=>(aB (aC (aE (aA ?_)))))))))))))
    have M45:Mem _ _ ([_,_,_,_,_,_,_,_]++((pf.map Row.e++(ps.map Row.e++(rs.map Row.e++ms.map Row.e)))++(ca.map Row.e++cb.map Row.e))) _:=M44
    refine wq (aV 7 eK M45 Z Z Z) Z (dM aDv Z Z M45 (aPh _ (F.mem M45) (N.mem M45) qo.A qo.n qo.c (kN (opsO l) ps) (hL.opsRd M45 (aN (i:=1) Z) (dC (fQ (dC (fQ fY))))) hL.bn (by omega) qc.A qc.n qc.c (ca++⟨ci.A,ci.n,ci.c,e40⟩::cb) ((fD (opsO l) k ((opsO l).length / k)).set ii ((iJ (opsO l) k ii).set jj ((y+1) % 256))) ((hcs.put hca (r':=⟨ci.A,ci.n,ci.c,e40⟩) hcy).rds (by rw [aYz (r':=⟨ci.A,ci.n,ci.c,e40⟩) (r:=ci) rfl];exact hqc) M45 (aN (i:=5) Z) (bNf (r':=⟨ci.A,ci.n,ci.c,e40⟩) (aN (i:=6) Z)) (aHy hyb)) k hkp (by rw [hcn,hmn,hon])) (fun w46 M46 => ?_))
    have hver2:vG (opsO (kN (opsO l) ps)) k ((fD (opsO l) k ((opsO l).length / k)).set ii ((iJ (opsO l) k ii).set jj ((y+1) % 256)))=((ii:Int),13):=by rw [hL.opsO];exact bCd (by rw [dE,← hmn];omega) hy hyb
    refine wq (aH (.tuple (List.toArray _)) Z) Z (wq (bJ (.int _ _) Z Z) Z (aL 147 (.int .i64 (ii:Int)) (iE (congrArg Prod.fst hver2)) (wq (bJ (.int _ _) Z Z) Z (aL 148 (.int .i64 13) (iE (congrArg Prod.snd hver2)) (bL Z Z (bL Z Z (aB (aC (aE (aA (aT Z Z (aT Z Z (cV Z Z Z Z (jU 151 Z Z (wq (aH (.bool true) Z) Z (aT Z Z (cV Z Z Z Z (jU 154 Z (by first | decide | omega) ?_))))))))))))))))))
    refine wq (bM true (.bool true) Z Z) Z (wq (aJ (.bool true) Z) Z (aB (aC (aR (cF (.bool true) Z ?_)))))
    exact ⟨Z,M46.below⟩
namespace replayVerifies
open Go.ChangeShapes Go.WideShapes Go.ChangeAt Go.RowKit
open Go.ChangeMaps (open_string shut_string)
theorem own : ownKnob Tryz.prog.godebug = none := by kernel_rfl
theorem laidOut : laidOutB Tryz.prog = true := by kernel_rfl
set_option maxRecDepth 100000 in
theorem lifted (os : Os) (started : os.Started) (H : Type) (enc : TypeId × Value → H) :
  ReturnsInHanded {} Tryz.checked os 11 .any (fun w args => (Rows.replayVerifiesSpec.pre enc Tryz.prog Tryz.f11 [] false w args ∧ laidMet Tryz.prog oB w) ∧ sizedMet enc Tryz.prog Tryz.f11 (OpenSpec.ofChange Rows.replayVerifiesSpec) false w args) (Rows.replayVerifiesSpec.post enc Tryz.prog Tryz.f11 false true false false) := by
 refine returnsInHanded_of_change_and (C := Tryz.checked) (X := fun w _ => laidMet Tryz.prog oB w) (fun _ _ _ hh h => h.of_heap hh) own started (by kernel_rfl) Tryz.func11
  (ChangeSpec.witness_at (enc := enc) (C := Tryz.checked) (os := os) (X := fun w _ => laidMet Tryz.prog oB w) false (tU os) #[.slice none 0 0, .int .u8 0, .int .u8 0, .int .u16 0] 8 rfl (by kernel_rfl) (by kernel_rfl) (by kernel_rfl) (by kernel_rfl) (by kernel_rfl) (laidMet_of_run' 8 (by kernel_rfl) (by kernel_rfl))) ?_
 intro W base args ds gs before hval0 hW hcnd hsz0 hL _
 have hsz : (DataW.weightsEach Tryz.prog (Tryz.f11.params.toList ++ Rows.replayVerifiesSpec.plain.varTypes Tryz.prog) (ds ++ gs)).all (· ≤ reachBytes) = true := hsz0
 have hval : ∀ (j : Nat) t v, Tryz.f11.params[j]? = some t → args[j]? = some v → Value.okWide Tryz.prog W .any base t v := hval0
 have hW' := hW
 obtain ⟨p, q, hA0, hV, rfl, hfz, hnd⟩ := hW
 have hA : DataW.TrodAll enc Tryz.prog W 0 (fun _ => true) true Tryz.f11.params.toList args.toList ds p := hA0
 rw [Tryz.params11] at hA hval hsz
 obtain ⟨v0, vs0, d0, ds0, p0, q0, hargs, rfl, rfl, h0, r0⟩ := trodAll_cons hA
 obtain ⟨v1, vs1, d1, ds1, p1, q1, rfl, rfl, rfl, h1, r1⟩ := trodAll_cons r0
 obtain ⟨v2, vs2, d2, ds2, p2, q2, rfl, rfl, rfl, h2, r2⟩ := trodAll_cons r1
 obtain ⟨v3, vs3, d3, ds3, p3, q3, rfl, rfl, rfl, h3, r3⟩ := trodAll_cons r2
 obtain ⟨rfl, rfl, rfl⟩ := trodAll_nil r3
 obtain rfl : args = #[v0, v1, v2, v3] := by cases args; simp_all
 obtain ⟨rfl, rfl⟩ := trodVars_none hV
 have k0 := h0
 have lt0 : ∀ x ∈ p0, x.block < W.heap.size := by obtain ⟨m, hm⟩ := k0; exact DataW.trod_lt m _ _ _ hm
 obtain ⟨a0, len0, cap0, rfl⟩ := okWide_slice Tryz.underlying22 (hval 0 22 v0 rfl rfl)
 have y0 : ∀ n ∈ d0.weights Tryz.prog 22, n ≤ reachBytes := fun n hn => by simpa using List.all_eq_true.1 hsz _ (DataW.weights_mem_each (j := 0) rfl rfl n hn)
 obtain ⟨xs0, R0⟩ := wD kU aSi y0 h0
 have cp0 := aBr kU h0
 obtain ⟨a1, rfl, rfl, rfl, w1⟩ := open_int Tryz.underlying5 (hval 1 5 v1 rfl rfl) h1
 have b1 : 0 ≤ a1 ∧ a1 ≤ 255 := wV w1
 obtain ⟨a2, rfl, rfl, rfl, w2⟩ := open_int Tryz.underlying5 (hval 2 5 v2 rfl rfl) h2
 have b2 : 0 ≤ a2 ∧ a2 ≤ 255 := wV w2
 obtain ⟨a3, rfl, rfl, rfl, w3⟩ := open_int Tryz.underlying87 (hval 3 87 v3 rfl rfl) h3
 have b3 : 0 ≤ a3 ∧ a3 ≤ 65535 := wV w3
 clear hA0 hval0 hsz0 hsz
 obtain ⟨t1, rfl⟩ := Int.eq_ofNat_of_zero_le b1.1
 obtain ⟨t2, rfl⟩ := Int.eq_ofNat_of_zero_le b2.1
 obtain ⟨t3, rfl⟩ := Int.eq_ofNat_of_zero_le b3.1
 refine (zL W (rdF hL) (rdN hL) _ _ _ xs0 R0 cp0 t1 (by omega) t2 (by omega) t3 (by omega)).mono fun e W' ⟨v, he, hv, bel⟩ => ?_
 subst he
 subst hv
 exact ⟨_, rfl, _, _, _, [], _, [], hW', trodAll_mk1 (shut_bool Tryz.underlying4 _), (trodAll_cons_mk (Below.trod laidOut (by kernel_rfl) (of_decide_eq_true (by kernel_rfl)) k0 bel lt0) (trodAll_cons_mk (shut_int Tryz.underlying5 w1) (trodAll_cons_mk (shut_int Tryz.underlying5 w2) (trodAll_cons_mk (shut_int Tryz.underlying87 w3) trodAll_mk0)))), rfl, bel.frame _, fun h => by cases h⟩
theorem andT {a b : Bool} (ha : a = true) (hb : b = true) : (a && b) = true := by rw [ha, hb]; rfl
theorem closed : joinedFacts Tryz.prog 11 Tryz.f11 Rows.replayVerifiesSpec Rows.replayVerifiesRow = true := by
 unfold joinedFacts
 repeat' (with_reducible refine andT ?_ ?_)
 all_goals (as_aux_lemma => kernel_rfl)
theorem over : Rows.replayVerifiesRow.holds Tryz.pinned (OpenSpec.ofChange Rows.replayVerifiesSpec) :=
 OpenClaim.holds_of_wide 11 Tryz.f11 rfl rfl rfl rfl rfl rfl rfl ⟨rfl, rfl, rfl, rfl, rfl⟩ rfl rfl rfl rfl rfl (by kernel_rfl) Tryz.func11 closed
  (of_decide_eq_true (by kernel_rfl)) (by unfold Func.isWrapper; first | (rw [if_pos (by decide +kernel)]; kernel_rfl) | (rw [if_neg (by decide +kernel)]; exact ⟨rfl, rfl⟩))
  (fun os started H enc _ => lifted os started H enc)
end replayVerifies
theorem replayVerifies_holds : Rows.ReplayVerifiesSaid := replayVerifies.over
#print axioms replayVerifies_holds
theorem replayVerifies_cw : Rows.replayVerifiesRow.wfByText (OpenSpec.ofChange Rows.replayVerifiesSpec) = true := by kernel_rfl
theorem replayVerifies_cl : false = Tryz.checked.prog.looks [] := by kernel_rfl
theorem replayVerifies_cg : false = Rows.replayVerifiesRow.goesBy Tryz.pinned.checked.prog := by kernel_rfl
theorem replayVerifies_cm : Tryz.pinned.checked.prog.mainIs = some (true, "60fad30dfb67d9dd14e679b449d58df77fa72712b07425b57b34720f96154737".toList) := by kernel_rfl
theorem replayVerifies_cf : Tryz.prog.funcNamed "billiard/billiardlaw28.ReplayVerifies" = some 11 := by kernel_rfl
theorem replayVerifies_card : Rows.ReplayVerifiesCardSaid :=
 Claim7.holds_tied_plain_at .later [] [.data, .data] true (true, "60fad30dfb67d9dd14e679b449d58df77fa72712b07425b57b34720f96154737") false
  replayVerifies_holds (fun _ h => by cases h) replayVerifies_cw (fun _ h => by cases h) replayVerifies_row_tie rfl ⟨rfl, rfl⟩ replayVerifies_cm rfl
  (fun f fn hf hfn => by
   obtain rfl : f = 11 := Option.some.inj (replayVerifies_cf.symm.trans hf) |>.symm
   obtain rfl : fn = Tryz.f11 := (Option.some.inj (Tryz.func11.symm.trans hfn)).symm
   exact ⟨replayVerifies_cl, fun j t ht => by
    rw [Tryz.params11] at ht
    have hm : t ∈ [22, 5, 5, 87] := by simpa using Array.mem_of_getElem? ht
    have hall : ([22, 5, 5, 87].all fun u => !Tryz.prog.wantsStandIn u) = true := by kernel_rfl
    exact (show Tryz.prog.wantsStandIn t = false by simpa using List.all_eq_true.1 hall t hm)⟩)
  replayVerifies_cg
#print axioms replayVerifies_card
end Go.Proofs.YtaoaknafiegfoaaGreatDoor
