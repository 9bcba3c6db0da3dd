import Derived.Test.YtpcloigancpnbaaGreatDoorK37
import Derived.Test.YtpcloigancpnbaaGreatDoorK38
import Derived.Test.YtpcloigancpnbaaGreatDoorTie
import Derived.Test.YtpcloigancpnbaaGreatDoorCards
import Derived.OpenShut
import Derived.ShutString
import Derived.Below
set_option linter.unusedVariables false
set_option linter.unusedSimpArgs false
set_option linter.unnecessarySimpa false
set_option maxHeartbeats 100000000
namespace Go.Proofs.YtpcloigancpnbaaGreatDoor
open Go.Bil
open Go.RowKit (Below)
open Go.Proofs
theorem aDk (w:World) (F:Rd w 2 (some ⟨0,0,none⟩) 1 [[.int .u32 73856093,.int .u32 19349663]]) (N:Rd w 4 (some ⟨3,0,none⟩) 1 [eC iU]) (A:Option Addr) (n c:Nat) (l:List OpRow) (hl:OpsRd w A n l) (hcap:n≤c) (f:Nat) (hf:f≤255) :
  Calls Tryz.prog 4 #[.slice A n c,.int .u8 (f:Int)] w (Rb w (.bool true)):=by
 have hlen:l.length=n:=by simpa using hl.rd.len
 have hbd:=hl.rd.bound
 refine aI #[.tmp 4] 151 Tryz.func4 Z Tryz.results4 Tryz.ntmps4 Z ?_
 have M0:=Mem.refl w
 refine aE (aA (wq (aJ (.bool false) Z) Z (aB (aC (aE (aE (aA (dN bTx Z Z M0 (bTd _ (F.mem M0) (N.mem M0)) (fun w1 M1=>(wq (gR false Z Z) Z (wq (aH (.bool false) Z) Z (dK Z Z (eP bWg Z Z (bAf _ A n c l (hl.mem M1)) ?_)))))))))))))
 rintro v2 w2 ⟨⟨g,rfl,hg⟩,hb2⟩
 have M2:=M1.callB hb2
 refine wq (gR _ Z Z) Z (wq (bR false (.bool _) Z Z) Z (aB (aC ?_)))
 refine iL _ Z (fun h24 => ?_) (fun h24 => ?_)
 ·refine aE (aA (dN bTx Z Z M2 (bTd _ (F.mem M2) (N.mem M2)) (fun w3 M3=>(wq (aJ (.bool true) Z) Z (aB (aC (aO (cO (cI (.bool true) Z ?_)))))))))
  exact ⟨Z,M3.below⟩
 ·obtain ⟨hn16,hby⟩:=hg (by simpa using h24)
  have hby2:∀ x∈l,x.n≤1000000:=fun x hx=>Nat.le_trans (hby x hx) (by decide)
  have hn2:n≤1000000:=by omega
  have hgood:=hl.good hby2
  have hok:=hl.okO hby2
  obtain ⟨kk,hkk⟩:∃ kk:Nat,kk=f % 5:=⟨_,rfl⟩
  have hkl:kk < 5:=by rw [hkk];exact Nat.mod_lt _ (by decide)
  obtain ⟨k,hk⟩:∃ k:Nat,k=1+kk:=⟨_,rfl⟩
  have hkp:0 < k:=by omega
  refine aM (aC (aE (aA (aQ Z Z (wq (iJ Z Z (by decide)) Z (aL 27 (.int .u8 (kk:Int)) (iE (aAf Z hkk)) (wq (bH us5 Tryz.underlying3 Z (fJ _ (by omega) (by omega))) Z (wq (bC Z Z (by omega) (by omega)) Z (aL 29 (.int .i64 (k:Int)) (iE (by omega)) (bK Z Z (aB (aC (aE (aA (dK Z Z (eP bUx Z Z (wZ _ A n c l (hl.mem M2) hby2 hn2) ?_))))))))))))))))
  rintro v4 w4 ⟨qf,pf,rfl,hqf,hpf,hM4⟩
  have M4:Mem _ _ ([_]++_) _:=M2.call0 hM4
  have hplpf:pf.length=(opsO (l)).length:=by rw [hpf.len,List.length_map]
  have hnqf:((oM (opsO (l)) pf).map OpRow.cells).length=qf.n:=hqf.1
  rw [List.length_map,vW hplpf,fE] at hnqf
  refine eH Z Z (aB (aC (aE (aA (dK Z Z (aQ Z Z (eP bUo Z Z (aKv _ (F.mem M4) (N.mem M4) qf.A qf.n qf.c (oM (opsO l) pf) (aDy hpf hgood hqf M4 (bA (i:=0) Z) (jE sT)) (aWp hpf hgood) (by omega) (k:Int) k (by omega)) ?_)))))))
  rintro v5 w5 ⟨qo,qm,q,ps,ms,rs,rfl,hL,hq,hoR,hM5⟩
  have M5:Mem _ _ ([_,_,_,_]++_) _:=Mem.front (L:=[_]) (Mem.call0U (L:=[_]) (A:=[_,_,_]) M4 hM5)
  rw [zO hplpf] at hL hq hoR
  have hon:=hL.on
  have hmn:=hL.mn
  have hqn:(kV _ rs).length=q.n:=hq.1
  rw [oO hoR.len,oQ] at hqn
  rw [fE] at hon hqn hmn
  refine wq (aH (.tuple (List.toArray _)) Z) Z (wq (bM (.agg (.mk _)) Z Z) Z (wq (bM (.slice _ _ _) Z Z) Z (aR vC M5 Z Z (fun b6 w6 M6 => ?_))))
  have M7:Mem _ _ ([_,_,_,_,_]++_) _:=Mem.front (L:=[_,_,_,_]) M6
  refine bG 4 _ lM M7 Z Z Z Z Z (aS Z) Z (fun w8 M8=>(eH Z Z (aB (aC (aE (aE (aA (bK Z Z (aB (aC (aP (dG (σ:=Nat × List OpI × eL × List Row × List (List Int)) [0,4,5,6,7] (fun (i,os,ex,px,bs)=>[(9,.int .i64 (i:Int))]) (fun (i,os,ex,px,bs) w'=>(i≤n∧os.length=n∧px.length=n∧aZ 45 15 qf.A qf.n qf.c ((oM os px).map OpRow.cells) ex∧BytR 5 px bs)∧Mem w [] ([ex,qo.e,qm.e,q.e,(some b6,bc [.slice qo.A qo.n qo.c,.int .i64 (k:Int),.slice qm.A qm.n qm.c] 28)]++(px.map Row.e++(ps.map Row.e++(rs.map Row.e++ms.map Row.e)))) w') (fun (i,os,ex,px,bs)=>n - i) (0,opsO l,qf.e,pf,(opsO l).map OpI.bytes) (bE Z dZ) (⟨⟨by omega,by rw [fE];exact hlen,by rw [hplpf,fE];exact hlen,hqf,hpf⟩,M8⟩) ?_))))))))))))
  rintro ⟨i,os,ex,px,bs⟩ ρ9 w9 ⟨⟨hi,hos,hpx,hqx,hbx⟩,hM9⟩
  refine aE (aE (aA (aQ Z Z (dK Z Z (wq (cK Tryz.underlying25 Z) Z (cX Z Z Z Z (aB (aC ?_))))))))
  refine aU Z (fun h41 => ?_) (fun h41 => ?_)
  ·obtain ⟨o,ho⟩:=cF (xs:=os) (k:=i) hos (by omega)
   obtain ⟨pi,hpi⟩:=cF (xs:=px) (k:=i) hpx (by omega)
   obtain ⟨bi,hbi⟩:=cF (xs:=bs) (k:=i) (hbx.len.symm.trans hpx) (by omega)
   have hri:=hbx.row i pi bi hpi hbi
   have hxi:=bFo ho hpi
   obtain ⟨pa,pb,rfl,hpa⟩:=aHi hpi
   refine aM (aC (aE (aP (aE (aE (aA ?_))))))
   have M10:Mem _ _ ([ex,qo.e,qm.e,q.e,(some b6,bc [.slice qo.A qo.n qo.c,.int .i64 (k:Int),.slice qm.A qm.n qm.c] 28),pi.e]++((pa.map Row.e++pb.map Row.e)++(ps.map Row.e++(rs.map Row.e++ms.map Row.e)))) _:=(show Mem _ _ ([ex,qo.e,qm.e,q.e,(some b6,bc [.slice qo.A qo.n qo.c,.int .i64 (k:Int),.slice qm.A qm.n qm.c] 28)]++((pa++pi::pb).map Row.e++(ps.map Row.e++(rs.map Row.e++ms.map Row.e)))) _ from hM9).re (fun p=>by simp only [List.countP_append,List.countP_cons,List.countP_nil,List.map_append,List.map_cons,List.map_nil];omega)
   refine bK Z Z (aB (aC (aP (dG (σ:=Nat × List Int × eL) [0,4,5,6,7,9] (fun (j,b,e)=>[(10,.int .i64 (j:Int))]) (fun (j,b,e) w'=>(j≤pi.n∧aZ 5 1 pi.A pi.n pi.c (b.map bB) e)∧Mem w [] ([ex,qo.e,qm.e,q.e,(some b6,bc [.slice qo.A qo.n qo.c,.int .i64 (k:Int),.slice qm.A qm.n qm.c] 28),e]++((pa.map Row.e++pb.map Row.e)++(ps.map Row.e++(rs.map Row.e++ms.map Row.e)))) w') (fun (j,b,e)=>pi.n - j) (0,bi,pi.e) (bE Z dZ) (⟨⟨by omega,hri⟩,M10⟩) ?_))))
   rintro ⟨j,b,e⟩ ρ11 w11 ⟨⟨hj,hb⟩,hM11⟩
   have hbl:b.length=pi.n:=by have h:=hb.1;rwa [List.length_map] at h
   have hpb:=(hb.rd hM11 (bA (i:=5) rfl)).bound
   refine aE (aE (aA (aQ Z Z (dK Z Z (aQ Z Z (wq (bJ (i) pC Z Z Z ((hqx.rd hM11 (bA (i:=0) Z)).below_len (aG OpRow.cells hxi)) ((hqx.rd hM11 (bA (i:=0) Z)).someK (aG OpRow.cells hxi))) Z (wq (aT 14 qR (hqx.rd hM11 (bA (i:=0) Z)) (iR ((hqx.rd hM11 (bA (i:=0) Z)).below_len (aG OpRow.cells hxi))) Z) Z (wq (dM (o:=14) (.slice _ _ _) kC (hqx.rd hM11 (bA (i:=0) Z)) (aG OpRow.cells hxi) Z Z) Z (wq (cK Tryz.underlying34 Z) Z (aL 50 (.int .i64 (pi.n:Int)) Z (cX Z Z Z Z ?_)))))))))))
   refine aB (aC ?_)
   refine aU Z (fun h51 => ?_) (fun h51 => ?_)
   ·obtain ⟨y,hy⟩:=cF (xs:=b) (k:=j) hbl (by omega)
    refine aM (aC (aE (aP (aA (dK Z Z (aQ Z Z (wq (bJ (i) pC Z Z Z ((hqx.rd hM11 (bA (i:=0) Z)).below_len (aG OpRow.cells hxi)) ((hqx.rd hM11 (bA (i:=0) Z)).someK (aG OpRow.cells hxi))) Z (wq (aT 14 qR (hqx.rd hM11 (bA (i:=0) Z)) (iR ((hqx.rd hM11 (bA (i:=0) Z)).below_len (aG OpRow.cells hxi))) Z) Z (wq (dM (o:=14) (.slice _ _ _) kC (hqx.rd hM11 (bA (i:=0) Z)) (aG OpRow.cells hxi) Z Z) Z (aQ Z Z (wq (bJ (j) gC Z Z Z ((hb.rd hM11 (bA (i:=5) Z)).below_len (aG bB hy)) ((hb.rd hM11 (bA (i:=5) Z)).someK (aG bB hy))) Z ?_)))))))))))
    refine wq (fU (.int _ _) wP (hb.rd hM11 (bA (i:=5) Z)) (aG bB hy) Z) Z (wq (cA (.int _ _) Z Z Z) Z (aL 62 (.int .u8 ((y+1) % 256)) (iE (wr8 _)) (wq (bJ (j) gC Z Z Z ((hb.rd hM11 (bA (i:=5) Z)).below_len (aG bB hy)) ((hb.rd hM11 (bA (i:=5) Z)).someK (aG bB hy))) Z (tE 5 (.int _ _) wP hM11 Z hb (aG bB hy) Z Z Z Z (fun e12 w12 hR12 M12 => ?_)))))
    have hcy:=aZ.mapSet (f:=bB) (x:=(y+1) % 256) hR12 rfl
    refine aB (cR (aC (aA (aQ Z Z (wq (bC Z Z (by omega) (by omega)) Z (bK Z Z (aB ?_)))))))
    refine bX (j+1,b.set j ((y+1) % 256),e12) (bE Z dZ) (bZ Z (bZ Z (bZ Z (bZ Z (bZ Z (bZ Z gK)))))) ?_ ?_
    ·exact ⟨⟨by omega,hcy⟩,M12⟩
    ·(show pi.n - (j+1) < pi.n - j;omega)
   ·refine cN (dC (dE (eJ (aC (aA (dK Z Z (aQ Z Z (wq (bJ (i) pC Z Z Z ((hqx.rd hM11 (bA (i:=0) Z)).below_len (aG OpRow.cells hxi)) ((hqx.rd hM11 (bA (i:=0) Z)).someK (aG OpRow.cells hxi))) Z (wq (aT 0 pL (hqx.rd hM11 (bA (i:=0) Z)) (iR ((hqx.rd hM11 (bA (i:=0) Z)).below_len (aG OpRow.cells hxi))) Z) Z (aEf (o:=0) 0 (.int _ _) fT hM11 Z hqx (aG OpRow.cells hxi) Z Z Z Z Z (fun e13 w13 hR13 M13 => ?_)))))))))))
    have hkx:=aZ.mapSet (f:=OpRow.cells) (x:=⟨{ o with kind:=9 },pi.A,pi.n,pi.c⟩) hR13 rfl
    refine aB (cR (aC (aA (aQ Z Z (wq (bC Z Z (by omega) (by omega)) Z (bK Z Z (aB ?_)))))))
    have hsm:(⟨pi.A,pi.n,pi.c,e⟩:Row).A=pi.A∧(⟨pi.A,pi.n,pi.c,e⟩:Row).n=pi.n∧(⟨pi.A,pi.n,pi.c,e⟩:Row).c=pi.c:=⟨rfl,rfl,rfl⟩
    refine bX (i+1,os.set i { o with kind:=9 },e13,pa++⟨pi.A,pi.n,pi.c,e⟩::pb,bs.set i b) (bE Z dZ) (bZ Z (bZ Z (bZ Z (bZ Z (bZ Z gK))))) ?_ ?_
    ·exact ⟨⟨by omega,by rw [List.length_set];exact hos,by rw [aNb (r:=pi)];exact hpx,by rw [← aWq hsm pa os i hpa];exact hkx,hbx.put hpa hb⟩,(show Mem _ _ ([e13,qo.e,qm.e,q.e,(some b6,bc [.slice qo.A qo.n qo.c,.int .i64 (k:Int),.slice qm.A qm.n qm.c] 28),e]++((pa.map Row.e++pb.map Row.e)++(ps.map Row.e++(rs.map Row.e++ms.map Row.e)))) _ from M13).re (fun p=>by simp only [List.countP_append,List.countP_cons,List.countP_nil,List.map_append,List.map_cons,List.map_nil];omega)⟩
    ·(show n - (i+1) < n - i;omega)
  ·refine cN (dC (dE (eJ (aC (aE (aA ?_))))))
   have M14:Mem _ _ ([_,_,_,_,_]++(px.map Row.e++(ps.map Row.e++(rs.map Row.e++ms.map Row.e)))) _:=hM9
   refine wq (aX 4 lM M14 Z Z Z) Z (wq (cB [(0,.int _ _)] _ aHn Z Z) Z (aL 70 (.agg (dR (opZ 4).o none 0 0).toArray) Z (eP bVf Z Z (aKu _ (F.mem M14) (N.mem M14) qo.A qo.n qo.c (oM (opsO l) ps) (hL.opsRd M14 (bA (i:=1) Z) (jE (jE (aBi sT)))) hL.ops.slice hL.bn (by omega) k hkp qm.A qm.n qm.c ms (by rw [hL.opsO];exact (hL.bytRd M14 (bA (i:=2) Z) (jE (jE (jE (jE sT)))))) (opZ 4).o none 0 0 (aMz _ 4) (by decide)) ?_)))
   rintro v15 w15 ⟨qo2,qm2,pz,ps2,ms2,rfl,hL2,hpz,hM15⟩
   have M15:Mem _ _ ([_,_,_,_,_,_,_,_]++_) _:=Mem.front (L:=[_,_,_,_,_]) (Mem.call0U (L:=[_,_,_,_,_]) (A:=[_,_,_]) M14 hM15)
   rw [hL.opsO] at hL2
   have hon2:=hL2.on
   have hmn2:=hL2.mn
   have hL2n:(opsO l++[(opZ 4).o]).length=n+1:=by rw [List.length_append,fE,hlen];rfl
   have hq2b:qm2.n≤(opsO l++[(opZ 4).o]).length:=by rw [hmn2];exact Nat.div_le_self _ _
   refine wq (aH (.tuple (List.toArray _)) Z) Z (wq (bM (.agg (.mk _)) Z Z) Z (wq (bM (.agg (.mk _)) Z Z) Z (aR vC M15 Z Z (fun b16 w16 M16 => ?_))))
   have M17:Mem _ _ ([_,_,_,_,_,_,_,_,_]++_) _:=Mem.front (L:=[_,_,_,_,_,_,_,_]) M16
   refine aR lC M17 Z Z (fun b18 w18 M18 => ?_)
   have M19:Mem _ _ ([_,_,_,_,_,_,_,_,_,_]++_) _:=Mem.front (L:=[_,_,_,_,_,_,_,_,_]) M18
   refine bG 8 _ lM M19 Z Z Z Z Z (aS Z) Z (fun w20 M20=>(bG 9 _ gT M20 Z Z Z Z Z (aS Z) Z (fun w21 M21=>(aB (aC (aE (aE (aA ?_))))))))
   have M22:Mem _ _ ([_,_,_,_,_,_,_,_,_,_]++(px.map Row.e++(ps.map Row.e++(rs.map Row.e++ms.map Row.e))++(ps2.map Row.e++ms2.map Row.e))) _:=M21
   refine bK Z Z (aB (aC (aP (dG (σ:=Nat × List Row × List (List Int)) [0,4,5,7,11] (fun (i,mx,bs2)=>[(13,.int .i64 (i:Int))]) (fun (i,mx,bs2) w'=>(i≤qm2.n∧mx.length=qm2.n∧aZ 34 1 qm2.A qm2.n qm2.c ((mx).map pS) qm2.e∧BytR 5 mx bs2)∧Mem w [] ([ex,qo.e,qm.e,q.e,(some b6,bc [.slice qo.A qo.n qo.c,.int .i64 (k:Int),.slice qm.A qm.n qm.c] 28),pz.e,qo2.e,qm2.e,(some b16,bc [.slice qo2.A qo2.n qo2.c,.int .i64 (k:Int),.slice qm2.A qm2.n qm2.c] 28)]++((px.map Row.e++(ps.map Row.e++(rs.map Row.e++ms.map Row.e)))++(ps2.map Row.e++mx.map Row.e))) w') (fun (i,mx,bs2)=>qm2.n - i) (0,ms2,fM (opsO l++[(opZ 4).o]) k ((opsO l++[(opZ 4).o]).length / k)) (bE Z dZ) (⟨⟨by omega,by rw [hL2.mby.len,mP];exact hmn2.symm,hL2.mks,hL2.mby⟩,Mem.keepL (L:=[_,_,_,_,_,_,_,_,_,_]) [true,true,true,true,true,true,true,true,true,false] M22⟩) ?_))))
   rintro ⟨i,mx,bs2⟩ ρ23 w23 ⟨⟨hi2,hmx,hqm2,hbx2⟩,hM23⟩
   have hmx2:=hmx
   refine aE (aE (aA (aQ Z Z (wq (aD 2 iZ Z) Z (wq (aK 8 (.slice _ _ _) gY hM23 Z Z Z) Z (wq (cK Tryz.underlying26 Z) Z (cX Z Z Z Z (aB (aC ?_)))))))))
   refine aU Z (fun h78 => ?_) (fun h78 => ?_)
   ·obtain ⟨pi,hpi⟩:=cF (xs:=mx) (k:=i) hmx (by omega)
    obtain ⟨bi,hbi⟩:=cF (xs:=bs2) (k:=i) (hbx2.len.symm.trans hmx) (by omega)
    have hri:=hbx2.row i pi bi hpi hbi
    obtain ⟨pa,pb,rfl,hpa⟩:=aHi hpi
    refine aM (aC (aE (aP (aE (aA ?_)))))
    have M24:Mem _ _ ([ex,qo.e,qm.e,q.e,(some b6,bc [.slice qo.A qo.n qo.c,.int .i64 (k:Int),.slice qm.A qm.n qm.c] 28),pz.e,qo2.e,qm2.e,(some b16,bc [.slice qo2.A qo2.n qo2.c,.int .i64 (k:Int),.slice qm2.A qm2.n qm2.c] 28),pi.e]++((px.map Row.e++(ps.map Row.e++(rs.map Row.e++ms.map Row.e)))++(ps2.map Row.e++(pa.map Row.e++pb.map Row.e)))) _:=(show Mem _ _ ([ex,qo.e,qm.e,q.e,(some b6,bc [.slice qo.A qo.n qo.c,.int .i64 (k:Int),.slice qm.A qm.n qm.c] 28),pz.e,qo2.e,qm2.e,(some b16,bc [.slice qo2.A qo2.n qo2.c,.int .i64 (k:Int),.slice qm2.A qm2.n qm2.c] 28)]++((px.map Row.e++(ps.map Row.e++(rs.map Row.e++ms.map Row.e)))++(ps2.map Row.e++(pa++pi::pb).map Row.e))) _ from hM23).re (fun p=>by simp only [List.countP_append,List.countP_cons,List.countP_nil,List.map_append,List.map_cons,List.map_nil];omega)
    refine bK Z Z (aB (aC (aP (dG (σ:=Nat × List Int × eL) [0,4,5,7,11,13] (fun (j,b,e)=>[(14,.int .i64 (j:Int))]) (fun (j,b,e) w'=>(j≤pi.n∧aZ 5 1 pi.A pi.n pi.c (b.map bB) e)∧Mem w [] ([ex,qo.e,qm.e,q.e,(some b6,bc [.slice qo.A qo.n qo.c,.int .i64 (k:Int),.slice qm.A qm.n qm.c] 28),pz.e,qo2.e,qm2.e,(some b16,bc [.slice qo2.A qo2.n qo2.c,.int .i64 (k:Int),.slice qm2.A qm2.n qm2.c] 28),e]++((px.map Row.e++(ps.map Row.e++(rs.map Row.e++ms.map Row.e)))++(ps2.map Row.e++(pa.map Row.e++pb.map Row.e)))) w') (fun (j,b,e)=>pi.n - j) (0,bi,pi.e) (bE Z dZ) (⟨⟨by omega,hri⟩,M24⟩) ?_))))
    rintro ⟨j,b,e⟩ ρ25 w25 ⟨⟨hj,hb⟩,hM25⟩
    have hbl:b.length=pi.n:=by have h:=hb.1;rwa [List.length_map] at h
    have hpb:=(hb.rd hM25 (bA (i:=9) rfl)).bound
    refine aE (aE (aA (aQ Z Z (wq (aD 2 iZ Z) Z (wq (aK 8 (.slice _ _ _) gY hM25 Z Z Z) Z (aQ Z Z (wq (bJ (i) uS Z Z Z ((hqm2.rd hM25 (bA (i:=7) Z)).below_len (aG pS hpi)) ((hqm2.rd hM25 (bA (i:=7) Z)).someK (aG pS hpi))) Z (wq (fU (.slice _ _ _) kC (hqm2.rd hM25 (bA (i:=7) Z)) (aG pS hpi) Z) Z (wq (cK Tryz.underlying34 Z) Z (cX Z Z Z Z (aB (aC ?_))))))))))))
    refine aU Z (fun h88 => ?_) (fun h88 => ?_)
    ·obtain ⟨y,hy⟩:=cF (xs:=b) (k:=j) hbl (by omega)
     refine aM (aC (aE (aP (aA (wq (aD 2 iZ Z) Z (wq (aK 8 (.slice _ _ _) gY hM25 Z Z Z) Z (aQ Z Z (wq (bJ (i) uS Z Z Z ((hqm2.rd hM25 (bA (i:=7) Z)).below_len (aG pS hpi)) ((hqm2.rd hM25 (bA (i:=7) Z)).someK (aG pS hpi))) Z (wq (fU (.slice _ _ _) kC (hqm2.rd hM25 (bA (i:=7) Z)) (aG pS hpi) Z) Z (aQ Z Z (wq (bJ (j) gC Z Z Z ((hb.rd hM25 (bA (i:=9) Z)).below_len (aG bB hy)) ((hb.rd hM25 (bA (i:=9) Z)).someK (aG bB hy))) Z (wq (fU (.int _ _) wP (hb.rd hM25 (bA (i:=9) Z)) (aG bB hy) Z) Z ?_))))))))))))
     refine wq (cA (.int _ _) Z Z Z) Z (aL 99 (.int .u8 ((y+1) % 256)) (iE (wr8 _)) (wq (bJ (j) gC Z Z Z ((hb.rd hM25 (bA (i:=9) Z)).below_len (aG bB hy)) ((hb.rd hM25 (bA (i:=9) Z)).someK (aG bB hy))) Z (tE 9 (.int _ _) wP hM25 Z hb (aG bB hy) Z Z Z Z (fun e26 w26 hR26 M26 => ?_))))
     have hcy:=aZ.mapSet (f:=bB) (x:=(y+1) % 256) hR26 rfl
     refine aB (cR (aC (aA (aQ Z Z (wq (bC Z Z (by omega) (by omega)) Z (bK Z Z (aB ?_)))))))
     refine bX (j+1,b.set j ((y+1) % 256),e26) (bE Z dZ) (bZ Z (bZ Z (bZ Z (bZ Z (bZ Z (bZ Z gK)))))) ?_ ?_
     ·exact ⟨⟨by omega,hcy⟩,M26⟩
     ·(show pi.n - (j+1) < pi.n - j;omega)
    ·refine cN (dC (dE (eJ (cR (aC (aA (aQ Z Z (wq (bC Z Z (by omega) (by omega)) Z ?_))))))))
     have M27:Mem _ _ ([_,_,_,_,_,_,_,_,_,_]++((px.map Row.e++(ps.map Row.e++(rs.map Row.e++ms.map Row.e)))++(ps2.map Row.e++(pa.map Row.e++pb.map Row.e)))) _:=hM25
     refine bK Z Z (aB ?_)
     refine bX (i+1,pa++⟨pi.A,pi.n,pi.c,e⟩::pb,bs2.set i b) (bE Z dZ) (bZ Z (bZ Z (bZ Z (bZ Z (bZ Z gK))))) ?_ ?_
     ·exact ⟨⟨by omega,by rw [aNb (r:=pi)];exact hmx,by rw [bJr (r':=⟨pi.A,pi.n,pi.c,e⟩) (r:=pi) rfl];exact hqm2,hbx2.put hpa hb⟩,(show Mem _ _ ([ex,qo.e,qm.e,q.e,(some b6,bc [.slice qo.A qo.n qo.c,.int .i64 (k:Int),.slice qm.A qm.n qm.c] 28),pz.e,qo2.e,qm2.e,(some b16,bc [.slice qo2.A qo2.n qo2.c,.int .i64 (k:Int),.slice qm2.A qm2.n qm2.c] 28),e]++((px.map Row.e++(ps.map Row.e++(rs.map Row.e++ms.map Row.e)))++(ps2.map Row.e++(pa.map Row.e++pb.map Row.e)))) _ from M27).re (fun p=>by simp only [List.countP_append,List.countP_cons,List.countP_nil,List.map_append,List.map_cons,List.map_nil];omega)⟩
     ·(show qm2.n - (i+1) < qm2.n - i;omega)
   ·refine cN (dC (dE (eJ (aC (aE (aE (aA (bK Z Z (aB (aC (aP (dG (σ:=Nat × List Row × List (List Int)) [0,4,5,7,11] (fun (i,py,bs3)=>[(15,.int .i64 (i:Int))]) (fun (i,py,bs3) w'=>(i≤qo2.n∧py.length=qo2.n∧aZ 45 15 qo2.A qo2.n qo2.c ((oM (opsO l++[(opZ 4).o]) py).map OpRow.cells) qo2.e∧BytR 5 py bs3)∧Mem w [] ([ex,qo.e,qm.e,q.e,(some b6,bc [.slice qo.A qo.n qo.c,.int .i64 (k:Int),.slice qm.A qm.n qm.c] 28),pz.e,qo2.e,qm2.e,(some b16,bc [.slice qo2.A qo2.n qo2.c,.int .i64 (k:Int),.slice qm2.A qm2.n qm2.c] 28)]++((px.map Row.e++(ps.map Row.e++(rs.map Row.e++ms.map Row.e)))++(py.map Row.e++mx.map Row.e))) w') (fun (i,py,bs3)=>qo2.n - i) (0,ps2,(opsO l++[(opZ 4).o]).map OpI.bytes) (bE Z dZ) (⟨⟨by omega,by rw [hL2.plen];exact hon2.symm,hL2.ops,hL2.byt⟩,hM23⟩) ?_))))))))))))
    rintro ⟨i,py,bs3⟩ ρ28 w28 ⟨⟨hi3,hpy,hqo2,hbx3⟩,hM28⟩
    refine aE (aE (aA (aQ Z Z (wq (aD 0 fP Z) Z (wq (aK 8 (.slice _ _ _) iI hM28 Z Z Z) Z (wq (cK Tryz.underlying25 Z) Z (cX Z Z Z Z (aB (aC ?_)))))))))
    refine aU Z (fun h105 => ?_) (fun h105 => ?_)
    ·obtain ⟨o,ho⟩:=cF (xs:=(opsO l++[(opZ 4).o])) (k:=i) hon2.symm (by omega)
     obtain ⟨pi,hpi⟩:=cF (xs:=py) (k:=i) hpy (by omega)
     obtain ⟨bi,hbi⟩:=cF (xs:=bs3) (k:=i) (hbx3.len.symm.trans hpy) (by omega)
     have hri:=hbx3.row i pi bi hpi hbi
     have hxi:=bFo ho hpi
     obtain ⟨pa,pb,rfl,hpa⟩:=aHi hpi
     refine aM (aC (aE (aP (aE (aA ?_)))))
     have M29:Mem _ _ ([ex,qo.e,qm.e,q.e,(some b6,bc [.slice qo.A qo.n qo.c,.int .i64 (k:Int),.slice qm.A qm.n qm.c] 28),pz.e,qo2.e,qm2.e,(some b16,bc [.slice qo2.A qo2.n qo2.c,.int .i64 (k:Int),.slice qm2.A qm2.n qm2.c] 28),pi.e]++((px.map Row.e++(ps.map Row.e++(rs.map Row.e++ms.map Row.e)))++((pa.map Row.e++pb.map Row.e)++mx.map Row.e))) _:=(show Mem _ _ ([ex,qo.e,qm.e,q.e,(some b6,bc [.slice qo.A qo.n qo.c,.int .i64 (k:Int),.slice qm.A qm.n qm.c] 28),pz.e,qo2.e,qm2.e,(some b16,bc [.slice qo2.A qo2.n qo2.c,.int .i64 (k:Int),.slice qm2.A qm2.n qm2.c] 28)]++((px.map Row.e++(ps.map Row.e++(rs.map Row.e++ms.map Row.e)))++((pa++pi::pb).map Row.e++mx.map Row.e))) _ from hM28).re (fun p=>by simp only [List.countP_append,List.countP_cons,List.countP_nil,List.map_append,List.map_cons,List.map_nil];omega)
     refine bK Z Z (aB (aC (aP (dG (σ:=Nat × List Int × eL) [0,4,5,7,11,15] (fun (j,b,e)=>[(16,.int .i64 (j:Int))]) (fun (j,b,e) w'=>(j≤pi.n∧aZ 5 1 pi.A pi.n pi.c (b.map bB) e)∧Mem w [] ([ex,qo.e,qm.e,q.e,(some b6,bc [.slice qo.A qo.n qo.c,.int .i64 (k:Int),.slice qm.A qm.n qm.c] 28),pz.e,qo2.e,qm2.e,(some b16,bc [.slice qo2.A qo2.n qo2.c,.int .i64 (k:Int),.slice qm2.A qm2.n qm2.c] 28),e]++((px.map Row.e++(ps.map Row.e++(rs.map Row.e++ms.map Row.e)))++((pa.map Row.e++pb.map Row.e)++mx.map Row.e))) w') (fun (j,b,e)=>pi.n - j) (0,bi,pi.e) (bE Z dZ) (⟨⟨by omega,hri⟩,M29⟩) ?_))))
     rintro ⟨j,b,e⟩ ρ30 w30 ⟨⟨hj,hb⟩,hM30⟩
     have hbl:b.length=pi.n:=by have h:=hb.1;rwa [List.length_map] at h
     have hpb:=(hb.rd hM30 (bA (i:=9) rfl)).bound
     refine aE (aE (aA (aQ Z Z (wq (aD 0 fP Z) Z (wq (aK 8 (.slice _ _ _) iI hM30 Z Z Z) Z (aQ Z Z (wq (bJ (i) pC Z Z Z ((hqo2.rd hM30 (bA (i:=6) Z)).below_len (aG OpRow.cells hxi)) ((hqo2.rd hM30 (bA (i:=6) Z)).someK (aG OpRow.cells hxi))) Z (wq (aT 14 qR (hqo2.rd hM30 (bA (i:=6) Z)) (iR ((hqo2.rd hM30 (bA (i:=6) Z)).below_len (aG OpRow.cells hxi))) Z) Z (wq (dM (o:=14) (.slice _ _ _) kC (hqo2.rd hM30 (bA (i:=6) Z)) (aG OpRow.cells hxi) Z Z) Z (wq (cK Tryz.underlying34 Z) Z ?_))))))))))
     refine aL 115 (.int .i64 (pi.n:Int)) Z (cX Z Z Z Z (aB (aC ?_)))
     refine aU Z (fun h116 => ?_) (fun h116 => ?_)
     ·obtain ⟨y,hy⟩:=cF (xs:=b) (k:=j) hbl (by omega)
      refine aM (aC (aE (aP (aA (wq (aD 0 fP Z) Z (wq (aK 8 (.slice _ _ _) iI hM30 Z Z Z) Z (aQ Z Z (wq (bJ (i) pC Z Z Z ((hqo2.rd hM30 (bA (i:=6) Z)).below_len (aG OpRow.cells hxi)) ((hqo2.rd hM30 (bA (i:=6) Z)).someK (aG OpRow.cells hxi))) Z (wq (aT 14 qR (hqo2.rd hM30 (bA (i:=6) Z)) (iR ((hqo2.rd hM30 (bA (i:=6) Z)).below_len (aG OpRow.cells hxi))) Z) Z (wq (dM (o:=14) (.slice _ _ _) kC (hqo2.rd hM30 (bA (i:=6) Z)) (aG OpRow.cells hxi) Z Z) Z (aQ Z Z ?_)))))))))))
      refine wq (bJ (j) gC Z Z Z ((hb.rd hM30 (bA (i:=9) Z)).below_len (aG bB hy)) ((hb.rd hM30 (bA (i:=9) Z)).someK (aG bB hy))) Z (wq (fU (.int _ _) wP (hb.rd hM30 (bA (i:=9) Z)) (aG bB hy) Z) Z (wq (cA (.int _ _) Z Z Z) Z (aL 128 (.int .u8 ((y+1) % 256)) (iE (wr8 _)) (wq (bJ (j) gC Z Z Z ((hb.rd hM30 (bA (i:=9) Z)).below_len (aG bB hy)) ((hb.rd hM30 (bA (i:=9) Z)).someK (aG bB hy))) Z (tE 9 (.int _ _) wP hM30 Z hb (aG bB hy) Z Z Z Z (fun e31 w31 hR31 M31 => ?_))))))
      have hcy:=aZ.mapSet (f:=bB) (x:=(y+1) % 256) hR31 rfl
      refine aB (cR (aC (aA (aQ Z Z (wq (bC Z Z (by omega) (by omega)) Z (bK Z Z (aB ?_)))))))
      refine bX (j+1,b.set j ((y+1) % 256),e31) (bE Z dZ) (bZ Z (bZ Z (bZ Z (bZ Z (bZ Z (bZ Z gK)))))) ?_ ?_
      ·exact ⟨⟨by omega,hcy⟩,M31⟩
      ·(show pi.n - (j+1) < pi.n - j;omega)
     ·refine cN (dC (dE (eJ (cR (aC (aA (aQ Z Z (wq (bC Z Z (by omega) (by omega)) Z (bK Z Z (aB ?_))))))))))
      refine bX (i+1,pa++⟨pi.A,pi.n,pi.c,e⟩::pb,bs3.set i b) (bE Z dZ) (bZ Z (bZ Z (bZ Z (bZ Z (bZ Z gK))))) ?_ ?_
      ·exact ⟨⟨by omega,by rw [aNb (r:=pi)];exact hpy,by rw [aQc (r':=⟨pi.A,pi.n,pi.c,e⟩) (r:=pi) ⟨rfl,rfl,rfl⟩];exact hqo2,hbx3.put hpa hb⟩,(show Mem _ _ ([ex,qo.e,qm.e,q.e,(some b6,bc [.slice qo.A qo.n qo.c,.int .i64 (k:Int),.slice qm.A qm.n qm.c] 28),pz.e,qo2.e,qm2.e,(some b16,bc [.slice qo2.A qo2.n qo2.c,.int .i64 (k:Int),.slice qm2.A qm2.n qm2.c] 28),e]++((px.map Row.e++(ps.map Row.e++(rs.map Row.e++ms.map Row.e)))++((pa.map Row.e++pb.map Row.e)++mx.map Row.e))) _ from hM30).re (fun p=>by simp only [List.countP_append,List.countP_cons,List.countP_nil,List.map_append,List.map_cons,List.map_nil];omega)⟩
      ·(show qo2.n - (i+1) < qo2.n - i;omega)
    ·refine cN (dC (dE (eJ (aC (aE (aA (dK Z Z (aQ Z Z (eP bTh Z Z (aNj _ A n c l (hl.mem hM28) hcap hby2 hn2 (k:Int) k (by omega)) ?_)))))))))
     rintro v32 w32 ⟨qm3,ms3,rfl,hqm3,hms3,hM32⟩
     have M32:Mem _ _ ([_,_,_,_,_,_,_,_,_,_]++_) _:=Mem.front (L:=[_,_,_,_,_,_,_,_,_]) (Mem.call0U (L:=[_,_,_,_,_,_,_,_,_]) (A:=[_]) hM28 hM32)
     refine aR aIe M32 Z Z (fun b33 w33 M33 => ?_)
     have M34:Mem _ _ ([_,_,_,_,_,_,_,_,_,_,_]++_) _:=Mem.front (L:=[_,_,_,_,_,_,_,_,_,_]) M33
     refine bG 10 _ tO M34 Z Z Z Z Z (aS Z) Z (fun w35 M35=>(aB (aC (aE (fW [(0,1),(2,1),(1,2),(3,2),(4,0),(5,0),(6,1),(7,0),(8,0),(9,0),(10,0),(11,1),(12,1),(13,1),(14,2),(15,0),(16,0),(17,0),(18,0)] mixed M35 Z (by kernel_rfl) (fun w36 M36 => ?_))))))
     have M37:Mem _ _ ([_,_,_,_,_,_,_,_,_,_,_]++((px.map Row.e++(ps.map Row.e++(rs.map Row.e++ms.map Row.e)))++(py.map Row.e++mx.map Row.e)++ms3.map Row.e)) _:=M36
     refine bP Z Z Z (aX 4 lM M37 Z Z Z) (bP Z Z Z (aX 10 tO M37 Z Z Z) (dI [false,true] Z (by kernel_rfl) (eP bTg Z Z (aZi _ qo.A qo.n qo.c (oM (opsO l) ps) (hL.opsRd M37 (bA (i:=1) Z) (jE (aBi (aBi (jE (aBi sT)))))) (by omega) (k:Int) qm.A qm.n qm.c) ?_)))
     rintro v38 w38 ⟨ql,rfl,hql,hM38⟩
     have M38:Mem _ _ ([_,_,_,_,_,_,_,_,_,_,_,_]++_) _:=Mem.front (L:=[_,_,_,_,_,_,_,_,_,_,_]) (M37.call0 hM38)
     refine aB (aC ⟨(dS (bI Z (aX 10 tO M38 Z Z Z)) dJ), ?_⟩)
     refine dI [true] Z (by kernel_rfl) (dN bTf Z Z M38 (aTw _ ql.A ql.n ql.c (oM (opsO l) ps) ⟨(hql.rd M38 (bA (i:=11) Z)),(hL.opsRd M38 (bA (i:=1) Z) (jE (aBi (aBi (jE (aBi sT)))))).each⟩ qm.A qm.n qm.c ms _ (hL.bytRd M38 (bA (i:=2) Z) (jE (aBi (aBi (jE (jE (jE sT))))))) A n c l (hl.mem M38) hL.opsO qm3.A qm3.n qm3.c ms3 (hms3.rds hqm3 M38 (bA (i:=9) Z) (jE (jE sT)) aGd) (k:Int)) (fun w39 M39 => ?_))
     refine aB (aC ⟨dJ, ?_⟩)
     refine aV Z Z Z (fun _=>aH (.bool true) Z) (aV Z Z Z (fun _=>aD 2 pM Z) (bP Z Z Z (aK 10 (.slice _ _ _) gY M39 Z Z Z) (aV Z Z Z (fun _=>cK Tryz.underlying26 Z) (aV Z Z Z (fun _=>cA (.bool (decide _)) Z Z Z) (aV Z Z Z (fun _=>aH (.bool (decide _)) Z) ?_)))))
     refine tL 142 Z (fun g142 => ?_) (fun g142 => ?_)
     ·refine xI Z Z Z (pZ Z Z Z (pZ Z Z Z (pZ Z Z Z (dI [true,true,true,true] Z (by kernel_rfl) (aN Z Z ?_)))))
      refine aB (aC ⟨dJ, ?_⟩)
      refine xI Z Z Z (aV Z Z Z (fun _=>bR true (.bool true) Z Z) (aV Z Z Z (fun _=>bR true (.bool true) Z Z) (aV Z Z Z (fun _=>aJ (.bool true) Z) (bS (aC (aO (cI (.bool true) Z ?_)))))))
      exact ⟨Z,M39.below⟩
     ·have hqm3n:(ms3.map pS).length=qm3.n:=hqm3.1
      rw [List.length_map,hms3.len,mP] at hqm3n
      obtain ⟨p0,hp0,hr0⟩:=hms3.at (aGc (opsO l) k (n:=(opsO l).length / k) (i:=0) (by omega))
      refine aV Z Z Z (fun _=>aD 2 pM Z) (bP Z Z Z (aK 10 (.slice _ _ _) gY M39 Z Z Z) (bP Z Z Z (bJ (0) uS Z Z Z ((hqm3.rd M39 (bA (i:=9) Z)).below_len (aG pS hp0)) ((hqm3.rd M39 (bA (i:=9) Z)).someK (aG pS hp0))) (bP Z Z Z (fU (.slice _ _ _) kC (hqm3.rd M39 (bA (i:=9) Z)) (aG pS hp0) Z) (dI [true,true,true,true] Z (by kernel_rfl) (dN bCf Z Z M39 (xY _ _ _ _ (oL (opsO l) k 0) (hr0.rd M39 ((jE (jE sT)) p0 (List.mem_of_getElem? hp0))) _ _ _ [] (Rd.nil _ _ _)) (fun w40 M40 => ?_))))))
      refine aB (aC ⟨dJ, ?_⟩)
      refine dV 147 (.bool false) (bF (fun h=>by have:=aZn (opsO l) k 0;rw [h] at this;simp at this)).symm (aV rfl rfl rfl (fun _=>gR true rfl rfl) (aV rfl rfl rfl (fun _=>bR false (.bool true) rfl rfl) (aV rfl rfl rfl (fun _=>bR true (.bool true) rfl rfl) (aV rfl rfl rfl (fun _=>aJ (.bool true) rfl) (bS (aC (aO (cI (.bool true) rfl ?_))))))))
      exact ⟨Z,M40.below⟩
namespace replayKeeps
open Go.ChangeShapes Go.WideShapes Go.ChangeAt Go.RowKit
open Go.ChangeMaps (open_string shut_string)
theorem own : ownKnob Tryz.prog.godebug = none := by kernel_rfl
theorem laidOut : laidOutB Tryz.prog = true := by kernel_rfl
set_option maxRecDepth 100000 in
theorem lifted (os : Os) (started : os.Started) (H : Type) (enc : TypeId × Value → H) :
  ReturnsInHanded {} Tryz.checked os 4 .any (fun w args => (Rows.replayKeepsSpec.pre enc Tryz.prog Tryz.f4 [] false w args ∧ laidMet Tryz.prog aFz w) ∧ sizedMet enc Tryz.prog Tryz.f4 (OpenSpec.ofChange Rows.replayKeepsSpec) false w args) (Rows.replayKeepsSpec.post enc Tryz.prog Tryz.f4 false true false false) := by
 refine returnsInHanded_of_change_and (C := Tryz.checked) (X := fun w _ => laidMet Tryz.prog aFz w) (fun _ _ _ hh h => h.of_heap hh) own started (by kernel_rfl) Tryz.func4
  (ChangeSpec.witness_at (enc := enc) (C := Tryz.checked) (os := os) (X := fun w _ => laidMet Tryz.prog aFz w) false (aZh os) #[.slice none 0 0, .int .u8 0] 8 rfl (by kernel_rfl) (by kernel_rfl) (by kernel_rfl) (by kernel_rfl) (by kernel_rfl) (laidMet_of_run' 8 (by kernel_rfl) (by kernel_rfl))) ?_
 intro W base args ds gs before hval0 hW hcnd hsz0 hL _
 have hsz : (DataW.weightsEach Tryz.prog (Tryz.f4.params.toList ++ Rows.replayKeepsSpec.plain.varTypes Tryz.prog) (ds ++ gs)).all (· ≤ reachBytes) = true := hsz0
 have hval : ∀ (j : Nat) t v, Tryz.f4.params[j]? = some t → args[j]? = some v → Value.okWide Tryz.prog W .any base t v := hval0
 have hW' := hW
 obtain ⟨p, q, hA0, hV, rfl, hfz, hnd⟩ := hW
 have hA : DataW.TrodAll enc Tryz.prog W 0 (fun _ => true) true Tryz.f4.params.toList args.toList ds p := hA0
 rw [Tryz.params4] at hA hval hsz
 obtain ⟨v0, vs0, d0, ds0, p0, q0, hargs, rfl, rfl, h0, r0⟩ := trodAll_cons hA
 obtain ⟨v1, vs1, d1, ds1, p1, q1, rfl, rfl, rfl, h1, r1⟩ := trodAll_cons r0
 obtain ⟨rfl, rfl, rfl⟩ := trodAll_nil r1
 obtain rfl : args = #[v0, v1] := by cases args; simp_all
 obtain ⟨rfl, rfl⟩ := trodVars_none hV
 have k0 := h0
 have lt0 : ∀ x ∈ p0, x.block < W.heap.size := by obtain ⟨m, hm⟩ := k0; exact DataW.trod_lt m _ _ _ hm
 obtain ⟨a0, len0, cap0, rfl⟩ := okWide_slice Tryz.underlying22 (hval 0 22 v0 rfl rfl)
 have y0 : ∀ n ∈ d0.weights Tryz.prog 22, n ≤ reachBytes := fun n hn => by simpa using List.all_eq_true.1 hsz _ (DataW.weights_mem_each (j := 0) rfl rfl n hn)
 obtain ⟨xs0, R0⟩ := bFx lR bVq y0 h0
 have cp0 := bGr lR h0
 obtain ⟨a1, rfl, rfl, rfl, w1⟩ := open_int Tryz.underlying5 (hval 1 5 v1 rfl rfl) h1
 have b1 : 0 ≤ a1 ∧ a1 ≤ 255 := bHu w1
 clear hA0 hval0 hsz0 hsz
 obtain ⟨t1, rfl⟩ := Int.eq_ofNat_of_zero_le b1.1
 refine (aDk W (rdF hL) (rdN hL) _ _ _ xs0 R0 cp0 t1 (by omega)).mono fun e W' ⟨v, he, hv, bel⟩ => ?_
 subst he
 subst hv
 exact ⟨_, rfl, _, _, _, [], _, [], hW', trodAll_mk1 (shut_bool Tryz.underlying4 _), (trodAll_cons_mk (Below.trod laidOut (by kernel_rfl) (of_decide_eq_true (by kernel_rfl)) k0 bel lt0) (trodAll_cons_mk (shut_int Tryz.underlying5 w1) trodAll_mk0)), rfl, bel.frame _, fun h => by cases h⟩
theorem andT {a b : Bool} (ha : a = true) (hb : b = true) : (a && b) = true := by rw [ha, hb]; rfl
theorem closed : joinedFacts Tryz.prog 4 Tryz.f4 Rows.replayKeepsSpec Rows.replayKeepsRow = true := by
 unfold joinedFacts
 repeat' (with_reducible refine andT ?_ ?_)
 all_goals (as_aux_lemma => kernel_rfl)
theorem over : Rows.replayKeepsRow.holds Tryz.pinned (OpenSpec.ofChange Rows.replayKeepsSpec) :=
 OpenClaim.holds_of_wide 4 Tryz.f4 rfl rfl rfl rfl rfl rfl rfl ⟨rfl, rfl, rfl, rfl, rfl⟩ rfl rfl rfl rfl rfl (by kernel_rfl) Tryz.func4 closed
  (of_decide_eq_true (by kernel_rfl)) (by unfold Func.isWrapper; first | (rw [if_pos (by decide +kernel)]; kernel_rfl) | (rw [if_neg (by decide +kernel)]; exact ⟨rfl, rfl⟩))
  (fun os started H enc _ => lifted os started H enc)
end replayKeeps
theorem replayKeeps_holds : Rows.ReplayKeepsSaid := replayKeeps.over
#print axioms replayKeeps_holds
theorem replayKeeps_cw : Rows.replayKeepsRow.wfByText (OpenSpec.ofChange Rows.replayKeepsSpec) = true := by kernel_rfl
theorem replayKeeps_cl : false = Tryz.checked.prog.looks [] := by kernel_rfl
theorem replayKeeps_cg : false = Rows.replayKeepsRow.goesBy Tryz.pinned.checked.prog := by kernel_rfl
theorem replayKeeps_cm : Tryz.pinned.checked.prog.mainIs = some (true, "3c8e685196238db234e0a6f0f14bdfb98e7a99661f76caba36888095bd1556ba".toList) := by kernel_rfl
theorem replayKeeps_cf : Tryz.prog.funcNamed "billiard/billiardlaw28.ReplayKeeps" = some 4 := by kernel_rfl
theorem replayKeeps_card : Rows.ReplayKeepsCardSaid :=
 Claim7.holds_tied_plain_at .later [] [.data, .data] true (true, "3c8e685196238db234e0a6f0f14bdfb98e7a99661f76caba36888095bd1556ba") false
  replayKeeps_holds (fun _ h => by cases h) replayKeeps_cw (fun _ h => by cases h) replayKeeps_row_tie rfl ⟨rfl, rfl⟩ replayKeeps_cm rfl
  (fun f fn hf hfn => by
   obtain rfl : f = 4 := Option.some.inj (replayKeeps_cf.symm.trans hf) |>.symm
   obtain rfl : fn = Tryz.f4 := (Option.some.inj (Tryz.func4.symm.trans hfn)).symm
   exact ⟨replayKeeps_cl, fun j t ht => by
    rw [Tryz.params4] at ht
    have hm : t ∈ [22, 5] := by simpa using Array.mem_of_getElem? ht
    have hall : ([22, 5].all fun u => !Tryz.prog.wantsStandIn u) = true := by kernel_rfl
    exact (show Tryz.prog.wantsStandIn t = false by simpa using List.all_eq_true.1 hall t hm)⟩)
  replayKeeps_cg
#print axioms replayKeeps_card
end Go.Proofs.YtpcloigancpnbaaGreatDoor
