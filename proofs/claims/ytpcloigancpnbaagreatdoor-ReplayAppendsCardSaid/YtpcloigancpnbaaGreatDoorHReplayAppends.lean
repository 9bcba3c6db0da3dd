import Derived.Test.YtpcloigancpnbaaGreatDoorK37
import Derived.Test.YtpcloigancpnbaaGreatDoorK38
import Derived.Test.YtpcloigancpnbaaGreatDoorTie
import Derived.Test.YtpcloigancpnbaaGreatDoorCards
import Derived.OpenShut
import Derived.ShutString
import Derived.Below
set_option linter.unusedVariables false
set_option linter.unusedSimpArgs false
set_option linter.unnecessarySimpa false
set_option maxHeartbeats 100000000
namespace Go.Proofs.YtpcloigancpnbaaGreatDoor
open Go.Bil
open Go.RowKit (Below)
open Go.Proofs
theorem zL (w:World) (F:Rd w 2 (some ⟨0,0,none⟩) 1 [[.int .u32 73856093,.int .u32 19349663]]) (N:Rd w 4 (some ⟨3,0,none⟩) 1 [eF iY]) (A:Option Addr) (n c:Nat) (l:List OpRow) (hl:OpsRd w A n l) (hcap:n≤c) (f:Nat) (hf:f≤255) :
  Calls Tryz.prog 3 #[.slice A n c,.int .u8 (f:Int)] w (Rb w (.bool true)):=by
 have hlen:l.length=n:=by simpa using hl.rd.len
 have hbd:=hl.rd.bound
 refine aI #[.tmp 4] 75 Tryz.func3 Z Tryz.results3 Tryz.ntmps3 Z ?_
 have M0:=Mem.refl w
 refine aE (aA (wq (aJ (.bool false) Z) Z (aB (aC (aE (aE (aA (dO bRx Z Z M0 (bOv _ (F.mem M0) (N.mem M0)) (fun w1 M1=>(wq (gV false Z Z) Z (wq (aH (.bool false) Z) Z (dK Z Z (eL bWy Z Z (bAq _ A n c l (hl.mem M1)) ?_)))))))))))))
 rintro v2 w2 ⟨⟨g,rfl,hg⟩,hb2⟩
 have M2:=M1.callB hb2
 refine wq (gV _ Z Z) Z (wq (bQ false (.bool _) Z Z) Z (wq (aH (.bool _) Z) Z ?_))
 refine kG 22 _ Z (fun g22 => ?_) (fun g22 => ?_)
 ·refine aN Z Z (aN Z Z (aN Z Z (wq (bQ true (.bool true) Z Z) Z (aB (aC (cG Z (aE (aA (dO bRx Z Z M2 (bOv _ (F.mem M2) (N.mem M2)) (fun w3 M3=>(wq (aJ (.bool true) Z) Z (aB (aC (aP (cN (cI (.bool true) Z ?_))))))))))))))))
  exact ⟨Z,M3.below⟩
 ·refine dK Z Z (wq (cK Tryz.underlying22 Z) Z (cY Z Z Z Z (wq (bQ false (.bool (decide _)) Z Z) Z (aB (aC ?_)))))
  refine aW Z (fun h26 => ?_) (fun h26 => ?_)
  ·refine aE (aA (dO bRx Z Z M2 (bOv _ (F.mem M2) (N.mem M2)) (fun w4 M4=>(wq (aJ (.bool true) Z) Z (aB (aC (aP (cN (cI (.bool true) Z ?_)))))))))
   exact ⟨Z,M4.below⟩
  ·obtain ⟨hn16,hby⟩:=hg (by simpa using g22)
   have hby2:∀ x∈l,x.n≤1000000:=fun x hx=>Nat.le_trans (hby x hx) (by decide)
   have hn2:n≤1000000:=by omega
   have hgood:=hl.good hby2
   have hok:=hl.okO hby2
   obtain ⟨kk,hkk⟩:∃ kk:Nat,kk=f % 5:=⟨_,rfl⟩
   have hkl:kk < 5:=by rw [hkk];exact Nat.mod_lt _ (by decide)
   obtain ⟨k,hk⟩:∃ k:Nat,k=1+kk:=⟨_,rfl⟩
   have hkp:0 < k:=by omega
   refine aM (aC (aE (aA (aR rfl rfl (wq (iM rfl rfl (by decide)) rfl (aL 29 (.int .u8 (kk:Int)) (iE (aAl rfl hkk)) (wq (bG us5 Tryz.underlying3 rfl (fL _ (by omega) (by omega))) rfl (wq (bA rfl rfl (by omega) (by omega)) rfl (aL 31 (.int .i64 (k:Int)) (iE (by omega)) (bJ rfl rfl (aB (aC (aE (aA (aR rfl rfl (eL bVh rfl rfl (aKu _ (F.mem M2) (N.mem M2) none 0 0 [] (OpsRd.none _) (by simp) (by decide) (k:Int) k (by omega)) ?_))))))))))))))))
   rintro v5 w5 ⟨qo,qm,q,ps,ms,rs,rfl,hL,hq,hoR,hM5⟩
   have M5:Mem _ _ ([_,_,_]++_) _:=M2.call0 hM5
   have hon:=hL.on
   have hmn:=hL.mn
   have hqn:(jX _ rs).length=q.n:=hq.1
   rw [mG hoR.len,mH] at hqn
   have hon0:qo.n=0:=hon
   have hmn0:qm.n=0:=by rw [hmn];exact Nat.zero_div k
   refine wq (aH (.tuple (List.toArray _)) Z) Z (wq (bM (.agg (.mk _)) Z Z) Z (wq (bM (.slice _ _ _) Z Z) Z (aQ pM M5 Z Z (fun b6 w6 M6 => ?_))))
   have M7:Mem _ _ ([_,_,_,_]++_) _:=Mem.front (L:=[_,_,_]) M6
   refine bB 3 _ fZ M7 Z Z Z Z Z (aO Z) Z (fun w8 M8=>(eG Z Z (aB (aC (aE (aA (dK Z Z ?_)))))))
   have M9:Mem _ _ ([_,_,_,_]++(ps.map Row.e++(rs.map Row.e++ms.map Row.e))) _:=M8
   refine eL bVq Z Z (xB _ A n c l (hl.mem M9) hby2 hn2) ?_
   rintro v10 w10 ⟨qf,pf,rfl,hqf,hpf,hM10⟩
   have M10:Mem _ _ ([_,_,_,_,_]++_) _:=Mem.front (L:=[_,_,_,_]) (Mem.call0U (L:=[_,_,_,_]) (A:=[_]) M9 hM10)
   have hplpf:pf.length=(opsO (l)).length:=by rw [hpf.len,List.length_map]
   have hnqf:((rU (opsO (l)) pf).map OpRow.cells).length=qf.n:=hqf.1
   rw [List.length_map,vZ hplpf,fH] at hnqf
   refine eG Z Z (aB (aC (aE (aA (eG Z Z ?_)))))
   have M11:=Mem.dummyL (L:=[_,_,_,_,_]) M10 default
   refine aB (aC (aE (aE (aA (bJ rfl rfl (aB (aC (aS (dM (σ:=Nat × Row × Row × List Row × List Row × Row × List Row) [0,4,5,6,8] (fun (i,qo,qm,ps,ms,qa,os)=>[(9,.slice qa.A qa.n qa.c),(10,.int .i64 (i:Int))]) (fun (i,qo,qm,ps,ms,qa,os) w'=>(i≤n∧LogR 45 34 5 ((opsO l).take i) k qo qm ps ms∧aZ 36 4 qa.A qa.n qa.c (jX ((kW [] ((opsO l).take i))) os) qa.e∧OutR 5 os (kW [] ((opsO l).take i)))∧Mem w [] ([qo.e,qm.e,q.e,(some b6,bc [.slice qo.A qo.n qo.c,.int .i64 (k:Int),.slice qm.A qm.n qm.c] 28),qf.e,qa.e]++(pf.map Row.e++(ps.map Row.e++(ms.map Row.e++os.map Row.e)))) w') (fun (i,qo,qm,ps,ms,qa,os)=>n - i) (0,qo,qm,ps,ms,fE,[]) (bE rfl (bE rfl eB)) (⟨⟨by omega,hL,aZ.nil _ _ _,OutR.nil _⟩,(show Mem _ _ ([qo.e,qm.e,q.e,(some b6,bc [.slice qo.A qo.n qo.c,.int .i64 (k:Int),.slice qm.A qm.n qm.c] 28),qf.e,fE.e]++(ps.map Row.e++(rs.map Row.e++ms.map Row.e)++pf.map Row.e)) _ from M11).re (fun p=>by simp only [List.countP_append,List.countP_cons,List.countP_nil,List.map_append,List.map_cons,List.map_nil];omega)⟩) ?_)))))))))
   rintro ⟨i,qo,qm,ps,ms,qa,os⟩ ρ12 w12 ⟨⟨hi,hL,hqa,hoR⟩,hM12⟩
   have hqn:(jX (kW [] ((opsO l).take i)) os).length=qa.n:=hqa.1
   rw [mG hoR.len,mH,List.length_take,fH] at hqn
   have hon:=hL.on
   rw [List.length_take,fH] at hon
   refine aE (aE (aA (aR Z Z (dK Z Z (wq (cK Tryz.underlying25 Z) Z (cY Z Z Z Z (aB (aC ?_))))))))
   refine aW Z (fun h42 => ?_) (fun h42 => ?_)
   ·obtain ⟨x,hx⟩:=cT (xs:=l) (k:=i) hlen (by omega)
    have hxm:=List.mem_of_getElem? hx
    have hxo:=oN hx
    have hox:=hgood x.o (List.mem_of_getElem? hxo)
    obtain ⟨pi,hpi,hpr⟩:=hpf.at (j:=i) (b:=x.o.bytes) (by rw [List.getElem?_map,hxo];rfl)
    have hxf:=bSk hxo hpi
    have hpin:x.o.bytes.length=pi.n:=by have h:=hpr.1;rwa [List.length_map] at h
    have hol:=hox.len
    refine aM (aC (aE (aS (aE (bOo (.op 0 1 (.op 1 0 (.op 2 0 (.op 3 1 (.op 4 1 (.fork3 5 9 10 (.op 6 0 (.op 7 0 (.op 8 0 (.fork 9 10 (.op 10 2 (.op 11 2 (.op 12 2 .done))) (.op 9 2 (.op 11 2 (.op 12 2 .done))))))) (.fork 5 10 (.op 6 0 (.op 7 0 (.op 8 0 (.op 10 2 (.op 11 2 (.op 12 2 .done)))))) (.op 5 2 (.op 6 0 (.op 7 0 (.op 8 0 (.op 11 2 (.op 12 2 .done))))))) (.fork 5 9 (.op 6 0 (.op 7 0 (.op 8 0 (.op 9 2 (.op 11 2 (.op 12 2 .done)))))) (.op 5 2 (.op 6 0 (.op 7 0 (.op 8 0 (.op 11 2 (.op 12 2 .done))))))))))))) mixed Z (by kernel_rfl) (fun w13 hb13 hh13 => ?_))))))
    have M13:=hM12.drew hb13 hh13
    refine T_r Z Z Z (aU 3 fZ M13 Z Z Z) (T_p Z Z Z (fun _=>aH (.slice _ _ _) Z) (T_p Z Z Z (fun _=>aH (.int _ _) Z) (T_r Z Z Z (bI (i) pL Z Z Z ((hqf.rd M13 (bH (i:=4) Z)).below_len (aG OpRow.cells hxf)) ((hqf.rd M13 (bH (i:=4) Z)).someK (aG OpRow.cells hxf))) (T_r Z Z Z (dN _ iQ (hqf.rd M13 (bH (i:=4) Z)) (aG OpRow.cells hxf) Z) (aYd 50 (.agg (dU x.o pi.A pi.n pi.c).toArray) Z ?_)))))
    refine bIx (kB [true,true,true] Z (by kernel_rfl) ?_) (kB [false,false,false] Z (by kernel_rfl) ?_) (kB [false,false,false] Z (by kernel_rfl) ?_)
    ·refine eL aYo Z Z (pZ _ (F.mem M13) (N.mem M13) qo.A qo.n qo.c (rU ((opsO l).take i) ps) (hL.opsRd M13 (bH (i:=0) Z) (fP (fP (nC mD)))) hL.ops.slice hL.bn (by omega) k hkp qm.A qm.n qm.c ms (by rw [hL.opsO];exact (hL.bytRd M13 (bH (i:=1) Z) (fP (fP (fP (nC mD)))))) x.o pi.A pi.n pi.c ⟨hpr.rd M13 ((fP (nC mD)) pi (List.mem_of_getElem? hpi)),hpr.slice,hox.byt,hox.body,hox.p1,hox.p2⟩ (by omega)) ?_
     rintro v14 w14 ⟨qo2,qm2,pz,ps2,ms2,rfl,hL2,hpz,hM14⟩
     have M14:Mem _ _ ([_,_,_,_,_,_,_,_,_]++_) _:=Mem.front (L:=[_,_,_,_,_,_]) (Mem.call0U (L:=[_,_,_,_,_,_]) (A:=[_,_,_]) M13 hM14)
     rw [hL.opsO] at hL2 hpz
     refine aB (aC ⟨dG, ?_⟩)
     refine T_p Z Z Z (fun _=>aH (.tuple (List.toArray _)) Z) (T_p Z Z Z (fun _=>bM (.agg (.mk _)) Z Z) (T_p Z Z Z (fun _=>bM (.agg (.mk _)) Z Z) (aYd 53 (.agg (cC (hJ (eX [] ((opsO l).take i)) x.o).2 pz).toArray) (congrArg (fun y=>Value.agg (cC (hJ (eX [] y) x.o).2 pz).toArray) hL.opsO) ?_)))
     refine aRs (kB [] Z (by kernel_rfl) ?_) (kB [] Z (by kernel_rfl) ?_)
     ·refine aQ pM M14 Z Z (fun b15 w15 M15 => ?_)
      have M16:Mem _ _ ([_,_,_,_,_,_,_,_,_,_]++_) _:=Mem.front (L:=[_,_,_,_,_,_,_,_,_]) M15
      refine aB (aC ⟨dG, ?_⟩)
      refine T_e (kB [] Z (by kernel_rfl) (aQ jW M16 Z Z (fun b17 w17 M17 => ?_)))
      have M18:Mem _ _ ([_,_,_,_,_,_,_,_,_,_,_]++_) _:=Mem.front (L:=[_,_,_,_,_,_,_,_,_,_]) M17
      refine aB (aC ⟨dG, ?_⟩)
      refine T_e (kB [] Z (by kernel_rfl) (bB 9 _ fZ M18 Z Z Z Z Z (aO Z) Z (fun w19 M19 => ?_)))
      refine aB (aC ⟨dG, ?_⟩)
      refine T_e (kB [] Z (by kernel_rfl) (bB 10 _ fM M19 Z Z Z Z Z (aO Z) Z (fun w20 M20 => ?_)))
      refine aB (aC ⟨dG, ?_⟩)
      refine aJk (aC (aE (aA ?_)))
      have M21:Mem _ _ ([_,_,_,_,_,_,_,_,_,_,_]++(pf.map Row.e++(ps.map Row.e++(ms.map Row.e++os.map Row.e))++(ps2.map Row.e++ms2.map Row.e))) _:=M20
      refine wq (aU 9 fZ M21 Z Z Z) Z (bB 3 _ fZ M21 Z Z Z Z Z (aO Z) Z (fun w22 M22=>(aB (aC (aA (dK Z Z (wq (aU 10 fM M22 Z Z Z) Z (aL 56 (.agg (cC (hJ (eX [] ((opsO l).take i)) x.o).2 pz).toArray) Z ?_))))))))
      have M23:Mem _ _ ([_,_,_,_,_,_,_,_,_,_,_]++(pf.map Row.e++(ps.map Row.e++(ms.map Row.e++os.map Row.e))++(ps2.map Row.e++ms2.map Row.e))) _:=M22
      refine bW [.agg (List.toArray _)] [cC (hJ (eX [] ((opsO l).take i)) x.o).2 pz] Z qU M23 Z Z Z Z (cQ Z) (by decide) (fun b24 w24 M24 => ?_)
      have M25:Mem _ _ ([_,_,_,_,_,_,_,_,_,_,_,_]++_) _:=Mem.front (L:=[_,_,_,_,_,_,_,_,_,_,_]) M24
      refine cO 5 [cC (hJ (eX [] ((opsO l).take i)) x.o).2 pz] qU M25 rfl rfl rfl rfl rfl hqa rfl (by simp [cC,Go.Bil.one]) (dI.ofMem 11 M25 rfl) (by omega) (fun A26 c26 e26 w26 M26 hR26=>(eG rfl rfl (aB (cU (aC (aA (aR rfl rfl (wq (bA rfl rfl (by omega) (by omega)) rfl (bJ rfl rfl (aB ?_))))))))))
      refine bX (i+1,qo2,qm2,ps2,ms2,⟨A26,qa.n+1,c26,e26⟩,os++[pz]) (bE Z (bE Z eB)) (cA Z (cA Z (cA Z (cA Z (cA Z gL))))) ?_ ?_
      ·exact ⟨⟨by omega,by rw [cB hxo];exact hL2,by rw [eT hxo,jJ hoR.len];exact hR26,by rw [eT hxo];exact hoR.add hpz⟩,(show Mem _ _ ([qo.e,qm.e,q.e,(some b6,bc [.slice qo2.A qo2.n qo2.c,.int .i64 (k:Int),.slice qm2.A qm2.n qm2.c] 28),qf.e,e26,pz.e,qo2.e,qm2.e,_,_,_]++(pf.map Row.e++(ps.map Row.e++(ms.map Row.e++os.map Row.e))++(ps2.map Row.e++ms2.map Row.e))) _ from M26).re (fun p=>by simp only [List.countP_append,List.countP_cons,List.countP_nil,List.map_append,List.map_cons,List.map_nil];omega)⟩
      ·(show n - (i+1) < n - i;omega)
     ·refine aQ jW M14 Z Z (fun b27 w27 M27 => ?_)
      have M28:Mem _ _ ([_,_,_,_,_,_,_,_,_,_]++_) _:=Mem.front (L:=[_,_,_,_,_,_,_,_,_]) M27
      refine aB (aC ⟨dG, ?_⟩)
      refine T_e (kB [] Z (by kernel_rfl) (aQ pM M28 Z Z (fun b29 w29 M29 => ?_)))
      have M30:Mem _ _ ([_,_,_,_,_,_,_,_,_,_,_]++_) _:=Mem.front (L:=[_,_,_,_,_,_,_,_,_,_]) M29
      refine aB (aC ⟨dG, ?_⟩)
      refine T_e (kB [] Z (by kernel_rfl) (bB 10 _ fZ M30 Z Z Z Z Z (aO Z) Z (fun w31 M31 => ?_)))
      refine aB (aC ⟨dG, ?_⟩)
      refine T_e (kB [] Z (by kernel_rfl) (bB 9 _ fM M31 Z Z Z Z Z (aO Z) Z (fun w32 M32 => ?_)))
      refine aB (aC ⟨dG, ?_⟩)
      refine aJk (aC (aE (aA ?_)))
      have M33:Mem _ _ ([_,_,_,_,_,_,_,_,_,_,_]++(pf.map Row.e++(ps.map Row.e++(ms.map Row.e++os.map Row.e))++(ps2.map Row.e++ms2.map Row.e))) _:=M32
      refine wq (aU 10 fZ M33 Z Z Z) Z (bB 3 _ fZ M33 Z Z Z Z Z (aO Z) Z (fun w34 M34=>(aB (aC (aA (dK Z Z (wq (aU 9 fM M34 Z Z Z) Z (aL 56 (.agg (cC (hJ (eX [] ((opsO l).take i)) x.o).2 pz).toArray) Z ?_))))))))
      have M35:Mem _ _ ([_,_,_,_,_,_,_,_,_,_,_]++(pf.map Row.e++(ps.map Row.e++(ms.map Row.e++os.map Row.e))++(ps2.map Row.e++ms2.map Row.e))) _:=M34
      refine bW [.agg (List.toArray _)] [cC (hJ (eX [] ((opsO l).take i)) x.o).2 pz] Z qU M35 Z Z Z Z (cQ Z) (by decide) (fun b36 w36 M36 => ?_)
      have M37:Mem _ _ ([_,_,_,_,_,_,_,_,_,_,_,_]++_) _:=Mem.front (L:=[_,_,_,_,_,_,_,_,_,_,_]) M36
      refine cO 5 [cC (hJ (eX [] ((opsO l).take i)) x.o).2 pz] qU M37 rfl rfl rfl rfl rfl hqa rfl (by simp [cC,Go.Bil.one]) (dI.ofMem 11 M37 rfl) (by omega) (fun A38 c38 e38 w38 M38 hR38=>(eG rfl rfl (aB (cU (aC (aA (aR rfl rfl (wq (bA rfl rfl (by omega) (by omega)) rfl (bJ rfl rfl (aB ?_))))))))))
      refine bX (i+1,qo2,qm2,ps2,ms2,⟨A38,qa.n+1,c38,e38⟩,os++[pz]) (bE Z (bE Z eB)) (cA Z (cA Z (cA Z (cA Z (cA Z gL))))) ?_ ?_
      ·exact ⟨⟨by omega,by rw [cB hxo];exact hL2,by rw [eT hxo,jJ hoR.len];exact hR38,by rw [eT hxo];exact hoR.add hpz⟩,(show Mem _ _ ([qo.e,qm.e,q.e,(some b6,bc [.slice qo2.A qo2.n qo2.c,.int .i64 (k:Int),.slice qm2.A qm2.n qm2.c] 28),qf.e,e38,pz.e,qo2.e,qm2.e,_,_,_]++(pf.map Row.e++(ps.map Row.e++(ms.map Row.e++os.map Row.e))++(ps2.map Row.e++ms2.map Row.e))) _ from M38).re (fun p=>by simp only [List.countP_append,List.countP_cons,List.countP_nil,List.map_append,List.map_cons,List.map_nil];omega)⟩
      ·(show n - (i+1) < n - i;omega)
    ·refine aQ pM M13 Z Z (fun b39 w39 M39 => ?_)
     have M40:Mem _ _ ([_,_,_,_,_,_,_]++_) _:=Mem.front (L:=[_,_,_,_,_,_]) M39
     refine aB (aC ⟨(dQ (bC Z (dN _ iQ (hqf.rd M40 (bH (i:=4) Z)) (aG OpRow.cells hxf) Z)) (dQ (bC Z (bI (i) pL Z Z Z ((hqf.rd M40 (bH (i:=4) Z)).below_len (aG OpRow.cells hxf)) ((hqf.rd M40 (bH (i:=4) Z)).someK (aG OpRow.cells hxf)))) (dQ (bC Z (aU 3 fZ M40 Z Z Z)) dG))), ?_⟩)
     refine aRs (kB [true,true,true] Z (by kernel_rfl) ?_) (kB [false,false,false] Z (by kernel_rfl) ?_)
     ·refine eL aYo Z Z (pZ _ (F.mem M40) (N.mem M40) qo.A qo.n qo.c (rU ((opsO l).take i) ps) (hL.opsRd M40 (bH (i:=0) Z) (fP (fP (nC mD)))) hL.ops.slice hL.bn (by omega) k hkp qm.A qm.n qm.c ms (by rw [hL.opsO];exact (hL.bytRd M40 (bH (i:=1) Z) (fP (fP (fP (nC mD)))))) x.o pi.A pi.n pi.c ⟨hpr.rd M40 ((fP (nC mD)) pi (List.mem_of_getElem? hpi)),hpr.slice,hox.byt,hox.body,hox.p1,hox.p2⟩ (by omega)) ?_
      rintro v41 w41 ⟨qo2,qm2,pz,ps2,ms2,rfl,hL2,hpz,hM41⟩
      have M41:Mem _ _ ([_,_,_,_,_,_,_,_,_,_]++_) _:=Mem.front (L:=[_,_,_,_,_,_,_]) (Mem.call0U (L:=[_,_,_,_,_,_,_]) (A:=[_,_,_]) M40 hM41)
      rw [hL.opsO] at hL2 hpz
      refine aB (aC ⟨dG, ?_⟩)
      refine T_p Z Z Z (fun _=>aH (.tuple (List.toArray _)) Z) (T_p Z Z Z (fun _=>bM (.agg (.mk _)) Z Z) (T_p Z Z Z (fun _=>bM (.agg (.mk _)) Z Z) (aYd 53 (.agg (cC (hJ (eX [] ((opsO l).take i)) x.o).2 pz).toArray) (congrArg (fun y=>Value.agg (cC (hJ (eX [] y) x.o).2 pz).toArray) hL.opsO) (T_e (kB [] Z (by kernel_rfl) (aQ jW M41 Z Z (fun b42 w42 M42 => ?_)))))))
      have M43:Mem _ _ ([_,_,_,_,_,_,_,_,_,_,_]++_) _:=Mem.front (L:=[_,_,_,_,_,_,_,_,_,_]) M42
      refine aB (aC ⟨dG, ?_⟩)
      refine T_e (kB [] Z (by kernel_rfl) (bB 6 _ fZ M43 Z Z Z Z Z (aO Z) Z (fun w44 M44 => ?_)))
      refine aB (aC ⟨dG, ?_⟩)
      refine T_e (kB [] Z (by kernel_rfl) (bB 10 _ fM M44 Z Z Z Z Z (aO Z) Z (fun w45 M45 => ?_)))
      refine aB (aC ⟨dG, ?_⟩)
      refine aJk (aC (aE (aA ?_)))
      have M46:Mem _ _ ([_,_,_,_,_,_,_,_,_,_,_]++(pf.map Row.e++(ps.map Row.e++(ms.map Row.e++os.map Row.e))++(ps2.map Row.e++ms2.map Row.e))) _:=M45
      refine wq (aU 6 fZ M46 Z Z Z) Z (bB 3 _ fZ M46 Z Z Z Z Z (aO Z) Z (fun w47 M47=>(aB (aC (aA (dK Z Z (wq (aU 10 fM M47 Z Z Z) Z (aL 56 (.agg (cC (hJ (eX [] ((opsO l).take i)) x.o).2 pz).toArray) Z ?_))))))))
      have M48:Mem _ _ ([_,_,_,_,_,_,_,_,_,_,_]++(pf.map Row.e++(ps.map Row.e++(ms.map Row.e++os.map Row.e))++(ps2.map Row.e++ms2.map Row.e))) _:=M47
      refine bW [.agg (List.toArray _)] [cC (hJ (eX [] ((opsO l).take i)) x.o).2 pz] Z qU M48 Z Z Z Z (cQ Z) (by decide) (fun b49 w49 M49 => ?_)
      have M50:Mem _ _ ([_,_,_,_,_,_,_,_,_,_,_,_]++_) _:=Mem.front (L:=[_,_,_,_,_,_,_,_,_,_,_]) M49
      refine cO 5 [cC (hJ (eX [] ((opsO l).take i)) x.o).2 pz] qU M50 rfl rfl rfl rfl rfl hqa rfl (by simp [cC,Go.Bil.one]) (dI.ofMem 11 M50 rfl) (by omega) (fun A51 c51 e51 w51 M51 hR51=>(eG rfl rfl (aB (cU (aC (aA (aR rfl rfl (wq (bA rfl rfl (by omega) (by omega)) rfl (bJ rfl rfl (aB ?_))))))))))
      refine bX (i+1,qo2,qm2,ps2,ms2,⟨A51,qa.n+1,c51,e51⟩,os++[pz]) (bE Z (bE Z eB)) (cA Z (cA Z (cA Z (cA Z (cA Z gL))))) ?_ ?_
      ·exact ⟨⟨by omega,by rw [cB hxo];exact hL2,by rw [eT hxo,jJ hoR.len];exact hR51,by rw [eT hxo];exact hoR.add hpz⟩,(show Mem _ _ ([qo.e,qm.e,q.e,(some b6,bc [.slice qo2.A qo2.n qo2.c,.int .i64 (k:Int),.slice qm2.A qm2.n qm2.c] 28),qf.e,e51,_,pz.e,qo2.e,qm2.e,_,_]++(pf.map Row.e++(ps.map Row.e++(ms.map Row.e++os.map Row.e))++(ps2.map Row.e++ms2.map Row.e))) _ from M51).re (fun p=>by simp only [List.countP_append,List.countP_cons,List.countP_nil,List.map_append,List.map_cons,List.map_nil];omega)⟩
      ·(show n - (i+1) < n - i;omega)
     ·refine aQ jW M40 Z Z (fun b52 w52 M52 => ?_)
      have M53:Mem _ _ ([_,_,_,_,_,_,_,_]++_) _:=Mem.front (L:=[_,_,_,_,_,_,_]) M52
      refine aB (aC ⟨(dQ (bC Z (dN _ iQ (hqf.rd M53 (bH (i:=4) Z)) (aG OpRow.cells hxf) Z)) (dQ (bC Z (bI (i) pL Z Z Z ((hqf.rd M53 (bH (i:=4) Z)).below_len (aG OpRow.cells hxf)) ((hqf.rd M53 (bH (i:=4) Z)).someK (aG OpRow.cells hxf)))) (dQ (bC Z (aU 3 fZ M53 Z Z Z)) dG))), ?_⟩)
      refine T_e (kB [true,true,true] Z (by kernel_rfl) (eL aYo Z Z (pZ _ (F.mem M53) (N.mem M53) qo.A qo.n qo.c (rU ((opsO l).take i) ps) (hL.opsRd M53 (bH (i:=0) Z) (fP (fP (nC mD)))) hL.ops.slice hL.bn (by omega) k hkp qm.A qm.n qm.c ms (by rw [hL.opsO];exact (hL.bytRd M53 (bH (i:=1) Z) (fP (fP (fP (nC mD)))))) x.o pi.A pi.n pi.c ⟨hpr.rd M53 ((fP (nC mD)) pi (List.mem_of_getElem? hpi)),hpr.slice,hox.byt,hox.body,hox.p1,hox.p2⟩ (by omega)) ?_))
      rintro v54 w54 ⟨qo2,qm2,pz,ps2,ms2,rfl,hL2,hpz,hM54⟩
      have M54:Mem _ _ ([_,_,_,_,_,_,_,_,_,_,_]++_) _:=Mem.front (L:=[_,_,_,_,_,_,_,_]) (Mem.call0U (L:=[_,_,_,_,_,_,_,_]) (A:=[_,_,_]) M53 hM54)
      rw [hL.opsO] at hL2 hpz
      refine aB (aC ⟨dG, ?_⟩)
      refine T_p Z Z Z (fun _=>aH (.tuple (List.toArray _)) Z) (T_p Z Z Z (fun _=>bM (.agg (.mk _)) Z Z) (T_p Z Z Z (fun _=>bM (.agg (.mk _)) Z Z) (aYd 53 (.agg (cC (hJ (eX [] ((opsO l).take i)) x.o).2 pz).toArray) (congrArg (fun y=>Value.agg (cC (hJ (eX [] y) x.o).2 pz).toArray) hL.opsO) (T_e (kB [] Z (by kernel_rfl) (bB 6 _ fZ M54 Z Z Z Z Z (aO Z) Z (fun w55 M55 => ?_)))))))
      refine aB (aC ⟨dG, ?_⟩)
      refine T_e (kB [] Z (by kernel_rfl) (bB 7 _ fM M55 Z Z Z Z Z (aO Z) Z (fun w56 M56 => ?_)))
      refine aB (aC ⟨dG, ?_⟩)
      refine aJk (aC (aE (aA ?_)))
      have M57:Mem _ _ ([_,_,_,_,_,_,_,_,_,_,_]++(pf.map Row.e++(ps.map Row.e++(ms.map Row.e++os.map Row.e))++(ps2.map Row.e++ms2.map Row.e))) _:=M56
      refine wq (aU 6 fZ M57 Z Z Z) Z (bB 3 _ fZ M57 Z Z Z Z Z (aO Z) Z (fun w58 M58=>(aB (aC (aA (dK Z Z (wq (aU 7 fM M58 Z Z Z) Z (aL 56 (.agg (cC (hJ (eX [] ((opsO l).take i)) x.o).2 pz).toArray) Z ?_))))))))
      have M59:Mem _ _ ([_,_,_,_,_,_,_,_,_,_,_]++(pf.map Row.e++(ps.map Row.e++(ms.map Row.e++os.map Row.e))++(ps2.map Row.e++ms2.map Row.e))) _:=M58
      refine bW [.agg (List.toArray _)] [cC (hJ (eX [] ((opsO l).take i)) x.o).2 pz] Z qU M59 Z Z Z Z (cQ Z) (by decide) (fun b60 w60 M60 => ?_)
      have M61:Mem _ _ ([_,_,_,_,_,_,_,_,_,_,_,_]++_) _:=Mem.front (L:=[_,_,_,_,_,_,_,_,_,_,_]) M60
      refine cO 5 [cC (hJ (eX [] ((opsO l).take i)) x.o).2 pz] qU M61 rfl rfl rfl rfl rfl hqa rfl (by simp [cC,Go.Bil.one]) (dI.ofMem 11 M61 rfl) (by omega) (fun A62 c62 e62 w62 M62 hR62=>(eG rfl rfl (aB (cU (aC (aA (aR rfl rfl (wq (bA rfl rfl (by omega) (by omega)) rfl (bJ rfl rfl (aB ?_))))))))))
      refine bX (i+1,qo2,qm2,ps2,ms2,⟨A62,qa.n+1,c62,e62⟩,os++[pz]) (bE Z (bE Z eB)) (cA Z (cA Z (cA Z (cA Z (cA Z gL))))) ?_ ?_
      ·exact ⟨⟨by omega,by rw [cB hxo];exact hL2,by rw [eT hxo,jJ hoR.len];exact hR62,by rw [eT hxo];exact hoR.add hpz⟩,(show Mem _ _ ([qo.e,qm.e,q.e,(some b6,bc [.slice qo2.A qo2.n qo2.c,.int .i64 (k:Int),.slice qm2.A qm2.n qm2.c] 28),qf.e,e62,_,_,pz.e,qo2.e,qm2.e,_]++(pf.map Row.e++(ps.map Row.e++(ms.map Row.e++os.map Row.e))++(ps2.map Row.e++ms2.map Row.e))) _ from M62).re (fun p=>by simp only [List.countP_append,List.countP_cons,List.countP_nil,List.map_append,List.map_cons,List.map_nil];omega)⟩
      ·(show n - (i+1) < n - i;omega)
    ·refine aQ jW M13 Z Z (fun b63 w63 M63 => ?_)
     have M64:Mem _ _ ([_,_,_,_,_,_,_]++_) _:=Mem.front (L:=[_,_,_,_,_,_]) M63
     refine aB (aC ⟨(dQ (bC Z (dN _ iQ (hqf.rd M64 (bH (i:=4) Z)) (aG OpRow.cells hxf) Z)) (dQ (bC Z (bI (i) pL Z Z Z ((hqf.rd M64 (bH (i:=4) Z)).below_len (aG OpRow.cells hxf)) ((hqf.rd M64 (bH (i:=4) Z)).someK (aG OpRow.cells hxf)))) (dQ (bC Z (aU 3 fZ M64 Z Z Z)) dG))), ?_⟩)
     refine aRs (kB [true,true,true] Z (by kernel_rfl) ?_) (kB [false,false,false] Z (by kernel_rfl) ?_)
     ·refine eL aYo Z Z (pZ _ (F.mem M64) (N.mem M64) qo.A qo.n qo.c (rU ((opsO l).take i) ps) (hL.opsRd M64 (bH (i:=0) Z) (fP (fP (nC mD)))) hL.ops.slice hL.bn (by omega) k hkp qm.A qm.n qm.c ms (by rw [hL.opsO];exact (hL.bytRd M64 (bH (i:=1) Z) (fP (fP (fP (nC mD)))))) x.o pi.A pi.n pi.c ⟨hpr.rd M64 ((fP (nC mD)) pi (List.mem_of_getElem? hpi)),hpr.slice,hox.byt,hox.body,hox.p1,hox.p2⟩ (by omega)) ?_
      rintro v65 w65 ⟨qo2,qm2,pz,ps2,ms2,rfl,hL2,hpz,hM65⟩
      have M65:Mem _ _ ([_,_,_,_,_,_,_,_,_,_]++_) _:=Mem.front (L:=[_,_,_,_,_,_,_]) (Mem.call0U (L:=[_,_,_,_,_,_,_]) (A:=[_,_,_]) M64 hM65)
      rw [hL.opsO] at hL2 hpz
      refine aB (aC ⟨dG, ?_⟩)
      refine T_p Z Z Z (fun _=>aH (.tuple (List.toArray _)) Z) (T_p Z Z Z (fun _=>bM (.agg (.mk _)) Z Z) (T_p Z Z Z (fun _=>bM (.agg (.mk _)) Z Z) (aYd 53 (.agg (cC (hJ (eX [] ((opsO l).take i)) x.o).2 pz).toArray) (congrArg (fun y=>Value.agg (cC (hJ (eX [] y) x.o).2 pz).toArray) hL.opsO) (T_e (kB [] Z (by kernel_rfl) (aQ pM M65 Z Z (fun b66 w66 M66 => ?_)))))))
      have M67:Mem _ _ ([_,_,_,_,_,_,_,_,_,_,_]++_) _:=Mem.front (L:=[_,_,_,_,_,_,_,_,_,_]) M66
      refine aB (aC ⟨dG, ?_⟩)
      refine T_e (kB [] Z (by kernel_rfl) (bB 10 _ fZ M67 Z Z Z Z Z (aO Z) Z (fun w68 M68 => ?_)))
      refine aB (aC ⟨dG, ?_⟩)
      refine T_e (kB [] Z (by kernel_rfl) (bB 6 _ fM M68 Z Z Z Z Z (aO Z) Z (fun w69 M69 => ?_)))
      refine aB (aC ⟨dG, ?_⟩)
      refine aJk (aC (aE (aA ?_)))
      have M70:Mem _ _ ([_,_,_,_,_,_,_,_,_,_,_]++(pf.map Row.e++(ps.map Row.e++(ms.map Row.e++os.map Row.e))++(ps2.map Row.e++ms2.map Row.e))) _:=M69
      refine wq (aU 10 fZ M70 Z Z Z) Z (bB 3 _ fZ M70 Z Z Z Z Z (aO Z) Z (fun w71 M71=>(aB (aC (aA (dK Z Z (wq (aU 6 fM M71 Z Z Z) Z (aL 56 (.agg (cC (hJ (eX [] ((opsO l).take i)) x.o).2 pz).toArray) Z ?_))))))))
      have M72:Mem _ _ ([_,_,_,_,_,_,_,_,_,_,_]++(pf.map Row.e++(ps.map Row.e++(ms.map Row.e++os.map Row.e))++(ps2.map Row.e++ms2.map Row.e))) _:=M71
      refine bW [.agg (List.toArray _)] [cC (hJ (eX [] ((opsO l).take i)) x.o).2 pz] Z qU M72 Z Z Z Z (cQ Z) (by decide) (fun b73 w73 M73 => ?_)
      have M74:Mem _ _ ([_,_,_,_,_,_,_,_,_,_,_,_]++_) _:=Mem.front (L:=[_,_,_,_,_,_,_,_,_,_,_]) M73
      refine cO 5 [cC (hJ (eX [] ((opsO l).take i)) x.o).2 pz] qU M74 rfl rfl rfl rfl rfl hqa rfl (by simp [cC,Go.Bil.one]) (dI.ofMem 11 M74 rfl) (by omega) (fun A75 c75 e75 w75 M75 hR75=>(eG rfl rfl (aB (cU (aC (aA (aR rfl rfl (wq (bA rfl rfl (by omega) (by omega)) rfl (bJ rfl rfl (aB ?_))))))))))
      refine bX (i+1,qo2,qm2,ps2,ms2,⟨A75,qa.n+1,c75,e75⟩,os++[pz]) (bE Z (bE Z eB)) (cA Z (cA Z (cA Z (cA Z (cA Z gL))))) ?_ ?_
      ·exact ⟨⟨by omega,by rw [cB hxo];exact hL2,by rw [eT hxo,jJ hoR.len];exact hR75,by rw [eT hxo];exact hoR.add hpz⟩,(show Mem _ _ ([qo.e,qm.e,q.e,(some b6,bc [.slice qo2.A qo2.n qo2.c,.int .i64 (k:Int),.slice qm2.A qm2.n qm2.c] 28),qf.e,e75,_,pz.e,qo2.e,qm2.e,_,_]++(pf.map Row.e++(ps.map Row.e++(ms.map Row.e++os.map Row.e))++(ps2.map Row.e++ms2.map Row.e))) _ from M75).re (fun p=>by simp only [List.countP_append,List.countP_cons,List.countP_nil,List.map_append,List.map_cons,List.map_nil];omega)⟩
      ·(show n - (i+1) < n - i;omega)
     ·refine aQ pM M64 Z Z (fun b76 w76 M76 => ?_)
      have M77:Mem _ _ ([_,_,_,_,_,_,_,_]++_) _:=Mem.front (L:=[_,_,_,_,_,_,_]) M76
      refine aB (aC ⟨(dQ (bC Z (dN _ iQ (hqf.rd M77 (bH (i:=4) Z)) (aG OpRow.cells hxf) Z)) (dQ (bC Z (bI (i) pL Z Z Z ((hqf.rd M77 (bH (i:=4) Z)).below_len (aG OpRow.cells hxf)) ((hqf.rd M77 (bH (i:=4) Z)).someK (aG OpRow.cells hxf)))) (dQ (bC Z (aU 3 fZ M77 Z Z Z)) dG))), ?_⟩)
      refine T_e (kB [true,true,true] Z (by kernel_rfl) (eL aYo Z Z (pZ _ (F.mem M77) (N.mem M77) qo.A qo.n qo.c (rU ((opsO l).take i) ps) (hL.opsRd M77 (bH (i:=0) Z) (fP (fP (nC mD)))) hL.ops.slice hL.bn (by omega) k hkp qm.A qm.n qm.c ms (by rw [hL.opsO];exact (hL.bytRd M77 (bH (i:=1) Z) (fP (fP (fP (nC mD)))))) x.o pi.A pi.n pi.c ⟨hpr.rd M77 ((fP (nC mD)) pi (List.mem_of_getElem? hpi)),hpr.slice,hox.byt,hox.body,hox.p1,hox.p2⟩ (by omega)) ?_))
      rintro v78 w78 ⟨qo2,qm2,pz,ps2,ms2,rfl,hL2,hpz,hM78⟩
      have M78:Mem _ _ ([_,_,_,_,_,_,_,_,_,_,_]++_) _:=Mem.front (L:=[_,_,_,_,_,_,_,_]) (Mem.call0U (L:=[_,_,_,_,_,_,_,_]) (A:=[_,_,_]) M77 hM78)
      rw [hL.opsO] at hL2 hpz
      refine aB (aC ⟨dG, ?_⟩)
      refine T_p Z Z Z (fun _=>aH (.tuple (List.toArray _)) Z) (T_p Z Z Z (fun _=>bM (.agg (.mk _)) Z Z) (T_p Z Z Z (fun _=>bM (.agg (.mk _)) Z Z) (aYd 53 (.agg (cC (hJ (eX [] ((opsO l).take i)) x.o).2 pz).toArray) (congrArg (fun y=>Value.agg (cC (hJ (eX [] y) x.o).2 pz).toArray) hL.opsO) (T_e (kB [] Z (by kernel_rfl) (bB 7 _ fZ M78 Z Z Z Z Z (aO Z) Z (fun w79 M79 => ?_)))))))
      refine aB (aC ⟨dG, ?_⟩)
      refine T_e (kB [] Z (by kernel_rfl) (bB 6 _ fM M79 Z Z Z Z Z (aO Z) Z (fun w80 M80 => ?_)))
      refine aB (aC ⟨dG, ?_⟩)
      refine aJk (aC (aE (aA ?_)))
      have M81:Mem _ _ ([_,_,_,_,_,_,_,_,_,_,_]++(pf.map Row.e++(ps.map Row.e++(ms.map Row.e++os.map Row.e))++(ps2.map Row.e++ms2.map Row.e))) _:=M80
      refine wq (aU 7 fZ M81 Z Z Z) Z (bB 3 _ fZ M81 Z Z Z Z Z (aO Z) Z (fun w82 M82=>(aB (aC (aA (dK Z Z (wq (aU 6 fM M82 Z Z Z) Z (aL 56 (.agg (cC (hJ (eX [] ((opsO l).take i)) x.o).2 pz).toArray) Z ?_))))))))
      have M83:Mem _ _ ([_,_,_,_,_,_,_,_,_,_,_]++(pf.map Row.e++(ps.map Row.e++(ms.map Row.e++os.map Row.e))++(ps2.map Row.e++ms2.map Row.e))) _:=M82
      refine bW [.agg (List.toArray _)] [cC (hJ (eX [] ((opsO l).take i)) x.o).2 pz] Z qU M83 Z Z Z Z (cQ Z) (by decide) (fun b84 w84 M84 => ?_)
      have M85:Mem _ _ ([_,_,_,_,_,_,_,_,_,_,_,_]++_) _:=Mem.front (L:=[_,_,_,_,_,_,_,_,_,_,_]) M84
      refine cO 5 [cC (hJ (eX [] ((opsO l).take i)) x.o).2 pz] qU M85 rfl rfl rfl rfl rfl hqa rfl (by simp [cC,Go.Bil.one]) (dI.ofMem 11 M85 rfl) (by omega) (fun A86 c86 e86 w86 M86 hR86=>(eG rfl rfl (aB (cU (aC (aA (aR rfl rfl (wq (bA rfl rfl (by omega) (by omega)) rfl (bJ rfl rfl (aB ?_))))))))))
      refine bX (i+1,qo2,qm2,ps2,ms2,⟨A86,qa.n+1,c86,e86⟩,os++[pz]) (bE Z (bE Z eB)) (cA Z (cA Z (cA Z (cA Z (cA Z gL))))) ?_ ?_
      ·exact ⟨⟨by omega,by rw [cB hxo];exact hL2,by rw [eT hxo,jJ hoR.len];exact hR86,by rw [eT hxo];exact hoR.add hpz⟩,(show Mem _ _ ([qo.e,qm.e,q.e,(some b6,bc [.slice qo2.A qo2.n qo2.c,.int .i64 (k:Int),.slice qm2.A qm2.n qm2.c] 28),qf.e,e86,_,_,pz.e,qo2.e,qm2.e,_]++(pf.map Row.e++(ps.map Row.e++(ms.map Row.e++os.map Row.e))++(ps2.map Row.e++ms2.map Row.e))) _ from M86).re (fun p=>by simp only [List.countP_append,List.countP_cons,List.countP_nil,List.map_append,List.map_cons,List.map_nil];omega)⟩
      ·(show n - (i+1) < n - i;omega)
   ·have hin:i=n:=by omega
    rw [hin,List.take_of_length_le (by rw [fH];omega)] at hL hqa hoR
    refine cS (dE (dH (eO (aC (aE (aA (dK Z Z (eL bNb Z Z (aGy _ A n c l (hl.mem hM12) hby2 hn2) ?_))))))))
    rintro v87 w87 ⟨v1,o1,rs1,rfl,hv1,ho1,hoR1,hM87⟩
    have M87:Mem _ _ ([_,_,_,_,_,_,_,_]++_) _:=Mem.front (L:=[_,_,_,_,_,_]) (Mem.call0U (L:=[_,_,_,_,_,_]) (A:=[_,_]) hM12 hM87)
    have ho1n:(kW [] (opsO (l))).length=o1.n:=by have h:(jX _ rs1).length=o1.n:=ho1.1;rwa [mG hoR1.len] at h
    rw [mH,fH] at ho1n
    refine wq (aH (.tuple (List.toArray _)) Z) Z (wq (bM (.slice _ _ _) Z Z) Z (wq (bM (.slice _ _ _) Z Z) Z (eG Z Z (eG Z Z (aB (aC (aE (aA (wq (aU 3 fZ M87 Z Z Z) Z (eL bTy Z Z (aZu _ qo.A qo.n qo.c (rU (opsO l) ps) (hL.opsRd M87 (bH (i:=0) Z) (fP (nC (fP (nC mD))))) (by omega) (k:Int) qm.A qm.n qm.c) ?_))))))))))
    rintro v88 w88 ⟨ql,rfl,hql,hM88⟩
    have M88:Mem _ _ ([_,_,_,_,_,_,_,_,_]++_) _:=Mem.front (L:=[_,_,_,_,_,_,_,_]) (M87.call0 hM88)
    refine dK Z Z (aR Z Z (eL bTz Z Z (aNi _ A n c l (hl.mem M88) hcap hby2 hn2 (k:Int) k (by omega)) ?_))
    rintro v89 w89 ⟨qm3,ms3,rfl,hqm3,hms3,hM89⟩
    have M89:Mem _ _ ([_,_,_,_,_,_,_,_,_,_]++_) _:=Mem.front (L:=[_,_,_,_,_,_,_,_,_]) (Mem.call0U (L:=[_,_,_,_,_,_,_,_,_]) (A:=[_]) M88 hM89)
    refine dO bTx Z Z M89 (aUf _ ql.A ql.n ql.c (rU (opsO l) ps) ⟨(hql.rd M89 (bH (i:=8) Z)),(hL.opsRd M89 (bH (i:=0) Z) (fP (nC (nC (fP (nC mD)))))).each⟩ qm.A qm.n qm.c ms _ (hL.bytRd M89 (bH (i:=1) Z) (fP (nC (nC (fP (fP (nC mD))))))) A n c l (hl.mem M89) hL.opsO qm3.A qm3.n qm3.c ms3 (hms3.rds hqm3 M89 (bH (i:=9) Z) (fP (fP mD)) aGf) (k:Int)) (fun w90 M90=>(wq (aH (.bool true) Z) Z (dK Z Z (dK Z Z (dO bUa Z Z M90 (aTk _ (kW [] (opsO l)) qa.A qa.n qa.c os (hoR.rds hqa M90 (bH (i:=5) Z) (fP (nC (nC (fP (fP (fP mD))))))) o1.A o1.n o1.c rs1 (hoR1.rds ho1 M90 (bH (i:=7) Z) (fP (nC (fP mD))))) (fun w91 M91 => ?_))))))
    refine wq (bQ true (.bool true) Z Z) Z (wq (aJ (.bool true) Z) Z (aB (aC (aP (cI (.bool true) Z ?_)))))
    exact ⟨Z,M91.below⟩
namespace replayAppends
open Go.ChangeShapes Go.WideShapes Go.ChangeAt Go.RowKit
open Go.ChangeMaps (open_string shut_string)
theorem own : ownKnob Tryz.prog.godebug = none := by kernel_rfl
theorem laidOut : laidOutB Tryz.prog = true := by kernel_rfl
set_option maxRecDepth 100000 in
theorem lifted (os : Os) (started : os.Started) (H : Type) (enc : TypeId × Value → H) :
  ReturnsInHanded {} Tryz.checked os 3 .any (fun w args => (Rows.replayAppendsSpec.pre enc Tryz.prog Tryz.f3 [] false w args ∧ laidMet Tryz.prog aGd w) ∧ sizedMet enc Tryz.prog Tryz.f3 (OpenSpec.ofChange Rows.replayAppendsSpec) false w args) (Rows.replayAppendsSpec.post enc Tryz.prog Tryz.f3 false true false false) := by
 refine returnsInHanded_of_change_and (C := Tryz.checked) (X := fun w _ => laidMet Tryz.prog aGd w) (fun _ _ _ hh h => h.of_heap hh) own started (by kernel_rfl) Tryz.func3
  (ChangeSpec.witness_at (enc := enc) (C := Tryz.checked) (os := os) (X := fun w _ => laidMet Tryz.prog aGd w) false (aZt os) #[.slice none 0 0, .int .u8 0] 8 rfl (by kernel_rfl) (by kernel_rfl) (by kernel_rfl) (by kernel_rfl) (by kernel_rfl) (laidMet_of_run' 8 (by kernel_rfl) (by kernel_rfl))) ?_
 intro W base args ds gs before hval0 hW hcnd hsz0 hL _
 have hsz : (DataW.weightsEach Tryz.prog (Tryz.f3.params.toList ++ Rows.replayAppendsSpec.plain.varTypes Tryz.prog) (ds ++ gs)).all (· ≤ reachBytes) = true := hsz0
 have hval : ∀ (j : Nat) t v, Tryz.f3.params[j]? = some t → args[j]? = some v → Value.okWide Tryz.prog W .any base t v := hval0
 have hW' := hW
 obtain ⟨p, q, hA0, hV, rfl, hfz, hnd⟩ := hW
 have hA : DataW.TrodAll enc Tryz.prog W 0 (fun _ => true) true Tryz.f3.params.toList args.toList ds p := hA0
 rw [Tryz.params3] at hA hval hsz
 obtain ⟨v0, vs0, d0, ds0, p0, q0, hargs, rfl, rfl, h0, r0⟩ := trodAll_cons hA
 obtain ⟨v1, vs1, d1, ds1, p1, q1, rfl, rfl, rfl, h1, r1⟩ := trodAll_cons r0
 obtain ⟨rfl, rfl, rfl⟩ := trodAll_nil r1
 obtain rfl : args = #[v0, v1] := by cases args; simp_all
 obtain ⟨rfl, rfl⟩ := trodVars_none hV
 have k0 := h0
 have lt0 : ∀ x ∈ p0, x.block < W.heap.size := by obtain ⟨m, hm⟩ := k0; exact DataW.trod_lt m _ _ _ hm
 obtain ⟨a0, len0, cap0, rfl⟩ := okWide_slice Tryz.underlying22 (hval 0 22 v0 rfl rfl)
 have y0 : ∀ n ∈ d0.weights Tryz.prog 22, n ≤ reachBytes := fun n hn => by simpa using List.all_eq_true.1 hsz _ (DataW.weights_mem_each (j := 0) rfl rfl n hn)
 obtain ⟨xs0, R0⟩ := bGl lW bWi y0 h0
 have cp0 := bHf lW h0
 obtain ⟨a1, rfl, rfl, rfl, w1⟩ := open_int Tryz.underlying5 (hval 1 5 v1 rfl rfl) h1
 have b1 : 0 ≤ a1 ∧ a1 ≤ 255 := bIi w1
 clear hA0 hval0 hsz0 hsz
 obtain ⟨t1, rfl⟩ := Int.eq_ofNat_of_zero_le b1.1
 refine (zL W (rdF hL) (rdN hL) _ _ _ xs0 R0 cp0 t1 (by omega)).mono fun e W' ⟨v, he, hv, bel⟩ => ?_
 subst he
 subst hv
 exact ⟨_, rfl, _, _, _, [], _, [], hW', trodAll_mk1 (shut_bool Tryz.underlying4 _), (trodAll_cons_mk (Below.trod laidOut (by kernel_rfl) (of_decide_eq_true (by kernel_rfl)) k0 bel lt0) (trodAll_cons_mk (shut_int Tryz.underlying5 w1) trodAll_mk0)), rfl, bel.frame _, fun h => by cases h⟩
theorem andT {a b : Bool} (ha : a = true) (hb : b = true) : (a && b) = true := by rw [ha, hb]; rfl
theorem closed : joinedFacts Tryz.prog 3 Tryz.f3 Rows.replayAppendsSpec Rows.replayAppendsRow = true := by
 unfold joinedFacts
 repeat' (with_reducible refine andT ?_ ?_)
 all_goals (as_aux_lemma => kernel_rfl)
theorem over : Rows.replayAppendsRow.holds Tryz.pinned (OpenSpec.ofChange Rows.replayAppendsSpec) :=
 OpenClaim.holds_of_wide 3 Tryz.f3 rfl rfl rfl rfl rfl rfl rfl ⟨rfl, rfl, rfl, rfl, rfl⟩ rfl rfl rfl rfl rfl (by kernel_rfl) Tryz.func3 closed
  (of_decide_eq_true (by kernel_rfl)) (by unfold Func.isWrapper; first | (rw [if_pos (by decide +kernel)]; kernel_rfl) | (rw [if_neg (by decide +kernel)]; exact ⟨rfl, rfl⟩))
  (fun os started H enc _ => lifted os started H enc)
end replayAppends
theorem replayAppends_holds : Rows.ReplayAppendsSaid := replayAppends.over
#print axioms replayAppends_holds
theorem replayAppends_cw : Rows.replayAppendsRow.wfByText (OpenSpec.ofChange Rows.replayAppendsSpec) = true := by kernel_rfl
theorem replayAppends_cl : false = Tryz.checked.prog.looks [] := by kernel_rfl
theorem replayAppends_cg : false = Rows.replayAppendsRow.goesBy Tryz.pinned.checked.prog := by kernel_rfl
theorem replayAppends_cm : Tryz.pinned.checked.prog.mainIs = some (true, "3c8e685196238db234e0a6f0f14bdfb98e7a99661f76caba36888095bd1556ba".toList) := by kernel_rfl
theorem replayAppends_cf : Tryz.prog.funcNamed "billiard/billiardlaw28.ReplayAppends" = some 3 := by kernel_rfl
theorem replayAppends_card : Rows.ReplayAppendsCardSaid :=
 Claim7.holds_tied_plain_at .later [] [.data, .data] true (true, "3c8e685196238db234e0a6f0f14bdfb98e7a99661f76caba36888095bd1556ba") false
  replayAppends_holds (fun _ h => by cases h) replayAppends_cw (fun _ h => by cases h) replayAppends_row_tie rfl ⟨rfl, rfl⟩ replayAppends_cm rfl
  (fun f fn hf hfn => by
   obtain rfl : f = 3 := Option.some.inj (replayAppends_cf.symm.trans hf) |>.symm
   obtain rfl : fn = Tryz.f3 := (Option.some.inj (Tryz.func3.symm.trans hfn)).symm
   exact ⟨replayAppends_cl, fun j t ht => by
    rw [Tryz.params3] at ht
    have hm : t ∈ [22, 5] := by simpa using Array.mem_of_getElem? ht
    have hall : ([22, 5].all fun u => !Tryz.prog.wantsStandIn u) = true := by kernel_rfl
    exact (show Tryz.prog.wantsStandIn t = false by simpa using List.all_eq_true.1 hall t hm)⟩)
  replayAppends_cg
#print axioms replayAppends_card
end Go.Proofs.YtpcloigancpnbaaGreatDoor
