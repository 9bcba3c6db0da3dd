import Derived.Test.YtaoaknafiegfoaaGreatDoorK37
import Derived.Test.YtaoaknafiegfoaaGreatDoorK38
import Derived.Test.YtaoaknafiegfoaaGreatDoorTie
import Derived.Test.YtaoaknafiegfoaaGreatDoorCards
import Derived.OpenShut
import Derived.ShutString
import Derived.Below
set_option linter.unusedVariables false
set_option linter.unusedSimpArgs false
set_option linter.unnecessarySimpa false
set_option maxHeartbeats 100000000
namespace Go.Proofs.YtaoaknafiegfoaaGreatDoor
open Go.Bil
open Go.RowKit (Below)
open Go.Proofs
theorem aRy (w:World) (F:Rd w 2 (some ⟨0,0,none⟩) 1 [[.int .u32 73856093,.int .u32 19349663]]) (N:Rd w 4 (some ⟨3,0,none⟩) 1 [dY gZ]) (A:Option Addr) (n c:Nat) (l:List OpRow) (hl:OpsRd w A n l) (hcap:n≤c) (z:Int) (u:Int) (hu:u < 0∨(n:Int) < u) :
  Calls Tryz.prog 10 #[.slice A n c,.int .i64 z,.int .i64 u] w (Rb w (.bool true)):=by
 have hlen:l.length=n:=by simpa using hl.rd.len
 have hbd:=hl.rd.bound
 obtain ⟨k,hk⟩:∃ k:Nat,max z 1=(k:Int):=⟨(max z 1).toNat,by omega⟩
 have hkp:0 < k:=by omega
 refine aI #[.tmp 6] 87 Tryz.func10 Z Tryz.results10 Tryz.ntmps10 Z ?_
 have M0:=Mem.refl w
 refine aE (aA (wq (aJ (.bool false) Z) Z (aB (aC (aE (aE (aA (dM rV Z Z M0 (aAe _ (F.mem M0) (N.mem M0)) (fun w1 M1=>(wq (fB false Z Z) Z (wq (aH (.bool false) Z) Z (dJ Z Z (eJ aLa Z Z (qS _ A n c l (hl.mem M1)) ?_)))))))))))))
 rintro v2 w2 ⟨⟨g,rfl,hg⟩,hb2⟩
 have M2:=M1.callB hb2
 refine wq (fB _ Z Z) Z (wq (bM false (.bool _) Z Z) Z (aB (aC ?_)))
 refine iN _ Z (fun h21 => ?_) (fun h21 => ?_)
 ·refine aE (aA (dM rV Z Z M2 (aAe _ (F.mem M2) (N.mem M2)) (fun w3 M3=>(wq (aJ (.bool true) Z) Z (aB (aC (aR (cK (cF (.bool true) Z ?_)))))))))
  exact ⟨Z,M3.below⟩
 ·obtain ⟨hn16,hby⟩:=hg (by simpa using h21)
  have hby2:∀ x∈l,x.n≤1000000:=fun x hx=>Nat.le_trans (hby x hx) (by decide)
  have hn2:n≤1000000:=by omega
  have hgood:=hl.good hby2
  have hok:=hl.okO hby2
  refine aM (aC (aE (aA (dJ Z Z (eJ aDu Z Z (jL _ A n c l (hl.mem M2) hby2 hn2) ?_)))))
  rintro v4 w4 ⟨qf,pf,rfl,hqf,hpf,hM4⟩
  have M4:Mem _ _ ([_]++_) _:=M2.call0 hM4
  have hplpf:pf.length=(opsO (l)).length:=by rw [hpf.len,List.length_map]
  have hnqf:((kN (opsO (l)) pf).map OpRow.cells).length=qf.n:=hqf.1
  rw [List.length_map,mV hplpf,dE] at hnqf
  refine aT Z Z (eJ aLb Z Z (qT _ (F.mem M4) (N.mem M4) qf.A qf.n qf.c (kN (opsO l) pf) (qO hpf hgood hqf M4 (aN (i:=0) Z) (dC fY)) (aBg hpf hgood) (by omega) z k hk) ?_)
  rintro v5 w5 ⟨qo,qm,q,ps,ms,rs,rfl,hL,hq,hoR,hM5⟩
  have M5:Mem _ _ ([_,_,_,_]++_) _:=Mem.front (L:=[_]) (Mem.call0U (L:=[_]) (A:=[_,_,_]) M4 hM5)
  rw [oD hplpf] at hL hq hoR
  have hon:=hL.on
  have hmn:=hL.mn
  have hqn:(iS _ rs).length=q.n:=hq.1
  rw [iT hoR.len,iU] at hqn
  rw [dE] at hon hqn hmn
  refine wq (aH (.tuple (List.toArray _)) Z) Z (wq (bJ (.agg (.mk _)) Z Z) Z (wq (bJ (.slice _ _ _) Z Z) Z (aO jX M5 Z Z (fun b6 w6 M6 => ?_))))
  have M7:Mem _ _ ([_,_,_,_,_]++_) _:=Mem.front (L:=[_,_,_,_]) M6
  refine bC 4 _ eK M7 Z Z Z Z Z (aP Z) Z (fun w8 M8=>(eI Z Z (aB (aC (aE (aA (dJ Z Z ?_)))))))
  have M9:Mem _ _ ([_,_,_,_,_]++(pf.map Row.e++(ps.map Row.e++(rs.map Row.e++ms.map Row.e)))) _:=M8
  refine eJ aQn Z Z (rJ _ A n c l (hl.mem M9) hby2 hn2) ?_
  rintro v10 w10 ⟨v1,o1,rs1,rfl,hv1,ho1,hoR1,hM10⟩
  have M10:Mem _ _ ([_,_,_,_,_,_,_]++_) _:=Mem.front (L:=[_,_,_,_,_]) (Mem.call0U (L:=[_,_,_,_,_]) (A:=[_,_]) M9 hM10)
  have ho1n:(kO [] (opsO (l))).length=o1.n:=by have h:(iS _ rs1).length=o1.n:=ho1.1;rwa [iT hoR1.len] at h
  rw [iU,dE] at ho1n
  refine wq (aH (.tuple (List.toArray _)) Z) Z (wq (bJ (.slice _ _ _) Z Z) Z (wq (bJ (.slice _ _ _) Z Z) Z (eI Z Z (eI Z Z (aB (aC (aE (aE (aA (wq (aV 4 eK M10 Z Z Z) Z (eJ aYb Z Z (xO _ qo.A qo.n qo.c (kN (opsO l) ps) (hL.opsRd M10 (aN (i:=1) Z) (dC (fQ (dC (fQ fY))))) (by omega) (k:Int) qm.A qm.n qm.c) ?_)))))))))))
  rintro v11 w11 ⟨ql,rfl,hql,hM11⟩
  have M11:Mem _ _ ([_,_,_,_,_,_,_,_]++_) _:=Mem.front (L:=[_,_,_,_,_,_,_]) (M10.call0 hM11)
  refine dJ Z Z (aT Z Z (eJ aLc Z Z (mC _ A n c l (hl.mem M11) hcap hby2 hn2 z k hk) ?_))
  rintro v12 w12 ⟨qm3,ms3,rfl,hqm3,hms3,hM12⟩
  have M12:Mem _ _ ([_,_,_,_,_,_,_,_,_]++_) _:=Mem.front (L:=[_,_,_,_,_,_,_,_]) (Mem.call0U (L:=[_,_,_,_,_,_,_,_]) (A:=[_]) M11 hM12)
  refine dM aYa Z Z M12 (uT _ ql.A ql.n ql.c (kN (opsO l) ps) ⟨(hql.rd M12 (aN (i:=7) Z)),(hL.opsRd M12 (aN (i:=1) Z) (dC (fQ (fQ (dC (fQ fY)))))).each⟩ qm.A qm.n qm.c ms _ (hL.bytRd M12 (aN (i:=2) Z) (dC (fQ (fQ (dC (dC (dC fY))))))) A n c l (hl.mem M12) hL.opsO qm3.A qm3.n qm3.c ms3 (hms3.rds hqm3 M12 (aN (i:=8) Z) (dC (dC fY)) oX) (k:Int)) (fun w13 M13=>(wq (fB false Z Z) Z (wq (aH (.bool false) Z) Z (dJ Z Z (dJ Z Z (dM bGf Z Z M13 (zK _ (kO [] (opsO l)) q.A q.n q.c rs (hoR.rds hq M13 (aN (i:=3) Z) (dC (fQ (fQ (dC (dC (fQ fY))))))) o1.A o1.n o1.c rs1 (hoR1.rds ho1 M13 (aN (i:=6) Z) (dC (fQ (dC fY))))) (fun w14 M14 => ?_)))))))
  refine wq (fB false Z Z) Z (wq (bM false (.bool false) Z Z) Z (aB (aC (cB Z (aM (aC (aE (aA (wq (aV 4 eK M14 Z Z Z) Z (aT Z Z (dM aQo Z Z M14 (aTf _ (F.mem M14) (N.mem M14) qo.A qo.n qo.c (kN (opsO l) ps) (hL.opsRd M14 (aN (i:=1) Z) (dC (fQ (fQ (dC (fQ fY)))))) hL.ops.slice hL.bn (by omega) qm.A qm.n qm.c ms _ (hL.bytRd M14 (aN (i:=2) Z) (dC (fQ (fQ (dC (dC (dC fY))))))) k u (by omega)) (fun w15 M15=>(wq (aH (.tuple (List.toArray _)) Z) Z (wq (bJ (.pointer _) Z Z) Z ?_))))))))))))))
  refine wq (bJ (.int _ _) Z Z) Z (wq (aJ (.pointer _) Z) Z (bL Z Z (aB (aC (aE (aE (aA (aT Z Z (cV Z Z Z Z (wq (aH (.bool (decide _)) Z) Z ?_))))))))))
  refine dT 56 Z (fun g56 => ?_) (fun g56 => ?_)
  ·refine aQ Z Z (aQ Z Z (aQ Z Z (aQ Z Z (wq (bM true (.bool true) Z Z) Z (aB (aC (cE Z (aE (aA (wq (aH (.pointer _) Z) Z (wq (gT true Tryz.underlying25 Z Z) Z (wq (aH (.bool true) Z) Z (aT Z Z (cV Z Z Z Z (jU 66 Z (by first | decide | omega) (wq (bM true (.bool true) Z Z) Z (wq (aJ (.bool true) Z) Z ?_)))))))))))))))))
   refine aB (aC (aR (cK (cF (.bool true) Z ?_))))
   exact ⟨Z,M15.below⟩
  ·refine aT Z Z (dJ Z Z (wq (bW Tryz.underlying22 Z) Z (cV Z Z Z Z (jU 60 Z (by omega) (wq (bM false (.bool true) Z Z) Z (aB (aC (cE Z (aE (aA (wq (aH (.pointer _) Z) Z (wq (gT true Tryz.underlying25 Z Z) Z (wq (aH (.bool true) Z) Z (aT Z Z (cV Z Z Z Z (jU 66 Z (by first | decide | omega) (wq (bM true (.bool true) Z Z) Z ?_)))))))))))))))))
   refine wq (aJ (.bool true) Z) Z (aB (aC (aR (cK (cF (.bool true) Z ?_)))))
   exact ⟨Z,M15.below⟩
theorem aVs (w:World) (F:Rd w 2 (some ⟨0,0,none⟩) 1 [[.int .u32 73856093,.int .u32 19349663]]) (N:Rd w 4 (some ⟨3,0,none⟩) 1 [dY gZ]) (A:Option Addr) (n c:Nat) (l:List OpRow) (hl:OpsRd w A n l) (hcap:n≤c) (z:Int) (nn:Nat) (hnn:nn≤n) :
  Calls Tryz.prog 10 #[.slice A n c,.int .i64 z,.int .i64 (nn:Int)] w (Rb w (.bool true)):=by
 have hlen:l.length=n:=by simpa using hl.rd.len
 have hbd:=hl.rd.bound
 obtain ⟨k,hk⟩:∃ k:Nat,max z 1=(k:Int):=⟨(max z 1).toNat,by omega⟩
 have hkp:0 < k:=by omega
 have hS:=hl.sub 0 nn (Nat.zero_le _) hnn hcap
 rw [List.drop_zero,Nat.sub_zero] at hS
 refine aI #[.tmp 6] 87 Tryz.func10 Z Tryz.results10 Tryz.ntmps10 Z ?_
 have M0:=Mem.refl w
 refine aE (aA (wq (aJ (.bool false) Z) Z (aB (aC (aE (aE (aA (dM rV Z Z M0 (aAe _ (F.mem M0) (N.mem M0)) (fun w1 M1=>(wq (fB false Z Z) Z (wq (aH (.bool false) Z) Z (dJ Z Z (eJ aLa Z Z (qS _ A n c l (hl.mem M1)) ?_)))))))))))))
 rintro v2 w2 ⟨⟨g,rfl,hg⟩,hb2⟩
 have M2:=M1.callB hb2
 refine wq (fB _ Z Z) Z (wq (bM false (.bool _) Z Z) Z (aB (aC ?_)))
 refine iN _ Z (fun h21 => ?_) (fun h21 => ?_)
 ·refine aE (aA (dM rV Z Z M2 (aAe _ (F.mem M2) (N.mem M2)) (fun w3 M3=>(wq (aJ (.bool true) Z) Z (aB (aC (aR (cK (cF (.bool true) Z ?_)))))))))
  exact ⟨Z,M3.below⟩
 ·obtain ⟨hn16,hby⟩:=hg (by simpa using h21)
  have hby2:∀ x∈l,x.n≤1000000:=fun x hx=>Nat.le_trans (hby x hx) (by decide)
  have hn2:n≤1000000:=by omega
  have hgood:=hl.good hby2
  have hok:=hl.okO hby2
  refine aM (aC (aE (aA (dJ Z Z (eJ aDu Z Z (jL _ A n c l (hl.mem M2) hby2 hn2) ?_)))))
  rintro v4 w4 ⟨qf,pf,rfl,hqf,hpf,hM4⟩
  have M4:Mem _ _ ([_]++_) _:=M2.call0 hM4
  have hplpf:pf.length=(opsO (l)).length:=by rw [hpf.len,List.length_map]
  have hnqf:((kN (opsO (l)) pf).map OpRow.cells).length=qf.n:=hqf.1
  rw [List.length_map,mV hplpf,dE] at hnqf
  refine aT Z Z (eJ aLb Z Z (qT _ (F.mem M4) (N.mem M4) qf.A qf.n qf.c (kN (opsO l) pf) (qO hpf hgood hqf M4 (aN (i:=0) Z) (dC fY)) (aBg hpf hgood) (by omega) z k hk) ?_)
  rintro v5 w5 ⟨qo,qm,q,ps,ms,rs,rfl,hL,hq,hoR,hM5⟩
  have M5:Mem _ _ ([_,_,_,_]++_) _:=Mem.front (L:=[_]) (Mem.call0U (L:=[_]) (A:=[_,_,_]) M4 hM5)
  rw [oD hplpf] at hL hq hoR
  have hon:=hL.on
  have hmn:=hL.mn
  have hqn:(iS _ rs).length=q.n:=hq.1
  rw [iT hoR.len,iU] at hqn
  rw [dE] at hon hqn hmn
  refine wq (aH (.tuple (List.toArray _)) Z) Z (wq (bJ (.agg (.mk _)) Z Z) Z (wq (bJ (.slice _ _ _) Z Z) Z (aO jX M5 Z Z (fun b6 w6 M6 => ?_))))
  have M7:Mem _ _ ([_,_,_,_,_]++_) _:=Mem.front (L:=[_,_,_,_]) M6
  refine bC 4 _ eK M7 Z Z Z Z Z (aP Z) Z (fun w8 M8=>(eI Z Z (aB (aC (aE (aA (dJ Z Z ?_)))))))
  have M9:Mem _ _ ([_,_,_,_,_]++(pf.map Row.e++(ps.map Row.e++(rs.map Row.e++ms.map Row.e)))) _:=M8
  refine eJ aQn Z Z (rJ _ A n c l (hl.mem M9) hby2 hn2) ?_
  rintro v10 w10 ⟨v1,o1,rs1,rfl,hv1,ho1,hoR1,hM10⟩
  have M10:Mem _ _ ([_,_,_,_,_,_,_]++_) _:=Mem.front (L:=[_,_,_,_,_]) (Mem.call0U (L:=[_,_,_,_,_]) (A:=[_,_]) M9 hM10)
  have ho1n:(kO [] (opsO (l))).length=o1.n:=by have h:(iS _ rs1).length=o1.n:=ho1.1;rwa [iT hoR1.len] at h
  rw [iU,dE] at ho1n
  refine wq (aH (.tuple (List.toArray _)) Z) Z (wq (bJ (.slice _ _ _) Z Z) Z (wq (bJ (.slice _ _ _) Z Z) Z (eI Z Z (eI Z Z (aB (aC (aE (aE (aA (wq (aV 4 eK M10 Z Z Z) Z (eJ aYb Z Z (xO _ qo.A qo.n qo.c (kN (opsO l) ps) (hL.opsRd M10 (aN (i:=1) Z) (dC (fQ (dC (fQ fY))))) (by omega) (k:Int) qm.A qm.n qm.c) ?_)))))))))))
  rintro v11 w11 ⟨ql,rfl,hql,hM11⟩
  have M11:Mem _ _ ([_,_,_,_,_,_,_,_]++_) _:=Mem.front (L:=[_,_,_,_,_,_,_]) (M10.call0 hM11)
  refine dJ Z Z (aT Z Z (eJ aLc Z Z (mC _ A n c l (hl.mem M11) hcap hby2 hn2 z k hk) ?_))
  rintro v12 w12 ⟨qm3,ms3,rfl,hqm3,hms3,hM12⟩
  have M12:Mem _ _ ([_,_,_,_,_,_,_,_,_]++_) _:=Mem.front (L:=[_,_,_,_,_,_,_,_]) (Mem.call0U (L:=[_,_,_,_,_,_,_,_]) (A:=[_]) M11 hM12)
  refine dM aYa Z Z M12 (uT _ ql.A ql.n ql.c (kN (opsO l) ps) ⟨(hql.rd M12 (aN (i:=7) Z)),(hL.opsRd M12 (aN (i:=1) Z) (dC (fQ (fQ (dC (fQ fY)))))).each⟩ qm.A qm.n qm.c ms _ (hL.bytRd M12 (aN (i:=2) Z) (dC (fQ (fQ (dC (dC (dC fY))))))) A n c l (hl.mem M12) hL.opsO qm3.A qm3.n qm3.c ms3 (hms3.rds hqm3 M12 (aN (i:=8) Z) (dC (dC fY)) oX) (k:Int)) (fun w13 M13=>(wq (fB false Z Z) Z (wq (aH (.bool false) Z) Z (dJ Z Z (dJ Z Z (dM bGf Z Z M13 (zK _ (kO [] (opsO l)) q.A q.n q.c rs (hoR.rds hq M13 (aN (i:=3) Z) (dC (fQ (fQ (dC (dC (fQ fY))))))) o1.A o1.n o1.c rs1 (hoR1.rds ho1 M13 (aN (i:=6) Z) (dC (fQ (dC fY))))) (fun w14 M14 => ?_)))))))
  refine wq (fB false Z Z) Z (wq (bM false (.bool false) Z Z) Z (aB (aC (cB Z (aM (aC (aE (aA (wq (aV 4 eK M14 Z Z Z) Z (aT Z Z (eJ aQo Z Z (aPd _ (F.mem M14) (N.mem M14) qo.A qo.n qo.c (kN (opsO l) ps) (hL.opsRd M14 (aN (i:=1) Z) (dC (fQ (fQ (dC (fQ fY)))))) hL.ops.slice hL.bn (by omega) qm.A qm.n qm.c ms _ (hL.bytRd M14 (aN (i:=2) Z) (dC (fQ (fQ (dC (dC (dC fY))))))) (sE hL.okO) k hkp (by rw [hon,hmn];exact Nat.le_refl _) nn (by omega)) ?_)))))))))))
  rintro v15 w15 ⟨wb,r,rfl,hr,hM15⟩
  have M15:Mem _ _ ([_,_,_,_,_,_,_,_,_,_,_,_]++_) _:=Mem.front (L:=[_,_,_,_,_,_,_,_,_]) (M14.call0 hM15)
  rw [hL.opsO,zT hL.okO hkp (by rw [dE];omega)] at hr
  refine wq (aH (.tuple (List.toArray _)) Z) Z (wq (bJ (.pointer _) Z Z) Z (wq (bJ (.int _ _) Z Z) Z (wq (aJ (.pointer _) Z) Z (bL Z Z (aB (aC (aE (aE (aA (aT Z Z (cV Z Z Z Z (nP 55 Z (by omega) (wq (aH (.bool false) Z) Z (aT Z Z (dJ Z Z (wq (bW Tryz.underlying22 Z) Z (cV Z Z Z Z (nP 60 Z (by omega) (wq (bM false (.bool false) Z Z) Z ?_)))))))))))))))))))
  refine aB (aC (cB Z (aM (aC (aE (aA (dJ Z Z (aT Z Z (wq (fF (0) ((nn:Int)) kU Z Z ⟨_,Z⟩ (by omega) (by omega) (by omega)) Z (eJ aQn Z Z (rJ _ _ (nn - 0) _ (l.take nn) (hS.mem M15) (fun x hx=>hby2 x (List.mem_of_mem_take hx)) (by omega)) ?_))))))))))
  rintro v16 w16 ⟨v2,o2,rs2,rfl,hv2,ho2,hoR2,hM16⟩
  have M16:Mem _ _ ([_,_,_,_,_,_,_,_,_,_,_,_,_,_]++_) _:=Mem.front (L:=[_,_,_,_,_,_,_,_,_,_,_,_]) (Mem.call0U (L:=[_,_,_,_,_,_,_,_,_,_,_,_]) (A:=[_,_]) M15 hM16)
  have ho2n:(kO [] (opsO ((l.take nn)))).length=o2.n:=by have h:(iS _ rs2).length=o2.n:=ho2.1;rwa [iT hoR2.len] at h
  rw [iU,dE] at ho2n
  rw [tV] at hv2
  refine wq (aH (.tuple (List.toArray _)) Z) Z (wq (bJ (.slice _ _ _) Z Z) Z (wq (bJ (.slice _ _ _) Z Z) Z (eI Z Z (eI Z Z (aB (aC (aE (aA (wq (aH (.pointer _) Z) Z (wq (uP true Tryz.underlying25 Z Z) Z (wq (aH (.bool true) Z) Z (aT Z Z (cV Z Z Z Z (jU 79 Z (by first | decide | omega) (wq (bM true (.bool true) Z Z) Z (wq (aH (.bool true) Z) Z (wq (aH (.pointer _) Z) Z (eJ bGe Z Z (zW _ _ r _ hr (M16.ownSeg 9 3)) ?_))))))))))))))))))
  rintro v17 w17 ⟨qv,rfl,hqv,hM17⟩
  have M17:Mem _ _ ([_,_,_,_,_,_,_,_,_,_,_,_,_,_,_]++_) _:=Mem.front (L:=[_,_,_,_,_,_,_,_,_,_,_,_,_,_]) (M16.seg 9 3 hM17)
  refine dJ Z Z (dM bWl Z Z M17 (aWk _ _ _ _ _ (hqv.rd M17 (aN (i:=14) Z)) _ _ _ _ (hv2.rd M17 (aN (i:=12) Z))) (fun w18 M18=>(jU 85 Z Z (wq (bM true (.bool true) Z Z) Z (wq (aJ (.bool true) Z) Z (aB (aC (aR (cF (.bool true) Z ?_)))))))))
  exact ⟨Z,M18.below⟩
theorem rE (w:World) (F:Rd w 2 (some ⟨0,0,none⟩) 1 [[.int .u32 73856093,.int .u32 19349663]]) (N:Rd w 4 (some ⟨3,0,none⟩) 1 [dY gZ]) (A:Option Addr) (n c:Nat) (l:List OpRow) (hl:OpsRd w A n l) (hcap:n≤c) (z:Int) (u:Int):Calls Tryz.prog 10 #[.slice A n c,.int .i64 z,.int .i64 u] w (Rb w (.bool true)):=by
 by_cases h:u < 0∨(n:Int) < u
 ·exact aRy w F N A n c l hl hcap z u h
 ·obtain ⟨nn,rfl⟩:=Int.eq_ofNat_of_zero_le (show 0≤u by omega)
  exact aVs w F N A n c l hl hcap z nn (by omega)
namespace replayMatchesReference
open Go.ChangeShapes Go.WideShapes Go.ChangeAt Go.RowKit
open Go.ChangeMaps (open_string shut_string)
theorem own : ownKnob Tryz.prog.godebug = none := by kernel_rfl
theorem laidOut : laidOutB Tryz.prog = true := by kernel_rfl
set_option maxRecDepth 100000 in
theorem lifted (os : Os) (started : os.Started) (H : Type) (enc : TypeId × Value → H) :
  ReturnsInHanded {} Tryz.checked os 10 .any (fun w args => (Rows.replayMatchesReferenceSpec.pre enc Tryz.prog Tryz.f10 [] false w args ∧ laidMet Tryz.prog oB w) ∧ sizedMet enc Tryz.prog Tryz.f10 (OpenSpec.ofChange Rows.replayMatchesReferenceSpec) false w args) (Rows.replayMatchesReferenceSpec.post enc Tryz.prog Tryz.f10 false true false false) := by
 refine returnsInHanded_of_change_and (C := Tryz.checked) (X := fun w _ => laidMet Tryz.prog oB w) (fun _ _ _ hh h => h.of_heap hh) own started (by kernel_rfl) Tryz.func10
  (ChangeSpec.witness_at (enc := enc) (C := Tryz.checked) (os := os) (X := fun w _ => laidMet Tryz.prog oB w) false (tU os) #[.slice none 0 0, .int .i64 0, .int .i64 0] 8 rfl (by kernel_rfl) (by kernel_rfl) (by kernel_rfl) (by kernel_rfl) (by kernel_rfl) (laidMet_of_run' 8 (by kernel_rfl) (by kernel_rfl))) ?_
 intro W base args ds gs before hval0 hW hcnd hsz0 hL _
 have hsz : (DataW.weightsEach Tryz.prog (Tryz.f10.params.toList ++ Rows.replayMatchesReferenceSpec.plain.varTypes Tryz.prog) (ds ++ gs)).all (· ≤ reachBytes) = true := hsz0
 have hval : ∀ (j : Nat) t v, Tryz.f10.params[j]? = some t → args[j]? = some v → Value.okWide Tryz.prog W .any base t v := hval0
 have hW' := hW
 obtain ⟨p, q, hA0, hV, rfl, hfz, hnd⟩ := hW
 have hA : DataW.TrodAll enc Tryz.prog W 0 (fun _ => true) true Tryz.f10.params.toList args.toList ds p := hA0
 rw [Tryz.params10] at hA hval hsz
 obtain ⟨v0, vs0, d0, ds0, p0, q0, hargs, rfl, rfl, h0, r0⟩ := trodAll_cons hA
 obtain ⟨v1, vs1, d1, ds1, p1, q1, rfl, rfl, rfl, h1, r1⟩ := trodAll_cons r0
 obtain ⟨v2, vs2, d2, ds2, p2, q2, rfl, rfl, rfl, h2, r2⟩ := trodAll_cons r1
 obtain ⟨rfl, rfl, rfl⟩ := trodAll_nil r2
 obtain rfl : args = #[v0, v1, v2] := by cases args; simp_all
 obtain ⟨rfl, rfl⟩ := trodVars_none hV
 have k0 := h0
 have lt0 : ∀ x ∈ p0, x.block < W.heap.size := by obtain ⟨m, hm⟩ := k0; exact DataW.trod_lt m _ _ _ hm
 obtain ⟨a0, len0, cap0, rfl⟩ := okWide_slice Tryz.underlying22 (hval 0 22 v0 rfl rfl)
 have y0 : ∀ n ∈ d0.weights Tryz.prog 22, n ≤ reachBytes := fun n hn => by simpa using List.all_eq_true.1 hsz _ (DataW.weights_mem_each (j := 0) rfl rfl n hn)
 obtain ⟨xs0, R0⟩ := wD kU aSi y0 h0
 have cp0 := aBr kU h0
 obtain ⟨a1, rfl, rfl, rfl, w1⟩ := open_int Tryz.underlying3 (hval 1 3 v1 rfl rfl) h1
 have b1 : -9223372036854775808 ≤ a1 ∧ a1 ≤ 9223372036854775807 := wV w1
 obtain ⟨a2, rfl, rfl, rfl, w2⟩ := open_int Tryz.underlying3 (hval 2 3 v2 rfl rfl) h2
 have b2 : -9223372036854775808 ≤ a2 ∧ a2 ≤ 9223372036854775807 := wV w2
 clear hA0 hval0 hsz0 hsz
 refine (rE W (rdF hL) (rdN hL) _ _ _ xs0 R0 cp0 a1 a2).mono fun e W' ⟨v, he, hv, bel⟩ => ?_
 subst he
 subst hv
 exact ⟨_, rfl, _, _, _, [], _, [], hW', trodAll_mk1 (shut_bool Tryz.underlying4 _), (trodAll_cons_mk (Below.trod laidOut (by kernel_rfl) (of_decide_eq_true (by kernel_rfl)) k0 bel lt0) (trodAll_cons_mk (shut_int Tryz.underlying3 w1) (trodAll_cons_mk (shut_int Tryz.underlying3 w2) trodAll_mk0))), rfl, bel.frame _, fun h => by cases h⟩
theorem andT {a b : Bool} (ha : a = true) (hb : b = true) : (a && b) = true := by rw [ha, hb]; rfl
theorem closed : joinedFacts Tryz.prog 10 Tryz.f10 Rows.replayMatchesReferenceSpec Rows.replayMatchesReferenceRow = true := by
 unfold joinedFacts
 repeat' (with_reducible refine andT ?_ ?_)
 all_goals (as_aux_lemma => kernel_rfl)
theorem over : Rows.replayMatchesReferenceRow.holds Tryz.pinned (OpenSpec.ofChange Rows.replayMatchesReferenceSpec) :=
 OpenClaim.holds_of_wide 10 Tryz.f10 rfl rfl rfl rfl rfl rfl rfl ⟨rfl, rfl, rfl, rfl, rfl⟩ rfl rfl rfl rfl rfl (by kernel_rfl) Tryz.func10 closed
  (of_decide_eq_true (by kernel_rfl)) (by unfold Func.isWrapper; first | (rw [if_pos (by decide +kernel)]; kernel_rfl) | (rw [if_neg (by decide +kernel)]; exact ⟨rfl, rfl⟩))
  (fun os started H enc _ => lifted os started H enc)
end replayMatchesReference
theorem replayMatchesReference_holds : Rows.ReplayMatchesReferenceSaid := replayMatchesReference.over
#print axioms replayMatchesReference_holds
theorem replayMatchesReference_cw : Rows.replayMatchesReferenceRow.wfByText (OpenSpec.ofChange Rows.replayMatchesReferenceSpec) = true := by kernel_rfl
theorem replayMatchesReference_cl : false = Tryz.checked.prog.looks [] := by kernel_rfl
theorem replayMatchesReference_cg : false = Rows.replayMatchesReferenceRow.goesBy Tryz.pinned.checked.prog := by kernel_rfl
theorem replayMatchesReference_cm : Tryz.pinned.checked.prog.mainIs = some (true, "60fad30dfb67d9dd14e679b449d58df77fa72712b07425b57b34720f96154737".toList) := by kernel_rfl
theorem replayMatchesReference_cf : Tryz.prog.funcNamed "billiard/billiardlaw28.ReplayMatchesReference" = some 10 := by kernel_rfl
theorem replayMatchesReference_card : Rows.ReplayMatchesReferenceCardSaid :=
 Claim7.holds_tied_plain_at .later [] [.data, .data] true (true, "60fad30dfb67d9dd14e679b449d58df77fa72712b07425b57b34720f96154737") false
  replayMatchesReference_holds (fun _ h => by cases h) replayMatchesReference_cw (fun _ h => by cases h) replayMatchesReference_row_tie rfl ⟨rfl, rfl⟩ replayMatchesReference_cm rfl
  (fun f fn hf hfn => by
   obtain rfl : f = 10 := Option.some.inj (replayMatchesReference_cf.symm.trans hf) |>.symm
   obtain rfl : fn = Tryz.f10 := (Option.some.inj (Tryz.func10.symm.trans hfn)).symm
   exact ⟨replayMatchesReference_cl, fun j t ht => by
    rw [Tryz.params10] at ht
    have hm : t ∈ [22, 3, 3] := by simpa using Array.mem_of_getElem? ht
    have hall : ([22, 3, 3].all fun u => !Tryz.prog.wantsStandIn u) = true := by kernel_rfl
    exact (show Tryz.prog.wantsStandIn t = false by simpa using List.all_eq_true.1 hall t hm)⟩)
  replayMatchesReference_cg
#print axioms replayMatchesReference_card
end Go.Proofs.YtaoaknafiegfoaaGreatDoor
