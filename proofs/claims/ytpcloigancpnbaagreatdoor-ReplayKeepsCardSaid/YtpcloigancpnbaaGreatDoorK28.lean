/- Part of the proof of a law of this seat (10 texts). No conditions. -/
import Derived.Test.YtpcloigancpnbaaGreatDoorK12
import Derived.Test.YtpcloigancpnbaaGreatDoorK18
set_option linter.unusedVariables false
set_option linter.unusedSimpArgs false
set_option linter.unnecessarySimpa false
set_option maxHeartbeats 100000000
namespace Go.Proofs.YtpcloigancpnbaaGreatDoor
open Go.Bil
open Go.RowKit (Below)
open Go.Proofs
open Go.Proofs.Tryz
theorem zT (w:World) (a:Int) (h0 : -9223372036854775808≤a) (h1:a≤9223372036854775807) :
  Calls prog 226 #[.int .i64 a] w (Rb w ((.agg ((bVi a.natAbs).map mE).toArray))):=by
 obtain ⟨m,hm⟩:∃ m,m=a.natAbs:=⟨_,rfl⟩
 refine aI #[.cell 2 307] 24 func226 Z results226 ntmps226 Z ?_
 have M0:=Mem.refl w
 refine aE (aA (aR wM M0 Z Z (fun b1 w1 M1=>(aB (aC (aE (aA (aR wM M1 Z Z (fun b2 w2 M2=>(aB (aC (aE (aA (aQ Z Z (wq (dF mV underlying193 Z) Z (bK Z Z (aB (aC (aE (aE (aA (aQ Z Z (cX Z Z Z Z (aB (aC ?_)))))))))))))))))))))))))
 refine aU Z (fun h9 => ?_) (fun h9 => ?_)
 ·refine aA (aQ Z Z (wq (sE Z) Z (aL 11 (.int .u64 ((m:Nat):Int)) (iE (by rw [gS,gS];omega)) (bK Z Z (aB (aC (aE (aE (aA (bK Z Z (aB (aC (aP (jH 5 (fO (aE (aE (aA (aQ Z Z (cX Z Z Z Z (kR 13 Z (by first | decide | omega) (aB (aC (cE Z (aM (aC (aE (aP (aE (aA ?_))))))))))))))))))))))))))))))
  refine aQ Z Z (aQ Z Z (aL 17 (.int .u64 ((m:Nat):Int)) (iE (by first | rfl | (rw [gS];omega) | (rw [gS,gS];omega))) (wq (iJ Z Z (by decide)) Z (aL 18 (.int .u64 ((m % 65536:Nat):Int)) (iE (jZ (m) 65536)) (wq (aD 0 bU Z) Z (wq (cD (0) dD Z Z Z (by decide)) Z (dA 1 (.int _ _) cT M2 Z Z Z Z Z Z (fun w3 M3=>(aB (aC (aA (aQ Z Z (aL 21 (.int .u64 ((m:Nat):Int)) (iE (by first | rfl | (rw [gS];omega) | (rw [gS,gS];omega))) (wq (gA Z Z (by decide)) Z (aL 22 (.int .u64 ((m / 65536:Nat):Int)) (iE (jL (m) 65536 (by omega))) ?_)))))))))))))))
  refine bK Z Z (aB (cR (aC (aA (aQ Z Z (wq (bC Z Z (by first | decide | omega) (by first | decide | omega)) Z (aL 15 (.int .i64 1) (iE (by first | decide | omega)) (bK Z Z (aB (aC (fO (eF (fr:=[(2,.pointer _),(3,.pointer _),(4,.int _ _),(5,.int .i64 1)]) (bE Z (bE Z (bE Z (bE Z dZ)))) (fun ρ4=>(aE (aE (aA (aQ Z Z (cX Z Z Z Z (kR 13 Z (by first | decide | omega) (aB (aC ?_)))))))))))))))))))))
  refine cE Z (aM (aC (aE (aP (aE (aA (aQ Z Z (aQ Z Z (aL 17 (.int .u64 ((m / 65536:Nat):Int)) (iE (by first | rfl | (rw [gS];omega) | (rw [gS,gS];omega))) (wq (iJ Z Z (by decide)) Z (aL 18 (.int .u64 ((m / 65536 % 65536:Nat):Int)) (iE (jZ (m / 65536) 65536)) (wq (aD 0 bU Z) Z (wq (cD (1) dD Z Z Z (by decide)) Z (dA 1 (.int _ _) cT M3 Z Z Z Z Z Z (fun w5 M5=>(aB (aC (aA (aQ Z Z (aL 21 (.int .u64 ((m / 65536:Nat):Int)) (iE (by first | rfl | (rw [gS];omega) | (rw [gS,gS];omega))) ?_))))))))))))))))))))
  refine wq (gA Z Z (by decide)) Z (aL 22 (.int .u64 ((m / 65536 / 65536:Nat):Int)) (iE (jL (m / 65536) 65536 (by omega))) (bK Z Z (aB (cR (aC (aA (aQ Z Z (wq (bC Z Z (by first | decide | omega) (by first | decide | omega)) Z (aL 15 (.int .i64 2) (iE (by first | decide | omega)) (bK Z Z (aB (aC (fO (eF (fr:=[(2,.pointer _),(3,.pointer _),(4,.int _ _),(5,.int .i64 2)]) (bE Z (bE Z (bE Z (bE Z dZ)))) (fun ρ6=>(aE (aE (aA (aQ Z Z (cX Z Z Z Z ?_))))))))))))))))))))
  refine kR 13 Z (by first | decide | omega) (aB (aC (cE Z (aM (aC (aE (aP (aE (aA (aQ Z Z (aQ Z Z (aL 17 (.int .u64 ((m / 65536 / 65536:Nat):Int)) (iE (by first | rfl | (rw [gS];omega) | (rw [gS,gS];omega))) (wq (iJ Z Z (by decide)) Z (aL 18 (.int .u64 ((m / 65536 / 65536 % 65536:Nat):Int)) (iE (jZ (m / 65536 / 65536) 65536)) (wq (aD 0 bU Z) Z (wq (cD (2) dD Z Z Z (by decide)) Z (dA 1 (.int _ _) cT M5 Z Z Z Z Z Z (fun w7 M7=>(aB (aC (aA (aQ Z Z (aL 21 (.int .u64 ((m / 65536 / 65536:Nat):Int)) (iE (by first | rfl | (rw [gS];omega) | (rw [gS,gS];omega))) ?_)))))))))))))))))))))))
  refine wq (gA Z Z (by decide)) Z (aL 22 (.int .u64 ((m / 65536 / 65536 / 65536:Nat):Int)) (iE (jL (m / 65536 / 65536) 65536 (by omega))) (bK Z Z (aB (cR (aC (aA (aQ Z Z (wq (bC Z Z (by first | decide | omega) (by first | decide | omega)) Z (aL 15 (.int .i64 3) (iE (by first | decide | omega)) (bK Z Z (aB (aC (fO (eF (fr:=[(2,.pointer _),(3,.pointer _),(4,.int _ _),(5,.int .i64 3)]) (bE Z (bE Z (bE Z (bE Z dZ)))) (fun ρ8=>(aE (aE (aA (aQ Z Z (cX Z Z Z Z ?_))))))))))))))))))))
  refine kR 13 Z (by first | decide | omega) (aB (aC (cE Z (aM (aC (aE (aP (aE (aA (aQ Z Z (aQ Z Z (aL 17 (.int .u64 ((m / 65536 / 65536 / 65536:Nat):Int)) (iE (by first | rfl | (rw [gS];omega) | (rw [gS,gS];omega))) (wq (iJ Z Z (by decide)) Z (aL 18 (.int .u64 ((m / 65536 / 65536 / 65536 % 65536:Nat):Int)) (iE (jZ (m / 65536 / 65536 / 65536) 65536)) (wq (aD 0 bU Z) Z (wq (cD (3) dD Z Z Z (by decide)) Z (dA 1 (.int _ _) cT M7 Z Z Z Z Z Z (fun w9 M9=>(aB (aC (aA ?_)))))))))))))))))))))
  refine aQ Z Z (aL 21 (.int .u64 ((m / 65536 / 65536 / 65536:Nat):Int)) (iE (by first | rfl | (rw [gS];omega) | (rw [gS,gS];omega))) (wq (gA Z Z (by decide)) Z (aL 22 (.int .u64 ((m / 65536 / 65536 / 65536 / 65536:Nat):Int)) (iE (jL (m / 65536 / 65536 / 65536) 65536 (by omega))) (bK Z Z (aB (cR (aC (aA (aQ Z Z (wq (bC Z Z (by first | decide | omega) (by first | decide | omega)) Z (aL 15 (.int .i64 4) (iE (by first | decide | omega)) (bK Z Z (aB (aC (fO (eF (fr:=[(2,.pointer _),(3,.pointer _),(4,.int _ _),(5,.int .i64 4)]) (bE Z (bE Z (bE Z (bE Z dZ)))) (fun ρ10 => ?_)))))))))))))))))
  refine aE (aE (aA (aQ Z Z (cX Z Z Z Z (pD 13 Z (by first | decide | omega) (aB (aC (cG Z (cN (dC (dC (eJ (aC (aE (aA (wq (aX 1 oX M9 Z Z Z) Z (bG 0 _ oX M9 Z Z Z Z Z (aS Z) Z (fun w11 M11=>(aB (aC (aO (eQ 0 oX M11 Z Z Z ?_))))))))))))))))))))))
  exact ⟨by rw [← hm];rfl,M11.below⟩
 ·refine aM (aC (aE (aE (aA (bK Z Z (aB (aC (aP (jH 5 (fO (aE (aE (aA (aQ Z Z (cX Z Z Z Z (kR 13 Z (by first | decide | omega) (aB (aC (cE Z (aM (aC (aE (aP (aE (aA (aQ Z Z (aQ Z Z (aL 17 (.int .u64 ((m:Nat):Int)) (iE (by first | rfl | (rw [gS];omega) | (rw [gS,gS];omega))) (wq (iJ Z Z (by decide)) Z (aL 18 (.int .u64 ((m % 65536:Nat):Int)) (iE (jZ (m) 65536)) ?_))))))))))))))))))))))))))))))
  refine wq (aD 0 bU Z) Z (wq (cD (0) dD Z Z Z (by decide)) Z (dA 1 (.int _ _) cT M2 Z Z Z Z Z Z (fun w12 M12=>(aB (aC (aA (aQ Z Z (aL 21 (.int .u64 ((m:Nat):Int)) (iE (by first | rfl | (rw [gS];omega) | (rw [gS,gS];omega))) (wq (gA Z Z (by decide)) Z (aL 22 (.int .u64 ((m / 65536:Nat):Int)) (iE (jL (m) 65536 (by omega))) (bK Z Z (aB (cR (aC (aA (aQ Z Z (wq (bC Z Z (by first | decide | omega) (by first | decide | omega)) Z (aL 15 (.int .i64 1) (iE (by first | decide | omega)) ?_))))))))))))))))))
  refine bK Z Z (aB (aC (fO (eF (fr:=[(2,.pointer _),(3,.pointer _),(4,.int _ _),(5,.int .i64 1)]) (bE Z (bE Z (bE Z (bE Z dZ)))) (fun ρ13=>(aE (aE (aA (aQ Z Z (cX Z Z Z Z (kR 13 Z (by first | decide | omega) (aB (aC (cE Z (aM (aC (aE (aP (aE (aA (aQ Z Z (aQ Z Z (aL 17 (.int .u64 ((m / 65536:Nat):Int)) (iE (by first | rfl | (rw [gS];omega) | (rw [gS,gS];omega))) (wq (iJ Z Z (by decide)) Z (aL 18 (.int .u64 ((m / 65536 % 65536:Nat):Int)) (iE (jZ (m / 65536) 65536)) ?_)))))))))))))))))))))))))
  refine wq (aD 0 bU Z) Z (wq (cD (1) dD Z Z Z (by decide)) Z (dA 1 (.int _ _) cT M12 Z Z Z Z Z Z (fun w14 M14=>(aB (aC (aA (aQ Z Z (aL 21 (.int .u64 ((m / 65536:Nat):Int)) (iE (by first | rfl | (rw [gS];omega) | (rw [gS,gS];omega))) (wq (gA Z Z (by decide)) Z (aL 22 (.int .u64 ((m / 65536 / 65536:Nat):Int)) (iE (jL (m / 65536) 65536 (by omega))) (bK Z Z (aB (cR (aC (aA (aQ Z Z (wq (bC Z Z (by first | decide | omega) (by first | decide | omega)) Z (aL 15 (.int .i64 2) (iE (by first | decide | omega)) ?_))))))))))))))))))
  refine bK Z Z (aB (aC (fO (eF (fr:=[(2,.pointer _),(3,.pointer _),(4,.int _ _),(5,.int .i64 2)]) (bE Z (bE Z (bE Z (bE Z dZ)))) (fun ρ15=>(aE (aE (aA (aQ Z Z (cX Z Z Z Z (kR 13 Z (by first | decide | omega) (aB (aC (cE Z (aM (aC (aE (aP (aE (aA (aQ Z Z (aQ Z Z (aL 17 (.int .u64 ((m / 65536 / 65536:Nat):Int)) (iE (by first | rfl | (rw [gS];omega) | (rw [gS,gS];omega))) (wq (iJ Z Z (by decide)) Z (aL 18 (.int .u64 ((m / 65536 / 65536 % 65536:Nat):Int)) (iE (jZ (m / 65536 / 65536) 65536)) ?_)))))))))))))))))))))))))
  refine wq (aD 0 bU Z) Z (wq (cD (2) dD Z Z Z (by decide)) Z (dA 1 (.int _ _) cT M14 Z Z Z Z Z Z (fun w16 M16=>(aB (aC (aA (aQ Z Z (aL 21 (.int .u64 ((m / 65536 / 65536:Nat):Int)) (iE (by first | rfl | (rw [gS];omega) | (rw [gS,gS];omega))) (wq (gA Z Z (by decide)) Z (aL 22 (.int .u64 ((m / 65536 / 65536 / 65536:Nat):Int)) (iE (jL (m / 65536 / 65536) 65536 (by omega))) (bK Z Z (aB (cR (aC (aA (aQ Z Z (wq (bC Z Z (by first | decide | omega) (by first | decide | omega)) Z ?_)))))))))))))))))
  refine aL 15 (.int .i64 3) (iE (by first | decide | omega)) (bK Z Z (aB (aC (fO (eF (fr:=[(2,.pointer _),(3,.pointer _),(4,.int _ _),(5,.int .i64 3)]) (bE Z (bE Z (bE Z (bE Z dZ)))) (fun ρ17=>(aE (aE (aA (aQ Z Z (cX Z Z Z Z (kR 13 Z (by first | decide | omega) (aB (aC (cE Z (aM (aC (aE (aP (aE (aA (aQ Z Z (aQ Z Z (aL 17 (.int .u64 ((m / 65536 / 65536 / 65536:Nat):Int)) (iE (by first | rfl | (rw [gS];omega) | (rw [gS,gS];omega))) (wq (iJ Z Z (by decide)) Z ?_)))))))))))))))))))))))))
  refine aL 18 (.int .u64 ((m / 65536 / 65536 / 65536 % 65536:Nat):Int)) (iE (jZ (m / 65536 / 65536 / 65536) 65536)) (wq (aD 0 bU Z) Z (wq (cD (3) dD Z Z Z (by decide)) Z (dA 1 (.int _ _) cT M16 Z Z Z Z Z Z (fun w18 M18=>(aB (aC (aA (aQ Z Z (aL 21 (.int .u64 ((m / 65536 / 65536 / 65536:Nat):Int)) (iE (by first | rfl | (rw [gS];omega) | (rw [gS,gS];omega))) (wq (gA Z Z (by decide)) Z (aL 22 (.int .u64 ((m / 65536 / 65536 / 65536 / 65536:Nat):Int)) (iE (jL (m / 65536 / 65536 / 65536) 65536 (by omega))) ?_)))))))))))
  refine bK Z Z (aB (cR (aC (aA (aQ Z Z (wq (bC Z Z (by first | decide | omega) (by first | decide | omega)) Z (aL 15 (.int .i64 4) (iE (by first | decide | omega)) (bK Z Z (aB (aC (fO (eF (fr:=[(2,.pointer _),(3,.pointer _),(4,.int _ _),(5,.int .i64 4)]) (bE Z (bE Z (bE Z (bE Z dZ)))) (fun ρ19=>(aE (aE (aA (aQ Z Z (cX Z Z Z Z (pD 13 Z (by first | decide | omega) (aB (aC ?_)))))))))))))))))))))
  refine cG Z (cN (dC (dC (eJ (aC (aE (aA (wq (aX 1 oX M18 Z Z Z) Z (bG 0 _ oX M18 Z Z Z Z Z (aS Z) Z (fun w20 M20=>(aB (aC (aO (eQ 0 oX M20 Z Z Z ?_))))))))))))))
  exact ⟨by rw [← hm];rfl,M20.below⟩
set_option maxRecDepth 10000 in
theorem xB (w:World) (a b:Int) (ha0 : -9223372036854775808≤a) (ha1:a≤9223372036854775807) (hb0 : -9223372036854775808≤b) (hb1:b≤9223372036854775807) :
  Calls prog 204 #[.int .i64 a,.int .i64 b] w (gH (fun v w'=>∃ D:List Nat,v=(.agg ((D).map mE).toArray)∧D.length=8∧(∀ x∈D,x < 65536)∧uX D=a.natAbs*b.natAbs∧Below w.heap.size w w')):=by
 obtain ⟨x0,x1,x2,x3,hx,hx0,hx1,hx2,hx3,hX⟩:=bNf (m:=a.natAbs) (by omega)
 obtain ⟨y0,y1,y2,y3,hy,hy0,hy1,hy2,hy3,hY⟩:=bNf (m:=b.natAbs) (by omega)
 refine aI #[.cell 4 307] 57 func204 Z results204 ntmps204 Z ?_
 have M0:=Mem.refl w
 refine aE (aA (aR wM M0 Z Z (fun b1 w1 M1=>(aB (aC (aE (aA (aQ Z Z (dN bDe Z Z M1 (zT _ a ha0 ha1) (fun w2 M2=>(aL 13 (.agg (List.map mE [x0,x1,x2,x3,0,0,0,0]).toArray) (congrArg (fun l=>Value.agg (List.map mE l).toArray) hx) (aR wM M2 Z Z (fun b3 w3 M3=>(bG 1 _ oX M3 Z Z Z Z Z (aS Z) Z (fun w4 M4=>(aB (aC (aE (aA (aQ Z Z (dN bDe Z Z M4 (zT _ b hb0 hb1) (fun w5 M5=>(aL 15 (.agg (List.map mE [y0,y1,y2,y3,0,0,0,0]).toArray) (congrArg (fun l=>Value.agg (List.map mE l).toArray) hy) ?_)))))))))))))))))))))))
 refine aR wM M5 Z Z (fun b6 w6 M6=>(bG 2 _ oX M6 Z Z Z Z Z (aS Z) Z (fun w7 M7=>(aB (aC (aE (aA (aR wM M7 Z Z (fun b8 w8 M8=>(aB (aC (aE (aE (aA (bK Z Z (aB (aC (aP (jH 5 (fO (aE (aE (aA (aQ Z Z (cX Z Z Z Z (kR 17 Z (by first | decide | omega) (aB (aC (cE Z (aM (aC (aE (aP (aE (aA (bK Z Z ?_))))))))))))))))))))))))))))))))))))
 refine aB (aC (aE (aE (aA (bK Z Z (aB (aC (aP (jH 5 (fO (aE (aE (aA (aQ Z Z (cX Z Z Z Z (kR 21 Z (by first | decide | omega) (aB (aC (cE Z (aM (aC (aE (aP (aE (fW [(0,0),(1,0),(2,0),(3,0),(4,0),(5,1),(6,0),(7,0),(8,0),(9,1),(10,0),(11,0),(12,0),(13,1),(14,0),(15,0),(16,0),(17,0),(18,0)] mixed M8 Z (by kernel_rfl) (fun w9 M9 => ?_))))))))))))))))))))))))))
 obtain ⟨t00,ht00,ba00,bb00,bc00,bd00,be00⟩:=gL (z:=0) (c:=0) (x:=x0) (y:=y0) (by decide) (by decide) hx0 hy0
 refine eD Z Z Z (eD Z Z Z (aV Z Z Z (fun _=>bC Z Z (by first | decide | omega) (by first | decide | omega)) (aV Z Z Z (fun _=>aD 0 bU Z) (aV Z Z Z (fun _=>cD (0) dD Z Z Z (by decide)) (bP Z Z Z (aK 3 (.int _ _) cT M9 Z Z Z) (eD Z Z Z (aV Z Z Z (fun _=>aD 0 bU Z) (aV Z Z Z (fun _=>cD (0) dD Z Z Z (by decide)) (bP Z Z Z (aK 1 (.int _ _) cT M9 Z Z Z) (eD Z Z Z (aV Z Z Z (fun _=>aD 0 bU Z) (aV Z Z Z (fun _=>cD (0) dD Z Z Z (by decide)) ?_))))))))))))
 refine bP Z Z Z (aK 2 (.int _ _) cT M9 Z Z Z) (aV Z Z Z (fun _=>cA (.int _ _) Z Z Z) (dV 38 (.int .u64 ((x0*y0:Nat):Int)) (iE (lX x0 y0 ba00)) (aV Z Z Z (fun _=>cA (.int _ _) Z Z Z) (dV 39 (.int .u64 ((0+x0*y0:Nat):Int)) (iE (lS (0) (x0*y0) bb00)) (eD Z Z Z (aV Z Z Z (fun _=>cA (.int _ _) Z Z Z) (dV 41 (.int .u64 (t00:Int)) (iE ((lS (0+x0*y0) (0) bc00).trans (congrArg _ ht00.symm))) (mW Z Z Z (bS (aC (aE (aA (aQ Z Z (aQ Z Z (wq (bC Z Z (by first | decide | omega) (by first | decide | omega)) Z ?_)))))))))))))))
 refine aL 44 (.int .i64 0) (iE (by first | decide | omega)) (aQ Z Z (wq (iJ Z Z (by decide)) Z (aL 46 (.int .u64 ((t00 % 65536:Nat):Int)) (iE (jZ t00 65536)) (wq (aD 0 bU Z) Z (wq (cD (0) dD Z Z Z (by decide)) Z (dA 3 (.int _ _) cT M9 Z Z Z Z Z Z (fun w10 M10=>(aB (aC (aA (aQ Z Z (wq (gA Z Z (by decide)) Z (aL 50 (.int .u64 ((t00 / 65536:Nat):Int)) (iE (jL t00 65536 bd00)) (bK Z Z (aB (cR (aC (aA (aQ Z Z ?_)))))))))))))))))))
 refine wq (bC Z Z (by first | decide | omega) (by first | decide | omega)) Z (aL 23 (.int .i64 1) (iE (by first | decide | omega)) (bK Z Z (aB (aC (fO (eF (fr:=[(4,.pointer _),(5,.pointer _),(6,.pointer _),(7,.pointer _),(8,.int .i64 0),(9,.int _ _),(10,.int .i64 1),(11,.int _ _),(16,.int .i64 0),(17,.bool true)]) (bE Z (bE Z (bE Z (bE Z (bE Z (bE Z (bE Z (bE Z (bE Z (bE Z dZ)))))))))) (fun ρ11 => ?_)))))))
 have M12:Mem _ _ [_,_,_,(some _,bc [.int .u64 ((t00 % 65536:Nat):Int),.int .u64 0,.int .u64 0,.int .u64 0,.int .u64 0,.int .u64 0,.int .u64 0,.int .u64 0] 307)] _:=M10
 refine aE (aE (aA (aQ Z Z (cX Z Z Z Z (kR 21 Z (by first | decide | omega) (aB (aC (cE Z (aM (aC (aE (aP (aE (fW [(0,0),(1,0),(2,0),(3,0),(4,0),(5,1),(6,0),(7,0),(8,0),(9,1),(10,0),(11,0),(12,0),(13,1),(14,0),(15,0),(16,0),(17,0),(18,0)] mixed M12 Z (by kernel_rfl) (fun w13 M13 => ?_)))))))))))))))
 obtain ⟨t01,ht01,ba01,bb01,bc01,bd01,be01⟩:=gL (z:=0) (c:=t00 / 65536) (x:=x0) (y:=y1) (by decide) be00 hx0 hy1
 refine eD Z Z Z (eD Z Z Z (aV Z Z Z (fun _=>bC Z Z (by first | decide | omega) (by first | decide | omega)) (aV Z Z Z (fun _=>aD 0 bU Z) (aV Z Z Z (fun _=>cD (1) dD Z Z Z (by decide)) (bP Z Z Z (aK 3 (.int _ _) cT M13 Z Z Z) (eD Z Z Z (aV Z Z Z (fun _=>aD 0 bU Z) (aV Z Z Z (fun _=>cD (0) dD Z Z Z (by decide)) (bP Z Z Z (aK 1 (.int _ _) cT M13 Z Z Z) (eD Z Z Z (aV Z Z Z (fun _=>aD 0 bU Z) (aV Z Z Z (fun _=>cD (1) dD Z Z Z (by decide)) ?_))))))))))))
 refine bP Z Z Z (aK 2 (.int _ _) cT M13 Z Z Z) (aV Z Z Z (fun _=>cA (.int _ _) Z Z Z) (dV 38 (.int .u64 ((x0*y1:Nat):Int)) (iE (lX x0 y1 ba01)) (aV Z Z Z (fun _=>cA (.int _ _) Z Z Z) (dV 39 (.int .u64 ((0+x0*y1:Nat):Int)) (iE (lS (0) (x0*y1) bb01)) (eD Z Z Z (aV Z Z Z (fun _=>cA (.int _ _) Z Z Z) (dV 41 (.int .u64 (t01:Int)) (iE ((lS (0+x0*y1) (t00 / 65536) bc01).trans (congrArg _ ht01.symm))) (mW Z Z Z (bS (aC (aE (aA (aQ Z Z (aQ Z Z (wq (bC Z Z (by first | decide | omega) (by first | decide | omega)) Z ?_)))))))))))))))
 refine aL 44 (.int .i64 1) (iE (by first | decide | omega)) (aQ Z Z (wq (iJ Z Z (by decide)) Z (aL 46 (.int .u64 ((t01 % 65536:Nat):Int)) (iE (jZ t01 65536)) (wq (aD 0 bU Z) Z (wq (cD (1) dD Z Z Z (by decide)) Z (dA 3 (.int _ _) cT M13 Z Z Z Z Z Z (fun w14 M14=>(aB (aC (aA (aQ Z Z (wq (gA Z Z (by decide)) Z (aL 50 (.int .u64 ((t01 / 65536:Nat):Int)) (iE (jL t01 65536 bd01)) (bK Z Z (aB (cR (aC (aA (aQ Z Z ?_)))))))))))))))))))
 refine wq (bC Z Z (by first | decide | omega) (by first | decide | omega)) Z (aL 23 (.int .i64 2) (iE (by first | decide | omega)) (bK Z Z (aB (aC (fO (eF (fr:=[(4,.pointer _),(5,.pointer _),(6,.pointer _),(7,.pointer _),(8,.int .i64 0),(9,.int _ _),(10,.int .i64 2),(11,.int _ _),(16,.int .i64 0),(17,.bool true)]) (bE Z (bE Z (bE Z (bE Z (bE Z (bE Z (bE Z (bE Z (bE Z (bE Z dZ)))))))))) (fun ρ15 => ?_)))))))
 have M16:Mem _ _ [_,_,_,(some _,bc [.int .u64 ((t00 % 65536:Nat):Int),.int .u64 ((t01 % 65536:Nat):Int),.int .u64 0,.int .u64 0,.int .u64 0,.int .u64 0,.int .u64 0,.int .u64 0] 307)] _:=M14
 refine aE (aE (aA (aQ Z Z (cX Z Z Z Z (kR 21 Z (by first | decide | omega) (aB (aC (cE Z (aM (aC (aE (aP (aE (fW [(0,0),(1,0),(2,0),(3,0),(4,0),(5,1),(6,0),(7,0),(8,0),(9,1),(10,0),(11,0),(12,0),(13,1),(14,0),(15,0),(16,0),(17,0),(18,0)] mixed M16 Z (by kernel_rfl) (fun w17 M17 => ?_)))))))))))))))
 obtain ⟨t02,ht02,ba02,bb02,bc02,bd02,be02⟩:=gL (z:=0) (c:=t01 / 65536) (x:=x0) (y:=y2) (by decide) be01 hx0 hy2
 refine eD Z Z Z (eD Z Z Z (aV Z Z Z (fun _=>bC Z Z (by first | decide | omega) (by first | decide | omega)) (aV Z Z Z (fun _=>aD 0 bU Z) (aV Z Z Z (fun _=>cD (2) dD Z Z Z (by decide)) (bP Z Z Z (aK 3 (.int _ _) cT M17 Z Z Z) (eD Z Z Z (aV Z Z Z (fun _=>aD 0 bU Z) (aV Z Z Z (fun _=>cD (0) dD Z Z Z (by decide)) (bP Z Z Z (aK 1 (.int _ _) cT M17 Z Z Z) (eD Z Z Z (aV Z Z Z (fun _=>aD 0 bU Z) (aV Z Z Z (fun _=>cD (2) dD Z Z Z (by decide)) ?_))))))))))))
 refine bP Z Z Z (aK 2 (.int _ _) cT M17 Z Z Z) (aV Z Z Z (fun _=>cA (.int _ _) Z Z Z) (dV 38 (.int .u64 ((x0*y2:Nat):Int)) (iE (lX x0 y2 ba02)) (aV Z Z Z (fun _=>cA (.int _ _) Z Z Z) (dV 39 (.int .u64 ((0+x0*y2:Nat):Int)) (iE (lS (0) (x0*y2) bb02)) (eD Z Z Z (aV Z Z Z (fun _=>cA (.int _ _) Z Z Z) (dV 41 (.int .u64 (t02:Int)) (iE ((lS (0+x0*y2) (t01 / 65536) bc02).trans (congrArg _ ht02.symm))) (mW Z Z Z (bS (aC (aE (aA (aQ Z Z (aQ Z Z (wq (bC Z Z (by first | decide | omega) (by first | decide | omega)) Z ?_)))))))))))))))
 refine aL 44 (.int .i64 2) (iE (by first | decide | omega)) (aQ Z Z (wq (iJ Z Z (by decide)) Z (aL 46 (.int .u64 ((t02 % 65536:Nat):Int)) (iE (jZ t02 65536)) (wq (aD 0 bU Z) Z (wq (cD (2) dD Z Z Z (by decide)) Z (dA 3 (.int _ _) cT M17 Z Z Z Z Z Z (fun w18 M18=>(aB (aC (aA (aQ Z Z (wq (gA Z Z (by decide)) Z (aL 50 (.int .u64 ((t02 / 65536:Nat):Int)) (iE (jL t02 65536 bd02)) (bK Z Z (aB (cR (aC (aA (aQ Z Z ?_)))))))))))))))))))
 refine wq (bC Z Z (by first | decide | omega) (by first | decide | omega)) Z (aL 23 (.int .i64 3) (iE (by first | decide | omega)) (bK Z Z (aB (aC (fO (eF (fr:=[(4,.pointer _),(5,.pointer _),(6,.pointer _),(7,.pointer _),(8,.int .i64 0),(9,.int _ _),(10,.int .i64 3),(11,.int _ _),(16,.int .i64 0),(17,.bool true)]) (bE Z (bE Z (bE Z (bE Z (bE Z (bE Z (bE Z (bE Z (bE Z (bE Z dZ)))))))))) (fun ρ19 => ?_)))))))
 have M20:Mem _ _ [_,_,_,(some _,bc [.int .u64 ((t00 % 65536:Nat):Int),.int .u64 ((t01 % 65536:Nat):Int),.int .u64 ((t02 % 65536:Nat):Int),.int .u64 0,.int .u64 0,.int .u64 0,.int .u64 0,.int .u64 0] 307)] _:=M18
 refine aE (aE (aA (aQ Z Z (cX Z Z Z Z (kR 21 Z (by first | decide | omega) (aB (aC (cE Z (aM (aC (aE (aP (aE (fW [(0,0),(1,0),(2,0),(3,0),(4,0),(5,1),(6,0),(7,0),(8,0),(9,1),(10,0),(11,0),(12,0),(13,1),(14,0),(15,0),(16,0),(17,0),(18,0)] mixed M20 Z (by kernel_rfl) (fun w21 M21 => ?_)))))))))))))))
 obtain ⟨t03,ht03,ba03,bb03,bc03,bd03,be03⟩:=gL (z:=0) (c:=t02 / 65536) (x:=x0) (y:=y3) (by decide) be02 hx0 hy3
 refine eD Z Z Z (eD Z Z Z (aV Z Z Z (fun _=>bC Z Z (by first | decide | omega) (by first | decide | omega)) (aV Z Z Z (fun _=>aD 0 bU Z) (aV Z Z Z (fun _=>cD (3) dD Z Z Z (by decide)) (bP Z Z Z (aK 3 (.int _ _) cT M21 Z Z Z) (eD Z Z Z (aV Z Z Z (fun _=>aD 0 bU Z) (aV Z Z Z (fun _=>cD (0) dD Z Z Z (by decide)) (bP Z Z Z (aK 1 (.int _ _) cT M21 Z Z Z) (eD Z Z Z (aV Z Z Z (fun _=>aD 0 bU Z) (aV Z Z Z (fun _=>cD (3) dD Z Z Z (by decide)) ?_))))))))))))
 refine bP Z Z Z (aK 2 (.int _ _) cT M21 Z Z Z) (aV Z Z Z (fun _=>cA (.int _ _) Z Z Z) (dV 38 (.int .u64 ((x0*y3:Nat):Int)) (iE (lX x0 y3 ba03)) (aV Z Z Z (fun _=>cA (.int _ _) Z Z Z) (dV 39 (.int .u64 ((0+x0*y3:Nat):Int)) (iE (lS (0) (x0*y3) bb03)) (eD Z Z Z (aV Z Z Z (fun _=>cA (.int _ _) Z Z Z) (dV 41 (.int .u64 (t03:Int)) (iE ((lS (0+x0*y3) (t02 / 65536) bc03).trans (congrArg _ ht03.symm))) (mW Z Z Z (bS (aC (aE (aA (aQ Z Z (aQ Z Z (wq (bC Z Z (by first | decide | omega) (by first | decide | omega)) Z ?_)))))))))))))))
 refine aL 44 (.int .i64 3) (iE (by first | decide | omega)) (aQ Z Z (wq (iJ Z Z (by decide)) Z (aL 46 (.int .u64 ((t03 % 65536:Nat):Int)) (iE (jZ t03 65536)) (wq (aD 0 bU Z) Z (wq (cD (3) dD Z Z Z (by decide)) Z (dA 3 (.int _ _) cT M21 Z Z Z Z Z Z (fun w22 M22=>(aB (aC (aA (aQ Z Z (wq (gA Z Z (by decide)) Z (aL 50 (.int .u64 ((t03 / 65536:Nat):Int)) (iE (jL t03 65536 bd03)) (bK Z Z (aB (cR (aC (aA (aQ Z Z ?_)))))))))))))))))))
 refine wq (bC Z Z (by first | decide | omega) (by first | decide | omega)) Z (aL 23 (.int .i64 4) (iE (by first | decide | omega)) (bK Z Z (aB (aC (fO (eF (fr:=[(4,.pointer _),(5,.pointer _),(6,.pointer _),(7,.pointer _),(8,.int .i64 0),(9,.int _ _),(10,.int .i64 4),(11,.int _ _),(16,.int .i64 0),(17,.bool true)]) (bE Z (bE Z (bE Z (bE Z (bE Z (bE Z (bE Z (bE Z (bE Z (bE Z dZ)))))))))) (fun ρ23 => ?_)))))))
 have M24:Mem _ _ [_,_,_,(some _,bc [.int .u64 ((t00 % 65536:Nat):Int),.int .u64 ((t01 % 65536:Nat):Int),.int .u64 ((t02 % 65536:Nat):Int),.int .u64 ((t03 % 65536:Nat):Int),.int .u64 0,.int .u64 0,.int .u64 0,.int .u64 0] 307)] _:=M22
 refine aE (aE (aA (aQ Z Z (cX Z Z Z Z (pD 21 Z (by first | decide | omega) (aB (aC (cG Z (cN (dC (dC (eJ (aC (aA (aQ Z Z (wq (bC Z Z (by first | decide | omega) (by first | decide | omega)) Z (aL 52 (.int .i64 4) (iE (by first | decide | omega)) (aQ Z Z (wq (aD 0 bU Z) Z (wq (cD (4) dD Z Z Z (by decide)) Z ?_))))))))))))))))))))
 refine dA 3 (.int _ _) cT M24 Z Z Z Z Z Z (fun w25 M25=>(aB (cR (aC (aA (aQ Z Z (wq (bC Z Z (by first | decide | omega) (by first | decide | omega)) Z (aL 19 (.int .i64 1) (iE (by first | decide | omega)) (bK Z Z (aB (aC (fO (eF (fr:=[(4,.pointer _),(5,.pointer _),(6,.pointer _),(7,.pointer _),(8,.int .i64 1),(9,.int _ _),(10,.int .i64 4),(11,.int _ _)]) (bE Z (bE Z (bE Z (bE Z (bE Z (bE Z (bE Z (bE Z dZ)))))))) (fun ρ26 => ?_))))))))))))))
 have M27:Mem _ _ [_,_,_,(some _,bc [.int .u64 ((t00 % 65536:Nat):Int),.int .u64 ((t01 % 65536:Nat):Int),.int .u64 ((t02 % 65536:Nat):Int),.int .u64 ((t03 % 65536:Nat):Int),.int .u64 ((t03 / 65536:Nat):Int),.int .u64 0,.int .u64 0,.int .u64 0] 307)] _:=M25
 refine aE (aE (aA (aQ Z Z (cX Z Z Z Z (kR 17 Z (by first | decide | omega) (aB (aC (cE Z (aM (aC (aE (aP (aE (aA (bK Z Z (aB (aC (aE (aE (aA (bK Z Z (aB (aC (aP (jH 5 (fO (aE (aE (aA (aQ Z Z (cX Z Z Z Z (kR 21 Z (by first | decide | omega) ?_))))))))))))))))))))))))))))))))
 refine aB (aC (cE Z (aM (aC (aE (aP (aE (fW [(0,0),(1,0),(2,0),(3,0),(4,0),(5,1),(6,0),(7,0),(8,0),(9,1),(10,0),(11,0),(12,0),(13,1),(14,0),(15,0),(16,0),(17,0),(18,0)] mixed M27 Z (by kernel_rfl) (fun w28 M28 => ?_)))))))))
 obtain ⟨t10,ht10,ba10,bb10,bc10,bd10,be10⟩:=gL (z:=t01 % 65536) (c:=0) (x:=x1) (y:=y0) (Nat.mod_lt _ (by decide)) (by decide) hx1 hy0
 refine eD Z Z Z (eD Z Z Z (aV Z Z Z (fun _=>bC Z Z (by first | decide | omega) (by first | decide | omega)) (aV Z Z Z (fun _=>aD 0 bU Z) (aV Z Z Z (fun _=>cD (1) dD Z Z Z (by decide)) (bP Z Z Z (aK 3 (.int _ _) cT M28 Z Z Z) (eD Z Z Z (aV Z Z Z (fun _=>aD 0 bU Z) (aV Z Z Z (fun _=>cD (1) dD Z Z Z (by decide)) (bP Z Z Z (aK 1 (.int _ _) cT M28 Z Z Z) (eD Z Z Z (aV Z Z Z (fun _=>aD 0 bU Z) (aV Z Z Z (fun _=>cD (0) dD Z Z Z (by decide)) ?_))))))))))))
 refine bP Z Z Z (aK 2 (.int _ _) cT M28 Z Z Z) (aV Z Z Z (fun _=>cA (.int _ _) Z Z Z) (dV 38 (.int .u64 ((x1*y0:Nat):Int)) (iE (lX x1 y0 ba10)) (aV Z Z Z (fun _=>cA (.int _ _) Z Z Z) (dV 39 (.int .u64 ((t01 % 65536+x1*y0:Nat):Int)) (iE (lS (t01 % 65536) (x1*y0) bb10)) (eD Z Z Z (aV Z Z Z (fun _=>cA (.int _ _) Z Z Z) (dV 41 (.int .u64 (t10:Int)) (iE ((lS (t01 % 65536+x1*y0) (0) bc10).trans (congrArg _ ht10.symm))) (mW Z Z Z (bS (aC (aE (aA (aQ Z Z (aQ Z Z (wq (bC Z Z (by first | decide | omega) (by first | decide | omega)) Z ?_)))))))))))))))
 refine aL 44 (.int .i64 1) (iE (by first | decide | omega)) (aQ Z Z (wq (iJ Z Z (by decide)) Z (aL 46 (.int .u64 ((t10 % 65536:Nat):Int)) (iE (jZ t10 65536)) (wq (aD 0 bU Z) Z (wq (cD (1) dD Z Z Z (by decide)) Z (dA 3 (.int _ _) cT M28 Z Z Z Z Z Z (fun w29 M29=>(aB (aC (aA (aQ Z Z (wq (gA Z Z (by decide)) Z (aL 50 (.int .u64 ((t10 / 65536:Nat):Int)) (iE (jL t10 65536 bd10)) (bK Z Z (aB (cR (aC (aA (aQ Z Z ?_)))))))))))))))))))
 refine wq (bC Z Z (by first | decide | omega) (by first | decide | omega)) Z (aL 23 (.int .i64 1) (iE (by first | decide | omega)) (bK Z Z (aB (aC (fO (eF (fr:=[(4,.pointer _),(5,.pointer _),(6,.pointer _),(7,.pointer _),(8,.int .i64 1),(9,.int _ _),(10,.int .i64 1),(11,.int _ _),(16,.int .i64 1),(17,.bool true)]) (bE Z (bE Z (bE Z (bE Z (bE Z (bE Z (bE Z (bE Z (bE Z (bE Z dZ)))))))))) (fun ρ30 => ?_)))))))
 have M31:Mem _ _ [_,_,_,(some _,bc [.int .u64 ((t00 % 65536:Nat):Int),.int .u64 ((t10 % 65536:Nat):Int),.int .u64 ((t02 % 65536:Nat):Int),.int .u64 ((t03 % 65536:Nat):Int),.int .u64 ((t03 / 65536:Nat):Int),.int .u64 0,.int .u64 0,.int .u64 0] 307)] _:=M29
 refine aE (aE (aA (aQ Z Z (cX Z Z Z Z (kR 21 Z (by first | decide | omega) (aB (aC (cE Z (aM (aC (aE (aP (aE (fW [(0,0),(1,0),(2,0),(3,0),(4,0),(5,1),(6,0),(7,0),(8,0),(9,1),(10,0),(11,0),(12,0),(13,1),(14,0),(15,0),(16,0),(17,0),(18,0)] mixed M31 Z (by kernel_rfl) (fun w32 M32 => ?_)))))))))))))))
 obtain ⟨t11,ht11,ba11,bb11,bc11,bd11,be11⟩:=gL (z:=t02 % 65536) (c:=t10 / 65536) (x:=x1) (y:=y1) (Nat.mod_lt _ (by decide)) be10 hx1 hy1
 refine eD Z Z Z (eD Z Z Z (aV Z Z Z (fun _=>bC Z Z (by first | decide | omega) (by first | decide | omega)) (aV Z Z Z (fun _=>aD 0 bU Z) (aV Z Z Z (fun _=>cD (2) dD Z Z Z (by decide)) (bP Z Z Z (aK 3 (.int _ _) cT M32 Z Z Z) (eD Z Z Z (aV Z Z Z (fun _=>aD 0 bU Z) (aV Z Z Z (fun _=>cD (1) dD Z Z Z (by decide)) (bP Z Z Z (aK 1 (.int _ _) cT M32 Z Z Z) (eD Z Z Z (aV Z Z Z (fun _=>aD 0 bU Z) (aV Z Z Z (fun _=>cD (1) dD Z Z Z (by decide)) ?_))))))))))))
 refine bP Z Z Z (aK 2 (.int _ _) cT M32 Z Z Z) (aV Z Z Z (fun _=>cA (.int _ _) Z Z Z) (dV 38 (.int .u64 ((x1*y1:Nat):Int)) (iE (lX x1 y1 ba11)) (aV Z Z Z (fun _=>cA (.int _ _) Z Z Z) (dV 39 (.int .u64 ((t02 % 65536+x1*y1:Nat):Int)) (iE (lS (t02 % 65536) (x1*y1) bb11)) (eD Z Z Z (aV Z Z Z (fun _=>cA (.int _ _) Z Z Z) (dV 41 (.int .u64 (t11:Int)) (iE ((lS (t02 % 65536+x1*y1) (t10 / 65536) bc11).trans (congrArg _ ht11.symm))) (mW Z Z Z (bS (aC (aE (aA (aQ Z Z (aQ Z Z ?_))))))))))))))
 refine wq (bC Z Z (by first | decide | omega) (by first | decide | omega)) Z (aL 44 (.int .i64 2) (iE (by first | decide | omega)) (aQ Z Z (wq (iJ Z Z (by decide)) Z (aL 46 (.int .u64 ((t11 % 65536:Nat):Int)) (iE (jZ t11 65536)) (wq (aD 0 bU Z) Z (wq (cD (2) dD Z Z Z (by decide)) Z (dA 3 (.int _ _) cT M32 Z Z Z Z Z Z (fun w33 M33=>(aB (aC (aA (aQ Z Z (wq (gA Z Z (by decide)) Z (aL 50 (.int .u64 ((t11 / 65536:Nat):Int)) (iE (jL t11 65536 bd11)) (bK Z Z (aB (cR (aC (aA ?_)))))))))))))))))))
 refine aQ Z Z (wq (bC Z Z (by first | decide | omega) (by first | decide | omega)) Z (aL 23 (.int .i64 2) (iE (by first | decide | omega)) (bK Z Z (aB (aC (fO (eF (fr:=[(4,.pointer _),(5,.pointer _),(6,.pointer _),(7,.pointer _),(8,.int .i64 1),(9,.int _ _),(10,.int .i64 2),(11,.int _ _),(16,.int .i64 1),(17,.bool true)]) (bE Z (bE Z (bE Z (bE Z (bE Z (bE Z (bE Z (bE Z (bE Z (bE Z dZ)))))))))) (fun ρ34 => ?_))))))))
 have M35:Mem _ _ [_,_,_,(some _,bc [.int .u64 ((t00 % 65536:Nat):Int),.int .u64 ((t10 % 65536:Nat):Int),.int .u64 ((t11 % 65536:Nat):Int),.int .u64 ((t03 % 65536:Nat):Int),.int .u64 ((t03 / 65536:Nat):Int),.int .u64 0,.int .u64 0,.int .u64 0] 307)] _:=M33
 refine aE (aE (aA (aQ Z Z (cX Z Z Z Z (kR 21 Z (by first | decide | omega) (aB (aC (cE Z (aM (aC (aE (aP (aE (fW [(0,0),(1,0),(2,0),(3,0),(4,0),(5,1),(6,0),(7,0),(8,0),(9,1),(10,0),(11,0),(12,0),(13,1),(14,0),(15,0),(16,0),(17,0),(18,0)] mixed M35 Z (by kernel_rfl) (fun w36 M36 => ?_)))))))))))))))
 obtain ⟨t12,ht12,ba12,bb12,bc12,bd12,be12⟩:=gL (z:=t03 % 65536) (c:=t11 / 65536) (x:=x1) (y:=y2) (Nat.mod_lt _ (by decide)) be11 hx1 hy2
 refine eD Z Z Z (eD Z Z Z (aV Z Z Z (fun _=>bC Z Z (by first | decide | omega) (by first | decide | omega)) (aV Z Z Z (fun _=>aD 0 bU Z) (aV Z Z Z (fun _=>cD (3) dD Z Z Z (by decide)) (bP Z Z Z (aK 3 (.int _ _) cT M36 Z Z Z) (eD Z Z Z (aV Z Z Z (fun _=>aD 0 bU Z) (aV Z Z Z (fun _=>cD (1) dD Z Z Z (by decide)) (bP Z Z Z (aK 1 (.int _ _) cT M36 Z Z Z) (eD Z Z Z (aV Z Z Z (fun _=>aD 0 bU Z) (aV Z Z Z (fun _=>cD (2) dD Z Z Z (by decide)) ?_))))))))))))
 refine bP Z Z Z (aK 2 (.int _ _) cT M36 Z Z Z) (aV Z Z Z (fun _=>cA (.int _ _) Z Z Z) (dV 38 (.int .u64 ((x1*y2:Nat):Int)) (iE (lX x1 y2 ba12)) (aV Z Z Z (fun _=>cA (.int _ _) Z Z Z) (dV 39 (.int .u64 ((t03 % 65536+x1*y2:Nat):Int)) (iE (lS (t03 % 65536) (x1*y2) bb12)) (eD Z Z Z (aV Z Z Z (fun _=>cA (.int _ _) Z Z Z) (dV 41 (.int .u64 (t12:Int)) (iE ((lS (t03 % 65536+x1*y2) (t11 / 65536) bc12).trans (congrArg _ ht12.symm))) (mW Z Z Z (bS (aC (aE (aA (aQ Z Z (aQ Z Z ?_))))))))))))))
 refine wq (bC Z Z (by first | decide | omega) (by first | decide | omega)) Z (aL 44 (.int .i64 3) (iE (by first | decide | omega)) (aQ Z Z (wq (iJ Z Z (by decide)) Z (aL 46 (.int .u64 ((t12 % 65536:Nat):Int)) (iE (jZ t12 65536)) (wq (aD 0 bU Z) Z (wq (cD (3) dD Z Z Z (by decide)) Z (dA 3 (.int _ _) cT M36 Z Z Z Z Z Z (fun w37 M37=>(aB (aC (aA (aQ Z Z (wq (gA Z Z (by decide)) Z (aL 50 (.int .u64 ((t12 / 65536:Nat):Int)) (iE (jL t12 65536 bd12)) (bK Z Z (aB (cR (aC (aA ?_)))))))))))))))))))
 refine aQ Z Z (wq (bC Z Z (by first | decide | omega) (by first | decide | omega)) Z (aL 23 (.int .i64 3) (iE (by first | decide | omega)) (bK Z Z (aB (aC (fO (eF (fr:=[(4,.pointer _),(5,.pointer _),(6,.pointer _),(7,.pointer _),(8,.int .i64 1),(9,.int _ _),(10,.int .i64 3),(11,.int _ _),(16,.int .i64 1),(17,.bool true)]) (bE Z (bE Z (bE Z (bE Z (bE Z (bE Z (bE Z (bE Z (bE Z (bE Z dZ)))))))))) (fun ρ38 => ?_))))))))
 have M39:Mem _ _ [_,_,_,(some _,bc [.int .u64 ((t00 % 65536:Nat):Int),.int .u64 ((t10 % 65536:Nat):Int),.int .u64 ((t11 % 65536:Nat):Int),.int .u64 ((t12 % 65536:Nat):Int),.int .u64 ((t03 / 65536:Nat):Int),.int .u64 0,.int .u64 0,.int .u64 0] 307)] _:=M37
 refine aE (aE (aA (aQ Z Z (cX Z Z Z Z (kR 21 Z (by first | decide | omega) (aB (aC (cE Z (aM (aC (aE (aP (aE (fW [(0,0),(1,0),(2,0),(3,0),(4,0),(5,1),(6,0),(7,0),(8,0),(9,1),(10,0),(11,0),(12,0),(13,1),(14,0),(15,0),(16,0),(17,0),(18,0)] mixed M39 Z (by kernel_rfl) (fun w40 M40 => ?_)))))))))))))))
 obtain ⟨t13,ht13,ba13,bb13,bc13,bd13,be13⟩:=gL (z:=t03 / 65536) (c:=t12 / 65536) (x:=x1) (y:=y3) be03 be12 hx1 hy3
 refine eD Z Z Z (eD Z Z Z (aV Z Z Z (fun _=>bC Z Z (by first | decide | omega) (by first | decide | omega)) (aV Z Z Z (fun _=>aD 0 bU Z) (aV Z Z Z (fun _=>cD (4) dD Z Z Z (by decide)) (bP Z Z Z (aK 3 (.int _ _) cT M40 Z Z Z) (eD Z Z Z (aV Z Z Z (fun _=>aD 0 bU Z) (aV Z Z Z (fun _=>cD (1) dD Z Z Z (by decide)) (bP Z Z Z (aK 1 (.int _ _) cT M40 Z Z Z) (eD Z Z Z (aV Z Z Z (fun _=>aD 0 bU Z) (aV Z Z Z (fun _=>cD (3) dD Z Z Z (by decide)) ?_))))))))))))
 refine bP Z Z Z (aK 2 (.int _ _) cT M40 Z Z Z) (aV Z Z Z (fun _=>cA (.int _ _) Z Z Z) (dV 38 (.int .u64 ((x1*y3:Nat):Int)) (iE (lX x1 y3 ba13)) (aV Z Z Z (fun _=>cA (.int _ _) Z Z Z) (dV 39 (.int .u64 ((t03 / 65536+x1*y3:Nat):Int)) (iE (lS (t03 / 65536) (x1*y3) bb13)) (eD Z Z Z (aV Z Z Z (fun _=>cA (.int _ _) Z Z Z) (dV 41 (.int .u64 (t13:Int)) (iE ((lS (t03 / 65536+x1*y3) (t12 / 65536) bc13).trans (congrArg _ ht13.symm))) (mW Z Z Z (bS (aC (aE (aA (aQ Z Z (aQ Z Z ?_))))))))))))))
 refine wq (bC Z Z (by first | decide | omega) (by first | decide | omega)) Z (aL 44 (.int .i64 4) (iE (by first | decide | omega)) (aQ Z Z (wq (iJ Z Z (by decide)) Z (aL 46 (.int .u64 ((t13 % 65536:Nat):Int)) (iE (jZ t13 65536)) (wq (aD 0 bU Z) Z (wq (cD (4) dD Z Z Z (by decide)) Z (dA 3 (.int _ _) cT M40 Z Z Z Z Z Z (fun w41 M41=>(aB (aC (aA (aQ Z Z (wq (gA Z Z (by decide)) Z (aL 50 (.int .u64 ((t13 / 65536:Nat):Int)) (iE (jL t13 65536 bd13)) (bK Z Z (aB (cR (aC (aA ?_)))))))))))))))))))
 refine aQ Z Z (wq (bC Z Z (by first | decide | omega) (by first | decide | omega)) Z (aL 23 (.int .i64 4) (iE (by first | decide | omega)) (bK Z Z (aB (aC (fO (eF (fr:=[(4,.pointer _),(5,.pointer _),(6,.pointer _),(7,.pointer _),(8,.int .i64 1),(9,.int _ _),(10,.int .i64 4),(11,.int _ _),(16,.int .i64 1),(17,.bool true)]) (bE Z (bE Z (bE Z (bE Z (bE Z (bE Z (bE Z (bE Z (bE Z (bE Z dZ)))))))))) (fun ρ42 => ?_))))))))
 have M43:Mem _ _ [_,_,_,(some _,bc [.int .u64 ((t00 % 65536:Nat):Int),.int .u64 ((t10 % 65536:Nat):Int),.int .u64 ((t11 % 65536:Nat):Int),.int .u64 ((t12 % 65536:Nat):Int),.int .u64 ((t13 % 65536:Nat):Int),.int .u64 0,.int .u64 0,.int .u64 0] 307)] _:=M41
 refine aE (aE (aA (aQ Z Z (cX Z Z Z Z (pD 21 Z (by first | decide | omega) (aB (aC (cG Z (cN (dC (dC (eJ (aC (aA (aQ Z Z (wq (bC Z Z (by first | decide | omega) (by first | decide | omega)) Z (aL 52 (.int .i64 5) (iE (by first | decide | omega)) (aQ Z Z (wq (aD 0 bU Z) Z (wq (cD (5) dD Z Z Z (by decide)) Z ?_))))))))))))))))))))
 refine dA 3 (.int _ _) cT M43 Z Z Z Z Z Z (fun w44 M44=>(aB (cR (aC (aA (aQ Z Z (wq (bC Z Z (by first | decide | omega) (by first | decide | omega)) Z (aL 19 (.int .i64 2) (iE (by first | decide | omega)) (bK Z Z (aB (aC (fO (eF (fr:=[(4,.pointer _),(5,.pointer _),(6,.pointer _),(7,.pointer _),(8,.int .i64 2),(9,.int _ _),(10,.int .i64 4),(11,.int _ _)]) (bE Z (bE Z (bE Z (bE Z (bE Z (bE Z (bE Z (bE Z dZ)))))))) (fun ρ45 => ?_))))))))))))))
 have M46:Mem _ _ [_,_,_,(some _,bc [.int .u64 ((t00 % 65536:Nat):Int),.int .u64 ((t10 % 65536:Nat):Int),.int .u64 ((t11 % 65536:Nat):Int),.int .u64 ((t12 % 65536:Nat):Int),.int .u64 ((t13 % 65536:Nat):Int),.int .u64 ((t13 / 65536:Nat):Int),.int .u64 0,.int .u64 0] 307)] _:=M44
 refine aE (aE (aA (aQ Z Z (cX Z Z Z Z (kR 17 Z (by first | decide | omega) (aB (aC (cE Z (aM (aC (aE (aP (aE (aA (bK Z Z (aB (aC (aE (aE (aA (bK Z Z (aB (aC (aP (jH 5 (fO (aE (aE (aA (aQ Z Z (cX Z Z Z Z (kR 21 Z (by first | decide | omega) ?_))))))))))))))))))))))))))))))))
 refine aB (aC (cE Z (aM (aC (aE (aP (aE (fW [(0,0),(1,0),(2,0),(3,0),(4,0),(5,1),(6,0),(7,0),(8,0),(9,1),(10,0),(11,0),(12,0),(13,1),(14,0),(15,0),(16,0),(17,0),(18,0)] mixed M46 Z (by kernel_rfl) (fun w47 M47 => ?_)))))))))
 obtain ⟨t20,ht20,ba20,bb20,bc20,bd20,be20⟩:=gL (z:=t11 % 65536) (c:=0) (x:=x2) (y:=y0) (Nat.mod_lt _ (by decide)) (by decide) hx2 hy0
 refine eD Z Z Z (eD Z Z Z (aV Z Z Z (fun _=>bC Z Z (by first | decide | omega) (by first | decide | omega)) (aV Z Z Z (fun _=>aD 0 bU Z) (aV Z Z Z (fun _=>cD (2) dD Z Z Z (by decide)) (bP Z Z Z (aK 3 (.int _ _) cT M47 Z Z Z) (eD Z Z Z (aV Z Z Z (fun _=>aD 0 bU Z) (aV Z Z Z (fun _=>cD (2) dD Z Z Z (by decide)) (bP Z Z Z (aK 1 (.int _ _) cT M47 Z Z Z) (eD Z Z Z (aV Z Z Z (fun _=>aD 0 bU Z) (aV Z Z Z (fun _=>cD (0) dD Z Z Z (by decide)) ?_))))))))))))
 refine bP Z Z Z (aK 2 (.int _ _) cT M47 Z Z Z) (aV Z Z Z (fun _=>cA (.int _ _) Z Z Z) (dV 38 (.int .u64 ((x2*y0:Nat):Int)) (iE (lX x2 y0 ba20)) (aV Z Z Z (fun _=>cA (.int _ _) Z Z Z) (dV 39 (.int .u64 ((t11 % 65536+x2*y0:Nat):Int)) (iE (lS (t11 % 65536) (x2*y0) bb20)) (eD Z Z Z (aV Z Z Z (fun _=>cA (.int _ _) Z Z Z) (dV 41 (.int .u64 (t20:Int)) (iE ((lS (t11 % 65536+x2*y0) (0) bc20).trans (congrArg _ ht20.symm))) (mW Z Z Z (bS (aC (aE (aA (aQ Z Z (aQ Z Z (wq (bC Z Z (by first | decide | omega) (by first | decide | omega)) Z ?_)))))))))))))))
 refine aL 44 (.int .i64 2) (iE (by first | decide | omega)) (aQ Z Z (wq (iJ Z Z (by decide)) Z (aL 46 (.int .u64 ((t20 % 65536:Nat):Int)) (iE (jZ t20 65536)) (wq (aD 0 bU Z) Z (wq (cD (2) dD Z Z Z (by decide)) Z (dA 3 (.int _ _) cT M47 Z Z Z Z Z Z (fun w48 M48=>(aB (aC (aA (aQ Z Z (wq (gA Z Z (by decide)) Z (aL 50 (.int .u64 ((t20 / 65536:Nat):Int)) (iE (jL t20 65536 bd20)) (bK Z Z (aB (cR (aC (aA (aQ Z Z ?_)))))))))))))))))))
 refine wq (bC Z Z (by first | decide | omega) (by first | decide | omega)) Z (aL 23 (.int .i64 1) (iE (by first | decide | omega)) (bK Z Z (aB (aC (fO (eF (fr:=[(4,.pointer _),(5,.pointer _),(6,.pointer _),(7,.pointer _),(8,.int .i64 2),(9,.int _ _),(10,.int .i64 1),(11,.int _ _),(16,.int .i64 2),(17,.bool true)]) (bE Z (bE Z (bE Z (bE Z (bE Z (bE Z (bE Z (bE Z (bE Z (bE Z dZ)))))))))) (fun ρ49 => ?_)))))))
 have M50:Mem _ _ [_,_,_,(some _,bc [.int .u64 ((t00 % 65536:Nat):Int),.int .u64 ((t10 % 65536:Nat):Int),.int .u64 ((t20 % 65536:Nat):Int),.int .u64 ((t12 % 65536:Nat):Int),.int .u64 ((t13 % 65536:Nat):Int),.int .u64 ((t13 / 65536:Nat):Int),.int .u64 0,.int .u64 0] 307)] _:=M48
 refine aE (aE (aA (aQ Z Z (cX Z Z Z Z (kR 21 Z (by first | decide | omega) (aB (aC (cE Z (aM (aC (aE (aP (aE (fW [(0,0),(1,0),(2,0),(3,0),(4,0),(5,1),(6,0),(7,0),(8,0),(9,1),(10,0),(11,0),(12,0),(13,1),(14,0),(15,0),(16,0),(17,0),(18,0)] mixed M50 Z (by kernel_rfl) (fun w51 M51 => ?_)))))))))))))))
 obtain ⟨t21,ht21,ba21,bb21,bc21,bd21,be21⟩:=gL (z:=t12 % 65536) (c:=t20 / 65536) (x:=x2) (y:=y1) (Nat.mod_lt _ (by decide)) be20 hx2 hy1
 refine eD Z Z Z (eD Z Z Z (aV Z Z Z (fun _=>bC Z Z (by first | decide | omega) (by first | decide | omega)) (aV Z Z Z (fun _=>aD 0 bU Z) (aV Z Z Z (fun _=>cD (3) dD Z Z Z (by decide)) (bP Z Z Z (aK 3 (.int _ _) cT M51 Z Z Z) (eD Z Z Z (aV Z Z Z (fun _=>aD 0 bU Z) (aV Z Z Z (fun _=>cD (2) dD Z Z Z (by decide)) (bP Z Z Z (aK 1 (.int _ _) cT M51 Z Z Z) (eD Z Z Z (aV Z Z Z (fun _=>aD 0 bU Z) (aV Z Z Z (fun _=>cD (1) dD Z Z Z (by decide)) ?_))))))))))))
 refine bP Z Z Z (aK 2 (.int _ _) cT M51 Z Z Z) (aV Z Z Z (fun _=>cA (.int _ _) Z Z Z) (dV 38 (.int .u64 ((x2*y1:Nat):Int)) (iE (lX x2 y1 ba21)) (aV Z Z Z (fun _=>cA (.int _ _) Z Z Z) (dV 39 (.int .u64 ((t12 % 65536+x2*y1:Nat):Int)) (iE (lS (t12 % 65536) (x2*y1) bb21)) (eD Z Z Z (aV Z Z Z (fun _=>cA (.int _ _) Z Z Z) (dV 41 (.int .u64 (t21:Int)) (iE ((lS (t12 % 65536+x2*y1) (t20 / 65536) bc21).trans (congrArg _ ht21.symm))) (mW Z Z Z (bS (aC (aE (aA (aQ Z Z (aQ Z Z ?_))))))))))))))
 refine wq (bC Z Z (by first | decide | omega) (by first | decide | omega)) Z (aL 44 (.int .i64 3) (iE (by first | decide | omega)) (aQ Z Z (wq (iJ Z Z (by decide)) Z (aL 46 (.int .u64 ((t21 % 65536:Nat):Int)) (iE (jZ t21 65536)) (wq (aD 0 bU Z) Z (wq (cD (3) dD Z Z Z (by decide)) Z (dA 3 (.int _ _) cT M51 Z Z Z Z Z Z (fun w52 M52=>(aB (aC (aA (aQ Z Z (wq (gA Z Z (by decide)) Z (aL 50 (.int .u64 ((t21 / 65536:Nat):Int)) (iE (jL t21 65536 bd21)) (bK Z Z (aB (cR (aC (aA ?_)))))))))))))))))))
 refine aQ Z Z (wq (bC Z Z (by first | decide | omega) (by first | decide | omega)) Z (aL 23 (.int .i64 2) (iE (by first | decide | omega)) (bK Z Z (aB (aC (fO (eF (fr:=[(4,.pointer _),(5,.pointer _),(6,.pointer _),(7,.pointer _),(8,.int .i64 2),(9,.int _ _),(10,.int .i64 2),(11,.int _ _),(16,.int .i64 2),(17,.bool true)]) (bE Z (bE Z (bE Z (bE Z (bE Z (bE Z (bE Z (bE Z (bE Z (bE Z dZ)))))))))) (fun ρ53 => ?_))))))))
 have M54:Mem _ _ [_,_,_,(some _,bc [.int .u64 ((t00 % 65536:Nat):Int),.int .u64 ((t10 % 65536:Nat):Int),.int .u64 ((t20 % 65536:Nat):Int),.int .u64 ((t21 % 65536:Nat):Int),.int .u64 ((t13 % 65536:Nat):Int),.int .u64 ((t13 / 65536:Nat):Int),.int .u64 0,.int .u64 0] 307)] _:=M52
 refine aE (aE (aA (aQ Z Z (cX Z Z Z Z (kR 21 Z (by first | decide | omega) (aB (aC (cE Z (aM (aC (aE (aP (aE (fW [(0,0),(1,0),(2,0),(3,0),(4,0),(5,1),(6,0),(7,0),(8,0),(9,1),(10,0),(11,0),(12,0),(13,1),(14,0),(15,0),(16,0),(17,0),(18,0)] mixed M54 Z (by kernel_rfl) (fun w55 M55 => ?_)))))))))))))))
 obtain ⟨t22,ht22,ba22,bb22,bc22,bd22,be22⟩:=gL (z:=t13 % 65536) (c:=t21 / 65536) (x:=x2) (y:=y2) (Nat.mod_lt _ (by decide)) be21 hx2 hy2
 refine eD Z Z Z (eD Z Z Z (aV Z Z Z (fun _=>bC Z Z (by first | decide | omega) (by first | decide | omega)) (aV Z Z Z (fun _=>aD 0 bU Z) (aV Z Z Z (fun _=>cD (4) dD Z Z Z (by decide)) (bP Z Z Z (aK 3 (.int _ _) cT M55 Z Z Z) (eD Z Z Z (aV Z Z Z (fun _=>aD 0 bU Z) (aV Z Z Z (fun _=>cD (2) dD Z Z Z (by decide)) (bP Z Z Z (aK 1 (.int _ _) cT M55 Z Z Z) (eD Z Z Z (aV Z Z Z (fun _=>aD 0 bU Z) (aV Z Z Z (fun _=>cD (2) dD Z Z Z (by decide)) ?_))))))))))))
 refine bP Z Z Z (aK 2 (.int _ _) cT M55 Z Z Z) (aV Z Z Z (fun _=>cA (.int _ _) Z Z Z) (dV 38 (.int .u64 ((x2*y2:Nat):Int)) (iE (lX x2 y2 ba22)) (aV Z Z Z (fun _=>cA (.int _ _) Z Z Z) (dV 39 (.int .u64 ((t13 % 65536+x2*y2:Nat):Int)) (iE (lS (t13 % 65536) (x2*y2) bb22)) (eD Z Z Z (aV Z Z Z (fun _=>cA (.int _ _) Z Z Z) (dV 41 (.int .u64 (t22:Int)) (iE ((lS (t13 % 65536+x2*y2) (t21 / 65536) bc22).trans (congrArg _ ht22.symm))) (mW Z Z Z (bS (aC (aE (aA (aQ Z Z (aQ Z Z ?_))))))))))))))
 refine wq (bC Z Z (by first | decide | omega) (by first | decide | omega)) Z (aL 44 (.int .i64 4) (iE (by first | decide | omega)) (aQ Z Z (wq (iJ Z Z (by decide)) Z (aL 46 (.int .u64 ((t22 % 65536:Nat):Int)) (iE (jZ t22 65536)) (wq (aD 0 bU Z) Z (wq (cD (4) dD Z Z Z (by decide)) Z (dA 3 (.int _ _) cT M55 Z Z Z Z Z Z (fun w56 M56=>(aB (aC (aA (aQ Z Z (wq (gA Z Z (by decide)) Z (aL 50 (.int .u64 ((t22 / 65536:Nat):Int)) (iE (jL t22 65536 bd22)) (bK Z Z (aB (cR (aC (aA ?_)))))))))))))))))))
 refine aQ Z Z (wq (bC Z Z (by first | decide | omega) (by first | decide | omega)) Z (aL 23 (.int .i64 3) (iE (by first | decide | omega)) (bK Z Z (aB (aC (fO (eF (fr:=[(4,.pointer _),(5,.pointer _),(6,.pointer _),(7,.pointer _),(8,.int .i64 2),(9,.int _ _),(10,.int .i64 3),(11,.int _ _),(16,.int .i64 2),(17,.bool true)]) (bE Z (bE Z (bE Z (bE Z (bE Z (bE Z (bE Z (bE Z (bE Z (bE Z dZ)))))))))) (fun ρ57 => ?_))))))))
 have M58:Mem _ _ [_,_,_,(some _,bc [.int .u64 ((t00 % 65536:Nat):Int),.int .u64 ((t10 % 65536:Nat):Int),.int .u64 ((t20 % 65536:Nat):Int),.int .u64 ((t21 % 65536:Nat):Int),.int .u64 ((t22 % 65536:Nat):Int),.int .u64 ((t13 / 65536:Nat):Int),.int .u64 0,.int .u64 0] 307)] _:=M56
 refine aE (aE (aA (aQ Z Z (cX Z Z Z Z (kR 21 Z (by first | decide | omega) (aB (aC (cE Z (aM (aC (aE (aP (aE (fW [(0,0),(1,0),(2,0),(3,0),(4,0),(5,1),(6,0),(7,0),(8,0),(9,1),(10,0),(11,0),(12,0),(13,1),(14,0),(15,0),(16,0),(17,0),(18,0)] mixed M58 Z (by kernel_rfl) (fun w59 M59 => ?_)))))))))))))))
 obtain ⟨t23,ht23,ba23,bb23,bc23,bd23,be23⟩:=gL (z:=t13 / 65536) (c:=t22 / 65536) (x:=x2) (y:=y3) be13 be22 hx2 hy3
 refine eD Z Z Z (eD Z Z Z (aV Z Z Z (fun _=>bC Z Z (by first | decide | omega) (by first | decide | omega)) (aV Z Z Z (fun _=>aD 0 bU Z) (aV Z Z Z (fun _=>cD (5) dD Z Z Z (by decide)) (bP Z Z Z (aK 3 (.int _ _) cT M59 Z Z Z) (eD Z Z Z (aV Z Z Z (fun _=>aD 0 bU Z) (aV Z Z Z (fun _=>cD (2) dD Z Z Z (by decide)) (bP Z Z Z (aK 1 (.int _ _) cT M59 Z Z Z) (eD Z Z Z (aV Z Z Z (fun _=>aD 0 bU Z) (aV Z Z Z (fun _=>cD (3) dD Z Z Z (by decide)) ?_))))))))))))
 refine bP Z Z Z (aK 2 (.int _ _) cT M59 Z Z Z) (aV Z Z Z (fun _=>cA (.int _ _) Z Z Z) (dV 38 (.int .u64 ((x2*y3:Nat):Int)) (iE (lX x2 y3 ba23)) (aV Z Z Z (fun _=>cA (.int _ _) Z Z Z) (dV 39 (.int .u64 ((t13 / 65536+x2*y3:Nat):Int)) (iE (lS (t13 / 65536) (x2*y3) bb23)) (eD Z Z Z (aV Z Z Z (fun _=>cA (.int _ _) Z Z Z) (dV 41 (.int .u64 (t23:Int)) (iE ((lS (t13 / 65536+x2*y3) (t22 / 65536) bc23).trans (congrArg _ ht23.symm))) (mW Z Z Z (bS (aC (aE (aA (aQ Z Z (aQ Z Z ?_))))))))))))))
 refine wq (bC Z Z (by first | decide | omega) (by first | decide | omega)) Z (aL 44 (.int .i64 5) (iE (by first | decide | omega)) (aQ Z Z (wq (iJ Z Z (by decide)) Z (aL 46 (.int .u64 ((t23 % 65536:Nat):Int)) (iE (jZ t23 65536)) (wq (aD 0 bU Z) Z (wq (cD (5) dD Z Z Z (by decide)) Z (dA 3 (.int _ _) cT M59 Z Z Z Z Z Z (fun w60 M60=>(aB (aC (aA (aQ Z Z (wq (gA Z Z (by decide)) Z (aL 50 (.int .u64 ((t23 / 65536:Nat):Int)) (iE (jL t23 65536 bd23)) (bK Z Z (aB (cR (aC (aA ?_)))))))))))))))))))
 refine aQ Z Z (wq (bC Z Z (by first | decide | omega) (by first | decide | omega)) Z (aL 23 (.int .i64 4) (iE (by first | decide | omega)) (bK Z Z (aB (aC (fO (eF (fr:=[(4,.pointer _),(5,.pointer _),(6,.pointer _),(7,.pointer _),(8,.int .i64 2),(9,.int _ _),(10,.int .i64 4),(11,.int _ _),(16,.int .i64 2),(17,.bool true)]) (bE Z (bE Z (bE Z (bE Z (bE Z (bE Z (bE Z (bE Z (bE Z (bE Z dZ)))))))))) (fun ρ61 => ?_))))))))
 have M62:Mem _ _ [_,_,_,(some _,bc [.int .u64 ((t00 % 65536:Nat):Int),.int .u64 ((t10 % 65536:Nat):Int),.int .u64 ((t20 % 65536:Nat):Int),.int .u64 ((t21 % 65536:Nat):Int),.int .u64 ((t22 % 65536:Nat):Int),.int .u64 ((t23 % 65536:Nat):Int),.int .u64 0,.int .u64 0] 307)] _:=M60
 refine aE (aE (aA (aQ Z Z (cX Z Z Z Z (pD 21 Z (by first | decide | omega) (aB (aC (cG Z (cN (dC (dC (eJ (aC (aA (aQ Z Z (wq (bC Z Z (by first | decide | omega) (by first | decide | omega)) Z (aL 52 (.int .i64 6) (iE (by first | decide | omega)) (aQ Z Z (wq (aD 0 bU Z) Z (wq (cD (6) dD Z Z Z (by decide)) Z ?_))))))))))))))))))))
 refine dA 3 (.int _ _) cT M62 Z Z Z Z Z Z (fun w63 M63=>(aB (cR (aC (aA (aQ Z Z (wq (bC Z Z (by first | decide | omega) (by first | decide | omega)) Z (aL 19 (.int .i64 3) (iE (by first | decide | omega)) (bK Z Z (aB (aC (fO (eF (fr:=[(4,.pointer _),(5,.pointer _),(6,.pointer _),(7,.pointer _),(8,.int .i64 3),(9,.int _ _),(10,.int .i64 4),(11,.int _ _)]) (bE Z (bE Z (bE Z (bE Z (bE Z (bE Z (bE Z (bE Z dZ)))))))) (fun ρ64 => ?_))))))))))))))
 have M65:Mem _ _ [_,_,_,(some _,bc [.int .u64 ((t00 % 65536:Nat):Int),.int .u64 ((t10 % 65536:Nat):Int),.int .u64 ((t20 % 65536:Nat):Int),.int .u64 ((t21 % 65536:Nat):Int),.int .u64 ((t22 % 65536:Nat):Int),.int .u64 ((t23 % 65536:Nat):Int),.int .u64 ((t23 / 65536:Nat):Int),.int .u64 0] 307)] _:=M63
 refine aE (aE (aA (aQ Z Z (cX Z Z Z Z (kR 17 Z (by first | decide | omega) (aB (aC (cE Z (aM (aC (aE (aP (aE (aA (bK Z Z (aB (aC (aE (aE (aA (bK Z Z (aB (aC (aP (jH 5 (fO (aE (aE (aA (aQ Z Z (cX Z Z Z Z (kR 21 Z (by first | decide | omega) ?_))))))))))))))))))))))))))))))))
 refine aB (aC (cE Z (aM (aC (aE (aP (aE (fW [(0,0),(1,0),(2,0),(3,0),(4,0),(5,1),(6,0),(7,0),(8,0),(9,1),(10,0),(11,0),(12,0),(13,1),(14,0),(15,0),(16,0),(17,0),(18,0)] mixed M65 Z (by kernel_rfl) (fun w66 M66 => ?_)))))))))
 obtain ⟨t30,ht30,ba30,bb30,bc30,bd30,be30⟩:=gL (z:=t21 % 65536) (c:=0) (x:=x3) (y:=y0) (Nat.mod_lt _ (by decide)) (by decide) hx3 hy0
 refine eD Z Z Z (eD Z Z Z (aV Z Z Z (fun _=>bC Z Z (by first | decide | omega) (by first | decide | omega)) (aV Z Z Z (fun _=>aD 0 bU Z) (aV Z Z Z (fun _=>cD (3) dD Z Z Z (by decide)) (bP Z Z Z (aK 3 (.int _ _) cT M66 Z Z Z) (eD Z Z Z (aV Z Z Z (fun _=>aD 0 bU Z) (aV Z Z Z (fun _=>cD (3) dD Z Z Z (by decide)) (bP Z Z Z (aK 1 (.int _ _) cT M66 Z Z Z) (eD Z Z Z (aV Z Z Z (fun _=>aD 0 bU Z) (aV Z Z Z (fun _=>cD (0) dD Z Z Z (by decide)) ?_))))))))))))
 refine bP Z Z Z (aK 2 (.int _ _) cT M66 Z Z Z) (aV Z Z Z (fun _=>cA (.int _ _) Z Z Z) (dV 38 (.int .u64 ((x3*y0:Nat):Int)) (iE (lX x3 y0 ba30)) (aV Z Z Z (fun _=>cA (.int _ _) Z Z Z) (dV 39 (.int .u64 ((t21 % 65536+x3*y0:Nat):Int)) (iE (lS (t21 % 65536) (x3*y0) bb30)) (eD Z Z Z (aV Z Z Z (fun _=>cA (.int _ _) Z Z Z) (dV 41 (.int .u64 (t30:Int)) (iE ((lS (t21 % 65536+x3*y0) (0) bc30).trans (congrArg _ ht30.symm))) (mW Z Z Z (bS (aC (aE (aA (aQ Z Z (aQ Z Z (wq (bC Z Z (by first | decide | omega) (by first | decide | omega)) Z ?_)))))))))))))))
 refine aL 44 (.int .i64 3) (iE (by first | decide | omega)) (aQ Z Z (wq (iJ Z Z (by decide)) Z (aL 46 (.int .u64 ((t30 % 65536:Nat):Int)) (iE (jZ t30 65536)) (wq (aD 0 bU Z) Z (wq (cD (3) dD Z Z Z (by decide)) Z (dA 3 (.int _ _) cT M66 Z Z Z Z Z Z (fun w67 M67=>(aB (aC (aA (aQ Z Z (wq (gA Z Z (by decide)) Z (aL 50 (.int .u64 ((t30 / 65536:Nat):Int)) (iE (jL t30 65536 bd30)) (bK Z Z (aB (cR (aC (aA (aQ Z Z ?_)))))))))))))))))))
 refine wq (bC Z Z (by first | decide | omega) (by first | decide | omega)) Z (aL 23 (.int .i64 1) (iE (by first | decide | omega)) (bK Z Z (aB (aC (fO (eF (fr:=[(4,.pointer _),(5,.pointer _),(6,.pointer _),(7,.pointer _),(8,.int .i64 3),(9,.int _ _),(10,.int .i64 1),(11,.int _ _),(16,.int .i64 3),(17,.bool true)]) (bE Z (bE Z (bE Z (bE Z (bE Z (bE Z (bE Z (bE Z (bE Z (bE Z dZ)))))))))) (fun ρ68 => ?_)))))))
 have M69:Mem _ _ [_,_,_,(some _,bc [.int .u64 ((t00 % 65536:Nat):Int),.int .u64 ((t10 % 65536:Nat):Int),.int .u64 ((t20 % 65536:Nat):Int),.int .u64 ((t30 % 65536:Nat):Int),.int .u64 ((t22 % 65536:Nat):Int),.int .u64 ((t23 % 65536:Nat):Int),.int .u64 ((t23 / 65536:Nat):Int),.int .u64 0] 307)] _:=M67
 refine aE (aE (aA (aQ Z Z (cX Z Z Z Z (kR 21 Z (by first | decide | omega) (aB (aC (cE Z (aM (aC (aE (aP (aE (fW [(0,0),(1,0),(2,0),(3,0),(4,0),(5,1),(6,0),(7,0),(8,0),(9,1),(10,0),(11,0),(12,0),(13,1),(14,0),(15,0),(16,0),(17,0),(18,0)] mixed M69 Z (by kernel_rfl) (fun w70 M70 => ?_)))))))))))))))
 obtain ⟨t31,ht31,ba31,bb31,bc31,bd31,be31⟩:=gL (z:=t22 % 65536) (c:=t30 / 65536) (x:=x3) (y:=y1) (Nat.mod_lt _ (by decide)) be30 hx3 hy1
 refine eD Z Z Z (eD Z Z Z (aV Z Z Z (fun _=>bC Z Z (by first | decide | omega) (by first | decide | omega)) (aV Z Z Z (fun _=>aD 0 bU Z) (aV Z Z Z (fun _=>cD (4) dD Z Z Z (by decide)) (bP Z Z Z (aK 3 (.int _ _) cT M70 Z Z Z) (eD Z Z Z (aV Z Z Z (fun _=>aD 0 bU Z) (aV Z Z Z (fun _=>cD (3) dD Z Z Z (by decide)) (bP Z Z Z (aK 1 (.int _ _) cT M70 Z Z Z) (eD Z Z Z (aV Z Z Z (fun _=>aD 0 bU Z) (aV Z Z Z (fun _=>cD (1) dD Z Z Z (by decide)) ?_))))))))))))
 refine bP Z Z Z (aK 2 (.int _ _) cT M70 Z Z Z) (aV Z Z Z (fun _=>cA (.int _ _) Z Z Z) (dV 38 (.int .u64 ((x3*y1:Nat):Int)) (iE (lX x3 y1 ba31)) (aV Z Z Z (fun _=>cA (.int _ _) Z Z Z) (dV 39 (.int .u64 ((t22 % 65536+x3*y1:Nat):Int)) (iE (lS (t22 % 65536) (x3*y1) bb31)) (eD Z Z Z (aV Z Z Z (fun _=>cA (.int _ _) Z Z Z) (dV 41 (.int .u64 (t31:Int)) (iE ((lS (t22 % 65536+x3*y1) (t30 / 65536) bc31).trans (congrArg _ ht31.symm))) (mW Z Z Z (bS (aC (aE (aA (aQ Z Z (aQ Z Z ?_))))))))))))))
 refine wq (bC Z Z (by first | decide | omega) (by first | decide | omega)) Z (aL 44 (.int .i64 4) (iE (by first | decide | omega)) (aQ Z Z (wq (iJ Z Z (by decide)) Z (aL 46 (.int .u64 ((t31 % 65536:Nat):Int)) (iE (jZ t31 65536)) (wq (aD 0 bU Z) Z (wq (cD (4) dD Z Z Z (by decide)) Z (dA 3 (.int _ _) cT M70 Z Z Z Z Z Z (fun w71 M71=>(aB (aC (aA (aQ Z Z (wq (gA Z Z (by decide)) Z (aL 50 (.int .u64 ((t31 / 65536:Nat):Int)) (iE (jL t31 65536 bd31)) (bK Z Z (aB (cR (aC (aA ?_)))))))))))))))))))
 refine aQ Z Z (wq (bC Z Z (by first | decide | omega) (by first | decide | omega)) Z (aL 23 (.int .i64 2) (iE (by first | decide | omega)) (bK Z Z (aB (aC (fO (eF (fr:=[(4,.pointer _),(5,.pointer _),(6,.pointer _),(7,.pointer _),(8,.int .i64 3),(9,.int _ _),(10,.int .i64 2),(11,.int _ _),(16,.int .i64 3),(17,.bool true)]) (bE Z (bE Z (bE Z (bE Z (bE Z (bE Z (bE Z (bE Z (bE Z (bE Z dZ)))))))))) (fun ρ72 => ?_))))))))
 have M73:Mem _ _ [_,_,_,(some _,bc [.int .u64 ((t00 % 65536:Nat):Int),.int .u64 ((t10 % 65536:Nat):Int),.int .u64 ((t20 % 65536:Nat):Int),.int .u64 ((t30 % 65536:Nat):Int),.int .u64 ((t31 % 65536:Nat):Int),.int .u64 ((t23 % 65536:Nat):Int),.int .u64 ((t23 / 65536:Nat):Int),.int .u64 0] 307)] _:=M71
 refine aE (aE (aA (aQ Z Z (cX Z Z Z Z (kR 21 Z (by first | decide | omega) (aB (aC (cE Z (aM (aC (aE (aP (aE (fW [(0,0),(1,0),(2,0),(3,0),(4,0),(5,1),(6,0),(7,0),(8,0),(9,1),(10,0),(11,0),(12,0),(13,1),(14,0),(15,0),(16,0),(17,0),(18,0)] mixed M73 Z (by kernel_rfl) (fun w74 M74 => ?_)))))))))))))))
 obtain ⟨t32,ht32,ba32,bb32,bc32,bd32,be32⟩:=gL (z:=t23 % 65536) (c:=t31 / 65536) (x:=x3) (y:=y2) (Nat.mod_lt _ (by decide)) be31 hx3 hy2
 refine eD Z Z Z (eD Z Z Z (aV Z Z Z (fun _=>bC Z Z (by first | decide | omega) (by first | decide | omega)) (aV Z Z Z (fun _=>aD 0 bU Z) (aV Z Z Z (fun _=>cD (5) dD Z Z Z (by decide)) (bP Z Z Z (aK 3 (.int _ _) cT M74 Z Z Z) (eD Z Z Z (aV Z Z Z (fun _=>aD 0 bU Z) (aV Z Z Z (fun _=>cD (3) dD Z Z Z (by decide)) (bP Z Z Z (aK 1 (.int _ _) cT M74 Z Z Z) (eD Z Z Z (aV Z Z Z (fun _=>aD 0 bU Z) (aV Z Z Z (fun _=>cD (2) dD Z Z Z (by decide)) ?_))))))))))))
 refine bP Z Z Z (aK 2 (.int _ _) cT M74 Z Z Z) (aV Z Z Z (fun _=>cA (.int _ _) Z Z Z) (dV 38 (.int .u64 ((x3*y2:Nat):Int)) (iE (lX x3 y2 ba32)) (aV Z Z Z (fun _=>cA (.int _ _) Z Z Z) (dV 39 (.int .u64 ((t23 % 65536+x3*y2:Nat):Int)) (iE (lS (t23 % 65536) (x3*y2) bb32)) (eD Z Z Z (aV Z Z Z (fun _=>cA (.int _ _) Z Z Z) (dV 41 (.int .u64 (t32:Int)) (iE ((lS (t23 % 65536+x3*y2) (t31 / 65536) bc32).trans (congrArg _ ht32.symm))) (mW Z Z Z (bS (aC (aE (aA (aQ Z Z (aQ Z Z ?_))))))))))))))
 refine wq (bC Z Z (by first | decide | omega) (by first | decide | omega)) Z (aL 44 (.int .i64 5) (iE (by first | decide | omega)) (aQ Z Z (wq (iJ Z Z (by decide)) Z (aL 46 (.int .u64 ((t32 % 65536:Nat):Int)) (iE (jZ t32 65536)) (wq (aD 0 bU Z) Z (wq (cD (5) dD Z Z Z (by decide)) Z (dA 3 (.int _ _) cT M74 Z Z Z Z Z Z (fun w75 M75=>(aB (aC (aA (aQ Z Z (wq (gA Z Z (by decide)) Z (aL 50 (.int .u64 ((t32 / 65536:Nat):Int)) (iE (jL t32 65536 bd32)) (bK Z Z (aB (cR (aC (aA ?_)))))))))))))))))))
 refine aQ Z Z (wq (bC Z Z (by first | decide | omega) (by first | decide | omega)) Z (aL 23 (.int .i64 3) (iE (by first | decide | omega)) (bK Z Z (aB (aC (fO (eF (fr:=[(4,.pointer _),(5,.pointer _),(6,.pointer _),(7,.pointer _),(8,.int .i64 3),(9,.int _ _),(10,.int .i64 3),(11,.int _ _),(16,.int .i64 3),(17,.bool true)]) (bE Z (bE Z (bE Z (bE Z (bE Z (bE Z (bE Z (bE Z (bE Z (bE Z dZ)))))))))) (fun ρ76 => ?_))))))))
 have M77:Mem _ _ [_,_,_,(some _,bc [.int .u64 ((t00 % 65536:Nat):Int),.int .u64 ((t10 % 65536:Nat):Int),.int .u64 ((t20 % 65536:Nat):Int),.int .u64 ((t30 % 65536:Nat):Int),.int .u64 ((t31 % 65536:Nat):Int),.int .u64 ((t32 % 65536:Nat):Int),.int .u64 ((t23 / 65536:Nat):Int),.int .u64 0] 307)] _:=M75
 refine aE (aE (aA (aQ Z Z (cX Z Z Z Z (kR 21 Z (by first | decide | omega) (aB (aC (cE Z (aM (aC (aE (aP (aE (fW [(0,0),(1,0),(2,0),(3,0),(4,0),(5,1),(6,0),(7,0),(8,0),(9,1),(10,0),(11,0),(12,0),(13,1),(14,0),(15,0),(16,0),(17,0),(18,0)] mixed M77 Z (by kernel_rfl) (fun w78 M78 => ?_)))))))))))))))
 obtain ⟨t33,ht33,ba33,bb33,bc33,bd33,be33⟩:=gL (z:=t23 / 65536) (c:=t32 / 65536) (x:=x3) (y:=y3) be23 be32 hx3 hy3
 refine eD Z Z Z (eD Z Z Z (aV Z Z Z (fun _=>bC Z Z (by first | decide | omega) (by first | decide | omega)) (aV Z Z Z (fun _=>aD 0 bU Z) (aV Z Z Z (fun _=>cD (6) dD Z Z Z (by decide)) (bP Z Z Z (aK 3 (.int _ _) cT M78 Z Z Z) (eD Z Z Z (aV Z Z Z (fun _=>aD 0 bU Z) (aV Z Z Z (fun _=>cD (3) dD Z Z Z (by decide)) (bP Z Z Z (aK 1 (.int _ _) cT M78 Z Z Z) (eD Z Z Z (aV Z Z Z (fun _=>aD 0 bU Z) (aV Z Z Z (fun _=>cD (3) dD Z Z Z (by decide)) ?_))))))))))))
 refine bP Z Z Z (aK 2 (.int _ _) cT M78 Z Z Z) (aV Z Z Z (fun _=>cA (.int _ _) Z Z Z) (dV 38 (.int .u64 ((x3*y3:Nat):Int)) (iE (lX x3 y3 ba33)) (aV Z Z Z (fun _=>cA (.int _ _) Z Z Z) (dV 39 (.int .u64 ((t23 / 65536+x3*y3:Nat):Int)) (iE (lS (t23 / 65536) (x3*y3) bb33)) (eD Z Z Z (aV Z Z Z (fun _=>cA (.int _ _) Z Z Z) (dV 41 (.int .u64 (t33:Int)) (iE ((lS (t23 / 65536+x3*y3) (t32 / 65536) bc33).trans (congrArg _ ht33.symm))) (mW Z Z Z (bS (aC (aE (aA (aQ Z Z (aQ Z Z ?_))))))))))))))
 refine wq (bC Z Z (by first | decide | omega) (by first | decide | omega)) Z (aL 44 (.int .i64 6) (iE (by first | decide | omega)) (aQ Z Z (wq (iJ Z Z (by decide)) Z (aL 46 (.int .u64 ((t33 % 65536:Nat):Int)) (iE (jZ t33 65536)) (wq (aD 0 bU Z) Z (wq (cD (6) dD Z Z Z (by decide)) Z (dA 3 (.int _ _) cT M78 Z Z Z Z Z Z (fun w79 M79=>(aB (aC (aA (aQ Z Z (wq (gA Z Z (by decide)) Z (aL 50 (.int .u64 ((t33 / 65536:Nat):Int)) (iE (jL t33 65536 bd33)) (bK Z Z (aB (cR (aC (aA ?_)))))))))))))))))))
 refine aQ Z Z (wq (bC Z Z (by first | decide | omega) (by first | decide | omega)) Z (aL 23 (.int .i64 4) (iE (by first | decide | omega)) (bK Z Z (aB (aC (fO (eF (fr:=[(4,.pointer _),(5,.pointer _),(6,.pointer _),(7,.pointer _),(8,.int .i64 3),(9,.int _ _),(10,.int .i64 4),(11,.int _ _),(16,.int .i64 3),(17,.bool true)]) (bE Z (bE Z (bE Z (bE Z (bE Z (bE Z (bE Z (bE Z (bE Z (bE Z dZ)))))))))) (fun ρ80 => ?_))))))))
 have M81:Mem _ _ [_,_,_,(some _,bc [.int .u64 ((t00 % 65536:Nat):Int),.int .u64 ((t10 % 65536:Nat):Int),.int .u64 ((t20 % 65536:Nat):Int),.int .u64 ((t30 % 65536:Nat):Int),.int .u64 ((t31 % 65536:Nat):Int),.int .u64 ((t32 % 65536:Nat):Int),.int .u64 ((t33 % 65536:Nat):Int),.int .u64 0] 307)] _:=M79
 refine aE (aE (aA (aQ Z Z (cX Z Z Z Z (pD 21 Z (by first | decide | omega) (aB (aC (cG Z (cN (dC (dC (eJ (aC (aA (aQ Z Z (wq (bC Z Z (by first | decide | omega) (by first | decide | omega)) Z (aL 52 (.int .i64 7) (iE (by first | decide | omega)) (aQ Z Z (wq (aD 0 bU Z) Z (wq (cD (7) dD Z Z Z (by decide)) Z ?_))))))))))))))))))))
 refine dA 3 (.int _ _) cT M81 Z Z Z Z Z Z (fun w82 M82=>(aB (cR (aC (aA (aQ Z Z (wq (bC Z Z (by first | decide | omega) (by first | decide | omega)) Z (aL 19 (.int .i64 4) (iE (by first | decide | omega)) (bK Z Z (aB (aC (fO (eF (fr:=[(4,.pointer _),(5,.pointer _),(6,.pointer _),(7,.pointer _),(8,.int .i64 4),(9,.int _ _),(10,.int .i64 4),(11,.int _ _)]) (bE Z (bE Z (bE Z (bE Z (bE Z (bE Z (bE Z (bE Z dZ)))))))) (fun ρ83 => ?_))))))))))))))
 have M84:Mem _ _ [_,_,_,(some _,bc [.int .u64 ((t00 % 65536:Nat):Int),.int .u64 ((t10 % 65536:Nat):Int),.int .u64 ((t20 % 65536:Nat):Int),.int .u64 ((t30 % 65536:Nat):Int),.int .u64 ((t31 % 65536:Nat):Int),.int .u64 ((t32 % 65536:Nat):Int),.int .u64 ((t33 % 65536:Nat):Int),.int .u64 ((t33 / 65536:Nat):Int)] 307)] _:=M82
 refine aE (aE (aA (aQ Z Z (cX Z Z Z Z (pD 17 Z (by first | decide | omega) (aB (aC (cG Z (cN (dC (dC (eJ (aC (aE (aA (wq (aX 3 oX M84 Z Z Z) Z (bG 0 _ oX M84 Z Z Z Z Z (aS Z) Z (fun w85 M85=>(aB (aC (aO (eQ 0 oX M85 Z Z Z ?_))))))))))))))))))))))
 have hall:=bKl ht00 ht01 ht02 ht03 ht10 ht11 ht12 ht13 ht20 ht21 ht22 ht23 ht30 ht31 ht32 ht33
 rw [hX,hY] at hall
 exact ⟨[t00 % 65536,t10 % 65536,t20 % 65536,t30 % 65536,t31 % 65536,t32 % 65536,t33 % 65536,t33 / 65536],Z,Z,bWf (Nat.mod_lt _ (by decide)) (Nat.mod_lt _ (by decide)) (Nat.mod_lt _ (by decide)) (Nat.mod_lt _ (by decide)) (Nat.mod_lt _ (by decide)) (Nat.mod_lt _ (by decide)) (Nat.mod_lt _ (by decide)) be33,hall,M85.below⟩
theorem bAa (w:World) (d0 d1 d2 d3 d4 d5 d6 d7:Nat) (hd:∀ x∈([d0,d1,d2,d3,d4,d5,d6,d7]:List Nat),x < 65536) (i:Nat) (hi:i < 128) :
  Calls prog 225 #[(.agg (([d0,d1,d2,d3,d4,d5,d6,d7]:List Nat).map mE).toArray),.int .i64 (i:Int)] w (Rb w (.int .u64 ((uX [d0,d1,d2,d3,d4,d5,d6,d7] / 2 ^ i % 2:Nat):Int))):=by
 obtain ⟨d,hdj⟩:=cF (xs:=([d0,d1,d2,d3,d4,d5,d6,d7]:List Nat)) (k:=i / 16) (n:=8) rfl (by omega)
 have hdl:=hd d (List.mem_of_getElem? hdj)
 refine aI #[.tmp 4] 22 func225 Z results225 ntmps225 Z ?_
 have M0:=Mem.refl w
 refine aE (aA (bN (.agg (.mk _)) M0 rfl rfl rfl (fun b1 w1 M1=>(bK rfl rfl (aB (aC (aE (aA (aQ rfl rfl (wq (gA rfl rfl (by decide)) rfl (aL 8 (.int .i64 ((i / 16:Nat):Int)) (iE (bWi i 16 (by omega))) (wq (aD 0 bU rfl) rfl (wq (cD ((i / 16)) dD rfl rfl rfl (by omega)) rfl (wq (aK 0 (.int _ _) cT M1 rfl rfl (bLm hdj)) rfl (bK rfl rfl (aB (aC (aE (aE (aA (bK rfl rfl (aB (aC (aP (dG (σ:=Nat) [1,4] (fun k=>[(5,.int .u64 ((d / 2 ^ k:Nat):Int)),(6,.int .i64 (k:Int))]) (fun k w'=>k≤i % 16∧Mem w [] [(some b1,bc (([d0,d1,d2,d3,d4,d5,d6,d7]:List Nat).map mE) 307)] w') (fun k=>i % 16 - k) 0 (bE (iv rfl (by simp)) (bE rfl dZ)) (⟨by omega,M1⟩) ?_)))))))))))))))))))))))))
 rintro k ρ2 w2 ⟨hk,hM2⟩
 refine aE (aE (aA (aQ Z Z (aQ Z Z (wq (iJ Z Z (by decide)) Z (aL 14 (.int .i64 ((i % 16:Nat):Int)) (iE (jZ i 16)) (cX Z Z Z Z (aB (aC ?_)))))))))
 refine aU Z (fun h15 => ?_) (fun h15 => ?_)
 ·refine aM (aC (aE (aP (aA (aQ Z Z (wq (gA Z Z (by decide)) Z (aL 19 (.int .u64 ((d / 2 ^ (k+1):Nat):Int)) (iE ((jL (d / 2 ^ k) 2 (Nat.lt_of_le_of_lt (Nat.div_le_self _ _) (by omega))).trans (congrArg _ (by rw [Nat.pow_succ,Nat.div_div_eq_div_mul])))) (bK Z Z (aB (cR (aC (aA (aQ Z Z (wq (bC Z Z (by omega) (by omega)) Z (bK Z Z (aB ?_))))))))))))))))
  refine bX (k+1) (bE Z (bE Z dZ)) (bZ Z (bZ Z gK)) ?_ ?_
  ·exact ⟨by omega,hM2⟩
  ·omega
 ·have hks:k=i % 16:=by omega
  refine cN (dC (dE (eJ (aC (aE (aA (aQ Z Z (wq (iJ Z Z (by decide)) Z (aL 21 (.int .u64 ((d / 2 ^ k % 2:Nat):Int)) (iE (jZ (d / 2 ^ k) 2)) (bK Z Z (aB (aC (aO (cI (.int _ _) Z ?_))))))))))))))
  exact ⟨iE (congrArg _ (by rw [hks];exact bOf (uX [d0,d1,d2,d3,d4,d5,d6,d7]) i (i / 16) (i % 16) d (by omega) (by omega) (aRh [d0,d1,d2,d3,d4,d5,d6,d7] (i / 16) d hd hdj))),hM2.below⟩
theorem zU (w:World) (d0 d1 d2 d3 d4 d5 d6 d7:Nat) (hd:∀ x∈([d0,d1,d2,d3,d4,d5,d6,d7]:List Nat),x < 65536) (z:Nat) (hz:0 < z) (hz1:z≤9223372036854775807) (hX:uX [d0,d1,d2,d3,d4,d5,d6,d7] / z≤4611686018427387904) (hX2:uX [d0,d1,d2,d3,d4,d5,d6,d7] < 340282366920938463463374607431768211456) :
  Calls prog 203 #[(.agg (([d0,d1,d2,d3,d4,d5,d6,d7]:List Nat).map mE).toArray),.int .u64 (z:Int)] w (Rb w (.tuple #[.int .u64 ((uX [d0,d1,d2,d3,d4,d5,d6,d7] / z:Nat):Int),.int .u64 ((uX [d0,d1,d2,d3,d4,d5,d6,d7] % z:Nat):Int),.bool true])):=by
 refine aI #[.tmp 4,.tmp 5,.tmp 6] 42 func203 Z results203 ntmps203 Z ?_
 have M0:=Mem.refl w
 refine aE (aA (bN (.agg (.mk _)) M0 Z Z Z (fun b1 w1 M1=>(bK Z Z (bK Z Z (wq (aJ (.bool false) Z) Z (aB (aC (aE (aA (bK Z Z (aB (aC (aE (aA (bK Z Z (aB (aC (aE (aA (wq (aJ (.bool true) Z) Z (aB (aC (aE (aE (aA (bK Z Z (aB (aC (aP (dG (σ:=Nat × Nat × Nat) [1,2,4,5,6] (fun (p,q,r)=>[(7,.int .u64 (q:Int)),(8,.int .u64 (r:Int)),(9,.bool true),(10,.int .i64 ((p:Int) - 1))]) (fun (p,q,r) w'=>(p≤128∧Lb (uX [d0,d1,d2,d3,d4,d5,d6,d7]) z p q r)∧Mem w [] [(some b1,bc (([d0,d1,d2,d3,d4,d5,d6,d7]:List Nat).map mE) 307)] w') (fun (p,q,r)=>p) (128,0,0) (bE Z (bE Z (bE Z (bE (iv Z (by decide)) dZ)))) (⟨⟨by omega,bKd hz hX2⟩,M1⟩) ?_)))))))))))))))))))))))))))))))
 rintro ⟨p,q,r⟩ ρ2 w2 ⟨⟨hp,hlb⟩,hM2⟩
 refine aE (aE (aA (aQ Z Z (cX Z Z Z Z (aB (aC ?_))))))
 refine aU Z (fun h13 => ?_) (fun h13 => ?_)
 ·obtain ⟨s,rfl⟩:∃ s,p=s+1:=⟨p - 1,by omega⟩
  obtain ⟨b,hb⟩:∃ b,uX [d0,d1,d2,d3,d4,d5,d6,d7] / 2 ^ s % 2=b:=⟨_,rfl⟩
  obtain ⟨hr,hb2,hq2,hyes,hno⟩:=bKe hz hlb hb
  have hsm:=bFd (i:=s) hX
  refine aM (aC (aE (aP (aE (aA (aQ Z Z (cX Z Z Z Z (pD 17 Z (by omega) (wq (aJ (.bool false) Z) Z (aB (aC (aE (aA (aQ Z Z (wq (cA (.int _ _) Z Z Z) Z (aL 19 (.int .u64 ((2*r:Nat):Int)) (iE (by rw [gS];omega)) (wq (aX 0 oX hM2 Z Z Z) Z (aQ Z Z (aL 21 (.int .i64 (s:Int)) (iE (by omega)) (eP bQv Z Z (bAa _ d0 d1 d2 d3 d4 d5 d6 d7 hd s (by omega)) ?_))))))))))))))))))))
  rintro v3 w3 ⟨rfl,hb3⟩
  have M3:=hM2.callB hb3
  refine aL 22 (.int .u64 (b:Int)) (iE (congrArg _ hb)) (wq (cA (.int _ _) Z Z Z) Z (aL 23 (.int .u64 ((2*r+b:Nat):Int)) (iE (by rw [gS];omega)) (bK Z Z (aB (aC (aE (aE (aA (aQ Z Z (cX Z Z Z Z (pD 25 Z (by omega) (aB (aC (cG Z (aM (aC (aE (aA (aQ Z Z (wq (cA (.int _ _) Z Z Z) Z (aL 27 (.int .u64 ((2*q:Nat):Int)) (iE (by rw [gS];omega)) (bK Z Z (aB (aC (aE (aA ?_))))))))))))))))))))))))))
  refine wq (aH (.bool false) Z) Z (wq (aH (.bool false) Z) Z (aQ Z Z (aQ Z Z (cX Z Z Z Z (wq (bR false (.bool (decide _)) Z Z) Z (aB (aC ?_)))))))
  refine aU Z (fun h33 => ?_) (fun h33 => ?_)
  ·refine aE (aA (aQ Z Z (aQ Z Z (wq (cA (.int _ _) Z Z Z) Z (aL 36 (.int .u64 ((2*r+b - z:Nat):Int)) (iE (by rw [gS];omega)) (bK Z Z (aB (aC (aA (aQ Z Z (wq (cA (.int _ _) Z Z Z) Z (aL 38 (.int .u64 ((2*q+1:Nat):Int)) (iE (by rw [gS];omega)) (bK Z Z (aB (cR (aC (aA (aQ Z Z (wq (gG Z Z (by omega) (by omega)) Z ?_)))))))))))))))))))
   refine bK Z Z (aB ?_)
   refine bX (s,2*q+1,2*r+b - z) (bE Z (bE Z (bE Z (bE (iv Z (by omega)) dZ)))) (bZ Z (bZ Z (bZ Z (bZ Z (bZ Z gK))))) ?_ ?_
   ·exact ⟨⟨by omega,hyes (by omega)⟩,M3⟩
   ·(show s < s+1;omega)
  ·refine aM (cR (aC (aA (aQ Z Z (wq (gG Z Z (by omega) (by omega)) Z (bK Z Z (aB ?_)))))))
   refine bX (s,2*q,2*r+b) (bE Z (bE Z (bE Z (bE (iv Z (by omega)) dZ)))) (bZ Z (bZ Z (bZ Z (bZ Z (bZ Z gK))))) ?_ ?_
   ·exact ⟨⟨by omega,hno (by omega)⟩,M3⟩
   ·(show s < s+1;omega)
 ·obtain rfl:p=0:=by omega
  obtain ⟨hq,hr⟩:=bKc hlb
  refine cN (dC (dE (eJ (aC (aE (aA (aQ Z Z (aQ Z Z (wq (aH (.bool true) Z) Z (bK Z Z (bK Z Z (wq (aJ (.bool true) Z) Z (aB (aC (aO (bEh (.int _ _) (.int _ _) (.bool true) Z Z Z ?_))))))))))))))))
  exact ⟨by rw [hq,hr],hM2.below⟩
theorem aCt (w:World) (q r:Nat) (neg:Bool) (hq:q≤4294967296) :
  Calls prog 205 #[.int .u64 (q:Int),.int .u64 (r:Int),.bool true,.bool neg] w (Rb w (.tuple #[.int .i64 (if neg=true then (if 0 < r then -(q:Int) - 1 else -(q:Int)) else (q:Int)),.bool true])):=by
 refine aI #[.tmp 8,.tmp 9] 33 func205 Z results205 ntmps205 Z ?_
 have M0:=Mem.refl w
 refine aE (aA (bK Z Z (wq (aJ (.bool false) Z) Z (aB (aC (aE (aE (aA (wq (aH (.bool _) Z) Z (wq (gR _ Z Z) Z (aB (aC ?_))))))))))))
 refine iL _ Z (fun h11 => ?_) (fun h11 => ?_)
 ·have hn:neg=false:=by simpa using h11
  refine aE (aA (aQ Z Z (wq (bH xE underlying2 Z (fJ _ (by omega) (by omega))) Z (wq (aH (.bool true) Z) Z (wq (aH (.bool true) Z) Z (aQ Z Z (cX Z Z Z Z (kR 17 Z (by omega) (wq (bR true (.bool true) Z Z) Z (bK Z Z (wq (aJ (.bool true) Z) Z (aB (aC (aO (cO (fX (.int _ _) (.bool true) Z Z ?_))))))))))))))))
  exact ⟨by rw [hn];rfl,M0.below⟩
 ·have hn:neg=true:=by simpa using h11
  refine aM (aC (aE (aE (aA (aQ Z Z (cX Z Z Z Z (aB (aC ?_))))))))
  refine aU Z (fun h20 => ?_) (fun h20 => ?_)
  ·refine aE (aE (aA (aQ Z Z (cX Z Z Z Z (pD 22 Z (by omega) (aB (aC (cG Z (aM (aC (aA (aQ Z Z (wq (cA (.int _ _) Z Z Z) Z (aL 24 (.int .u64 ((q+1:Nat):Int)) (iE (by rw [gS];omega)) (bK Z Z (aB (aC (aE (aA (aQ Z Z (wq (sE Z) Z (wq (dF xE underlying2 Z) Z (aL 27 (.int .i64 (-((q+1:Nat):Int))) (iE (aNq (q+1) (by omega))) ?_)))))))))))))))))))))))
   refine wq (aH (.bool true) Z) Z (wq (aH (.bool true) Z) Z (aQ Z Z (cX Z Z Z Z (kR 31 Z (by omega) (wq (bR true (.bool true) Z Z) Z (bK Z Z (wq (aJ (.bool true) Z) Z (aB (aC (aO (fX (.int _ _) (.bool true) Z Z ?_)))))))))))
   exact ⟨by rw [if_pos hn,if_pos (by omega)];exact uW (iE (by omega)) Z,M0.below⟩
  ·refine aM (aC (aE (aA (aQ Z Z (wq (sE Z) Z (wq (dF xE underlying2 Z) Z (aL 27 (.int .i64 (-((q:Nat):Int))) (iE (aNq (q) (by omega))) (wq (aH (.bool true) Z) Z (wq (aH (.bool true) Z) Z (aQ Z Z (cX Z Z Z Z (kR 31 Z (by omega) (wq (bR true (.bool true) Z Z) Z (bK Z Z (wq (aJ (.bool true) Z) Z (aB (aC (aO (fX (.int _ _) (.bool true) Z Z ?_)))))))))))))))))))
   exact ⟨by rw [if_pos hn,if_neg (by omega)],M0.below⟩
theorem zS (w:World) (a n d:Int) (ha : -4294967296≤a∧a≤4294967296) (hn:0≤n) (hnd:n≤d) (hd0:0 < d) (hd:d≤9223372036854775807) :
  Calls prog 202 #[.int .i64 a,.int .i64 n,.int .i64 d] w (Rb w (.tuple #[.int .i64 (a*n / d),.int .i64 0])):=by
 obtain ⟨m,rfl⟩:=Int.eq_ofNat_of_zero_le hn
 obtain ⟨z,rfl⟩:=Int.eq_ofNat_of_zero_le (Int.le_of_lt hd0)
 have hmd:=aQa (a:=a) (m:=m) (z:=z) ha (by omega) (by omega) (by omega)
 obtain ⟨q,hq⟩:∃ q,a.natAbs*m / z=q:=⟨_,rfl⟩
 obtain ⟨r,hr⟩:∃ r,a.natAbs*m % z=r:=⟨_,rfl⟩
 have hql:q≤4294967296:=by rw [← hq];exact hmd.2.2.2
 have hbig:a.natAbs*m≤4294967296*9223372036854775807:=Nat.mul_le_mul (by omega) (by omega)
 refine aI #[.tmp 6,.tmp 7] 49 func202 Z results202 ntmps202 Z ?_
 have M0:=Mem.refl w
 refine aE (aA (bK Z Z (bK Z Z (aB (aC (aE (aE (aA (aQ Z Z (cX Z Z Z Z (pD 15 Z (by omega) (aB (aC (cG Z (aM (aC (aE (aA (aQ Z Z (wq (dF mV underlying193 Z) Z (aL 17 (.int .u64 (z:Int)) (iE (by rw [gS];omega)) (bK Z Z (aB (aC (aE (aE (aA (aQ Z Z ?_))))))))))))))))))))))))))))
 refine cX Z Z Z Z (pD 19 Z (by omega) (aB (aC (cG Z (aM (aC (aE (aA (aQ Z Z (aQ Z Z (eP bCz Z Z (xB _ a (m:Int) (by omega) (by omega) (by omega) (by omega)) ?_)))))))))))
 rintro v1 w1 ⟨D,rfl,hD8,hDd,hDv,hb1⟩
 have M1:=M0.callB hb1
 obtain ⟨d0,d1,d2,d3,d4,d5,d6,d7,rfl⟩:=bNh hD8
 rw [Int.natAbs_natCast] at hDv
 refine aQ Z Z (dN bCy Z Z M1 (zU _ d0 d1 d2 d3 d4 d5 d6 d7 hDd z (by omega) (by omega) (by rw [hDv];omega) (by rw [hDv];omega)) (fun w2 M2=>(wq (aH (.tuple (List.toArray _)) Z) Z (wq (bM (.int _ _) Z Z) Z (aL 28 (.int .u64 (q:Int)) (iE (by rw [hDv,hq])) (wq (bM (.int _ _) Z Z) Z (aL 29 (.int .u64 (r:Int)) (iE (by rw [hDv,hr])) (wq (bM (.bool true) Z Z) Z (bK Z Z (bK Z Z (wq (aJ (.bool true) Z) Z (aB (aC (aE (aA (aQ Z Z (aQ Z Z (wq (aH (.bool true) Z) Z (aQ Z Z ?_)))))))))))))))))))
 refine cX rfl rfl rfl rfl (aQ rfl rfl (cX rfl rfl rfl rfl (pD 38 rfl (by omega) (wq (uK _ underlying4 rfl rfl rfl) rfl (aL 39 (.bool (decide (a < 0))) (bv rfl (by simp)) (aQ rfl rfl (cX rfl rfl rfl rfl (pD 41 rfl (by omega) (wq (uK _ underlying4 rfl rfl rfl) rfl (aL 42 (.bool (decide (a < 0))) (bv rfl (by simp)) (dN bDa rfl rfl M2 (aCt _ q r (decide (a < 0)) hql) (fun w3 M3=>(wq (aH (.tuple (List.toArray _)) rfl) rfl (wq (bM (.int _ _) rfl rfl) rfl (wq (bM (.bool true) rfl rfl) rfl (bK rfl rfl ?_))))))))))))))))
 refine wq (aJ (.bool true) Z) Z (aB (aC (aE (aE (aA (wq (aH (.bool true) Z) Z (wq (gR false Z Z) Z (aB (aC (cG Z (aM (aC (aE (aA (aQ Z Z (bK Z Z (bK Z Z (aB (aC (aO (fX (.int _ _) (.int _ _) Z Z ?_)))))))))))))))))))))
 have hval:(if decide (a < 0)=true then (if 0 < r then -(q:Int) - 1 else -(q:Int)) else (q:Int))=a*(m:Int) / (z:Int):=bFl hq hr hd0
 exact ⟨uW (iE hval) Z,M3.below⟩
theorem bVo (w:World) (n:Nat) (hn:n < 18446744073709551616) :
  Calls prog 219 #[.int .u64 (n:Int)] w (Rb w (.int .u64 ((wY n:Nat):Int))):=by
 refine aI #[.tmp 2] 32 func219 Z results219 ntmps219 Z ?_
 have M0:=Mem.refl w
 refine aE (aA (bK rfl rfl (aB (aC (aE (aA (aQ rfl rfl (bK rfl rfl (bK rfl rfl (aB (aC (aE (aE (aA (aQ rfl rfl (aB (aC (aP (dG (σ:=Nat × Nat × Nat) [2] (fun (i,R,e)=>[(8,.int .i64 (i:Int)),(3,.int .u64 ((n - R*R:Nat):Int)),(4,.int .u64 ((R*e:Nat):Int))]) (fun (i,R,e) w'=>Iq n i R e∧Mem w [] [] w') (fun (i,R,e)=>32 - i) (0,0,4294967296) (bE rfl (bE (iv rfl (by simp)) (bE (iv rfl (by simp)) dZ))) (⟨bJy hn,M0⟩) ?_)))))))))))))))))))
 rintro ⟨i,R,e⟩ ρ1 w1 ⟨I,hM1⟩
 have hile:=I.ile
 have hle:=I.le
 refine aE (aA (cX Z Z Z Z (aB (aC (aE ?_)))))
 refine aU Z (fun h9 => ?_) (fun h9 => ?_)
 ·obtain ⟨f,hf1,hf2,hf3,hf4,hf5,hf6,hf7,hf8,hfy,hfn⟩:=bJz (by omega) I
  refine aM (aC (aE (aP (aE (aA (aQ Z Z (bK Z Z (aB (aC (aE (aA (aQ Z Z (wq (fC Z Z (by omega) (by omega)) Z (wq (kK Z Z (by omega)) Z (aL 13 (.int .u64 ((f*f:Nat):Int)) (iE ((bLn (2*i) _ (by omega) (by omega)).trans (congrArg _ hf4))) (bK Z Z (aB (aC (aE (aA (aQ Z Z (aQ Z Z (aQ Z Z (wq (cA (.int _ _) Z Z Z) Z (aL 17 (.int .u64 ((R*e+f*f:Nat):Int)) (iE (by rw [gS];omega)) (cX Z Z Z Z ?_))))))))))))))))))))))))))
  refine aB (aC ?_)
  refine aU Z (fun h18 => ?_) (fun h18 => ?_)
  ·have h18':R*e+f*f≤n - R*R:=by omega
   refine aE (aA (aQ Z Z (aQ Z Z (aQ Z Z (wq (cA (.int _ _) Z Z Z) Z (aL 22 (.int .u64 ((R*e+f*f:Nat):Int)) (iE (by rw [gS];omega)) (wq (cA (.int _ _) Z Z Z) Z (aL 23 (.int .u64 ((n - (R+f)*(R+f):Nat):Int)) (iE (by rw [gS];omega)) (bK Z Z (aB (aC (aA (aQ Z Z (wq (kK Z Z (by decide)) Z (aL 25 (.int .u64 ((R*f:Nat):Int)) (iE ((bHq (R*e)).trans (congrArg _ hf5))) (aQ Z Z (wq (cA (.int _ _) Z Z Z) Z (aL 27 (.int .u64 (((R+f)*f:Nat):Int)) (iE (by rw [gS];omega)) ?_))))))))))))))))))
   refine bK Z Z (aB (cR (aC (aA (wq (bC Z Z (by omega) (by omega)) Z (aQ Z Z (aB ?_)))))))
   refine bX (i+1,R+f,f) (bE Z (bE Z (bE Z dZ))) (bZ Z gK) ?_ ?_
   ·exact ⟨hfy h18',hM1⟩
   ·(show 32 - (i+1) < 32 - i;omega)
  ·have h18':¬ (R*e+f*f≤n - R*R):=by omega
   refine aA (aQ Z Z (wq (kK Z Z (by decide)) Z (aL 29 (.int .u64 ((R*f:Nat):Int)) (iE ((bHq (R*e)).trans (congrArg _ hf5))) (bK Z Z (aB (cR (aC (aA (wq (bC Z Z (by omega) (by omega)) Z (aQ Z Z (aB ?_)))))))))))
   refine bX (i+1,R,f) (bE Z (bE Z (bE Z dZ))) (bZ Z gK) ?_ ?_
   ·exact ⟨hfn h18',hM1⟩
   ·(show 32 - (i+1) < 32 - i;omega)
 ·obtain rfl:i=32:=by omega
  refine cN (dC (dE (eJ (aC (aE (aA (aQ Z Z (bK Z Z (aB (aC (aO (cI (.int _ _) Z ?_))))))))))))
  exact ⟨iE (by rw [bJx I]),hM1.below⟩
theorem uY (w:World) (a b:Int × Int) (ha:I32 a) (hb:I32 b) :
  Calls prog 216 #[(.agg (cM a).toArray),(.agg (cM b).toArray)] w (Rb w (.tuple #[.int .i64 (b.1 - a.1),.int .i64 (b.2 - a.2)])):=by
 have hax:=ha.x
 have hay:=ha.y
 have hbx:=hb.x
 have hby:=hb.y
 refine aI #[.tmp 4,.tmp 5] 20 func216 Z results216 ntmps216 Z ?_
 have M0:=Mem.refl w
 refine aE (aA (bN (.agg (.mk _)) M0 Z Z Z (fun b1 w1 M1=>(bN (.agg (.mk _)) M1 Z Z Z (fun b2 w2 M2=>(bK Z Z (bK Z Z (aB (aC (aE (fW [(0,0),(1,1),(2,0),(3,0),(4,1),(5,0),(6,0),(7,0),(8,1),(9,0),(10,0),(11,1),(12,0),(13,0),(14,0),(15,0)] mixed M2 Z (by kernel_rfl) (fun w3 M3=>(aV Z Z Z (fun _=>aD 0 cV Z) (bP Z Z Z (aK 1 (.int _ _) aY M3 Z Z Z) (aV Z Z Z (fun _=>bH dY underlying2 Z (fJ _ (by omega) (by omega))) (aV Z Z Z (fun _=>aD 0 cV Z) ?_))))))))))))))))
 refine bP Z Z Z (aK 0 (.int _ _) aY M3 Z Z Z) (aV Z Z Z (fun _=>bH dY underlying2 Z (fJ _ (by omega) (by omega))) (aV Z Z Z (fun _=>gG Z Z (by omega) (by omega)) (aV Z Z Z (fun _=>aD 1 cS Z) (bP Z Z Z (aK 1 (.int _ _) aY M3 Z Z Z) (aV Z Z Z (fun _=>bH dY underlying2 Z (fJ _ (by omega) (by omega))) (aV Z Z Z (fun _=>aD 1 cS Z) (bP Z Z Z (aK 0 (.int _ _) aY M3 Z Z Z) (aV Z Z Z (fun _=>bH dY underlying2 Z (fJ _ (by omega) (by omega))) ?_))))))))
 refine aV Z Z Z (fun _=>gG Z Z (by omega) (by omega)) (mW Z Z Z (mW Z Z Z (bS (aC (aO (fX (.int _ _) (.int _ _) Z Z ?_))))))
 exact ⟨Z,M3.below⟩
theorem aHs (w:World) (n:Int) (hn:wV n) :
  Calls prog 217 #[.int .i64 n] w (Rb w (.int .u64 ((n.natAbs*n.natAbs:Nat):Int))):=by
 have hlt:=(sS hn hn).2.1
 unfold wV at hn
 refine aI #[.tmp 2] 12 func217 Z results217 ntmps217 Z ?_
 have M0:=Mem.refl w
 refine aE (aA (bK Z Z (aB (aC (aE (aE (aA (aQ Z Z (cX Z Z Z Z (aB (aC ?_)))))))))))
 refine aU Z (fun h4 => ?_) (fun h4 => ?_)
 ·refine aA (aQ Z Z (wq (sE Z) Z (aL 6 (.int .i64 (-n)) (iE (fJ _ (by omega) (by omega))) (bK Z Z (aB (aC (aE (aA (aQ Z Z (wq (dF mV underlying193 Z) Z (aL 8 (.int .u64 ((n.natAbs:Nat):Int)) (iE (by rw [gS];omega)) (aQ Z Z (wq (dF mV underlying193 Z) Z (aL 10 (.int .u64 ((n.natAbs:Nat):Int)) (iE (by rw [gS];omega)) (wq (cA (.int _ _) Z Z Z) Z (aL 11 (.int .u64 ((n.natAbs*n.natAbs:Nat):Int)) (iE (lX _ _ (by omega))) (bK Z Z (aB (aC (aO ?_))))))))))))))))))))
  refine cI (.int _ _) Z ?_
  exact ⟨Z,M0.below⟩
 ·refine aM (aC (aE (aA (aQ Z Z (wq (dF mV underlying193 Z) Z (aL 8 (.int .u64 ((n.natAbs:Nat):Int)) (iE (by rw [gS];omega)) (aQ Z Z (wq (dF mV underlying193 Z) Z (aL 10 (.int .u64 ((n.natAbs:Nat):Int)) (iE (by rw [gS];omega)) (wq (cA (.int _ _) Z Z Z) Z (aL 11 (.int .u64 ((n.natAbs*n.natAbs:Nat):Int)) (iE (lX _ _ (by omega))) (bK Z Z (aB (aC (aO (cI (.int _ _) Z ?_))))))))))))))))
  exact ⟨Z,M0.below⟩
theorem tD (w:World) (dx dy:Int) (hx:wV dx) (hy:wV dy) :
  Calls prog 191 #[.int .i64 dx,.int .i64 dy] w (Rb w (.int .u64 ((rM dx dy:Nat):Int))):=by
 have hl:=sS hx hy
 refine aI #[.tmp 4] 10 func191 Z results191 ntmps191 Z ?_
 have M0:=Mem.refl w
 refine aE (aA (bK Z Z (aB (aC (aE (aA (aQ Z Z (dN bDb Z Z M0 (aHs _ dx hx) (fun w1 M1=>(aQ Z Z (dN bDb Z Z M1 (aHs _ dy hy) (fun w2 M2=>(wq (cA (.int _ _) Z Z Z) Z (aL 9 (.int .u64 ((rM dx dy:Nat):Int)) (iE (by rw [gS];unfold rM at *;omega)) (bK Z Z (aB (aC (aO (cI (.int _ _) Z ?_)))))))))))))))))))
 exact ⟨Z,M2.below⟩
theorem aHr (w:World) (dx dy:Int) (hx:wV dx) (hy:wV dy) :
  Calls prog 193 #[.int .i64 dx,.int .i64 dy] w (Rb w (.int .i64 (len dx dy))):=by
 have hl:=xT hx hy
 refine aI #[.tmp 4] 10 func193 Z results193 ntmps193 Z ?_
 have M0:=Mem.refl w
 refine aE (aA (bK Z Z (aB (aC (aE (aA (aQ Z Z (aQ Z Z (dN aSa Z Z M0 (tD _ dx dy hx hy) (fun w1 M1=>(dN bQr Z Z M1 (bVo _ (rM dx dy) (sS hx hy).1) (fun w2 M2=>(wq (dF xE underlying2 Z) Z (aL 9 (.int .i64 (len dx dy)) (iE (fJ (len dx dy) (by omega) (by omega))) (bK Z Z (aB (aC (aO (cI (.int _ _) Z ?_)))))))))))))))))))
 exact ⟨Z,M2.below⟩
theorem aLf (w:World) (a b:Int) (hb:0 < b) (h0 : -1000000000000000000≤a) (h1:a≤1000000000000000000) :
  Calls prog 218 #[.int .i64 a,.int .i64 b] w (Rb w (.int .i64 (a / b))):=by
 have hf:=aCf (a:=a) hb
 have hb1:=aHq a b
 refine aI #[.tmp 4] 16 func218 Z results218 ntmps218 Z ?_
 have M0:=Mem.refl w
 refine aE (aA (bK Z Z (aB (aC (aE (aA (aQ Z Z (aQ Z Z (wq (gA Z Z (by omega)) Z (aL 8 (.int .i64 (a.tdiv b)) (iE (fJ _ (by omega) (by omega))) (bK Z Z (aB (aC (aE (aE (aA (aQ Z Z (aQ Z Z (wq (iJ Z Z (by omega)) Z (cX Z Z Z Z (aB (aC ?_))))))))))))))))))))))
 refine aU Z (fun h12 => ?_) (fun h12 => ?_)
 ·refine aA (aQ Z Z (wq (gG Z Z (by omega) (by omega)) Z (bK Z Z (aB (aC (aE (aA (aQ Z Z (bK Z Z (aB (aC (aO (cI (.int _ _) Z ?_)))))))))))))
  exact ⟨iE (by first | exact hf.1 (by omega) | exact hf.2 (by omega)),M0.below⟩
 ·refine aM (aC (aE (aA (aQ Z Z (bK Z Z (aB (aC (aO (cI (.int _ _) Z ?_)))))))))
  exact ⟨iE (by first | exact hf.1 (by omega) | exact hf.2 (by omega)),M0.below⟩
theorem bHs (w:World) (dx dy:Int) (hx:wV dx) (hy:wV dy) :
  Calls prog 192 #[.int .i64 dx,.int .i64 dy] w (Rb w ((.agg (cM (qM dx dy)).toArray))):=by
 have hl:=xT hx hy
 have hxx:=hx
 have hyy:=hy
 unfold wV at hxx hyy
 refine aI #[.cell 4 41] 23 func192 Z results192 ntmps192 Z ?_
 have M0:=Mem.refl w
 refine aE (aA (aR iY M0 Z Z (fun b1 w1 M1=>(aB (aC (aE (aA (aQ Z Z (aQ Z Z (dN bCt Z Z M1 (aHr _ dx dy hx hy) (fun w2 M2=>(bK Z Z (aB (aC (aE (aE (aA (aQ Z Z (cX Z Z Z Z (aB (aC ?_)))))))))))))))))))))
 refine aU Z (fun h10 => ?_) (fun h10 => ?_)
 ·refine aE (aA (wq (cB [(0,.int _ _)] _ eZ Z Z) Z (bG 0 _ bO M2 Z Z Z Z Z (aS Z) Z (fun w3 M3=>(aB (aC (aO (cO (eQ 0 bO M3 Z Z Z ?_)))))))))
  exact ⟨by unfold qM;first | (rw [if_pos (by omega)];rfl) | (rw [if_neg (by omega)];rfl),M3.below⟩
 ·refine aM (aC (aE (aA (aQ Z Z (wq (zR Z Z (by decide)) Z (aL 13 (.int .i64 (dx*65536)) (iE (aKc dx hx)) (aQ Z Z (dN bDc Z Z M2 (aLf _ (dx*65536) (len dx dy) (by omega) (by omega) (by omega)) (fun w4 M4=>(wq (dF mV underlying21 Z) Z (aQ Z Z (wq (zR Z Z (by decide)) Z (aL 18 (.int .i64 (dy*65536)) (iE (aKc dy hy)) (aQ Z Z (dN bDc Z Z M4 (aLf _ (dy*65536) (len dx dy) (by omega) (by omega) (by omega)) (fun w5 M5=>(wq (dF mV underlying21 Z) Z (wq (cB [(0,.int _ _),(1,.int _ _)] _ eZ Z Z) Z ?_))))))))))))))))))
  refine bG 0 _ bO M5 Z Z Z Z Z (aS Z) Z (fun w6 M6=>(aB (aC (aO (eQ 0 bO M6 Z Z Z ?_)))))
  exact ⟨by unfold qM;first | (rw [if_pos (by omega)];rfl) | (rw [if_neg (by omega)];rfl),M6.below⟩
theorem fF (w:World) (a b:Int) (hb:0 < b) (h0 : -1000000000000000000≤a) (h1:a≤1000000000000000000) :
  Calls prog 104 #[.int .i64 a,.int .i64 b] w (Rb w (.int .i64 (a / b))):=by
 have hf:=aCf (a:=a) hb
 have hb1:=aHq a b
 refine aI #[.tmp 4] 16 func104 Z results104 ntmps104 Z ?_
 have M0:=Mem.refl w
 refine aE (aA (bK Z Z (aB (aC (aE (aA (aQ Z Z (aQ Z Z (wq (gA Z Z (by omega)) Z (aL 8 (.int .i64 (a.tdiv b)) (iE (fJ _ (by omega) (by omega))) (bK Z Z (aB (aC (aE (aE (aA (aQ Z Z (aQ Z Z (wq (iJ Z Z (by omega)) Z (cX Z Z Z Z (aB (aC ?_))))))))))))))))))))))
 refine aU Z (fun h12 => ?_) (fun h12 => ?_)
 ·refine aE (aA (aQ Z Z (wq (gG Z Z (by omega) (by omega)) Z (bK Z Z (aB (aC (aO (cO (cI (.int _ _) Z ?_)))))))))
  exact ⟨iE (by first | exact hf.1 (by omega) | exact hf.2 (by omega)),M0.below⟩
 ·refine aM (aC (aE (aA (aQ Z Z (bK Z Z (aB (aC (aO (cI (.int _ _) Z ?_)))))))))
  exact ⟨iE (by first | exact hf.1 (by omega) | exact hf.2 (by omega)),M0.below⟩
theorem aQl (w:World) (n:Nat) (hn:n < 18446744073709551616) :
  Calls prog 160 #[.int .u64 (n:Int)] w (Rb w (.int .u64 ((wY n:Nat):Int))):=by
 have hin:=bEt hn
 refine aI #[.tmp 2] 23 func160 Z results160 ntmps160 Z ?_
 have M0:=Mem.refl w
 refine aE (aA (bK Z Z (aB (aC (aE (aA (bK Z Z (aB (aC (aE (aA (bK Z Z (aB (aC (aE (aP (dG (σ:=Nat × Nat) [0,2] (fun (lo,hi)=>[(3,.int .u64 (lo:Int)),(4,.int .u64 (hi:Int))]) (fun (lo,hi) w'=>(lo≤wY n∧wY n≤hi∧hi≤4294967295)∧Mem w [] [] w') (fun (lo,hi)=>hi - lo) (0,4294967295) (bE Z (bE Z dZ)) (⟨⟨by omega,by omega,by omega⟩,M0⟩) ?_)))))))))))))))))
 rintro ⟨lo,hi⟩ ρ1 w1 ⟨⟨hlo,hhi,hh⟩,hM1⟩
 refine aE (aE (aA (aQ Z Z (aQ Z Z (cX Z Z Z Z (aB (aC ?_)))))))
 refine aU Z (fun h8 => ?_) (fun h8 => ?_)
 ·obtain ⟨m,hm⟩:∃ m,m=(lo+hi+1) / 2:=⟨_,rfl⟩
  have hmm:=bKa (n:=n) (m:=m)
  have hm2:m*m≤4294967295*4294967295:=Nat.mul_le_mul (by omega) (by omega)
  refine aM (aC (aP (aE (aA (aQ Z Z (aQ Z Z (wq (cA (.int _ _) Z Z Z) Z (aL 11 (.int .u64 ((lo+hi:Nat):Int)) (iE (by rw [gS];omega)) (wq (cA (.int _ _) Z Z Z) Z (aL 12 (.int .u64 ((lo+hi+1:Nat):Int)) (iE (by rw [gS];omega)) (wq (gA Z Z (by decide)) Z (aL 13 (.int .u64 (m:Int)) (iE ((jL (lo+hi+1) 2 (by omega)).trans (congrArg _ hm.symm))) (bK Z Z (aB (aC (aE (aA (aQ Z Z (aQ Z Z (wq (cA (.int _ _) Z Z Z) Z (aL 16 (.int .u64 ((m*m:Nat):Int)) (iE (lX m m (by omega))) ?_)))))))))))))))))))))
  refine aQ Z Z (cX Z Z Z Z (aB (aC ?_)))
  refine aU Z (fun h18 => ?_) (fun h18 => ?_)
  ·refine aA (aQ Z Z (bK Z Z (aB (cR ?_))))
   refine bX (m,hi) (bE Z (bE Z dZ)) (bZ Z (bZ Z gK)) ?_ ?_
   ·exact ⟨⟨hmm.1 (by omega),by omega,by omega⟩,hM1⟩
   ·(show hi - m < hi - lo;omega)
  ·refine aA (aQ Z Z (wq (cA (.int _ _) Z Z Z) Z (aL 21 (.int .u64 ((m - 1:Nat):Int)) (iE (by rw [gS];omega)) (bK Z Z (aB (cR ?_))))))
   refine bX (lo,m - 1) (bE Z (bE Z dZ)) (bZ Z (bZ Z gK)) ?_ ?_
   ·exact ⟨⟨by omega,by have:=hmm.2 (by omega);omega,by omega⟩,hM1⟩
   ·(show m - 1 - lo < hi - lo;omega)
 ·refine cN (dC (dE (eJ (aC (aE (aA (aQ Z Z (bK Z Z (aB (aC (aO (cI (.int _ _) Z ?_))))))))))))
  exact ⟨iE (by omega),hM1.below⟩
theorem uN (w:World) (dx dy:Int) (hx:wV dx) (hy:wV dy) :
  Calls prog 159 #[.int .i64 dx,.int .i64 dy] w (Rb w (.int .u64 ((rM dx dy:Nat):Int))):=by
 have hl:=sS hx hy
 unfold wV at hx hy
 refine aI #[.tmp 4] 24 func159 Z results159 ntmps159 Z ?_
 have M0:=Mem.refl w
 refine aE (aA (bK Z Z (aB (aC (aE (aE (aA (aQ Z Z (cX Z Z Z Z (aB (aC ?_)))))))))))
 refine aU Z (fun h6 => ?_) (fun h6 => ?_)
 ·refine aA (aQ Z Z (wq (sE Z) Z (aL 8 (.int .i64 (-dx)) (iE (fJ _ (by omega) (by omega))) (bK Z Z (aB (aC (aE (aE (aA (aQ Z Z (cX Z Z Z Z (aB (aC ?_)))))))))))))
  refine aU Z (fun h10 => ?_) (fun h10 => ?_)
  ·refine aA (aQ Z Z (wq (sE Z) Z (aL 12 (.int .i64 (-dy)) (iE (fJ _ (by omega) (by omega))) (bK Z Z (aB (aC (aE (aA (aQ Z Z (wq (dF mV underlying193 Z) Z (aL 14 (.int .u64 ((dx.natAbs:Nat):Int)) (iE (by rw [gS];omega)) (aQ Z Z (wq (dF mV underlying193 Z) Z (aL 16 (.int .u64 ((dx.natAbs:Nat):Int)) (iE (by rw [gS];omega)) (wq (cA (.int _ _) Z Z Z) Z (aL 17 (.int .u64 ((dx.natAbs*dx.natAbs:Nat):Int)) (iE (lX _ _ (by omega))) (aQ Z Z (wq (dF mV underlying193 Z) Z ?_))))))))))))))))))
   refine aL 19 (.int .u64 ((dy.natAbs:Nat):Int)) (iE (by rw [gS];omega)) (aQ Z Z (wq (dF mV underlying193 Z) Z (aL 21 (.int .u64 ((dy.natAbs:Nat):Int)) (iE (by rw [gS];omega)) (wq (cA (.int _ _) Z Z Z) Z (aL 22 (.int .u64 ((dy.natAbs*dy.natAbs:Nat):Int)) (iE (lX _ _ (by omega))) (wq (cA (.int _ _) Z Z Z) Z (aL 23 (.int .u64 ((rM dx dy:Nat):Int)) (iE (by rw [gS];unfold rM at *;omega)) (bK Z Z (aB (aC (aO (cI (.int _ _) Z ?_))))))))))))
   exact ⟨Z,M0.below⟩
  ·refine aM (aC (aE (aA (aQ Z Z (wq (dF mV underlying193 Z) Z (aL 14 (.int .u64 ((dx.natAbs:Nat):Int)) (iE (by rw [gS];omega)) (aQ Z Z (wq (dF mV underlying193 Z) Z (aL 16 (.int .u64 ((dx.natAbs:Nat):Int)) (iE (by rw [gS];omega)) (wq (cA (.int _ _) Z Z Z) Z (aL 17 (.int .u64 ((dx.natAbs*dx.natAbs:Nat):Int)) (iE (lX _ _ (by omega))) (aQ Z Z (wq (dF mV underlying193 Z) Z (aL 19 (.int .u64 ((dy.natAbs:Nat):Int)) (iE (by rw [gS];omega)) (aQ Z Z (wq (dF mV underlying193 Z) Z ?_))))))))))))))))
   refine aL 21 (.int .u64 ((dy.natAbs:Nat):Int)) (iE (by rw [gS];omega)) (wq (cA (.int _ _) Z Z Z) Z (aL 22 (.int .u64 ((dy.natAbs*dy.natAbs:Nat):Int)) (iE (lX _ _ (by omega))) (wq (cA (.int _ _) Z Z Z) Z (aL 23 (.int .u64 ((rM dx dy:Nat):Int)) (iE (by rw [gS];unfold rM at *;omega)) (bK Z Z (aB (aC (aO (cI (.int _ _) Z ?_)))))))))
   exact ⟨Z,M0.below⟩
 ·refine aM (aC (aE (aE (aA (aQ Z Z (cX Z Z Z Z (aB (aC ?_))))))))
  refine aU Z (fun h10 => ?_) (fun h10 => ?_)
  ·refine aA (aQ Z Z (wq (sE Z) Z (aL 12 (.int .i64 (-dy)) (iE (fJ _ (by omega) (by omega))) (bK Z Z (aB (aC (aE (aA (aQ Z Z (wq (dF mV underlying193 Z) Z (aL 14 (.int .u64 ((dx.natAbs:Nat):Int)) (iE (by rw [gS];omega)) (aQ Z Z (wq (dF mV underlying193 Z) Z (aL 16 (.int .u64 ((dx.natAbs:Nat):Int)) (iE (by rw [gS];omega)) (wq (cA (.int _ _) Z Z Z) Z (aL 17 (.int .u64 ((dx.natAbs*dx.natAbs:Nat):Int)) (iE (lX _ _ (by omega))) (aQ Z Z (wq (dF mV underlying193 Z) Z ?_))))))))))))))))))
   refine aL 19 (.int .u64 ((dy.natAbs:Nat):Int)) (iE (by rw [gS];omega)) (aQ Z Z (wq (dF mV underlying193 Z) Z (aL 21 (.int .u64 ((dy.natAbs:Nat):Int)) (iE (by rw [gS];omega)) (wq (cA (.int _ _) Z Z Z) Z (aL 22 (.int .u64 ((dy.natAbs*dy.natAbs:Nat):Int)) (iE (lX _ _ (by omega))) (wq (cA (.int _ _) Z Z Z) Z (aL 23 (.int .u64 ((rM dx dy:Nat):Int)) (iE (by rw [gS];unfold rM at *;omega)) (bK Z Z (aB (aC (aO (cI (.int _ _) Z ?_))))))))))))
   exact ⟨Z,M0.below⟩
  ·refine aM (aC (aE (aA (aQ Z Z (wq (dF mV underlying193 Z) Z (aL 14 (.int .u64 ((dx.natAbs:Nat):Int)) (iE (by rw [gS];omega)) (aQ Z Z (wq (dF mV underlying193 Z) Z (aL 16 (.int .u64 ((dx.natAbs:Nat):Int)) (iE (by rw [gS];omega)) (wq (cA (.int _ _) Z Z Z) Z (aL 17 (.int .u64 ((dx.natAbs*dx.natAbs:Nat):Int)) (iE (lX _ _ (by omega))) (aQ Z Z (wq (dF mV underlying193 Z) Z (aL 19 (.int .u64 ((dy.natAbs:Nat):Int)) (iE (by rw [gS];omega)) (aQ Z Z (wq (dF mV underlying193 Z) Z ?_))))))))))))))))
   refine aL 21 (.int .u64 ((dy.natAbs:Nat):Int)) (iE (by rw [gS];omega)) (wq (cA (.int _ _) Z Z Z) Z (aL 22 (.int .u64 ((dy.natAbs*dy.natAbs:Nat):Int)) (iE (lX _ _ (by omega))) (wq (cA (.int _ _) Z Z Z) Z (aL 23 (.int .u64 ((rM dx dy:Nat):Int)) (iE (by rw [gS];unfold rM at *;omega)) (bK Z Z (aB (aC (aO (cI (.int _ _) Z ?_)))))))))
   exact ⟨Z,M0.below⟩
theorem sX (w:World) (dx dy:Int) (hx:wV dx) (hy:wV dy) :
  Calls prog 137 #[.int .i64 dx,.int .i64 dy] w (Rb w (.int .i64 (len dx dy))):=by
 have hl:=xT hx hy
 refine aI #[.tmp 4] 10 func137 Z results137 ntmps137 Z ?_
 have M0:=Mem.refl w
 refine aE (aA (bK Z Z (aB (aC (aE (aA (aQ Z Z (aQ Z Z (dN bCk Z Z M0 (uN _ dx dy hx hy) (fun w1 M1=>(dN bPl Z Z M1 (aQl _ (rM dx dy) (sS hx hy).1) (fun w2 M2=>(wq (dF xE underlying2 Z) Z (aL 9 (.int .i64 (len dx dy)) (iE (fJ (len dx dy) (by omega) (by omega))) (bK Z Z (aB (aC (aO (cI (.int _ _) Z ?_)))))))))))))))))))
 exact ⟨Z,M2.below⟩
theorem aTr (w:World) (dx dy:Int) (hx:wV dx) (hy:wV dy) :
  Calls prog 136 #[.int .i64 dx,.int .i64 dy] w (Rb w ((.agg (cM (qM dx dy)).toArray))):=by
 have hl:=xT hx hy
 have hxx:=hx
 have hyy:=hy
 unfold wV at hxx hyy
 have hl0:=bFe dx dy
 refine aI #[.cell 4 41] 27 func136 Z results136 ntmps136 Z ?_
 have M0:=Mem.refl w
 refine aE (aA (aR iY M0 Z Z (fun b1 w1 M1=>(aB (aC (aE (aE (aA (aQ Z Z (cX Z Z Z Z (wq (aH (.bool (decide _)) Z) Z ?_)))))))))))
 refine dQ 8 Z (fun g8 => ?_) (fun g8 => ?_)
 ·refine aQ Z Z (cX Z Z Z Z (wq (bR true (.bool (decide _)) Z Z) Z (aB (aC ?_))))
  refine aU Z (fun h11 => ?_) (fun h11 => ?_)
  ·refine aE (aA (wq (cB [(0,.int _ _)] _ eZ Z Z) Z (bG 0 _ bO M1 Z Z Z Z Z (aS Z) Z (fun w2 M2=>(aB (aC (aO (cO (eQ 0 bO M2 Z Z Z ?_)))))))))
   exact ⟨by unfold qM;first | (rw [if_pos (by omega)];rfl) | (rw [if_neg (by omega)];rfl),M2.below⟩
  ·refine aM (aC (aE (aA (aQ Z Z (aQ Z Z (dN aRz Z Z M1 (sX _ dx dy hx hy) (fun w3 M3=>(bK Z Z (aB (aC (aE (aA (aQ Z Z (wq (fC Z Z (by omega) (by omega)) Z (aQ Z Z (dN lQ Z Z M3 (fF _ (dx*65536) (len dx dy) (by omega) (by omega) (by omega)) (fun w4 M4=>(wq (dF mV underlying21 Z) Z (aQ Z Z (wq (fC Z Z (by omega) (by omega)) Z (aQ Z Z (dN lQ Z Z M4 (fF _ (dy*65536) (len dx dy) (by omega) (by omega) (by omega)) (fun w5 M5=>(wq (dF mV underlying21 Z) Z ?_))))))))))))))))))))))))
   refine wq (cB [(0,.int _ _),(1,.int _ _)] _ eZ Z Z) Z (bG 0 _ bO M5 Z Z Z Z Z (aS Z) Z (fun w6 M6=>(aB (aC (aO (eQ 0 bO M6 Z Z Z ?_))))))
   exact ⟨by unfold qM;first | (rw [if_pos (by omega)];rfl) | (rw [if_neg (by omega)];rfl),M6.below⟩
 ·refine aN Z Z (aN Z Z (wq (bR false (.bool false) Z Z) Z (aB (aC (cG Z (aM (aC (aE (aA (aQ Z Z (aQ Z Z (dN aRz Z Z M1 (sX _ dx dy hx hy) (fun w7 M7=>(bK Z Z (aB (aC (aE (aA (aQ Z Z (wq (fC Z Z (by omega) (by omega)) Z (aQ Z Z (dN lQ Z Z M7 (fF _ (dx*65536) (len dx dy) (by omega) (by omega) (by omega)) (fun w8 M8=>(wq (dF mV underlying21 Z) Z ?_))))))))))))))))))))))))
  refine aQ Z Z (wq (fC Z Z (by omega) (by omega)) Z (aQ Z Z (dN lQ Z Z M8 (fF _ (dy*65536) (len dx dy) (by omega) (by omega) (by omega)) (fun w9 M9=>(wq (dF mV underlying21 Z) Z (wq (cB [(0,.int _ _),(1,.int _ _)] _ eZ Z Z) Z (bG 0 _ bO M9 Z Z Z Z Z (aS Z) Z (fun w10 M10=>(aB (aC (aO (eQ 0 bO M10 Z Z Z ?_))))))))))))
  exact ⟨by unfold qM;first | (rw [if_pos (by omega)];rfl) | (rw [if_neg (by omega)];rfl),M10.below⟩
theorem aCv (w:World) (b:Body) (hb:Okb b) :
  Calls prog 157 #[(.agg (aF b).toArray)] w (Rb w ((.agg (cM (aAt b)).toArray))):=by
 have ha:=hb.a
 have hp:=hb.p
 refine aI #[.cell 2 41] 18 func157 Z results157 ntmps157 Z ?_
 have M0:=Mem.refl w
 refine aE (aA (bN (.agg (.mk _)) M0 Z Z Z (fun b1 w1 M1=>(aR iY M1 Z Z (fun b2 w2 M2=>(aB (aC (aE (aA (wq (aD 6 fL Z) Z (wq (aD 0 cV Z) Z (wq (aK 0 (.int _ _) aY M2 Z Z Z) Z (wq (aD 2 jJ Z) Z (wq (aD 0 cV Z) Z (wq (aK 0 (.int _ _) aY M2 Z Z Z) Z (wq (nR Z Z (jQ _ (by omega) (by omega))) Z (wq (aD 6 fL Z) Z (wq (aD 1 cS Z) Z (wq (aK 0 (.int _ _) aY M2 Z Z Z) Z (wq (aD 2 jJ Z) Z ?_))))))))))))))))))))
 refine wq (aD 1 cS Z) Z (wq (aK 0 (.int _ _) aY M2 Z Z Z) Z (wq (nR Z Z (jQ _ (by omega) (by omega))) Z (wq (cB [(0,.int _ _),(1,.int _ _)] _ eZ Z Z) Z (bG 1 _ bO M2 Z Z Z Z Z (aS Z) Z (fun w3 M3=>(aB (aC (aO (eQ 1 bO M3 Z Z Z ?_)))))))))
 exact ⟨Z,M3.below⟩
theorem zV (w:World) (b:Body) (hb:Okb b) :
  Calls prog 158 #[(.agg (aF b).toArray)] w (Rb w ((.agg (cM (aAu b)).toArray))):=by
 have ha:=hb.a
 have hp:=hb.p
 refine aI #[.cell 2 41] 18 func158 Z results158 ntmps158 Z ?_
 have M0:=Mem.refl w
 refine aE (aA (bN (.agg (.mk _)) M0 Z Z Z (fun b1 w1 M1=>(aR iY M1 Z Z (fun b2 w2 M2=>(aB (aC (aE (aA (wq (aD 6 fL Z) Z (wq (aD 0 cV Z) Z (wq (aK 0 (.int _ _) aY M2 Z Z Z) Z (wq (aD 2 jJ Z) Z (wq (aD 0 cV Z) Z (wq (aK 0 (.int _ _) aY M2 Z Z Z) Z (wq (jN Z Z (jQ _ (by omega) (by omega))) Z (wq (aD 6 fL Z) Z (wq (aD 1 cS Z) Z (wq (aK 0 (.int _ _) aY M2 Z Z Z) Z (wq (aD 2 jJ Z) Z ?_))))))))))))))))))))
 refine wq (aD 1 cS Z) Z (wq (aK 0 (.int _ _) aY M2 Z Z Z) Z (wq (jN Z Z (jQ _ (by omega) (by omega))) Z (wq (cB [(0,.int _ _),(1,.int _ _)] _ eZ Z Z) Z (bG 1 _ bO M2 Z Z Z Z Z (aS Z) Z (fun w3 M3=>(aB (aC (aO (eQ 1 bO M3 Z Z Z ?_)))))))))
 exact ⟨Z,M3.below⟩
theorem aYb (w:World) (b:Body) (hb:Okb b) :
  Calls prog 232 #[(.agg (aF b).toArray)] w (Rb w (.tuple #[(.agg (cM (aAt b)).toArray),(.agg (cM (aAu b)).toArray)])):=by
 have ha:=hb.a
 have hp:=hb.p
 refine aI #[.cell 2 41,.cell 3 41] 36 func232 Z results232 ntmps232 Z ?_
 have M0:=Mem.refl w
 refine aE (aA (bN (.agg (.mk _)) M0 Z Z Z (fun b1 w1 M1=>(aR iY M1 Z Z (fun b2 w2 M2=>(aR iY M2 Z Z (fun b3 w3 M3=>(aB (aC (aE (aA (wq (aD 6 fL Z) Z (wq (aD 0 cV Z) Z (wq (aK 0 (.int _ _) aY M3 Z Z Z) Z (wq (aD 2 jJ Z) Z (wq (aD 0 cV Z) Z (wq (aK 0 (.int _ _) aY M3 Z Z Z) Z (wq (nR Z Z (jQ _ (by omega) (by omega))) Z (wq (aD 6 fL Z) Z (wq (aD 1 cS Z) Z (wq (aK 0 (.int _ _) aY M3 Z Z Z) Z ?_)))))))))))))))))))))
 refine wq (aD 2 jJ Z) Z (wq (aD 1 cS Z) Z (wq (aK 0 (.int _ _) aY M3 Z Z Z) Z (wq (nR Z Z (jQ _ (by omega) (by omega))) Z (wq (cB [(0,.int _ _),(1,.int _ _)] _ eZ Z Z) Z (bG 1 _ bO M3 Z Z Z Z Z (aS Z) Z (fun w4 M4=>(aB (aC (aE (aA (wq (aD 6 fL Z) Z (wq (aD 0 cV Z) Z (wq (aK 0 (.int _ _) aY M4 Z Z Z) Z (wq (aD 2 jJ Z) Z (wq (aD 0 cV Z) Z (wq (aK 0 (.int _ _) aY M4 Z Z Z) Z (wq (jN Z Z (jQ _ (by omega) (by omega))) Z ?_)))))))))))))))))
 refine wq (aD 6 fL Z) Z (wq (aD 1 cS Z) Z (wq (aK 0 (.int _ _) aY M4 Z Z Z) Z (wq (aD 2 jJ Z) Z (wq (aD 1 cS Z) Z (wq (aK 0 (.int _ _) aY M4 Z Z Z) Z (wq (jN Z Z (jQ _ (by omega) (by omega))) Z (wq (cB [(0,.int _ _),(1,.int _ _)] _ eZ Z Z) Z (bG 2 _ bO M4 Z Z Z Z Z (aS Z) Z (fun w5 M5=>(aB (aC (aE (fW [(0,1),(1,1),(2,2),(3,2)] mixed M5 Z (by kernel_rfl) (fun w6 M6=>(bP Z Z Z (aX 1 bO M6 Z Z Z) (bP Z Z Z (aX 2 bO M6 Z Z Z) ?_))))))))))))))))
 refine dI [false,true] Z (by kernel_rfl) (bG 1 _ bO M6 Z Z Z Z Z (aS Z) Z (fun w7 M7 => ?_))
 refine aB (aC ⟨(dS (bI Z (aX 2 bO M7 Z Z Z)) dJ), ?_⟩)
 refine dI [true] Z (by kernel_rfl) (bG 2 _ bO M7 Z Z Z Z Z (aS Z) Z (fun w8 M8 => ?_))
 refine aB (aC ⟨dJ, ?_⟩)
 refine bS (aC (aO (aWc 1 2 bO M8 Z Z Z Z Z Z ?_)))
 exact ⟨Z,M8.below⟩
theorem aQg (w:World) (p q c:Pt) (h:SgI p q) (hc:PtI c) :
  Calls prog 253 #[(.agg (cM p).toArray),(.agg (cM q).toArray),(.agg (cM c).toArray)] w (Rb w (.tuple #[.int .i64 (qH p q c),.int .i64 (nC p q)])):=by
 have hD:=oP h
 have hx:=aJq h hc
 refine aI #[.tmp 6,.tmp 7] 42 func253 Z results253 ntmps253 Z ?_
 have M0:=Mem.refl w
 refine aE (aA (bN (.agg (.mk _)) M0 Z Z Z (fun b1 w1 M1=>(bN (.agg (.mk _)) M1 Z Z Z (fun b2 w2 M2=>(bN (.agg (.mk _)) M2 Z Z Z (fun b3 w3 M3=>(bK Z Z (bK Z Z (aB (aC (aE (aA (wq (aX 0 bO M3 Z Z Z) Z (wq (aX 1 bO M3 Z Z Z) Z (dN aEr Z Z M3 (uY _ p q h.hp.i32 h.hq.i32) (fun w4 M4=>(wq (aH (.tuple (List.toArray _)) Z) Z (wq (bM (.int _ _) Z Z) Z (wq (bM (.int _ _) Z Z) Z (bK Z Z (bK Z Z (aB (aC (aE (aA ?_))))))))))))))))))))))))))
 refine wq (aX 0 bO M4 Z Z Z) Z (wq (aX 2 bO M4 Z Z Z) Z (dN aEr Z Z M4 (uY _ p c h.hp.i32 hc.i32) (fun w5 M5=>(wq (aH (.tuple (List.toArray _)) Z) Z (wq (bM (.int _ _) Z Z) Z (wq (bM (.int _ _) Z Z) Z (bK Z Z (bK Z Z (aB (aC (aE (aA (aQ Z Z (aQ Z Z (wq (fC Z Z (by omega) (by omega)) Z (aQ Z Z (aQ Z Z (wq (fC Z Z (by omega) (by omega)) Z (wq (bC Z Z (by omega) (by omega)) Z ?_)))))))))))))))))))
 refine aL 30 (.int .i64 (nC p q)) Z (bK Z Z (aB (aC (aE (aA (aQ Z Z (aQ Z Z (wq (fC Z Z (by omega) (by omega)) Z (aQ Z Z (aQ Z Z (wq (fC Z Z (by omega) (by omega)) Z (wq (bC Z Z (by omega) (by omega)) Z (aQ Z Z (wq (aGt Z Z ) Z (wq (pB Z Z ) Z (aQ Z Z (bK Z Z (bK Z Z ?_))))))))))))))))))
 refine aB (aC (aO (fX (.int _ _) (.int _ _) Z Z ?_)))
 exact ⟨Z,M5.below⟩
theorem aKj (w:World) (f a n d:Int) (bn bd:Nat) (ha : -16777216≤a∧a≤16777216) (hn:0≤n) (hnd:n≤d) (hd0:0 < d) (hd:d≤562949953421312) (h1 : -16777216≤a*n / d∧a*n / d≤16777216) (h2 : -1082130432≤f+a*n / d∧f+a*n / d≤1082130432) (K1:Rd w 1 (some ⟨bn,0,none⟩) 1 [[.int .i64 n]]) (K2:Rd w 1 (some ⟨bd,0,none⟩) 1 [[.int .i64 d]]) :
  Calls prog 254 #[.int .i32 f,.int .i64 a,.pointer (some ⟨bn,0,none⟩),.pointer (some ⟨bd,0,none⟩)] w (Rb w (.int .i32 (f+a*n / d))):=by
 rw [← hJ bn,← hJ bd]
 refine aI #[.tmp 6] 20 func254 Z results254 ntmps254 Z ?_
 have M0:=Mem.refl w
 refine aE (aA (bK Z Z (aB (aC (aE (aA (aQ Z Z (wq (dM (o:=0) (.int _ _) jM (K1.mem M0) (show ([[.int .i64 n]]:List (List Value))[0]? = some [.int .i64 n] from Z) Z Z) Z (wq (dM (o:=0) (.int _ _) jM (K2.mem M0) (show ([[.int .i64 d]]:List (List Value))[0]? = some [.int .i64 d] from Z) Z Z) Z (dN aLq Z Z M0 (bRs _ a n d (by omega) hn hnd hd0 (by omega)) (fun w1 M1=>(wq (aH (.tuple (List.toArray _)) Z) Z (wq (bM (.int _ _) Z Z) Z (wq (bM (.int _ _) Z Z) Z (bK Z Z (bK Z Z (aB (aC (aE (aA ?_))))))))))))))))))))
 refine aQ Z Z (aQ Z Z (wq (bH mV underlying21 Z (jQ _ (by omega) (by omega))) Z (wq (jN Z Z (jQ _ (by omega) (by omega))) Z (bK Z Z (aB (aC (aO (cI (.int _ _) Z ?_))))))))
 exact ⟨Z,M1.below⟩
theorem oB (w:World) (p q c:Pt) (h:SgI p q) (hc:PtI c) :
  Calls prog 248 #[(.agg (cM p).toArray),(.agg (cM q).toArray),(.agg (cM c).toArray)] w (Rb w ((.agg (cM (cJ p q c)).toArray))):=by
 have hD:=oP h
 have hn:=zP (c:=c) h
 have hx:=h.x
 have hy:=h.y
 refine aI #[.cell 6 41] 40 func248 Z results248 ntmps248 Z ?_
 have M0:=Mem.refl w
 refine aE (aA (bN (.agg (.mk _)) M0 Z Z Z (fun b1 w1 M1=>(bN (.agg (.mk _)) M1 Z Z Z (fun b2 w2 M2=>(bN (.agg (.mk _)) M2 Z Z Z (fun b3 w3 M3=>(aR iY M3 Z Z (fun b4 w4 M4=>(aB (aC (aE (aA (wq (aX 0 bO M4 Z Z Z) Z (wq (aX 1 bO M4 Z Z Z) Z (wq (aX 2 bO M4 Z Z Z) Z (dN bRe Z Z M4 (aQg _ p q c h hc) (fun w5 M5=>(wq (aH (.tuple (List.toArray _)) Z) Z (wq (bM (.int _ _) Z Z) Z (wq (bM (.int _ _) Z Z) Z (aR aIc M5 Z Z (fun b6 w6 M6 => ?_)))))))))))))))))))))))
 refine aR aIc M6 Z Z (fun b7 w7 M7=>(dA 4 (.int _ _) jM M7 Z Z Z Z Z Z (fun w8 M8=>(dA 5 (.int _ _) jM M8 Z Z Z Z Z Z (fun w9 M9=>(aB (aC (aE (aE (aA (wq (aK 5 (.int _ _) jM M9 Z Z Z) Z (cX Z Z Z Z (aB (aC ?_))))))))))))))
 refine aU Z (fun h20 => ?_) (fun h20 => ?_)
 ·refine aE (aA (wq (aX 0 bO M9 Z Z Z) Z (bG 3 _ bO M9 Z Z Z Z Z (aS Z) Z (fun w10 M10=>(aB (aC (aO (cO (eQ 3 bO M10 Z Z Z ?_)))))))))
  exact ⟨by unfold cJ;first | (rw [if_pos h20];rfl) | (rw [if_neg h20];rfl),M10.below⟩
 ·have hnr:=aGj (c:=c) h h20
  refine aM (aC (aE (aA (wq (dU [] [.pointer _,.pointer _] Z Z) Z (wq (aJ (.func _ _ _) Z) Z (aB (aC (aE (aA (wq (aX 0 bO M9 Z Z Z) Z (wq (aX 1 bO M9 Z Z Z) Z (dN aEr Z Z M9 (uY _ p q h.hp.i32 h.hq.i32) (fun w11 M11=>(wq (aH (.tuple (List.toArray _)) Z) Z (wq (bM (.int _ _) Z Z) Z (wq (bM (.int _ _) Z Z) Z (bK Z Z (bK Z Z (aB (aC (aE (fW [(0,0),(1,0),(2,1),(3,0),(5,0),(6,0),(7,1),(8,0),(4,2),(9,2),(10,0),(11,2)] mixed M11 Z (by kernel_rfl) (fun w12 M12 => ?_)))))))))))))))))))))))
  refine aV Z Z Z (fun _=>aH (.func _ _ _) Z) (aV Z Z Z (fun _=>aD 0 cV Z) (bP Z Z Z (aK 0 (.int _ _) aY M12 Z Z Z) (eD Z Z Z (aV Z Z Z (fun _=>aH (.func _ _ _) Z) (aV Z Z Z (fun _=>aD 1 cS Z) (bP Z Z Z (aK 0 (.int _ _) aY M12 Z Z Z) (eD Z Z Z (dI [false,true] Z (by kernel_rfl) (dN bDj Z Z M12 (aKj _ p.1 (q.1 - p.1) (qH p q c) (nC p q) b6 b7 (by omega) hn.1 hn.2 (by omega) (by omega) hnr.1.1 hnr.1.2 (qP 4 M12 Z Z) (qP 5 M12 Z Z)) (fun w13 M13 => ?_))))))))))
  refine aB (aC ⟨(dS (bI Z (aK 0 (.int _ _) aY M13 Z Z Z)) dJ), ?_⟩)
  refine dI [true] Z (by kernel_rfl) (dN bDj Z Z M13 (aKj _ p.2 (q.2 - p.2) (qH p q c) (nC p q) b6 b7 (by omega) hn.1 hn.2 (by omega) (by omega) hnr.2.1 hnr.2.2 (qP 4 M13 Z Z) (qP 5 M13 Z Z)) (fun w14 M14 => ?_))
  refine aB (aC ⟨dJ, ?_⟩)
  refine aV Z Z Z (fun _=>cB [(0,.int _ _),(1,.int _ _)] _ eZ Z Z) (dI [] Z (by kernel_rfl) (bG 3 _ bO M14 Z Z Z Z Z (aS Z) Z (fun w15 M15 => ?_)))
  refine aB (aC ⟨dJ, ?_⟩)
  refine bS (aC (aO (eQ 3 bO M15 Z Z Z ?_)))
  exact ⟨by unfold cJ;first | (rw [if_pos h20];rfl) | (rw [if_neg h20];rfl),M15.below⟩
theorem zW (w:World) (p q:Pt) (h:SgI p q) :
  Calls prog 200 #[(.agg (cM p).toArray),(.agg (cM q).toArray)] w (Rb w (.int .i64 (nC p q))):=by
 have hD:=oP h
 have hp:=h.hp.i32
 have hq:=h.hq.i32
 have hpx:=hp.x
 have hpy:=hp.y
 have hqx:=hq.x
 have hqy:=hq.y
 refine aI #[.tmp 4] 28 func200 Z results200 ntmps200 Z ?_
 have M0:=Mem.refl w
 refine aE (aA (bN (.agg (.mk _)) M0 Z Z Z (fun b1 w1 M1=>(bN (.agg (.mk _)) M1 Z Z Z (fun b2 w2 M2=>(bK Z Z (aB (aC (aE (aA (wq (aD 0 cV Z) Z (wq (aK 1 (.int _ _) aY M2 Z Z Z) Z (wq (bH dY underlying2 Z (fJ _ (by omega) (by omega))) Z (wq (aD 0 cV Z) Z (wq (aK 0 (.int _ _) aY M2 Z Z Z) Z (wq (bH dY underlying2 Z (fJ _ (by omega) (by omega))) Z (wq (gG Z Z (by omega) (by omega)) Z (bK Z Z (aB (aC (aE (aA (wq (aD 1 cS Z) Z ?_)))))))))))))))))))))))
 refine wq (aK 1 (.int _ _) aY M2 Z Z Z) Z (wq (bH dY underlying2 Z (fJ _ (by omega) (by omega))) Z (wq (aD 1 cS Z) Z (wq (aK 0 (.int _ _) aY M2 Z Z Z) Z (wq (bH dY underlying2 Z (fJ _ (by omega) (by omega))) Z (wq (gG Z Z (by omega) (by omega)) Z (bK Z Z (aB (aC (aE (aA (aQ Z Z (aQ Z Z (wq (fC Z Z (by omega) (by omega)) Z (aQ Z Z (aQ Z Z (wq (fC Z Z (by omega) (by omega)) Z (wq (bC Z Z (by omega) (by omega)) Z (bK Z Z ?_))))))))))))))))))
 refine aB (aC (aO (cI (.int _ _) Z ?_)))
 exact ⟨Z,M2.below⟩
theorem aQn (w:World) (n lo hi:Int) (h:lo≤hi) :
  Calls prog 224 #[.int .i64 n,.int .i64 lo,.int .i64 hi] w (Rb w (.int .i64 (max lo (min n hi)))):=by
 refine aI #[.tmp 6] 16 func224 Z results224 ntmps224 Z ?_
 have M0:=Mem.refl w
 refine aE (aA (bK Z Z (aB (aC (aE (aE (aA (aQ Z Z (aQ Z Z (cX Z Z Z Z (aB (aC ?_))))))))))))
 refine aU Z (fun h9 => ?_) (fun h9 => ?_)
 ·refine aE (aA (aQ Z Z (bK Z Z (aB (aC (aO (cO (cI (.int _ _) Z ?_))))))))
  exact ⟨iE (by omega),M0.below⟩
 ·refine aM (aC (aE (aE (aA (aQ Z Z (aQ Z Z (cX Z Z Z Z (aB (aC ?_)))))))))
  refine aU Z (fun h13 => ?_) (fun h13 => ?_)
  ·refine aE (aA (aQ Z Z (bK Z Z (aB (aC (aO (cO (cI (.int _ _) Z ?_))))))))
   exact ⟨iE (by omega),M0.below⟩
  ·refine aM (aC (aE (aA (aQ Z Z (bK Z Z (aB (aC (aO (cI (.int _ _) Z ?_)))))))))
   exact ⟨iE (by omega),M0.below⟩
theorem aQo (w:World) (p q c:Pt) (h:SgI p q) (hc:PtI c) :
  Calls prog 201 #[(.agg (cM p).toArray),(.agg (cM q).toArray),(.agg (cM c).toArray)] w (Rb w (.int .i64 (qH p q c))):=by
 have hD:=oP h
 have hx:=aJq h hc
 have hp:=h.hp.i32
 have hq:=h.hq.i32
 have hci:=hc.i32
 have hpx:=hp.x
 have hpy:=hp.y
 have hqx:=hq.x
 have hqy:=hq.y
 have hcx:=hci.x
 have hcy:=hci.y
 refine aI #[.tmp 6] 48 func201 Z results201 ntmps201 Z ?_
 have M0:=Mem.refl w
 refine aE (aA (bN (.agg (.mk _)) M0 Z Z Z (fun b1 w1 M1=>(bN (.agg (.mk _)) M1 Z Z Z (fun b2 w2 M2=>(bN (.agg (.mk _)) M2 Z Z Z (fun b3 w3 M3=>(bK Z Z (aB (aC (aE (aA (wq (aD 0 cV Z) Z (wq (aK 1 (.int _ _) aY M3 Z Z Z) Z (wq (bH dY underlying2 Z (fJ _ (by omega) (by omega))) Z (wq (aD 0 cV Z) Z (wq (aK 0 (.int _ _) aY M3 Z Z Z) Z (wq (bH dY underlying2 Z (fJ _ (by omega) (by omega))) Z (wq (gG Z Z (by omega) (by omega)) Z (bK Z Z ?_))))))))))))))))))))
 refine aB (aC (aE (aA (wq (aD 1 cS Z) Z (wq (aK 1 (.int _ _) aY M3 Z Z Z) Z (wq (bH dY underlying2 Z (fJ _ (by omega) (by omega))) Z (wq (aD 1 cS Z) Z (wq (aK 0 (.int _ _) aY M3 Z Z Z) Z (wq (bH dY underlying2 Z (fJ _ (by omega) (by omega))) Z (wq (gG Z Z (by omega) (by omega)) Z (bK Z Z (aB (aC (aE (aA (wq (aD 0 cV Z) Z (wq (aK 2 (.int _ _) aY M3 Z Z Z) Z (wq (bH dY underlying2 Z (fJ _ (by omega) (by omega))) Z (wq (aD 0 cV Z) Z ?_)))))))))))))))))))
 refine wq (aK 0 (.int _ _) aY M3 Z Z Z) Z (wq (bH dY underlying2 Z (fJ _ (by omega) (by omega))) Z (wq (gG Z Z (by omega) (by omega)) Z (aQ Z Z (wq (fC Z Z (by omega) (by omega)) Z (wq (aD 1 cS Z) Z (wq (aK 2 (.int _ _) aY M3 Z Z Z) Z (wq (bH dY underlying2 Z (fJ _ (by omega) (by omega))) Z (wq (aD 1 cS Z) Z (wq (aK 0 (.int _ _) aY M3 Z Z Z) Z (wq (bH dY underlying2 Z (fJ _ (by omega) (by omega))) Z (wq (gG Z Z (by omega) (by omega)) Z (aQ Z Z ?_))))))))))))
 refine wq (fC Z Z (by omega) (by omega)) Z (wq (bC Z Z (by omega) (by omega)) Z (bK Z Z (aB (aC (aE (aA (aQ Z Z (wq (aX 0 bO M3 Z Z Z) Z (wq (aX 1 bO M3 Z Z Z) Z (dN bCw Z Z M3 (zW _ p q h) (fun w4 M4=>(dN bQu Z Z M4 (aQn _ ((c.1 - p.1)*(q.1 - p.1)+(c.2 - p.2)*(q.2 - p.2)) 0 (nC p q) (by omega)) (fun w5 M5=>(bK Z Z (aB (aC (aO (cI (.int _ _) Z ?_))))))))))))))))))
 exact ⟨Z,M5.below⟩
theorem oC (w:World) (p q c:Pt) (h:SgI p q) (hc:PtI c) :
  Calls prog 175 #[(.agg (cM p).toArray),(.agg (cM q).toArray),(.agg (cM c).toArray)] w (Rb w ((.agg (cM (cJ p q c)).toArray))):=by
 have hD:=oP h
 have hn:=zP (c:=c) h
 have hx:=h.x
 have hy:=h.y
 have hp:=h.hp.i32
 have hq:=h.hq.i32
 have hpx:=hp.x
 have hpy:=hp.y
 have hqx:=hq.x
 have hqy:=hq.y
 refine aI #[.cell 6 41] 60 func175 Z results175 ntmps175 Z ?_
 have M0:=Mem.refl w
 refine aE (aA (bN (.agg (.mk _)) M0 Z Z Z (fun b1 w1 M1=>(bN (.agg (.mk _)) M1 Z Z Z (fun b2 w2 M2=>(bN (.agg (.mk _)) M2 Z Z Z (fun b3 w3 M3=>(aR iY M3 Z Z (fun b4 w4 M4=>(aB (aC (aE (aA (wq (aX 0 bO M4 Z Z Z) Z (wq (aX 1 bO M4 Z Z Z) Z (dN bCw Z Z M4 (zW _ p q h) (fun w5 M5=>(bK Z Z (aB (aC (aE (aE (aA (aQ Z Z (cX Z Z Z Z (aB (aC ?_)))))))))))))))))))))))))))
 refine aU Z (fun h17 => ?_) (fun h17 => ?_)
 ·refine aE (aA (wq (aX 0 bO M5 Z Z Z) Z (bG 3 _ bO M5 Z Z Z Z Z (aS Z) Z (fun w6 M6=>(aB (aC (aO (cO (eQ 3 bO M6 Z Z Z ?_)))))))))
  exact ⟨by unfold cJ;first | (rw [if_pos h17];rfl) | (rw [if_neg h17];rfl),M6.below⟩
 ·have hnr:=aGj (c:=c) h h17
  refine aM (aC (aE (aA (wq (aX 0 bO M5 Z Z Z) Z (wq (aX 1 bO M5 Z Z Z) Z (wq (aX 2 bO M5 Z Z Z) Z (dN bQi Z Z M5 (aQo _ p q c h hc) (fun w7 M7=>(bK Z Z (aB (aC (aE (aA (wq (aD 0 cV Z) Z (wq (aK 1 (.int _ _) aY M7 Z Z Z) Z (wq (bH dY underlying2 Z (fJ _ (by omega) (by omega))) Z (wq (aD 0 cV Z) Z (wq (aK 0 (.int _ _) aY M7 Z Z Z) Z (wq (bH dY underlying2 Z (fJ _ (by omega) (by omega))) Z (wq (gG Z Z (by omega) (by omega)) Z ?_))))))))))))))))))))
  refine aQ Z Z (aQ Z Z (dN bCx Z Z M7 (zS _ (q.1 - p.1) (qH p q c) (nC p q) (by omega) hn.1 hn.2 (by omega) (by omega)) (fun w8 M8=>(wq (aH (.tuple (List.toArray _)) Z) Z (wq (bM (.int _ _) Z Z) Z (wq (bM (.int _ _) Z Z) Z (bK Z Z (bK Z Z (aB (aC (aE (aA (wq (aD 1 cS Z) Z (wq (aK 1 (.int _ _) aY M8 Z Z Z) Z (wq (bH dY underlying2 Z (fJ _ (by omega) (by omega))) Z (wq (aD 1 cS Z) Z (wq (aK 0 (.int _ _) aY M8 Z Z Z) Z (wq (bH dY underlying2 Z (fJ _ (by omega) (by omega))) Z ?_))))))))))))))))))
  refine wq (gG Z Z (by omega) (by omega)) Z (aQ Z Z (aQ Z Z (dN bCx Z Z M8 (zS _ (q.2 - p.2) (qH p q c) (nC p q) (by omega) hn.1 hn.2 (by omega) (by omega)) (fun w9 M9=>(wq (aH (.tuple (List.toArray _)) Z) Z (wq (bM (.int _ _) Z Z) Z (wq (bM (.int _ _) Z Z) Z (bK Z Z (bK Z Z (aB (aC (aE (aA (wq (aD 0 cV Z) Z (wq (aK 0 (.int _ _) aY M9 Z Z Z) Z (aQ Z Z (wq (bH mV underlying21 Z (jQ _ (by omega) (by omega))) Z (wq (jN Z Z (jQ _ (by omega) (by omega))) Z ?_))))))))))))))))))
  refine wq (aD 1 cS Z) Z (wq (aK 0 (.int _ _) aY M9 Z Z Z) Z (aQ Z Z (wq (bH mV underlying21 Z (jQ _ (by omega) (by omega))) Z (wq (jN Z Z (jQ _ (by omega) (by omega))) Z (wq (cB [(0,.int _ _),(1,.int _ _)] _ eZ Z Z) Z (bG 3 _ bO M9 Z Z Z Z Z (aS Z) Z (fun w10 M10=>(aB (aC (aO (eQ 3 bO M10 Z Z Z ?_)))))))))))
  exact ⟨by unfold cJ;first | (rw [if_pos h17];rfl) | (rw [if_neg h17];rfl),M10.below⟩
theorem sY (w:World) (a b:Pt) (ha:PtI a) (hb:PtI b) :
  Calls prog 135 #[(.agg (cM a++cM b).toArray)] w (Rb w (.int .u64 ((rM (b.1 - a.1) (b.2 - a.2):Nat):Int))):=by
 have hai:=ha.i32
 have hbi:=hb.i32
 have hax:=hai.x
 have hay:=hai.y
 have hbx:=hbi.x
 have hby:=hbi.y
 refine aI #[.tmp 2] 22 func135 Z results135 ntmps135 Z ?_
 have M0:=Mem.refl w
 refine aE (aA (bN (.agg (.mk _)) M0 Z Z Z (fun b1 w1 M1=>(bK Z Z (aB (aC (aE (aA (wq (aD 2 yU Z) Z (wq (aD 0 cV Z) Z (wq (aK 0 (.int _ _) aY M1 Z Z Z) Z (wq (bH dY underlying2 Z (fJ _ (by omega) (by omega))) Z (wq (aD 0 yT Z) Z (wq (aD 0 cV Z) Z (wq (aK 0 (.int _ _) aY M1 Z Z Z) Z (wq (bH dY underlying2 Z (fJ _ (by omega) (by omega))) Z (wq (gG Z Z (by omega) (by omega)) Z (wq (aD 2 yU Z) Z (wq (aD 1 cS Z) Z ?_)))))))))))))))))))
 refine wq (aK 0 (.int _ _) aY M1 Z Z Z) Z (wq (bH dY underlying2 Z (fJ _ (by omega) (by omega))) Z (wq (aD 0 yT Z) Z (wq (aD 1 cS Z) Z (wq (aK 0 (.int _ _) aY M1 Z Z Z) Z (wq (bH dY underlying2 Z (fJ _ (by omega) (by omega))) Z (wq (gG Z Z (by omega) (by omega)) Z (dN bCk Z Z M1 (uN _ (b.1 - a.1) (b.2 - a.2) (ha.inX hb) (ha.inY hb)) (fun w2 M2=>(bK Z Z (aB (aC (aO (cI (.int _ _) Z ?_)))))))))))))
 exact ⟨Z,M2.below⟩
theorem aNe (w:World) (ap aq bp bq:Pt) (h1:SgI ap aq) (h2:SgI bp bq) :
  Calls prog 156 #[(.agg (cM ap).toArray),(.agg (cM aq).toArray),(.agg (cM bp).toArray),(.agg (cM bq).toArray)] w (Rb w ((.agg (gI ((nM ap aq bp bq).1,(nM ap aq bp bq).2.1)).toArray))):=by
 have hlen4:([(ap,cJ bp bq ap),(aq,cJ bp bq aq),(cJ ap aq bp,bp),(cJ ap aq bq,bq)]:List (Pt × Pt)).length=4:=rfl
 have hins:∀ z∈([(ap,cJ bp bq ap),(aq,cJ bp bq aq),(cJ ap aq bp,bp),(cJ ap aq bq,bq)]:List (Pt × Pt)),PtI z.1∧PtI z.2:=aSh h1 h2
 refine aI #[.cell 8 204] 59 func156 Z results156 ntmps156 Z ?_
 have M0:=Mem.refl w
 refine aE (aA (bN (.agg (.mk _)) M0 Z Z Z (fun b1 w1 M1=>(bN (.agg (.mk _)) M1 Z Z Z (fun b2 w2 M2=>(bN (.agg (.mk _)) M2 Z Z Z (fun b3 w3 M3=>(bN (.agg (.mk _)) M3 Z Z Z (fun b4 w4 M4=>(aR aEi M4 Z Z (fun b5 w5 M5=>(aB (aC (aE (fW [(0,1),(1,1),(2,1),(3,1),(6,1),(7,1),(8,1),(9,1),(12,1),(13,1),(14,1),(16,1),(18,1),(19,1),(20,1),(22,1),(4,2),(5,0),(10,2),(11,0),(15,2),(17,0),(21,2),(23,0),(24,2),(25,0)] mixed M5 Z (by kernel_rfl) (fun w6 M6=>(bP Z Z Z (aX 0 bO M6 Z Z Z) ?_)))))))))))))))))
 refine bP Z Z Z (aX 2 bO M6 Z Z Z) (bP Z Z Z (aX 3 bO M6 Z Z Z) (bP Z Z Z (aX 0 bO M6 Z Z Z) (bP Z Z Z (aX 1 bO M6 Z Z Z) (bP Z Z Z (aX 2 bO M6 Z Z Z) (bP Z Z Z (aX 3 bO M6 Z Z Z) (bP Z Z Z (aX 1 bO M6 Z Z Z) (bP Z Z Z (aX 0 bO M6 Z Z Z) (bP Z Z Z (aX 1 bO M6 Z Z Z) (bP Z Z Z (aX 2 bO M6 Z Z Z) (bP Z Z Z (aX 2 bO M6 Z Z Z) (bP Z Z Z (aX 0 bO M6 Z Z Z) (bP Z Z Z (aX 1 bO M6 Z Z Z) ?_))))))))))))
 refine bP Z Z Z (aX 3 bO M6 Z Z Z) (bP Z Z Z (aX 3 bO M6 Z Z Z) (dI [false,false,false,false,false,false,false,false,false,false,false,false,true,true,true,false] Z (by kernel_rfl) (dN aLr Z Z M6 (oC _ bp bq ap h2 h1.hp) (fun w7 M7 => ?_))))
 refine aB (aC ⟨(dS (bI Z (aX 3 bO M7 Z Z Z)) (dS (bI Z (aX 3 bO M7 Z Z Z)) (dS (bI Z (aX 1 bO M7 Z Z Z)) (dS (bI Z (aX 0 bO M7 Z Z Z)) (dS (bI Z (aX 2 bO M7 Z Z Z)) (dS (bI Z (aX 2 bO M7 Z Z Z)) (dS (bI Z (aX 1 bO M7 Z Z Z)) (dS (bI Z (aX 0 bO M7 Z Z Z)) (dS (bI Z (aX 1 bO M7 Z Z Z)) (dS (bI Z (aX 3 bO M7 Z Z Z)) (dS (bI Z (aX 2 bO M7 Z Z Z)) (dS (bI Z (aX 1 bO M7 Z Z Z)) (dS (bI Z (aX 0 bO M7 Z Z Z)) dJ))))))))))))), ?_⟩)
 refine aV Z Z Z (fun _=>cB [(0,.agg (List.toArray _)),(1,.agg (List.toArray _))] _ wF Z Z) (dI [false,false,false,false,false,false,false,false,true,true,true,false,false] Z (by kernel_rfl) (dN aLr Z Z M7 (oC _ bp bq aq h2 h1.hq) (fun w8 M8 => ?_)))
 refine aB (aC ⟨(dS (bI Z (aX 3 bO M8 Z Z Z)) (dS (bI Z (aX 3 bO M8 Z Z Z)) (dS (bI Z (aX 1 bO M8 Z Z Z)) (dS (bI Z (aX 0 bO M8 Z Z Z)) (dS (bI Z (aX 2 bO M8 Z Z Z)) (dS (bI Z (aX 2 bO M8 Z Z Z)) (dS (bI Z (aX 1 bO M8 Z Z Z)) (dS (bI Z (aX 0 bO M8 Z Z Z)) (dS (bI Z (aX 1 bO M8 Z Z Z)) (dS (bI Z (aX 0 bO M8 Z Z Z)) dJ)))))))))), ?_⟩)
 refine aV Z Z Z (fun _=>cB [(0,.agg (List.toArray _)),(1,.agg (List.toArray _))] _ wF Z Z) (dI [false,false,false,false,false,true,true,true,false,false] Z (by kernel_rfl) (dN aLr Z Z M8 (oC _ ap aq bp h1 h2.hp) (fun w9 M9 => ?_)))
 refine aB (aC ⟨(dS (bI Z (aX 3 bO M9 Z Z Z)) (dS (bI Z (aX 3 bO M9 Z Z Z)) (dS (bI Z (aX 1 bO M9 Z Z Z)) (dS (bI Z (aX 0 bO M9 Z Z Z)) (dS (bI Z (aX 2 bO M9 Z Z Z)) (dS (bI Z (aX 1 bO M9 Z Z Z)) (dS (bI Z (aX 0 bO M9 Z Z Z)) dJ))))))), ?_⟩)
 refine aV Z Z Z (fun _=>cB [(0,.agg (List.toArray _)),(1,.agg (List.toArray _))] _ wF Z Z) (dI [false,true,true,true,false,false,false] Z (by kernel_rfl) (dN aLr Z Z M9 (oC _ ap aq bq h1 h2.hq) (fun w10 M10 => ?_)))
 refine aB (aC ⟨(dS (bI Z (aX 3 bO M10 Z Z Z)) (dS (bI Z (aX 2 bO M10 Z Z Z)) (dS (bI Z (aX 1 bO M10 Z Z Z)) (dS (bI Z (aX 0 bO M10 Z Z Z)) dJ)))), ?_⟩)
 refine aV Z Z Z (fun _=>cB [(0,.agg (List.toArray _)),(1,.agg (List.toArray _))] _ wF Z Z) (dI [true,true,true,true] Z (by kernel_rfl) (cC [.agg (List.toArray _),.agg (List.toArray _),.agg (List.toArray _),.agg (List.toArray _)] [gI (ap,cJ bp bq ap),gI (aq,cJ bp bq aq),gI (cJ ap aq bp,bp),gI (cJ ap aq bq,bq)] Z aXg M10 Z Z Z Z (cU Z) (by decide) (fun b11 w11 M11 => ?_)))
 refine aB (aC ⟨dJ, ?_⟩)
 have hlit36:=kZ (T:=204) (b:=b11) (nn:=4) (([(ap,cJ bp bq ap),(aq,cJ bp bq aq),(cJ ap aq bp,bp),(cJ ap aq bq,bq)]:List (Pt × Pt)).map gI) (bLl _) rfl (by decide)
 refine aV Z Z Z (fun _=>aJ (.slice _ _ _) Z) (bS (aC (aE (aA (dK Z Z (wq (bJ (0) aXg Z Z Z ((hlit36.rd M11 (bA (i:=5) Z)).below_len (aG gI (show ([(ap,cJ bp bq ap),(aq,cJ bp bq aq),(cJ ap aq bp,bp),(cJ ap aq bq,bq)]:List (Pt × Pt))[0]? = some (ap,cJ bp bq ap) from Z))) ((hlit36.rd M11 (bA (i:=5) Z)).someK (aG gI (show ([(ap,cJ bp bq ap),(aq,cJ bp bq aq),(cJ ap aq bp,bp),(cJ ap aq bq,bq)]:List (Pt × Pt))[0]? = some (ap,cJ bp bq ap) from Z)))) Z ?_))))))
 refine wq (dW _ mX (hlit36.rd M11 (bA (i:=5) Z)) (aG gI (show ([(ap,cJ bp bq ap),(aq,cJ bp bq aq),(cJ ap aq bp,bp),(cJ ap aq bq,bq)]:List (Pt × Pt))[0]? = some (ap,cJ bp bq ap) from Z)) Z) Z (aR aEi M11 Z Z (fun b12 w12 M12=>(bG 6 _ mX M12 Z Z Z Z Z (aS Z) Z (fun w13 M13=>(aB (aC (aE (aE (aA (bK Z Z (aB (aC (aP (dG (σ:=Nat × Ch) [8,9,10] (fun (i,s)=>[(11,.int .i64 (i:Int))]) (fun (i,s) w'=>(1≤i∧i≤4∧s=tV (([(ap,cJ bp bq ap),(aq,cJ bp bq aq),(cJ ap aq bp,bp),(cJ ap aq bq,bq)]:List (Pt × Pt)).take i)∧ChL s)∧Mem w [] [(some b1,bc (cM ap) 41),(some b2,bc (cM aq) 41),(some b3,bc (cM bp) 41),(some b4,bc (cM bq) 41),(some b5,bc [.int .i32 0,.int .i32 0,.int .i32 0,.int .i32 0] 204),(some b11,bc ((([(ap,cJ bp bq ap),(aq,cJ bp bq aq),(cJ ap aq bp,bp),(cJ ap aq bq,bq)]:List (Pt × Pt)).map gI).flatten) 204),(some b12,bc (gI (s.1,s.2.1)) 204)] w') (fun (i,s)=>4 - i) (1,tV [(ap,cJ bp bq ap)]) (bE Z dZ) (⟨⟨by omega,by omega,Z,(aJn h1.hp (fB h2)).2⟩,by rw [(aJn h1.hp (fB h2)).1];exact M13⟩) ?_))))))))))))))
 rintro ⟨i,s⟩ ρ14 w14 ⟨⟨hi1,hi4,hs,hL⟩,hM14⟩
 refine aE (aE (aA (aQ Z Z (dK Z Z (wq (cK underlying263 Z) Z (aL 42 (.int .i64 4) Z (cX Z Z Z Z (aB (aC ?_)))))))))
 refine aU Z (fun h43 => ?_) (fun h43 => ?_)
 ·obtain ⟨z,hz⟩:=cF (xs:=([(ap,cJ bp bq ap),(aq,cJ bp bq aq),(cJ ap aq bp,bp),(cJ ap aq bq,bq)]:List (Pt × Pt))) (k:=i) hlen4 (by omega)
  have hzi:=hins z (List.mem_of_getElem? hz)
  refine aM (aC (aE (aP (aE (mF [(0,0),(1,0),(2,1),(3,1),(5,1),(4,2),(6,2),(7,0)] mixed Z (by kernel_rfl) (fun w15 hb15 hh15 => ?_))))))
  have M15:=hM14.drew hb15 hh15
  refine kA Z Z Z (eD Z Z Z (bP Z Z Z (bJ (i) aXg Z Z Z ((hlit36.rd M15 (bA (i:=5) Z)).below_len (aG gI hz)) ((hlit36.rd M15 (bA (i:=5) Z)).someK (aG gI hz))) (bP Z Z Z (dW _ mX (hlit36.rd M15 (bA (i:=5) Z)) (aG gI hz) Z) (bP Z Z Z (aX 6 mX M15 Z Z Z) (dI [false,true,true] Z (by kernel_rfl) (dN aRy Z Z M15 (sY _ z.1 z.2 hzi.1 hzi.2) (fun w16 M16 => ?_)))))))
  refine aB (aC ⟨(dS (bI Z (aX 6 mX M16 Z Z Z)) dJ), ?_⟩)
  refine dI [true] Z (by kernel_rfl) (dN aRy Z Z M16 (sY _ s.1 s.2.1 hL.i.a hL.i.b) (fun w17 M17 => ?_))
  refine aB (aC ⟨dJ, ?_⟩)
  refine aV Z Z Z (fun _=>cA (.bool (decide _)) Z Z Z) (bS (aC ?_))
  refine aU Z (fun h53 => ?_) (fun h53 => ?_)
  ·refine aA (dK Z Z (aQ Z Z (wq (bJ (i) aXg Z Z Z ((hlit36.rd M17 (bA (i:=5) Z)).below_len (aG gI hz)) ((hlit36.rd M17 (bA (i:=5) Z)).someK (aG gI hz))) Z (wq (dW _ mX (hlit36.rd M17 (bA (i:=5) Z)) (aG gI hz) Z) Z (bG 6 _ mX M17 Z Z Z Z Z (aS Z) Z (fun w18 M18=>(aB (cR (aC (aA (aQ Z Z (wq (bC Z Z (by omega) (by omega)) Z (bK Z Z (aB ?_))))))))))))))
   refine bX (i+1,gB s z.1 z.2) (bE Z dZ) (bZ Z (bZ Z (bZ Z gK))) ?_ ?_
   ·exact ⟨⟨by omega,by omega,by rw [aCa hz,hs],hL.step hzi.1 hzi.2⟩,by unfold gB;rw [if_pos (by rw [hL.l];omega)];exact M18⟩
   ·(show 4 - (i+1) < 4 - i;omega)
  ·refine aM (cR (aC (aA (aQ Z Z (wq (bC Z Z (by omega) (by omega)) Z (bK Z Z (aB ?_)))))))
   refine bX (i+1,gB s z.1 z.2) (bE Z dZ) (bZ Z (bZ Z (bZ Z gK))) ?_ ?_
   ·exact ⟨⟨by omega,by omega,by rw [aCa hz,hs],hL.step hzi.1 hzi.2⟩,by unfold gB;rw [if_neg (by rw [hL.l];omega)];exact M17⟩
   ·(show 4 - (i+1) < 4 - i;omega)
 ·obtain rfl:i=4:=by omega
  refine cN (dC (dE (eJ (aC (aE (aA (wq (aX 6 mX hM14 Z Z Z) Z (bG 4 _ mX hM14 Z Z Z Z Z (aS Z) Z (fun w19 M19=>(aB (aC (aO (eQ 4 mX M19 Z Z Z ?_)))))))))))))
  exact ⟨by rw [hs];rfl,M19.below⟩
theorem aNf (w:World) (a b:Body) (ha:Okb a) (hb:Okb b) :
  Calls prog 134 #[(.agg (aF a).toArray),(.agg (aF b).toArray)] w (Rb w ((.agg (gI ((pK a b).1,(pK a b).2.1)).toArray))):=by
 refine aI #[.cell 4 204] 14 func134 Z results134 ntmps134 Z ?_
 have M0:=Mem.refl w
 refine aE (aA (bN (.agg (.mk _)) M0 Z Z Z (fun b1 w1 M1=>(bN (.agg (.mk _)) M1 Z Z Z (fun b2 w2 M2=>(aR aEi M2 Z Z (fun b3 w3 M3=>(aB (aC (aE (fW [(0,1),(2,1),(4,1),(6,1),(1,2),(3,2),(5,2),(7,2),(8,2),(9,2)] mixed M3 Z (by kernel_rfl) (fun w4 M4=>(bP Z Z Z (aX 0 bQ M4 Z Z Z) (bP Z Z Z (aX 0 bQ M4 Z Z Z) (bP Z Z Z (aX 1 bQ M4 Z Z Z) (bP Z Z Z (aX 1 bQ M4 Z Z Z) (dI [false,false,false,true] Z (by kernel_rfl) (dN bCi Z Z M4 (aCv _ a ha) (fun w5 M5 => ?_)))))))))))))))))))
 refine aB (aC ⟨(dS (bI Z (aX 1 bQ M5 Z Z Z)) (dS (bI Z (aX 1 bQ M5 Z Z Z)) (dS (bI Z (aX 0 bQ M5 Z Z Z)) dJ))), ?_⟩)
 refine dI [false,false,true] Z (by kernel_rfl) (dN bCj Z Z M5 (zV _ a ha) (fun w6 M6 => ?_))
 refine aB (aC ⟨(dS (bI Z (aX 1 bQ M6 Z Z Z)) (dS (bI Z (aX 1 bQ M6 Z Z Z)) dJ)), ?_⟩)
 refine dI [false,true] Z (by kernel_rfl) (dN bCi Z Z M6 (aCv _ b hb) (fun w7 M7 => ?_))
 refine aB (aC ⟨(dS (bI Z (aX 1 bQ M7 Z Z Z)) dJ), ?_⟩)
 refine dI [true] Z (by kernel_rfl) (dN bCj Z Z M7 (zV _ b hb) (fun w8 M8 => ?_))
 refine aB (aC ⟨dJ, ?_⟩)
 refine dI [] Z (by kernel_rfl) (dN bPk Z Z M8 (aNe _ (aAt a) (aAu a) (aAt b) (aAu b) (qQ ha) (qQ hb)) (fun w9 M9 => ?_))
 refine aB (aC ⟨dJ, ?_⟩)
 refine dI [] Z (by kernel_rfl) (bG 2 _ mX M9 Z Z Z Z Z (aS Z) Z (fun w10 M10 => ?_))
 refine aB (aC ⟨dJ, ?_⟩)
 refine bS (aC (aO (eQ 2 mX M10 Z Z Z ?_)))
 exact ⟨Z,M10.below⟩
theorem aKs (w:World) (a b:Body) (ha:Okb a) (hb:Okb b) (hk:¬ b.key < a.key) :
  Calls prog 106 #[(.agg (aF a).toArray),(.agg (aF b).toArray)] w (Rb w (.tuple #[.agg (aOt (kP a b)).toArray,.bool (kP a b).isSome])):=by
 have hch:=aAp ha hb
 have hd:=bDr ha hb
 have hl:=xT hd.1 hd.2
 have hra:=ha.r
 have hrb:=hb.r
 have hsn:(a.radius+b.radius).natAbs*(a.radius+b.radius).natAbs≤70368744177664:=by have:=bHk ha hb;rw [← Int.natAbs_mul_self] at this;omega
 have hax:=hch.a.i32.x
 have hay:=hch.a.i32.y
 have hbx:=hch.b.i32.x
 have hby:=hch.b.i32.y
 refine aI #[.cell 4 175,.tmp 5] 72 func106 Z results106 ntmps106 Z ?_
 have M0:=Mem.refl w
 refine aE (aA (bN (.agg (.mk _)) M0 Z Z Z (fun b1 w1 M1=>(bN (.agg (.mk _)) M1 Z Z Z (fun b2 w2 M2=>(aR nH M2 Z Z (fun b3 w3 M3=>(wq (aJ (.bool false) Z) Z (aB (aC (aE (aE (aA (wq (aD 0 dT Z) Z (wq (aK 1 (.int _ _) bV M3 Z Z Z) Z (wq (aD 0 dT Z) Z (wq (aK 0 (.int _ _) bV M3 Z Z Z) Z (cX Z Z Z Z (pD 14 Z (by omega) (aB (aC (cG Z (aM (aC (aE (aA (wq (aX 0 bQ M3 Z Z Z) Z ?_)))))))))))))))))))))))))))
 refine wq (aX 1 bQ M3 Z Z Z) Z (dN bPa Z Z M3 (aNf _ a b ha hb) (fun w4 M4=>(aL 22 (.agg (cM (pK a b).1++cM (pK a b).2.1).toArray) Z (aR aEi M4 Z Z (fun b5 w5 M5=>(bG 3 _ mX M5 Z Z Z Z Z (aS Z) Z (fun w6 M6=>(aB (aC (aE (aA (wq (aD 1 mA Z) Z (wq (aK 0 (.int _ _) aY M6 Z Z Z) Z (wq (bH dY underlying2 Z (fJ _ (by omega) (by omega))) Z (wq (aD 1 mA Z) Z (wq (aK 1 (.int _ _) aY M6 Z Z Z) Z (wq (bH dY underlying2 Z (fJ _ (by omega) (by omega))) Z ?_)))))))))))))))))
 refine wq (bC Z Z (by omega) (by omega)) Z (bK Z Z (aB (aC (aE (aE (aA (wq (aX 3 mX M6 Z Z Z) Z (dN aRy Z Z M6 (sY _ (pK a b).1 (pK a b).2.1 hch.a hch.b) (fun w7 M7=>(aL 31 (.int .u64 ((rM (rH (pK a b)) (sO (pK a b)):Nat):Int)) Z (aQ Z Z (wq (dF mV underlying193 Z) Z (aL 33 (.int .u64 (((a.radius+b.radius).natAbs:Nat):Int)) (iE (by rw [gS];omega)) (aQ Z Z (wq (dF mV underlying193 Z) Z (aL 35 (.int .u64 (((a.radius+b.radius).natAbs:Nat):Int)) (iE (by rw [gS];omega)) ?_))))))))))))))))
 refine wq (cA (.int _ _) Z Z Z) Z (aL 36 (.int .u64 (((a.radius+b.radius).natAbs*(a.radius+b.radius).natAbs:Nat):Int)) (iE (lX _ _ (by omega))) (cX Z Z Z Z (aB (aC ?_))))
 refine aU Z (fun h37 => ?_) (fun h37 => ?_)
 ·refine aE (aA (wq (cB [] _ wE Z Z) Z (bG 2 _ fA M7 Z Z Z Z Z (aS Z) Z (fun w8 M8=>(wq (aJ (.bool false) Z) Z (aB (aC (aO (cO (tH (v2:=.bool false) 2 fA M8 Z Z Z Z ?_))))))))))
  exact ⟨by unfold kP;first | (rw [if_pos (by omega)];rfl) | (rw [if_neg (by omega)];rfl),M8.below⟩
 ·refine aM (aC (aE (aA (wq (aD 2 yU Z) Z (wq (aD 0 cV Z) Z (wq (aK 3 (.int _ _) aY M7 Z Z Z) Z (wq (bH dY underlying2 Z (fJ _ (by omega) (by omega))) Z (wq (aD 0 yT Z) Z (wq (aD 0 cV Z) Z (wq (aK 3 (.int _ _) aY M7 Z Z Z) Z (wq (bH dY underlying2 Z (fJ _ (by omega) (by omega))) Z (wq (gG Z Z (by omega) (by omega)) Z (aL 47 (.int .i64 (rH (pK a b))) Z (bK Z Z (aB (aC (aE (aA (wq (aD 2 yU Z) Z (wq (aD 1 cS Z) Z ?_))))))))))))))))))))
  refine wq (aK 3 (.int _ _) aY M7 Z Z Z) Z (wq (bH dY underlying2 Z (fJ _ (by omega) (by omega))) Z (wq (aD 0 yT Z) Z (wq (aD 1 cS Z) Z (wq (aK 3 (.int _ _) aY M7 Z Z Z) Z (wq (bH dY underlying2 Z (fJ _ (by omega) (by omega))) Z (wq (gG Z Z (by omega) (by omega)) Z (aL 56 (.int .i64 (sO (pK a b))) Z (bK Z Z (aB (aC (aE (fW [(0,0),(1,1),(2,0),(3,1),(4,0),(5,0),(6,0),(8,0),(9,0),(10,0),(7,2),(11,2),(12,0),(13,0),(14,0),(15,2),(16,0)] mixed M7 Z (by kernel_rfl) (fun w9 M9 => ?_)))))))))))))
  refine aV Z Z Z (fun _=>aD 0 dT Z) (bP Z Z Z (aK 0 (.int _ _) bV M9 Z Z Z) (aV Z Z Z (fun _=>aD 0 dT Z) (bP Z Z Z (aK 1 (.int _ _) bV M9 Z Z Z) (aV Z Z Z (fun _=>cB [(0,.int _ _),(1,.int _ _)] _ aBt Z Z) (eD Z Z Z (eD Z Z Z (eD Z Z Z (eD Z Z Z (eD Z Z Z (dI [false,false] Z (by kernel_rfl) (dN bPb Z Z M9 (aTr _ (rH (pK a b)) (sO (pK a b)) hd.1 hd.2) (fun w10 M10 => ?_))))))))))))
  refine aB (aC ⟨(dS (bI Z (aK 1 (.int _ _) bV M10 Z Z Z)) (dS (bI Z (aK 0 (.int _ _) bV M10 Z Z Z)) dJ)), ?_⟩)
  refine dI [false,false] Z (by kernel_rfl) (dN aRz Z Z M10 (sX _ (rH (pK a b)) (sO (pK a b)) hd.1 hd.2) (fun w11 M11 => ?_))
  refine aB (aC ⟨(dS (bI Z (aK 1 (.int _ _) bV M11 Z Z Z)) (dS (bI Z (aK 0 (.int _ _) bV M11 Z Z Z)) dJ)), ?_⟩)
  refine aV Z Z Z (fun _=>gG Z Z (by omega) (by omega)) (aV Z Z Z (fun _=>dF mV underlying21 Z) (aV Z Z Z (fun _=>cB [(0,.agg (List.toArray _)),(1,.agg (List.toArray _)),(2,.int _ _)] _ wE Z Z) (dI [true,true] Z (by kernel_rfl) (bG 2 _ fA M11 Z Z Z Z Z (aS Z) Z (fun w12 M12 => ?_)))))
  refine aB (aC ⟨dJ, ?_⟩)
  refine aV Z Z Z (fun _=>aJ (.bool true) Z) (bS (aC (aO (tH (v2:=.bool true) 2 fA M12 Z Z Z Z ?_))))
  exact ⟨by unfold kP;first | (rw [if_pos (by omega)];rfl) | (rw [if_neg (by omega)];rfl),M12.below⟩
theorem bAc (w:World) (a b:Body) (ha:Okb a) (hb:Okb b) (hk:b.key < a.key) :
  Calls prog 106 #[(.agg (aF a).toArray),(.agg (aF b).toArray)] w (Rb w (.tuple #[.agg (aOt (kP b a)).toArray,.bool (kP b a).isSome])):=by
 refine aI #[.cell 4 175,.tmp 5] 72 func106 Z results106 ntmps106 Z ?_
 have M0:=Mem.refl w
 refine aE (aA (bN (.agg (.mk _)) M0 Z Z Z (fun b1 w1 M1=>(bN (.agg (.mk _)) M1 Z Z Z (fun b2 w2 M2=>(aR nH M2 Z Z (fun b3 w3 M3=>(wq (aJ (.bool false) Z) Z (aB (aC (aE (aE (aA (wq (aD 0 dT Z) Z (wq (aK 1 (.int _ _) bV M3 Z Z Z) Z (wq (aD 0 dT Z) Z (wq (aK 0 (.int _ _) bV M3 Z Z Z) Z (cX Z Z Z Z (kR 14 Z (by omega) (aB (aC (cE Z (aE (aA (wq (aX 1 bQ M3 Z Z Z) Z ?_)))))))))))))))))))))))))
 refine wq (aX 0 bQ M3 Z Z Z) Z (dN aRu Z Z M3 (aKs _ b a hb ha (by omega)) (fun w4 M4=>(wq (bM (.agg (.mk _)) Z Z) Z (wq (bM (.bool _) Z Z) Z (bG 2 _ fA M4 Z Z Z Z Z (aS Z) Z (fun w5 M5=>(wq (aJ (.bool _) Z) Z (aB (aC (aO (cO (tH (v2:=.bool _) 2 fA M5 Z Z Z Z ?_))))))))))))
 exact ⟨Z,M5.below⟩
theorem aQp (w:World) (a b:Body) (ha:Okb a) (hb:Okb b):Calls prog 106 #[(.agg (aF a).toArray),(.agg (aF b).toArray)] w (Rb w (.tuple #[.agg (aOt (lN a b)).toArray,.bool (lN a b).isSome])):=by
 unfold lN
 by_cases hk:b.key < a.key
 ·rw [if_pos hk];exact bAc w a b ha hb hk
 ·rw [if_neg hk];exact aKs w a b ha hb hk
theorem aDt (w:World) (s:Ch) (x y:Pt) (ba bb bl:Nat) (hx:PtI x) (hy:PtI y) (hO:Own [(some ba,bc (cM s.1) 41),(some bb,bc (cM s.2.1) 41),(some bl,bc [.int .u64 (s.2.2:Int)] 193)] w) :
  Calls prog 247 #[(.agg (cM x).toArray),(.agg (cM y).toArray),.pointer (some ⟨bl,0,none⟩),.pointer (some ⟨ba,0,none⟩),.pointer (some ⟨bb,0,none⟩)] w (gH (fun v w'=>v=.tuple #[]∧Mem w (bY [(some ba,bc (cM s.1) 41),(some bb,bc (cM s.2.1) 41),(some bl,bc [.int .u64 (s.2.2:Int)] 193)]) [(some ba,bc (cM (gB s x y).1) 41),(some bb,bc (cM (gB s x y).2.1) 41),(some bl,bc [.int .u64 ((gB s x y).2.2:Int)] 193)] w')):=by
 refine aI #[] 20 func247 Z results247 ntmps247 Z ?_
 have M0:=hO.mem
 refine aE (aA (bN (.agg (.mk _)) M0 Z Z Z (fun b1 w1 M1=>(bN (.agg (.mk _)) M1 Z Z Z (fun b2 w2 M2=>(aB (aC (aE (aA (wq (aX 3 bO M2 Z Z Z) Z (wq (aX 4 bO M2 Z Z Z) Z (dN aEr Z Z M2 (uY _ x y hx.i32 hy.i32) (fun w3 M3=>(wq (bM (.int _ _) Z Z) Z (wq (bM (.int _ _) Z Z) Z (dN aSa Z Z M3 (tD _ (y.1 - x.1) (y.2 - x.2) (hx.inX hy) (hx.inY hy)) (fun w4 M4=>(bK Z Z (aB (aC (aE (aA (aQ Z Z (wq (aK 2 (.int _ _) cT M4 Z Z Z) Z (cX Z Z Z Z ?_)))))))))))))))))))))))))
 refine aB (aC ?_)
 refine aU Z (fun h16 => ?_) (fun h16 => ?_)
 ·refine fW [(0,1),(1,1),(2,0),(3,2),(4,2),(5,2)] mixed M4 Z (by kernel_rfl) (fun w5 M5=>(bP Z Z Z (aX 3 bO M5 Z Z Z) (bP Z Z Z (aX 4 bO M5 Z Z Z) (eD Z Z Z (dI [false,true] Z (by kernel_rfl) (bG 0 _ bO M5 Z Z Z Z Z (aS Z) Z (fun w6 M6 => ?_)))))))
  refine aB (aC ⟨(dS (bI Z (aX 4 bO M6 Z Z Z)) dJ), ?_⟩)
  refine dI [true] Z (by kernel_rfl) (bG 1 _ bO M6 Z Z Z Z Z (aS Z) Z (fun w7 M7 => ?_))
  refine aB (aC ⟨dJ, ?_⟩)
  refine dI [] Z (by kernel_rfl) (dA 2 (.int _ _) cT M7 Z Z Z Z Z Z (fun w8 M8 => ?_))
  refine aB (aC ⟨dJ, ?_⟩)
  refine bS (kI ?_)
  exact ⟨Z,by unfold gB;first | (rw [if_pos (by omega)];exact M8.keep [true,true,true,false,false]) | (rw [if_neg (by omega)];exact M8.keep [true,true,true,false,false])⟩
 ·refine aM (kI ?_)
  exact ⟨Z,by unfold gB;first | (rw [if_pos (by omega)];exact M4.keep [true,true,true,false,false]) | (rw [if_neg (by omega)];exact M4.keep [true,true,true,false,false])⟩
theorem aUl (w:World) (ap aq bp bq:Pt) (h1:SgI ap aq) (h2:SgI bp bq) :
  Calls prog 233 #[(.agg (cM ap).toArray),(.agg (cM aq).toArray),(.agg (cM bp).toArray),(.agg (cM bq).toArray)] w (Rb w (.tuple #[(.agg (cM (nM ap aq bp bq).1).toArray),(.agg (cM (nM ap aq bp bq).2.1).toArray),.int .u64 ((nM ap aq bp bq).2.2:Int)])):=by
 refine aI #[.cell 8 41,.cell 9 41,.cell 10 193] 48 func233 Z results233 ntmps233 Z ?_
 have M0:=Mem.refl w
 refine aE (aA (bN (.agg (.mk _)) M0 Z Z Z (fun b1 w1 M1=>(bN (.agg (.mk _)) M1 Z Z Z (fun b2 w2 M2=>(bN (.agg (.mk _)) M2 Z Z Z (fun b3 w3 M3=>(bN (.agg (.mk _)) M3 Z Z Z (fun b4 w4 M4=>(aR iY M4 Z Z (fun b5 w5 M5=>(aR iY M5 Z Z (fun b6 w6 M6=>(aR bMa M6 Z Z (fun b7 w7 M7=>(aB (aC (aE (aA (dA 6 (.int _ _) cT M7 Z Z Z Z Z Z (fun w8 M8=>(aB (aC (aE (aA ?_)))))))))))))))))))))))))
 obtain ⟨s,hS⟩:∃ z,z=ch0:=⟨_,rfl⟩
 have hC:ChI s:=by rw [hS];exact bDq
 have M9:Mem _ _ [_,_,_,_,(some b5,bc (cM ch0.1) 41),(some b6,bc (cM ch0.2.1) 41),(some b7,bc [.int .u64 (ch0.2.2:Int)] 193)] _:=M8
 rw [← hS] at M9
 refine wq (dU [] [.pointer _,.pointer _,.pointer _] Z Z) Z (wq (aJ (.func _ _ _) Z) Z (aB (aC (aE (aE (aA (wq (aX 0 bO M9 Z Z Z) Z (wq (aX 1 bO M9 Z Z Z) Z (wq (uL [.agg (List.toArray _),.agg (List.toArray _)] aAj aXr Z Z (cU Z)) Z (aQ Z Z (aB (aC (aP (jH 3 (fO (aE (aA (cX Z Z Z Z (kR 21 Z (by first | decide | omega) (aB (aC (aE (cE Z (aM (aC (aE (aP (aE (aA (wq (rJ 0 _ aAj bO Z Z (by decide) (by decide) Z Z) Z ?_))))))))))))))))))))))))))))))
 refine aR iY M9 Z Z (fun b10 w10 M10=>(bG 7 _ bO M10 Z Z Z Z Z (aS Z) Z (fun w11 M11=>(aB (aC (fW [(0,0),(1,1),(2,1),(3,1),(4,1),(5,2),(6,2)] mixed M11 Z (by kernel_rfl) (fun w12 M12=>(aV Z Z Z (fun _=>aH (.func _ _ _) Z) (bP Z Z Z (aX 7 bO M12 Z Z Z) (bP Z Z Z (aX 2 bO M12 Z Z Z) (bP Z Z Z (aX 3 bO M12 Z Z Z) (bP Z Z Z (aX 7 bO M12 Z Z Z) (dI [true,true,true,false] Z (by kernel_rfl) (dN aLw Z Z M12 (oB _ bp bq ap h2 h1.hp) (fun w13 M13 => ?_)))))))))))))))
 refine aB (aC ⟨(dS (bI Z (aX 7 bO M13 Z Z Z)) dJ), ?_⟩)
 refine dI [true] Z (by kernel_rfl) (eP aLv Z Z (aDt _ s ap (cJ bp bq ap) _ _ _ h1.hp (fB h2) (M13.ownSeg 4 3)) ?_)
 rintro v14 w14 ⟨rfl,hM14⟩
 have M14:Mem _ _ [_,_,_,_,_,_,_,_] _:=M13.seg 4 3 hM14
 obtain ⟨s,hs⟩:∃ z,z=gB s ap (cJ bp bq ap):=⟨_,rfl⟩
 rw [← hs] at M14
 replace hC:=hC.step (x:=ap) (y:=(cJ bp bq ap)) h1.hp (fB h2)
 rw [← hs] at hC
 replace hS:=hs.trans (congrArg (fun z=>gB z ap (cJ bp bq ap)) hS)
 refine aB (aC ⟨dJ, ?_⟩)
 refine bS (cR (aC (aA (wq (bC Z Z (by first | decide | omega) (by first | decide | omega)) Z (aL 30 (.int .i64 1) (iE (by first | decide | omega)) (aQ Z Z (aB (aC (fO (aE (aA (cX Z Z Z Z (kR 21 Z (by first | decide | omega) (aB (aC (aE (cE Z (aM (aC (aE (aP (aE (aA (wq (rJ 1 _ aAj bO Z Z (by decide) (by decide) Z Z) Z (aR iY M14 Z Z (fun b15 w15 M15 => ?_))))))))))))))))))))))))))
 refine bG 8 _ bO M15 Z Z Z Z Z (aS Z) Z (fun w16 M16=>(aB (aC (fW [(0,0),(1,1),(2,1),(3,1),(4,1),(5,2),(6,2)] mixed M16 Z (by kernel_rfl) (fun w17 M17=>(aV Z Z Z (fun _=>aH (.func _ _ _) Z) (bP Z Z Z (aX 8 bO M17 Z Z Z) (bP Z Z Z (aX 2 bO M17 Z Z Z) (bP Z Z Z (aX 3 bO M17 Z Z Z) (bP Z Z Z (aX 8 bO M17 Z Z Z) (dI [true,true,true,false] Z (by kernel_rfl) (dN aLw Z Z M17 (oB _ bp bq aq h2 h1.hq) (fun w18 M18 => ?_)))))))))))))
 refine aB (aC ⟨(dS (bI Z (aX 8 bO M18 Z Z Z)) dJ), ?_⟩)
 refine dI [true] Z (by kernel_rfl) (eP aLv Z Z (aDt _ s aq (cJ bp bq aq) _ _ _ h1.hq (fB h2) (M18.ownSeg 4 3)) ?_)
 rintro v19 w19 ⟨rfl,hM19⟩
 have M19:Mem _ _ [_,_,_,_,_,_,_,_,_] _:=M18.seg 4 3 hM19
 obtain ⟨s,hs⟩:∃ z,z=gB s aq (cJ bp bq aq):=⟨_,rfl⟩
 rw [← hs] at M19
 replace hC:=hC.step (x:=aq) (y:=(cJ bp bq aq)) h1.hq (fB h2)
 rw [← hs] at hC
 replace hS:=hs.trans (congrArg (fun z=>gB z aq (cJ bp bq aq)) hS)
 refine aB (aC ⟨dJ, ?_⟩)
 refine bS (cR (aC (aA (wq (bC Z Z (by first | decide | omega) (by first | decide | omega)) Z (aL 30 (.int .i64 2) (iE (by first | decide | omega)) (aQ Z Z (aB (aC (fO (aE (aA (cX Z Z Z Z (pD 21 Z (by first | decide | omega) (aB (aC (aE (cG Z (cN (dC (dC (eJ ?_)))))))))))))))))))))
 refine aC (aE (aE (aA (wq (aX 2 bO M19 Z Z Z) Z (wq (aX 3 bO M19 Z Z Z) Z (wq (uL [.agg (List.toArray _),.agg (List.toArray _)] aAj aXr Z Z (cU Z)) Z (aQ Z Z (aB (aC (aP (jH 3 (fO (aE (aA (cX Z Z Z Z (kR 35 Z (by first | decide | omega) (aB (aC (aE (cE Z (aM (aC (aE (aP (aE (aA (wq (rJ 0 _ aAj bO Z Z (by decide) (by decide) Z Z) Z (aR iY M19 Z Z (fun b20 w20 M20=>(bG 9 _ bO M20 Z Z Z Z Z (aS Z) Z (fun w21 M21 => ?_)))))))))))))))))))))))))))))))
 refine aB (aC (fW [(0,0),(1,1),(2,1),(3,1),(5,1),(4,2),(6,2)] mixed M21 Z (by kernel_rfl) (fun w22 M22=>(aV Z Z Z (fun _=>aH (.func _ _ _) Z) (bP Z Z Z (aX 0 bO M22 Z Z Z) (bP Z Z Z (aX 1 bO M22 Z Z Z) (bP Z Z Z (aX 9 bO M22 Z Z Z) (bP Z Z Z (aX 9 bO M22 Z Z Z) (dI [false,true,true,true] Z (by kernel_rfl) (dN aLw Z Z M22 (oB _ ap aq bp h1 h2.hp) (fun w23 M23 => ?_)))))))))))
 refine aB (aC ⟨(dS (bI Z (aX 9 bO M23 Z Z Z)) dJ), ?_⟩)
 refine dI [true] Z (by kernel_rfl) (eP aLv Z Z (aDt _ s (cJ ap aq bp) bp _ _ _ (fB h1) h2.hp (M23.ownSeg 4 3)) ?_)
 rintro v24 w24 ⟨rfl,hM24⟩
 have M24:Mem _ _ [_,_,_,_,_,_,_,_,_,_] _:=M23.seg 4 3 hM24
 obtain ⟨s,hs⟩:∃ z,z=gB s (cJ ap aq bp) bp:=⟨_,rfl⟩
 rw [← hs] at M24
 replace hC:=hC.step (x:=(cJ ap aq bp)) (y:=bp) (fB h1) h2.hp
 rw [← hs] at hC
 replace hS:=hs.trans (congrArg (fun z=>gB z (cJ ap aq bp) bp) hS)
 refine aB (aC ⟨dJ, ?_⟩)
 refine bS (cR (aC (aA (wq (bC Z Z (by first | decide | omega) (by first | decide | omega)) Z (aL 44 (.int .i64 1) (iE (by first | decide | omega)) (aQ Z Z (aB (aC (fO (aE (aA (cX Z Z Z Z (kR 35 Z (by first | decide | omega) (aB (aC (aE (cE Z (aM (aC (aE (aP (aE (aA (wq (rJ 1 _ aAj bO Z Z (by decide) (by decide) Z Z) Z (aR iY M24 Z Z (fun b25 w25 M25 => ?_))))))))))))))))))))))))))
 refine bG 10 _ bO M25 Z Z Z Z Z (aS Z) Z (fun w26 M26=>(aB (aC (fW [(0,0),(1,1),(2,1),(3,1),(5,1),(4,2),(6,2)] mixed M26 Z (by kernel_rfl) (fun w27 M27=>(aV Z Z Z (fun _=>aH (.func _ _ _) Z) (bP Z Z Z (aX 0 bO M27 Z Z Z) (bP Z Z Z (aX 1 bO M27 Z Z Z) (bP Z Z Z (aX 10 bO M27 Z Z Z) (bP Z Z Z (aX 10 bO M27 Z Z Z) (dI [false,true,true,true] Z (by kernel_rfl) (dN aLw Z Z M27 (oB _ ap aq bq h1 h2.hq) (fun w28 M28 => ?_)))))))))))))
 refine aB (aC ⟨(dS (bI Z (aX 10 bO M28 Z Z Z)) dJ), ?_⟩)
 refine dI [true] Z (by kernel_rfl) (eP aLv Z Z (aDt _ s (cJ ap aq bq) bq _ _ _ (fB h1) h2.hq (M28.ownSeg 4 3)) ?_)
 rintro v29 w29 ⟨rfl,hM29⟩
 have M29:Mem _ _ [_,_,_,_,_,_,_,_,_,_,_] _:=M28.seg 4 3 hM29
 obtain ⟨s,hs⟩:∃ z,z=gB s (cJ ap aq bq) bq:=⟨_,rfl⟩
 rw [← hs] at M29
 replace hC:=hC.step (x:=(cJ ap aq bq)) (y:=bq) (fB h1) h2.hq
 rw [← hs] at hC
 replace hS:=hs.trans (congrArg (fun z=>gB z (cJ ap aq bq) bq) hS)
 refine aB (aC ⟨dJ, ?_⟩)
 refine bS (cR (aC (aA (wq (bC Z Z (by first | decide | omega) (by first | decide | omega)) Z (aL 44 (.int .i64 2) (iE (by first | decide | omega)) (aQ Z Z (aB (aC (fO (aE (aA (cX Z Z Z Z (pD 35 Z (by first | decide | omega) (aB (aC (aE (cG Z (cN (dC (dC (eJ ?_)))))))))))))))))))))
 refine aC (aE (fW [(0,1),(1,1),(2,1),(3,2),(4,2),(5,2)] mixed M29 Z (by kernel_rfl) (fun w30 M30=>(bP Z Z Z (aX 4 bO M30 Z Z Z) (bP Z Z Z (aX 5 bO M30 Z Z Z) (bP Z Z Z (aK 6 (.int _ _) cT M30 Z Z Z) (dI [false,false,true] Z (by kernel_rfl) (bG 4 _ bO M30 Z Z Z Z Z (aS Z) Z (fun w31 M31 => ?_)))))))))
 refine aB (aC ⟨(dS (bI Z (aK 6 (.int _ _) cT M31 Z Z Z)) (dS (bI Z (aX 5 bO M31 Z Z Z)) dJ)), ?_⟩)
 refine dI [false,true] Z (by kernel_rfl) (bG 5 _ bO M31 Z Z Z Z Z (aS Z) Z (fun w32 M32 => ?_))
 refine aB (aC ⟨(dS (bI Z (aK 6 (.int _ _) cT M32 Z Z Z)) dJ), ?_⟩)
 refine dI [true] Z (by kernel_rfl) (dA 6 (.int _ _) cT M32 Z Z Z Z Z Z (fun w33 M33 => ?_))
 refine aB (aC ⟨dJ, ?_⟩)
 refine bS (aC (aO (bRk 4 5 6 bO cT M33 Z Z Z Z Z Z Z Z ?_)))
 exact ⟨by rw [show s=nM ap aq bp bq from hS],M33.below⟩
theorem aUk (w:World) (ap aq bp bq:Pt) (h1:SgI ap aq) (h2:SgI bp bq) :
  Calls prog 215 #[(.agg (cM ap).toArray),(.agg (cM aq).toArray),(.agg (cM bp).toArray),(.agg (cM bq).toArray)] w (Rb w (.tuple #[(.agg (cM (nM ap aq bp bq).1).toArray),(.agg (cM (nM ap aq bp bq).2.1).toArray)])):=by
 refine aI #[.cell 8 41,.cell 9 41] 21 func215 Z results215 ntmps215 Z ?_
 have M0:=Mem.refl w
 refine aE (aA (bN (.agg (.mk _)) M0 Z Z Z (fun b1 w1 M1=>(bN (.agg (.mk _)) M1 Z Z Z (fun b2 w2 M2=>(bN (.agg (.mk _)) M2 Z Z Z (fun b3 w3 M3=>(bN (.agg (.mk _)) M3 Z Z Z (fun b4 w4 M4=>(aR iY M4 Z Z (fun b5 w5 M5=>(aR iY M5 Z Z (fun b6 w6 M6=>(aB (aC (aE (aA (wq (aX 0 bO M6 Z Z Z) Z (wq (aX 1 bO M6 Z Z Z) Z (wq (aX 2 bO M6 Z Z Z) Z (wq (aX 3 bO M6 Z Z Z) Z (dN bRa Z Z M6 (aUl _ ap aq bp bq h1 h2) (fun w7 M7=>(wq (aH (.tuple (List.toArray _)) Z) Z ?_))))))))))))))))))))))))
 refine wq (bM (.agg (.mk _)) Z Z) Z (wq (bM (.agg (.mk _)) Z Z) Z (wq (bM (.int _ _) Z Z) Z (bG 4 _ bO M7 Z Z Z Z Z (aS Z) Z (fun w8 M8=>(bG 5 _ bO M8 Z Z Z Z Z (aS Z) Z (fun w9 M9=>(aB (aC (aE (fW [(0,1),(1,1),(2,2),(3,2)] mixed M9 Z (by kernel_rfl) (fun w10 M10=>(bP Z Z Z (aX 4 bO M10 Z Z Z) (bP Z Z Z (aX 5 bO M10 Z Z Z) (dI [false,true] Z (by kernel_rfl) (bG 4 _ bO M10 Z Z Z Z Z (aS Z) Z (fun w11 M11 => ?_))))))))))))))))
 refine aB (aC ⟨(dS (bI Z (aX 5 bO M11 Z Z Z)) dJ), ?_⟩)
 refine dI [true] Z (by kernel_rfl) (bG 5 _ bO M11 Z Z Z Z Z (aS Z) Z (fun w12 M12 => ?_))
 refine aB (aC ⟨dJ, ?_⟩)
 refine bS (aC (aO (aWc 4 5 bO M12 Z Z Z Z Z Z ?_)))
 exact ⟨Z,M12.below⟩
end Go.Proofs.YtpcloigancpnbaaGreatDoor
