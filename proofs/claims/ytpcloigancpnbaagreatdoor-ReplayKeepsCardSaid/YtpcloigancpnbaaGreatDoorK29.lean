/- Part of the proof of a law of this seat (1 texts). No conditions. -/
import Derived.Test.YtpcloigancpnbaaGreatDoorK28
set_option linter.unusedVariables false
set_option linter.unusedSimpArgs false
set_option linter.unnecessarySimpa false
set_option maxHeartbeats 100000000
namespace Go.Proofs.YtpcloigancpnbaaGreatDoor
open Go.Bil
open Go.RowKit (Below)
open Go.Proofs
open Go.Proofs.Tryz
theorem aEd (w:World) (b:Body) (hb:Okb b) :
  Calls prog 214 #[(.agg (aF b).toArray)] w (Rb w ((.agg (qJ b).toArray))):=by
 refine aI #[.cell 2 284] 14 func214 Z results214 ntmps214 Z ?_
 have M0:=Mem.refl w
 refine aE (aA (bN (.agg (.mk _)) M0 Z Z Z (fun b1 w1 M1=>(aR aAg M1 Z Z (fun b2 w2 M2=>(aB (aC (aE (aA (wq (aX 0 bQ M2 Z Z Z) Z (dN bQz Z Z M2 (aYb _ b hb) (fun w3 M3=>(wq (aH (.tuple (List.toArray _)) Z) Z (wq (bM (.agg (.mk _)) Z Z) Z (wq (bM (.agg (.mk _)) Z Z) Z (aR iY M3 Z Z (fun b4 w4 M4=>(aR iY M4 Z Z (fun b5 w5 M5=>(bG 2 _ bO M5 Z Z Z Z Z (aS Z) Z (fun w6 M6=>(bG 3 _ bO M6 Z Z Z Z Z (aS Z) Z (fun w7 M7 => ?_)))))))))))))))))))))))
 refine aB (aC (aE (aA (wq (aX 0 bQ M7 Z Z Z) Z (wq (aX 2 bO M7 Z Z Z) Z (wq (aX 3 bO M7 Z Z Z) Z (wq (cB [(0,.agg (List.toArray _)),(1,.agg (List.toArray _)),(2,.agg (List.toArray _))] _ bAy Z Z) Z (bG 1 _ oW M7 Z Z Z Z Z (aS Z) Z (fun w8 M8=>(aB (aC (aO (eQ 1 oW M8 Z Z Z ?_)))))))))))))
 exact ⟨Z,M8.below⟩
theorem bJw (w:World) (a b:Body) (ha:Okb a) (hb:Okb b) :
  Calls prog 189 #[(.agg (aF a).toArray),(.agg (aF b).toArray)] w (Rb w (.tuple #[(.agg (qJ (loB a b)).toArray),(.agg (qJ (hiB a b)).toArray)])):=by
 refine aI #[.cell 4 284,.cell 5 284] 17 func189 Z results189 ntmps189 Z ?_
 have M0:=Mem.refl w
 refine aE (aA (bN (.agg (.mk _)) M0 Z Z Z (fun b1 w1 M1=>(bN (.agg (.mk _)) M1 Z Z Z (fun b2 w2 M2=>(aR aAg M2 Z Z (fun b3 w3 M3=>(aR aAg M3 Z Z (fun b4 w4 M4=>(aB (aC (aE (aE (aA (wq (aD 0 dT Z) Z (wq (aK 0 (.int _ _) bV M4 Z Z Z) Z (wq (aD 0 dT Z) Z (wq (aK 1 (.int _ _) bV M4 Z Z Z) Z (cX Z Z Z Z (aB (aC ?_)))))))))))))))))))))
 refine aU Z (fun h10 => ?_) (fun h10 => ?_)
 ·refine aA (wq (aX 1 bQ M4 Z Z Z) Z (wq (aX 0 bQ M4 Z Z Z) Z (bG 0 _ bQ M4 Z Z Z Z Z (aS Z) Z (fun w5 M5=>(bG 1 _ bQ M5 Z Z Z Z Z (aS Z) Z (fun w6 M6=>(aB (aC (aE (fW [(0,1),(2,1),(1,2),(3,2),(4,2),(5,2)] mixed M6 Z (by kernel_rfl) (fun w7 M7=>(bP Z Z Z (aX 0 bQ M7 Z Z Z) (bP Z Z Z (aX 1 bQ M7 Z Z Z) (dI [false,true] Z (by kernel_rfl) (dN aLt Z Z M7 (aEd _ b hb) (fun w8 M8 => ?_))))))))))))))))
  refine aB (aC ⟨(dS (bI Z (aX 1 bQ M8 Z Z Z)) dJ), ?_⟩)
  refine dI [true] Z (by kernel_rfl) (dN aLt Z Z M8 (aEd _ a ha) (fun w9 M9 => ?_))
  refine aB (aC ⟨dJ, ?_⟩)
  refine dI [] Z (by kernel_rfl) (bG 2 _ oW M9 Z Z Z Z Z (aS Z) Z (fun w10 M10 => ?_))
  refine aB (aC ⟨dJ, ?_⟩)
  refine dI [] Z (by kernel_rfl) (bG 3 _ oW M10 Z Z Z Z Z (aS Z) Z (fun w11 M11 => ?_))
  refine aB (aC ⟨dJ, ?_⟩)
  refine bS (aC (aO (aWc 2 3 oW M11 Z Z Z Z Z Z ?_)))
  exact ⟨by unfold loB hiB;first | rw [if_pos (by omega),if_pos (by omega)] | rw [if_neg (by omega),if_neg (by omega)],M11.below⟩
 ·refine aM (aC (aE (fW [(0,1),(2,1),(1,2),(3,2),(4,2),(5,2)] mixed M4 Z (by kernel_rfl) (fun w12 M12=>(bP Z Z Z (aX 0 bQ M12 Z Z Z) (bP Z Z Z (aX 1 bQ M12 Z Z Z) (dI [false,true] Z (by kernel_rfl) (dN aLt Z Z M12 (aEd _ a ha) (fun w13 M13 => ?_)))))))))
  refine aB (aC ⟨(dS (bI Z (aX 1 bQ M13 Z Z Z)) dJ), ?_⟩)
  refine dI [true] Z (by kernel_rfl) (dN aLt Z Z M13 (aEd _ b hb) (fun w14 M14 => ?_))
  refine aB (aC ⟨dJ, ?_⟩)
  refine dI [] Z (by kernel_rfl) (bG 2 _ oW M14 Z Z Z Z Z (aS Z) Z (fun w15 M15 => ?_))
  refine aB (aC ⟨dJ, ?_⟩)
  refine dI [] Z (by kernel_rfl) (bG 3 _ oW M15 Z Z Z Z Z (aS Z) Z (fun w16 M16 => ?_))
  refine aB (aC ⟨dJ, ?_⟩)
  refine bS (aC (aO (aWc 2 3 oW M16 Z Z Z Z Z Z ?_)))
  exact ⟨by unfold loB hiB;first | rw [if_pos (by omega),if_pos (by omega)] | rw [if_neg (by omega),if_neg (by omega)],M16.below⟩
theorem bKi (w:World) (a b:Body) (ha:Okb a) (hb:Okb b) :
  Calls prog 190 #[(.agg (qJ a).toArray),(.agg (qJ b).toArray)] w (Rb w (.tuple #[.int .i64 (rH (pK a b)),.int .i64 (sO (pK a b)),.int .i64 (a.radius+b.radius)])):=by
 have hra:=ha.r
 have hrb:=hb.r
 have hch:=aAp ha hb
 refine aI #[.tmp 4,.tmp 5,.tmp 6] 38 func190 Z results190 ntmps190 Z ?_
 have M0:=Mem.refl w
 refine aE (aA (bN (.agg (.mk _)) M0 Z Z Z (fun b1 w1 M1=>(bN (.agg (.mk _)) M1 Z Z Z (fun b2 w2 M2=>(bK Z Z (bK Z Z (bK Z Z (aB (aC (aE (aA (wq (aD 10 aPk Z) Z (wq (qZ 0 _ bO M2 Z Z Z Z) Z (wq (aD 12 aPl Z) Z (wq (qZ 0 _ bO M2 Z Z Z Z) Z (wq (aD 10 aPk Z) Z (wq (qZ 1 _ bO M2 Z Z Z Z) Z (wq (aD 12 aPl Z) Z (wq (qZ 1 _ bO M2 Z Z Z Z) Z (dN bQq Z Z M2 (aUk _ (aAt a) (aAu a) (aAt b) (aAu b) (qQ ha) (qQ hb)) (fun w3 M3 => ?_))))))))))))))))))))))
 refine wq (aH (.tuple (List.toArray _)) Z) Z (wq (bM (.agg (.mk _)) Z Z) Z (wq (bM (.agg (.mk _)) Z Z) Z (aR iY M3 Z Z (fun b4 w4 M4=>(aR iY M4 Z Z (fun b5 w5 M5=>(bG 2 _ bO M5 Z Z Z Z Z (aS Z) Z (fun w6 M6=>(bG 3 _ bO M6 Z Z Z Z Z (aS Z) Z (fun w7 M7=>(aB (aC (aE (aA (wq (aX 2 bO M7 Z Z Z) Z (wq (aX 3 bO M7 Z Z Z) Z (dN aEr Z Z M7 (uY _ (pK a b).1 (pK a b).2.1 hch.a.i32 hch.b.i32) (fun w8 M8=>(wq (aH (.tuple (List.toArray _)) Z) Z ?_)))))))))))))))))))
 refine wq (bM (.int _ _) Z Z) Z (wq (bM (.int _ _) Z Z) Z (bK Z Z (bK Z Z (aB (aC (aE (fW [(0,0),(1,0),(2,0),(3,0),(4,1),(5,0),(6,0),(7,0),(8,1),(9,0),(10,0),(11,0),(12,0),(13,0)] mixed M8 Z (by kernel_rfl) (fun w9 M9=>(eD Z Z Z (eD Z Z Z (aV Z Z Z (fun _=>aD 0 yZ Z) (aV Z Z Z (fun _=>aD 1 mA Z) (bP Z Z Z (aK 0 (.int _ _) aY M9 Z Z Z) (aV Z Z Z (fun _=>bH dY underlying2 Z (fJ _ (by omega) (by omega))) (aV Z Z Z (fun _=>aD 0 yZ Z) ?_)))))))))))))))
 refine aV Z Z Z (fun _=>aD 1 mA Z) (bP Z Z Z (aK 1 (.int _ _) aY M9 Z Z Z) (aV Z Z Z (fun _=>bH dY underlying2 Z (fJ _ (by omega) (by omega))) (aV Z Z Z (fun _=>bC Z Z (by omega) (by omega)) (mW Z Z Z (mW Z Z Z (mW Z Z Z (bS (aC (aO (bEh (.int _ _) (.int _ _) (.int _ _) Z Z Z ?_))))))))))
 exact ⟨Z,M9.below⟩
theorem aEw (w:World) (a b:Body) (ha:Okb a) (hb:Okb b) :
  Calls prog 169 #[(.agg (aF a).toArray),(.agg (aF b).toArray)] w (Rb w (.tuple #[.agg (aOt (lN a b)).toArray,.bool (lN a b).isSome])):=by
 obtain ⟨hlo,hhi⟩:=bRq ha hb
 have hd:=bDr hlo hhi
 have hl:=xT hd.1 hd.2
 have hss:=bHk hlo hhi
 have hr1:=hlo.r
 have hr2:=hhi.r
 refine aI #[.cell 4 175,.tmp 5] 52 func169 Z results169 ntmps169 Z ?_
 have M0:=Mem.refl w
 refine aE (aA (bN (.agg (.mk _)) M0 Z Z Z (fun b1 w1 M1=>(bN (.agg (.mk _)) M1 Z Z Z (fun b2 w2 M2=>(aR nH M2 Z Z (fun b3 w3 M3=>(wq (aJ (.bool false) Z) Z (aB (aC (aE (aA (wq (aX 0 bQ M3 Z Z Z) Z (wq (aX 1 bQ M3 Z Z Z) Z (dN bQe Z Z M3 (bJw _ a b ha hb) (fun w4 M4=>(wq (aH (.tuple (List.toArray _)) Z) Z (wq (bM (.agg (.mk _)) Z Z) Z (wq (bM (.agg (.mk _)) Z Z) Z (aR aAg M4 Z Z (fun b5 w5 M5=>(aR aAg M5 Z Z (fun b6 w6 M6=>(bG 3 _ oW M6 Z Z Z Z Z (aS Z) Z (fun w7 M7 => ?_)))))))))))))))))))))))))
 refine bG 4 _ oW M7 Z Z Z Z Z (aS Z) Z (fun w8 M8=>(aB (aC (aE (aA (wq (aX 3 oW M8 Z Z Z) Z (wq (aX 4 oW M8 Z Z Z) Z (dN bQf Z Z M8 (bKi _ (loB a b) (hiB a b) hlo hhi) (fun w9 M9=>(wq (aH (.tuple (List.toArray _)) Z) Z (wq (bM (.int _ _) Z Z) Z (wq (bM (.int _ _) Z Z) Z (wq (bM (.int _ _) Z Z) Z (bK Z Z (bK Z Z (bK Z Z (aB (aC (aE (aE (aA (aQ Z Z (aQ Z Z (dN aSa Z Z M9 (tD _ (rH (pK (loB a b) (hiB a b))) (sO (pK (loB a b) (hiB a b))) hd.1 hd.2) (fun w10 M10 => ?_)))))))))))))))))))))))))
 refine aQ Z Z (aQ Z Z (wq (fC Z Z (by omega) (by omega)) Z (wq (dF mV underlying193 Z) Z (aL 31 (.int .u64 ((((loB a b).radius+(hiB a b).radius).natAbs*((loB a b).radius+(hiB a b).radius).natAbs:Nat):Int)) (iE (bLg _ hss)) (cX Z Z Z Z (aB (aC ?_)))))))
 refine aU Z (fun h32 => ?_) (fun h32 => ?_)
 ·refine aE (aA (wq (cB [] _ wE Z Z) Z (bG 2 _ fA M10 Z Z Z Z Z (aS Z) Z (fun w11 M11=>(wq (aJ (.bool false) Z) Z (aB (aC (aO (cO (tH (v2:=.bool false) 2 fA M11 Z Z Z Z ?_))))))))))
  exact ⟨by rw [aOu];unfold kP;first | (rw [if_pos (by omega)];rfl) | (rw [if_neg (by omega)];rfl),M11.below⟩
 ·refine aM (aC (aE (aA (wq (aD 0 yZ Z) Z (wq (aD 0 dT Z) Z (wq (aK 3 (.int _ _) bV M10 Z Z Z) Z (wq (aD 0 yZ Z) Z (wq (aD 0 dT Z) Z (wq (aK 4 (.int _ _) bV M10 Z Z Z) Z (wq (cB [(0,.int _ _),(1,.int _ _)] _ aBt Z Z) Z (aR wK M10 Z Z (fun b12 w12 M12=>(bG 5 _ jU M12 Z Z Z Z Z (aS Z) Z (fun w13 M13=>(aB (aC (aE (fW [(0,1),(1,0),(2,0),(4,0),(5,0),(6,0),(3,2),(7,2),(8,0),(9,0),(10,0),(11,2),(12,0)] mixed M13 Z (by kernel_rfl) (fun w14 M14 => ?_)))))))))))))))))))
  refine bP Z Z Z (aX 5 jU M14 Z Z Z) (eD Z Z Z (eD Z Z Z (eD Z Z Z (eD Z Z Z (eD Z Z Z (dI [false] Z (by kernel_rfl) (dN bQg Z Z M14 (bHs _ (rH (pK (loB a b) (hiB a b))) (sO (pK (loB a b) (hiB a b))) hd.1 hd.2) (fun w15 M15 => ?_))))))))
  refine aB (aC ⟨(dS (bI Z (aX 5 jU M15 Z Z Z)) dJ), ?_⟩)
  refine dI [false] Z (by kernel_rfl) (dN bCt Z Z M15 (aHr _ (rH (pK (loB a b) (hiB a b))) (sO (pK (loB a b) (hiB a b))) hd.1 hd.2) (fun w16 M16 => ?_))
  refine aB (aC ⟨(dS (bI Z (aX 5 jU M16 Z Z Z)) dJ), ?_⟩)
  refine aV Z Z Z (fun _=>gG Z Z (by omega) (by omega)) (aV Z Z Z (fun _=>dF mV underlying21 Z) (aV Z Z Z (fun _=>cB [(0,.agg (List.toArray _)),(1,.agg (List.toArray _)),(2,.int _ _)] _ wE Z Z) (dI [true] Z (by kernel_rfl) (bG 2 _ fA M16 Z Z Z Z Z (aS Z) Z (fun w17 M17 => ?_)))))
  refine aB (aC ⟨dJ, ?_⟩)
  refine aV Z Z Z (fun _=>aJ (.bool true) Z) (bS (aC (aO (tH (v2:=.bool true) 2 fA M17 Z Z Z Z ?_))))
  exact ⟨by rw [aOu];unfold kP;first | (rw [if_pos (by omega)];rfl) | (rw [if_neg (by omega)];rfl),M17.below⟩
end Go.Proofs.YtpcloigancpnbaaGreatDoor
