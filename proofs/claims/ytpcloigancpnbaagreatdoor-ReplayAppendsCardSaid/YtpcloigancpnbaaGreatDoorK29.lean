/- Part of the proof of a law of this seat (1 texts). No conditions. -/
import Derived.Test.YtpcloigancpnbaaGreatDoorK28
set_option linter.unusedVariables false
set_option linter.unusedSimpArgs false
set_option linter.unnecessarySimpa false
set_option maxHeartbeats 100000000
namespace Go.Proofs.YtpcloigancpnbaaGreatDoor
open Go.Bil
open Go.RowKit (Below)
open Go.Proofs
open Go.Proofs.Tryz
theorem aEh (w:World) (b:Body) (hb:Okb b) :
  Calls prog 214 #[(.agg (aF b).toArray)] w (Rb w ((.agg (qN b).toArray))):=by
 refine aI #[.cell 2 284] 14 func214 Z results214 ntmps214 Z ?_
 have M0:=Mem.refl w
 refine aE (aA (bN (.agg (.mk _)) M0 Z Z Z (fun b1 w1 M1=>(aQ aAm M1 Z Z (fun b2 w2 M2=>(aB (aC (aE (aA (wq (aU 0 bR M2 Z Z Z) Z (dO bRq Z Z M2 (aYm _ b hb) (fun w3 M3=>(wq (aH (.tuple (List.toArray _)) Z) Z (wq (bM (.agg (.mk _)) Z Z) Z (wq (bM (.agg (.mk _)) Z Z) Z (aQ jD M3 Z Z (fun b4 w4 M4=>(aQ jD M4 Z Z (fun b5 w5 M5=>(bB 2 _ bO M5 Z Z Z Z Z (aO Z) Z (fun w6 M6=>(bB 3 _ bO M6 Z Z Z Z Z (aO Z) Z (fun w7 M7 => ?_)))))))))))))))))))))))
 refine aB (aC (aE (aA (wq (aU 0 bR M7 Z Z Z) Z (wq (aU 2 bO M7 Z Z Z) Z (wq (aU 3 bO M7 Z Z Z) Z (wq (cD [(0,.agg (List.toArray _)),(1,.agg (List.toArray _)),(2,.agg (List.toArray _))] _ bBi Z Z) Z (bB 1 _ pF M7 Z Z Z Z Z (aO Z) Z (fun w8 M8=>(aB (aC (aP (eS 1 pF M8 Z Z Z ?_)))))))))))))
 exact ⟨Z,M8.below⟩
theorem bKl (w:World) (a b:Body) (ha:Okb a) (hb:Okb b) :
  Calls prog 189 #[(.agg (aF a).toArray),(.agg (aF b).toArray)] w (Rb w (.tuple #[(.agg (qN (loB a b)).toArray),(.agg (qN (hiB a b)).toArray)])):=by
 refine aI #[.cell 4 284,.cell 5 284] 17 func189 Z results189 ntmps189 Z ?_
 have M0:=Mem.refl w
 refine aE (aA (bN (.agg (.mk _)) M0 Z Z Z (fun b1 w1 M1=>(bN (.agg (.mk _)) M1 Z Z Z (fun b2 w2 M2=>(aQ aAm M2 Z Z (fun b3 w3 M3=>(aQ aAm M3 Z Z (fun b4 w4 M4=>(aB (aC (aE (aE (aA (wq (aD 0 dV Z) Z (wq (aK 0 (.int _ _) bV M4 Z Z Z) Z (wq (aD 0 dV Z) Z (wq (aK 1 (.int _ _) bV M4 Z Z Z) Z (cY Z Z Z Z (aB (aC ?_)))))))))))))))))))))
 refine aW Z (fun h10 => ?_) (fun h10 => ?_)
 ·refine aA (wq (aU 1 bR M4 Z Z Z) Z (wq (aU 0 bR M4 Z Z Z) Z (bB 0 _ bR M4 Z Z Z Z Z (aO Z) Z (fun w5 M5=>(bB 1 _ bR M5 Z Z Z Z Z (aO Z) Z (fun w6 M6=>(aB (aC (aE (fY [(0,1),(2,1),(1,2),(3,2),(4,2),(5,2)] mixed M6 Z (by kernel_rfl) (fun w7 M7=>(bP Z Z Z (aU 0 bR M7 Z Z Z) (bP Z Z Z (aU 1 bR M7 Z Z Z) (dL [false,true] Z (by kernel_rfl) (dO aLt Z Z M7 (aEh _ b hb) (fun w8 M8 => ?_))))))))))))))))
  refine aB (aC ⟨(dQ (bC Z (aU 1 bR M8 Z Z Z)) dG), ?_⟩)
  refine dL [true] Z (by kernel_rfl) (dO aLt Z Z M8 (aEh _ a ha) (fun w9 M9 => ?_))
  refine aB (aC ⟨dG, ?_⟩)
  refine dL [] Z (by kernel_rfl) (bB 2 _ pF M9 Z Z Z Z Z (aO Z) Z (fun w10 M10 => ?_))
  refine aB (aC ⟨dG, ?_⟩)
  refine dL [] Z (by kernel_rfl) (bB 3 _ pF M10 Z Z Z Z Z (aO Z) Z (fun w11 M11 => ?_))
  refine aB (aC ⟨dG, ?_⟩)
  refine bS (aC (aP (aWj 2 3 pF M11 Z Z Z Z Z Z ?_)))
  exact ⟨by unfold loB hiB;first | rw [if_pos (by omega),if_pos (by omega)] | rw [if_neg (by omega),if_neg (by omega)],M11.below⟩
 ·refine aM (aC (aE (fY [(0,1),(2,1),(1,2),(3,2),(4,2),(5,2)] mixed M4 Z (by kernel_rfl) (fun w12 M12=>(bP Z Z Z (aU 0 bR M12 Z Z Z) (bP Z Z Z (aU 1 bR M12 Z Z Z) (dL [false,true] Z (by kernel_rfl) (dO aLt Z Z M12 (aEh _ a ha) (fun w13 M13 => ?_)))))))))
  refine aB (aC ⟨(dQ (bC Z (aU 1 bR M13 Z Z Z)) dG), ?_⟩)
  refine dL [true] Z (by kernel_rfl) (dO aLt Z Z M13 (aEh _ b hb) (fun w14 M14 => ?_))
  refine aB (aC ⟨dG, ?_⟩)
  refine dL [] Z (by kernel_rfl) (bB 2 _ pF M14 Z Z Z Z Z (aO Z) Z (fun w15 M15 => ?_))
  refine aB (aC ⟨dG, ?_⟩)
  refine dL [] Z (by kernel_rfl) (bB 3 _ pF M15 Z Z Z Z Z (aO Z) Z (fun w16 M16 => ?_))
  refine aB (aC ⟨dG, ?_⟩)
  refine bS (aC (aP (aWj 2 3 pF M16 Z Z Z Z Z Z ?_)))
  exact ⟨by unfold loB hiB;first | rw [if_pos (by omega),if_pos (by omega)] | rw [if_neg (by omega),if_neg (by omega)],M16.below⟩
theorem bKx (w:World) (a b:Body) (ha:Okb a) (hb:Okb b) :
  Calls prog 190 #[(.agg (qN a).toArray),(.agg (qN b).toArray)] w (Rb w (.tuple #[.int .i64 (rO (pS a b)),.int .i64 (sW (pS a b)),.int .i64 (a.radius+b.radius)])):=by
 have hra:=ha.r
 have hrb:=hb.r
 have hch:=aAv ha hb
 refine aI #[.tmp 4,.tmp 5,.tmp 6] 38 func190 Z results190 ntmps190 Z ?_
 have M0:=Mem.refl w
 refine aE (aA (bN (.agg (.mk _)) M0 Z Z Z (fun b1 w1 M1=>(bN (.agg (.mk _)) M1 Z Z Z (fun b2 w2 M2=>(bJ Z Z (bJ Z Z (bJ Z Z (aB (aC (aE (aA (wq (aD 10 aPo Z) Z (wq (rG 0 _ bO M2 Z Z Z Z) Z (wq (aD 12 aPp Z) Z (wq (rG 0 _ bO M2 Z Z Z Z) Z (wq (aD 10 aPo Z) Z (wq (rG 1 _ bO M2 Z Z Z Z) Z (wq (aD 12 aPp Z) Z (wq (rG 1 _ bO M2 Z Z Z Z) Z (dO bRh Z Z M2 (aUt _ (aAz a) (aBa a) (aAz b) (aBa b) (qV ha) (qV hb)) (fun w3 M3 => ?_))))))))))))))))))))))
 refine wq (aH (.tuple (List.toArray _)) Z) Z (wq (bM (.agg (.mk _)) Z Z) Z (wq (bM (.agg (.mk _)) Z Z) Z (aQ jD M3 Z Z (fun b4 w4 M4=>(aQ jD M4 Z Z (fun b5 w5 M5=>(bB 2 _ bO M5 Z Z Z Z Z (aO Z) Z (fun w6 M6=>(bB 3 _ bO M6 Z Z Z Z Z (aO Z) Z (fun w7 M7=>(aB (aC (aE (aA (wq (aU 2 bO M7 Z Z Z) Z (wq (aU 3 bO M7 Z Z Z) Z (dO aEw Z Z M7 (vB _ (pS a b).1 (pS a b).2.1 hch.a.i32 hch.b.i32) (fun w8 M8=>(wq (aH (.tuple (List.toArray _)) Z) Z ?_)))))))))))))))))))
 refine wq (bM (.int _ _) Z Z) Z (wq (bM (.int _ _) Z Z) Z (bJ Z Z (bJ Z Z (aB (aC (aE (fY [(0,0),(1,0),(2,0),(3,0),(4,1),(5,0),(6,0),(7,0),(8,1),(9,0),(10,0),(11,0),(12,0),(13,0)] mixed M8 Z (by kernel_rfl) (fun w9 M9=>(eD Z Z Z (eD Z Z Z (aX Z Z Z (fun _=>aD 0 zE Z) (aX Z Z Z (fun _=>aD 1 mI Z) (bP Z Z Z (aK 0 (.int _ _) aY M9 Z Z Z) (aX Z Z Z (fun _=>bG dZ underlying2 Z (fL _ (by omega) (by omega))) (aX Z Z Z (fun _=>aD 0 zE Z) ?_)))))))))))))))
 refine aX Z Z Z (fun _=>aD 1 mI Z) (bP Z Z Z (aK 1 (.int _ _) aY M9 Z Z Z) (aX Z Z Z (fun _=>bG dZ underlying2 Z (fL _ (by omega) (by omega))) (aX Z Z Z (fun _=>bA Z Z (by omega) (by omega)) (nF Z Z Z (nF Z Z Z (nF Z Z Z (bS (aC (aP (bEu (.int _ _) (.int _ _) (.int _ _) Z Z Z ?_))))))))))
 exact ⟨Z,M9.below⟩
theorem aFb (w:World) (a b:Body) (ha:Okb a) (hb:Okb b) :
  Calls prog 169 #[(.agg (aF a).toArray),(.agg (aF b).toArray)] w (Rb w (.tuple #[.agg (aOw (lQ a b)).toArray,.bool (lQ a b).isSome])):=by
 obtain ⟨hlo,hhi⟩:=bSi ha hb
 have hd:=bEe hlo hhi
 have hl:=xV hd.1 hd.2
 have hss:=bHy hlo hhi
 have hr1:=hlo.r
 have hr2:=hhi.r
 refine aI #[.cell 4 175,.tmp 5] 52 func169 Z results169 ntmps169 Z ?_
 have M0:=Mem.refl w
 refine aE (aA (bN (.agg (.mk _)) M0 Z Z Z (fun b1 w1 M1=>(bN (.agg (.mk _)) M1 Z Z Z (fun b2 w2 M2=>(aQ nQ M2 Z Z (fun b3 w3 M3=>(wq (aJ (.bool false) Z) Z (aB (aC (aE (aA (wq (aU 0 bR M3 Z Z Z) Z (wq (aU 1 bR M3 Z Z Z) Z (dO bQv Z Z M3 (bKl _ a b ha hb) (fun w4 M4=>(wq (aH (.tuple (List.toArray _)) Z) Z (wq (bM (.agg (.mk _)) Z Z) Z (wq (bM (.agg (.mk _)) Z Z) Z (aQ aAm M4 Z Z (fun b5 w5 M5=>(aQ aAm M5 Z Z (fun b6 w6 M6=>(bB 3 _ pF M6 Z Z Z Z Z (aO Z) Z (fun w7 M7 => ?_)))))))))))))))))))))))))
 refine bB 4 _ pF M7 Z Z Z Z Z (aO Z) Z (fun w8 M8=>(aB (aC (aE (aA (wq (aU 3 pF M8 Z Z Z) Z (wq (aU 4 pF M8 Z Z Z) Z (dO bQw Z Z M8 (bKx _ (loB a b) (hiB a b) hlo hhi) (fun w9 M9=>(wq (aH (.tuple (List.toArray _)) Z) Z (wq (bM (.int _ _) Z Z) Z (wq (bM (.int _ _) Z Z) Z (wq (bM (.int _ _) Z Z) Z (bJ Z Z (bJ Z Z (bJ Z Z (aB (aC (aE (aE (aA (aR Z Z (aR Z Z (dO aSh Z Z M9 (tL _ (rO (pS (loB a b) (hiB a b))) (sW (pS (loB a b) (hiB a b))) hd.1 hd.2) (fun w10 M10 => ?_)))))))))))))))))))))))))
 refine aR Z Z (aR Z Z (wq (fF Z Z (by omega) (by omega)) Z (wq (dF nE underlying193 Z) Z (aL 31 (.int .u64 ((((loB a b).radius+(hiB a b).radius).natAbs*((loB a b).radius+(hiB a b).radius).natAbs:Nat):Int)) (iE (bLv _ hss)) (cY Z Z Z Z (aB (aC ?_)))))))
 refine aW Z (fun h32 => ?_) (fun h32 => ?_)
 ·refine aE (aA (wq (cD [] _ wG Z Z) Z (bB 2 _ fC M10 Z Z Z Z Z (aO Z) Z (fun w11 M11=>(wq (aJ (.bool false) Z) Z (aB (aC (aP (cN (tO (v2:=.bool false) 2 fC M11 Z Z Z Z ?_))))))))))
  exact ⟨by rw [aOx];unfold kV;first | (rw [if_pos (by omega)];rfl) | (rw [if_neg (by omega)];rfl),M11.below⟩
 ·refine aM (aC (aE (aA (wq (aD 0 zE Z) Z (wq (aD 0 dV Z) Z (wq (aK 3 (.int _ _) bV M10 Z Z Z) Z (wq (aD 0 zE Z) Z (wq (aD 0 dV Z) Z (wq (aK 4 (.int _ _) bV M10 Z Z Z) Z (wq (cD [(0,.int _ _),(1,.int _ _)] _ aBy Z Z) Z (aQ wM M10 Z Z (fun b12 w12 M12=>(bB 5 _ kC M12 Z Z Z Z Z (aO Z) Z (fun w13 M13=>(aB (aC (aE (fY [(0,1),(1,0),(2,0),(4,0),(5,0),(6,0),(3,2),(7,2),(8,0),(9,0),(10,0),(11,2),(12,0)] mixed M13 Z (by kernel_rfl) (fun w14 M14 => ?_)))))))))))))))))))
  refine bP Z Z Z (aU 5 kC M14 Z Z Z) (eD Z Z Z (eD Z Z Z (eD Z Z Z (eD Z Z Z (eD Z Z Z (dL [false] Z (by kernel_rfl) (dO bQx Z Z M14 (bIg _ (rO (pS (loB a b) (hiB a b))) (sW (pS (loB a b) (hiB a b))) hd.1 hd.2) (fun w15 M15 => ?_))))))))
  refine aB (aC ⟨(dQ (bC Z (aU 5 kC M15 Z Z Z)) dG), ?_⟩)
  refine dL [false] Z (by kernel_rfl) (dO bDg Z Z M15 (aHr _ (rO (pS (loB a b) (hiB a b))) (sW (pS (loB a b) (hiB a b))) hd.1 hd.2) (fun w16 M16 => ?_))
  refine aB (aC ⟨(dQ (bC Z (aU 5 kC M16 Z Z Z)) dG), ?_⟩)
  refine aX Z Z Z (fun _=>gJ Z Z (by omega) (by omega)) (aX Z Z Z (fun _=>dF nE underlying21 Z) (aX Z Z Z (fun _=>cD [(0,.agg (List.toArray _)),(1,.agg (List.toArray _)),(2,.int _ _)] _ wG Z Z) (dL [true] Z (by kernel_rfl) (bB 2 _ fC M16 Z Z Z Z Z (aO Z) Z (fun w17 M17 => ?_)))))
  refine aB (aC ⟨dG, ?_⟩)
  refine aX Z Z Z (fun _=>aJ (.bool true) Z) (bS (aC (aP (tO (v2:=.bool true) 2 fC M17 Z Z Z Z ?_))))
  exact ⟨by rw [aOx];unfold kV;first | (rw [if_pos (by omega)];rfl) | (rw [if_neg (by omega)];rfl),M17.below⟩
end Go.Proofs.YtpcloigancpnbaaGreatDoor
