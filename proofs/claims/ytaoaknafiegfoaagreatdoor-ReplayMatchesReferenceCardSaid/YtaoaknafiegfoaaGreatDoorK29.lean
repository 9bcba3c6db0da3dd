/- Part of the proof of a law of this seat (1 texts). No conditions. -/
import Derived.Test.YtaoaknafiegfoaaGreatDoorK28
set_option linter.unusedVariables false
set_option linter.unusedSimpArgs false
set_option linter.unnecessarySimpa false
set_option maxHeartbeats 100000000
namespace Go.Proofs.YtaoaknafiegfoaaGreatDoor
open Go.Bil
open Go.RowKit (Below)
open Go.Proofs
open Go.Proofs.Tryz
theorem aFx (w:World) (b:Body) (hb:Okb b) :
  Calls prog 237 #[(.agg (aF b).toArray)] w (Rb w ((.agg (rL b).toArray))):=by
 refine aI #[.cell 2 296] 14 func237 Z results237 ntmps237 Z ?_
 have M0:=Mem.refl w
 refine aE (aA (bO (.agg (.mk _)) M0 Z Z Z (fun b1 w1 M1=>(aO aCb M1 Z Z (fun b2 w2 M2=>(aB (aC (aE (aA (wq (aV 0 bR M2 Z Z Z) Z (dM bUe Z Z M2 (bAs _ b hb) (fun w3 M3=>(wq (aH (.tuple (List.toArray _)) Z) Z (wq (bJ (.agg (.mk _)) Z Z) Z (wq (bJ (.agg (.mk _)) Z Z) Z (aO jQ M3 Z Z (fun b4 w4 M4=>(aO jQ M4 Z Z (fun b5 w5 M5=>(bC 2 _ bP M5 Z Z Z Z Z (aP Z) Z (fun w6 M6=>(bC 3 _ bP M6 Z Z Z Z Z (aP Z) Z (fun w7 M7 => ?_)))))))))))))))))))))))
 refine aB (aC (aE (aA (wq (aV 0 bR M7 Z Z Z) Z (wq (aV 2 bP M7 Z Z Z) Z (wq (aV 3 bP M7 Z Z Z) Z (wq (cI [(0,.agg (List.toArray _)),(1,.agg (List.toArray _)),(2,.agg (List.toArray _))] _ bDo Z Z) Z (bC 1 _ qB M7 Z Z Z Z Z (aP Z) Z (fun w8 M8=>(aB (aC (aR (fA 1 qB M8 Z Z Z ?_)))))))))))))
 exact ⟨Z,M8.below⟩
theorem bMs (w:World) (a b:Body) (ha:Okb a) (hb:Okb b) :
  Calls prog 214 #[(.agg (aF a).toArray),(.agg (aF b).toArray)] w (Rb w (.tuple #[(.agg (rL (loB a b)).toArray),(.agg (rL (hiB a b)).toArray)])):=by
 refine aI #[.cell 4 296,.cell 5 296] 17 func214 Z results214 ntmps214 Z ?_
 have M0:=Mem.refl w
 refine aE (aA (bO (.agg (.mk _)) M0 Z Z Z (fun b1 w1 M1=>(bO (.agg (.mk _)) M1 Z Z Z (fun b2 w2 M2=>(aO aCb M2 Z Z (fun b3 w3 M3=>(aO aCb M3 Z Z (fun b4 w4 M4=>(aB (aC (aE (aE (aA (wq (aD 0 dZ Z) Z (wq (aK 0 (.int _ _) bZ M4 Z Z Z) Z (wq (aD 0 dZ Z) Z (wq (aK 1 (.int _ _) bZ M4 Z Z Z) Z (cV Z Z Z Z (aB (aC ?_)))))))))))))))))))))
 refine aW Z (fun h10 => ?_) (fun h10 => ?_)
 ·refine aA (wq (aV 1 bR M4 Z Z Z) Z (wq (aV 0 bR M4 Z Z Z) Z (bC 0 _ bR M4 Z Z Z Z Z (aP Z) Z (fun w5 M5=>(bC 1 _ bR M5 Z Z Z Z Z (aP Z) Z (fun w6 M6=>(aB (aC (aE (gJ [(0,1),(2,1),(1,2),(3,2),(4,2),(5,2)] mixed M6 Z (by kernel_rfl) (fun w7 M7=>(bQ Z Z Z (aV 0 bR M7 Z Z Z) (bQ Z Z Z (aV 1 bR M7 Z Z Z) (dO [false,true] Z (by kernel_rfl) (dM aNl Z Z M7 (aFx _ b hb) (fun w8 M8 => ?_))))))))))))))))
  refine aB (aC ⟨(dS (bH Z (aV 1 bR M8 Z Z Z)) dI), ?_⟩)
  refine dO [true] Z (by kernel_rfl) (dM aNl Z Z M8 (aFx _ a ha) (fun w9 M9 => ?_))
  refine aB (aC ⟨dI, ?_⟩)
  refine dO [] Z (by kernel_rfl) (bC 2 _ qB M9 Z Z Z Z Z (aP Z) Z (fun w10 M10 => ?_))
  refine aB (aC ⟨dI, ?_⟩)
  refine dO [] Z (by kernel_rfl) (bC 3 _ qB M10 Z Z Z Z Z (aP Z) Z (fun w11 M11 => ?_))
  refine aB (aC ⟨dI, ?_⟩)
  refine bS (aC (aR (aYo 2 3 qB M11 Z Z Z Z Z Z ?_)))
  exact ⟨by unfold loB hiB;first | rw [if_pos (by omega),if_pos (by omega)] | rw [if_neg (by omega),if_neg (by omega)],M11.below⟩
 ·refine aM (aC (aE (gJ [(0,1),(2,1),(1,2),(3,2),(4,2),(5,2)] mixed M4 Z (by kernel_rfl) (fun w12 M12=>(bQ Z Z Z (aV 0 bR M12 Z Z Z) (bQ Z Z Z (aV 1 bR M12 Z Z Z) (dO [false,true] Z (by kernel_rfl) (dM aNl Z Z M12 (aFx _ a ha) (fun w13 M13 => ?_)))))))))
  refine aB (aC ⟨(dS (bH Z (aV 1 bR M13 Z Z Z)) dI), ?_⟩)
  refine dO [true] Z (by kernel_rfl) (dM aNl Z Z M13 (aFx _ b hb) (fun w14 M14 => ?_))
  refine aB (aC ⟨dI, ?_⟩)
  refine dO [] Z (by kernel_rfl) (bC 2 _ qB M14 Z Z Z Z Z (aP Z) Z (fun w15 M15 => ?_))
  refine aB (aC ⟨dI, ?_⟩)
  refine dO [] Z (by kernel_rfl) (bC 3 _ qB M15 Z Z Z Z Z (aP Z) Z (fun w16 M16 => ?_))
  refine aB (aC ⟨dI, ?_⟩)
  refine bS (aC (aR (aYo 2 3 qB M16 Z Z Z Z Z Z ?_)))
  exact ⟨by unfold loB hiB;first | rw [if_pos (by omega),if_pos (by omega)] | rw [if_neg (by omega),if_neg (by omega)],M16.below⟩
theorem bNe (w:World) (a b:Body) (ha:Okb a) (hb:Okb b) :
  Calls prog 215 #[(.agg (rL a).toArray),(.agg (rL b).toArray)] w (Rb w (.tuple #[.int .i64 (sT (qK a b)),.int .i64 (uH (qK a b)),.int .i64 (a.radius+b.radius)])):=by
 have hra:=ha.r
 have hrb:=hb.r
 have hch:=aCj ha hb
 refine aI #[.tmp 4,.tmp 5,.tmp 6] 38 func215 Z results215 ntmps215 Z ?_
 have M0:=Mem.refl w
 refine aE (aA (bO (.agg (.mk _)) M0 Z Z Z (fun b1 w1 M1=>(bO (.agg (.mk _)) M1 Z Z Z (fun b2 w2 M2=>(bL Z Z (bL Z Z (bL Z Z (aB (aC (aE (aA (wq (aD 10 aRn Z) Z (wq (sJ 0 _ bP M2 Z Z Z Z) Z (wq (aD 12 aRo Z) Z (wq (sJ 0 _ bP M2 Z Z Z Z) Z (wq (aD 10 aRn Z) Z (wq (sJ 1 _ bP M2 Z Z Z Z) Z (wq (aD 12 aRo Z) Z (wq (sJ 1 _ bP M2 Z Z Z Z) Z (dM bTw Z Z M2 (aXc _ (aCn a) (aCo a) (aCn b) (aCo b) (rW ha) (rW hb)) (fun w3 M3 => ?_))))))))))))))))))))))
 refine wq (aH (.tuple (List.toArray _)) Z) Z (wq (bJ (.agg (.mk _)) Z Z) Z (wq (bJ (.agg (.mk _)) Z Z) Z (aO jQ M3 Z Z (fun b4 w4 M4=>(aO jQ M4 Z Z (fun b5 w5 M5=>(bC 2 _ bP M5 Z Z Z Z Z (aP Z) Z (fun w6 M6=>(bC 3 _ bP M6 Z Z Z Z Z (aP Z) Z (fun w7 M7=>(aB (aC (aE (aA (wq (aV 2 bP M7 Z Z Z) Z (wq (aV 3 bP M7 Z Z Z) Z (dM aGm Z Z M7 (wS _ (qK a b).1 (qK a b).2.1 hch.a.i32 hch.b.i32) (fun w8 M8=>(wq (aH (.tuple (List.toArray _)) Z) Z ?_)))))))))))))))))))
 refine wq (bJ (.int _ _) Z Z) Z (wq (bJ (.int _ _) Z Z) Z (bL Z Z (bL Z Z (aB (aC (aE (gJ [(0,0),(1,0),(2,0),(3,0),(4,1),(5,0),(6,0),(7,0),(8,1),(9,0),(10,0),(11,0),(12,0),(13,0)] mixed M8 Z (by kernel_rfl) (fun w9 M9=>(eG Z Z Z (eG Z Z Z (aX Z Z Z (fun _=>aD 0 aAu Z) (aX Z Z Z (fun _=>aD 1 mU Z) (bQ Z Z Z (aK 0 (.int _ _) bB M9 Z Z Z) (aX Z Z Z (fun _=>bK eF underlying2 Z (fU _ (by omega) (by omega))) (aX Z Z Z (fun _=>aD 0 aAu Z) ?_)))))))))))))))
 refine aX Z Z Z (fun _=>aD 1 mU Z) (bQ Z Z Z (aK 1 (.int _ _) bB M9 Z Z Z) (aX Z Z Z (fun _=>bK eF underlying2 Z (fU _ (by omega) (by omega))) (aX Z Z Z (fun _=>bE Z Z (by omega) (by omega)) (nV Z Z Z (nV Z Z Z (nV Z Z Z (bS (aC (aR (bHc (.int _ _) (.int _ _) (.int _ _) Z Z Z ?_))))))))))
 exact ⟨Z,M9.below⟩
theorem aGs (w:World) (a b:Body) (ha:Okb a) (hb:Okb b) :
  Calls prog 185 #[(.agg (aF a).toArray),(.agg (aF b).toArray)] w (Rb w (.tuple #[.agg (aQu (mH a b)).toArray,.bool (mH a b).isSome])):=by
 obtain ⟨hlo,hhi⟩:=bUw ha hb
 have hd:=bGl hlo hhi
 have hl:=zN hd.1 hd.2
 have hss:=bKi hlo hhi
 have hr1:=hlo.r
 have hr2:=hhi.r
 refine aI #[.cell 4 211,.tmp 5] 52 func185 Z results185 ntmps185 Z ?_
 have M0:=Mem.refl w
 refine aE (aA (bO (.agg (.mk _)) M0 Z Z Z (fun b1 w1 M1=>(bO (.agg (.mk _)) M1 Z Z Z (fun b2 w2 M2=>(aO oK M2 Z Z (fun b3 w3 M3=>(wq (aJ (.bool false) Z) Z (aB (aC (aE (aA (wq (aV 0 bR M3 Z Z Z) Z (wq (aV 1 bR M3 Z Z Z) Z (dM bTk Z Z M3 (bMs _ a b ha hb) (fun w4 M4=>(wq (aH (.tuple (List.toArray _)) Z) Z (wq (bJ (.agg (.mk _)) Z Z) Z (wq (bJ (.agg (.mk _)) Z Z) Z (aO aCb M4 Z Z (fun b5 w5 M5=>(aO aCb M5 Z Z (fun b6 w6 M6=>(bC 3 _ qB M6 Z Z Z Z Z (aP Z) Z (fun w7 M7 => ?_)))))))))))))))))))))))))
 refine bC 4 _ qB M7 Z Z Z Z Z (aP Z) Z (fun w8 M8=>(aB (aC (aE (aA (wq (aV 3 qB M8 Z Z Z) Z (wq (aV 4 qB M8 Z Z Z) Z (dM bTl Z Z M8 (bNe _ (loB a b) (hiB a b) hlo hhi) (fun w9 M9=>(wq (aH (.tuple (List.toArray _)) Z) Z (wq (bJ (.int _ _) Z Z) Z (wq (bJ (.int _ _) Z Z) Z (wq (bJ (.int _ _) Z Z) Z (bL Z Z (bL Z Z (bL Z Z (aB (aC (aE (aE (aA (aT Z Z (aT Z Z (dM aUp Z Z M9 (uX _ (sT (qK (loB a b) (hiB a b))) (uH (qK (loB a b) (hiB a b))) hd.1 hd.2) (fun w10 M10 => ?_)))))))))))))))))))))))))
 refine aT Z Z (aT Z Z (wq (fO Z Z (by omega) (by omega)) Z (wq (dL nU underlying237 Z) Z (aL 31 (.int .u64 ((((loB a b).radius+(hiB a b).radius).natAbs*((loB a b).radius+(hiB a b).radius).natAbs:Nat):Int)) (iE (bOd _ hss)) (cV Z Z Z Z (aB (aC ?_)))))))
 refine aW Z (fun h32 => ?_) (fun h32 => ?_)
 ·refine aE (aA (wq (cI [] _ xW Z Z) Z (bC 2 _ fL M10 Z Z Z Z Z (aP Z) Z (fun w11 M11=>(wq (aJ (.bool false) Z) Z (aB (aC (aR (cK (vB (v2:=.bool false) 2 fL M11 Z Z Z Z ?_))))))))))
  exact ⟨by rw [aQv];unfold lL;first | (rw [if_pos (by omega)];rfl) | (rw [if_neg (by omega)];rfl),M11.below⟩
 ·refine aM (aC (aE (aA (wq (aD 0 aAu Z) Z (wq (aD 0 dZ Z) Z (wq (aK 3 (.int _ _) bZ M10 Z Z Z) Z (wq (aD 0 aAu Z) Z (wq (aD 0 dZ Z) Z (wq (aK 4 (.int _ _) bZ M10 Z Z Z) Z (wq (cI [(0,.int _ _),(1,.int _ _)] _ aDn Z Z) Z (aO yD M10 Z Z (fun b12 w12 M12=>(bC 5 _ kR M12 Z Z Z Z Z (aP Z) Z (fun w13 M13=>(aB (aC (aE (gJ [(0,1),(1,0),(2,0),(4,0),(5,0),(6,0),(3,2),(7,2),(8,0),(9,0),(10,0),(11,2),(12,0)] mixed M13 Z (by kernel_rfl) (fun w14 M14 => ?_)))))))))))))))))))
  refine bQ Z Z Z (aV 5 kR M14 Z Z Z) (eG Z Z Z (eG Z Z Z (eG Z Z Z (eG Z Z Z (eG Z Z Z (dO [false] Z (by kernel_rfl) (dM bTm Z Z M14 (bKq _ (sT (qK (loB a b) (hiB a b))) (uH (qK (loB a b) (hiB a b))) hd.1 hd.2) (fun w15 M15 => ?_))))))))
  refine aB (aC ⟨(dS (bH Z (aV 5 kR M15 Z Z Z)) dI), ?_⟩)
  refine dO [false] Z (by kernel_rfl) (dM bFm Z Z M15 (aJg _ (sT (qK (loB a b) (hiB a b))) (uH (qK (loB a b) (hiB a b))) hd.1 hd.2) (fun w16 M16 => ?_))
  refine aB (aC ⟨(dS (bH Z (aV 5 kR M16 Z Z Z)) dI), ?_⟩)
  refine aX Z Z Z (fun _=>gX Z Z (by omega) (by omega)) (aX Z Z Z (fun _=>dL nU underlying21 Z) (aX Z Z Z (fun _=>cI [(0,.agg (List.toArray _)),(1,.agg (List.toArray _)),(2,.int _ _)] _ xW Z Z) (dO [true] Z (by kernel_rfl) (bC 2 _ fL M16 Z Z Z Z Z (aP Z) Z (fun w17 M17 => ?_)))))
  refine aB (aC ⟨dI, ?_⟩)
  refine aX Z Z Z (fun _=>aJ (.bool true) Z) (bS (aC (aR (vB (v2:=.bool true) 2 fL M17 Z Z Z Z ?_))))
  exact ⟨by rw [aQv];unfold lL;first | (rw [if_pos (by omega)];rfl) | (rw [if_neg (by omega)];rfl),M17.below⟩
end Go.Proofs.YtaoaknafiegfoaaGreatDoor
