/- Part of the proof of the laws of this seat: V15, X15, Z5. No conditions. -/
import Derived.Test.YtaoaknafiegfoaaGreatDoorK2
import Derived.Test.YtaoaknafiegfoaaGreatDoorK5
import Derived.Test.YtaoaknafiegfoaaGreatDoorK26
import Derived.Test.YtaoaknafiegfoaaGreatDoorK28
import Derived.Test.YtaoaknafiegfoaaGreatDoorK18
import Derived.Test.YtaoaknafiegfoaaGreatDoorK11
set_option linter.unusedVariables false
set_option linter.unusedSimpArgs false
set_option linter.unnecessarySimpa false
namespace Go.Proofs.YtaoaknafiegfoaaGreatDoor
open Go.Bil
open Go.RowKit (Below)
open Go.Proofs
set_option maxHeartbeats 4000000 in
theorem aSm (w : World) (bl pm : Nat) (f : Int → Option Body) (em : dK) (hme : iL .u32 rS f (some pm) em) (r : Row) (cs : List Con) (hr : aU 211 5 r.A r.n r.c ((cs).map cL) r.e) (hn : r.n ≤ 1099511627776) (z : Int × Int) (a b : Body) (h1 : f z.1 = some a) (h2 : f z.2 = some b) (ha : Okb a) (hb : Okb b) (hO : Own [(some bl, bc [.map (some pm), .slice r.A r.n r.c] 219), em, r.e] w) :
  Calls Tryz.prog 159 #[.pointer (some ⟨bl, 0, none⟩), (.agg (bL z).toArray)] w (fun ex w' => ∃ v, ex = .returned v ∧ (fun v w' => v = .tuple #[] ∧ ∃ q : Row, aU 211 5 q.A q.n q.c ((cs ++ (aDy f z).toList).map cL) q.e ∧ Mem w (bH [(some bl, bc [.map (some pm), .slice r.A r.n r.c] 219), em, r.e]) [(some bl, bc [.map (some pm), .slice q.A q.n q.c] 219), em, q.e] w') v w') := by
 refine aH #[] 35 Tryz.func159 rfl Tryz.results159 Tryz.ntmps159 rfl ?_
 have M0 := hO.mem
 refine aD (aA (bG (.agg (List.toArray _)) M0 rfl rfl rfl (fun b1 w1 M1 => (aB (aC (aD (aTc [(0, 0), (1, 0), (2, 0), (3, 1), (4, 0), (5, 1), (6, 1), (7, 0), (8, 0), (9, 0), (10, 1), (11, 0), (12, 1), (13, 1)] 14 18 [(15, 0), (16, 0), (17, 0), (18, 2), (19, 2), (20, 0)] [(14, 2), (15, 0), (16, 0), (17, 0), (19, 2), (20, 0)] mixed rfl (by kernel_rfl) (fun w2 hb2 hh2 => ?_))))))))
 have M2 := M1.drew hb2 hh2
 refine vE rfl rfl rfl (fun _ => aG (.pointer _) rfl) (vE rfl rfl rfl (fun _ => aN rfl) (vE rfl rfl rfl (fun _ => aE 0 aAi rfl) (aSf rfl rfl rfl (aM 0 (.map _) yQ M2 rfl rfl rfl) (vE rfl rfl rfl (fun _ => aE 0 oK rfl) (aSf rfl rfl rfl (aM 3 (.int _ _) bU M2 rfl rfl rfl) ?_)))))
 refine aSf rfl rfl rfl (jN (enc := rS) aXy 1 aAd bCa M2 rfl hme rfl rfl) (bCi 13 ((.agg (aF a).toArray)) (congrArg rS (by rw [h1]; rfl)) (vE rfl rfl rfl (fun _ => aG (.pointer _) rfl) (vE rfl rfl rfl (fun _ => aN rfl) (vE rfl rfl rfl (fun _ => aE 0 aAi rfl) ?_))))
 refine aSf rfl rfl rfl (aM 0 (.map _) yQ M2 rfl rfl rfl) (vE rfl rfl rfl (fun _ => aE 1 oG rfl) (aSf rfl rfl rfl (aM 3 (.int _ _) bU M2 rfl rfl rfl) (aSf rfl rfl rfl (jN (enc := rS) aXy 1 aAd bCa M2 rfl hme rfl rfl) (bCi 20 ((.agg (aF b).toArray)) (congrArg rS (by rw [h2]; rfl)) ?_))))
 refine aOp ?_ ?_
 ·refine dU [true, true, true, true, true, true] rfl (by kernel_rfl) (bZ aWg rfl rfl (zI _ a b ha hb) ?_)
  rintro v3 w3 ⟨rfl, hb3⟩
  have M3 := M2.callB hb3
  refine aB (aC ⟨dT, ?_⟩)
  refine aY rfl rfl rfl (fun _ => aG (.tuple (List.toArray _)) rfl) (aY rfl rfl rfl (fun _ => bB (.agg (List.toArray _)) rfl rfl) (aY rfl rfl rfl (fun _ => bB (.bool _) rfl rfl) (dU [] rfl (by kernel_rfl) (aP tS M3 rfl rfl (fun b4 w4 M4 => ?_)))))
  refine aB (aC ⟨dT, ?_⟩)
  refine dU [] rfl (by kernel_rfl) (bA 4 _ gR M4 rfl rfl rfl rfl rfl (aQ rfl) rfl (fun w5 M5 => ?_))
  refine aB (aC ⟨dT, ?_⟩)
  refine aY rfl rfl rfl (fun _ => aI (.bool _) rfl) (cB (aC (aD (aA (wq (aG (.bool _) rfl) rfl (aB (aC ?_)))))))
  refine iI _ rfl (fun h24 => ?_) (fun h24 => ?_)
  ·obtain ⟨cc, hcc⟩ := Option.isSome_iff_exists.1 h24
   refine bO [(0, 0), (1, 0), (2, 0), (3, 0), (4, 1), (5, 1), (6, 2), (7, 2), (8, 0), (9, 0), (10, 2)] mixed rfl (by kernel_rfl) (fun w6 hb6 hh6 => ?_)
   have M6 := M5.drew hb6 hh6
   refine aY rfl rfl rfl (fun _ => aG (.pointer _) rfl) (aY rfl rfl rfl (fun _ => aG (.pointer _) rfl) (aY rfl rfl rfl (fun _ => aN rfl) (aY rfl rfl rfl (fun _ => aE 1 qG rfl) (bW rfl rfl rfl (aM 0 (.slice _ _ _) mC M6 rfl rfl rfl) (bW rfl rfl rfl (bC 4 gR M6 rfl rfl rfl) ?_)))))
   refine fN 30 (.agg (cL cc).toArray) (congrArg (fun o => Value.agg (bHa o).toArray) hcc) (dU [true, false] rfl (by kernel_rfl) (cS [.agg (List.toArray _)] [cL cc] rfl aDt M6 rfl rfl rfl rfl (cY rfl) (by decide) (fun b7 w7 M7 => ?_)))
   refine aB (aC ⟨(eL (bQ rfl (aM 0 (.slice _ _ _) mC M7 rfl rfl rfl)) dT), ?_⟩)
   refine dU [true] rfl (by kernel_rfl) (dL 2 [cL cc] aDt M7 rfl rfl rfl rfl rfl hr rfl (by simp [cL, Go.Bil.one]) (cZ.ofMem 5 M7 rfl) (by omega) (fun A8 c8 e8 w8 M8 hR8 => ?_))
   refine aB (aC ⟨dT, ?_⟩)
   refine aY rfl rfl rfl (fun _ => aN rfl) (aY rfl rfl rfl (fun _ => aE 1 qG rfl) (dU [] rfl (by kernel_rfl) (dX 0 (.slice _ _ _) mC M8 rfl rfl rfl rfl rfl rfl (fun w9 M9 => ?_))))
   refine aB (aC ⟨dT, ?_⟩)
   refine cB (jD ?_)
   exact ⟨rfl, ⟨A8, r.n + 1, c8, e8⟩, by rw [rE h1 h2, hcc, List.map_append]; exact hR8, M9.keep [true, true, true, false, false, false]⟩
  ·have hcc : nI a b = none := by simpa using h24
   refine aK (jD ?_)
   exact ⟨rfl, r, by rw [rE h1 h2, hcc]; simpa using hr, M5.keep [true, true, true, false, false]⟩
 ·refine dU [false, false, false, false, false, false] rfl (by kernel_rfl) (aP tS M2 rfl rfl (fun b10 w10 M10 => ?_))
  refine aB (aC ⟨(eL (bQ rfl (jN (enc := rS) aXy 1 aAd bCa M10 rfl hme rfl rfl)) (eL (bQ rfl (aM 3 (.int _ _) bU M10 rfl rfl rfl)) (eL (bQ rfl (aM 0 (.map _) yQ M10 rfl rfl rfl)) (eL (bQ rfl (jN (enc := rS) aXy 1 aAd bCa M10 rfl hme rfl rfl)) (eL (bQ rfl (aM 3 (.int _ _) bU M10 rfl rfl rfl)) (eL (bQ rfl (aM 0 (.map _) yQ M10 rfl rfl rfl)) dT)))))), ?_⟩)
  refine dU [true, true, true, true, true, true] rfl (by kernel_rfl) (bZ aWg rfl rfl (zI _ a b ha hb) ?_)
  rintro v11 w11 ⟨rfl, hb11⟩
  have M11 := M10.callB hb11
  refine aB (aC ⟨dT, ?_⟩)
  refine aY rfl rfl rfl (fun _ => aG (.tuple (List.toArray _)) rfl) (aY rfl rfl rfl (fun _ => bB (.agg (List.toArray _)) rfl rfl) (aY rfl rfl rfl (fun _ => bB (.bool _) rfl rfl) (dU [] rfl (by kernel_rfl) (bA 4 _ gR M11 rfl rfl rfl rfl rfl (aQ rfl) rfl (fun w12 M12 => ?_)))))
  refine aB (aC ⟨dT, ?_⟩)
  refine aY rfl rfl rfl (fun _ => aI (.bool _) rfl) (cB (aC (aD (aA (wq (aG (.bool _) rfl) rfl (aB (aC ?_)))))))
  refine iI _ rfl (fun h24 => ?_) (fun h24 => ?_)
  ·obtain ⟨cc, hcc⟩ := Option.isSome_iff_exists.1 h24
   refine bO [(0, 0), (1, 0), (2, 0), (3, 0), (4, 1), (5, 1), (6, 2), (7, 2), (8, 0), (9, 0), (10, 2)] mixed rfl (by kernel_rfl) (fun w13 hb13 hh13 => ?_)
   have M13 := M12.drew hb13 hh13
   refine aY rfl rfl rfl (fun _ => aG (.pointer _) rfl) (aY rfl rfl rfl (fun _ => aG (.pointer _) rfl) (aY rfl rfl rfl (fun _ => aN rfl) (aY rfl rfl rfl (fun _ => aE 1 qG rfl) (bW rfl rfl rfl (aM 0 (.slice _ _ _) mC M13 rfl rfl rfl) (bW rfl rfl rfl (bC 4 gR M13 rfl rfl rfl) ?_)))))
   refine fN 30 (.agg (cL cc).toArray) (congrArg (fun o => Value.agg (bHa o).toArray) hcc) (dU [true, false] rfl (by kernel_rfl) (cS [.agg (List.toArray _)] [cL cc] rfl aDt M13 rfl rfl rfl rfl (cY rfl) (by decide) (fun b14 w14 M14 => ?_)))
   refine aB (aC ⟨(eL (bQ rfl (aM 0 (.slice _ _ _) mC M14 rfl rfl rfl)) dT), ?_⟩)
   refine dU [true] rfl (by kernel_rfl) (dL 2 [cL cc] aDt M14 rfl rfl rfl rfl rfl hr rfl (by simp [cL, Go.Bil.one]) (cZ.ofMem 5 M14 rfl) (by omega) (fun A15 c15 e15 w15 M15 hR15 => ?_))
   refine aB (aC ⟨dT, ?_⟩)
   refine aY rfl rfl rfl (fun _ => aN rfl) (aY rfl rfl rfl (fun _ => aE 1 qG rfl) (dU [] rfl (by kernel_rfl) (dX 0 (.slice _ _ _) mC M15 rfl rfl rfl rfl rfl rfl (fun w16 M16 => ?_))))
   refine aB (aC ⟨dT, ?_⟩)
   refine cB (jD ?_)
   exact ⟨rfl, ⟨A15, r.n + 1, c15, e15⟩, by rw [rE h1 h2, hcc, List.map_append]; exact hR15, M16.keep [true, true, true, false, false, false]⟩
  ·have hcc : nI a b = none := by simpa using h24
   refine aK (jD ?_)
   exact ⟨rfl, r, by rw [rE h1 h2, hcc]; simpa using hr, M12.keep [true, true, true, false, false]⟩
set_option maxHeartbeats 4000000 in
theorem aBf (w : World) (A : Option Addr) (n c : Nat) (zs : List (Int × Int)) (R : Rd w 2 A n (zs.map bL)) (bl pm : Nat) (f : Int → Option Body) (em : dK) (hme : iL .u32 rS f (some pm) em) (r : Row) (hr : aU 211 5 r.A r.n r.c (([]).map cL) r.e) (hz : ∀ z ∈ zs, ∃ a b, f z.1 = some a ∧ f z.2 = some b ∧ Okb a ∧ Okb b) (hn : n ≤ 1099511627776) (hO : Own [(some bl, bc [.map (some pm), .slice r.A r.n r.c] 219), em, r.e] w) (hdA : 0 < n → ∀ q off, A = some ⟨q, off, none⟩ → q ∉ bH [(some bl, bc [.map (some pm), .slice r.A r.n r.c] 219), em, r.e]) :
  Calls Tryz.prog 158 #[.slice A n c, .func (.func 159) #[.pointer (some ⟨bl, 0, none⟩)] #[]] w (fun ex w' => ∃ v, ex = .returned v ∧ (fun v w' => v = .tuple #[] ∧ ∃ q : Row, aU 211 5 q.A q.n q.c ((zs.filterMap (aDy f)).map cL) q.e ∧ Mem w (bH [(some bl, bc [.map (some pm), .slice r.A r.n r.c] 219), em, r.e]) [(some bl, bc [.map (some pm), .slice q.A q.n q.c] 219), em, q.e] w') v w') := by
 have hlen : zs.length = n := by simpa using R.len
 refine aH #[] 16 Tryz.func158 rfl Tryz.results158 Tryz.ntmps158 rfl ?_
 have M0 := hO.mem
 refine aD (aA (dN rfl rfl (wq (cT Tryz.underlying220 rfl) rfl (aZ rfl rfl (aB (aC (aT (dI (σ := Nat × Row) [1, 6, 7] (fun (k, q) => [(8, .int .i64 (k : Int))]) (fun (k, q) w' => (k ≤ n ∧ aU 211 5 q.A q.n q.c (((zs.take k).filterMap (aDy f)).map cL) q.e) ∧ Mem w (bH [(some bl, bc [.map (some pm), .slice r.A r.n r.c] 219), em, r.e]) [(some bl, bc [.map (some pm), .slice q.A q.n q.c] 219), em, q.e] w') (fun (k, q) => n - k) (0, r) (bM rfl eP) (⟨⟨by omega, hr⟩, M0⟩) ?_))))))))
 rintro ⟨k, q⟩ ρ1 w1 ⟨⟨hk, hq⟩, hM1⟩
 have hfl := List.length_filterMap_le (aDy f) (zs.take k)
 have htl := List.length_take_le k zs
 have hql : ((zs.take k).filterMap (aDy f)).length = q.n := by simpa using hq.1
 refine aD (aA (dB rfl rfl rfl rfl (aB (aC (aD ?_)))))
 refine aX rfl (fun h9 => ?_) (fun h9 => ?_)
 ·obtain ⟨xz, hxz⟩ := cM (k := k) hlen (by omega)
  obtain ⟨za, zb, hza, hzb, hoa, hob⟩ := hz xz (List.mem_of_getElem? hxz)
  refine aK (aC (aD (aT (aD (aA (wq (bR (k) uI rfl rfl rfl ((R.memY hM1 hdA).below_len (aJ bL hxz)) ((R.memY hM1 hdA).someK (aJ bL hxz))) rfl (wq (dJ _ gE (R.memY hM1 hdA) (aJ bL hxz) rfl) rfl (aP qS hM1 rfl rfl (fun b2 w2 M2 => ?_)))))))))
  refine bA 3 _ gE M2 rfl rfl rfl rfl rfl (aQ rfl) rfl (fun w3 M3 => (aB (aC (aA (wq (aG (.func _ _ _) rfl) rfl (wq (bC 3 gE M3 rfl rfl rfl) rfl (bZ bHk rfl rfl (aSm _ bl pm f em hme q _ hq (by omega) xz za zb hza hzb hoa hob (M3.ownSeg 0 3)) ?_)))))))
  rintro v4 w4 ⟨rfl, q2, hq2, hM4⟩
  have M4 : Mem _ _ [_, _, _, _] _ := M3.seg 0 3 hM4
  refine aB (dD (aC (aA (wq (bP rfl rfl (by omega) (by omega)) rfl (aZ rfl rfl (aB ?_))))))
  refine cO (k + 1, q2) (bM rfl eP) (cU rfl (cU rfl (cU rfl jT))) ?_ ?_
  ·exact ⟨⟨by omega, by rw [aZr hxz]; exact hq2⟩, M4.keep [true, true, true, false]⟩
  ·(show n - (k + 1) < n - k; omega)
 ·have hkn : k = n := by omega
  rw [List.take_of_length_le (by omega)] at hq
  refine cR (dC (dA (eZ (jD ?_))))
  exact ⟨rfl, q, hq, hM1⟩
set_option maxHeartbeats 8000000 in
theorem aEo (w : World) (F : Rd w 2 (some ⟨0, 0, none⟩) 1 [[.int .u32 73856093, .int .u32 19349663]]) (N : Rd w 4 (some ⟨3, 0, none⟩) 1 [cX gL]) (A : Option Addr) (n c : Nat) (xs : List Body) (R : Rd w 10 A n (xs.map aF)) (hb : ∀ b ∈ xs, Okb b) (hs : bV xs) (hn : n ≤ 4096) :
  Calls Tryz.prog 144 #[.slice A n c] w (fun ex w' => ∃ v, ex = .returned v ∧ (fun v w' => ∃ (r : Row) (m : Nat), v = .tuple #[.slice r.A r.n r.c, .int .i64 (m : Int)] ∧ (lJ xs).length ≤ m ∧ 2 * m ≤ xs.length * (xs.length - 1) ∧ aU 211 5 r.A r.n r.c ((kJ xs).map cL) r.e ∧ Mem w [] [r.e] w') v w') := by
 have hlen : xs.length = n := by simpa using R.len
 have hbd := R.bound
 refine aH #[.tmp 2, .tmp 3] 39 Tryz.func144 rfl Tryz.results144 Tryz.ntmps144 rfl ?_
 have M0 := Mem.refl w
 refine aD (aA (eG rfl rfl (bI rfl rfl (aB (aC (aD (aA (kE M0 rfl rfl (fun b1 w1 M1 => (wq (cH [(0, .map _)] _ aPg rfl rfl) rfl ?_))))))))))
 refine bG (.agg (List.toArray _)) M1 rfl rfl rfl (fun b2 w2 M2 => (wq (aI (.pointer _) rfl) rfl (aB (aC (aD (aD (aA (dN rfl rfl (wq (cT Tryz.underlying29 rfl) rfl (aZ rfl rfl ?_))))))))))
 refine aB (aC (aT (dI (σ := Nat × dK) [0, 2, 3, 4, 11, 12] (fun (k, em) => [(13, .int .i64 (k : Int))]) (fun (k, em) w' => (k ≤ n ∧ iL .u32 rS (boM (xs.take k)) (some b1) em) ∧ Mem w [] [em, (some b2, bc [.map (some b1), .slice none 0 0] 219)] w') (fun (k, em) => n - k) (0, (some b1, .map #[] 0)) (bM rfl eP) (⟨⟨by omega, (iL.empty _ _ b1).congr (fun q => by rw [List.take_zero]; exact aZm q)⟩, M2⟩) ?_)))
 rintro ⟨k, em⟩ ρ3 w3 ⟨⟨hk, hme⟩, hM3⟩
 refine aD (aA (dB rfl rfl rfl rfl (aB (aC (aD ?_)))))
 refine aX rfl (fun h14 => ?_) (fun h14 => ?_)
 ·obtain ⟨xb, hxb⟩ := cM (k := k) hlen (by omega)
  refine aK (aC (aD (aT (aD (aA (wq (bR (k) dF rfl rfl rfl ((R.mem hM3).below_len (aJ aF hxb)) ((R.mem hM3).someK (aJ aF hxb))) rfl (wq (dJ _ bJ (R.mem hM3) (aJ aF hxb) rfl) rfl (aP gH hM3 rfl rfl (fun b4 w4 M4 => (bA 2 _ bJ M4 rfl rfl rfl rfl rfl (aQ rfl) rfl (fun w5 M5 => ?_)))))))))))
  refine aB (aC (bO [(0, 0), (1, 0), (2, 0), (3, 1), (4, 0), (5, 1), (6, 1), (7, 2)] mixed rfl (by kernel_rfl) (fun w6 hb6 hh6 => ?_)))
  have M6 := M5.drew hb6 hh6
  refine aY rfl rfl rfl (fun _ => aG (.pointer _) rfl) (aY rfl rfl rfl (fun _ => aN rfl) (aY rfl rfl rfl (fun _ => aE 0 aAi rfl) (bW rfl rfl rfl (aM 1 (.map _) yQ M6 rfl rfl rfl) (aY rfl rfl rfl (fun _ => aE 0 dQ rfl) (bW rfl rfl rfl (aM 2 (.int _ _) bU M6 rfl rfl rfl) ?_)))))
  refine bW rfl rfl rfl (bC 2 bJ M6 rfl rfl rfl) (dU [true, true, true] rfl (by kernel_rfl) (iP (enc := rS) 0 aAd M6 rfl rfl hme rfl rfl rfl rfl (fun e7 w7 hm7 M7 => ?_)))
  refine aB (aC ⟨dT, ?_⟩)
  refine cB (dD (aC (aA (wq (bP rfl rfl (by omega) (by omega)) rfl (aZ rfl rfl (aB ?_))))))
  refine cO (k + 1, e7) (bM rfl eP) (cU rfl (cU rfl (cU rfl (cU rfl (cU rfl (cU rfl jT)))))) ?_ ?_
  ·exact ⟨⟨by omega, hm7.congr (fun q => aYl hxb q)⟩, M7.keep [true, true, false]⟩
  ·(show n - (k + 1) < n - k; omega)
 ·have hkn : k = n := by omega
  rw [List.take_of_length_le (by omega)] at hme
  refine cR (dC (dA (eZ (aC (aD (aA (dN rfl rfl ?_)))))))
  refine bZ bHc rfl rfl (aLd _ (F.mem hM3) (N.mem hM3) _ _ _ xs (R.mem hM3) hb hs (by first | decide | omega)) ?_
  rintro v8 w8 ⟨r0, m0, rfl, hfm0, hgm0, hr0, hM8⟩
  have M8 : Mem _ _ [_, _, _] _ := hM3.call0 hM8
  refine wq (aG (.tuple (List.toArray _)) rfl) rfl (wq (bB (.slice _ _ _) rfl rfl) rfl (wq (bB (.int _ _) rfl rfl) rfl (eG rfl rfl (bI rfl rfl (aB (aC (aD (aA ?_))))))))
  refine dN rfl rfl (wq (aG (.pointer _) rfl) rfl (wq (cN [.pointer _] [] rfl rfl) rfl ?_))
  have M9 : Mem _ _ [_, _, _, _] _ := Mem.orderC (M8.dummy default)
  have hfl : (lJ xs).length = r0.n := by simpa using hr0.1
  have hnn : xs.length * (xs.length - 1) ≤ 4096 * 4096 := Nat.mul_le_mul (by omega) (by omega)
  refine bZ bEm rfl rfl (aBf _ r0.A r0.n r0.c (lJ xs) (hr0.rd M9 (aS (i := 0) rfl)) b2 b1 (boM xs) em hme gZ (aU.nil _ _ _) (fun z hz => by obtain ⟨a, b, h1, h2, _, _, h3, h4⟩ := wN hs hz; exact ⟨a, b, h3, h4, hb a h1, hb b h2⟩) (by omega) (M9.ownSeg 1 3) (hr0.apartTail M9)) ?_
  rintro v10 w10 ⟨rfl, q, hq, hM10⟩
  have M10 : Mem _ _ [_, _, _, _] _ := M9.seg 1 3 hM10
  refine aB (aC (aD (aA (wq (aG (.pointer _) rfl) rfl (wq (aN rfl) rfl (wq (aE 1 qG rfl) rfl (wq (aM 1 (.slice _ _ _) mC M10 rfl rfl rfl) rfl (aZ rfl rfl ?_))))))))
  refine eG rfl rfl (bI rfl rfl (aB (aC (aL (fX (.slice _ _ _) (.int _ _) rfl rfl ?_)))))
  exact ⟨q, m0, rfl, hfm0, hgm0, hq, M10.keep [false, false, false, true]⟩
end Go.Proofs.YtaoaknafiegfoaaGreatDoor
