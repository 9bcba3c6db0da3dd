/- Part of the proof of the laws of this seat: V15, X15, Z5. No conditions. -/
import Derived.Test.YtaoaknafiegfoaaGreatDoorK2
import Derived.Test.YtaoaknafiegfoaaGreatDoorK5
import Derived.Test.YtaoaknafiegfoaaGreatDoorK26
import Derived.Test.YtaoaknafiegfoaaGreatDoorK28
import Derived.Test.YtaoaknafiegfoaaGreatDoorK18
import Derived.Test.YtaoaknafiegfoaaGreatDoorK11
set_option linter.unusedVariables false
set_option linter.unusedSimpArgs false
set_option linter.unnecessarySimpa false
namespace Go.Proofs.YtaoaknafiegfoaaGreatDoor
open Go.Bil
open Go.RowKit (Below)
open Go.Proofs
set_option maxHeartbeats 4000000 in
theorem aSe (w : World) (bl pm : Nat) (f : Int → Option Body) (em : dN) (hme : iC .u32 rO f (some pm) em) (r : Row) (cs : List Con) (hr : aW 211 5 r.A r.n r.c ((cs).map cN) r.e) (hn : r.n ≤ 1099511627776) (z : Int × Int) (a b : Body) (h1 : f z.1 = some a) (h2 : f z.2 = some b) (ha : Okb a) (hb : Okb b) (hO : Own [(some bl, bc [.map (some pm), .slice r.A r.n r.c] 219), em, r.e] w) :
  Calls Tryz.prog 159 #[.pointer (some ⟨bl, 0, none⟩), (.agg (bL z).toArray)] w (fun ex w' => ∃ v, ex = .returned v ∧ (fun v w' => v = .tuple #[] ∧ ∃ q : Row, aW 211 5 q.A q.n q.c ((cs ++ (aEs f z).toList).map cN) q.e ∧ Mem w (bH [(some bl, bc [.map (some pm), .slice r.A r.n r.c] 219), em, r.e]) [(some bl, bc [.map (some pm), .slice q.A q.n q.c] 219), em, q.e] w') v w') := by
 refine aH #[] 35 Tryz.func159 rfl Tryz.results159 Tryz.ntmps159 rfl ?_
 have M0 := hO.mem
 refine aD (aA (bG (.agg (List.toArray _)) M0 rfl rfl rfl (fun b1 w1 M1 => (aB (aC (aD (aUt [(0, 0), (1, 0), (2, 0), (3, 1), (4, 0), (5, 1), (6, 1), (7, 0), (8, 0), (9, 0), (10, 1), (11, 0), (12, 1), (13, 1)] 14 18 [(15, 0), (16, 0), (17, 0), (18, 2), (19, 2), (20, 0)] [(14, 2), (15, 0), (16, 0), (17, 0), (19, 2), (20, 0)] mixed rfl (by kernel_rfl) (fun w2 hb2 hh2 => ?_))))))))
 have M2 := M1.drew hb2 hh2
 refine vB rfl rfl rfl (fun _ => aG (.pointer _) rfl) (vB rfl rfl rfl (fun _ => aO rfl) (vB rfl rfl rfl (fun _ => aE 0 yC rfl) (aQz rfl rfl rfl (aL 0 (.map _) xU M2 rfl rfl rfl) (vB rfl rfl rfl (fun _ => aE 0 nQ rfl) (aQz rfl rfl rfl (aL 3 (.int _ _) cC M2 rfl rfl rfl) ?_)))))
 refine aQz rfl rfl rfl (jH (enc := rO) aVg 1 xX aZd M2 rfl hme rfl rfl) (bCm 13 ((.agg (aF a).toArray)) (congrArg rO (by rw [h1]; rfl)) (vB rfl rfl rfl (fun _ => aG (.pointer _) rfl) (vB rfl rfl rfl (fun _ => aO rfl) (vB rfl rfl rfl (fun _ => aE 0 yC rfl) ?_))))
 refine aQz rfl rfl rfl (aL 0 (.map _) xU M2 rfl rfl rfl) (vB rfl rfl rfl (fun _ => aE 1 nU rfl) (aQz rfl rfl rfl (aL 3 (.int _ _) cC M2 rfl rfl rfl) (aQz rfl rfl rfl (jH (enc := rO) aVg 1 xX aZd M2 rfl hme rfl rfl) (bCm 20 ((.agg (aF b).toArray)) (congrArg rO (by rw [h2]; rfl)) ?_))))
 refine aNw ?_ ?_
 ·refine dG [true, true, true, true, true, true] rfl (by kernel_rfl) (bX aTp rfl rfl (zT _ a b ha hb) ?_)
  rintro v3 w3 ⟨rfl, hb3⟩
  have M3 := M2.callB hb3
  refine aB (aC ⟨dH, ?_⟩)
  refine aV rfl rfl rfl (fun _ => aG (.tuple (List.toArray _)) rfl) (aV rfl rfl rfl (fun _ => bE (.agg (List.toArray _)) rfl rfl) (aV rfl rfl rfl (fun _ => bE (.bool _) rfl rfl) (dG [] rfl (by kernel_rfl) (aQ uB M3 rfl rfl (fun b4 w4 M4 => ?_)))))
  refine aB (aC ⟨dH, ?_⟩)
  refine dG [] rfl (by kernel_rfl) (bB 4 _ gI M4 rfl rfl rfl rfl rfl (aR rfl) rfl (fun w5 M5 => ?_))
  refine aB (aC ⟨dH, ?_⟩)
  refine aV rfl rfl rfl (fun _ => aI (.bool _) rfl) (cD (aC (aD (aA (wq (aG (.bool _) rfl) rfl (aB (aC ?_)))))))
  refine gR _ rfl (fun h24 => ?_) (fun h24 => ?_)
  ·obtain ⟨cc, hcc⟩ := Option.isSome_iff_exists.1 h24
   refine bO [(0, 0), (1, 0), (2, 0), (3, 0), (4, 1), (5, 1), (6, 2), (7, 2), (8, 0), (9, 0), (10, 2)] mixed rfl (by kernel_rfl) (fun w6 hb6 hh6 => ?_)
   have M6 := M5.drew hb6 hh6
   refine aV rfl rfl rfl (fun _ => aG (.pointer _) rfl) (aV rfl rfl rfl (fun _ => aG (.pointer _) rfl) (aV rfl rfl rfl (fun _ => aO rfl) (aV rfl rfl rfl (fun _ => aE 1 qB rfl) (bV rfl rfl rfl (aL 0 (.slice _ _ _) mA M6 rfl rfl rfl) (bV rfl rfl rfl (bC 4 gI M6 rfl rfl rfl) ?_)))))
   refine fH 30 (.agg (cN cc).toArray) (congrArg (fun o => Value.agg (bFk o).toArray) hcc) (dG [true, false] rfl (by kernel_rfl) (dB [.agg (List.toArray _)] [cN cc] rfl aDi M6 rfl rfl rfl rfl (dI rfl) (by decide) (fun b7 w7 M7 => ?_)))
   refine aB (aC ⟨(eF (bK rfl (aL 0 (.slice _ _ _) mA M7 rfl rfl rfl)) dH), ?_⟩)
   refine dG [true] rfl (by kernel_rfl) (eC 2 [cN cc] aDi M7 rfl rfl rfl rfl rfl hr rfl (by simp [cN, Go.Bil.one]) (dD.ofMem 5 M7 rfl) (by omega) (fun A8 c8 e8 w8 M8 hR8 => ?_))
   refine aB (aC ⟨dH, ?_⟩)
   refine aV rfl rfl rfl (fun _ => aO rfl) (aV rfl rfl rfl (fun _ => aE 1 qB rfl) (dG [] rfl (by kernel_rfl) (dX 0 (.slice _ _ _) mA M8 rfl rfl rfl rfl rfl rfl (fun w9 M9 => ?_))))
   refine aB (aC ⟨dH, ?_⟩)
   refine cD (iV ?_)
   exact ⟨rfl, ⟨A8, r.n + 1, c8, e8⟩, by rw [rA h1 h2, hcc, List.map_append]; exact hR8, M9.keep [true, true, true, false, false, false]⟩
  ·have hcc : mS a b = none := by simpa using h24
   refine aK (iV ?_)
   exact ⟨rfl, r, by rw [rA h1 h2, hcc]; simpa using hr, M5.keep [true, true, true, false, false]⟩
 ·refine dG [false, false, false, false, false, false] rfl (by kernel_rfl) (aQ uB M2 rfl rfl (fun b10 w10 M10 => ?_))
  refine aB (aC ⟨(eF (bK rfl (jH (enc := rO) aVg 1 xX aZd M10 rfl hme rfl rfl)) (eF (bK rfl (aL 3 (.int _ _) cC M10 rfl rfl rfl)) (eF (bK rfl (aL 0 (.map _) xU M10 rfl rfl rfl)) (eF (bK rfl (jH (enc := rO) aVg 1 xX aZd M10 rfl hme rfl rfl)) (eF (bK rfl (aL 3 (.int _ _) cC M10 rfl rfl rfl)) (eF (bK rfl (aL 0 (.map _) xU M10 rfl rfl rfl)) dH)))))), ?_⟩)
  refine dG [true, true, true, true, true, true] rfl (by kernel_rfl) (bX aTp rfl rfl (zT _ a b ha hb) ?_)
  rintro v11 w11 ⟨rfl, hb11⟩
  have M11 := M10.callB hb11
  refine aB (aC ⟨dH, ?_⟩)
  refine aV rfl rfl rfl (fun _ => aG (.tuple (List.toArray _)) rfl) (aV rfl rfl rfl (fun _ => bE (.agg (List.toArray _)) rfl rfl) (aV rfl rfl rfl (fun _ => bE (.bool _) rfl rfl) (dG [] rfl (by kernel_rfl) (bB 4 _ gI M11 rfl rfl rfl rfl rfl (aR rfl) rfl (fun w12 M12 => ?_)))))
  refine aB (aC ⟨dH, ?_⟩)
  refine aV rfl rfl rfl (fun _ => aI (.bool _) rfl) (cD (aC (aD (aA (wq (aG (.bool _) rfl) rfl (aB (aC ?_)))))))
  refine gR _ rfl (fun h24 => ?_) (fun h24 => ?_)
  ·obtain ⟨cc, hcc⟩ := Option.isSome_iff_exists.1 h24
   refine bO [(0, 0), (1, 0), (2, 0), (3, 0), (4, 1), (5, 1), (6, 2), (7, 2), (8, 0), (9, 0), (10, 2)] mixed rfl (by kernel_rfl) (fun w13 hb13 hh13 => ?_)
   have M13 := M12.drew hb13 hh13
   refine aV rfl rfl rfl (fun _ => aG (.pointer _) rfl) (aV rfl rfl rfl (fun _ => aG (.pointer _) rfl) (aV rfl rfl rfl (fun _ => aO rfl) (aV rfl rfl rfl (fun _ => aE 1 qB rfl) (bV rfl rfl rfl (aL 0 (.slice _ _ _) mA M13 rfl rfl rfl) (bV rfl rfl rfl (bC 4 gI M13 rfl rfl rfl) ?_)))))
   refine fH 30 (.agg (cN cc).toArray) (congrArg (fun o => Value.agg (bFk o).toArray) hcc) (dG [true, false] rfl (by kernel_rfl) (dB [.agg (List.toArray _)] [cN cc] rfl aDi M13 rfl rfl rfl rfl (dI rfl) (by decide) (fun b14 w14 M14 => ?_)))
   refine aB (aC ⟨(eF (bK rfl (aL 0 (.slice _ _ _) mA M14 rfl rfl rfl)) dH), ?_⟩)
   refine dG [true] rfl (by kernel_rfl) (eC 2 [cN cc] aDi M14 rfl rfl rfl rfl rfl hr rfl (by simp [cN, Go.Bil.one]) (dD.ofMem 5 M14 rfl) (by omega) (fun A15 c15 e15 w15 M15 hR15 => ?_))
   refine aB (aC ⟨dH, ?_⟩)
   refine aV rfl rfl rfl (fun _ => aO rfl) (aV rfl rfl rfl (fun _ => aE 1 qB rfl) (dG [] rfl (by kernel_rfl) (dX 0 (.slice _ _ _) mA M15 rfl rfl rfl rfl rfl rfl (fun w16 M16 => ?_))))
   refine aB (aC ⟨dH, ?_⟩)
   refine cD (iV ?_)
   exact ⟨rfl, ⟨A15, r.n + 1, c15, e15⟩, by rw [rA h1 h2, hcc, List.map_append]; exact hR15, M16.keep [true, true, true, false, false, false]⟩
  ·have hcc : mS a b = none := by simpa using h24
   refine aK (iV ?_)
   exact ⟨rfl, r, by rw [rA h1 h2, hcc]; simpa using hr, M12.keep [true, true, true, false, false]⟩
set_option maxHeartbeats 4000000 in
theorem aBf (w : World) (A : Option Addr) (n c : Nat) (zs : List (Int × Int)) (R : Rd w 2 A n (zs.map bL)) (bl pm : Nat) (f : Int → Option Body) (em : dN) (hme : iC .u32 rO f (some pm) em) (r : Row) (hr : aW 211 5 r.A r.n r.c (([]).map cN) r.e) (hz : ∀ z ∈ zs, ∃ a b, f z.1 = some a ∧ f z.2 = some b ∧ Okb a ∧ Okb b) (hn : n ≤ 1099511627776) (hO : Own [(some bl, bc [.map (some pm), .slice r.A r.n r.c] 219), em, r.e] w) (hdA : 0 < n → ∀ q off, A = some ⟨q, off, none⟩ → q ∉ bH [(some bl, bc [.map (some pm), .slice r.A r.n r.c] 219), em, r.e]) :
  Calls Tryz.prog 158 #[.slice A n c, .func (.func 159) #[.pointer (some ⟨bl, 0, none⟩)] #[]] w (fun ex w' => ∃ v, ex = .returned v ∧ (fun v w' => v = .tuple #[] ∧ ∃ q : Row, aW 211 5 q.A q.n q.c ((zs.filterMap (aEs f)).map cN) q.e ∧ Mem w (bH [(some bl, bc [.map (some pm), .slice r.A r.n r.c] 219), em, r.e]) [(some bl, bc [.map (some pm), .slice q.A q.n q.c] 219), em, q.e] w') v w') := by
 have hlen : zs.length = n := by simpa using R.len
 refine aH #[] 16 Tryz.func158 rfl Tryz.results158 Tryz.ntmps158 rfl ?_
 have M0 := hO.mem
 refine aD (aA (eG rfl rfl (wq (cP Tryz.underlying220 rfl) rfl (aY rfl rfl (aB (aC (aS (dK (σ := Nat × Row) [1, 6, 7] (fun (k, q) => [(8, .int .i64 (k : Int))]) (fun (k, q) w' => (k ≤ n ∧ aW 211 5 q.A q.n q.c (((zs.take k).filterMap (aEs f)).map cN) q.e) ∧ Mem w (bH [(some bl, bc [.map (some pm), .slice r.A r.n r.c] 219), em, r.e]) [(some bl, bc [.map (some pm), .slice q.A q.n q.c] 219), em, q.e] w') (fun (k, q) => n - k) (0, r) (bR rfl eZ) (⟨⟨by omega, hr⟩, M0⟩) ?_))))))))
 rintro ⟨k, q⟩ ρ1 w1 ⟨⟨hk, hq⟩, hM1⟩
 have hfl := List.length_filterMap_le (aEs f) (zs.take k)
 have htl := List.length_take_le k zs
 have hql : ((zs.take k).filterMap (aEs f)).length = q.n := by simpa using hq.1
 refine aD (aA (dA rfl rfl rfl rfl (aB (aC (aD ?_)))))
 refine aZ rfl (fun h9 => ?_) (fun h9 => ?_)
 ·obtain ⟨xz, hxz⟩ := cI (k := k) hlen (by omega)
  obtain ⟨za, zb, hza, hzb, hoa, hob⟩ := hz xz (List.mem_of_getElem? hxz)
  refine aK (aC (aD (aS (aD (aA (wq (bN (k) sY rfl rfl rfl ((R.memY hM1 hdA).below_len (aJ bL hxz)) ((R.memY hM1 hdA).someK (aJ bL hxz))) rfl (wq (dC _ gG (R.memY hM1 hdA) (aJ bL hxz) rfl) rfl (aQ qT hM1 rfl rfl (fun b2 w2 M2 => ?_)))))))))
  refine bB 3 _ gG M2 rfl rfl rfl rfl rfl (aR rfl) rfl (fun w3 M3 => (aB (aC (aA (wq (aG (.func _ _ _) rfl) rfl (wq (bC 3 gG M3 rfl rfl rfl) rfl (bX bGl rfl rfl (aSe _ bl pm f em hme q _ hq (by omega) xz za zb hza hzb hoa hob (M3.ownSeg 0 3)) ?_)))))))
  rintro v4 w4 ⟨rfl, q2, hq2, hM4⟩
  have M4 : Mem _ _ [_, _, _, _] _ := M3.seg 0 3 hM4
  refine aB (dE (aC (aA (wq (bU rfl rfl (by omega) (by omega)) rfl (aY rfl rfl (aB ?_))))))
  refine cS (k + 1, q2) (bR rfl eZ) (cV rfl (cV rfl (cV rfl jQ))) ?_ ?_
  ·exact ⟨⟨by omega, by rw [aZx hxz]; exact hq2⟩, M4.keep [true, true, true, false]⟩
  ·(show n - (k + 1) < n - k; omega)
 ·have hkn : k = n := by omega
  rw [List.take_of_length_le (by omega)] at hq
  refine cR (cZ (cX (eQ (iV ?_))))
  exact ⟨rfl, q, hq, hM1⟩
set_option maxHeartbeats 8000000 in
theorem aEn (w : World) (F : Rd w 2 (some ⟨0, 0, none⟩) 1 [[.int .u32 73856093, .int .u32 19349663]]) (N : Rd w 4 (some ⟨3, 0, none⟩) 1 [cY gO]) (A : Option Addr) (n c : Nat) (xs : List Body) (R : Rd w 10 A n (xs.map aF)) (hb : ∀ b ∈ xs, Okb b) (hs : cA xs) (hn : n ≤ 4096) :
  Calls Tryz.prog 144 #[.slice A n c] w (fun ex w' => ∃ v, ex = .returned v ∧ (fun v w' => ∃ (r : Row) (m : Nat), v = .tuple #[.slice r.A r.n r.c, .int .i64 (m : Int)] ∧ (lA xs).length ≤ m ∧ 2 * m ≤ xs.length * (xs.length - 1) ∧ aW 211 5 r.A r.n r.c ((kX xs).map cN) r.e ∧ Mem w [] [r.e] w') v w') := by
 have hlen : xs.length = n := by simpa using R.len
 have hbd := R.bound
 refine aH #[.tmp 2, .tmp 3] 39 Tryz.func144 rfl Tryz.results144 Tryz.ntmps144 rfl ?_
 have M0 := Mem.refl w
 refine aD (aA (fP rfl rfl (bP rfl rfl (aB (aC (aD (aA (kC M0 rfl rfl (fun b1 w1 M1 => (wq (cH [(0, .map _)] _ aRt rfl rfl) rfl ?_))))))))))
 refine bG (.agg (List.toArray _)) M1 rfl rfl rfl (fun b2 w2 M2 => (wq (aI (.pointer _) rfl) rfl (aB (aC (aD (aD (aA (eG rfl rfl (wq (cP Tryz.underlying29 rfl) rfl (aY rfl rfl ?_))))))))))
 refine aB (aC (aS (dK (σ := Nat × dN) [0, 2, 3, 4, 11, 12] (fun (k, em) => [(13, .int .i64 (k : Int))]) (fun (k, em) w' => (k ≤ n ∧ iC .u32 rO (boM (xs.take k)) (some b1) em) ∧ Mem w [] [em, (some b2, bc [.map (some b1), .slice none 0 0] 219)] w') (fun (k, em) => n - k) (0, (some b1, .map #[] 0)) (bR rfl eZ) (⟨⟨by omega, (iC.empty _ _ b1).congr (fun q => by rw [List.take_zero]; exact aYp q)⟩, M2⟩) ?_)))
 rintro ⟨k, em⟩ ρ3 w3 ⟨⟨hk, hme⟩, hM3⟩
 refine aD (aA (dA rfl rfl rfl rfl (aB (aC (aD ?_)))))
 refine aZ rfl (fun h14 => ?_) (fun h14 => ?_)
 ·obtain ⟨xb, hxb⟩ := cI (k := k) hlen (by omega)
  refine aK (aC (aD (aS (aD (aA (wq (bN (k) dW rfl rfl rfl ((R.mem hM3).below_len (aJ aF hxb)) ((R.mem hM3).someK (aJ aF hxb))) rfl (wq (dC _ bS (R.mem hM3) (aJ aF hxb) rfl) rfl (aQ gS hM3 rfl rfl (fun b4 w4 M4 => (bB 2 _ bS M4 rfl rfl rfl rfl rfl (aR rfl) rfl (fun w5 M5 => ?_)))))))))))
  refine aB (aC (bO [(0, 0), (1, 0), (2, 0), (3, 1), (4, 0), (5, 1), (6, 1), (7, 2)] mixed rfl (by kernel_rfl) (fun w6 hb6 hh6 => ?_)))
  have M6 := M5.drew hb6 hh6
  refine aV rfl rfl rfl (fun _ => aG (.pointer _) rfl) (aV rfl rfl rfl (fun _ => aO rfl) (aV rfl rfl rfl (fun _ => aE 0 yC rfl) (bV rfl rfl rfl (aL 1 (.map _) xU M6 rfl rfl rfl) (aV rfl rfl rfl (fun _ => aE 0 eP rfl) (bV rfl rfl rfl (aL 2 (.int _ _) cC M6 rfl rfl rfl) ?_)))))
  refine bV rfl rfl rfl (bC 2 bS M6 rfl rfl rfl) (dG [true, true, true] rfl (by kernel_rfl) (iM (enc := rO) 0 xX M6 rfl rfl hme rfl rfl rfl rfl (fun e7 w7 hm7 M7 => ?_)))
  refine aB (aC ⟨dH, ?_⟩)
  refine cD (dE (aC (aA (wq (bU rfl rfl (by omega) (by omega)) rfl (aY rfl rfl (aB ?_))))))
  refine cS (k + 1, e7) (bR rfl eZ) (cV rfl (cV rfl (cV rfl (cV rfl (cV rfl (cV rfl jQ)))))) ?_ ?_
  ·exact ⟨⟨by omega, hm7.congr (fun q => aSw hxb q)⟩, M7.keep [true, true, false]⟩
  ·(show n - (k + 1) < n - k; omega)
 ·have hkn : k = n := by omega
  rw [List.take_of_length_le (by omega)] at hme
  refine cR (cZ (cX (eQ (aC (aD (aA (eG rfl rfl ?_)))))))
  refine bX bDg rfl rfl (aLd _ (F.mem hM3) (N.mem hM3) _ _ _ xs (R.mem hM3) hb hs (by first | decide | omega)) ?_
  rintro v8 w8 ⟨r0, m0, rfl, hfm0, hgm0, hr0, hM8⟩
  have M8 : Mem _ _ [_, _, _] _ := hM3.call0 hM8
  refine wq (aG (.tuple (List.toArray _)) rfl) rfl (wq (bE (.slice _ _ _) rfl rfl) rfl (wq (bE (.int _ _) rfl rfl) rfl (fP rfl rfl (bP rfl rfl (aB (aC (aD (aA ?_))))))))
  refine eG rfl rfl (wq (aG (.pointer _) rfl) rfl (wq (cO [.pointer _] [] rfl rfl) rfl ?_))
  have M9 : Mem _ _ [_, _, _, _] _ := Mem.orderC (M8.dummy default)
  have hfl : (lA xs).length = r0.n := by simpa using hr0.1
  have hnn : xs.length * (xs.length - 1) ≤ 4096 * 4096 := Nat.mul_le_mul (by omega) (by omega)
  refine bX bDm rfl rfl (aBf _ r0.A r0.n r0.c (lA xs) (hr0.rd M9 (aX (i := 0) rfl)) b2 b1 (boM xs) em hme gP (aW.nil _ _ _) (fun z hz => by obtain ⟨a, b, h1, h2, _, _, h3, h4⟩ := vP hs hz; exact ⟨a, b, h3, h4, hb a h1, hb b h2⟩) (by omega) (M9.ownSeg 1 3) (hr0.apartTail M9)) ?_
  rintro v10 w10 ⟨rfl, q, hq, hM10⟩
  have M10 : Mem _ _ [_, _, _, _] _ := M9.seg 1 3 hM10
  refine aB (aC (aD (aA (wq (aG (.pointer _) rfl) rfl (wq (aO rfl) rfl (wq (aE 1 qB rfl) rfl (wq (aL 1 (.slice _ _ _) mA M10 rfl rfl rfl) rfl (aY rfl rfl ?_))))))))
  refine fP rfl rfl (bP rfl rfl (aB (aC (aM (iH (.slice _ _ _) (.int _ _) rfl rfl ?_)))))
  exact ⟨q, m0, rfl, hfm0, hgm0, hq, M10.keep [false, false, false, true]⟩
end Go.Proofs.YtaoaknafiegfoaaGreatDoor
