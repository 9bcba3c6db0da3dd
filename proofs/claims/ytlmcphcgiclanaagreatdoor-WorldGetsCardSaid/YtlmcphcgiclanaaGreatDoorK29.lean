/- Part of the proof of the laws of this seat: V15, X15, Z5. No conditions. -/
import Derived.Test.YtlmcphcgiclanaaGreatDoorK2
import Derived.Test.YtlmcphcgiclanaaGreatDoorK5
import Derived.Test.YtlmcphcgiclanaaGreatDoorK26
import Derived.Test.YtlmcphcgiclanaaGreatDoorK28
import Derived.Test.YtlmcphcgiclanaaGreatDoorK18
import Derived.Test.YtlmcphcgiclanaaGreatDoorK11
set_option linter.unusedVariables false
set_option linter.unusedSimpArgs false
set_option linter.unnecessarySimpa false
namespace Go.Proofs.YtlmcphcgiclanaaGreatDoor
open Go.Bil
open Go.RowKit (Below)
open Go.Proofs
set_option maxHeartbeats 4000000 in
theorem aLo (w : World) (bl pm : Nat) (f : Int → Option Body) (em : dL) (hme : iP .u32 pY f (some pm) em) (r : Row) (cs : List Con) (hr : aW 121 5 r.A r.n r.c ((cs).map cF) r.e) (hn : r.n ≤ 1099511627776) (z : Int × Int) (a b : Body) (h1 : f z.1 = some a) (h2 : f z.2 = some b) (ha : Okb a) (hb : Okb b) (hO : Own [(some bl, bc [.map (some pm), .slice r.A r.n r.c] 158), em, r.e] w) :
  Calls Tryz.prog 107 #[.pointer (some ⟨bl, 0, none⟩), (.agg (bG z).toArray)] w (fun ex w' => ∃ v, ex = .returned v ∧ (fun v w' => v = .tuple #[] ∧ ∃ q : Row, aW 121 5 q.A q.n q.c ((cs ++ (aEc f z).toList).map cF) q.e ∧ Mem w (bQ [(some bl, bc [.map (some pm), .slice r.A r.n r.c] 158), em, r.e]) [(some bl, bc [.map (some pm), .slice q.A q.n q.c] 158), em, q.e] w') v w') := by
 refine aH #[] 35 Tryz.func107 rfl Tryz.results107 Tryz.ntmps107 rfl ?_
 have M0 := hO.mem
 refine aD (aA (bJ (.agg (List.toArray _)) M0 rfl rfl rfl (fun b1 w1 M1 => (aB (aC (aD (aTt [(0, 0), (1, 0), (2, 0), (3, 1), (4, 0), (5, 1), (6, 1), (7, 0), (8, 0), (9, 0), (10, 1), (11, 0), (12, 1), (13, 1)] 14 18 [(15, 0), (16, 0), (17, 0), (18, 2), (19, 2), (20, 0)] [(14, 2), (15, 0), (16, 0), (17, 0), (19, 2), (20, 0)] mixed rfl (by kernel_rfl) (fun w2 hb2 hh2 => ?_))))))))
 have M2 := M1.drew hb2 hh2
 refine sO rfl rfl rfl (fun _ => aG (.pointer _) rfl) (sO rfl rfl rfl (fun _ => aK rfl) (sO rfl rfl rfl (fun _ => aE 0 yC rfl) (aNy rfl rfl rfl (aM 0 (.map _) yH M2 rfl rfl rfl) (sO rfl rfl rfl (fun _ => aE 0 mT rfl) (aNy rfl rfl rfl (aM 3 (.int _ _) bU M2 rfl rfl rfl) ?_)))))
 refine aNy rfl rfl rfl (iR (enc := pY) aJg 1 yD aVx M2 rfl hme rfl rfl) (aYa 13 ((.agg (aF a).toArray)) (congrArg pY (by rw [h1]; rfl)) (sO rfl rfl rfl (fun _ => aG (.pointer _) rfl) (sO rfl rfl rfl (fun _ => aK rfl) (sO rfl rfl rfl (fun _ => aE 0 yC rfl) ?_))))
 refine aNy rfl rfl rfl (aM 0 (.map _) yH M2 rfl rfl rfl) (sO rfl rfl rfl (fun _ => aE 1 mE rfl) (aNy rfl rfl rfl (aM 3 (.int _ _) bU M2 rfl rfl rfl) (aNy rfl rfl rfl (iR (enc := pY) aJg 1 yD aVx M2 rfl hme rfl rfl) (aYa 20 ((.agg (aF b).toArray)) (congrArg pY (by rw [h2]; rfl)) ?_))))
 refine aLc ?_ ?_
 ·refine dR [true, true, true, true, true, true] rfl (by kernel_rfl) (bY aSf rfl rfl (wM _ a b ha hb) ?_)
  rintro v3 w3 ⟨rfl, hb3⟩
  have M3 := M2.callB hb3
  refine aB (aC ⟨dS, ?_⟩)
  refine aZ rfl rfl rfl (fun _ => aG (.tuple (List.toArray _)) rfl) (aZ rfl rfl rfl (fun _ => bE (.agg (List.toArray _)) rfl rfl) (aZ rfl rfl rfl (fun _ => bE (.bool _) rfl rfl) (dR [] rfl (by kernel_rfl) (aQ rH M3 rfl rfl (fun b4 w4 M4 => ?_)))))
  refine aB (aC ⟨dS, ?_⟩)
  refine dR [] rfl (by kernel_rfl) (bB 4 _ gA M4 rfl rfl rfl rfl rfl (aP rfl) rfl (fun w5 M5 => ?_))
  refine aB (aC ⟨dS, ?_⟩)
  refine aZ rfl rfl rfl (fun _ => aI (.bool _) rfl) (cG (aC (aD (aA (wq (aG (.bool _) rfl) rfl (aB (aC ?_)))))))
  refine gJ _ rfl (fun h24 => ?_) (fun h24 => ?_)
  ·obtain ⟨cc, hcc⟩ := Option.isSome_iff_exists.1 h24
   refine bV [(0, 0), (1, 0), (2, 0), (3, 0), (4, 1), (5, 1), (6, 2), (7, 2), (8, 0), (9, 0), (10, 2)] mixed rfl (by kernel_rfl) (fun w6 hb6 hh6 => ?_)
   have M6 := M5.drew hb6 hh6
   refine aZ rfl rfl rfl (fun _ => aG (.pointer _) rfl) (aZ rfl rfl rfl (fun _ => aG (.pointer _) rfl) (aZ rfl rfl rfl (fun _ => aK rfl) (aZ rfl rfl rfl (fun _ => aE 1 oE rfl) (cB rfl rfl rfl (aM 0 (.slice _ _ _) nU M6 rfl rfl rfl) (cB rfl rfl rfl (aY 4 gA M6 rfl rfl rfl) ?_)))))
   refine iH 30 (.agg (cF cc).toArray) (congrArg (fun o => Value.agg (aZo o).toArray) hcc) (dR [true, false] rfl (by kernel_rfl) (cY [.agg (List.toArray _)] [cF cc] rfl aOh M6 rfl rfl rfl rfl (dG rfl) (by decide) (fun b7 w7 M7 => ?_)))
   refine aB (aC ⟨(eQ (bP rfl (aM 0 (.slice _ _ _) nU M7 rfl rfl rfl)) dS), ?_⟩)
   refine dR [true] rfl (by kernel_rfl) (eG 2 [cF cc] aOh M7 rfl rfl rfl rfl rfl hr rfl (by simp [cF, Go.Bil.one]) (dA.ofMem 5 M7 rfl) (by omega) (fun A8 c8 e8 w8 M8 hR8 => ?_))
   refine aB (aC ⟨dS, ?_⟩)
   refine aZ rfl rfl rfl (fun _ => aK rfl) (aZ rfl rfl rfl (fun _ => aE 1 oE rfl) (dR [] rfl (by kernel_rfl) (dF 0 (.slice _ _ _) nU M8 rfl rfl rfl rfl rfl rfl (fun w9 M9 => ?_))))
   refine aB (aC ⟨dS, ?_⟩)
   refine cG (iI ?_)
   exact ⟨rfl, ⟨A8, r.n + 1, c8, e8⟩, by rw [rA h1 h2, hcc, List.map_append]; exact hR8, M9.keep [true, true, true, false, false, false]⟩
  ·have hcc : nP a b = none := by simpa using h24
   refine aL (iI ?_)
   exact ⟨rfl, r, by rw [rA h1 h2, hcc]; simpa using hr, M5.keep [true, true, true, false, false]⟩
 ·refine dR [false, false, false, false, false, false] rfl (by kernel_rfl) (aQ rH M2 rfl rfl (fun b10 w10 M10 => ?_))
  refine aB (aC ⟨(eQ (bP rfl (iR (enc := pY) aJg 1 yD aVx M10 rfl hme rfl rfl)) (eQ (bP rfl (aM 3 (.int _ _) bU M10 rfl rfl rfl)) (eQ (bP rfl (aM 0 (.map _) yH M10 rfl rfl rfl)) (eQ (bP rfl (iR (enc := pY) aJg 1 yD aVx M10 rfl hme rfl rfl)) (eQ (bP rfl (aM 3 (.int _ _) bU M10 rfl rfl rfl)) (eQ (bP rfl (aM 0 (.map _) yH M10 rfl rfl rfl)) dS)))))), ?_⟩)
  refine dR [true, true, true, true, true, true] rfl (by kernel_rfl) (bY aSf rfl rfl (wM _ a b ha hb) ?_)
  rintro v11 w11 ⟨rfl, hb11⟩
  have M11 := M10.callB hb11
  refine aB (aC ⟨dS, ?_⟩)
  refine aZ rfl rfl rfl (fun _ => aG (.tuple (List.toArray _)) rfl) (aZ rfl rfl rfl (fun _ => bE (.agg (List.toArray _)) rfl rfl) (aZ rfl rfl rfl (fun _ => bE (.bool _) rfl rfl) (dR [] rfl (by kernel_rfl) (bB 4 _ gA M11 rfl rfl rfl rfl rfl (aP rfl) rfl (fun w12 M12 => ?_)))))
  refine aB (aC ⟨dS, ?_⟩)
  refine aZ rfl rfl rfl (fun _ => aI (.bool _) rfl) (cG (aC (aD (aA (wq (aG (.bool _) rfl) rfl (aB (aC ?_)))))))
  refine gJ _ rfl (fun h24 => ?_) (fun h24 => ?_)
  ·obtain ⟨cc, hcc⟩ := Option.isSome_iff_exists.1 h24
   refine bV [(0, 0), (1, 0), (2, 0), (3, 0), (4, 1), (5, 1), (6, 2), (7, 2), (8, 0), (9, 0), (10, 2)] mixed rfl (by kernel_rfl) (fun w13 hb13 hh13 => ?_)
   have M13 := M12.drew hb13 hh13
   refine aZ rfl rfl rfl (fun _ => aG (.pointer _) rfl) (aZ rfl rfl rfl (fun _ => aG (.pointer _) rfl) (aZ rfl rfl rfl (fun _ => aK rfl) (aZ rfl rfl rfl (fun _ => aE 1 oE rfl) (cB rfl rfl rfl (aM 0 (.slice _ _ _) nU M13 rfl rfl rfl) (cB rfl rfl rfl (aY 4 gA M13 rfl rfl rfl) ?_)))))
   refine iH 30 (.agg (cF cc).toArray) (congrArg (fun o => Value.agg (aZo o).toArray) hcc) (dR [true, false] rfl (by kernel_rfl) (cY [.agg (List.toArray _)] [cF cc] rfl aOh M13 rfl rfl rfl rfl (dG rfl) (by decide) (fun b14 w14 M14 => ?_)))
   refine aB (aC ⟨(eQ (bP rfl (aM 0 (.slice _ _ _) nU M14 rfl rfl rfl)) dS), ?_⟩)
   refine dR [true] rfl (by kernel_rfl) (eG 2 [cF cc] aOh M14 rfl rfl rfl rfl rfl hr rfl (by simp [cF, Go.Bil.one]) (dA.ofMem 5 M14 rfl) (by omega) (fun A15 c15 e15 w15 M15 hR15 => ?_))
   refine aB (aC ⟨dS, ?_⟩)
   refine aZ rfl rfl rfl (fun _ => aK rfl) (aZ rfl rfl rfl (fun _ => aE 1 oE rfl) (dR [] rfl (by kernel_rfl) (dF 0 (.slice _ _ _) nU M15 rfl rfl rfl rfl rfl rfl (fun w16 M16 => ?_))))
   refine aB (aC ⟨dS, ?_⟩)
   refine cG (iI ?_)
   exact ⟨rfl, ⟨A15, r.n + 1, c15, e15⟩, by rw [rA h1 h2, hcc, List.map_append]; exact hR15, M16.keep [true, true, true, false, false, false]⟩
  ·have hcc : nP a b = none := by simpa using h24
   refine aL (iI ?_)
   exact ⟨rfl, r, by rw [rA h1 h2, hcc]; simpa using hr, M12.keep [true, true, true, false, false]⟩
set_option maxHeartbeats 4000000 in
theorem zK (w : World) (A : Option Addr) (n c : Nat) (zs : List (Int × Int)) (R : Rd w 2 A n (zs.map bG)) (bl pm : Nat) (f : Int → Option Body) (em : dL) (hme : iP .u32 pY f (some pm) em) (r : Row) (hr : aW 121 5 r.A r.n r.c (([]).map cF) r.e) (hz : ∀ z ∈ zs, ∃ a b, f z.1 = some a ∧ f z.2 = some b ∧ Okb a ∧ Okb b) (hn : n ≤ 1099511627776) (hO : Own [(some bl, bc [.map (some pm), .slice r.A r.n r.c] 158), em, r.e] w) (hdA : 0 < n → ∀ q off, A = some ⟨q, off, none⟩ → q ∉ bQ [(some bl, bc [.map (some pm), .slice r.A r.n r.c] 158), em, r.e]) :
  Calls Tryz.prog 106 #[.slice A n c, .func (.func 107) #[.pointer (some ⟨bl, 0, none⟩)] #[]] w (fun ex w' => ∃ v, ex = .returned v ∧ (fun v w' => v = .tuple #[] ∧ ∃ q : Row, aW 121 5 q.A q.n q.c ((zs.filterMap (aEc f)).map cF) q.e ∧ Mem w (bQ [(some bl, bc [.map (some pm), .slice r.A r.n r.c] 158), em, r.e]) [(some bl, bc [.map (some pm), .slice q.A q.n q.c] 158), em, q.e] w') v w') := by
 have hlen : zs.length = n := by simpa using R.len
 refine aH #[] 16 Tryz.func106 rfl Tryz.results106 Tryz.ntmps106 rfl ?_
 have M0 := hO.mem
 refine aD (aA (eK rfl rfl (wq (cR Tryz.underlying159 rfl) rfl (aV rfl rfl (aB (aC (aT (dN (σ := Nat × Row) [1, 6, 7] (fun (k, q) => [(8, .int .i64 (k : Int))]) (fun (k, q) w' => (k ≤ n ∧ aW 121 5 q.A q.n q.c (((zs.take k).filterMap (aEc f)).map cF) q.e) ∧ Mem w (bQ [(some bl, bc [.map (some pm), .slice r.A r.n r.c] 158), em, r.e]) [(some bl, bc [.map (some pm), .slice q.A q.n q.c] 158), em, q.e] w') (fun (k, q) => n - k) (0, r) (bK rfl fC) (⟨⟨by omega, hr⟩, M0⟩) ?_))))))))
 rintro ⟨k, q⟩ ρ1 w1 ⟨⟨hk, hq⟩, hM1⟩
 have hfl := List.length_filterMap_le (aEc f) (zs.take k)
 have htl := List.length_take_le k zs
 have hql : ((zs.take k).filterMap (aEc f)).length = q.n := by simpa using hq.1
 refine aD (aA (cS rfl rfl rfl rfl (aB (aC (aD ?_)))))
 refine aX rfl (fun h9 => ?_) (fun h9 => ?_)
 ·obtain ⟨xz, hxz⟩ := cL (k := k) hlen (by omega)
  obtain ⟨za, zb, hza, hzb, hoa, hob⟩ := hz xz (List.mem_of_getElem? hxz)
  refine aL (aC (aD (aT (aD (aA (wq (bX (k) rW rfl rfl rfl ((R.memY hM1 hdA).below_len (aJ bG hxz)) ((R.memY hM1 hdA).someK (aJ bG hxz))) rfl (wq (eB _ fU (R.memY hM1 hdA) (aJ bG hxz) rfl) rfl (aQ pD hM1 rfl rfl (fun b2 w2 M2 => ?_)))))))))
  refine bB 3 _ fU M2 rfl rfl rfl rfl rfl (aP rfl) rfl (fun w3 M3 => (aB (aC (aA (wq (aG (.func _ _ _) rfl) rfl (wq (aY 3 fU M3 rfl rfl rfl) rfl (bY bCk rfl rfl (aLo _ bl pm f em hme q _ hq (by omega) xz za zb hza hzb hoa hob (M3.ownSeg 0 3)) ?_)))))))
  rintro v4 w4 ⟨rfl, q2, hq2, hM4⟩
  have M4 : Mem _ _ [_, _, _, _] _ := M3.seg 0 3 hM4
  refine aB (cV (aC (aA (wq (bM rfl rfl (by omega) (by omega)) rfl (aV rfl rfl (aB ?_))))))
  refine cQ (k + 1, q2) (bK rfl fC) (cU rfl (cU rfl (cU rfl kE))) ?_ ?_
  ·exact ⟨⟨by omega, by rw [aWm hxz]; exact hq2⟩, M4.keep [true, true, true, false]⟩
  ·(show n - (k + 1) < n - k; omega)
 ·have hkn : k = n := by omega
  rw [List.take_of_length_le (by omega)] at hq
  refine cN (dB (cZ (eZ (iI ?_))))
  exact ⟨rfl, q, hq, hM1⟩
set_option maxHeartbeats 8000000 in
theorem aDh (w : World) (F : Rd w 2 (some ⟨0, 0, none⟩) 1 [[.int .u32 73856093, .int .u32 19349663]]) (N : Rd w 4 (some ⟨3, 0, none⟩) 1 [dD iS]) (A : Option Addr) (n c : Nat) (xs : List Body) (R : Rd w 10 A n (xs.map aF)) (hb : ∀ b ∈ xs, Okb b) (hs : bS xs) (hn : n ≤ 4096) :
  Calls Tryz.prog 71 #[.slice A n c] w (fun ex w' => ∃ v, ex = .returned v ∧ (fun v w' => ∃ (r : Row) (m : Nat), v = .tuple #[.slice r.A r.n r.c, .int .i64 (m : Int)] ∧ (kP xs).length ≤ m ∧ 2 * m ≤ xs.length * (xs.length - 1) ∧ aW 121 5 r.A r.n r.c ((lY xs).map cF) r.e ∧ Mem w [] [r.e] w') v w') := by
 have hlen : xs.length = n := by simpa using R.len
 have hbd := R.bound
 refine aH #[.tmp 2, .tmp 3] 39 Tryz.func71 rfl Tryz.results71 Tryz.ntmps71 rfl ?_
 have M0 := Mem.refl w
 refine aD (aA (fZ rfl rfl (bI rfl rfl (aB (aC (aD (aA (kS M0 rfl rfl (fun b1 w1 M1 => (wq (cI [(0, .map _)] _ aLs rfl rfl) rfl ?_))))))))))
 refine bJ (.agg (List.toArray _)) M1 rfl rfl rfl (fun b2 w2 M2 => (wq (aI (.pointer _) rfl) rfl (aB (aC (aD (aD (aA (eK rfl rfl (wq (cR Tryz.underlying22 rfl) rfl (aV rfl rfl ?_))))))))))
 refine aB (aC (aT (dN (σ := Nat × dL) [0, 2, 3, 4, 11, 12] (fun (k, em) => [(13, .int .i64 (k : Int))]) (fun (k, em) w' => (k ≤ n ∧ iP .u32 pY (boM (xs.take k)) (some b1) em) ∧ Mem w [] [em, (some b2, bc [.map (some b1), .slice none 0 0] 158)] w') (fun (k, em) => n - k) (0, (some b1, .map #[] 0)) (bK rfl fC) (⟨⟨by omega, (iP.empty _ _ b1).congr (fun q => by rw [List.take_zero]; exact aWd q)⟩, M2⟩) ?_)))
 rintro ⟨k, em⟩ ρ3 w3 ⟨⟨hk, hme⟩, hM3⟩
 refine aD (aA (cS rfl rfl rfl rfl (aB (aC (aD ?_)))))
 refine aX rfl (fun h14 => ?_) (fun h14 => ?_)
 ·obtain ⟨xb, hxb⟩ := cL (k := k) hlen (by omega)
  refine aL (aC (aD (aT (aD (aA (wq (bX (k) eX rfl rfl rfl ((R.mem hM3).below_len (aJ aF hxb)) ((R.mem hM3).someK (aJ aF hxb))) rfl (wq (eB _ bL (R.mem hM3) (aJ aF hxb) rfl) rfl (aQ fQ hM3 rfl rfl (fun b4 w4 M4 => (bB 2 _ bL M4 rfl rfl rfl rfl rfl (aP rfl) rfl (fun w5 M5 => ?_)))))))))))
  refine aB (aC (bV [(0, 0), (1, 0), (2, 0), (3, 1), (4, 0), (5, 1), (6, 1), (7, 2)] mixed rfl (by kernel_rfl) (fun w6 hb6 hh6 => ?_)))
  have M6 := M5.drew hb6 hh6
  refine aZ rfl rfl rfl (fun _ => aG (.pointer _) rfl) (aZ rfl rfl rfl (fun _ => aK rfl) (aZ rfl rfl rfl (fun _ => aE 0 yC rfl) (cB rfl rfl rfl (aM 1 (.map _) yH M6 rfl rfl rfl) (aZ rfl rfl rfl (fun _ => aE 0 eJ rfl) (cB rfl rfl rfl (aM 2 (.int _ _) bU M6 rfl rfl rfl) ?_)))))
  refine cB rfl rfl rfl (aY 2 bL M6 rfl rfl rfl) (dR [true, true, true] rfl (by kernel_rfl) (gS (enc := pY) 0 yD M6 rfl rfl hme rfl rfl rfl rfl (fun e7 w7 hm7 M7 => ?_)))
  refine aB (aC ⟨dS, ?_⟩)
  refine cG (cV (aC (aA (wq (bM rfl rfl (by omega) (by omega)) rfl (aV rfl rfl (aB ?_))))))
  refine cQ (k + 1, e7) (bK rfl fC) (cU rfl (cU rfl (cU rfl (cU rfl (cU rfl (cU rfl kE)))))) ?_ ?_
  ·exact ⟨⟨by omega, hm7.congr (fun q => aPk hxb q)⟩, M7.keep [true, true, false]⟩
  ·(show n - (k + 1) < n - k; omega)
 ·have hkn : k = n := by omega
  rw [List.take_of_length_le (by omega)] at hme
  refine cN (dB (cZ (eZ (aC (aD (aA (eK rfl rfl ?_)))))))
  refine bY bCh rfl rfl (aJn _ (F.mem hM3) (N.mem hM3) _ _ _ xs (R.mem hM3) hb hs (by first | decide | omega)) ?_
  rintro v8 w8 ⟨r0, m0, rfl, hfm0, hgm0, hr0, hM8⟩
  have M8 : Mem _ _ [_, _, _] _ := hM3.call0 hM8
  refine wq (aG (.tuple (List.toArray _)) rfl) rfl (wq (bE (.slice _ _ _) rfl rfl) rfl (wq (bE (.int _ _) rfl rfl) rfl (fZ rfl rfl (bI rfl rfl (aB (aC (aD (aA ?_))))))))
  refine eK rfl rfl (wq (aG (.pointer _) rfl) rfl (wq (cM [.pointer _] [] rfl rfl) rfl ?_))
  have M9 : Mem _ _ [_, _, _, _] _ := Mem.orderC (M8.dummy default)
  have hfl : (kP xs).length = r0.n := by simpa using hr0.1
  have hnn : xs.length * (xs.length - 1) ≤ 4096 * 4096 := Nat.mul_le_mul (by omega) (by omega)
  refine bY bCc rfl rfl (zK _ r0.A r0.n r0.c (kP xs) (hr0.rd M9 (bC (i := 0) rfl)) b2 b1 (boM xs) em hme iG (aW.nil _ _ _) (fun z hz => by obtain ⟨a, b, h1, h2, _, _, h3, h4⟩ := uQ hs hz; exact ⟨a, b, h3, h4, hb a h1, hb b h2⟩) (by omega) (M9.ownSeg 1 3) (hr0.apartTail M9)) ?_
  rintro v10 w10 ⟨rfl, q, hq, hM10⟩
  have M10 : Mem _ _ [_, _, _, _] _ := M9.seg 1 3 hM10
  refine aB (aC (aD (aA (wq (aG (.pointer _) rfl) rfl (wq (aK rfl) rfl (wq (aE 1 oE rfl) rfl (wq (aM 1 (.slice _ _ _) nU M10 rfl rfl rfl) rfl (aV rfl rfl ?_))))))))
  refine fZ rfl rfl (bI rfl rfl (aB (aC (aN (gV (.slice _ _ _) (.int _ _) rfl rfl ?_)))))
  exact ⟨q, m0, rfl, hfm0, hgm0, hq, M10.keep [false, false, false, true]⟩
end Go.Proofs.YtlmcphcgiclanaaGreatDoor
