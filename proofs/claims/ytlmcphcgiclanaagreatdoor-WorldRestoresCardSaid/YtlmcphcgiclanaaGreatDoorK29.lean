/- Part of the proof of the laws of this seat: V15, X15, Z5. No conditions. -/
import Derived.Test.YtlmcphcgiclanaaGreatDoorK2
import Derived.Test.YtlmcphcgiclanaaGreatDoorK5
import Derived.Test.YtlmcphcgiclanaaGreatDoorK26
import Derived.Test.YtlmcphcgiclanaaGreatDoorK28
import Derived.Test.YtlmcphcgiclanaaGreatDoorK18
import Derived.Test.YtlmcphcgiclanaaGreatDoorK11
set_option linter.unusedVariables false
set_option linter.unusedSimpArgs false
set_option linter.unnecessarySimpa false
namespace Go.Proofs.YtlmcphcgiclanaaGreatDoor
open Go.Bil
open Go.RowKit (Below)
open Go.Proofs
set_option maxHeartbeats 4000000 in
theorem aNz (w : World) (bl pm : Nat) (f : Int → Option Body) (em : dR) (hme : iU .u32 qQ f (some pm) em) (r : Row) (cs : List Con) (hr : aX 121 5 r.A r.n r.c ((cs).map cK) r.e) (hn : r.n ≤ 1099511627776) (z : Int × Int) (a b : Body) (h1 : f z.1 = some a) (h2 : f z.2 = some b) (ha : Okb a) (hb : Okb b) (hO : Own [(some bl, bc [.map (some pm), .slice r.A r.n r.c] 158), em, r.e] w) :
  Calls Tryz.prog 107 #[.pointer (some ⟨bl, 0, none⟩), (.agg (bG z).toArray)] w (fun ex w' => ∃ v, ex = .returned v ∧ (fun v w' => v = .tuple #[] ∧ ∃ q : Row, aX 121 5 q.A q.n q.c ((cs ++ (aEv f z).toList).map cK) q.e ∧ Mem w (bS [(some bl, bc [.map (some pm), .slice r.A r.n r.c] 158), em, r.e]) [(some bl, bc [.map (some pm), .slice q.A q.n q.c] 158), em, q.e] w') v w') := by
 refine aH #[] 35 Tryz.func107 rfl Tryz.results107 Tryz.ntmps107 rfl ?_
 have M0 := hO.mem
 refine aD (aA (bK (.agg (List.toArray _)) M0 rfl rfl rfl (fun b1 w1 M1 => (aB (aC (aD (aUu [(0, 0), (1, 0), (2, 0), (3, 1), (4, 0), (5, 1), (6, 1), (7, 0), (8, 0), (9, 0), (10, 1), (11, 0), (12, 1), (13, 1)] 14 18 [(15, 0), (16, 0), (17, 0), (18, 2), (19, 2), (20, 0)] [(14, 2), (15, 0), (16, 0), (17, 0), (19, 2), (20, 0)] mixed rfl (by kernel_rfl) (fun w2 hb2 hh2 => ?_))))))))
 have M2 := M1.drew hb2 hh2
 refine tW rfl rfl rfl (fun _ => aG (.pointer _) rfl) (tW rfl rfl rfl (fun _ => aL rfl) (tW rfl rfl rfl (fun _ => aE 0 xU rfl) (aPv rfl rfl rfl (aM 0 (.map _) xO M2 rfl rfl rfl) (tW rfl rfl rfl (fun _ => aE 0 nG rfl) (aPv rfl rfl rfl (aM 3 (.int _ _) bZ M2 rfl rfl rfl) ?_)))))
 refine aPv rfl rfl rfl (jA (enc := qQ) aTn 1 yR aVy M2 rfl hme rfl rfl) (aZx 13 ((.agg (aF a).toArray)) (congrArg qQ (by rw [h1]; rfl)) (tW rfl rfl rfl (fun _ => aG (.pointer _) rfl) (tW rfl rfl rfl (fun _ => aL rfl) (tW rfl rfl rfl (fun _ => aE 0 xU rfl) ?_))))
 refine aPv rfl rfl rfl (aM 0 (.map _) xO M2 rfl rfl rfl) (tW rfl rfl rfl (fun _ => aE 1 nC rfl) (aPv rfl rfl rfl (aM 3 (.int _ _) bZ M2 rfl rfl rfl) (aPv rfl rfl rfl (jA (enc := qQ) aTn 1 yR aVy M2 rfl hme rfl rfl) (aZx 20 ((.agg (aF b).toArray)) (congrArg qQ (by rw [h2]; rfl)) ?_))))
 refine aMp ?_ ?_
 ·refine dP [true, true, true, true, true, true] rfl (by kernel_rfl) (bV aTt rfl rfl (zD _ a b ha hb) ?_)
  rintro v3 w3 ⟨rfl, hb3⟩
  have M3 := M2.callB hb3
  refine aB (aC ⟨dQ, ?_⟩)
  refine aY rfl rfl rfl (fun _ => aG (.tuple (List.toArray _)) rfl) (aY rfl rfl rfl (fun _ => bE (.agg (List.toArray _)) rfl rfl) (aY rfl rfl rfl (fun _ => bE (.bool _) rfl rfl) (dP [] rfl (by kernel_rfl) (aR sJ M3 rfl rfl (fun b4 w4 M4 => ?_)))))
  refine aB (aC ⟨dQ, ?_⟩)
  refine dP [] rfl (by kernel_rfl) (bC 4 _ gE M4 rfl rfl rfl rfl rfl (aQ rfl) rfl (fun w5 M5 => ?_))
  refine aB (aC ⟨dQ, ?_⟩)
  refine aY rfl rfl rfl (fun _ => aI (.bool _) rfl) (cF (aC (aD (aA (wq (aG (.bool _) rfl) rfl (aB (aC ?_)))))))
  refine gU _ rfl (fun h24 => ?_) (fun h24 => ?_)
  ·obtain ⟨cc, hcc⟩ := Option.isSome_iff_exists.1 h24
   refine bQ [(0, 0), (1, 0), (2, 0), (3, 0), (4, 1), (5, 1), (6, 2), (7, 2), (8, 0), (9, 0), (10, 2)] mixed rfl (by kernel_rfl) (fun w6 hb6 hh6 => ?_)
   have M6 := M5.drew hb6 hh6
   refine aY rfl rfl rfl (fun _ => aG (.pointer _) rfl) (aY rfl rfl rfl (fun _ => aG (.pointer _) rfl) (aY rfl rfl rfl (fun _ => aL rfl) (aY rfl rfl rfl (fun _ => aE 1 oK rfl) (cD rfl rfl rfl (aM 0 (.slice _ _ _) pF M6 rfl rfl rfl) (cD rfl rfl rfl (bA 4 gE M6 rfl rfl rfl) ?_)))))
   refine gB 30 (.agg (cK cc).toArray) (congrArg (fun o => Value.agg (bBv o).toArray) hcc) (dP [true, false] rfl (by kernel_rfl) (dC [.agg (List.toArray _)] [cK cc] rfl aOd M6 rfl rfl rfl rfl (dI rfl) (by decide) (fun b7 w7 M7 => ?_)))
   refine aB (aC ⟨(eK (bN rfl (aM 0 (.slice _ _ _) pF M7 rfl rfl rfl)) dQ), ?_⟩)
   refine dP [true] rfl (by kernel_rfl) (eH 2 [cK cc] aOd M7 rfl rfl rfl rfl rfl hr rfl (by simp [cK, Go.Bil.one]) (dD.ofMem 5 M7 rfl) (by omega) (fun A8 c8 e8 w8 M8 hR8 => ?_))
   refine aB (aC ⟨dQ, ?_⟩)
   refine aY rfl rfl rfl (fun _ => aL rfl) (aY rfl rfl rfl (fun _ => aE 1 oK rfl) (dP [] rfl (by kernel_rfl) (dH 0 (.slice _ _ _) pF M8 rfl rfl rfl rfl rfl rfl (fun w9 M9 => ?_))))
   refine aB (aC ⟨dQ, ?_⟩)
   refine cF (iP ?_)
   exact ⟨rfl, ⟨A8, r.n + 1, c8, e8⟩, by rw [tD h1 h2, hcc, List.map_append]; exact hR8, M9.keep [true, true, true, false, false, false]⟩
  ·have hcc : oD a b = none := by simpa using h24
   refine aK (iP ?_)
   exact ⟨rfl, r, by rw [tD h1 h2, hcc]; simpa using hr, M5.keep [true, true, true, false, false]⟩
 ·refine dP [false, false, false, false, false, false] rfl (by kernel_rfl) (aR sJ M2 rfl rfl (fun b10 w10 M10 => ?_))
  refine aB (aC ⟨(eK (bN rfl (jA (enc := qQ) aTn 1 yR aVy M10 rfl hme rfl rfl)) (eK (bN rfl (aM 3 (.int _ _) bZ M10 rfl rfl rfl)) (eK (bN rfl (aM 0 (.map _) xO M10 rfl rfl rfl)) (eK (bN rfl (jA (enc := qQ) aTn 1 yR aVy M10 rfl hme rfl rfl)) (eK (bN rfl (aM 3 (.int _ _) bZ M10 rfl rfl rfl)) (eK (bN rfl (aM 0 (.map _) xO M10 rfl rfl rfl)) dQ)))))), ?_⟩)
  refine dP [true, true, true, true, true, true] rfl (by kernel_rfl) (bV aTt rfl rfl (zD _ a b ha hb) ?_)
  rintro v11 w11 ⟨rfl, hb11⟩
  have M11 := M10.callB hb11
  refine aB (aC ⟨dQ, ?_⟩)
  refine aY rfl rfl rfl (fun _ => aG (.tuple (List.toArray _)) rfl) (aY rfl rfl rfl (fun _ => bE (.agg (List.toArray _)) rfl rfl) (aY rfl rfl rfl (fun _ => bE (.bool _) rfl rfl) (dP [] rfl (by kernel_rfl) (bC 4 _ gE M11 rfl rfl rfl rfl rfl (aQ rfl) rfl (fun w12 M12 => ?_)))))
  refine aB (aC ⟨dQ, ?_⟩)
  refine aY rfl rfl rfl (fun _ => aI (.bool _) rfl) (cF (aC (aD (aA (wq (aG (.bool _) rfl) rfl (aB (aC ?_)))))))
  refine gU _ rfl (fun h24 => ?_) (fun h24 => ?_)
  ·obtain ⟨cc, hcc⟩ := Option.isSome_iff_exists.1 h24
   refine bQ [(0, 0), (1, 0), (2, 0), (3, 0), (4, 1), (5, 1), (6, 2), (7, 2), (8, 0), (9, 0), (10, 2)] mixed rfl (by kernel_rfl) (fun w13 hb13 hh13 => ?_)
   have M13 := M12.drew hb13 hh13
   refine aY rfl rfl rfl (fun _ => aG (.pointer _) rfl) (aY rfl rfl rfl (fun _ => aG (.pointer _) rfl) (aY rfl rfl rfl (fun _ => aL rfl) (aY rfl rfl rfl (fun _ => aE 1 oK rfl) (cD rfl rfl rfl (aM 0 (.slice _ _ _) pF M13 rfl rfl rfl) (cD rfl rfl rfl (bA 4 gE M13 rfl rfl rfl) ?_)))))
   refine gB 30 (.agg (cK cc).toArray) (congrArg (fun o => Value.agg (bBv o).toArray) hcc) (dP [true, false] rfl (by kernel_rfl) (dC [.agg (List.toArray _)] [cK cc] rfl aOd M13 rfl rfl rfl rfl (dI rfl) (by decide) (fun b14 w14 M14 => ?_)))
   refine aB (aC ⟨(eK (bN rfl (aM 0 (.slice _ _ _) pF M14 rfl rfl rfl)) dQ), ?_⟩)
   refine dP [true] rfl (by kernel_rfl) (eH 2 [cK cc] aOd M14 rfl rfl rfl rfl rfl hr rfl (by simp [cK, Go.Bil.one]) (dD.ofMem 5 M14 rfl) (by omega) (fun A15 c15 e15 w15 M15 hR15 => ?_))
   refine aB (aC ⟨dQ, ?_⟩)
   refine aY rfl rfl rfl (fun _ => aL rfl) (aY rfl rfl rfl (fun _ => aE 1 oK rfl) (dP [] rfl (by kernel_rfl) (dH 0 (.slice _ _ _) pF M15 rfl rfl rfl rfl rfl rfl (fun w16 M16 => ?_))))
   refine aB (aC ⟨dQ, ?_⟩)
   refine cF (iP ?_)
   exact ⟨rfl, ⟨A15, r.n + 1, c15, e15⟩, by rw [tD h1 h2, hcc, List.map_append]; exact hR15, M16.keep [true, true, true, false, false, false]⟩
  ·have hcc : oD a b = none := by simpa using h24
   refine aK (iP ?_)
   exact ⟨rfl, r, by rw [tD h1 h2, hcc]; simpa using hr, M12.keep [true, true, true, false, false]⟩
set_option maxHeartbeats 4000000 in
theorem aAp (w : World) (A : Option Addr) (n c : Nat) (zs : List (Int × Int)) (R : Rd w 2 A n (zs.map bG)) (bl pm : Nat) (f : Int → Option Body) (em : dR) (hme : iU .u32 qQ f (some pm) em) (r : Row) (hr : aX 121 5 r.A r.n r.c (([]).map cK) r.e) (hz : ∀ z ∈ zs, ∃ a b, f z.1 = some a ∧ f z.2 = some b ∧ Okb a ∧ Okb b) (hn : n ≤ 1099511627776) (hO : Own [(some bl, bc [.map (some pm), .slice r.A r.n r.c] 158), em, r.e] w) (hdA : 0 < n → ∀ q off, A = some ⟨q, off, none⟩ → q ∉ bS [(some bl, bc [.map (some pm), .slice r.A r.n r.c] 158), em, r.e]) :
  Calls Tryz.prog 106 #[.slice A n c, .func (.func 107) #[.pointer (some ⟨bl, 0, none⟩)] #[]] w (fun ex w' => ∃ v, ex = .returned v ∧ (fun v w' => v = .tuple #[] ∧ ∃ q : Row, aX 121 5 q.A q.n q.c ((zs.filterMap (aEv f)).map cK) q.e ∧ Mem w (bS [(some bl, bc [.map (some pm), .slice r.A r.n r.c] 158), em, r.e]) [(some bl, bc [.map (some pm), .slice q.A q.n q.c] 158), em, q.e] w') v w') := by
 have hlen : zs.length = n := by simpa using R.len
 refine aH #[] 16 Tryz.func106 rfl Tryz.results106 Tryz.ntmps106 rfl ?_
 have M0 := hO.mem
 refine aD (aA (eF rfl rfl (wq (cM Tryz.underlying159 rfl) rfl (aV rfl rfl (aB (aC (aS (dM (σ := Nat × Row) [1, 6, 7] (fun (k, q) => [(8, .int .i64 (k : Int))]) (fun (k, q) w' => (k ≤ n ∧ aX 121 5 q.A q.n q.c (((zs.take k).filterMap (aEv f)).map cK) q.e) ∧ Mem w (bS [(some bl, bc [.map (some pm), .slice r.A r.n r.c] 158), em, r.e]) [(some bl, bc [.map (some pm), .slice q.A q.n q.c] 158), em, q.e] w') (fun (k, q) => n - k) (0, r) (bL rfl eV) (⟨⟨by omega, hr⟩, M0⟩) ?_))))))))
 rintro ⟨k, q⟩ ρ1 w1 ⟨⟨hk, hq⟩, hM1⟩
 have hfl := List.length_filterMap_le (aEv f) (zs.take k)
 have htl := List.length_take_le k zs
 have hql : ((zs.take k).filterMap (aEv f)).length = q.n := by simpa using hq.1
 refine aD (aA (cT rfl rfl rfl rfl (aB (aC (aD ?_)))))
 refine aW rfl (fun h9 => ?_) (fun h9 => ?_)
 ·obtain ⟨xz, hxz⟩ := cI (k := k) hlen (by omega)
  obtain ⟨za, zb, hza, hzb, hoa, hob⟩ := hz xz (List.mem_of_getElem? hxz)
  refine aK (aC (aD (aS (aD (aA (wq (bO (k) tA rfl rfl rfl ((R.memY hM1 hdA).below_len (aJ bG hxz)) ((R.memY hM1 hdA).someK (aJ bG hxz))) rfl (wq (cZ _ fQ (R.memY hM1 hdA) (aJ bG hxz) rfl) rfl (aR qD hM1 rfl rfl (fun b2 w2 M2 => ?_)))))))))
  refine bC 3 _ fQ M2 rfl rfl rfl rfl rfl (aQ rfl) rfl (fun w3 M3 => (aB (aC (aA (wq (aG (.func _ _ _) rfl) rfl (wq (bA 3 fQ M3 rfl rfl rfl) rfl (bV bAx rfl rfl (aNz _ bl pm f em hme q _ hq (by omega) xz za zb hza hzb hoa hob (M3.ownSeg 0 3)) ?_)))))))
  rintro v4 w4 ⟨rfl, q2, hq2, hM4⟩
  have M4 : Mem _ _ [_, _, _, _] _ := M3.seg 0 3 hM4
  refine aB (cX (aC (aA (wq (bM rfl rfl (by omega) (by omega)) rfl (aV rfl rfl (aB ?_))))))
  refine cQ (k + 1, q2) (bL rfl eV) (cU rfl (cU rfl (cU rfl jS))) ?_ ?_
  ·exact ⟨⟨by omega, by rw [aWw hxz]; exact hq2⟩, M4.keep [true, true, true, false]⟩
  ·(show n - (k + 1) < n - k; omega)
 ·have hkn : k = n := by omega
  rw [List.take_of_length_le (by omega)] at hq
  refine cP (dA (cY (eT (iP ?_))))
  exact ⟨rfl, q, hq, hM1⟩
set_option maxHeartbeats 8000000 in
theorem aDr (w : World) (F : Rd w 2 (some ⟨0, 0, none⟩) 1 [[.int .u32 73856093, .int .u32 19349663]]) (N : Rd w 4 (some ⟨3, 0, none⟩) 1 [dF iY]) (A : Option Addr) (n c : Nat) (xs : List Body) (R : Rd w 10 A n (xs.map aF)) (hb : ∀ b ∈ xs, Okb b) (hs : bW xs) (hn : n ≤ 4096) :
  Calls Tryz.prog 71 #[.slice A n c] w (fun ex w' => ∃ v, ex = .returned v ∧ (fun v w' => ∃ (r : Row) (m : Nat), v = .tuple #[.slice r.A r.n r.c, .int .i64 (m : Int)] ∧ (lN xs).length ≤ m ∧ 2 * m ≤ xs.length * (xs.length - 1) ∧ aX 121 5 r.A r.n r.c ((mI xs).map cK) r.e ∧ Mem w [] [r.e] w') v w') := by
 have hlen : xs.length = n := by simpa using R.len
 have hbd := R.bound
 refine aH #[.tmp 2, .tmp 3] 39 Tryz.func71 rfl Tryz.results71 Tryz.ntmps71 rfl ?_
 have M0 := Mem.refl w
 refine aD (aA (gC rfl rfl (bJ rfl rfl (aB (aC (aD (aA (lL M0 rfl rfl (fun b1 w1 M1 => (wq (cN [(0, .map _)] _ aPb rfl rfl) rfl ?_))))))))))
 refine bK (.agg (List.toArray _)) M1 rfl rfl rfl (fun b2 w2 M2 => (wq (aI (.pointer _) rfl) rfl (aB (aC (aD (aD (aA (eF rfl rfl (wq (cM Tryz.underlying22 rfl) rfl (aV rfl rfl ?_))))))))))
 refine aB (aC (aS (dM (σ := Nat × dR) [0, 2, 3, 4, 11, 12] (fun (k, em) => [(13, .int .i64 (k : Int))]) (fun (k, em) w' => (k ≤ n ∧ iU .u32 qQ (boM (xs.take k)) (some b1) em) ∧ Mem w [] [em, (some b2, bc [.map (some b1), .slice none 0 0] 158)] w') (fun (k, em) => n - k) (0, (some b1, .map #[] 0)) (bL rfl eV) (⟨⟨by omega, (iU.empty _ _ b1).congr (fun q => by rw [List.take_zero]; exact aYo q)⟩, M2⟩) ?_)))
 rintro ⟨k, em⟩ ρ3 w3 ⟨⟨hk, hme⟩, hM3⟩
 refine aD (aA (cT rfl rfl rfl rfl (aB (aC (aD ?_)))))
 refine aW rfl (fun h14 => ?_) (fun h14 => ?_)
 ·obtain ⟨xb, hxb⟩ := cI (k := k) hlen (by omega)
  refine aK (aC (aD (aS (aD (aA (wq (bO (k) eP rfl rfl rfl ((R.mem hM3).below_len (aJ aF hxb)) ((R.mem hM3).someK (aJ aF hxb))) rfl (wq (cZ _ bP (R.mem hM3) (aJ aF hxb) rfl) rfl (aR gI hM3 rfl rfl (fun b4 w4 M4 => (bC 2 _ bP M4 rfl rfl rfl rfl rfl (aQ rfl) rfl (fun w5 M5 => ?_)))))))))))
  refine aB (aC (bQ [(0, 0), (1, 0), (2, 0), (3, 1), (4, 0), (5, 1), (6, 1), (7, 2)] mixed rfl (by kernel_rfl) (fun w6 hb6 hh6 => ?_)))
  have M6 := M5.drew hb6 hh6
  refine aY rfl rfl rfl (fun _ => aG (.pointer _) rfl) (aY rfl rfl rfl (fun _ => aL rfl) (aY rfl rfl rfl (fun _ => aE 0 xU rfl) (cD rfl rfl rfl (aM 1 (.map _) xO M6 rfl rfl rfl) (aY rfl rfl rfl (fun _ => aE 0 eZ rfl) (cD rfl rfl rfl (aM 2 (.int _ _) bZ M6 rfl rfl rfl) ?_)))))
  refine cD rfl rfl rfl (bA 2 bP M6 rfl rfl rfl) (dP [true, true, true] rfl (by kernel_rfl) (iA (enc := qQ) 0 yR M6 rfl rfl hme rfl rfl rfl rfl (fun e7 w7 hm7 M7 => ?_)))
  refine aB (aC ⟨dQ, ?_⟩)
  refine cF (cX (aC (aA (wq (bM rfl rfl (by omega) (by omega)) rfl (aV rfl rfl (aB ?_))))))
  refine cQ (k + 1, e7) (bL rfl eV) (cU rfl (cU rfl (cU rfl (cU rfl (cU rfl (cU rfl jS)))))) ?_ ?_
  ·exact ⟨⟨by omega, hm7.congr (fun q => aSu hxb q)⟩, M7.keep [true, true, false]⟩
  ·(show n - (k + 1) < n - k; omega)
 ·have hkn : k = n := by omega
  rw [List.take_of_length_le (by omega)] at hme
  refine cP (dA (cY (eT (aC (aD (aA (eF rfl rfl ?_)))))))
  refine bV bDm rfl rfl (aIh _ (F.mem hM3) (N.mem hM3) _ _ _ xs (R.mem hM3) hb hs (by first | decide | omega)) ?_
  rintro v8 w8 ⟨r0, m0, rfl, hfm0, hgm0, hr0, hM8⟩
  have M8 : Mem _ _ [_, _, _] _ := hM3.call0 hM8
  refine wq (aG (.tuple (List.toArray _)) rfl) rfl (wq (bE (.slice _ _ _) rfl rfl) rfl (wq (bE (.int _ _) rfl rfl) rfl (gC rfl rfl (bJ rfl rfl (aB (aC (aD (aA ?_))))))))
  refine eF rfl rfl (wq (aG (.pointer _) rfl) rfl (wq (cR [.pointer _] [] rfl rfl) rfl ?_))
  have M9 : Mem _ _ [_, _, _, _] _ := Mem.orderC (M8.dummy default)
  have hfl : (lN xs).length = r0.n := by simpa using hr0.1
  have hnn : xs.length * (xs.length - 1) ≤ 4096 * 4096 := Nat.mul_le_mul (by omega) (by omega)
  refine bV bBb rfl rfl (aAp _ r0.A r0.n r0.c (lN xs) (hr0.rd M9 (aZ (i := 0) rfl)) b2 b1 (boM xs) em hme iK (aX.nil _ _ _) (fun z hz => by obtain ⟨a, b, h1, h2, _, _, h3, h4⟩ := vJ hs hz; exact ⟨a, b, h3, h4, hb a h1, hb b h2⟩) (by omega) (M9.ownSeg 1 3) (hr0.apartTail M9)) ?_
  rintro v10 w10 ⟨rfl, q, hq, hM10⟩
  have M10 : Mem _ _ [_, _, _, _] _ := M9.seg 1 3 hM10
  refine aB (aC (aD (aA (wq (aG (.pointer _) rfl) rfl (wq (aL rfl) rfl (wq (aE 1 oK rfl) rfl (wq (aM 1 (.slice _ _ _) pF M10 rfl rfl rfl) rfl (aV rfl rfl ?_))))))))
  refine gC rfl rfl (bJ rfl rfl (aB (aC (aN (iD (.slice _ _ _) (.int _ _) rfl rfl ?_)))))
  exact ⟨q, m0, rfl, hfm0, hgm0, hq, M10.keep [false, false, false, true]⟩
end Go.Proofs.YtlmcphcgiclanaaGreatDoor
