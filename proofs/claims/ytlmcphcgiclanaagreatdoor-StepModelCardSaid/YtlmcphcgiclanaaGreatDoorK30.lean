/- Part of the proof of the laws of this seat: V15, X15, Z5. No conditions. -/
import Derived.Test.YtlmcphcgiclanaaGreatDoorK5
import Derived.Test.YtlmcphcgiclanaaGreatDoorK26
import Derived.Test.YtlmcphcgiclanaaGreatDoorK29
import Derived.Test.YtlmcphcgiclanaaGreatDoorK18
import Derived.Test.YtlmcphcgiclanaaGreatDoorK11
set_option linter.unusedVariables false
set_option linter.unusedSimpArgs false
set_option linter.unnecessarySimpa false
namespace Go.Proofs.YtlmcphcgiclanaaGreatDoor
open Go.Bil
open Go.RowKit (Below)
open Go.Proofs
set_option maxHeartbeats 4000000 in
theorem aMk (w : World) (bl pm : Nat) (f : Int → Option Body) (em : eQ) (hme : kH .u32 qU f (some pm) em) (r : Row) (cs : List Con) (hr : bK 121 5 r.A r.n r.c ((cs).map bW) r.e) (hn : r.n ≤ 1099511627776) (z : Int × Int) (a b : Body) (h1 : f z.1 = some a) (h2 : f z.2 = some b) (ha : Okb a) (hb : Okb b) (hO : Own [(some bl, bc [.map (some pm), .slice r.A r.n r.c] 158), em, r.e] w) :
    Calls Tryz.prog 107 #[.pointer (some ⟨bl, 0, none⟩), (.agg (bX z).toArray)] w (fun ex w' => ∃ v, ex = .returned v ∧ (fun v w' => v = .tuple #[] ∧ ∃ q : Row, bK 121 5 q.A q.n q.c ((cs ++ (vI f z).toList).map bW) q.e ∧ Mem w (cT [(some bl, bc [.map (some pm), .slice r.A r.n r.c] 158), em, r.e]) [(some bl, bc [.map (some pm), .slice q.A q.n q.c] 158), em, q.e] w') v w') := by
  refine aL #[] 35 Tryz.func107 rfl Tryz.results107 Tryz.ntmps107 rfl ?_
  have M0 := hO.mem
  refine aH (aB ?_)
  refine bM (.agg (List.toArray _)) M0 rfl rfl rfl (fun b1 w1 M1 => ?_)
  refine aE (aF (aH ?_))
  refine aGz [(0, 0), (1, 0), (2, 0), (3, 1), (4, 0), (5, 1), (6, 1), (7, 0), (8, 0), (9, 0), (10, 1), (11, 0), (12, 1), (13, 1)] 14 18 [(15, 0), (16, 0), (17, 0), (18, 2), (19, 2), (20, 0)] [(14, 2), (15, 0), (16, 0), (17, 0), (19, 2), (20, 0)] mixed rfl (by kernel_rfl) (fun w2 hb2 hh2 => ?_)
  have M2 := M1.drew hb2 hh2
  refine oL rfl rfl rfl (fun _ => aC (.pointer _) rfl) ?_
  refine oL rfl rfl rfl (fun _ => bO rfl) ?_
  refine oL rfl rfl rfl (fun _ => aG 0 yO rfl) ?_
  refine yZ rfl rfl rfl (aQ 0 (.map _) wZ M2 rfl rfl rfl) ?_
  refine oL rfl rfl rfl (fun _ => aG 0 eZ rfl) ?_
  refine yZ rfl rfl rfl (aQ 3 (.int _ _) cO M2 rfl rfl rfl) ?_
  refine yZ rfl rfl rfl (jM (enc := qU) aVx 1 wD aUp M2 rfl hme rfl rfl) ?_
  refine aWo 13 ((.agg (aI a).toArray)) (congrArg qU (by rw [h1]; rfl)) ?_
  refine oL rfl rfl rfl (fun _ => aC (.pointer _) rfl) ?_
  refine oL rfl rfl rfl (fun _ => bO rfl) ?_
  refine oL rfl rfl rfl (fun _ => aG 0 yO rfl) ?_
  refine yZ rfl rfl rfl (aQ 0 (.map _) wZ M2 rfl rfl rfl) ?_
  refine oL rfl rfl rfl (fun _ => aG 1 gU rfl) ?_
  refine yZ rfl rfl rfl (aQ 3 (.int _ _) cO M2 rfl rfl rfl) ?_
  refine yZ rfl rfl rfl (jM (enc := qU) aVx 1 wD aUp M2 rfl hme rfl rfl) ?_
  refine aWo 20 ((.agg (aI b).toArray)) (congrArg qU (by rw [h2]; rfl)) ?_
  refine aCb ?_ ?_
  · refine eN [true, true, true, true, true, true] rfl (by kernel_rfl) ?_
    refine aM aSs rfl rfl rfl ?_
    refine (wT _ a b ha hb).mono ?_
    rintro _ w3 ⟨v3, rfl, ⟨rfl, hb3⟩⟩
    refine ⟨_, rfl, ?_⟩
    have M3 := M2.callB hb3
    refine aE (aF ⟨eM, ?_⟩)
    refine aP rfl rfl rfl (fun _ => aC (.tuple (List.toArray _)) rfl) ?_
    refine aP rfl rfl rfl (fun _ => bI (.agg (List.toArray _)) rfl rfl) ?_
    refine aP rfl rfl rfl (fun _ => bI (.bool _) rfl rfl) ?_
    refine eN [] rfl (by kernel_rfl) ?_
    refine aV kB M3 rfl rfl (fun b4 w4 M4 => ?_)
    refine aE (aF ⟨eM, ?_⟩)
    refine eN [] rfl (by kernel_rfl) ?_
    refine bL 4 _ dP M4 rfl rfl rfl rfl rfl (bA rfl) rfl (fun w5 M5 => ?_)
    refine aE (aF ⟨eM, ?_⟩)
    refine aP rfl rfl rfl (fun _ => aD (.bool _) rfl) ?_
    refine cI ?_
    refine aF (aH (aB ?_))
    refine aA (aC (.bool _) rfl) rfl rfl ?_
    refine aE (aF ?_)
    refine iG _ rfl (fun h24 => ?_) (fun h24 => ?_)
    · obtain ⟨cc, hcc⟩ := Option.isSome_iff_exists.1 h24
      refine bY [(0, 0), (1, 0), (2, 0), (3, 0), (4, 1), (5, 1), (6, 2), (7, 2), (8, 0), (9, 0), (10, 2)] mixed rfl (by kernel_rfl) (fun w6 hb6 hh6 => ?_)
      have M6 := M5.drew hb6 hh6
      refine aP rfl rfl rfl (fun _ => aC (.pointer _) rfl) ?_
      refine aP rfl rfl rfl (fun _ => aC (.pointer _) rfl) ?_
      refine aP rfl rfl rfl (fun _ => bO rfl) ?_
      refine aP rfl rfl rfl (fun _ => aG 1 oZ rfl) ?_
      refine cB rfl rfl rfl (aQ 0 (.slice _ _ _) oP M6 rfl rfl rfl) ?_
      refine cB rfl rfl rfl (aR 4 dP M6 rfl rfl rfl) ?_
      refine eG 30 (.agg (bW cc).toArray) (congrArg (fun o => Value.agg (aEm o).toArray) hcc) ?_
      refine eN [true, false] rfl (by kernel_rfl) ?_
      refine cR [.agg (List.toArray _)] [bW cc] rfl vH M6 rfl rfl rfl rfl (cZ rfl) (by decide) (fun b7 w7 M7 => ?_)
      refine aE (aF ⟨(fH (cF rfl (aQ 0 (.slice _ _ _) oP M7 rfl rfl rfl)) eM), ?_⟩)
      refine eN [true] rfl (by kernel_rfl) ?_
      refine dB 2 [bW cc] vH M7 rfl rfl rfl rfl rfl hr rfl (by simp [bW, Go.Bil.one]) (dD.ofMem 5 M7 rfl) (by omega) (fun A8 c8 e8 w8 M8 hR8 => ?_)
      refine aE (aF ⟨eM, ?_⟩)
      refine aP rfl rfl rfl (fun _ => bO rfl) ?_
      refine aP rfl rfl rfl (fun _ => aG 1 oZ rfl) ?_
      refine eN [] rfl (by kernel_rfl) ?_
      refine cY 0 (.slice _ _ _) oP M8 rfl rfl rfl rfl rfl rfl (fun w9 M9 => ?_)
      refine aE (aF ⟨eM, ?_⟩)
      refine cI ?_
      refine jQ ?_
      exact ⟨rfl, ⟨A8, r.n + 1, c8, e8⟩, by rw [nZ h1 h2, hcc, List.map_append]; exact hR8, M9.keep [true, true, true, false, false, false]⟩
    · have hcc : iC a b = none := by simpa using h24
      refine aO ?_
      refine jQ ?_
      exact ⟨rfl, r, by rw [nZ h1 h2, hcc]; simpa using hr, M5.keep [true, true, true, false, false]⟩
  · refine eN [false, false, false, false, false, false] rfl (by kernel_rfl) ?_
    refine aV kB M2 rfl rfl (fun b10 w10 M10 => ?_)
    refine aE (aF ⟨(fH (cF rfl (jM (enc := qU) aVx 1 wD aUp M10 rfl hme rfl rfl)) (fH (cF rfl (aQ 3 (.int _ _) cO M10 rfl rfl rfl)) (fH (cF rfl (aQ 0 (.map _) wZ M10 rfl rfl rfl)) (fH (cF rfl (jM (enc := qU) aVx 1 wD aUp M10 rfl hme rfl rfl)) (fH (cF rfl (aQ 3 (.int _ _) cO M10 rfl rfl rfl)) (fH (cF rfl (aQ 0 (.map _) wZ M10 rfl rfl rfl)) eM)))))), ?_⟩)
    refine eN [true, true, true, true, true, true] rfl (by kernel_rfl) ?_
    refine aM aSs rfl rfl rfl ?_
    refine (wT _ a b ha hb).mono ?_
    rintro _ w11 ⟨v11, rfl, ⟨rfl, hb11⟩⟩
    refine ⟨_, rfl, ?_⟩
    have M11 := M10.callB hb11
    refine aE (aF ⟨eM, ?_⟩)
    refine aP rfl rfl rfl (fun _ => aC (.tuple (List.toArray _)) rfl) ?_
    refine aP rfl rfl rfl (fun _ => bI (.agg (List.toArray _)) rfl rfl) ?_
    refine aP rfl rfl rfl (fun _ => bI (.bool _) rfl rfl) ?_
    refine eN [] rfl (by kernel_rfl) ?_
    refine bL 4 _ dP M11 rfl rfl rfl rfl rfl (bA rfl) rfl (fun w12 M12 => ?_)
    refine aE (aF ⟨eM, ?_⟩)
    refine aP rfl rfl rfl (fun _ => aD (.bool _) rfl) ?_
    refine cI ?_
    refine aF (aH (aB ?_))
    refine aA (aC (.bool _) rfl) rfl rfl ?_
    refine aE (aF ?_)
    refine iG _ rfl (fun h24 => ?_) (fun h24 => ?_)
    · obtain ⟨cc, hcc⟩ := Option.isSome_iff_exists.1 h24
      refine bY [(0, 0), (1, 0), (2, 0), (3, 0), (4, 1), (5, 1), (6, 2), (7, 2), (8, 0), (9, 0), (10, 2)] mixed rfl (by kernel_rfl) (fun w13 hb13 hh13 => ?_)
      have M13 := M12.drew hb13 hh13
      refine aP rfl rfl rfl (fun _ => aC (.pointer _) rfl) ?_
      refine aP rfl rfl rfl (fun _ => aC (.pointer _) rfl) ?_
      refine aP rfl rfl rfl (fun _ => bO rfl) ?_
      refine aP rfl rfl rfl (fun _ => aG 1 oZ rfl) ?_
      refine cB rfl rfl rfl (aQ 0 (.slice _ _ _) oP M13 rfl rfl rfl) ?_
      refine cB rfl rfl rfl (aR 4 dP M13 rfl rfl rfl) ?_
      refine eG 30 (.agg (bW cc).toArray) (congrArg (fun o => Value.agg (aEm o).toArray) hcc) ?_
      refine eN [true, false] rfl (by kernel_rfl) ?_
      refine cR [.agg (List.toArray _)] [bW cc] rfl vH M13 rfl rfl rfl rfl (cZ rfl) (by decide) (fun b14 w14 M14 => ?_)
      refine aE (aF ⟨(fH (cF rfl (aQ 0 (.slice _ _ _) oP M14 rfl rfl rfl)) eM), ?_⟩)
      refine eN [true] rfl (by kernel_rfl) ?_
      refine dB 2 [bW cc] vH M14 rfl rfl rfl rfl rfl hr rfl (by simp [bW, Go.Bil.one]) (dD.ofMem 5 M14 rfl) (by omega) (fun A15 c15 e15 w15 M15 hR15 => ?_)
      refine aE (aF ⟨eM, ?_⟩)
      refine aP rfl rfl rfl (fun _ => bO rfl) ?_
      refine aP rfl rfl rfl (fun _ => aG 1 oZ rfl) ?_
      refine eN [] rfl (by kernel_rfl) ?_
      refine cY 0 (.slice _ _ _) oP M15 rfl rfl rfl rfl rfl rfl (fun w16 M16 => ?_)
      refine aE (aF ⟨eM, ?_⟩)
      refine cI ?_
      refine jQ ?_
      exact ⟨rfl, ⟨A15, r.n + 1, c15, e15⟩, by rw [nZ h1 h2, hcc, List.map_append]; exact hR15, M16.keep [true, true, true, false, false, false]⟩
    · have hcc : iC a b = none := by simpa using h24
      refine aO ?_
      refine jQ ?_
      exact ⟨rfl, r, by rw [nZ h1 h2, hcc]; simpa using hr, M12.keep [true, true, true, false, false]⟩
set_option maxHeartbeats 4000000 in
theorem zC (w : World) (A : Option Addr) (n c : Nat) (zs : List (Int × Int)) (R : Rd w 2 A n (zs.map bX)) (bl pm : Nat) (f : Int → Option Body) (em : eQ) (hme : kH .u32 qU f (some pm) em) (r : Row) (hr : bK 121 5 r.A r.n r.c (([]).map bW) r.e) (hz : ∀ z ∈ zs, ∃ a b, f z.1 = some a ∧ f z.2 = some b ∧ Okb a ∧ Okb b) (hn : n ≤ 1099511627776) (hO : Own [(some bl, bc [.map (some pm), .slice r.A r.n r.c] 158), em, r.e] w) (hdA : 0 < n → ∀ q off, A = some ⟨q, off, none⟩ → q ∉ cT [(some bl, bc [.map (some pm), .slice r.A r.n r.c] 158), em, r.e]) :
    Calls Tryz.prog 106 #[.slice A n c, .func (.func 107) #[.pointer (some ⟨bl, 0, none⟩)] #[]] w (fun ex w' => ∃ v, ex = .returned v ∧ (fun v w' => v = .tuple #[] ∧ ∃ q : Row, bK 121 5 q.A q.n q.c ((zs.filterMap (vI f)).map bW) q.e ∧ Mem w (cT [(some bl, bc [.map (some pm), .slice r.A r.n r.c] 158), em, r.e]) [(some bl, bc [.map (some pm), .slice q.A q.n q.c] 158), em, q.e] w') v w') := by
  have hlen : zs.length = n := by simpa using R.len
  refine aL #[] 16 Tryz.func106 rfl Tryz.results106 Tryz.ntmps106 rfl ?_
  have M0 := hO.mem
  refine aH (aB ?_)
  refine aA (aC (.slice _ _ _) rfl) rfl rfl ?_
  refine aA (dE Tryz.underlying159 rfl) rfl rfl ?_
  refine aA (aC (.int _ _) rfl) rfl rfl ?_
  refine aE (aF (aT ?_))
  refine dM (σ := Nat × Row) [1, 6, 7] (fun (k, q) => [(8, .int .i64 (k : Int))]) (fun (k, q) w' => (k ≤ n ∧ bK 121 5 q.A q.n q.c (((zs.take k).filterMap (vI f)).map bW) q.e) ∧ Mem w (cT [(some bl, bc [.map (some pm), .slice r.A r.n r.c] 158), em, r.e]) [(some bl, bc [.map (some pm), .slice q.A q.n q.c] 158), em, q.e] w') (fun (k, q) => n - k) (0, r) (bB rfl dO) (⟨⟨by omega, hr⟩, M0⟩) ?_
  rintro ⟨k, q⟩ ρ1 w1 ⟨⟨hk, hq⟩, hM1⟩
  have hfl := List.length_filterMap_le (vI f) (zs.take k)
  have htl := List.length_take_le k zs
  have hql : ((zs.take k).filterMap (vI f)).length = q.n := by simpa using hq.1
  refine aH (aB ?_)
  refine aA (aN (.bool (decide _)) rfl rfl rfl) rfl rfl ?_
  refine aE (aF (aH ?_))
  refine aX rfl (fun h9 => ?_) (fun h9 => ?_)
  · obtain ⟨xz, hxz⟩ := dA (k := k) hlen (by omega)
    obtain ⟨za, zb, hza, hzb, hoa, hob⟩ := hz xz (List.mem_of_getElem? hxz)
    refine aO (aF (aH (aT (aH (aB ?_)))))
    refine aA (bN (k) rS rfl rfl rfl ((R.memY hM1 hdA).below_len (aJ bX hxz)) ((R.memY hM1 hdA).someK (aJ bX hxz))) rfl rfl ?_
    refine aA (dG _ gI (R.memY hM1 hdA) (aJ bX hxz) rfl) rfl rfl ?_
    refine aV pM hM1 rfl rfl (fun b2 w2 M2 => ?_)
    refine bL 3 _ gI M2 rfl rfl rfl rfl rfl (bA rfl) rfl (fun w3 M3 => ?_)
    refine aE (aF (aB ?_))
    refine aA (aC (.func _ _ _) rfl) rfl rfl ?_
    refine aA (aR 3 gI M3 rfl rfl rfl) rfl rfl ?_
    refine aM bAc rfl rfl rfl ?_
    refine (aMk _ bl pm f em hme q _ hq (by omega) xz za zb hza hzb hoa hob (M3.ownSeg 0 3)).mono ?_
    rintro _ w4 ⟨v4, rfl, ⟨rfl, q2, hq2, hM4⟩⟩
    refine ⟨_, rfl, ?_⟩
    have M4 : Mem _ _ [_, _, _, _] _ := M3.seg 0 3 hM4
    refine aE ?_
    refine cS ?_
    refine aF (aB ?_)
    refine aA (aZ rfl rfl (by omega) (by omega)) rfl rfl ?_
    refine aA (aC (.int _ _) rfl) rfl rfl ?_
    refine aE ?_
    refine cA (k + 1, q2) (bB rfl dO) (cD rfl (cD rfl (cD rfl fS))) ?_ ?_
    · exact ⟨⟨by omega, by rw [aTv hxz]; exact hq2⟩, M4.keep [true, true, true, false]⟩
    · (show n - (k + 1) < n - k; omega)
  · have hkn : k = n := by omega
    rw [List.take_of_length_le (by omega)] at hq
    refine cQ ?_
    refine cX ?_
    refine dF ?_
    refine eJ ?_
    refine jQ ?_
    exact ⟨rfl, q, hq, hM1⟩
set_option maxHeartbeats 8000000 in
theorem aBh (w : World) (F : Rd w 2 (some ⟨0, 0, none⟩) 1 [[.int .u32 73856093, .int .u32 19349663]]) (N : Rd w 4 (some ⟨3, 0, none⟩) 1 [dV kA]) (A : Option Addr) (n c : Nat) (xs : List Body) (R : Rd w 10 A n (xs.map aI)) (hb : ∀ b ∈ xs, Okb b) (hs : cG xs) (hn : n ≤ 4096) :
    Calls Tryz.prog 71 #[.slice A n c] w (fun ex w' => ∃ v, ex = .returned v ∧ (fun v w' => ∃ (r : Row) (m : Nat), v = .tuple #[.slice r.A r.n r.c, .int .i64 (m : Int)] ∧ (kP xs).length ≤ m ∧ 2 * m ≤ xs.length * (xs.length - 1) ∧ bK 121 5 r.A r.n r.c ((jG xs).map bW) r.e ∧ Mem w [] [r.e] w') v w') := by
  have hlen : xs.length = n := by simpa using R.len
  have hbd := R.bound
  refine aL #[.tmp 2, .tmp 3] 39 Tryz.func71 rfl Tryz.results71 Tryz.ntmps71 rfl ?_
  have M0 := Mem.refl w
  refine aH (aB ?_)
  refine aA (aD (.slice _ _ _) rfl) rfl rfl ?_
  refine aA (aD (.int _ _) rfl) rfl rfl ?_
  refine aE (aF (aH (aB ?_)))
  refine nV M0 rfl rfl (fun b1 w1 M1 => ?_)
  refine aA (cL [(0, .map _)] _ aNo rfl rfl) rfl rfl ?_
  refine bM (.agg (List.toArray _)) M1 rfl rfl rfl (fun b2 w2 M2 => ?_)
  refine aA (aD (.pointer _) rfl) rfl rfl ?_
  refine aE (aF (aH (aH (aB ?_))))
  refine aA (aC (.slice _ _ _) rfl) rfl rfl ?_
  refine aA (dE Tryz.underlying22 rfl) rfl rfl ?_
  refine aA (aC (.int _ _) rfl) rfl rfl ?_
  refine aE (aF (aT ?_))
  refine dM (σ := Nat × eQ) [0, 2, 3, 4, 11, 12] (fun (k, em) => [(13, .int .i64 (k : Int))]) (fun (k, em) w' => (k ≤ n ∧ kH .u32 qU (boM (xs.take k)) (some b1) em) ∧ Mem w [] [em, (some b2, bc [.map (some b1), .slice none 0 0] 158)] w') (fun (k, em) => n - k) (0, (some b1, .map #[] 0)) (bB rfl dO) (⟨⟨by omega, (kH.empty _ _ b1).congr (fun q => by rw [List.take_zero]; exact aTs q)⟩, M2⟩) ?_
  rintro ⟨k, em⟩ ρ3 w3 ⟨⟨hk, hme⟩, hM3⟩
  refine aH (aB ?_)
  refine aA (aN (.bool (decide _)) rfl rfl rfl) rfl rfl ?_
  refine aE (aF (aH ?_))
  refine aX rfl (fun h14 => ?_) (fun h14 => ?_)
  · obtain ⟨xb, hxb⟩ := dA (k := k) hlen (by omega)
    refine aO (aF (aH (aT (aH (aB ?_)))))
    refine aA (bN (k) cW rfl rfl rfl ((R.mem hM3).below_len (aJ aI hxb)) ((R.mem hM3).someK (aJ aI hxb))) rfl rfl ?_
    refine aA (dG _ bP (R.mem hM3) (aJ aI hxb) rfl) rfl rfl ?_
    refine aV gG hM3 rfl rfl (fun b4 w4 M4 => ?_)
    refine bL 2 _ bP M4 rfl rfl rfl rfl rfl (bA rfl) rfl (fun w5 M5 => ?_)
    refine aE (aF ?_)
    refine bY [(0, 0), (1, 0), (2, 0), (3, 1), (4, 0), (5, 1), (6, 1), (7, 2)] mixed rfl (by kernel_rfl) (fun w6 hb6 hh6 => ?_)
    have M6 := M5.drew hb6 hh6
    refine aP rfl rfl rfl (fun _ => aC (.pointer _) rfl) ?_
    refine aP rfl rfl rfl (fun _ => bO rfl) ?_
    refine aP rfl rfl rfl (fun _ => aG 0 yO rfl) ?_
    refine cB rfl rfl rfl (aQ 1 (.map _) wZ M6 rfl rfl rfl) ?_
    refine aP rfl rfl rfl (fun _ => aG 0 dL rfl) ?_
    refine cB rfl rfl rfl (aQ 2 (.int _ _) cO M6 rfl rfl rfl) ?_
    refine cB rfl rfl rfl (aR 2 bP M6 rfl rfl rfl) ?_
    refine eN [true, true, true] rfl (by kernel_rfl) ?_
    refine nO (enc := qU) 0 wD M6 rfl rfl hme rfl rfl rfl rfl (fun e7 w7 hm7 M7 => ?_)
    refine aE (aF ⟨eM, ?_⟩)
    refine cI ?_
    refine cS ?_
    refine aF (aB ?_)
    refine aA (aZ rfl rfl (by omega) (by omega)) rfl rfl ?_
    refine aA (aC (.int _ _) rfl) rfl rfl ?_
    refine aE ?_
    refine cA (k + 1, e7) (bB rfl dO) (cD rfl (cD rfl (cD rfl (cD rfl (cD rfl (cD rfl fS)))))) ?_ ?_
    · exact ⟨⟨by omega, hm7.congr (fun q => aPo hxb q)⟩, M7.keep [true, true, false]⟩
    · (show n - (k + 1) < n - k; omega)
  · have hkn : k = n := by omega
    rw [List.take_of_length_le (by omega)] at hme
    refine cQ ?_
    refine cX ?_
    refine dF ?_
    refine eJ ?_
    refine aF (aH (aB ?_))
    refine aA (aC (.slice _ _ _) rfl) rfl rfl ?_
    refine aM aXf rfl rfl rfl ?_
    refine (aIa _ (F.mem hM3) (N.mem hM3) _ _ _ xs (R.mem hM3) hb hs (by first | decide | omega)).mono ?_
    rintro _ w8 ⟨v8, rfl, ⟨r0, m0, rfl, hfm0, hgm0, hr0, hM8⟩⟩
    refine ⟨_, rfl, ?_⟩
    have M8 : Mem _ _ [_, _, _] _ := hM3.call0 hM8
    refine aA (aC (.tuple (List.toArray _)) rfl) rfl rfl ?_
    refine aA (bI (.slice _ _ _) rfl rfl) rfl rfl ?_
    refine aA (bI (.int _ _) rfl rfl) rfl rfl ?_
    refine aA (aD (.slice _ _ _) rfl) rfl rfl ?_
    refine aA (aD (.int _ _) rfl) rfl rfl ?_
    refine aE (aF (aH (aB ?_)))
    refine aA (aC (.slice _ _ _) rfl) rfl rfl ?_
    refine aA (aC (.pointer _) rfl) rfl rfl ?_
    refine aA (eH [.pointer _] [] rfl rfl) rfl rfl ?_
    have M9 : Mem _ _ [_, _, _, _] _ := Mem.orderC (M8.dummy default)
    have hfl : (kP xs).length = r0.n := by simpa using hr0.1
    have hnn : xs.length * (xs.length - 1) ≤ 4096 * 4096 := Nat.mul_le_mul (by omega) (by omega)
    refine aM aYl rfl rfl rfl ?_
    refine (zC _ r0.A r0.n r0.c (kP xs) (hr0.rd M9 (bH (i := 0) rfl)) b2 b1 (boM xs) em hme gH (bK.nil _ _ _) (fun z hz => by obtain ⟨a, b, h1, h2, _, _, h3, h4⟩ := uK hs hz; exact ⟨a, b, h3, h4, hb a h1, hb b h2⟩) (by omega) (M9.ownSeg 1 3) (hr0.apartTail M9)).mono ?_
    rintro _ w10 ⟨v10, rfl, ⟨rfl, q, hq, hM10⟩⟩
    refine ⟨_, rfl, ?_⟩
    have M10 : Mem _ _ [_, _, _, _] _ := M9.seg 1 3 hM10
    refine aE (aF (aH (aB ?_)))
    refine aA (aC (.pointer _) rfl) rfl rfl ?_
    refine aA (bO rfl) rfl rfl ?_
    refine aA (aG 1 oZ rfl) rfl rfl ?_
    refine aA (aQ 1 (.slice _ _ _) oP M10 rfl rfl rfl) rfl rfl ?_
    refine aA (aC (.int _ _) rfl) rfl rfl ?_
    refine aA (aD (.slice _ _ _) rfl) rfl rfl ?_
    refine aA (aD (.int _ _) rfl) rfl rfl ?_
    refine aE (aF (aU ?_))
    refine fR (.slice _ _ _) (.int _ _) rfl rfl ?_
    exact ⟨q, m0, rfl, hfm0, hgm0, hq, M10.keep [false, false, false, true]⟩
end Go.Proofs.YtlmcphcgiclanaaGreatDoor

namespace Go.Proofs.YtlmcphcgiclanaaGreatDoor
open Go.Bil
open Go.RowKit (Below)
open Go.Proofs
end Go.Proofs.YtlmcphcgiclanaaGreatDoor

namespace Go.Proofs.YtlmcphcgiclanaaGreatDoor
open Go.Bil
open Go.RowKit (Below)
open Go.Proofs
set_option maxHeartbeats 8000000 in
theorem aLw (w : World) (A : Option Addr) (n c : Nat) (xs : List Body) (R : Rd w 10 A n (xs.map aI)) (hb : ∀ b ∈ xs, Okb b) (hs : cG xs) (hn : n ≤ 65536) :
    Calls Tryz.prog 44 #[.slice A n c] w (fun ex w' => ∃ v, ex = .returned v ∧ (fun v w' => ∃ r : Row, v = .slice r.A r.n r.c ∧ bK 121 5 r.A r.n r.c ((jG xs).map bW) r.e ∧ Mem w [] [r.e] w') v w') := by
  have hlen : xs.length = n := by simpa using R.len
  have hbd := R.bound
  refine aL #[.tmp 2] 40 Tryz.func44 rfl Tryz.results44 Tryz.ntmps44 rfl ?_
  have M0 := Mem.refl w
  refine aH (aB ?_)
  refine aA (aD (.slice _ _ _) rfl) rfl rfl ?_
  refine aE (aF (aH (aB ?_)))
  refine aA (aD (.slice _ _ _) rfl) rfl rfl ?_
  have M1 := M0.dummy default
  refine aE (aF (aH (aH (aB ?_))))
  refine aA (aD (.int _ _) rfl) rfl rfl ?_
  refine aE (aF (aT ?_))
  refine dM (σ := Nat × Row) [0, 2] (fun (i, r) => [(3, .slice r.A r.n r.c), (4, .int .i64 (i : Int))]) (fun (i, r) w' => (i ≤ n ∧ bK 121 5 r.A r.n r.c ((aGx xs i).map bW) r.e) ∧ Mem w [] [r.e] w') (fun (i, r) => n - i) (0, gH) (bB rfl (bB rfl dO)) (⟨⟨by omega, bK.nil _ _ _⟩, M1⟩) ?_
  rintro ⟨i, r⟩ ρ2 w2 ⟨⟨hi, hr⟩, hM2⟩
  refine aH (aH (aB ?_))
  refine aA (aC (.int _ _) rfl) rfl rfl ?_
  refine aA (aC (.slice _ _ _) rfl) rfl rfl ?_
  refine aA (dE Tryz.underlying22 rfl) rfl rfl ?_
  refine aA (aN (.bool (decide _)) rfl rfl rfl) rfl rfl ?_
  refine aE (aF ?_)
  refine aX rfl (fun h11 => ?_) (fun h11 => ?_)
  · obtain ⟨xa, hxa⟩ := dA (k := i) hlen (by omega)
    refine aO (aF (aH (aT (aH (aB ?_)))))
    refine aA (aC (.int _ _) rfl) rfl rfl ?_
    refine aA (aZ rfl rfl (by omega) (by omega)) rfl rfl ?_
    refine aA (aD (.int _ _) rfl) rfl rfl ?_
    refine aE (aF (aT ?_))
    refine dM (σ := Nat × Row) [0, 2, 4] (fun (k, q) => [(3, .slice q.A q.n q.c), (5, .int .i64 (k : Int))]) (fun (k, q) w' => (i + 1 ≤ k ∧ k ≤ n ∧ bK 121 5 q.A q.n q.c ((aGx xs i ++ yV xs i k).map bW) q.e) ∧ Mem w [] [q.e] w') (fun (k, q) => n - k) (i + 1, r) (bB rfl (bB rfl dO)) (⟨⟨by omega, by omega, by rw [aHz, List.append_nil]; exact hr⟩, hM2⟩) ?_
    rintro ⟨k, q⟩ ρ3 w3 ⟨⟨hik, hk, hq⟩, hM3⟩
    have hfl := aRg xs i
    have hfm : i * xs.length ≤ 65536 * 65536 := Nat.mul_le_mul (by omega) (by omega)
    have hrw := aOf xs i k
    have hql : (aGx xs i ++ yV xs i k).length = q.n := by simpa using hq.1
    rw [List.length_append] at hql
    refine aH (aH (aB ?_))
    refine aA (aC (.int _ _) rfl) rfl rfl ?_
    refine aA (aC (.slice _ _ _) rfl) rfl rfl ?_
    refine aA (dE Tryz.underlying22 rfl) rfl rfl ?_
    refine aA (aN (.bool (decide _)) rfl rfl rfl) rfl rfl ?_
    refine aE (aF ?_)
    refine aX rfl (fun h19 => ?_) (fun h19 => ?_)
    · obtain ⟨xb, hxb⟩ := dA (k := k) hlen (by omega)
      refine aO (aF (aH (aT (aH ?_))))
      refine aGz [(0, 0), (1, 0), (2, 1), (3, 1), (4, 0), (5, 0), (6, 1), (7, 1)] 8 12 [(9, 0), (10, 0), (11, 0), (12, 2), (13, 2), (14, 0)] [(8, 2), (9, 0), (10, 0), (11, 0), (13, 2), (14, 0)] mixed rfl (by kernel_rfl) (fun w4 hb4 hh4 => ?_)
      have M4 := hM3.drew hb4 hh4
      refine oL rfl rfl rfl (fun _ => aC (.slice _ _ _) rfl) ?_
      refine oL rfl rfl rfl (fun _ => aC (.int _ _) rfl) ?_
      refine yZ rfl rfl rfl (bN (i) cW rfl rfl rfl ((R.mem M4).below_len (aJ aI hxa)) ((R.mem M4).someK (aJ aI hxa))) ?_
      refine yZ rfl rfl rfl (dG _ bP (R.mem M4) (aJ aI hxa) rfl) ?_
      refine oL rfl rfl rfl (fun _ => aC (.slice _ _ _) rfl) ?_
      refine oL rfl rfl rfl (fun _ => aC (.int _ _) rfl) ?_
      refine yZ rfl rfl rfl (bN (k) cW rfl rfl rfl ((R.mem M4).below_len (aJ aI hxb)) ((R.mem M4).someK (aJ aI hxb))) ?_
      refine yZ rfl rfl rfl (dG _ bP (R.mem M4) (aJ aI hxb) rfl) ?_
      refine aCb ?_ ?_
      · refine eN [true, true, true, true] rfl (by kernel_rfl) ?_
        refine aM aPu rfl rfl rfl ?_
        refine (aDw _ xa xb (hb xa (List.mem_of_getElem? hxa)) (hb xb (List.mem_of_getElem? hxb))).mono ?_
        rintro _ w5 ⟨v5, rfl, ⟨rfl, hb5⟩⟩
        refine ⟨_, rfl, ?_⟩
        have M5 := M4.callB hb5
        refine aE (aF ⟨eM, ?_⟩)
        refine aP rfl rfl rfl (fun _ => aC (.tuple (List.toArray _)) rfl) ?_
        refine aP rfl rfl rfl (fun _ => bI (.agg (List.toArray _)) rfl rfl) ?_
        refine aP rfl rfl rfl (fun _ => bI (.bool _) rfl rfl) ?_
        refine eN [] rfl (by kernel_rfl) ?_
        refine aV kB M5 rfl rfl (fun b6 w6 M6 => ?_)
        refine aE (aF ⟨eM, ?_⟩)
        refine eN [] rfl (by kernel_rfl) ?_
        refine bL 1 _ dP M6 rfl rfl rfl rfl rfl (bA rfl) rfl (fun w7 M7 => ?_)
        refine aE (aF ⟨eM, ?_⟩)
        refine aP rfl rfl rfl (fun _ => aD (.bool _) rfl) ?_
        refine cI ?_
        refine aF (aH (aB ?_))
        refine aA (aC (.bool _) rfl) rfl rfl ?_
        refine aE (aF ?_)
        refine iG _ rfl (fun h34 => ?_) (fun h34 => ?_)
        · obtain ⟨cc, hcc⟩ := Option.isSome_iff_exists.1 h34
          refine aB ?_
          refine aA (aC (.slice _ _ _) rfl) rfl rfl ?_
          refine aA (aR 1 dP M7 rfl rfl rfl) rfl rfl ?_
          refine aK 36 (.agg (bW cc).toArray) (congrArg (fun o => Value.agg (aEm o).toArray) hcc) ?_
          refine cR [.agg (List.toArray _)] [bW cc] rfl vH M7 rfl rfl rfl rfl (cZ rfl) (by decide) (fun b8 w8 M8 => ?_)
          refine dB 0 [bW cc] vH M8 rfl rfl rfl rfl rfl hq rfl (by simp [bW, Go.Bil.one]) (dD.ofMem 2 M8 rfl) (by omega) (fun A9 c9 e9 w9 M9 hR9 => ?_)
          refine aA (aD (.slice _ _ _) rfl) rfl rfl ?_
          refine aE ?_
          refine cS ?_
          refine aF (aB ?_)
          refine aA (aC (.int _ _) rfl) rfl rfl ?_
          refine aA (aZ rfl rfl (by omega) (by omega)) rfl rfl ?_
          refine aA (aD (.int _ _) rfl) rfl rfl ?_
          refine aE ?_
          refine cA (k + 1, ⟨A9, q.n + 1, c9, e9⟩) (bB rfl (bB rfl dO)) (cD rfl (cD rfl (cD rfl fS))) ?_ ?_
          · exact ⟨⟨by omega, by omega, by rw [qD hs hb hxa hxb (by omega), hcc, ← List.append_assoc, List.map_append]; exact hR9⟩, M9.keep [true, false, false]⟩
          · (show n - (k + 1) < n - k; omega)
        · have hcc : iC xa xb = none := by simpa using h34
          refine aO ?_
          refine cS ?_
          refine aF (aB ?_)
          refine aA (aC (.int _ _) rfl) rfl rfl ?_
          refine aA (aZ rfl rfl (by omega) (by omega)) rfl rfl ?_
          refine aA (aD (.int _ _) rfl) rfl rfl ?_
          refine aE ?_
          refine cA (k + 1, q) (bB rfl (bB rfl dO)) (cD rfl (cD rfl (cD rfl fS))) ?_ ?_
          · exact ⟨⟨by omega, by omega, by rw [qD hs hb hxa hxb (by omega), hcc, ← List.append_assoc]; simpa using hq⟩, M7.keep [true, false]⟩
          · (show n - (k + 1) < n - k; omega)
      · refine eN [false, false, false, false] rfl (by kernel_rfl) ?_
        refine aV kB M4 rfl rfl (fun b10 w10 M10 => ?_)
        refine aE (aF ⟨(fH (cF rfl (dG _ bP (R.mem M10) (aJ aI hxb) rfl)) (fH (cF rfl (bN (k) cW rfl rfl rfl ((R.mem M10).below_len (aJ aI hxb)) ((R.mem M10).someK (aJ aI hxb)))) (fH (cF rfl (dG _ bP (R.mem M10) (aJ aI hxa) rfl)) (fH (cF rfl (bN (i) cW rfl rfl rfl ((R.mem M10).below_len (aJ aI hxa)) ((R.mem M10).someK (aJ aI hxa)))) eM)))), ?_⟩)
        refine eN [true, true, true, true] rfl (by kernel_rfl) ?_
        refine aM aPu rfl rfl rfl ?_
        refine (aDw _ xa xb (hb xa (List.mem_of_getElem? hxa)) (hb xb (List.mem_of_getElem? hxb))).mono ?_
        rintro _ w11 ⟨v11, rfl, ⟨rfl, hb11⟩⟩
        refine ⟨_, rfl, ?_⟩
        have M11 := M10.callB hb11
        refine aE (aF ⟨eM, ?_⟩)
        refine aP rfl rfl rfl (fun _ => aC (.tuple (List.toArray _)) rfl) ?_
        refine aP rfl rfl rfl (fun _ => bI (.agg (List.toArray _)) rfl rfl) ?_
        refine aP rfl rfl rfl (fun _ => bI (.bool _) rfl rfl) ?_
        refine eN [] rfl (by kernel_rfl) ?_
        refine bL 1 _ dP M11 rfl rfl rfl rfl rfl (bA rfl) rfl (fun w12 M12 => ?_)
        refine aE (aF ⟨eM, ?_⟩)
        refine aP rfl rfl rfl (fun _ => aD (.bool _) rfl) ?_
        refine cI ?_
        refine aF (aH (aB ?_))
        refine aA (aC (.bool _) rfl) rfl rfl ?_
        refine aE (aF ?_)
        refine iG _ rfl (fun h34 => ?_) (fun h34 => ?_)
        · obtain ⟨cc, hcc⟩ := Option.isSome_iff_exists.1 h34
          refine aB ?_
          refine aA (aC (.slice _ _ _) rfl) rfl rfl ?_
          refine aA (aR 1 dP M12 rfl rfl rfl) rfl rfl ?_
          refine aK 36 (.agg (bW cc).toArray) (congrArg (fun o => Value.agg (aEm o).toArray) hcc) ?_
          refine cR [.agg (List.toArray _)] [bW cc] rfl vH M12 rfl rfl rfl rfl (cZ rfl) (by decide) (fun b13 w13 M13 => ?_)
          refine dB 0 [bW cc] vH M13 rfl rfl rfl rfl rfl hq rfl (by simp [bW, Go.Bil.one]) (dD.ofMem 2 M13 rfl) (by omega) (fun A14 c14 e14 w14 M14 hR14 => ?_)
          refine aA (aD (.slice _ _ _) rfl) rfl rfl ?_
          refine aE ?_
          refine cS ?_
          refine aF (aB ?_)
          refine aA (aC (.int _ _) rfl) rfl rfl ?_
          refine aA (aZ rfl rfl (by omega) (by omega)) rfl rfl ?_
          refine aA (aD (.int _ _) rfl) rfl rfl ?_
          refine aE ?_
          refine cA (k + 1, ⟨A14, q.n + 1, c14, e14⟩) (bB rfl (bB rfl dO)) (cD rfl (cD rfl (cD rfl fS))) ?_ ?_
          · exact ⟨⟨by omega, by omega, by rw [qD hs hb hxa hxb (by omega), hcc, ← List.append_assoc, List.map_append]; exact hR14⟩, M14.keep [true, false, false]⟩
          · (show n - (k + 1) < n - k; omega)
        · have hcc : iC xa xb = none := by simpa using h34
          refine aO ?_
          refine cS ?_
          refine aF (aB ?_)
          refine aA (aC (.int _ _) rfl) rfl rfl ?_
          refine aA (aZ rfl rfl (by omega) (by omega)) rfl rfl ?_
          refine aA (aD (.int _ _) rfl) rfl rfl ?_
          refine aE ?_
          refine cA (k + 1, q) (bB rfl (bB rfl dO)) (cD rfl (cD rfl (cD rfl fS))) ?_ ?_
          · exact ⟨⟨by omega, by omega, by rw [qD hs hb hxa hxb (by omega), hcc, ← List.append_assoc]; simpa using hq⟩, M12.keep [true, false]⟩
          · (show n - (k + 1) < n - k; omega)
    · have hkn : k = n := by omega
      refine cQ ?_
      refine cX ?_
      refine dF ?_
      refine eJ ?_
      refine cS ?_
      refine aF (aB ?_)
      refine aA (aC (.int _ _) rfl) rfl rfl ?_
      refine aA (aZ rfl rfl (by omega) (by omega)) rfl rfl ?_
      refine aA (aD (.int _ _) rfl) rfl rfl ?_
      refine aE ?_
      refine cA (i + 1, q) (bB rfl (bB rfl dO)) (cD rfl (cD rfl fS)) ?_ ?_
      · exact ⟨⟨by omega, by rw [aMm, hlen, ← hkn]; exact hq⟩, hM3⟩
      · (show n - (i + 1) < n - i; omega)
  · have hin : i = n := by omega
    refine cQ ?_
    refine cX ?_
    refine dF ?_
    refine eJ ?_
    refine aF (aH (aB ?_))
    refine aA (aC (.slice _ _ _) rfl) rfl rfl ?_
    refine aA (aD (.slice _ _ _) rfl) rfl rfl ?_
    refine aE (aF (aU ?_))
    refine cU (.slice _ _ _) rfl ?_
    exact ⟨r, rfl, by unfold jG kP; rw [hlen, ← hin]; exact hr, hM2⟩
end Go.Proofs.YtlmcphcgiclanaaGreatDoor
