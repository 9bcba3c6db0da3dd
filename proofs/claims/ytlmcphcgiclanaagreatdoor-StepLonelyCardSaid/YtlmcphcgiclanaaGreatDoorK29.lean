/- Part of the proof of the laws of this seat: V15, X15, Z5. No conditions. -/
import Derived.Test.YtlmcphcgiclanaaGreatDoorK5
import Derived.Test.YtlmcphcgiclanaaGreatDoorK26
import Derived.Test.YtlmcphcgiclanaaGreatDoorK28
import Derived.Test.YtlmcphcgiclanaaGreatDoorK18
import Derived.Test.YtlmcphcgiclanaaGreatDoorK11
set_option linter.unusedVariables false
set_option linter.unusedSimpArgs false
set_option linter.unnecessarySimpa false
namespace Go.Proofs.YtlmcphcgiclanaaGreatDoor
open Go.Bil
open Go.RowKit (Below)
open Go.Proofs
set_option maxHeartbeats 4000000 in
theorem aKi (w : World) (bl pm : Nat) (f : Int → Option Body) (em : dW) (hme : iW .u32 oQ f (some pm) em) (r : Row) (cs : List Con) (hr : aX 121 5 r.A r.n r.c ((cs).map cC) r.e) (hn : r.n ≤ 1099511627776) (z : Int × Int) (a b : Body) (h1 : f z.1 = some a) (h2 : f z.2 = some b) (ha : Okb a) (hb : Okb b) (hO : Own [(some bl, bc [.map (some pm), .slice r.A r.n r.c] 158), em, r.e] w) :
    Calls Tryz.prog 107 #[.pointer (some ⟨bl, 0, none⟩), (.agg (bH z).toArray)] w (fun ex w' => ∃ v, ex = .returned v ∧ (fun v w' => v = .tuple #[] ∧ ∃ q : Row, aX 121 5 q.A q.n q.c ((cs ++ (wV f z).toList).map cC) q.e ∧ Mem w (bZ [(some bl, bc [.map (some pm), .slice r.A r.n r.c] 158), em, r.e]) [(some bl, bc [.map (some pm), .slice q.A q.n q.c] 158), em, q.e] w') v w') := by
  refine aK #[] 35 Tryz.func107 rfl Tryz.results107 Tryz.ntmps107 rfl ?_
  have M0 := hO.mem
  refine aH (aB ?_)
  refine bM (.agg (List.toArray _)) M0 rfl rfl rfl (fun b1 w1 M1 => ?_)
  refine aD (aF (aH ?_))
  refine aNz [(0, 0), (1, 0), (2, 0), (3, 1), (4, 0), (5, 1), (6, 1), (7, 0), (8, 0), (9, 0), (10, 1), (11, 0), (12, 1), (13, 1)] 14 18 [(15, 0), (16, 0), (17, 0), (18, 2), (19, 2), (20, 0)] [(14, 2), (15, 0), (16, 0), (17, 0), (19, 2), (20, 0)] mixed rfl (by kernel_rfl) (fun w2 hb2 hh2 => ?_)
  have M2 := M1.drew hb2 hh2
  refine rJ rfl rfl rfl (fun _ => aC (.pointer _) rfl) ?_
  refine rJ rfl rfl rfl (fun _ => bA rfl) ?_
  refine rJ rfl rfl rfl (fun _ => aI 0 uK rfl) ?_
  refine aIz rfl rfl rfl (aV 0 (.map _) vY M2 rfl rfl rfl) ?_
  refine rJ rfl rfl rfl (fun _ => aI 0 lR rfl) ?_
  refine aIz rfl rfl rfl (aV 3 (.int _ _) dD M2 rfl rfl rfl) ?_
  refine aIz rfl rfl rfl (iF (enc := oQ) aRa 1 uL aQm M2 rfl hme rfl rfl) ?_
  refine aTe 13 ((.agg (aG a).toArray)) (congrArg oQ (by rw [h1]; rfl)) ?_
  refine rJ rfl rfl rfl (fun _ => aC (.pointer _) rfl) ?_
  refine rJ rfl rfl rfl (fun _ => bA rfl) ?_
  refine rJ rfl rfl rfl (fun _ => aI 0 uK rfl) ?_
  refine aIz rfl rfl rfl (aV 0 (.map _) vY M2 rfl rfl rfl) ?_
  refine rJ rfl rfl rfl (fun _ => aI 1 lQ rfl) ?_
  refine aIz rfl rfl rfl (aV 3 (.int _ _) dD M2 rfl rfl rfl) ?_
  refine aIz rfl rfl rfl (iF (enc := oQ) aRa 1 uL aQm M2 rfl hme rfl rfl) ?_
  refine aTe 20 ((.agg (aG b).toArray)) (congrArg oQ (by rw [h2]; rfl)) ?_
  refine aGy ?_ ?_
  · refine dM [true, true, true, true, true, true] rfl (by kernel_rfl) ?_
    refine aL aNm rfl rfl rfl ?_
    refine (wG _ a b ha hb).mono ?_
    rintro _ w3 ⟨v3, rfl, ⟨rfl, hb3⟩⟩
    refine ⟨_, rfl, ?_⟩
    have M3 := M2.callB hb3
    refine aD (aF ⟨cX, ?_⟩)
    refine aR rfl rfl rfl (fun _ => aC (.tuple (List.toArray _)) rfl) ?_
    refine aR rfl rfl rfl (fun _ => bB (.agg (List.toArray _)) rfl rfl) ?_
    refine aR rfl rfl rfl (fun _ => bB (.bool _) rfl rfl) ?_
    refine dM [] rfl (by kernel_rfl) ?_
    refine aU qO M3 rfl rfl (fun b4 w4 M4 => ?_)
    refine aD (aF ⟨cX, ?_⟩)
    refine dM [] rfl (by kernel_rfl) ?_
    refine bL 4 _ fJ M4 rfl rfl rfl rfl rfl (aW rfl) rfl (fun w5 M5 => ?_)
    refine aD (aF ⟨cX, ?_⟩)
    refine aR rfl rfl rfl (fun _ => aE (.bool _) rfl) ?_
    refine cB ?_
    refine aF (aH (aB ?_))
    refine aA (aC (.bool _) rfl) rfl rfl ?_
    refine aD (aF ?_)
    refine iV _ rfl (fun h24 => ?_) (fun h24 => ?_)
    · obtain ⟨cc, hcc⟩ := Option.isSome_iff_exists.1 h24
      refine bP [(0, 0), (1, 0), (2, 0), (3, 0), (4, 1), (5, 1), (6, 2), (7, 2), (8, 0), (9, 0), (10, 2)] mixed rfl (by kernel_rfl) (fun w6 hb6 hh6 => ?_)
      have M6 := M5.drew hb6 hh6
      refine aR rfl rfl rfl (fun _ => aC (.pointer _) rfl) ?_
      refine aR rfl rfl rfl (fun _ => aC (.pointer _) rfl) ?_
      refine aR rfl rfl rfl (fun _ => bA rfl) ?_
      refine aR rfl rfl rfl (fun _ => aI 1 nP rfl) ?_
      refine cD rfl rfl rfl (aV 0 (.slice _ _ _) nM M6 rfl rfl rfl) ?_
      refine cD rfl rfl rfl (bE 4 fJ M6 rfl rfl rfl) ?_
      refine gM 30 (.agg (cC cc).toArray) (congrArg (fun o => Value.agg (aVk o).toArray) hcc) ?_
      refine dM [true, false] rfl (by kernel_rfl) ?_
      refine cF [.agg (List.toArray _)] [cC cc] rfl aIw M6 rfl rfl rfl rfl (cO rfl) (by decide) (fun b7 w7 M7 => ?_)
      refine aD (aF ⟨(iQ (cU rfl (aV 0 (.slice _ _ _) nM M7 rfl rfl rfl)) cX), ?_⟩)
      refine dM [true] rfl (by kernel_rfl) ?_
      refine dV 2 [cC cc] aIw M7 rfl rfl rfl rfl rfl hr rfl (by simp [cC, Go.Bil.one]) (cV.ofMem 5 M7 rfl) (by omega) (fun A8 c8 e8 w8 M8 hR8 => ?_)
      refine aD (aF ⟨cX, ?_⟩)
      refine aR rfl rfl rfl (fun _ => bA rfl) ?_
      refine aR rfl rfl rfl (fun _ => aI 1 nP rfl) ?_
      refine dM [] rfl (by kernel_rfl) ?_
      refine eL 0 (.slice _ _ _) nM M8 rfl rfl rfl rfl rfl rfl (fun w9 M9 => ?_)
      refine aD (aF ⟨cX, ?_⟩)
      refine cB ?_
      refine iC ?_
      exact ⟨rfl, ⟨A8, r.n + 1, c8, e8⟩, by rw [jR h1 h2, hcc, List.map_append]; exact hR8, M9.keep [true, true, true, false, false, false]⟩
    · have hcc : kV a b = none := by simpa using h24
      refine aP ?_
      refine iC ?_
      exact ⟨rfl, r, by rw [jR h1 h2, hcc]; simpa using hr, M5.keep [true, true, true, false, false]⟩
  · refine dM [false, false, false, false, false, false] rfl (by kernel_rfl) ?_
    refine aU qO M2 rfl rfl (fun b10 w10 M10 => ?_)
    refine aD (aF ⟨(iQ (cU rfl (iF (enc := oQ) aRa 1 uL aQm M10 rfl hme rfl rfl)) (iQ (cU rfl (aV 3 (.int _ _) dD M10 rfl rfl rfl)) (iQ (cU rfl (aV 0 (.map _) vY M10 rfl rfl rfl)) (iQ (cU rfl (iF (enc := oQ) aRa 1 uL aQm M10 rfl hme rfl rfl)) (iQ (cU rfl (aV 3 (.int _ _) dD M10 rfl rfl rfl)) (iQ (cU rfl (aV 0 (.map _) vY M10 rfl rfl rfl)) cX)))))), ?_⟩)
    refine dM [true, true, true, true, true, true] rfl (by kernel_rfl) ?_
    refine aL aNm rfl rfl rfl ?_
    refine (wG _ a b ha hb).mono ?_
    rintro _ w11 ⟨v11, rfl, ⟨rfl, hb11⟩⟩
    refine ⟨_, rfl, ?_⟩
    have M11 := M10.callB hb11
    refine aD (aF ⟨cX, ?_⟩)
    refine aR rfl rfl rfl (fun _ => aC (.tuple (List.toArray _)) rfl) ?_
    refine aR rfl rfl rfl (fun _ => bB (.agg (List.toArray _)) rfl rfl) ?_
    refine aR rfl rfl rfl (fun _ => bB (.bool _) rfl rfl) ?_
    refine dM [] rfl (by kernel_rfl) ?_
    refine bL 4 _ fJ M11 rfl rfl rfl rfl rfl (aW rfl) rfl (fun w12 M12 => ?_)
    refine aD (aF ⟨cX, ?_⟩)
    refine aR rfl rfl rfl (fun _ => aE (.bool _) rfl) ?_
    refine cB ?_
    refine aF (aH (aB ?_))
    refine aA (aC (.bool _) rfl) rfl rfl ?_
    refine aD (aF ?_)
    refine iV _ rfl (fun h24 => ?_) (fun h24 => ?_)
    · obtain ⟨cc, hcc⟩ := Option.isSome_iff_exists.1 h24
      refine bP [(0, 0), (1, 0), (2, 0), (3, 0), (4, 1), (5, 1), (6, 2), (7, 2), (8, 0), (9, 0), (10, 2)] mixed rfl (by kernel_rfl) (fun w13 hb13 hh13 => ?_)
      have M13 := M12.drew hb13 hh13
      refine aR rfl rfl rfl (fun _ => aC (.pointer _) rfl) ?_
      refine aR rfl rfl rfl (fun _ => aC (.pointer _) rfl) ?_
      refine aR rfl rfl rfl (fun _ => bA rfl) ?_
      refine aR rfl rfl rfl (fun _ => aI 1 nP rfl) ?_
      refine cD rfl rfl rfl (aV 0 (.slice _ _ _) nM M13 rfl rfl rfl) ?_
      refine cD rfl rfl rfl (bE 4 fJ M13 rfl rfl rfl) ?_
      refine gM 30 (.agg (cC cc).toArray) (congrArg (fun o => Value.agg (aVk o).toArray) hcc) ?_
      refine dM [true, false] rfl (by kernel_rfl) ?_
      refine cF [.agg (List.toArray _)] [cC cc] rfl aIw M13 rfl rfl rfl rfl (cO rfl) (by decide) (fun b14 w14 M14 => ?_)
      refine aD (aF ⟨(iQ (cU rfl (aV 0 (.slice _ _ _) nM M14 rfl rfl rfl)) cX), ?_⟩)
      refine dM [true] rfl (by kernel_rfl) ?_
      refine dV 2 [cC cc] aIw M14 rfl rfl rfl rfl rfl hr rfl (by simp [cC, Go.Bil.one]) (cV.ofMem 5 M14 rfl) (by omega) (fun A15 c15 e15 w15 M15 hR15 => ?_)
      refine aD (aF ⟨cX, ?_⟩)
      refine aR rfl rfl rfl (fun _ => bA rfl) ?_
      refine aR rfl rfl rfl (fun _ => aI 1 nP rfl) ?_
      refine dM [] rfl (by kernel_rfl) ?_
      refine eL 0 (.slice _ _ _) nM M15 rfl rfl rfl rfl rfl rfl (fun w16 M16 => ?_)
      refine aD (aF ⟨cX, ?_⟩)
      refine cB ?_
      refine iC ?_
      exact ⟨rfl, ⟨A15, r.n + 1, c15, e15⟩, by rw [jR h1 h2, hcc, List.map_append]; exact hR15, M16.keep [true, true, true, false, false, false]⟩
    · have hcc : kV a b = none := by simpa using h24
      refine aP ?_
      refine iC ?_
      exact ⟨rfl, r, by rw [jR h1 h2, hcc]; simpa using hr, M12.keep [true, true, true, false, false]⟩
set_option maxHeartbeats 4000000 in
theorem xF (w : World) (A : Option Addr) (n c : Nat) (zs : List (Int × Int)) (R : Rd w 2 A n (zs.map bH)) (bl pm : Nat) (f : Int → Option Body) (em : dW) (hme : iW .u32 oQ f (some pm) em) (r : Row) (hr : aX 121 5 r.A r.n r.c (([]).map cC) r.e) (hz : ∀ z ∈ zs, ∃ a b, f z.1 = some a ∧ f z.2 = some b ∧ Okb a ∧ Okb b) (hn : n ≤ 1099511627776) (hO : Own [(some bl, bc [.map (some pm), .slice r.A r.n r.c] 158), em, r.e] w) (hdA : 0 < n → ∀ q off, A = some ⟨q, off, none⟩ → q ∉ bZ [(some bl, bc [.map (some pm), .slice r.A r.n r.c] 158), em, r.e]) :
    Calls Tryz.prog 106 #[.slice A n c, .func (.func 107) #[.pointer (some ⟨bl, 0, none⟩)] #[]] w (fun ex w' => ∃ v, ex = .returned v ∧ (fun v w' => v = .tuple #[] ∧ ∃ q : Row, aX 121 5 q.A q.n q.c ((zs.filterMap (wV f)).map cC) q.e ∧ Mem w (bZ [(some bl, bc [.map (some pm), .slice r.A r.n r.c] 158), em, r.e]) [(some bl, bc [.map (some pm), .slice q.A q.n q.c] 158), em, q.e] w') v w') := by
  have hlen : zs.length = n := by simpa using R.len
  refine aK #[] 16 Tryz.func106 rfl Tryz.results106 Tryz.ntmps106 rfl ?_
  have M0 := hO.mem
  refine aH (aB ?_)
  refine aA (aC (.slice _ _ _) rfl) rfl rfl ?_
  refine aA (bV Tryz.underlying159 rfl) rfl rfl ?_
  refine aA (aC (.int _ _) rfl) rfl rfl ?_
  refine aD (aF (bC ?_))
  refine dT (σ := Nat × Row) [1, 6, 7] (fun (k, q) => [(8, .int .i64 (k : Int))]) (fun (k, q) w' => (k ≤ n ∧ aX 121 5 q.A q.n q.c (((zs.take k).filterMap (wV f)).map cC) q.e) ∧ Mem w (bZ [(some bl, bc [.map (some pm), .slice r.A r.n r.c] 158), em, r.e]) [(some bl, bc [.map (some pm), .slice q.A q.n q.c] 158), em, q.e] w') (fun (k, q) => n - k) (0, r) (bX rfl fH) (⟨⟨by omega, hr⟩, M0⟩) ?_
  rintro ⟨k, q⟩ ρ1 w1 ⟨⟨hk, hq⟩, hM1⟩
  have hfl := List.length_filterMap_le (wV f) (zs.take k)
  have htl := List.length_take_le k zs
  have hql : ((zs.take k).filterMap (wV f)).length = q.n := by simpa using hq.1
  refine aH (aB ?_)
  refine aA (aO (.bool (decide _)) rfl rfl rfl) rfl rfl ?_
  refine aD (aF (aH ?_))
  refine aY rfl (fun h9 => ?_) (fun h9 => ?_)
  · obtain ⟨xz, hxz⟩ := cS (k := k) hlen (by omega)
    obtain ⟨za, zb, hza, hzb, hoa, hob⟩ := hz xz (List.mem_of_getElem? hxz)
    refine aP (aF (aH (bC (aH (aB ?_)))))
    refine aA (bK (k) pM rfl rfl rfl ((R.memY hM1 hdA).below_len (aJ bH hxz)) ((R.memY hM1 hdA).someK (aJ bH hxz))) rfl rfl ?_
    refine aA (cM _ fI (R.memY hM1 hdA) (aJ bH hxz) rfl) rfl rfl ?_
    refine aU oF hM1 rfl rfl (fun b2 w2 M2 => ?_)
    refine bL 3 _ fI M2 rfl rfl rfl rfl rfl (aW rfl) rfl (fun w3 M3 => ?_)
    refine aD (aF (aB ?_))
    refine aA (aC (.func _ _ _) rfl) rfl rfl ?_
    refine aA (bE 3 fI M3 rfl rfl rfl) rfl rfl ?_
    refine aL aVc rfl rfl rfl ?_
    refine (aKi _ bl pm f em hme q _ hq (by omega) xz za zb hza hzb hoa hob (M3.ownSeg 0 3)).mono ?_
    rintro _ w4 ⟨v4, rfl, ⟨rfl, q2, hq2, hM4⟩⟩
    refine ⟨_, rfl, ?_⟩
    have M4 : Mem _ _ [_, _, _, _] _ := M3.seg 0 3 hM4
    refine aD ?_
    refine dU ?_
    refine aF (aB ?_)
    refine aA (bS rfl rfl (by omega) (by omega)) rfl rfl ?_
    refine aA (aC (.int _ _) rfl) rfl rfl ?_
    refine aD ?_
    refine cK (k + 1, q2) (bX rfl fH) (cQ rfl (cQ rfl (cQ rfl jF))) ?_ ?_
    · exact ⟨⟨by omega, by rw [aSo hxz]; exact hq2⟩, M4.keep [true, true, true, false]⟩
    · (show n - (k + 1) < n - k; omega)
  · have hkn : k = n := by omega
    rw [List.take_of_length_le (by omega)] at hq
    refine cR ?_
    refine dK ?_
    refine dH ?_
    refine fC ?_
    refine iC ?_
    exact ⟨rfl, q, hq, hM1⟩
set_option maxHeartbeats 8000000 in
theorem zI (w : World) (F : Rd w 2 (some ⟨0, 0, none⟩) 1 [[.int .u32 73856093, .int .u32 19349663]]) (N : Rd w 4 (some ⟨3, 0, none⟩) 1 [cT iJ]) (A : Option Addr) (n c : Nat) (xs : List Body) (R : Rd w 10 A n (xs.map aG)) (hb : ∀ b ∈ xs, Okb b) (hs : bN xs) (hn : n ≤ 4096) :
    Calls Tryz.prog 71 #[.slice A n c] w (fun ex w' => ∃ v, ex = .returned v ∧ (fun v w' => ∃ (r : Row) (m : Nat), v = .tuple #[.slice r.A r.n r.c, .int .i64 (m : Int)] ∧ (gJ xs).length ≤ m ∧ 2 * m ≤ xs.length * (xs.length - 1) ∧ aX 121 5 r.A r.n r.c ((gR xs).map cC) r.e ∧ Mem w [] [r.e] w') v w') := by
  have hlen : xs.length = n := by simpa using R.len
  have hbd := R.bound
  refine aK #[.tmp 2, .tmp 3] 39 Tryz.func71 rfl Tryz.results71 Tryz.ntmps71 rfl ?_
  have M0 := Mem.refl w
  refine aH (aB ?_)
  refine aA (aE (.slice _ _ _) rfl) rfl rfl ?_
  refine aA (aE (.int _ _) rfl) rfl rfl ?_
  refine aD (aF (aH (aB ?_)))
  refine mS M0 rfl rfl (fun b1 w1 M1 => ?_)
  refine aA (cI [(0, .map _)] _ aIn rfl rfl) rfl rfl ?_
  refine bM (.agg (List.toArray _)) M1 rfl rfl rfl (fun b2 w2 M2 => ?_)
  refine aA (aE (.pointer _) rfl) rfl rfl ?_
  refine aD (aF (aH (aH (aB ?_))))
  refine aA (aC (.slice _ _ _) rfl) rfl rfl ?_
  refine aA (bV Tryz.underlying22 rfl) rfl rfl ?_
  refine aA (aC (.int _ _) rfl) rfl rfl ?_
  refine aD (aF (bC ?_))
  refine dT (σ := Nat × dW) [0, 2, 3, 4, 11, 12] (fun (k, em) => [(13, .int .i64 (k : Int))]) (fun (k, em) w' => (k ≤ n ∧ iW .u32 oQ (boM (xs.take k)) (some b1) em) ∧ Mem w [] [em, (some b2, bc [.map (some b1), .slice none 0 0] 158)] w') (fun (k, em) => n - k) (0, (some b1, .map #[] 0)) (bX rfl fH) (⟨⟨by omega, (iW.empty _ _ b1).congr (fun q => by rw [List.take_zero]; exact aRz q)⟩, M2⟩) ?_
  rintro ⟨k, em⟩ ρ3 w3 ⟨⟨hk, hme⟩, hM3⟩
  refine aH (aB ?_)
  refine aA (aO (.bool (decide _)) rfl rfl rfl) rfl rfl ?_
  refine aD (aF (aH ?_))
  refine aY rfl (fun h14 => ?_) (fun h14 => ?_)
  · obtain ⟨xb, hxb⟩ := cS (k := k) hlen (by omega)
    refine aP (aF (aH (bC (aH (aB ?_)))))
    refine aA (bK (k) cA rfl rfl rfl ((R.mem hM3).below_len (aJ aG hxb)) ((R.mem hM3).someK (aJ aG hxb))) rfl rfl ?_
    refine aA (cM _ bO (R.mem hM3) (aJ aG hxb) rfl) rfl rfl ?_
    refine aU mI hM3 rfl rfl (fun b4 w4 M4 => ?_)
    refine bL 2 _ bO M4 rfl rfl rfl rfl rfl (aW rfl) rfl (fun w5 M5 => ?_)
    refine aD (aF ?_)
    refine bP [(0, 0), (1, 0), (2, 0), (3, 1), (4, 0), (5, 1), (6, 1), (7, 2)] mixed rfl (by kernel_rfl) (fun w6 hb6 hh6 => ?_)
    have M6 := M5.drew hb6 hh6
    refine aR rfl rfl rfl (fun _ => aC (.pointer _) rfl) ?_
    refine aR rfl rfl rfl (fun _ => bA rfl) ?_
    refine aR rfl rfl rfl (fun _ => aI 0 uK rfl) ?_
    refine cD rfl rfl rfl (aV 1 (.map _) vY M6 rfl rfl rfl) ?_
    refine aR rfl rfl rfl (fun _ => aI 0 eG rfl) ?_
    refine cD rfl rfl rfl (aV 2 (.int _ _) dD M6 rfl rfl rfl) ?_
    refine cD rfl rfl rfl (bE 2 bO M6 rfl rfl rfl) ?_
    refine dM [true, true, true] rfl (by kernel_rfl) ?_
    refine mK (enc := oQ) 0 uL M6 rfl rfl hme rfl rfl rfl rfl (fun e7 w7 hm7 M7 => ?_)
    refine aD (aF ⟨cX, ?_⟩)
    refine cB ?_
    refine dU ?_
    refine aF (aB ?_)
    refine aA (bS rfl rfl (by omega) (by omega)) rfl rfl ?_
    refine aA (aC (.int _ _) rfl) rfl rfl ?_
    refine aD ?_
    refine cK (k + 1, e7) (bX rfl fH) (cQ rfl (cQ rfl (cQ rfl (cQ rfl (cQ rfl (cQ rfl jF)))))) ?_ ?_
    · exact ⟨⟨by omega, hm7.congr (fun q => aLz hxb q)⟩, M7.keep [true, true, false]⟩
    · (show n - (k + 1) < n - k; omega)
  · have hkn : k = n := by omega
    rw [List.take_of_length_le (by omega)] at hme
    refine cR ?_
    refine dK ?_
    refine dH ?_
    refine fC ?_
    refine aF (aH (aB ?_))
    refine aA (aC (.slice _ _ _) rfl) rfl rfl ?_
    refine aL aXo rfl rfl rfl ?_
    refine (aFq _ (F.mem hM3) (N.mem hM3) _ _ _ xs (R.mem hM3) hb hs (by first | decide | omega)).mono ?_
    rintro _ w8 ⟨v8, rfl, ⟨r0, m0, rfl, hfm0, hgm0, hr0, hM8⟩⟩
    refine ⟨_, rfl, ?_⟩
    have M8 : Mem _ _ [_, _, _] _ := hM3.call0 hM8
    refine aA (aC (.tuple (List.toArray _)) rfl) rfl rfl ?_
    refine aA (bB (.slice _ _ _) rfl rfl) rfl rfl ?_
    refine aA (bB (.int _ _) rfl rfl) rfl rfl ?_
    refine aA (aE (.slice _ _ _) rfl) rfl rfl ?_
    refine aA (aE (.int _ _) rfl) rfl rfl ?_
    refine aD (aF (aH (aB ?_)))
    refine aA (aC (.slice _ _ _) rfl) rfl rfl ?_
    refine aA (aC (.pointer _) rfl) rfl rfl ?_
    refine aA (dL [.pointer _] [] rfl rfl) rfl rfl ?_
    have M9 : Mem _ _ [_, _, _, _] _ := Mem.orderC (M8.dummy default)
    have hfl : (gJ xs).length = r0.n := by simpa using hr0.1
    have hnn : xs.length * (xs.length - 1) ≤ 4096 * 4096 := Nat.mul_le_mul (by omega) (by omega)
    refine aL aWy rfl rfl rfl ?_
    refine (xF _ r0.A r0.n r0.c (gJ xs) (hr0.rd M9 (aM (i := 0) rfl)) b2 b1 (boM xs) em hme gW (aX.nil _ _ _) (fun z hz => by obtain ⟨a, b, h1, h2, _, _, h3, h4⟩ := kY hs hz; exact ⟨a, b, h3, h4, hb a h1, hb b h2⟩) (by omega) (M9.ownSeg 1 3) (hr0.apartTail M9)).mono ?_
    rintro _ w10 ⟨v10, rfl, ⟨rfl, q, hq, hM10⟩⟩
    refine ⟨_, rfl, ?_⟩
    have M10 : Mem _ _ [_, _, _, _] _ := M9.seg 1 3 hM10
    refine aD (aF (aH (aB ?_)))
    refine aA (aC (.pointer _) rfl) rfl rfl ?_
    refine aA (bA rfl) rfl rfl ?_
    refine aA (aI 1 nP rfl) rfl rfl ?_
    refine aA (aV 1 (.slice _ _ _) nM M10 rfl rfl rfl) rfl rfl ?_
    refine aA (aC (.int _ _) rfl) rfl rfl ?_
    refine aA (aE (.slice _ _ _) rfl) rfl rfl ?_
    refine aA (aE (.int _ _) rfl) rfl rfl ?_
    refine aD (aF (aS ?_))
    refine fV (.slice _ _ _) (.int _ _) rfl rfl ?_
    exact ⟨q, m0, rfl, hfm0, hgm0, hq, M10.keep [false, false, false, true]⟩
end Go.Proofs.YtlmcphcgiclanaaGreatDoor

namespace Go.Proofs.YtlmcphcgiclanaaGreatDoor
open Go.Bil
open Go.RowKit (Below)
open Go.Proofs
end Go.Proofs.YtlmcphcgiclanaaGreatDoor

namespace Go.Proofs.YtlmcphcgiclanaaGreatDoor
open Go.Bil
open Go.RowKit (Below)
open Go.Proofs
end Go.Proofs.YtlmcphcgiclanaaGreatDoor
