/- Part of the proof of the laws of this seat: V15, X15, Z5. No conditions. -/
import Derived.Test.YtlmcphcgiclanaaGreatDoorK5
import Derived.Test.YtlmcphcgiclanaaGreatDoorK26
import Derived.Test.YtlmcphcgiclanaaGreatDoorK28
import Derived.Test.YtlmcphcgiclanaaGreatDoorK18
import Derived.Test.YtlmcphcgiclanaaGreatDoorK11
set_option linter.unusedVariables false
set_option linter.unusedSimpArgs false
set_option linter.unnecessarySimpa false
namespace Go.Proofs.YtlmcphcgiclanaaGreatDoor
open Go.Bil
open Go.RowKit (Below)
open Go.Proofs
set_option maxHeartbeats 4000000 in
theorem aOj (w : World) (bl pm : Nat) (f : Int → Option Body) (em : dP) (hme : iM .u32 pR f (some pm) em) (r : Row) (cs : List Con) (hr : bA 121 5 r.A r.n r.c ((cs).map cJ) r.e) (hn : r.n ≤ 1099511627776) (z : Int × Int) (a b : Body) (h1 : f z.1 = some a) (h2 : f z.2 = some b) (ha : Okb a) (hb : Okb b) (hO : Own [(some bl, bc [.map (some pm), .slice r.A r.n r.c] 158), em, r.e] w) :
    Calls Tryz.prog 107 #[.pointer (some ⟨bl, 0, none⟩), (.agg (bI z).toArray)] w (fun ex w' => ∃ v, ex = .returned v ∧ (fun v w' => v = .tuple #[] ∧ ∃ q : Row, bA 121 5 q.A q.n q.c ((cs ++ (aFr f z).toList).map cJ) q.e ∧ Mem w (bX [(some bl, bc [.map (some pm), .slice r.A r.n r.c] 158), em, r.e]) [(some bl, bc [.map (some pm), .slice q.A q.n q.c] 158), em, q.e] w') v w') := by
  refine aJ #[] 35 Tryz.func107 rfl Tryz.results107 Tryz.ntmps107 rfl ?_
  have M0 := hO.mem
  refine aG (aB ?_)
  refine bL (.agg (List.toArray _)) M0 rfl rfl rfl (fun b1 w1 M1 => ?_)
  refine aC (aF (aG ?_))
  refine aQx [(0, 0), (1, 0), (2, 0), (3, 1), (4, 0), (5, 1), (6, 1), (7, 0), (8, 0), (9, 0), (10, 1), (11, 0), (12, 1), (13, 1)] 14 18 [(15, 0), (16, 0), (17, 0), (18, 2), (19, 2), (20, 0)] [(14, 2), (15, 0), (16, 0), (17, 0), (19, 2), (20, 0)] mixed rfl (by kernel_rfl) (fun w2 hb2 hh2 => ?_)
  have M2 := M1.drew hb2 hh2
  refine sW rfl rfl rfl (fun _ => aD (.pointer _) rfl) ?_
  refine sW rfl rfl rfl (fun _ => aO rfl) ?_
  refine sW rfl rfl rfl (fun _ => aH 0 vZ rfl) ?_
  refine aLq rfl rfl rfl (aQ 0 (.map _) yF M2 rfl rfl rfl) ?_
  refine sW rfl rfl rfl (fun _ => aH 0 mQ rfl) ?_
  refine aLq rfl rfl rfl (aQ 3 (.int _ _) bR M2 rfl rfl rfl) ?_
  refine aLq rfl rfl rfl (iR (enc := pR) aQc 1 wB aVk M2 rfl hme rfl rfl) ?_
  refine aXu 13 ((.agg (aI a).toArray)) (congrArg pR (by rw [h1]; rfl)) ?_
  refine sW rfl rfl rfl (fun _ => aD (.pointer _) rfl) ?_
  refine sW rfl rfl rfl (fun _ => aO rfl) ?_
  refine sW rfl rfl rfl (fun _ => aH 0 vZ rfl) ?_
  refine aLq rfl rfl rfl (aQ 0 (.map _) yF M2 rfl rfl rfl) ?_
  refine sW rfl rfl rfl (fun _ => aH 1 mR rfl) ?_
  refine aLq rfl rfl rfl (aQ 3 (.int _ _) bR M2 rfl rfl rfl) ?_
  refine aLq rfl rfl rfl (iR (enc := pR) aQc 1 wB aVk M2 rfl hme rfl rfl) ?_
  refine aXu 20 ((.agg (aI b).toArray)) (congrArg pR (by rw [h2]; rfl)) ?_
  refine aKv ?_ ?_
  · refine dU [true, true, true, true, true, true] rfl (by kernel_rfl) ?_
    refine aK aTm rfl rfl rfl ?_
    refine (xB _ a b ha hb).mono ?_
    rintro _ w3 ⟨v3, rfl, ⟨rfl, hb3⟩⟩
    refine ⟨_, rfl, ?_⟩
    have M3 := M2.callB hb3
    refine aC (aF ⟨dV, ?_⟩)
    refine aU rfl rfl rfl (fun _ => aD (.tuple (List.toArray _)) rfl) ?_
    refine aU rfl rfl rfl (fun _ => bG (.agg (List.toArray _)) rfl rfl) ?_
    refine aU rfl rfl rfl (fun _ => bG (.bool _) rfl rfl) ?_
    refine dU [] rfl (by kernel_rfl) ?_
    refine aW rR M3 rfl rfl (fun b4 w4 M4 => ?_)
    refine aC (aF ⟨dV, ?_⟩)
    refine dU [] rfl (by kernel_rfl) ?_
    refine bH 4 _ fX M4 rfl rfl rfl rfl rfl (aY rfl) rfl (fun w5 M5 => ?_)
    refine aC (aF ⟨dV, ?_⟩)
    refine aU rfl rfl rfl (fun _ => aE (.bool _) rfl) ?_
    refine cF ?_
    refine aF (aG (aB ?_))
    refine aA (aD (.bool _) rfl) rfl rfl ?_
    refine aC (aF ?_)
    refine gK _ rfl (fun h24 => ?_) (fun h24 => ?_)
    · obtain ⟨cc, hcc⟩ := Option.isSome_iff_exists.1 h24
      refine bS [(0, 0), (1, 0), (2, 0), (3, 0), (4, 1), (5, 1), (6, 2), (7, 2), (8, 0), (9, 0), (10, 2)] mixed rfl (by kernel_rfl) (fun w6 hb6 hh6 => ?_)
      have M6 := M5.drew hb6 hh6
      refine aU rfl rfl rfl (fun _ => aD (.pointer _) rfl) ?_
      refine aU rfl rfl rfl (fun _ => aD (.pointer _) rfl) ?_
      refine aU rfl rfl rfl (fun _ => aO rfl) ?_
      refine aU rfl rfl rfl (fun _ => aH 1 oF rfl) ?_
      refine cB rfl rfl rfl (aQ 0 (.slice _ _ _) oH M6 rfl rfl rfl) ?_
      refine cB rfl rfl rfl (bE 4 fX M6 rfl rfl rfl) ?_
      refine iL 30 (.agg (cJ cc).toArray) (congrArg (fun o => Value.agg (bAf o).toArray) hcc) ?_
      refine dU [true, false] rfl (by kernel_rfl) ?_
      refine cR [.agg (List.toArray _)] [cJ cc] rfl aNw M6 rfl rfl rfl rfl (cW rfl) (by decide) (fun b7 w7 M7 => ?_)
      refine aC (aF ⟨(eS (bQ rfl (aQ 0 (.slice _ _ _) oH M7 rfl rfl rfl)) dV), ?_⟩)
      refine dU [true] rfl (by kernel_rfl) ?_
      refine dL 2 [cJ cc] aNw M7 rfl rfl rfl rfl rfl hr rfl (by simp [cJ, Go.Bil.one]) (cX.ofMem 5 M7 rfl) (by omega) (fun A8 c8 e8 w8 M8 hR8 => ?_)
      refine aC (aF ⟨dV, ?_⟩)
      refine aU rfl rfl rfl (fun _ => aO rfl) ?_
      refine aU rfl rfl rfl (fun _ => aH 1 oF rfl) ?_
      refine dU [] rfl (by kernel_rfl) ?_
      refine dX 0 (.slice _ _ _) oH M8 rfl rfl rfl rfl rfl rfl (fun w9 M9 => ?_)
      refine aC (aF ⟨dV, ?_⟩)
      refine cF ?_
      refine iD ?_
      exact ⟨rfl, ⟨A8, r.n + 1, c8, e8⟩, by rw [rE h1 h2, hcc, List.map_append]; exact hR8, M9.keep [true, true, true, false, false, false]⟩
    · have hcc : nM a b = none := by simpa using h24
      refine aN ?_
      refine iD ?_
      exact ⟨rfl, r, by rw [rE h1 h2, hcc]; simpa using hr, M5.keep [true, true, true, false, false]⟩
  · refine dU [false, false, false, false, false, false] rfl (by kernel_rfl) ?_
    refine aW rR M2 rfl rfl (fun b10 w10 M10 => ?_)
    refine aC (aF ⟨(eS (bQ rfl (iR (enc := pR) aQc 1 wB aVk M10 rfl hme rfl rfl)) (eS (bQ rfl (aQ 3 (.int _ _) bR M10 rfl rfl rfl)) (eS (bQ rfl (aQ 0 (.map _) yF M10 rfl rfl rfl)) (eS (bQ rfl (iR (enc := pR) aQc 1 wB aVk M10 rfl hme rfl rfl)) (eS (bQ rfl (aQ 3 (.int _ _) bR M10 rfl rfl rfl)) (eS (bQ rfl (aQ 0 (.map _) yF M10 rfl rfl rfl)) dV)))))), ?_⟩)
    refine dU [true, true, true, true, true, true] rfl (by kernel_rfl) ?_
    refine aK aTm rfl rfl rfl ?_
    refine (xB _ a b ha hb).mono ?_
    rintro _ w11 ⟨v11, rfl, ⟨rfl, hb11⟩⟩
    refine ⟨_, rfl, ?_⟩
    have M11 := M10.callB hb11
    refine aC (aF ⟨dV, ?_⟩)
    refine aU rfl rfl rfl (fun _ => aD (.tuple (List.toArray _)) rfl) ?_
    refine aU rfl rfl rfl (fun _ => bG (.agg (List.toArray _)) rfl rfl) ?_
    refine aU rfl rfl rfl (fun _ => bG (.bool _) rfl rfl) ?_
    refine dU [] rfl (by kernel_rfl) ?_
    refine bH 4 _ fX M11 rfl rfl rfl rfl rfl (aY rfl) rfl (fun w12 M12 => ?_)
    refine aC (aF ⟨dV, ?_⟩)
    refine aU rfl rfl rfl (fun _ => aE (.bool _) rfl) ?_
    refine cF ?_
    refine aF (aG (aB ?_))
    refine aA (aD (.bool _) rfl) rfl rfl ?_
    refine aC (aF ?_)
    refine gK _ rfl (fun h24 => ?_) (fun h24 => ?_)
    · obtain ⟨cc, hcc⟩ := Option.isSome_iff_exists.1 h24
      refine bS [(0, 0), (1, 0), (2, 0), (3, 0), (4, 1), (5, 1), (6, 2), (7, 2), (8, 0), (9, 0), (10, 2)] mixed rfl (by kernel_rfl) (fun w13 hb13 hh13 => ?_)
      have M13 := M12.drew hb13 hh13
      refine aU rfl rfl rfl (fun _ => aD (.pointer _) rfl) ?_
      refine aU rfl rfl rfl (fun _ => aD (.pointer _) rfl) ?_
      refine aU rfl rfl rfl (fun _ => aO rfl) ?_
      refine aU rfl rfl rfl (fun _ => aH 1 oF rfl) ?_
      refine cB rfl rfl rfl (aQ 0 (.slice _ _ _) oH M13 rfl rfl rfl) ?_
      refine cB rfl rfl rfl (bE 4 fX M13 rfl rfl rfl) ?_
      refine iL 30 (.agg (cJ cc).toArray) (congrArg (fun o => Value.agg (bAf o).toArray) hcc) ?_
      refine dU [true, false] rfl (by kernel_rfl) ?_
      refine cR [.agg (List.toArray _)] [cJ cc] rfl aNw M13 rfl rfl rfl rfl (cW rfl) (by decide) (fun b14 w14 M14 => ?_)
      refine aC (aF ⟨(eS (bQ rfl (aQ 0 (.slice _ _ _) oH M14 rfl rfl rfl)) dV), ?_⟩)
      refine dU [true] rfl (by kernel_rfl) ?_
      refine dL 2 [cJ cc] aNw M14 rfl rfl rfl rfl rfl hr rfl (by simp [cJ, Go.Bil.one]) (cX.ofMem 5 M14 rfl) (by omega) (fun A15 c15 e15 w15 M15 hR15 => ?_)
      refine aC (aF ⟨dV, ?_⟩)
      refine aU rfl rfl rfl (fun _ => aO rfl) ?_
      refine aU rfl rfl rfl (fun _ => aH 1 oF rfl) ?_
      refine dU [] rfl (by kernel_rfl) ?_
      refine dX 0 (.slice _ _ _) oH M15 rfl rfl rfl rfl rfl rfl (fun w16 M16 => ?_)
      refine aC (aF ⟨dV, ?_⟩)
      refine cF ?_
      refine iD ?_
      exact ⟨rfl, ⟨A15, r.n + 1, c15, e15⟩, by rw [rE h1 h2, hcc, List.map_append]; exact hR15, M16.keep [true, true, true, false, false, false]⟩
    · have hcc : nM a b = none := by simpa using h24
      refine aN ?_
      refine iD ?_
      exact ⟨rfl, r, by rw [rE h1 h2, hcc]; simpa using hr, M12.keep [true, true, true, false, false]⟩
set_option maxHeartbeats 4000000 in
theorem yR (w : World) (A : Option Addr) (n c : Nat) (zs : List (Int × Int)) (R : Rd w 2 A n (zs.map bI)) (bl pm : Nat) (f : Int → Option Body) (em : dP) (hme : iM .u32 pR f (some pm) em) (r : Row) (hr : bA 121 5 r.A r.n r.c (([]).map cJ) r.e) (hz : ∀ z ∈ zs, ∃ a b, f z.1 = some a ∧ f z.2 = some b ∧ Okb a ∧ Okb b) (hn : n ≤ 1099511627776) (hO : Own [(some bl, bc [.map (some pm), .slice r.A r.n r.c] 158), em, r.e] w) (hdA : 0 < n → ∀ q off, A = some ⟨q, off, none⟩ → q ∉ bX [(some bl, bc [.map (some pm), .slice r.A r.n r.c] 158), em, r.e]) :
    Calls Tryz.prog 106 #[.slice A n c, .func (.func 107) #[.pointer (some ⟨bl, 0, none⟩)] #[]] w (fun ex w' => ∃ v, ex = .returned v ∧ (fun v w' => v = .tuple #[] ∧ ∃ q : Row, bA 121 5 q.A q.n q.c ((zs.filterMap (aFr f)).map cJ) q.e ∧ Mem w (bX [(some bl, bc [.map (some pm), .slice r.A r.n r.c] 158), em, r.e]) [(some bl, bc [.map (some pm), .slice q.A q.n q.c] 158), em, q.e] w') v w') := by
  have hlen : zs.length = n := by simpa using R.len
  refine aJ #[] 16 Tryz.func106 rfl Tryz.results106 Tryz.ntmps106 rfl ?_
  have M0 := hO.mem
  refine aG (aB ?_)
  refine aA (aD (.slice _ _ _) rfl) rfl rfl ?_
  refine aA (cT Tryz.underlying159 rfl) rfl rfl ?_
  refine aA (aD (.int _ _) rfl) rfl rfl ?_
  refine aC (aF (aV ?_))
  refine dK (σ := Nat × Row) [1, 6, 7] (fun (k, q) => [(8, .int .i64 (k : Int))]) (fun (k, q) w' => (k ≤ n ∧ bA 121 5 q.A q.n q.c (((zs.take k).filterMap (aFr f)).map cJ) q.e) ∧ Mem w (bX [(some bl, bc [.map (some pm), .slice r.A r.n r.c] 158), em, r.e]) [(some bl, bc [.map (some pm), .slice q.A q.n q.c] 158), em, q.e] w') (fun (k, q) => n - k) (0, r) (bK rfl eO) (⟨⟨by omega, hr⟩, M0⟩) ?_
  rintro ⟨k, q⟩ ρ1 w1 ⟨⟨hk, hq⟩, hM1⟩
  have hfl := List.length_filterMap_le (aFr f) (zs.take k)
  have htl := List.length_take_le k zs
  have hql : ((zs.take k).filterMap (aFr f)).length = q.n := by simpa using hq.1
  refine aG (aB ?_)
  refine aA (aP (.bool (decide _)) rfl rfl rfl) rfl rfl ?_
  refine aC (aF (aG ?_))
  refine aZ rfl (fun h9 => ?_) (fun h9 => ?_)
  · obtain ⟨xz, hxz⟩ := cL (k := k) hlen (by omega)
    obtain ⟨za, zb, hza, hzb, hoa, hob⟩ := hz xz (List.mem_of_getElem? hxz)
    refine aN (aF (aG (aV (aG (aB ?_)))))
    refine aA (bU (k) rW rfl rfl rfl ((R.memY hM1 hdA).below_len (aL bI hxz)) ((R.memY hM1 hdA).someK (aL bI hxz))) rfl rfl ?_
    refine aA (dS _ fT (R.memY hM1 hdA) (aL bI hxz) rfl) rfl rfl ?_
    refine aW pG hM1 rfl rfl (fun b2 w2 M2 => ?_)
    refine bH 3 _ fT M2 rfl rfl rfl rfl rfl (aY rfl) rfl (fun w3 M3 => ?_)
    refine aC (aF (aB ?_))
    refine aA (aD (.func _ _ _) rfl) rfl rfl ?_
    refine aA (bE 3 fT M3 rfl rfl rfl) rfl rfl ?_
    refine aK aYt rfl rfl rfl ?_
    refine (aOj _ bl pm f em hme q _ hq (by omega) xz za zb hza hzb hoa hob (M3.ownSeg 0 3)).mono ?_
    rintro _ w4 ⟨v4, rfl, ⟨rfl, q2, hq2, hM4⟩⟩
    refine ⟨_, rfl, ?_⟩
    have M4 : Mem _ _ [_, _, _, _] _ := M3.seg 0 3 hM4
    refine aC ?_
    refine dB ?_
    refine aF (aB ?_)
    refine aA (bM rfl rfl (by omega) (by omega)) rfl rfl ?_
    refine aA (aD (.int _ _) rfl) rfl rfl ?_
    refine aC ?_
    refine cO (k + 1, q2) (bK rfl eO) (cS rfl (cS rfl (cS rfl jB))) ?_ ?_
    · exact ⟨⟨by omega, by rw [aXd hxz]; exact hq2⟩, M4.keep [true, true, true, false]⟩
    · (show n - (k + 1) < n - k; omega)
  · have hkn : k = n := by omega
    rw [List.take_of_length_le (by omega)] at hq
    refine cP ?_
    refine dA ?_
    refine cZ ?_
    refine eQ ?_
    refine iD ?_
    exact ⟨rfl, q, hq, hM1⟩
set_option maxHeartbeats 8000000 in
theorem aBp (w : World) (F : Rd w 2 (some ⟨0, 0, none⟩) 1 [[.int .u32 73856093, .int .u32 19349663]]) (N : Rd w 4 (some ⟨3, 0, none⟩) 1 [dI jA]) (A : Option Addr) (n c : Nat) (xs : List Body) (R : Rd w 10 A n (xs.map aI)) (hb : ∀ b ∈ xs, Okb b) (hs : bW xs) (hn : n ≤ 4096) :
    Calls Tryz.prog 71 #[.slice A n c] w (fun ex w' => ∃ v, ex = .returned v ∧ (fun v w' => ∃ (r : Row) (m : Nat), v = .tuple #[.slice r.A r.n r.c, .int .i64 (m : Int)] ∧ (kS xs).length ≤ m ∧ 2 * m ≤ xs.length * (xs.length - 1) ∧ bA 121 5 r.A r.n r.c ((mZ xs).map cJ) r.e ∧ Mem w [] [r.e] w') v w') := by
  have hlen : xs.length = n := by simpa using R.len
  have hbd := R.bound
  refine aJ #[.tmp 2, .tmp 3] 39 Tryz.func71 rfl Tryz.results71 Tryz.ntmps71 rfl ?_
  have M0 := Mem.refl w
  refine aG (aB ?_)
  refine aA (aE (.slice _ _ _) rfl) rfl rfl ?_
  refine aA (aE (.int _ _) rfl) rfl rfl ?_
  refine aC (aF (aG (aB ?_)))
  refine kZ M0 rfl rfl (fun b1 w1 M1 => ?_)
  refine aA (cN [(0, .map _)] _ aLt rfl rfl) rfl rfl ?_
  refine bL (.agg (List.toArray _)) M1 rfl rfl rfl (fun b2 w2 M2 => ?_)
  refine aA (aE (.pointer _) rfl) rfl rfl ?_
  refine aC (aF (aG (aG (aB ?_))))
  refine aA (aD (.slice _ _ _) rfl) rfl rfl ?_
  refine aA (cT Tryz.underlying22 rfl) rfl rfl ?_
  refine aA (aD (.int _ _) rfl) rfl rfl ?_
  refine aC (aF (aV ?_))
  refine dK (σ := Nat × dP) [0, 2, 3, 4, 11, 12] (fun (k, em) => [(13, .int .i64 (k : Int))]) (fun (k, em) w' => (k ≤ n ∧ iM .u32 pR (boM (xs.take k)) (some b1) em) ∧ Mem w [] [em, (some b2, bc [.map (some b1), .slice none 0 0] 158)] w') (fun (k, em) => n - k) (0, (some b1, .map #[] 0)) (bK rfl eO) (⟨⟨by omega, (iM.empty _ _ b1).congr (fun q => by rw [List.take_zero]; exact aWi q)⟩, M2⟩) ?_
  rintro ⟨k, em⟩ ρ3 w3 ⟨⟨hk, hme⟩, hM3⟩
  refine aG (aB ?_)
  refine aA (aP (.bool (decide _)) rfl rfl rfl) rfl rfl ?_
  refine aC (aF (aG ?_))
  refine aZ rfl (fun h14 => ?_) (fun h14 => ?_)
  · obtain ⟨xb, hxb⟩ := cL (k := k) hlen (by omega)
    refine aN (aF (aG (aV (aG (aB ?_)))))
    refine aA (bU (k) dO rfl rfl rfl ((R.mem hM3).below_len (aL aI hxb)) ((R.mem hM3).someK (aL aI hxb))) rfl rfl ?_
    refine aA (dS _ bO (R.mem hM3) (aL aI hxb) rfl) rfl rfl ?_
    refine aW gL hM3 rfl rfl (fun b4 w4 M4 => ?_)
    refine bH 2 _ bO M4 rfl rfl rfl rfl rfl (aY rfl) rfl (fun w5 M5 => ?_)
    refine aC (aF ?_)
    refine bS [(0, 0), (1, 0), (2, 0), (3, 1), (4, 0), (5, 1), (6, 1), (7, 2)] mixed rfl (by kernel_rfl) (fun w6 hb6 hh6 => ?_)
    have M6 := M5.drew hb6 hh6
    refine aU rfl rfl rfl (fun _ => aD (.pointer _) rfl) ?_
    refine aU rfl rfl rfl (fun _ => aO rfl) ?_
    refine aU rfl rfl rfl (fun _ => aH 0 vZ rfl) ?_
    refine cB rfl rfl rfl (aQ 1 (.map _) yF M6 rfl rfl rfl) ?_
    refine aU rfl rfl rfl (fun _ => aH 0 dJ rfl) ?_
    refine cB rfl rfl rfl (aQ 2 (.int _ _) bR M6 rfl rfl rfl) ?_
    refine cB rfl rfl rfl (bE 2 bO M6 rfl rfl rfl) ?_
    refine dU [true, true, true] rfl (by kernel_rfl) ?_
    refine gV (enc := pR) 0 wB M6 rfl rfl hme rfl rfl rfl rfl (fun e7 w7 hm7 M7 => ?_)
    refine aC (aF ⟨dV, ?_⟩)
    refine cF ?_
    refine dB ?_
    refine aF (aB ?_)
    refine aA (bM rfl rfl (by omega) (by omega)) rfl rfl ?_
    refine aA (aD (.int _ _) rfl) rfl rfl ?_
    refine aC ?_
    refine cO (k + 1, e7) (bK rfl eO) (cS rfl (cS rfl (cS rfl (cS rfl (cS rfl (cS rfl jB)))))) ?_ ?_
    · exact ⟨⟨by omega, hm7.congr (fun q => aRl hxb q)⟩, M7.keep [true, true, false]⟩
    · (show n - (k + 1) < n - k; omega)
  · have hkn : k = n := by omega
    rw [List.take_of_length_le (by omega)] at hme
    refine cP ?_
    refine dA ?_
    refine cZ ?_
    refine eQ ?_
    refine aF (aG (aB ?_))
    refine aA (aD (.slice _ _ _) rfl) rfl rfl ?_
    refine aK bAz rfl rfl rfl ?_
    refine (aIq _ (F.mem hM3) (N.mem hM3) _ _ _ xs (R.mem hM3) hb hs (by first | decide | omega)).mono ?_
    rintro _ w8 ⟨v8, rfl, ⟨r0, m0, rfl, hfm0, hgm0, hr0, hM8⟩⟩
    refine ⟨_, rfl, ?_⟩
    have M8 : Mem _ _ [_, _, _] _ := hM3.call0 hM8
    refine aA (aD (.tuple (List.toArray _)) rfl) rfl rfl ?_
    refine aA (bG (.slice _ _ _) rfl rfl) rfl rfl ?_
    refine aA (bG (.int _ _) rfl rfl) rfl rfl ?_
    refine aA (aE (.slice _ _ _) rfl) rfl rfl ?_
    refine aA (aE (.int _ _) rfl) rfl rfl ?_
    refine aC (aF (aG (aB ?_)))
    refine aA (aD (.slice _ _ _) rfl) rfl rfl ?_
    refine aA (aD (.pointer _) rfl) rfl rfl ?_
    refine aA (cQ [.pointer _] [] rfl rfl) rfl rfl ?_
    have M9 : Mem _ _ [_, _, _, _] _ := Mem.orderC (M8.dummy default)
    have hfl : (kS xs).length = r0.n := by simpa using hr0.1
    have hnn : xs.length * (xs.length - 1) ≤ 4096 * 4096 := Nat.mul_le_mul (by omega) (by omega)
    refine aK aZe rfl rfl rfl ?_
    refine (yR _ r0.A r0.n r0.c (kS xs) (hr0.rd M9 (bB (i := 0) rfl)) b2 b1 (boM xs) em hme iK (bA.nil _ _ _) (fun z hz => by obtain ⟨a, b, h1, h2, _, _, h3, h4⟩ := tJ hs hz; exact ⟨a, b, h3, h4, hb a h1, hb b h2⟩) (by omega) (M9.ownSeg 1 3) (hr0.apartTail M9)).mono ?_
    rintro _ w10 ⟨v10, rfl, ⟨rfl, q, hq, hM10⟩⟩
    refine ⟨_, rfl, ?_⟩
    have M10 : Mem _ _ [_, _, _, _] _ := M9.seg 1 3 hM10
    refine aC (aF (aG (aB ?_)))
    refine aA (aD (.pointer _) rfl) rfl rfl ?_
    refine aA (aO rfl) rfl rfl ?_
    refine aA (aH 1 oF rfl) rfl rfl ?_
    refine aA (aQ 1 (.slice _ _ _) oH M10 rfl rfl rfl) rfl rfl ?_
    refine aA (aD (.int _ _) rfl) rfl rfl ?_
    refine aA (aE (.slice _ _ _) rfl) rfl rfl ?_
    refine aA (aE (.int _ _) rfl) rfl rfl ?_
    refine aC (aF (aR ?_))
    refine fZ (.slice _ _ _) (.int _ _) rfl rfl ?_
    exact ⟨q, m0, rfl, hfm0, hgm0, hq, M10.keep [false, false, false, true]⟩
end Go.Proofs.YtlmcphcgiclanaaGreatDoor

namespace Go.Proofs.YtlmcphcgiclanaaGreatDoor
open Go.Bil
open Go.RowKit (Below)
open Go.Proofs
end Go.Proofs.YtlmcphcgiclanaaGreatDoor

namespace Go.Proofs.YtlmcphcgiclanaaGreatDoor
open Go.Bil
open Go.RowKit (Below)
open Go.Proofs
end Go.Proofs.YtlmcphcgiclanaaGreatDoor
