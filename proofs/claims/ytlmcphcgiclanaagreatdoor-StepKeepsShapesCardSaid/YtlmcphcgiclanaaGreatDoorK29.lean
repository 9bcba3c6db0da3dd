/- Part of the proof of the laws of this seat: V15, X15, Z5. No conditions. -/
import Derived.Test.YtlmcphcgiclanaaGreatDoorK5
import Derived.Test.YtlmcphcgiclanaaGreatDoorK26
import Derived.Test.YtlmcphcgiclanaaGreatDoorK28
import Derived.Test.YtlmcphcgiclanaaGreatDoorK18
import Derived.Test.YtlmcphcgiclanaaGreatDoorK11
set_option linter.unusedVariables false
set_option linter.unusedSimpArgs false
set_option linter.unnecessarySimpa false
namespace Go.Proofs.YtlmcphcgiclanaaGreatDoor
open Go.Bil
open Go.RowKit (Below)
open Go.Proofs
set_option maxHeartbeats 4000000 in
theorem aGl (w : World) (bl pm : Nat) (f : Int → Option Body) (em : dL) (hme : hJ .u32 nU f (some pm) em) (r : Row) (cs : List Con) (hr : aX 121 5 r.A r.n r.c ((cs).map bY) r.e) (hn : r.n ≤ 1099511627776) (z : Int × Int) (a b : Body) (h1 : f z.1 = some a) (h2 : f z.2 = some b) (ha : Okb a) (hb : Okb b) (hO : Own [(some bl, bc [.map (some pm), .slice r.A r.n r.c] 158), em, r.e] w) :
    Calls Tryz.prog 107 #[.pointer (some ⟨bl, 0, none⟩), (.agg (bG z).toArray)] w (fun ex w' => ∃ v, ex = .returned v ∧ (fun v w' => v = .tuple #[] ∧ ∃ q : Row, aX 121 5 q.A q.n q.c ((cs ++ (zD f z).toList).map bY) q.e ∧ Mem w (bU [(some bl, bc [.map (some pm), .slice r.A r.n r.c] 158), em, r.e]) [(some bl, bc [.map (some pm), .slice q.A q.n q.c] 158), em, q.e] w') v w') := by
  refine aJ #[] 35 Tryz.func107 rfl Tryz.results107 Tryz.ntmps107 rfl ?_
  have M0 := hO.mem
  refine aG (aB ?_)
  refine bK (.agg (List.toArray _)) M0 rfl rfl rfl (fun b1 w1 M1 => ?_)
  refine aE (aF (aG ?_))
  refine aJw [(0, 0), (1, 0), (2, 0), (3, 1), (4, 0), (5, 1), (6, 1), (7, 0), (8, 0), (9, 0), (10, 1), (11, 0), (12, 1), (13, 1)] 14 18 [(15, 0), (16, 0), (17, 0), (18, 2), (19, 2), (20, 0)] [(14, 2), (15, 0), (16, 0), (17, 0), (19, 2), (20, 0)] mixed rfl (by kernel_rfl) (fun w2 hb2 hh2 => ?_)
  have M2 := M1.drew hb2 hh2
  refine qR rfl rfl rfl (fun _ => aC (.pointer _) rfl) ?_
  refine qR rfl rfl rfl (fun _ => aV rfl) ?_
  refine qR rfl rfl rfl (fun _ => aH 0 uZ rfl) ?_
  refine aIv rfl rfl rfl (aZ 0 (.map _) tZ M2 rfl rfl rfl) ?_
  refine qR rfl rfl rfl (fun _ => aH 0 kU rfl) ?_
  refine aIv rfl rfl rfl (aZ 3 (.int _ _) cR M2 rfl rfl rfl) ?_
  refine aIv rfl rfl rfl (gR (enc := nU) aQe 1 uP aPx M2 rfl hme rfl rfl) ?_
  refine aRm 13 ((.agg (aI a).toArray)) (congrArg nU (by rw [h1]; rfl)) ?_
  refine qR rfl rfl rfl (fun _ => aC (.pointer _) rfl) ?_
  refine qR rfl rfl rfl (fun _ => aV rfl) ?_
  refine qR rfl rfl rfl (fun _ => aH 0 uZ rfl) ?_
  refine aIv rfl rfl rfl (aZ 0 (.map _) tZ M2 rfl rfl rfl) ?_
  refine qR rfl rfl rfl (fun _ => aH 1 kQ rfl) ?_
  refine aIv rfl rfl rfl (aZ 3 (.int _ _) cR M2 rfl rfl rfl) ?_
  refine aIv rfl rfl rfl (gR (enc := nU) aQe 1 uP aPx M2 rfl hme rfl rfl) ?_
  refine aRm 20 ((.agg (aI b).toArray)) (congrArg nU (by rw [h2]; rfl)) ?_
  refine aGe ?_ ?_
  · refine eB [true, true, true, true, true, true] rfl (by kernel_rfl) ?_
    refine aL aLl rfl rfl rfl ?_
    refine (sT _ a b ha hb).mono ?_
    rintro _ w3 ⟨v3, rfl, ⟨rfl, hb3⟩⟩
    refine ⟨_, rfl, ?_⟩
    have M3 := M2.callB hb3
    refine aE (aF ⟨dZ, ?_⟩)
    refine aW rfl rfl rfl (fun _ => aC (.tuple (List.toArray _)) rfl) ?_
    refine aW rfl rfl rfl (fun _ => bE (.agg (List.toArray _)) rfl rfl) ?_
    refine aW rfl rfl rfl (fun _ => bE (.bool _) rfl rfl) ?_
    refine eB [] rfl (by kernel_rfl) ?_
    refine aS oL M3 rfl rfl (fun b4 w4 M4 => ?_)
    refine aE (aF ⟨dZ, ?_⟩)
    refine eB [] rfl (by kernel_rfl) ?_
    refine bJ 4 _ eX M4 rfl rfl rfl rfl rfl (aU rfl) rfl (fun w5 M5 => ?_)
    refine aE (aF ⟨dZ, ?_⟩)
    refine aW rfl rfl rfl (fun _ => aD (.bool _) rfl) ?_
    refine cE ?_
    refine aF (aG (aB ?_))
    refine aA (aC (.bool _) rfl) rfl rfl ?_
    refine aE (aF ?_)
    refine iJ _ rfl (fun h24 => ?_) (fun h24 => ?_)
    · obtain ⟨cc, hcc⟩ := Option.isSome_iff_exists.1 h24
      refine bZ [(0, 0), (1, 0), (2, 0), (3, 0), (4, 1), (5, 1), (6, 2), (7, 2), (8, 0), (9, 0), (10, 2)] mixed rfl (by kernel_rfl) (fun w6 hb6 hh6 => ?_)
      have M6 := M5.drew hb6 hh6
      refine aW rfl rfl rfl (fun _ => aC (.pointer _) rfl) ?_
      refine aW rfl rfl rfl (fun _ => aC (.pointer _) rfl) ?_
      refine aW rfl rfl rfl (fun _ => aV rfl) ?_
      refine aW rfl rfl rfl (fun _ => aH 1 mU rfl) ?_
      refine cB rfl rfl rfl (aZ 0 (.slice _ _ _) mK M6 rfl rfl rfl) ?_
      refine cB rfl rfl rfl (bB 4 eX M6 rfl rfl rfl) ?_
      refine mN 30 (.agg (bY cc).toArray) (congrArg (fun o => Value.agg (aTi o).toArray) hcc) ?_
      refine eB [true, false] rfl (by kernel_rfl) ?_
      refine cM [.agg (List.toArray _)] [bY cc] rfl aGz M6 rfl rfl rfl rfl (cW rfl) (by decide) (fun b7 w7 M7 => ?_)
      refine aE (aF ⟨(kO (dG rfl (aZ 0 (.slice _ _ _) mK M7 rfl rfl rfl)) dZ), ?_⟩)
      refine eB [true] rfl (by kernel_rfl) ?_
      refine dM 2 [bY cc] aGz M7 rfl rfl rfl rfl rfl hr rfl (by simp [bY, Go.Bil.one]) (cO.ofMem 5 M7 rfl) (by omega) (fun A8 c8 e8 w8 M8 hR8 => ?_)
      refine aE (aF ⟨dZ, ?_⟩)
      refine aW rfl rfl rfl (fun _ => aV rfl) ?_
      refine aW rfl rfl rfl (fun _ => aH 1 mU rfl) ?_
      refine eB [] rfl (by kernel_rfl) ?_
      refine eC 0 (.slice _ _ _) mK M8 rfl rfl rfl rfl rfl rfl (fun w9 M9 => ?_)
      refine aE (aF ⟨dZ, ?_⟩)
      refine cE ?_
      refine gM ?_
      exact ⟨rfl, ⟨A8, r.n + 1, c8, e8⟩, by rw [mZ h1 h2, hcc, List.map_append]; exact hR8, M9.keep [true, true, true, false, false, false]⟩
    · have hcc : jP a b = none := by simpa using h24
      refine aN ?_
      refine gM ?_
      exact ⟨rfl, r, by rw [mZ h1 h2, hcc]; simpa using hr, M5.keep [true, true, true, false, false]⟩
  · refine eB [false, false, false, false, false, false] rfl (by kernel_rfl) ?_
    refine aS oL M2 rfl rfl (fun b10 w10 M10 => ?_)
    refine aE (aF ⟨(kO (dG rfl (gR (enc := nU) aQe 1 uP aPx M10 rfl hme rfl rfl)) (kO (dG rfl (aZ 3 (.int _ _) cR M10 rfl rfl rfl)) (kO (dG rfl (aZ 0 (.map _) tZ M10 rfl rfl rfl)) (kO (dG rfl (gR (enc := nU) aQe 1 uP aPx M10 rfl hme rfl rfl)) (kO (dG rfl (aZ 3 (.int _ _) cR M10 rfl rfl rfl)) (kO (dG rfl (aZ 0 (.map _) tZ M10 rfl rfl rfl)) dZ)))))), ?_⟩)
    refine eB [true, true, true, true, true, true] rfl (by kernel_rfl) ?_
    refine aL aLl rfl rfl rfl ?_
    refine (sT _ a b ha hb).mono ?_
    rintro _ w11 ⟨v11, rfl, ⟨rfl, hb11⟩⟩
    refine ⟨_, rfl, ?_⟩
    have M11 := M10.callB hb11
    refine aE (aF ⟨dZ, ?_⟩)
    refine aW rfl rfl rfl (fun _ => aC (.tuple (List.toArray _)) rfl) ?_
    refine aW rfl rfl rfl (fun _ => bE (.agg (List.toArray _)) rfl rfl) ?_
    refine aW rfl rfl rfl (fun _ => bE (.bool _) rfl rfl) ?_
    refine eB [] rfl (by kernel_rfl) ?_
    refine bJ 4 _ eX M11 rfl rfl rfl rfl rfl (aU rfl) rfl (fun w12 M12 => ?_)
    refine aE (aF ⟨dZ, ?_⟩)
    refine aW rfl rfl rfl (fun _ => aD (.bool _) rfl) ?_
    refine cE ?_
    refine aF (aG (aB ?_))
    refine aA (aC (.bool _) rfl) rfl rfl ?_
    refine aE (aF ?_)
    refine iJ _ rfl (fun h24 => ?_) (fun h24 => ?_)
    · obtain ⟨cc, hcc⟩ := Option.isSome_iff_exists.1 h24
      refine bZ [(0, 0), (1, 0), (2, 0), (3, 0), (4, 1), (5, 1), (6, 2), (7, 2), (8, 0), (9, 0), (10, 2)] mixed rfl (by kernel_rfl) (fun w13 hb13 hh13 => ?_)
      have M13 := M12.drew hb13 hh13
      refine aW rfl rfl rfl (fun _ => aC (.pointer _) rfl) ?_
      refine aW rfl rfl rfl (fun _ => aC (.pointer _) rfl) ?_
      refine aW rfl rfl rfl (fun _ => aV rfl) ?_
      refine aW rfl rfl rfl (fun _ => aH 1 mU rfl) ?_
      refine cB rfl rfl rfl (aZ 0 (.slice _ _ _) mK M13 rfl rfl rfl) ?_
      refine cB rfl rfl rfl (bB 4 eX M13 rfl rfl rfl) ?_
      refine mN 30 (.agg (bY cc).toArray) (congrArg (fun o => Value.agg (aTi o).toArray) hcc) ?_
      refine eB [true, false] rfl (by kernel_rfl) ?_
      refine cM [.agg (List.toArray _)] [bY cc] rfl aGz M13 rfl rfl rfl rfl (cW rfl) (by decide) (fun b14 w14 M14 => ?_)
      refine aE (aF ⟨(kO (dG rfl (aZ 0 (.slice _ _ _) mK M14 rfl rfl rfl)) dZ), ?_⟩)
      refine eB [true] rfl (by kernel_rfl) ?_
      refine dM 2 [bY cc] aGz M14 rfl rfl rfl rfl rfl hr rfl (by simp [bY, Go.Bil.one]) (cO.ofMem 5 M14 rfl) (by omega) (fun A15 c15 e15 w15 M15 hR15 => ?_)
      refine aE (aF ⟨dZ, ?_⟩)
      refine aW rfl rfl rfl (fun _ => aV rfl) ?_
      refine aW rfl rfl rfl (fun _ => aH 1 mU rfl) ?_
      refine eB [] rfl (by kernel_rfl) ?_
      refine eC 0 (.slice _ _ _) mK M15 rfl rfl rfl rfl rfl rfl (fun w16 M16 => ?_)
      refine aE (aF ⟨dZ, ?_⟩)
      refine cE ?_
      refine gM ?_
      exact ⟨rfl, ⟨A15, r.n + 1, c15, e15⟩, by rw [mZ h1 h2, hcc, List.map_append]; exact hR15, M16.keep [true, true, true, false, false, false]⟩
    · have hcc : jP a b = none := by simpa using h24
      refine aN ?_
      refine gM ?_
      exact ⟨rfl, r, by rw [mZ h1 h2, hcc]; simpa using hr, M12.keep [true, true, true, false, false]⟩
set_option maxHeartbeats 4000000 in
theorem vT (w : World) (A : Option Addr) (n c : Nat) (zs : List (Int × Int)) (R : Rd w 2 A n (zs.map bG)) (bl pm : Nat) (f : Int → Option Body) (em : dL) (hme : hJ .u32 nU f (some pm) em) (r : Row) (hr : aX 121 5 r.A r.n r.c (([]).map bY) r.e) (hz : ∀ z ∈ zs, ∃ a b, f z.1 = some a ∧ f z.2 = some b ∧ Okb a ∧ Okb b) (hn : n ≤ 1099511627776) (hO : Own [(some bl, bc [.map (some pm), .slice r.A r.n r.c] 158), em, r.e] w) (hdA : 0 < n → ∀ q off, A = some ⟨q, off, none⟩ → q ∉ bU [(some bl, bc [.map (some pm), .slice r.A r.n r.c] 158), em, r.e]) :
    Calls Tryz.prog 106 #[.slice A n c, .func (.func 107) #[.pointer (some ⟨bl, 0, none⟩)] #[]] w (fun ex w' => ∃ v, ex = .returned v ∧ (fun v w' => v = .tuple #[] ∧ ∃ q : Row, aX 121 5 q.A q.n q.c ((zs.filterMap (zD f)).map bY) q.e ∧ Mem w (bU [(some bl, bc [.map (some pm), .slice r.A r.n r.c] 158), em, r.e]) [(some bl, bc [.map (some pm), .slice q.A q.n q.c] 158), em, q.e] w') v w') := by
  have hlen : zs.length = n := by simpa using R.len
  refine aJ #[] 16 Tryz.func106 rfl Tryz.results106 Tryz.ntmps106 rfl ?_
  have M0 := hO.mem
  refine aG (aB ?_)
  refine aA (aC (.slice _ _ _) rfl) rfl rfl ?_
  refine aA (cS Tryz.underlying159 rfl) rfl rfl ?_
  refine aA (aC (.int _ _) rfl) rfl rfl ?_
  refine aE (aF (bA ?_))
  refine dI (σ := Nat × Row) [1, 6, 7] (fun (k, q) => [(8, .int .i64 (k : Int))]) (fun (k, q) w' => (k ≤ n ∧ aX 121 5 q.A q.n q.c (((zs.take k).filterMap (zD f)).map bY) q.e) ∧ Mem w (bU [(some bl, bc [.map (some pm), .slice r.A r.n r.c] 158), em, r.e]) [(some bl, bc [.map (some pm), .slice q.A q.n q.c] 158), em, q.e] w') (fun (k, q) => n - k) (0, r) (bS rfl eV) (⟨⟨by omega, hr⟩, M0⟩) ?_
  rintro ⟨k, q⟩ ρ1 w1 ⟨⟨hk, hq⟩, hM1⟩
  have hfl := List.length_filterMap_le (zD f) (zs.take k)
  have htl := List.length_take_le k zs
  have hql : ((zs.take k).filterMap (zD f)).length = q.n := by simpa using hq.1
  refine aG (aB ?_)
  refine aA (aO (.bool (decide _)) rfl rfl rfl) rfl rfl ?_
  refine aE (aF (aG ?_))
  refine aY rfl (fun h9 => ?_) (fun h9 => ?_)
  · obtain ⟨xz, hxz⟩ := cN (k := k) hlen (by omega)
    obtain ⟨za, zb, hza, hzb, hoa, hob⟩ := hz xz (List.mem_of_getElem? hxz)
    refine aN (aF (aG (bA (aG (aB ?_)))))
    refine aA (bO (k) oV rfl rfl rfl ((R.memY hM1 hdA).below_len (aK bG hxz)) ((R.memY hM1 hdA).someK (aK bG hxz))) rfl rfl ?_
    refine aA (dO _ eT (R.memY hM1 hdA) (aK bG hxz) rfl) rfl rfl ?_
    refine aS mX hM1 rfl rfl (fun b2 w2 M2 => ?_)
    refine bJ 3 _ eT M2 rfl rfl rfl rfl rfl (aU rfl) rfl (fun w3 M3 => ?_)
    refine aE (aF (aB ?_))
    refine aA (aC (.func _ _ _) rfl) rfl rfl ?_
    refine aA (bB 3 eT M3 rfl rfl rfl) rfl rfl ?_
    refine aL aUj rfl rfl rfl ?_
    refine (aGl _ bl pm f em hme q _ hq (by omega) xz za zb hza hzb hoa hob (M3.ownSeg 0 3)).mono ?_
    rintro _ w4 ⟨v4, rfl, ⟨rfl, q2, hq2, hM4⟩⟩
    refine ⟨_, rfl, ?_⟩
    have M4 : Mem _ _ [_, _, _, _] _ := M3.seg 0 3 hM4
    refine aE ?_
    refine dJ ?_
    refine aF (aB ?_)
    refine aA (bX rfl rfl (by omega) (by omega)) rfl rfl ?_
    refine aA (aC (.int _ _) rfl) rfl rfl ?_
    refine aE ?_
    refine cF (k + 1, q2) (bS rfl eV) (cL rfl (cL rfl (cL rfl iI))) ?_ ?_
    · exact ⟨⟨by omega, by rw [aRa hxz]; exact hq2⟩, M4.keep [true, true, true, false]⟩
    · (show n - (k + 1) < n - k; omega)
  · have hkn : k = n := by omega
    rw [List.take_of_length_le (by omega)] at hq
    refine cK ?_
    refine dB ?_
    refine cY ?_
    refine eN ?_
    refine gM ?_
    exact ⟨rfl, q, hq, hM1⟩
set_option maxHeartbeats 8000000 in
theorem xV (w : World) (F : Rd w 2 (some ⟨0, 0, none⟩) 1 [[.int .u32 73856093, .int .u32 19349663]]) (N : Rd w 4 (some ⟨3, 0, none⟩) 1 [cT gT]) (A : Option Addr) (n c : Nat) (xs : List Body) (R : Rd w 10 A n (xs.map aI)) (hb : ∀ b ∈ xs, Okb b) (hs : bL xs) (hn : n ≤ 4096) :
    Calls Tryz.prog 71 #[.slice A n c] w (fun ex w' => ∃ v, ex = .returned v ∧ (fun v w' => ∃ (r : Row) (m : Nat), v = .tuple #[.slice r.A r.n r.c, .int .i64 (m : Int)] ∧ (iQ xs).length ≤ m ∧ 2 * m ≤ xs.length * (xs.length - 1) ∧ aX 121 5 r.A r.n r.c ((jN xs).map bY) r.e ∧ Mem w [] [r.e] w') v w') := by
  have hlen : xs.length = n := by simpa using R.len
  have hbd := R.bound
  refine aJ #[.tmp 2, .tmp 3] 39 Tryz.func71 rfl Tryz.results71 Tryz.ntmps71 rfl ?_
  have M0 := Mem.refl w
  refine aG (aB ?_)
  refine aA (aD (.slice _ _ _) rfl) rfl rfl ?_
  refine aA (aD (.int _ _) rfl) rfl rfl ?_
  refine aE (aF (aG (aB ?_)))
  refine lH M0 rfl rfl (fun b1 w1 M1 => ?_)
  refine aA (cC [(0, .map _)] _ aIm rfl rfl) rfl rfl ?_
  refine bK (.agg (List.toArray _)) M1 rfl rfl rfl (fun b2 w2 M2 => ?_)
  refine aA (aD (.pointer _) rfl) rfl rfl ?_
  refine aE (aF (aG (aG (aB ?_))))
  refine aA (aC (.slice _ _ _) rfl) rfl rfl ?_
  refine aA (cS Tryz.underlying22 rfl) rfl rfl ?_
  refine aA (aC (.int _ _) rfl) rfl rfl ?_
  refine aE (aF (bA ?_))
  refine dI (σ := Nat × dL) [0, 2, 3, 4, 11, 12] (fun (k, em) => [(13, .int .i64 (k : Int))]) (fun (k, em) w' => (k ≤ n ∧ hJ .u32 nU (boM (xs.take k)) (some b1) em) ∧ Mem w [] [em, (some b2, bc [.map (some b1), .slice none 0 0] 158)] w') (fun (k, em) => n - k) (0, (some b1, .map #[] 0)) (bS rfl eV) (⟨⟨by omega, (hJ.empty _ _ b1).congr (fun q => by rw [List.take_zero]; exact aRd q)⟩, M2⟩) ?_
  rintro ⟨k, em⟩ ρ3 w3 ⟨⟨hk, hme⟩, hM3⟩
  refine aG (aB ?_)
  refine aA (aO (.bool (decide _)) rfl rfl rfl) rfl rfl ?_
  refine aE (aF (aG ?_))
  refine aY rfl (fun h14 => ?_) (fun h14 => ?_)
  · obtain ⟨xb, hxb⟩ := cN (k := k) hlen (by omega)
    refine aN (aF (aG (bA (aG (aB ?_)))))
    refine aA (bO (k) dD rfl rfl rfl ((R.mem hM3).below_len (aK aI hxb)) ((R.mem hM3).someK (aK aI hxb))) rfl rfl ?_
    refine aA (dO _ bW (R.mem hM3) (aK aI hxb) rfl) rfl rfl ?_
    refine aS kD hM3 rfl rfl (fun b4 w4 M4 => ?_)
    refine bJ 2 _ bW M4 rfl rfl rfl rfl rfl (aU rfl) rfl (fun w5 M5 => ?_)
    refine aE (aF ?_)
    refine bZ [(0, 0), (1, 0), (2, 0), (3, 1), (4, 0), (5, 1), (6, 1), (7, 2)] mixed rfl (by kernel_rfl) (fun w6 hb6 hh6 => ?_)
    have M6 := M5.drew hb6 hh6
    refine aW rfl rfl rfl (fun _ => aC (.pointer _) rfl) ?_
    refine aW rfl rfl rfl (fun _ => aV rfl) ?_
    refine aW rfl rfl rfl (fun _ => aH 0 uZ rfl) ?_
    refine cB rfl rfl rfl (aZ 1 (.map _) tZ M6 rfl rfl rfl) ?_
    refine aW rfl rfl rfl (fun _ => aH 0 dR rfl) ?_
    refine cB rfl rfl rfl (aZ 2 (.int _ _) cR M6 rfl rfl rfl) ?_
    refine cB rfl rfl rfl (bB 2 bW M6 rfl rfl rfl) ?_
    refine eB [true, true, true] rfl (by kernel_rfl) ?_
    refine lP (enc := nU) 0 uP M6 rfl rfl hme rfl rfl rfl rfl (fun e7 w7 hm7 M7 => ?_)
    refine aE (aF ⟨dZ, ?_⟩)
    refine cE ?_
    refine dJ ?_
    refine aF (aB ?_)
    refine aA (bX rfl rfl (by omega) (by omega)) rfl rfl ?_
    refine aA (aC (.int _ _) rfl) rfl rfl ?_
    refine aE ?_
    refine cF (k + 1, e7) (bS rfl eV) (cL rfl (cL rfl (cL rfl (cL rfl (cL rfl (cL rfl iI)))))) ?_ ?_
    · exact ⟨⟨by omega, hm7.congr (fun q => aLa hxb q)⟩, M7.keep [true, true, false]⟩
    · (show n - (k + 1) < n - k; omega)
  · have hkn : k = n := by omega
    rw [List.take_of_length_le (by omega)] at hme
    refine cK ?_
    refine dB ?_
    refine cY ?_
    refine eN ?_
    refine aF (aG (aB ?_))
    refine aA (aC (.slice _ _ _) rfl) rfl rfl ?_
    refine aL aVa rfl rfl rfl ?_
    refine (aEn _ (F.mem hM3) (N.mem hM3) _ _ _ xs (R.mem hM3) hb hs (by first | decide | omega)).mono ?_
    rintro _ w8 ⟨v8, rfl, ⟨r0, m0, rfl, hfm0, hgm0, hr0, hM8⟩⟩
    refine ⟨_, rfl, ?_⟩
    have M8 : Mem _ _ [_, _, _] _ := hM3.call0 hM8
    refine aA (aC (.tuple (List.toArray _)) rfl) rfl rfl ?_
    refine aA (bE (.slice _ _ _) rfl rfl) rfl rfl ?_
    refine aA (bE (.int _ _) rfl rfl) rfl rfl ?_
    refine aA (aD (.slice _ _ _) rfl) rfl rfl ?_
    refine aA (aD (.int _ _) rfl) rfl rfl ?_
    refine aE (aF (aG (aB ?_)))
    refine aA (aC (.slice _ _ _) rfl) rfl rfl ?_
    refine aA (aC (.pointer _) rfl) rfl rfl ?_
    refine aA (dC [.pointer _] [] rfl rfl) rfl rfl ?_
    have M9 : Mem _ _ [_, _, _, _] _ := Mem.orderC (M8.dummy default)
    have hfl : (iQ xs).length = r0.n := by simpa using hr0.1
    have hnn : xs.length * (xs.length - 1) ≤ 4096 * 4096 := Nat.mul_le_mul (by omega) (by omega)
    refine aL aUk rfl rfl rfl ?_
    refine (vT _ r0.A r0.n r0.c (iQ xs) (hr0.rd M9 (aP (i := 0) rfl)) b2 b1 (boM xs) em hme gE (aX.nil _ _ _) (fun z hz => by obtain ⟨a, b, h1, h2, _, _, h3, h4⟩ := rK hs hz; exact ⟨a, b, h3, h4, hb a h1, hb b h2⟩) (by omega) (M9.ownSeg 1 3) (hr0.apartTail M9)).mono ?_
    rintro _ w10 ⟨v10, rfl, ⟨rfl, q, hq, hM10⟩⟩
    refine ⟨_, rfl, ?_⟩
    have M10 : Mem _ _ [_, _, _, _] _ := M9.seg 1 3 hM10
    refine aE (aF (aG (aB ?_)))
    refine aA (aC (.pointer _) rfl) rfl rfl ?_
    refine aA (aV rfl) rfl rfl ?_
    refine aA (aH 1 mU rfl) rfl rfl ?_
    refine aA (aZ 1 (.slice _ _ _) mK M10 rfl rfl rfl) rfl rfl ?_
    refine aA (aC (.int _ _) rfl) rfl rfl ?_
    refine aA (aD (.slice _ _ _) rfl) rfl rfl ?_
    refine aA (aD (.int _ _) rfl) rfl rfl ?_
    refine aE (aF (aR ?_))
    refine fG (.slice _ _ _) (.int _ _) rfl rfl ?_
    exact ⟨q, m0, rfl, hfm0, hgm0, hq, M10.keep [false, false, false, true]⟩
end Go.Proofs.YtlmcphcgiclanaaGreatDoor

namespace Go.Proofs.YtlmcphcgiclanaaGreatDoor
open Go.Bil
open Go.RowKit (Below)
open Go.Proofs
end Go.Proofs.YtlmcphcgiclanaaGreatDoor

namespace Go.Proofs.YtlmcphcgiclanaaGreatDoor
open Go.Bil
open Go.RowKit (Below)
open Go.Proofs
end Go.Proofs.YtlmcphcgiclanaaGreatDoor
