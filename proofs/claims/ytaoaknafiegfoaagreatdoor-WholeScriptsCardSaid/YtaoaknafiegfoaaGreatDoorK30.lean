/- Part of the proof of the laws of this seat: V15, X15, Z5. No conditions. -/
import Derived.Test.YtaoaknafiegfoaaGreatDoorK2
import Derived.Test.YtaoaknafiegfoaaGreatDoorK5
import Derived.Test.YtaoaknafiegfoaaGreatDoorK26
import Derived.Test.YtaoaknafiegfoaaGreatDoorK29
import Derived.Test.YtaoaknafiegfoaaGreatDoorK18
import Derived.Test.YtaoaknafiegfoaaGreatDoorK11
import Derived.Test.YtaoaknafiegfoaaGreatDoorK28
set_option linter.unusedVariables false
set_option linter.unusedSimpArgs false
set_option linter.unnecessarySimpa false
namespace Go.Proofs.YtaoaknafiegfoaaGreatDoor
open Go.Bil
open Go.RowKit (Below)
open Go.Proofs
set_option maxHeartbeats 4000000 in
theorem aYg (w : World) (bl pm : Nat) (f : Int → Option Body) (em : eZ) (hme : kG .u32 vH f (some pm) em) (r : Row) (cs : List Con) (hr : bC 211 5 r.A r.n r.c ((cs).map cH) r.e) (hn : r.n ≤ 1099511627776) (z : Int × Int) (a b : Body) (h1 : f z.1 = some a) (h2 : f z.2 = some b) (ha : Okb a) (hb : Okb b) (hO : Own [(some bl, bc [.map (some pm), .slice r.A r.n r.c] 219), em, r.e] w) :
  Calls Tryz.prog 159 #[.pointer (some ⟨bl, 0, none⟩), (.agg (cL z).toArray)] w (fun ex w' => ∃ v, ex = .returned v ∧ (fun v w' => v = .tuple #[] ∧ ∃ q : Row, bC 211 5 q.A q.n q.c ((cs ++ (aBn f z).toList).map cH) q.e ∧ Mem w (cE [(some bl, bc [.map (some pm), .slice r.A r.n r.c] 219), em, r.e]) [(some bl, bc [.map (some pm), .slice q.A q.n q.c] 219), em, q.e] w') v w') := by
 refine aI #[] 35 Tryz.func159 rfl Tryz.results159 Tryz.ntmps159 rfl ?_
 have M0 := hO.mem
 refine aE (aA (bK (.agg (List.toArray _)) M0 rfl rfl rfl (fun b1 w1 M1 => (aB (aC (aE (aJm [(0, 0), (1, 0), (2, 0), (3, 1), (4, 0), (5, 1), (6, 1), (7, 0), (8, 0), (9, 0), (10, 1), (11, 0), (12, 1), (13, 1)] 14 18 [(15, 0), (16, 0), (17, 0), (18, 2), (19, 2), (20, 0)] [(14, 2), (15, 0), (16, 0), (17, 0), (19, 2), (20, 0)] mixed rfl (by kernel_rfl) (fun w2 hb2 hh2 => ?_))))))))
 have M2 := M1.drew hb2 hh2
 refine rT rfl rfl rfl (fun _ => aH (.pointer _) rfl) (rT rfl rfl rfl (fun _ => bE rfl) (rT rfl rfl rfl (fun _ => aD 0 aEv rfl) (yL rfl rfl rfl (aM 0 (.map _) aFk M2 rfl rfl rfl) (rT rfl rfl rfl (fun _ => aD 0 gC rfl) (yL rfl rfl rfl (aM 3 (.int _ _) bW M2 rfl rfl rfl) ?_)))))
 refine yL rfl rfl rfl (lP (enc := vH) bBn 1 aEy bHs M2 rfl hme rfl rfl) (bKd 13 ((.agg (aF a).toArray)) (congrArg vH (by rw [h1]; rfl)) (rT rfl rfl rfl (fun _ => aH (.pointer _) rfl) (rT rfl rfl rfl (fun _ => bE rfl) (rT rfl rfl rfl (fun _ => aD 0 aEv rfl) ?_))))
 refine yL rfl rfl rfl (aM 0 (.map _) aFk M2 rfl rfl rfl) (rT rfl rfl rfl (fun _ => aD 1 jS rfl) (yL rfl rfl rfl (aM 3 (.int _ _) bW M2 rfl rfl rfl) (yL rfl rfl rfl (lP (enc := vH) bBn 1 aEy bHs M2 rfl hme rfl rfl) (bKd 20 ((.agg (aF b).toArray)) (congrArg vH (by rw [h2]; rfl)) ?_))))
 refine aCa ?_ ?_
 ·refine dT [true, true, true, true, true, true] rfl (by kernel_rfl) (bY bAk rfl rfl (aCl _ a b ha hb) ?_)
  rintro v3 w3 ⟨rfl, hb3⟩
  have M3 := M2.callB hb3
  refine aB (aC ⟨dU, ?_⟩)
  refine aV rfl rfl rfl (fun _ => aH (.tuple (List.toArray _)) rfl) (aV rfl rfl rfl (fun _ => bN (.agg (List.toArray _)) rfl rfl) (aV rfl rfl rfl (fun _ => bN (.bool _) rfl rfl) (dT [] rfl (by kernel_rfl) (aS lZ M3 rfl rfl (fun b4 w4 M4 => ?_)))))
  refine aB (aC ⟨dU, ?_⟩)
  refine dT [] rfl (by kernel_rfl) (bG 4 _ eQ M4 rfl rfl rfl rfl rfl (aR rfl) rfl (fun w5 M5 => ?_))
  refine aB (aC ⟨dU, ?_⟩)
  refine aV rfl rfl rfl (fun _ => aJ (.bool _) rfl) (bX (aC (aE (aA (wq (aH (.bool _) rfl) rfl (aB (aC ?_)))))))
  refine iG _ rfl (fun h24 => ?_) (fun h24 => ?_)
  ·obtain ⟨cc, hcc⟩ := Option.isSome_iff_exists.1 h24
   refine bQ [(0, 0), (1, 0), (2, 0), (3, 0), (4, 1), (5, 1), (6, 2), (7, 2), (8, 0), (9, 0), (10, 2)] mixed rfl (by kernel_rfl) (fun w6 hb6 hh6 => ?_)
   have M6 := M5.drew hb6 hh6
   refine aV rfl rfl rfl (fun _ => aH (.pointer _) rfl) (aV rfl rfl rfl (fun _ => aH (.pointer _) rfl) (aV rfl rfl rfl (fun _ => bE rfl) (aV rfl rfl rfl (fun _ => aD 1 sZ rfl) (bS rfl rfl rfl (aM 0 (.slice _ _ _) oQ M6 rfl rfl rfl) (bS rfl rfl rfl (aX 4 eQ M6 rfl rfl rfl) ?_)))))
   refine dX 30 (.agg (cH cc).toArray) (congrArg (fun o => Value.agg (aNb o).toArray) hcc) (dT [true, false] rfl (by kernel_rfl) (cT [.agg (List.toArray _)] [cH cc] rfl sK M6 rfl rfl rfl rfl (dG rfl) (by decide) (fun b7 w7 M7 => ?_)))
   refine aB (aC ⟨(dZ (bM rfl (aM 0 (.slice _ _ _) oQ M7 rfl rfl rfl)) dU), ?_⟩)
   refine dT [true] rfl (by kernel_rfl) (dJ 2 [cH cc] sK M7 rfl rfl rfl rfl rfl hr rfl (by simp [cH, Go.Bil.one]) (dW.ofMem 5 M7 rfl) (by omega) (fun A8 c8 e8 w8 M8 hR8 => ?_))
   refine aB (aC ⟨dU, ?_⟩)
   refine aV rfl rfl rfl (fun _ => bE rfl) (aV rfl rfl rfl (fun _ => aD 1 sZ rfl) (dT [] rfl (by kernel_rfl) (dD 0 (.slice _ _ _) oQ M8 rfl rfl rfl rfl rfl rfl (fun w9 M9 => ?_))))
   refine aB (aC ⟨dU, ?_⟩)
   refine bX (lD ?_)
   exact ⟨rfl, ⟨A8, r.n + 1, c8, e8⟩, by rw [sE h1 h2, hcc, List.map_append]; exact hR8, M9.keep [true, true, true, false, false, false]⟩
  ·have hcc : jY a b = none := by simpa using h24
   refine aL (lD ?_)
   exact ⟨rfl, r, by rw [sE h1 h2, hcc]; simpa using hr, M5.keep [true, true, true, false, false]⟩
 ·refine dT [false, false, false, false, false, false] rfl (by kernel_rfl) (aS lZ M2 rfl rfl (fun b10 w10 M10 => ?_))
  refine aB (aC ⟨(dZ (bM rfl (lP (enc := vH) bBn 1 aEy bHs M10 rfl hme rfl rfl)) (dZ (bM rfl (aM 3 (.int _ _) bW M10 rfl rfl rfl)) (dZ (bM rfl (aM 0 (.map _) aFk M10 rfl rfl rfl)) (dZ (bM rfl (lP (enc := vH) bBn 1 aEy bHs M10 rfl hme rfl rfl)) (dZ (bM rfl (aM 3 (.int _ _) bW M10 rfl rfl rfl)) (dZ (bM rfl (aM 0 (.map _) aFk M10 rfl rfl rfl)) dU)))))), ?_⟩)
  refine dT [true, true, true, true, true, true] rfl (by kernel_rfl) (bY bAk rfl rfl (aCl _ a b ha hb) ?_)
  rintro v11 w11 ⟨rfl, hb11⟩
  have M11 := M10.callB hb11
  refine aB (aC ⟨dU, ?_⟩)
  refine aV rfl rfl rfl (fun _ => aH (.tuple (List.toArray _)) rfl) (aV rfl rfl rfl (fun _ => bN (.agg (List.toArray _)) rfl rfl) (aV rfl rfl rfl (fun _ => bN (.bool _) rfl rfl) (dT [] rfl (by kernel_rfl) (bG 4 _ eQ M11 rfl rfl rfl rfl rfl (aR rfl) rfl (fun w12 M12 => ?_)))))
  refine aB (aC ⟨dU, ?_⟩)
  refine aV rfl rfl rfl (fun _ => aJ (.bool _) rfl) (bX (aC (aE (aA (wq (aH (.bool _) rfl) rfl (aB (aC ?_)))))))
  refine iG _ rfl (fun h24 => ?_) (fun h24 => ?_)
  ·obtain ⟨cc, hcc⟩ := Option.isSome_iff_exists.1 h24
   refine bQ [(0, 0), (1, 0), (2, 0), (3, 0), (4, 1), (5, 1), (6, 2), (7, 2), (8, 0), (9, 0), (10, 2)] mixed rfl (by kernel_rfl) (fun w13 hb13 hh13 => ?_)
   have M13 := M12.drew hb13 hh13
   refine aV rfl rfl rfl (fun _ => aH (.pointer _) rfl) (aV rfl rfl rfl (fun _ => aH (.pointer _) rfl) (aV rfl rfl rfl (fun _ => bE rfl) (aV rfl rfl rfl (fun _ => aD 1 sZ rfl) (bS rfl rfl rfl (aM 0 (.slice _ _ _) oQ M13 rfl rfl rfl) (bS rfl rfl rfl (aX 4 eQ M13 rfl rfl rfl) ?_)))))
   refine dX 30 (.agg (cH cc).toArray) (congrArg (fun o => Value.agg (aNb o).toArray) hcc) (dT [true, false] rfl (by kernel_rfl) (cT [.agg (List.toArray _)] [cH cc] rfl sK M13 rfl rfl rfl rfl (dG rfl) (by decide) (fun b14 w14 M14 => ?_)))
   refine aB (aC ⟨(dZ (bM rfl (aM 0 (.slice _ _ _) oQ M14 rfl rfl rfl)) dU), ?_⟩)
   refine dT [true] rfl (by kernel_rfl) (dJ 2 [cH cc] sK M14 rfl rfl rfl rfl rfl hr rfl (by simp [cH, Go.Bil.one]) (dW.ofMem 5 M14 rfl) (by omega) (fun A15 c15 e15 w15 M15 hR15 => ?_))
   refine aB (aC ⟨dU, ?_⟩)
   refine aV rfl rfl rfl (fun _ => bE rfl) (aV rfl rfl rfl (fun _ => aD 1 sZ rfl) (dT [] rfl (by kernel_rfl) (dD 0 (.slice _ _ _) oQ M15 rfl rfl rfl rfl rfl rfl (fun w16 M16 => ?_))))
   refine aB (aC ⟨dU, ?_⟩)
   refine bX (lD ?_)
   exact ⟨rfl, ⟨A15, r.n + 1, c15, e15⟩, by rw [sE h1 h2, hcc, List.map_append]; exact hR15, M16.keep [true, true, true, false, false, false]⟩
  ·have hcc : jY a b = none := by simpa using h24
   refine aL (lD ?_)
   exact ⟨rfl, r, by rw [sE h1 h2, hcc]; simpa using hr, M12.keep [true, true, true, false, false]⟩
set_option maxHeartbeats 4000000 in
theorem aFx (w : World) (A : Option Addr) (n c : Nat) (zs : List (Int × Int)) (R : Rd w 2 A n (zs.map cL)) (bl pm : Nat) (f : Int → Option Body) (em : eZ) (hme : kG .u32 vH f (some pm) em) (r : Row) (hr : bC 211 5 r.A r.n r.c (([]).map cH) r.e) (hz : ∀ z ∈ zs, ∃ a b, f z.1 = some a ∧ f z.2 = some b ∧ Okb a ∧ Okb b) (hn : n ≤ 1099511627776) (hO : Own [(some bl, bc [.map (some pm), .slice r.A r.n r.c] 219), em, r.e] w) (hdA : 0 < n → ∀ q off, A = some ⟨q, off, none⟩ → q ∉ cE [(some bl, bc [.map (some pm), .slice r.A r.n r.c] 219), em, r.e]) :
  Calls Tryz.prog 158 #[.slice A n c, .func (.func 159) #[.pointer (some ⟨bl, 0, none⟩)] #[]] w (fun ex w' => ∃ v, ex = .returned v ∧ (fun v w' => v = .tuple #[] ∧ ∃ q : Row, bC 211 5 q.A q.n q.c ((zs.filterMap (aBn f)).map cH) q.e ∧ Mem w (cE [(some bl, bc [.map (some pm), .slice r.A r.n r.c] 219), em, r.e]) [(some bl, bc [.map (some pm), .slice q.A q.n q.c] 219), em, q.e] w') v w') := by
 have hlen : zs.length = n := by simpa using R.len
 refine aI #[] 16 Tryz.func158 rfl Tryz.results158 Tryz.ntmps158 rfl ?_
 have M0 := hO.mem
 refine aE (aA (dO rfl rfl (wq (dC Tryz.underlying220 rfl) rfl (aP rfl rfl (aB (aC (aQ (dS (σ := Nat × Row) [1, 6, 7] (fun (k, q) => [(8, .int .i64 (k : Int))]) (fun (k, q) w' => (k ≤ n ∧ bC 211 5 q.A q.n q.c (((zs.take k).filterMap (aBn f)).map cH) q.e) ∧ Mem w (cE [(some bl, bc [.map (some pm), .slice r.A r.n r.c] 219), em, r.e]) [(some bl, bc [.map (some pm), .slice q.A q.n q.c] 219), em, q.e] w') (fun (k, q) => n - k) (0, r) (bA rfl eB) (⟨⟨by omega, hr⟩, M0⟩) ?_))))))))
 rintro ⟨k, q⟩ ρ1 w1 ⟨⟨hk, hq⟩, hM1⟩
 have hfl := List.length_filterMap_le (aBn f) (zs.take k)
 have htl := List.length_take_le k zs
 have hql : ((zs.take k).filterMap (aBn f)).length = q.n := by simpa using hq.1
 refine aE (aA (cZ rfl rfl rfl rfl (aB (aC (aE ?_)))))
 refine aW rfl (fun h9 => ?_) (fun h9 => ?_)
 ·obtain ⟨xz, hxz⟩ := cS (k := k) hlen (by omega)
  obtain ⟨za, zb, hza, hzb, hoa, hob⟩ := hz xz (List.mem_of_getElem? hxz)
  refine aL (aC (aE (aQ (aE (aA (wq (bP (k) xM rfl rfl rfl ((R.memY hM1 hdA).below_len (aG cL hxz)) ((R.memY hM1 hdA).someK (aG cL hxz))) rfl (wq (dN _ jG (R.memY hM1 hdA) (aG cL hxz) rfl) rfl (aS uK hM1 rfl rfl (fun b2 w2 M2 => ?_)))))))))
  refine bG 3 _ jG M2 rfl rfl rfl rfl rfl (aR rfl) rfl (fun w3 M3 => (aB (aC (aA (wq (aH (.func _ _ _) rfl) rfl (wq (aX 3 jG M3 rfl rfl rfl) rfl (bY bNe rfl rfl (aYg _ bl pm f em hme q _ hq (by omega) xz za zb hza hzb hoa hob (M3.ownSeg 0 3)) ?_)))))))
  rintro v4 w4 ⟨rfl, q2, hq2, hM4⟩
  have M4 : Mem _ _ [_, _, _, _] _ := M3.seg 0 3 hM4
  refine aB (cV (aC (aA (wq (aY rfl rfl (by omega) (by omega)) rfl (aP rfl rfl (aB ?_))))))
  refine cG (k + 1, q2) (bA rfl eB) (cN rfl (cN rfl (cN rfl gV))) ?_ ?_
  ·exact ⟨⟨by omega, by rw [bIc hxz]; exact hq2⟩, M4.keep [true, true, true, false]⟩
  ·(show n - (k + 1) < n - k; omega)
 ·have hkn : k = n := by omega
  rw [List.take_of_length_le (by omega)] at hq
  refine cX (dF (dK (eS (lD ?_))))
  exact ⟨rfl, q, hq, hM1⟩
set_option maxHeartbeats 8000000 in
theorem aKe (w : World) (F : Rd w 2 (some ⟨0, 0, none⟩) 1 [[.int .u32 73856093, .int .u32 19349663]]) (N : Rd w 4 (some ⟨3, 0, none⟩) 1 [eI jO]) (A : Option Addr) (n c : Nat) (xs : List Body) (R : Rd w 10 A n (xs.map aF)) (hb : ∀ b ∈ xs, Okb b) (hs : cW xs) (hn : n ≤ 4096) :
  Calls Tryz.prog 144 #[.slice A n c] w (fun ex w' => ∃ v, ex = .returned v ∧ (fun v w' => ∃ (r : Row) (m : Nat), v = .tuple #[.slice r.A r.n r.c, .int .i64 (m : Int)] ∧ (nH xs).length ≤ m ∧ 2 * m ≤ xs.length * (xs.length - 1) ∧ bC 211 5 r.A r.n r.c ((kL xs).map cH) r.e ∧ Mem w [] [r.e] w') v w') := by
 have hlen : xs.length = n := by simpa using R.len
 have hbd := R.bound
 refine aI #[.tmp 2, .tmp 3] 39 Tryz.func144 rfl Tryz.results144 Tryz.ntmps144 rfl ?_
 have M0 := Mem.refl w
 refine aE (aA (eM rfl rfl (bI rfl rfl (aB (aC (aE (aA (mT M0 rfl rfl (fun b1 w1 M1 => (wq (cC [(0, .map _)] _ aXn rfl rfl) rfl ?_))))))))))
 refine bK (.agg (List.toArray _)) M1 rfl rfl rfl (fun b2 w2 M2 => (wq (aJ (.pointer _) rfl) rfl (aB (aC (aE (aE (aA (dO rfl rfl (wq (dC Tryz.underlying29 rfl) rfl (aP rfl rfl ?_))))))))))
 refine aB (aC (aQ (dS (σ := Nat × eZ) [0, 2, 3, 4, 11, 12] (fun (k, em) => [(13, .int .i64 (k : Int))]) (fun (k, em) w' => (k ≤ n ∧ kG .u32 vH (boM (xs.take k)) (some b1) em) ∧ Mem w [] [em, (some b2, bc [.map (some b1), .slice none 0 0] 219)] w') (fun (k, em) => n - k) (0, (some b1, .map #[] 0)) (bA rfl eB) (⟨⟨by omega, (kG.empty _ _ b1).congr (fun q => by rw [List.take_zero]; exact bFr q)⟩, M2⟩) ?_)))
 rintro ⟨k, em⟩ ρ3 w3 ⟨⟨hk, hme⟩, hM3⟩
 refine aE (aA (cZ rfl rfl rfl rfl (aB (aC (aE ?_)))))
 refine aW rfl (fun h14 => ?_) (fun h14 => ?_)
 ·obtain ⟨xb, hxb⟩ := cS (k := k) hlen (by omega)
  refine aL (aC (aE (aQ (aE (aA (wq (bP (k) dH rfl rfl rfl ((R.mem hM3).below_len (aG aF hxb)) ((R.mem hM3).someK (aG aF hxb))) rfl (wq (dN _ bO (R.mem hM3) (aG aF hxb) rfl) rfl (aS fN hM3 rfl rfl (fun b4 w4 M4 => (bG 2 _ bO M4 rfl rfl rfl rfl rfl (aR rfl) rfl (fun w5 M5 => ?_)))))))))))
  refine aB (aC (bQ [(0, 0), (1, 0), (2, 0), (3, 1), (4, 0), (5, 1), (6, 1), (7, 2)] mixed rfl (by kernel_rfl) (fun w6 hb6 hh6 => ?_)))
  have M6 := M5.drew hb6 hh6
  refine aV rfl rfl rfl (fun _ => aH (.pointer _) rfl) (aV rfl rfl rfl (fun _ => bE rfl) (aV rfl rfl rfl (fun _ => aD 0 aEv rfl) (bS rfl rfl rfl (aM 1 (.map _) aFk M6 rfl rfl rfl) (aV rfl rfl rfl (fun _ => aD 0 dL rfl) (bS rfl rfl rfl (aM 2 (.int _ _) bW M6 rfl rfl rfl) ?_)))))
  refine bS rfl rfl rfl (aX 2 bO M6 rfl rfl rfl) (dT [true, true, true] rfl (by kernel_rfl) (kN (enc := vH) 0 aEy M6 rfl rfl hme rfl rfl rfl rfl (fun e7 w7 hm7 M7 => ?_)))
  refine aB (aC ⟨dU, ?_⟩)
  refine bX (cV (aC (aA (wq (aY rfl rfl (by omega) (by omega)) rfl (aP rfl rfl (aB ?_))))))
  refine cG (k + 1, e7) (bA rfl eB) (cN rfl (cN rfl (cN rfl (cN rfl (cN rfl (cN rfl gV)))))) ?_ ?_
  ·exact ⟨⟨by omega, hm7.congr (fun q => bDy hxb q)⟩, M7.keep [true, true, false]⟩
  ·(show n - (k + 1) < n - k; omega)
 ·have hkn : k = n := by omega
  rw [List.take_of_length_le (by omega)] at hme
  refine cX (dF (dK (eS (aC (aE (aA (dO rfl rfl ?_)))))))
  refine bY bNq rfl rfl (aRg _ (F.mem hM3) (N.mem hM3) _ _ _ xs (R.mem hM3) hb hs (by first | decide | omega)) ?_
  rintro v8 w8 ⟨r0, m0, rfl, hfm0, hgm0, hr0, hM8⟩
  have M8 : Mem _ _ [_, _, _] _ := hM3.call0 hM8
  refine wq (aH (.tuple (List.toArray _)) rfl) rfl (wq (bN (.slice _ _ _) rfl rfl) rfl (wq (bN (.int _ _) rfl rfl) rfl (eM rfl rfl (bI rfl rfl (aB (aC (aE (aA ?_))))))))
  refine dO rfl rfl (wq (aH (.pointer _) rfl) rfl (wq (dR [.pointer _] [] rfl rfl) rfl ?_))
  have M9 : Mem _ _ [_, _, _, _] _ := Mem.orderC (M8.dummy default)
  have hfl : (nH xs).length = r0.n := by simpa using hr0.1
  have hnn : xs.length * (xs.length - 1) ≤ 4096 * 4096 := Nat.mul_le_mul (by omega) (by omega)
  refine bY bMw rfl rfl (aFx _ r0.A r0.n r0.c (nH xs) (hr0.rd M9 (bH (i := 0) rfl)) b2 b1 (boM xs) em hme gT (bC.nil _ _ _) (fun z hz => by obtain ⟨a, b, h1, h2, _, _, h3, h4⟩ := aAy hs hz; exact ⟨a, b, h3, h4, hb a h1, hb b h2⟩) (by omega) (M9.ownSeg 1 3) (hr0.apartTail M9)) ?_
  rintro v10 w10 ⟨rfl, q, hq, hM10⟩
  have M10 : Mem _ _ [_, _, _, _] _ := M9.seg 1 3 hM10
  refine aB (aC (aE (aA (wq (aH (.pointer _) rfl) rfl (wq (bE rfl) rfl (wq (aD 1 sZ rfl) rfl (wq (aM 1 (.slice _ _ _) oQ M10 rfl rfl rfl) rfl (aP rfl rfl ?_))))))))
  refine eM rfl rfl (bI rfl rfl (aB (aC (aO (gA (.slice _ _ _) (.int _ _) rfl rfl ?_)))))
  exact ⟨q, m0, rfl, hfm0, hgm0, hq, M10.keep [false, false, false, true]⟩
set_option maxHeartbeats 8000000 in
theorem aYa (w : World) (A : Option Addr) (n c : Nat) (xs : List Body) (R : Rd w 10 A n (xs.map aF)) (hb : ∀ b ∈ xs, Okb b) (hs : cW xs) (hn : n ≤ 65536) :
  Calls Tryz.prog 128 #[.slice A n c] w (fun ex w' => ∃ v, ex = .returned v ∧ (fun v w' => ∃ r : Row, v = .slice r.A r.n r.c ∧ bC 211 5 r.A r.n r.c ((kL xs).map cH) r.e ∧ Mem w [] [r.e] w') v w') := by
 have hlen : xs.length = n := by simpa using R.len
 have hbd := R.bound
 refine aI #[.tmp 2] 40 Tryz.func128 rfl Tryz.results128 Tryz.ntmps128 rfl ?_
 have M0 := Mem.refl w
 refine aE (aA (eM rfl rfl (aB (aC (aE (aA (eM rfl rfl ?_)))))))
 have M1 := M0.dummy default
 refine aB (aC (aE (aE (aA (bI rfl rfl (aB (aC (aQ (dS (σ := Nat × Row) [0, 2] (fun (i, r) => [(3, .slice r.A r.n r.c), (4, .int .i64 (i : Int))]) (fun (i, r) w' => (i ≤ n ∧ bC 211 5 r.A r.n r.c ((aQg xs i).map cH) r.e) ∧ Mem w [] [r.e] w') (fun (i, r) => n - i) (0, gT) (bA rfl (bA rfl eB)) (⟨⟨by omega, bC.nil _ _ _⟩, M1⟩) ?_)))))))))
 rintro ⟨i, r⟩ ρ2 w2 ⟨⟨hi, hr⟩, hM2⟩
 refine aE (aE (aA (aP rfl rfl (dO rfl rfl (wq (dC Tryz.underlying29 rfl) rfl (cZ rfl rfl rfl rfl (aB (aC ?_))))))))
 refine aW rfl (fun h11 => ?_) (fun h11 => ?_)
 ·obtain ⟨xa, hxa⟩ := cS (k := i) hlen (by omega)
  refine aL (aC (aE (aQ (aE (aA (aP rfl rfl (wq (aY rfl rfl (by omega) (by omega)) rfl (bI rfl rfl (aB (aC (aQ (dS (σ := Nat × Row) [0, 2, 4] (fun (k, q) => [(3, .slice q.A q.n q.c), (5, .int .i64 (k : Int))]) (fun (k, q) w' => (i + 1 ≤ k ∧ k ≤ n ∧ bC 211 5 q.A q.n q.c ((aQg xs i ++ aGl xs i k).map cH) q.e) ∧ Mem w [] [q.e] w') (fun (k, q) => n - k) (i + 1, r) (bA rfl (bA rfl eB)) (⟨⟨by omega, by omega, by rw [aPw, List.append_nil]; exact hr⟩, hM2⟩) ?_))))))))))))
  rintro ⟨k, q⟩ ρ3 w3 ⟨⟨hik, hk, hq⟩, hM3⟩
  have hfl := bCs xs i
  have hfm : i * xs.length ≤ 65536 * 65536 := Nat.mul_le_mul (by omega) (by omega)
  have hrw := bAb xs i k
  have hql : (aQg xs i ++ aGl xs i k).length = q.n := by simpa using hq.1
  rw [List.length_append] at hql
  refine aE (aE (aA (aP rfl rfl (dO rfl rfl (wq (dC Tryz.underlying29 rfl) rfl (cZ rfl rfl rfl rfl (aB (aC ?_))))))))
  refine aW rfl (fun h19 => ?_) (fun h19 => ?_)
  ·obtain ⟨xb, hxb⟩ := cS (k := k) hlen (by omega)
   refine aL (aC (aE (aQ (aE (aJm [(0, 0), (1, 0), (2, 1), (3, 1), (4, 0), (5, 0), (6, 1), (7, 1)] 8 12 [(9, 0), (10, 0), (11, 0), (12, 2), (13, 2), (14, 0)] [(8, 2), (9, 0), (10, 0), (11, 0), (13, 2), (14, 0)] mixed rfl (by kernel_rfl) (fun w4 hb4 hh4 => ?_))))))
   have M4 := hM3.drew hb4 hh4
   refine rT rfl rfl rfl (fun _ => aH (.slice _ _ _) rfl) (rT rfl rfl rfl (fun _ => aH (.int _ _) rfl) (yL rfl rfl rfl (bP (i) dH rfl rfl rfl ((R.mem M4).below_len (aG aF hxa)) ((R.mem M4).someK (aG aF hxa))) (yL rfl rfl rfl (dN _ bO (R.mem M4) (aG aF hxa) rfl) ?_)))
   refine rT rfl rfl rfl (fun _ => aH (.slice _ _ _) rfl) (rT rfl rfl rfl (fun _ => aH (.int _ _) rfl) (yL rfl rfl rfl (bP (k) dH rfl rfl rfl ((R.mem M4).below_len (aG aF hxb)) ((R.mem M4).someK (aG aF hxb))) (yL rfl rfl rfl (dN _ bO (R.mem M4) (aG aF hxb) rfl) ?_)))
   refine aCa ?_ ?_
   ·refine dT [true, true, true, true] rfl (by kernel_rfl) (bY aRy rfl rfl (aNx _ xa xb (hb xa (List.mem_of_getElem? hxa)) (hb xb (List.mem_of_getElem? hxb))) ?_)
    rintro v5 w5 ⟨rfl, hb5⟩
    have M5 := M4.callB hb5
    refine aB (aC ⟨dU, ?_⟩)
    refine aV rfl rfl rfl (fun _ => aH (.tuple (List.toArray _)) rfl) (aV rfl rfl rfl (fun _ => bN (.agg (List.toArray _)) rfl rfl) (aV rfl rfl rfl (fun _ => bN (.bool _) rfl rfl) (dT [] rfl (by kernel_rfl) (aS lZ M5 rfl rfl (fun b6 w6 M6 => ?_)))))
    refine aB (aC ⟨dU, ?_⟩)
    refine dT [] rfl (by kernel_rfl) (bG 1 _ eQ M6 rfl rfl rfl rfl rfl (aR rfl) rfl (fun w7 M7 => ?_))
    refine aB (aC ⟨dU, ?_⟩)
    refine aV rfl rfl rfl (fun _ => aJ (.bool _) rfl) (bX (aC (aE (aA (wq (aH (.bool _) rfl) rfl (aB (aC ?_)))))))
    refine iG _ rfl (fun h34 => ?_) (fun h34 => ?_)
    ·obtain ⟨cc, hcc⟩ := Option.isSome_iff_exists.1 h34
     refine aA (dO rfl rfl (wq (aX 1 eQ M7 rfl rfl rfl) rfl (aK 36 (.agg (cH cc).toArray) (congrArg (fun o => Value.agg (aNb o).toArray) hcc) (cT [.agg (List.toArray _)] [cH cc] rfl sK M7 rfl rfl rfl rfl (dG rfl) (by decide) (fun b8 w8 M8 => (dJ 0 [cH cc] sK M8 rfl rfl rfl rfl rfl hq rfl (by simp [cH, Go.Bil.one]) (dW.ofMem 2 M8 rfl) (by omega) (fun A9 c9 e9 w9 M9 hR9 => ?_)))))))
     refine eM rfl rfl (aB (cV (aC (aA (aP rfl rfl (wq (aY rfl rfl (by omega) (by omega)) rfl ?_))))))
     refine bI rfl rfl (aB ?_)
     refine cG (k + 1, ⟨A9, q.n + 1, c9, e9⟩) (bA rfl (bA rfl eB)) (cN rfl (cN rfl (cN rfl gV))) ?_ ?_
     ·exact ⟨⟨by omega, by omega, by rw [uP hs hb hxa hxb (by omega), hcc, ← List.append_assoc, List.map_append]; exact hR9⟩, M9.keep [true, false, false]⟩
     ·(show n - (k + 1) < n - k; omega)
    ·have hcc : jY xa xb = none := by simpa using h34
     refine aL (cV (aC (aA (aP rfl rfl (wq (aY rfl rfl (by omega) (by omega)) rfl (bI rfl rfl ?_))))))
     refine aB ?_
     refine cG (k + 1, q) (bA rfl (bA rfl eB)) (cN rfl (cN rfl (cN rfl gV))) ?_ ?_
     ·exact ⟨⟨by omega, by omega, by rw [uP hs hb hxa hxb (by omega), hcc, ← List.append_assoc]; simpa using hq⟩, M7.keep [true, false]⟩
     ·(show n - (k + 1) < n - k; omega)
   ·refine dT [false, false, false, false] rfl (by kernel_rfl) (aS lZ M4 rfl rfl (fun b10 w10 M10 => ?_))
    refine aB (aC ⟨(dZ (bM rfl (dN _ bO (R.mem M10) (aG aF hxb) rfl)) (dZ (bM rfl (bP (k) dH rfl rfl rfl ((R.mem M10).below_len (aG aF hxb)) ((R.mem M10).someK (aG aF hxb)))) (dZ (bM rfl (dN _ bO (R.mem M10) (aG aF hxa) rfl)) (dZ (bM rfl (bP (i) dH rfl rfl rfl ((R.mem M10).below_len (aG aF hxa)) ((R.mem M10).someK (aG aF hxa)))) dU)))), ?_⟩)
    refine dT [true, true, true, true] rfl (by kernel_rfl) (bY aRy rfl rfl (aNx _ xa xb (hb xa (List.mem_of_getElem? hxa)) (hb xb (List.mem_of_getElem? hxb))) ?_)
    rintro v11 w11 ⟨rfl, hb11⟩
    have M11 := M10.callB hb11
    refine aB (aC ⟨dU, ?_⟩)
    refine aV rfl rfl rfl (fun _ => aH (.tuple (List.toArray _)) rfl) (aV rfl rfl rfl (fun _ => bN (.agg (List.toArray _)) rfl rfl) (aV rfl rfl rfl (fun _ => bN (.bool _) rfl rfl) (dT [] rfl (by kernel_rfl) (bG 1 _ eQ M11 rfl rfl rfl rfl rfl (aR rfl) rfl (fun w12 M12 => ?_)))))
    refine aB (aC ⟨dU, ?_⟩)
    refine aV rfl rfl rfl (fun _ => aJ (.bool _) rfl) (bX (aC (aE (aA (wq (aH (.bool _) rfl) rfl (aB (aC ?_)))))))
    refine iG _ rfl (fun h34 => ?_) (fun h34 => ?_)
    ·obtain ⟨cc, hcc⟩ := Option.isSome_iff_exists.1 h34
     refine aA (dO rfl rfl (wq (aX 1 eQ M12 rfl rfl rfl) rfl (aK 36 (.agg (cH cc).toArray) (congrArg (fun o => Value.agg (aNb o).toArray) hcc) (cT [.agg (List.toArray _)] [cH cc] rfl sK M12 rfl rfl rfl rfl (dG rfl) (by decide) (fun b13 w13 M13 => (dJ 0 [cH cc] sK M13 rfl rfl rfl rfl rfl hq rfl (by simp [cH, Go.Bil.one]) (dW.ofMem 2 M13 rfl) (by omega) (fun A14 c14 e14 w14 M14 hR14 => ?_)))))))
     refine eM rfl rfl (aB (cV (aC (aA (aP rfl rfl (wq (aY rfl rfl (by omega) (by omega)) rfl ?_))))))
     refine bI rfl rfl (aB ?_)
     refine cG (k + 1, ⟨A14, q.n + 1, c14, e14⟩) (bA rfl (bA rfl eB)) (cN rfl (cN rfl (cN rfl gV))) ?_ ?_
     ·exact ⟨⟨by omega, by omega, by rw [uP hs hb hxa hxb (by omega), hcc, ← List.append_assoc, List.map_append]; exact hR14⟩, M14.keep [true, false, false]⟩
     ·(show n - (k + 1) < n - k; omega)
    ·have hcc : jY xa xb = none := by simpa using h34
     refine aL (cV (aC (aA (aP rfl rfl (wq (aY rfl rfl (by omega) (by omega)) rfl (bI rfl rfl ?_))))))
     refine aB ?_
     refine cG (k + 1, q) (bA rfl (bA rfl eB)) (cN rfl (cN rfl (cN rfl gV))) ?_ ?_
     ·exact ⟨⟨by omega, by omega, by rw [uP hs hb hxa hxb (by omega), hcc, ← List.append_assoc]; simpa using hq⟩, M12.keep [true, false]⟩
     ·(show n - (k + 1) < n - k; omega)
  ·have hkn : k = n := by omega
   refine cX (dF (dK (eS (cV (aC (aA ?_))))))
   refine aP rfl rfl (wq (aY rfl rfl (by omega) (by omega)) rfl (bI rfl rfl (aB ?_)))
   refine cG (i + 1, q) (bA rfl (bA rfl eB)) (cN rfl (cN rfl gV)) ?_ ?_
   ·exact ⟨⟨by omega, by rw [aXu, hlen, ← hkn]; exact hq⟩, hM3⟩
   ·(show n - (i + 1) < n - i; omega)
 ·have hin : i = n := by omega
  refine cX (dF (dK (eS (aC (aE (aA (dO rfl rfl ?_)))))))
  refine eM rfl rfl (aB (aC (aO (cD (.slice _ _ _) rfl ?_))))
  exact ⟨r, rfl, by unfold kL nH; rw [hlen, ← hin]; exact hr, hM2⟩
end Go.Proofs.YtaoaknafiegfoaaGreatDoor
