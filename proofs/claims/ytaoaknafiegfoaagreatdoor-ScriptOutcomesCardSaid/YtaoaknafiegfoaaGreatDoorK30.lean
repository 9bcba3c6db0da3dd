/- Part of the proof of the laws of this seat: V15, X15, Z5. No conditions. -/
import Derived.Test.YtaoaknafiegfoaaGreatDoorK2
import Derived.Test.YtaoaknafiegfoaaGreatDoorK5
import Derived.Test.YtaoaknafiegfoaaGreatDoorK26
import Derived.Test.YtaoaknafiegfoaaGreatDoorK29
import Derived.Test.YtaoaknafiegfoaaGreatDoorK18
import Derived.Test.YtaoaknafiegfoaaGreatDoorK11
import Derived.Test.YtaoaknafiegfoaaGreatDoorK28
set_option linter.unusedVariables false
set_option linter.unusedSimpArgs false
set_option linter.unnecessarySimpa false
namespace Go.Proofs.YtaoaknafiegfoaaGreatDoor
open Go.Bil
open Go.RowKit (Below)
open Go.Proofs
set_option maxHeartbeats 4000000 in
theorem aVx (w : World) (bl pm : Nat) (f : Int → Option Body) (em : eZ) (hme : kA .u32 vL f (some pm) em) (r : Row) (cs : List Con) (hr : bC 211 5 r.A r.n r.c ((cs).map cH) r.e) (hn : r.n ≤ 1099511627776) (z : Int × Int) (a b : Body) (h1 : f z.1 = some a) (h2 : f z.2 = some b) (ha : Okb a) (hb : Okb b) (hO : Own [(some bl, bc [.map (some pm), .slice r.A r.n r.c] 219), em, r.e] w) :
  Calls Tryz.prog 159 #[.pointer (some ⟨bl, 0, none⟩), (.agg (cL z).toArray)] w (fun ex w' => ∃ v, ex = .returned v ∧ (fun v w' => v = .tuple #[] ∧ ∃ q : Row, bC 211 5 q.A q.n q.c ((cs ++ (aCu f z).toList).map cH) q.e ∧ Mem w (cA [(some bl, bc [.map (some pm), .slice r.A r.n r.c] 219), em, r.e]) [(some bl, bc [.map (some pm), .slice q.A q.n q.c] 219), em, q.e] w') v w') := by
 refine aH #[] 35 Tryz.func159 rfl Tryz.results159 Tryz.ntmps159 rfl ?_
 have M0 := hO.mem
 refine aE (aA (bJ (.agg (List.toArray _)) M0 rfl rfl rfl (fun b1 w1 M1 => (aB (aC (aE (aKc [(0, 0), (1, 0), (2, 0), (3, 1), (4, 0), (5, 1), (6, 1), (7, 0), (8, 0), (9, 0), (10, 1), (11, 0), (12, 1), (13, 1)] 14 18 [(15, 0), (16, 0), (17, 0), (18, 2), (19, 2), (20, 0)] [(14, 2), (15, 0), (16, 0), (17, 0), (19, 2), (20, 0)] mixed rfl (by kernel_rfl) (fun w2 hb2 hh2 => ?_))))))))
 have M2 := M1.drew hb2 hh2
 refine rR rfl rfl rfl (fun _ => aI (.pointer _) rfl) (rR rfl rfl rfl (fun _ => bE rfl) (rR rfl rfl rfl (fun _ => aD 0 aCe rfl) (yX rfl rfl rfl (aM 0 (.map _) aCv M2 rfl rfl rfl) (rR rfl rfl rfl (fun _ => aD 0 gD rfl) (yX rfl rfl rfl (aM 3 (.int _ _) bW M2 rfl rfl rfl) ?_)))))
 refine yX rfl rfl rfl (lQ (enc := vL) aPj 1 aEt bGk M2 rfl hme rfl rfl) (bJc 13 ((.agg (aF a).toArray)) (congrArg vL (by rw [h1]; rfl)) (rR rfl rfl rfl (fun _ => aI (.pointer _) rfl) (rR rfl rfl rfl (fun _ => bE rfl) (rR rfl rfl rfl (fun _ => aD 0 aCe rfl) ?_))))
 refine yX rfl rfl rfl (aM 0 (.map _) aCv M2 rfl rfl rfl) (rR rfl rfl rfl (fun _ => aD 1 jS rfl) (yX rfl rfl rfl (aM 3 (.int _ _) bW M2 rfl rfl rfl) (yX rfl rfl rfl (lQ (enc := vL) aPj 1 aEt bGk M2 rfl hme rfl rfl) (bJc 20 ((.agg (aF b).toArray)) (congrArg vL (by rw [h2]; rfl)) ?_))))
 refine aBn ?_ ?_
 ·refine dU [true, true, true, true, true, true] rfl (by kernel_rfl) (bY aZk rfl rfl (aDq _ a b ha hb) ?_)
  rintro v3 w3 ⟨rfl, hb3⟩
  have M3 := M2.callB hb3
  refine aB (aC ⟨dT, ?_⟩)
  refine aW rfl rfl rfl (fun _ => aI (.tuple (List.toArray _)) rfl) (aW rfl rfl rfl (fun _ => bN (.agg (List.toArray _)) rfl rfl) (aW rfl rfl rfl (fun _ => bN (.bool _) rfl rfl) (dU [] rfl (by kernel_rfl) (aU mC M3 rfl rfl (fun b4 w4 M4 => ?_)))))
  refine aB (aC ⟨dT, ?_⟩)
  refine dU [] rfl (by kernel_rfl) (bI 4 _ eS M4 rfl rfl rfl rfl rfl (aR rfl) rfl (fun w5 M5 => ?_))
  refine aB (aC ⟨dT, ?_⟩)
  refine aW rfl rfl rfl (fun _ => aJ (.bool _) rfl) (bX (aC (aE (aA (wq (aI (.bool _) rfl) rfl (aB (aC ?_)))))))
  refine iD _ rfl (fun h24 => ?_) (fun h24 => ?_)
  ·obtain ⟨cc, hcc⟩ := Option.isSome_iff_exists.1 h24
   refine bQ [(0, 0), (1, 0), (2, 0), (3, 0), (4, 1), (5, 1), (6, 2), (7, 2), (8, 0), (9, 0), (10, 2)] mixed rfl (by kernel_rfl) (fun w6 hb6 hh6 => ?_)
   have M6 := M5.drew hb6 hh6
   refine aW rfl rfl rfl (fun _ => aI (.pointer _) rfl) (aW rfl rfl rfl (fun _ => aI (.pointer _) rfl) (aW rfl rfl rfl (fun _ => bE rfl) (aW rfl rfl rfl (fun _ => aD 1 tD rfl) (bS rfl rfl rfl (aM 0 (.slice _ _ _) oP M6 rfl rfl rfl) (bS rfl rfl rfl (aX 4 eS M6 rfl rfl rfl) ?_)))))
   refine dW 30 (.agg (cH cc).toArray) (congrArg (fun o => Value.agg (aOa o).toArray) hcc) (dU [true, false] rfl (by kernel_rfl) (cR [.agg (List.toArray _)] [cH cc] rfl sE M6 rfl rfl rfl rfl (dD rfl) (by decide) (fun b7 w7 M7 => ?_)))
   refine aB (aC ⟨(eB (bM rfl (aM 0 (.slice _ _ _) oP M7 rfl rfl rfl)) dT), ?_⟩)
   refine dU [true] rfl (by kernel_rfl) (dG 2 [cH cc] sE M7 rfl rfl rfl rfl rfl hr rfl (by simp [cH, Go.Bil.one]) (dS.ofMem 5 M7 rfl) (by omega) (fun A8 c8 e8 w8 M8 hR8 => ?_))
   refine aB (aC ⟨dT, ?_⟩)
   refine aW rfl rfl rfl (fun _ => bE rfl) (aW rfl rfl rfl (fun _ => aD 1 tD rfl) (dU [] rfl (by kernel_rfl) (dB 0 (.slice _ _ _) oP M8 rfl rfl rfl rfl rfl rfl (fun w9 M9 => ?_))))
   refine aB (aC ⟨dT, ?_⟩)
   refine bX (lA ?_)
   exact ⟨rfl, ⟨A8, r.n + 1, c8, e8⟩, by rw [uK h1 h2, hcc, List.map_append]; exact hR8, M9.keep [true, true, true, false, false, false]⟩
  ·have hcc : kU a b = none := by simpa using h24
   refine aL (lA ?_)
   exact ⟨rfl, r, by rw [uK h1 h2, hcc]; simpa using hr, M5.keep [true, true, true, false, false]⟩
 ·refine dU [false, false, false, false, false, false] rfl (by kernel_rfl) (aU mC M2 rfl rfl (fun b10 w10 M10 => ?_))
  refine aB (aC ⟨(eB (bM rfl (lQ (enc := vL) aPj 1 aEt bGk M10 rfl hme rfl rfl)) (eB (bM rfl (aM 3 (.int _ _) bW M10 rfl rfl rfl)) (eB (bM rfl (aM 0 (.map _) aCv M10 rfl rfl rfl)) (eB (bM rfl (lQ (enc := vL) aPj 1 aEt bGk M10 rfl hme rfl rfl)) (eB (bM rfl (aM 3 (.int _ _) bW M10 rfl rfl rfl)) (eB (bM rfl (aM 0 (.map _) aCv M10 rfl rfl rfl)) dT)))))), ?_⟩)
  refine dU [true, true, true, true, true, true] rfl (by kernel_rfl) (bY aZk rfl rfl (aDq _ a b ha hb) ?_)
  rintro v11 w11 ⟨rfl, hb11⟩
  have M11 := M10.callB hb11
  refine aB (aC ⟨dT, ?_⟩)
  refine aW rfl rfl rfl (fun _ => aI (.tuple (List.toArray _)) rfl) (aW rfl rfl rfl (fun _ => bN (.agg (List.toArray _)) rfl rfl) (aW rfl rfl rfl (fun _ => bN (.bool _) rfl rfl) (dU [] rfl (by kernel_rfl) (bI 4 _ eS M11 rfl rfl rfl rfl rfl (aR rfl) rfl (fun w12 M12 => ?_)))))
  refine aB (aC ⟨dT, ?_⟩)
  refine aW rfl rfl rfl (fun _ => aJ (.bool _) rfl) (bX (aC (aE (aA (wq (aI (.bool _) rfl) rfl (aB (aC ?_)))))))
  refine iD _ rfl (fun h24 => ?_) (fun h24 => ?_)
  ·obtain ⟨cc, hcc⟩ := Option.isSome_iff_exists.1 h24
   refine bQ [(0, 0), (1, 0), (2, 0), (3, 0), (4, 1), (5, 1), (6, 2), (7, 2), (8, 0), (9, 0), (10, 2)] mixed rfl (by kernel_rfl) (fun w13 hb13 hh13 => ?_)
   have M13 := M12.drew hb13 hh13
   refine aW rfl rfl rfl (fun _ => aI (.pointer _) rfl) (aW rfl rfl rfl (fun _ => aI (.pointer _) rfl) (aW rfl rfl rfl (fun _ => bE rfl) (aW rfl rfl rfl (fun _ => aD 1 tD rfl) (bS rfl rfl rfl (aM 0 (.slice _ _ _) oP M13 rfl rfl rfl) (bS rfl rfl rfl (aX 4 eS M13 rfl rfl rfl) ?_)))))
   refine dW 30 (.agg (cH cc).toArray) (congrArg (fun o => Value.agg (aOa o).toArray) hcc) (dU [true, false] rfl (by kernel_rfl) (cR [.agg (List.toArray _)] [cH cc] rfl sE M13 rfl rfl rfl rfl (dD rfl) (by decide) (fun b14 w14 M14 => ?_)))
   refine aB (aC ⟨(eB (bM rfl (aM 0 (.slice _ _ _) oP M14 rfl rfl rfl)) dT), ?_⟩)
   refine dU [true] rfl (by kernel_rfl) (dG 2 [cH cc] sE M14 rfl rfl rfl rfl rfl hr rfl (by simp [cH, Go.Bil.one]) (dS.ofMem 5 M14 rfl) (by omega) (fun A15 c15 e15 w15 M15 hR15 => ?_))
   refine aB (aC ⟨dT, ?_⟩)
   refine aW rfl rfl rfl (fun _ => bE rfl) (aW rfl rfl rfl (fun _ => aD 1 tD rfl) (dU [] rfl (by kernel_rfl) (dB 0 (.slice _ _ _) oP M15 rfl rfl rfl rfl rfl rfl (fun w16 M16 => ?_))))
   refine aB (aC ⟨dT, ?_⟩)
   refine bX (lA ?_)
   exact ⟨rfl, ⟨A15, r.n + 1, c15, e15⟩, by rw [uK h1 h2, hcc, List.map_append]; exact hR15, M16.keep [true, true, true, false, false, false]⟩
  ·have hcc : kU a b = none := by simpa using h24
   refine aL (lA ?_)
   exact ⟨rfl, r, by rw [uK h1 h2, hcc]; simpa using hr, M12.keep [true, true, true, false, false]⟩
set_option maxHeartbeats 4000000 in
theorem aGm (w : World) (A : Option Addr) (n c : Nat) (zs : List (Int × Int)) (R : Rd w 2 A n (zs.map cL)) (bl pm : Nat) (f : Int → Option Body) (em : eZ) (hme : kA .u32 vL f (some pm) em) (r : Row) (hr : bC 211 5 r.A r.n r.c (([]).map cH) r.e) (hz : ∀ z ∈ zs, ∃ a b, f z.1 = some a ∧ f z.2 = some b ∧ Okb a ∧ Okb b) (hn : n ≤ 1099511627776) (hO : Own [(some bl, bc [.map (some pm), .slice r.A r.n r.c] 219), em, r.e] w) (hdA : 0 < n → ∀ q off, A = some ⟨q, off, none⟩ → q ∉ cA [(some bl, bc [.map (some pm), .slice r.A r.n r.c] 219), em, r.e]) :
  Calls Tryz.prog 158 #[.slice A n c, .func (.func 159) #[.pointer (some ⟨bl, 0, none⟩)] #[]] w (fun ex w' => ∃ v, ex = .returned v ∧ (fun v w' => v = .tuple #[] ∧ ∃ q : Row, bC 211 5 q.A q.n q.c ((zs.filterMap (aCu f)).map cH) q.e ∧ Mem w (cA [(some bl, bc [.map (some pm), .slice r.A r.n r.c] 219), em, r.e]) [(some bl, bc [.map (some pm), .slice q.A q.n q.c] 219), em, q.e] w') v w') := by
 have hlen : zs.length = n := by simpa using R.len
 refine aH #[] 16 Tryz.func158 rfl Tryz.results158 Tryz.ntmps158 rfl ?_
 have M0 := hO.mem
 refine aE (aA (dI rfl rfl (wq (cZ Tryz.underlying220 rfl) rfl (aP rfl rfl (aB (aC (aQ (dQ (σ := Nat × Row) [1, 6, 7] (fun (k, q) => [(8, .int .i64 (k : Int))]) (fun (k, q) w' => (k ≤ n ∧ bC 211 5 q.A q.n q.c (((zs.take k).filterMap (aCu f)).map cH) q.e) ∧ Mem w (cA [(some bl, bc [.map (some pm), .slice r.A r.n r.c] 219), em, r.e]) [(some bl, bc [.map (some pm), .slice q.A q.n q.c] 219), em, q.e] w') (fun (k, q) => n - k) (0, r) (bA rfl dY) (⟨⟨by omega, hr⟩, M0⟩) ?_))))))))
 rintro ⟨k, q⟩ ρ1 w1 ⟨⟨hk, hq⟩, hM1⟩
 have hfl := List.length_filterMap_le (aCu f) (zs.take k)
 have htl := List.length_take_le k zs
 have hql : ((zs.take k).filterMap (aCu f)).length = q.n := by simpa using hq.1
 refine aE (aA (cY rfl rfl rfl rfl (aB (aC (aE ?_)))))
 refine aV rfl (fun h9 => ?_) (fun h9 => ?_)
 ·obtain ⟨xz, hxz⟩ := cS (k := k) hlen (by omega)
  obtain ⟨za, zb, hza, hzb, hoa, hob⟩ := hz xz (List.mem_of_getElem? hxz)
  refine aL (aC (aE (aQ (aE (aA (wq (bP (k) yI rfl rfl rfl ((R.memY hM1 hdA).below_len (aG cL hxz)) ((R.memY hM1 hdA).someK (aG cL hxz))) rfl (wq (dL _ jF (R.memY hM1 hdA) (aG cL hxz) rfl) rfl (aU uB hM1 rfl rfl (fun b2 w2 M2 => ?_)))))))))
  refine bI 3 _ jF M2 rfl rfl rfl rfl rfl (aR rfl) rfl (fun w3 M3 => (aB (aC (aA (wq (aI (.func _ _ _) rfl) rfl (wq (aX 3 jF M3 rfl rfl rfl) rfl (bY bMf rfl rfl (aVx _ bl pm f em hme q _ hq (by omega) xz za zb hza hzb hoa hob (M3.ownSeg 0 3)) ?_)))))))
  rintro v4 w4 ⟨rfl, q2, hq2, hM4⟩
  have M4 : Mem _ _ [_, _, _, _] _ := M3.seg 0 3 hM4
  refine aB (cU (aC (aA (wq (aY rfl rfl (by omega) (by omega)) rfl (aP rfl rfl (aB ?_))))))
  refine cE (k + 1, q2) (bA rfl dY) (cN rfl (cN rfl (cN rfl gT))) ?_ ?_
  ·exact ⟨⟨by omega, by rw [bFn hxz]; exact hq2⟩, M4.keep [true, true, true, false]⟩
  ·(show n - (k + 1) < n - k; omega)
 ·have hkn : k = n := by omega
  rw [List.take_of_length_le (by omega)] at hq
  refine cV (dC (dK (eN (lA ?_))))
  exact ⟨rfl, q, hq, hM1⟩
set_option maxHeartbeats 8000000 in
theorem aJs (w : World) (F : Rd w 2 (some ⟨0, 0, none⟩) 1 [[.int .u32 73856093, .int .u32 19349663]]) (N : Rd w 4 (some ⟨3, 0, none⟩) 1 [eK jX]) (A : Option Addr) (n c : Nat) (xs : List Body) (R : Rd w 10 A n (xs.map aF)) (hb : ∀ b ∈ xs, Okb b) (hs : cW xs) (hn : n ≤ 4096) :
  Calls Tryz.prog 144 #[.slice A n c] w (fun ex w' => ∃ v, ex = .returned v ∧ (fun v w' => ∃ (r : Row) (m : Nat), v = .tuple #[.slice r.A r.n r.c, .int .i64 (m : Int)] ∧ (nW xs).length ≤ m ∧ 2 * m ≤ xs.length * (xs.length - 1) ∧ bC 211 5 r.A r.n r.c ((lN xs).map cH) r.e ∧ Mem w [] [r.e] w') v w') := by
 have hlen : xs.length = n := by simpa using R.len
 have hbd := R.bound
 refine aH #[.tmp 2, .tmp 3] 39 Tryz.func144 rfl Tryz.results144 Tryz.ntmps144 rfl ?_
 have M0 := Mem.refl w
 refine aE (aA (eJ rfl rfl (bH rfl rfl (aB (aC (aE (aA (mP M0 rfl rfl (fun b1 w1 M1 => (wq (cG [(0, .map _)] _ aWp rfl rfl) rfl ?_))))))))))
 refine bJ (.agg (List.toArray _)) M1 rfl rfl rfl (fun b2 w2 M2 => (wq (aJ (.pointer _) rfl) rfl (aB (aC (aE (aE (aA (dI rfl rfl (wq (cZ Tryz.underlying29 rfl) rfl (aP rfl rfl ?_))))))))))
 refine aB (aC (aQ (dQ (σ := Nat × eZ) [0, 2, 3, 4, 11, 12] (fun (k, em) => [(13, .int .i64 (k : Int))]) (fun (k, em) w' => (k ≤ n ∧ kA .u32 vL (boM (xs.take k)) (some b1) em) ∧ Mem w [] [em, (some b2, bc [.map (some b1), .slice none 0 0] 219)] w') (fun (k, em) => n - k) (0, (some b1, .map #[] 0)) (bA rfl dY) (⟨⟨by omega, (kA.empty _ _ b1).congr (fun q => by rw [List.take_zero]; exact bFd q)⟩, M2⟩) ?_)))
 rintro ⟨k, em⟩ ρ3 w3 ⟨⟨hk, hme⟩, hM3⟩
 refine aE (aA (cY rfl rfl rfl rfl (aB (aC (aE ?_)))))
 refine aV rfl (fun h14 => ?_) (fun h14 => ?_)
 ·obtain ⟨xb, hxb⟩ := cS (k := k) hlen (by omega)
  refine aL (aC (aE (aQ (aE (aA (wq (bP (k) dH rfl rfl rfl ((R.mem hM3).below_len (aG aF hxb)) ((R.mem hM3).someK (aG aF hxb))) rfl (wq (dL _ bO (R.mem hM3) (aG aF hxb) rfl) rfl (aU fN hM3 rfl rfl (fun b4 w4 M4 => (bI 2 _ bO M4 rfl rfl rfl rfl rfl (aR rfl) rfl (fun w5 M5 => ?_)))))))))))
  refine aB (aC (bQ [(0, 0), (1, 0), (2, 0), (3, 1), (4, 0), (5, 1), (6, 1), (7, 2)] mixed rfl (by kernel_rfl) (fun w6 hb6 hh6 => ?_)))
  have M6 := M5.drew hb6 hh6
  refine aW rfl rfl rfl (fun _ => aI (.pointer _) rfl) (aW rfl rfl rfl (fun _ => bE rfl) (aW rfl rfl rfl (fun _ => aD 0 aCe rfl) (bS rfl rfl rfl (aM 1 (.map _) aCv M6 rfl rfl rfl) (aW rfl rfl rfl (fun _ => aD 0 dM rfl) (bS rfl rfl rfl (aM 2 (.int _ _) bW M6 rfl rfl rfl) ?_)))))
  refine bS rfl rfl rfl (aX 2 bO M6 rfl rfl rfl) (dU [true, true, true] rfl (by kernel_rfl) (kN (enc := vL) 0 aEt M6 rfl rfl hme rfl rfl rfl rfl (fun e7 w7 hm7 M7 => ?_)))
  refine aB (aC ⟨dT, ?_⟩)
  refine bX (cU (aC (aA (wq (aY rfl rfl (by omega) (by omega)) rfl (aP rfl rfl (aB ?_))))))
  refine cE (k + 1, e7) (bA rfl dY) (cN rfl (cN rfl (cN rfl (cN rfl (cN rfl (cN rfl gT)))))) ?_ ?_
  ·exact ⟨⟨by omega, hm7.congr (fun q => bCh hxb q)⟩, M7.keep [true, true, false]⟩
  ·(show n - (k + 1) < n - k; omega)
 ·have hkn : k = n := by omega
  rw [List.take_of_length_le (by omega)] at hme
  refine cV (dC (dK (eN (aC (aE (aA (dI rfl rfl ?_)))))))
  refine bY bOa rfl rfl (aRb _ (F.mem hM3) (N.mem hM3) _ _ _ xs (R.mem hM3) hb hs (by first | decide | omega)) ?_
  rintro v8 w8 ⟨r0, m0, rfl, hfm0, hgm0, hr0, hM8⟩
  have M8 : Mem _ _ [_, _, _] _ := hM3.call0 hM8
  refine wq (aI (.tuple (List.toArray _)) rfl) rfl (wq (bN (.slice _ _ _) rfl rfl) rfl (wq (bN (.int _ _) rfl rfl) rfl (eJ rfl rfl (bH rfl rfl (aB (aC (aE (aA ?_))))))))
  refine dI rfl rfl (wq (aI (.pointer _) rfl) rfl (wq (dR [.pointer _] [] rfl rfl) rfl ?_))
  have M9 : Mem _ _ [_, _, _, _] _ := Mem.orderC (M8.dummy default)
  have hfl : (nW xs).length = r0.n := by simpa using hr0.1
  have hnn : xs.length * (xs.length - 1) ≤ 4096 * 4096 := Nat.mul_le_mul (by omega) (by omega)
  refine bY bNg rfl rfl (aGm _ r0.A r0.n r0.c (nW xs) (hr0.rd M9 (bB (i := 0) rfl)) b2 b1 (boM xs) em hme fW (bC.nil _ _ _) (fun z hz => by obtain ⟨a, b, h1, h2, _, _, h3, h4⟩ := zW hs hz; exact ⟨a, b, h3, h4, hb a h1, hb b h2⟩) (by omega) (M9.ownSeg 1 3) (hr0.apartTail M9)) ?_
  rintro v10 w10 ⟨rfl, q, hq, hM10⟩
  have M10 : Mem _ _ [_, _, _, _] _ := M9.seg 1 3 hM10
  refine aB (aC (aE (aA (wq (aI (.pointer _) rfl) rfl (wq (bE rfl) rfl (wq (aD 1 tD rfl) rfl (wq (aM 1 (.slice _ _ _) oP M10 rfl rfl rfl) rfl (aP rfl rfl ?_))))))))
  refine eJ rfl rfl (bH rfl rfl (aB (aC (aO (fY (.slice _ _ _) (.int _ _) rfl rfl ?_)))))
  exact ⟨q, m0, rfl, hfm0, hgm0, hq, M10.keep [false, false, false, true]⟩
set_option maxHeartbeats 8000000 in
theorem aXz (w : World) (A : Option Addr) (n c : Nat) (xs : List Body) (R : Rd w 10 A n (xs.map aF)) (hb : ∀ b ∈ xs, Okb b) (hs : cW xs) (hn : n ≤ 65536) :
  Calls Tryz.prog 128 #[.slice A n c] w (fun ex w' => ∃ v, ex = .returned v ∧ (fun v w' => ∃ r : Row, v = .slice r.A r.n r.c ∧ bC 211 5 r.A r.n r.c ((lN xs).map cH) r.e ∧ Mem w [] [r.e] w') v w') := by
 have hlen : xs.length = n := by simpa using R.len
 have hbd := R.bound
 refine aH #[.tmp 2] 40 Tryz.func128 rfl Tryz.results128 Tryz.ntmps128 rfl ?_
 have M0 := Mem.refl w
 refine aE (aA (eJ rfl rfl (aB (aC (aE (aA (eJ rfl rfl ?_)))))))
 have M1 := M0.dummy default
 refine aB (aC (aE (aE (aA (bH rfl rfl (aB (aC (aQ (dQ (σ := Nat × Row) [0, 2] (fun (i, r) => [(3, .slice r.A r.n r.c), (4, .int .i64 (i : Int))]) (fun (i, r) w' => (i ≤ n ∧ bC 211 5 r.A r.n r.c ((aQt xs i).map cH) r.e) ∧ Mem w [] [r.e] w') (fun (i, r) => n - i) (0, fW) (bA rfl (bA rfl dY)) (⟨⟨by omega, bC.nil _ _ _⟩, M1⟩) ?_)))))))))
 rintro ⟨i, r⟩ ρ2 w2 ⟨⟨hi, hr⟩, hM2⟩
 refine aE (aE (aA (aP rfl rfl (dI rfl rfl (wq (cZ Tryz.underlying29 rfl) rfl (cY rfl rfl rfl rfl (aB (aC ?_))))))))
 refine aV rfl (fun h11 => ?_) (fun h11 => ?_)
 ·obtain ⟨xa, hxa⟩ := cS (k := i) hlen (by omega)
  refine aL (aC (aE (aQ (aE (aA (aP rfl rfl (wq (aY rfl rfl (by omega) (by omega)) rfl (bH rfl rfl (aB (aC (aQ (dQ (σ := Nat × Row) [0, 2, 4] (fun (k, q) => [(3, .slice q.A q.n q.c), (5, .int .i64 (k : Int))]) (fun (k, q) w' => (i + 1 ≤ k ∧ k ≤ n ∧ bC 211 5 q.A q.n q.c ((aQt xs i ++ aGi xs i k).map cH) q.e) ∧ Mem w [] [q.e] w') (fun (k, q) => n - k) (i + 1, r) (bA rfl (bA rfl dY)) (⟨⟨by omega, by omega, by rw [aRi, List.append_nil]; exact hr⟩, hM2⟩) ?_))))))))))))
  rintro ⟨k, q⟩ ρ3 w3 ⟨⟨hik, hk, hq⟩, hM3⟩
  have hfl := aYg xs i
  have hfm : i * xs.length ≤ 65536 * 65536 := Nat.mul_le_mul (by omega) (by omega)
  have hrw := bCu xs i k
  have hql : (aQt xs i ++ aGi xs i k).length = q.n := by simpa using hq.1
  rw [List.length_append] at hql
  refine aE (aE (aA (aP rfl rfl (dI rfl rfl (wq (cZ Tryz.underlying29 rfl) rfl (cY rfl rfl rfl rfl (aB (aC ?_))))))))
  refine aV rfl (fun h19 => ?_) (fun h19 => ?_)
  ·obtain ⟨xb, hxb⟩ := cS (k := k) hlen (by omega)
   refine aL (aC (aE (aQ (aE (aKc [(0, 0), (1, 0), (2, 1), (3, 1), (4, 0), (5, 0), (6, 1), (7, 1)] 8 12 [(9, 0), (10, 0), (11, 0), (12, 2), (13, 2), (14, 0)] [(8, 2), (9, 0), (10, 0), (11, 0), (13, 2), (14, 0)] mixed rfl (by kernel_rfl) (fun w4 hb4 hh4 => ?_))))))
   have M4 := hM3.drew hb4 hh4
   refine rR rfl rfl rfl (fun _ => aI (.slice _ _ _) rfl) (rR rfl rfl rfl (fun _ => aI (.int _ _) rfl) (yX rfl rfl rfl (bP (i) dH rfl rfl rfl ((R.mem M4).below_len (aG aF hxa)) ((R.mem M4).someK (aG aF hxa))) (yX rfl rfl rfl (dL _ bO (R.mem M4) (aG aF hxa) rfl) ?_)))
   refine rR rfl rfl rfl (fun _ => aI (.slice _ _ _) rfl) (rR rfl rfl rfl (fun _ => aI (.int _ _) rfl) (yX rfl rfl rfl (bP (k) dH rfl rfl rfl ((R.mem M4).below_len (aG aF hxb)) ((R.mem M4).someK (aG aF hxb))) (yX rfl rfl rfl (dL _ bO (R.mem M4) (aG aF hxb) rfl) ?_)))
   refine aBn ?_ ?_
   ·refine dU [true, true, true, true] rfl (by kernel_rfl) (bY aRo rfl rfl (aNw _ xa xb (hb xa (List.mem_of_getElem? hxa)) (hb xb (List.mem_of_getElem? hxb))) ?_)
    rintro v5 w5 ⟨rfl, hb5⟩
    have M5 := M4.callB hb5
    refine aB (aC ⟨dT, ?_⟩)
    refine aW rfl rfl rfl (fun _ => aI (.tuple (List.toArray _)) rfl) (aW rfl rfl rfl (fun _ => bN (.agg (List.toArray _)) rfl rfl) (aW rfl rfl rfl (fun _ => bN (.bool _) rfl rfl) (dU [] rfl (by kernel_rfl) (aU mC M5 rfl rfl (fun b6 w6 M6 => ?_)))))
    refine aB (aC ⟨dT, ?_⟩)
    refine dU [] rfl (by kernel_rfl) (bI 1 _ eS M6 rfl rfl rfl rfl rfl (aR rfl) rfl (fun w7 M7 => ?_))
    refine aB (aC ⟨dT, ?_⟩)
    refine aW rfl rfl rfl (fun _ => aJ (.bool _) rfl) (bX (aC (aE (aA (wq (aI (.bool _) rfl) rfl (aB (aC ?_)))))))
    refine iD _ rfl (fun h34 => ?_) (fun h34 => ?_)
    ·obtain ⟨cc, hcc⟩ := Option.isSome_iff_exists.1 h34
     refine aA (dI rfl rfl (wq (aX 1 eS M7 rfl rfl rfl) rfl (aK 36 (.agg (cH cc).toArray) (congrArg (fun o => Value.agg (aOa o).toArray) hcc) (cR [.agg (List.toArray _)] [cH cc] rfl sE M7 rfl rfl rfl rfl (dD rfl) (by decide) (fun b8 w8 M8 => (dG 0 [cH cc] sE M8 rfl rfl rfl rfl rfl hq rfl (by simp [cH, Go.Bil.one]) (dS.ofMem 2 M8 rfl) (by omega) (fun A9 c9 e9 w9 M9 hR9 => ?_)))))))
     refine eJ rfl rfl (aB (cU (aC (aA (aP rfl rfl (wq (aY rfl rfl (by omega) (by omega)) rfl ?_))))))
     refine bH rfl rfl (aB ?_)
     refine cE (k + 1, ⟨A9, q.n + 1, c9, e9⟩) (bA rfl (bA rfl dY)) (cN rfl (cN rfl (cN rfl gT))) ?_ ?_
     ·exact ⟨⟨by omega, by omega, by rw [tY hs hb hxa hxb (by omega), hcc, ← List.append_assoc, List.map_append]; exact hR9⟩, M9.keep [true, false, false]⟩
     ·(show n - (k + 1) < n - k; omega)
    ·have hcc : kU xa xb = none := by simpa using h34
     refine aL (cU (aC (aA (aP rfl rfl (wq (aY rfl rfl (by omega) (by omega)) rfl (bH rfl rfl ?_))))))
     refine aB ?_
     refine cE (k + 1, q) (bA rfl (bA rfl dY)) (cN rfl (cN rfl (cN rfl gT))) ?_ ?_
     ·exact ⟨⟨by omega, by omega, by rw [tY hs hb hxa hxb (by omega), hcc, ← List.append_assoc]; simpa using hq⟩, M7.keep [true, false]⟩
     ·(show n - (k + 1) < n - k; omega)
   ·refine dU [false, false, false, false] rfl (by kernel_rfl) (aU mC M4 rfl rfl (fun b10 w10 M10 => ?_))
    refine aB (aC ⟨(eB (bM rfl (dL _ bO (R.mem M10) (aG aF hxb) rfl)) (eB (bM rfl (bP (k) dH rfl rfl rfl ((R.mem M10).below_len (aG aF hxb)) ((R.mem M10).someK (aG aF hxb)))) (eB (bM rfl (dL _ bO (R.mem M10) (aG aF hxa) rfl)) (eB (bM rfl (bP (i) dH rfl rfl rfl ((R.mem M10).below_len (aG aF hxa)) ((R.mem M10).someK (aG aF hxa)))) dT)))), ?_⟩)
    refine dU [true, true, true, true] rfl (by kernel_rfl) (bY aRo rfl rfl (aNw _ xa xb (hb xa (List.mem_of_getElem? hxa)) (hb xb (List.mem_of_getElem? hxb))) ?_)
    rintro v11 w11 ⟨rfl, hb11⟩
    have M11 := M10.callB hb11
    refine aB (aC ⟨dT, ?_⟩)
    refine aW rfl rfl rfl (fun _ => aI (.tuple (List.toArray _)) rfl) (aW rfl rfl rfl (fun _ => bN (.agg (List.toArray _)) rfl rfl) (aW rfl rfl rfl (fun _ => bN (.bool _) rfl rfl) (dU [] rfl (by kernel_rfl) (bI 1 _ eS M11 rfl rfl rfl rfl rfl (aR rfl) rfl (fun w12 M12 => ?_)))))
    refine aB (aC ⟨dT, ?_⟩)
    refine aW rfl rfl rfl (fun _ => aJ (.bool _) rfl) (bX (aC (aE (aA (wq (aI (.bool _) rfl) rfl (aB (aC ?_)))))))
    refine iD _ rfl (fun h34 => ?_) (fun h34 => ?_)
    ·obtain ⟨cc, hcc⟩ := Option.isSome_iff_exists.1 h34
     refine aA (dI rfl rfl (wq (aX 1 eS M12 rfl rfl rfl) rfl (aK 36 (.agg (cH cc).toArray) (congrArg (fun o => Value.agg (aOa o).toArray) hcc) (cR [.agg (List.toArray _)] [cH cc] rfl sE M12 rfl rfl rfl rfl (dD rfl) (by decide) (fun b13 w13 M13 => (dG 0 [cH cc] sE M13 rfl rfl rfl rfl rfl hq rfl (by simp [cH, Go.Bil.one]) (dS.ofMem 2 M13 rfl) (by omega) (fun A14 c14 e14 w14 M14 hR14 => ?_)))))))
     refine eJ rfl rfl (aB (cU (aC (aA (aP rfl rfl (wq (aY rfl rfl (by omega) (by omega)) rfl ?_))))))
     refine bH rfl rfl (aB ?_)
     refine cE (k + 1, ⟨A14, q.n + 1, c14, e14⟩) (bA rfl (bA rfl dY)) (cN rfl (cN rfl (cN rfl gT))) ?_ ?_
     ·exact ⟨⟨by omega, by omega, by rw [tY hs hb hxa hxb (by omega), hcc, ← List.append_assoc, List.map_append]; exact hR14⟩, M14.keep [true, false, false]⟩
     ·(show n - (k + 1) < n - k; omega)
    ·have hcc : kU xa xb = none := by simpa using h34
     refine aL (cU (aC (aA (aP rfl rfl (wq (aY rfl rfl (by omega) (by omega)) rfl (bH rfl rfl ?_))))))
     refine aB ?_
     refine cE (k + 1, q) (bA rfl (bA rfl dY)) (cN rfl (cN rfl (cN rfl gT))) ?_ ?_
     ·exact ⟨⟨by omega, by omega, by rw [tY hs hb hxa hxb (by omega), hcc, ← List.append_assoc]; simpa using hq⟩, M12.keep [true, false]⟩
     ·(show n - (k + 1) < n - k; omega)
  ·have hkn : k = n := by omega
   refine cV (dC (dK (eN (cU (aC (aA ?_))))))
   refine aP rfl rfl (wq (aY rfl rfl (by omega) (by omega)) rfl (bH rfl rfl (aB ?_)))
   refine cE (i + 1, q) (bA rfl (bA rfl dY)) (cN rfl (cN rfl gT)) ?_ ?_
   ·exact ⟨⟨by omega, by rw [aYa, hlen, ← hkn]; exact hq⟩, hM3⟩
   ·(show n - (i + 1) < n - i; omega)
 ·have hin : i = n := by omega
  refine cV (dC (dK (eN (aC (aE (aA (dI rfl rfl ?_)))))))
  refine eJ rfl rfl (aB (aC (aO (cD (.slice _ _ _) rfl ?_))))
  exact ⟨r, rfl, by unfold lN nW; rw [hlen, ← hin]; exact hr, hM2⟩
end Go.Proofs.YtaoaknafiegfoaaGreatDoor
