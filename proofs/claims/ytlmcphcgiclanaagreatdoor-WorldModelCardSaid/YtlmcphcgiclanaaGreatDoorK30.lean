/- Part of the proof of the laws of this seat: V15, X15, Z5. No conditions. -/
import Derived.Test.YtlmcphcgiclanaaGreatDoorK2
import Derived.Test.YtlmcphcgiclanaaGreatDoorK5
import Derived.Test.YtlmcphcgiclanaaGreatDoorK26
import Derived.Test.YtlmcphcgiclanaaGreatDoorK29
import Derived.Test.YtlmcphcgiclanaaGreatDoorK18
import Derived.Test.YtlmcphcgiclanaaGreatDoorK11
import Derived.Test.YtlmcphcgiclanaaGreatDoorK28
set_option linter.unusedVariables false
set_option linter.unusedSimpArgs false
set_option linter.unnecessarySimpa false
namespace Go.Proofs.YtlmcphcgiclanaaGreatDoor
open Go.Bil
open Go.RowKit (Below)
open Go.Proofs
set_option maxHeartbeats 4000000 in
theorem aSi (w : World) (bl pm : Nat) (f : Int → Option Body) (em : fF) (hme : kY .u32 tY f (some pm) em) (r : Row) (cs : List Con) (hr : bH 121 5 r.A r.n r.c ((cs).map cG) r.e) (hn : r.n ≤ 1099511627776) (z : Int × Int) (a b : Body) (h1 : f z.1 = some a) (h2 : f z.2 = some b) (ha : Okb a) (hb : Okb b) (hO : Own [(some bl, bc [.map (some pm), .slice r.A r.n r.c] 158), em, r.e] w) :
  Calls Tryz.prog 107 #[.pointer (some ⟨bl, 0, none⟩), (.agg (cJ z).toArray)] w (fun ex w' => ∃ v, ex = .returned v ∧ (fun v w' => v = .tuple #[] ∧ ∃ q : Row, bH 121 5 q.A q.n q.c ((cs ++ (aCx f z).toList).map cG) q.e ∧ Mem w (cY [(some bl, bc [.map (some pm), .slice r.A r.n r.c] 158), em, r.e]) [(some bl, bc [.map (some pm), .slice q.A q.n q.c] 158), em, q.e] w') v w') := by
 refine aI #[] 35 Tryz.func107 rfl Tryz.results107 Tryz.ntmps107 rfl ?_
 have M0 := hO.mem
 refine aE (aA (bP (.agg (List.toArray _)) M0 rfl rfl rfl (fun b1 w1 M1 => (aB (aC (aE (aHf [(0, 0), (1, 0), (2, 0), (3, 1), (4, 0), (5, 1), (6, 1), (7, 0), (8, 0), (9, 0), (10, 1), (11, 0), (12, 1), (13, 1)] 14 18 [(15, 0), (16, 0), (17, 0), (18, 2), (19, 2), (20, 0)] [(14, 2), (15, 0), (16, 0), (17, 0), (19, 2), (20, 0)] mixed rfl (by kernel_rfl) (fun w2 hb2 hh2 => ?_))))))))
 have M2 := M1.drew hb2 hh2
 refine qT rfl rfl rfl (fun _ => aH (.pointer _) rfl) (qT rfl rfl rfl (fun _ => bB rfl) (qT rfl rfl rfl (fun _ => aD 0 aCb rfl) (yC rfl rfl rfl (aM 0 (.map _) aDz M2 rfl rfl rfl) (qT rfl rfl rfl (fun _ => aD 0 gB rfl) (yC rfl rfl rfl (aM 3 (.int _ _) bU M2 rfl rfl rfl) ?_)))))
 refine yC rfl rfl rfl (lI (enc := tY) aYt 1 aDt bBd M2 rfl hme rfl rfl) (bEm 13 ((.agg (aF a).toArray)) (congrArg tY (by rw [h1]; rfl)) (qT rfl rfl rfl (fun _ => aH (.pointer _) rfl) (qT rfl rfl rfl (fun _ => bB rfl) (qT rfl rfl rfl (fun _ => aD 0 aCb rfl) ?_))))
 refine yC rfl rfl rfl (aM 0 (.map _) aDz M2 rfl rfl rfl) (qT rfl rfl rfl (fun _ => aD 1 jJ rfl) (yC rfl rfl rfl (aM 3 (.int _ _) bU M2 rfl rfl rfl) (yC rfl rfl rfl (lI (enc := tY) aYt 1 aDt bBd M2 rfl hme rfl rfl) (bEm 20 ((.agg (aF b).toArray)) (congrArg tY (by rw [h2]; rfl)) ?_))))
 refine aAi ?_ ?_
 ·refine dS [true, true, true, true, true, true] rfl (by kernel_rfl) (bZ aVw rfl rfl (aDm _ a b ha hb) ?_)
  rintro v3 w3 ⟨rfl, hb3⟩
  have M3 := M2.callB hb3
  refine aB (aC ⟨dT, ?_⟩)
  refine aX rfl rfl rfl (fun _ => aH (.tuple (List.toArray _)) rfl) (aX rfl rfl rfl (fun _ => bO (.agg (List.toArray _)) rfl rfl) (aX rfl rfl rfl (fun _ => bO (.bool _) rfl rfl) (dS [] rfl (by kernel_rfl) (aV lT M3 rfl rfl (fun b4 w4 M4 => ?_)))))
  refine aB (aC ⟨dT, ?_⟩)
  refine dS [] rfl (by kernel_rfl) (bG 4 _ eL M4 rfl rfl rfl rfl rfl (aT rfl) rfl (fun w5 M5 => ?_))
  refine aB (aC ⟨dT, ?_⟩)
  refine aX rfl rfl rfl (fun _ => aJ (.bool _) rfl) (bY (aC (aE (aA (wq (aH (.bool _) rfl) rfl (aB (aC ?_)))))))
  refine iB _ rfl (fun h24 => ?_) (fun h24 => ?_)
  ·obtain ⟨cc, hcc⟩ := Option.isSome_iff_exists.1 h24
   refine bR [(0, 0), (1, 0), (2, 0), (3, 0), (4, 1), (5, 1), (6, 2), (7, 2), (8, 0), (9, 0), (10, 2)] mixed rfl (by kernel_rfl) (fun w6 hb6 hh6 => ?_)
   have M6 := M5.drew hb6 hh6
   refine aX rfl rfl rfl (fun _ => aH (.pointer _) rfl) (aX rfl rfl rfl (fun _ => aH (.pointer _) rfl) (aX rfl rfl rfl (fun _ => bB rfl) (aX rfl rfl rfl (fun _ => aD 1 sI rfl) (bV rfl rfl rfl (aM 0 (.slice _ _ _) rI M6 rfl rfl rfl) (bV rfl rfl rfl (aU 4 eL M6 rfl rfl rfl) ?_)))))
   refine dY 30 (.agg (cG cc).toArray) (congrArg (fun o => Value.agg (aKe o).toArray) hcc) (dS [true, false] rfl (by kernel_rfl) (cU [.agg (List.toArray _)] [cG cc] rfl zN M6 rfl rfl rfl rfl (dE rfl) (by decide) (fun b7 w7 M7 => ?_)))
   refine aB (aC ⟨(eD (bL rfl (aM 0 (.slice _ _ _) rI M7 rfl rfl rfl)) dT), ?_⟩)
   refine dS [true] rfl (by kernel_rfl) (dL 2 [cG cc] zN M7 rfl rfl rfl rfl rfl hr rfl (by simp [cG, Go.Bil.one]) (dR.ofMem 5 M7 rfl) (by omega) (fun A8 c8 e8 w8 M8 hR8 => ?_))
   refine aB (aC ⟨dT, ?_⟩)
   refine aX rfl rfl rfl (fun _ => bB rfl) (aX rfl rfl rfl (fun _ => aD 1 sI rfl) (dS [] rfl (by kernel_rfl) (cZ 0 (.slice _ _ _) rI M8 rfl rfl rfl rfl rfl rfl (fun w9 M9 => ?_))))
   refine aB (aC ⟨dT, ?_⟩)
   refine bY (kR ?_)
   exact ⟨rfl, ⟨A8, r.n + 1, c8, e8⟩, by rw [sX h1 h2, hcc, List.map_append]; exact hR8, M9.keep [true, true, true, false, false, false]⟩
  ·have hcc : kI a b = none := by simpa using h24
   refine aL (kR ?_)
   exact ⟨rfl, r, by rw [sX h1 h2, hcc]; simpa using hr, M5.keep [true, true, true, false, false]⟩
 ·refine dS [false, false, false, false, false, false] rfl (by kernel_rfl) (aV lT M2 rfl rfl (fun b10 w10 M10 => ?_))
  refine aB (aC ⟨(eD (bL rfl (lI (enc := tY) aYt 1 aDt bBd M10 rfl hme rfl rfl)) (eD (bL rfl (aM 3 (.int _ _) bU M10 rfl rfl rfl)) (eD (bL rfl (aM 0 (.map _) aDz M10 rfl rfl rfl)) (eD (bL rfl (lI (enc := tY) aYt 1 aDt bBd M10 rfl hme rfl rfl)) (eD (bL rfl (aM 3 (.int _ _) bU M10 rfl rfl rfl)) (eD (bL rfl (aM 0 (.map _) aDz M10 rfl rfl rfl)) dT)))))), ?_⟩)
  refine dS [true, true, true, true, true, true] rfl (by kernel_rfl) (bZ aVw rfl rfl (aDm _ a b ha hb) ?_)
  rintro v11 w11 ⟨rfl, hb11⟩
  have M11 := M10.callB hb11
  refine aB (aC ⟨dT, ?_⟩)
  refine aX rfl rfl rfl (fun _ => aH (.tuple (List.toArray _)) rfl) (aX rfl rfl rfl (fun _ => bO (.agg (List.toArray _)) rfl rfl) (aX rfl rfl rfl (fun _ => bO (.bool _) rfl rfl) (dS [] rfl (by kernel_rfl) (bG 4 _ eL M11 rfl rfl rfl rfl rfl (aT rfl) rfl (fun w12 M12 => ?_)))))
  refine aB (aC ⟨dT, ?_⟩)
  refine aX rfl rfl rfl (fun _ => aJ (.bool _) rfl) (bY (aC (aE (aA (wq (aH (.bool _) rfl) rfl (aB (aC ?_)))))))
  refine iB _ rfl (fun h24 => ?_) (fun h24 => ?_)
  ·obtain ⟨cc, hcc⟩ := Option.isSome_iff_exists.1 h24
   refine bR [(0, 0), (1, 0), (2, 0), (3, 0), (4, 1), (5, 1), (6, 2), (7, 2), (8, 0), (9, 0), (10, 2)] mixed rfl (by kernel_rfl) (fun w13 hb13 hh13 => ?_)
   have M13 := M12.drew hb13 hh13
   refine aX rfl rfl rfl (fun _ => aH (.pointer _) rfl) (aX rfl rfl rfl (fun _ => aH (.pointer _) rfl) (aX rfl rfl rfl (fun _ => bB rfl) (aX rfl rfl rfl (fun _ => aD 1 sI rfl) (bV rfl rfl rfl (aM 0 (.slice _ _ _) rI M13 rfl rfl rfl) (bV rfl rfl rfl (aU 4 eL M13 rfl rfl rfl) ?_)))))
   refine dY 30 (.agg (cG cc).toArray) (congrArg (fun o => Value.agg (aKe o).toArray) hcc) (dS [true, false] rfl (by kernel_rfl) (cU [.agg (List.toArray _)] [cG cc] rfl zN M13 rfl rfl rfl rfl (dE rfl) (by decide) (fun b14 w14 M14 => ?_)))
   refine aB (aC ⟨(eD (bL rfl (aM 0 (.slice _ _ _) rI M14 rfl rfl rfl)) dT), ?_⟩)
   refine dS [true] rfl (by kernel_rfl) (dL 2 [cG cc] zN M14 rfl rfl rfl rfl rfl hr rfl (by simp [cG, Go.Bil.one]) (dR.ofMem 5 M14 rfl) (by omega) (fun A15 c15 e15 w15 M15 hR15 => ?_))
   refine aB (aC ⟨dT, ?_⟩)
   refine aX rfl rfl rfl (fun _ => bB rfl) (aX rfl rfl rfl (fun _ => aD 1 sI rfl) (dS [] rfl (by kernel_rfl) (cZ 0 (.slice _ _ _) rI M15 rfl rfl rfl rfl rfl rfl (fun w16 M16 => ?_))))
   refine aB (aC ⟨dT, ?_⟩)
   refine bY (kR ?_)
   exact ⟨rfl, ⟨A15, r.n + 1, c15, e15⟩, by rw [sX h1 h2, hcc, List.map_append]; exact hR15, M16.keep [true, true, true, false, false, false]⟩
  ·have hcc : kI a b = none := by simpa using h24
   refine aL (kR ?_)
   exact ⟨rfl, r, by rw [sX h1 h2, hcc]; simpa using hr, M12.keep [true, true, true, false, false]⟩
set_option maxHeartbeats 4000000 in
theorem aEt (w : World) (A : Option Addr) (n c : Nat) (zs : List (Int × Int)) (R : Rd w 2 A n (zs.map cJ)) (bl pm : Nat) (f : Int → Option Body) (em : fF) (hme : kY .u32 tY f (some pm) em) (r : Row) (hr : bH 121 5 r.A r.n r.c (([]).map cG) r.e) (hz : ∀ z ∈ zs, ∃ a b, f z.1 = some a ∧ f z.2 = some b ∧ Okb a ∧ Okb b) (hn : n ≤ 1099511627776) (hO : Own [(some bl, bc [.map (some pm), .slice r.A r.n r.c] 158), em, r.e] w) (hdA : 0 < n → ∀ q off, A = some ⟨q, off, none⟩ → q ∉ cY [(some bl, bc [.map (some pm), .slice r.A r.n r.c] 158), em, r.e]) :
  Calls Tryz.prog 106 #[.slice A n c, .func (.func 107) #[.pointer (some ⟨bl, 0, none⟩)] #[]] w (fun ex w' => ∃ v, ex = .returned v ∧ (fun v w' => v = .tuple #[] ∧ ∃ q : Row, bH 121 5 q.A q.n q.c ((zs.filterMap (aCx f)).map cG) q.e ∧ Mem w (cY [(some bl, bc [.map (some pm), .slice r.A r.n r.c] 158), em, r.e]) [(some bl, bc [.map (some pm), .slice q.A q.n q.c] 158), em, q.e] w') v w') := by
 have hlen : zs.length = n := by simpa using R.len
 refine aI #[] 16 Tryz.func106 rfl Tryz.results106 Tryz.ntmps106 rfl ?_
 have M0 := hO.mem
 refine aE (aA (dN rfl rfl (wq (dB Tryz.underlying159 rfl) rfl (aO rfl rfl (aB (aC (aQ (dQ (σ := Nat × Row) [1, 6, 7] (fun (k, q) => [(8, .int .i64 (k : Int))]) (fun (k, q) w' => (k ≤ n ∧ bH 121 5 q.A q.n q.c (((zs.take k).filterMap (aCx f)).map cG) q.e) ∧ Mem w (cY [(some bl, bc [.map (some pm), .slice r.A r.n r.c] 158), em, r.e]) [(some bl, bc [.map (some pm), .slice q.A q.n q.c] 158), em, q.e] w') (fun (k, q) => n - k) (0, r) (bA rfl dX) (⟨⟨by omega, hr⟩, M0⟩) ?_))))))))
 rintro ⟨k, q⟩ ρ1 w1 ⟨⟨hk, hq⟩, hM1⟩
 have hfl := List.length_filterMap_le (aCx f) (zs.take k)
 have htl := List.length_take_le k zs
 have hql : ((zs.take k).filterMap (aCx f)).length = q.n := by simpa using hq.1
 refine aE (aA (cX rfl rfl rfl rfl (aB (aC (aE ?_)))))
 refine aS rfl (fun h9 => ?_) (fun h9 => ?_)
 ·obtain ⟨xz, hxz⟩ := cT (k := k) hlen (by omega)
  obtain ⟨za, zb, hza, hzb, hoa, hob⟩ := hz xz (List.mem_of_getElem? hxz)
  refine aL (aC (aE (aQ (aE (aA (wq (bN (k) wC rfl rfl rfl ((R.memY hM1 hdA).below_len (aG cJ hxz)) ((R.memY hM1 hdA).someK (aG cJ hxz))) rfl (wq (dJ _ jA (R.memY hM1 hdA) (aG cJ hxz) rfl) rfl (aV sZ hM1 rfl rfl (fun b2 w2 M2 => ?_)))))))))
  refine bG 3 _ jA M2 rfl rfl rfl rfl rfl (aT rfl) rfl (fun w3 M3 => (aB (aC (aA (wq (aH (.func _ _ _) rfl) rfl (wq (aU 3 jA M3 rfl rfl rfl) rfl (bZ bHs rfl rfl (aSi _ bl pm f em hme q _ hq (by omega) xz za zb hza hzb hoa hob (M3.ownSeg 0 3)) ?_)))))))
  rintro v4 w4 ⟨rfl, q2, hq2, hM4⟩
  have M4 : Mem _ _ [_, _, _, _] _ := M3.seg 0 3 hM4
  refine aB (cO (aC (aA (wq (aY rfl rfl (by omega) (by omega)) rfl (aO rfl rfl (aB ?_))))))
  refine cD (k + 1, q2) (bA rfl dX) (cL rfl (cL rfl (cL rfl gO))) ?_ ?_
  ·exact ⟨⟨by omega, by rw [bDb hxz]; exact hq2⟩, M4.keep [true, true, true, false]⟩
  ·(show n - (k + 1) < n - k; omega)
 ·have hkn : k = n := by omega
  rw [List.take_of_length_le (by omega)] at hq
  refine cV (dD (dK (eO (kR ?_))))
  exact ⟨rfl, q, hq, hM1⟩
set_option maxHeartbeats 8000000 in
theorem aHr (w : World) (F : Rd w 2 (some ⟨0, 0, none⟩) 1 [[.int .u32 73856093, .int .u32 19349663]]) (N : Rd w 4 (some ⟨3, 0, none⟩) 1 [eQ lG]) (A : Option Addr) (n c : Nat) (xs : List Body) (R : Rd w 10 A n (xs.map aF)) (hb : ∀ b ∈ xs, Okb b) (hs : cS xs) (hn : n ≤ 4096) :
  Calls Tryz.prog 71 #[.slice A n c] w (fun ex w' => ∃ v, ex = .returned v ∧ (fun v w' => ∃ (r : Row) (m : Nat), v = .tuple #[.slice r.A r.n r.c, .int .i64 (m : Int)] ∧ (nI xs).length ≤ m ∧ 2 * m ≤ xs.length * (xs.length - 1) ∧ bH 121 5 r.A r.n r.c ((lL xs).map cG) r.e ∧ Mem w [] [r.e] w') v w') := by
 have hlen : xs.length = n := by simpa using R.len
 have hbd := R.bound
 refine aI #[.tmp 2, .tmp 3] 39 Tryz.func71 rfl Tryz.results71 Tryz.ntmps71 rfl ?_
 have M0 := Mem.refl w
 refine aE (aA (eN rfl rfl (bC rfl rfl (aB (aC (aE (aA (oE M0 rfl rfl (fun b1 w1 M1 => (wq (cP [(0, .map _)] _ aTf rfl rfl) rfl ?_))))))))))
 refine bP (.agg (List.toArray _)) M1 rfl rfl rfl (fun b2 w2 M2 => (wq (aJ (.pointer _) rfl) rfl (aB (aC (aE (aE (aA (dN rfl rfl (wq (dB Tryz.underlying22 rfl) rfl (aO rfl rfl ?_))))))))))
 refine aB (aC (aQ (dQ (σ := Nat × fF) [0, 2, 3, 4, 11, 12] (fun (k, em) => [(13, .int .i64 (k : Int))]) (fun (k, em) w' => (k ≤ n ∧ kY .u32 tY (boM (xs.take k)) (some b1) em) ∧ Mem w [] [em, (some b2, bc [.map (some b1), .slice none 0 0] 158)] w') (fun (k, em) => n - k) (0, (some b1, .map #[] 0)) (bA rfl dX) (⟨⟨by omega, (kY.empty _ _ b1).congr (fun q => by rw [List.take_zero]; exact bBo q)⟩, M2⟩) ?_)))
 rintro ⟨k, em⟩ ρ3 w3 ⟨⟨hk, hme⟩, hM3⟩
 refine aE (aA (cX rfl rfl rfl rfl (aB (aC (aE ?_)))))
 refine aS rfl (fun h14 => ?_) (fun h14 => ?_)
 ·obtain ⟨xb, hxb⟩ := cT (k := k) hlen (by omega)
  refine aL (aC (aE (aQ (aE (aA (wq (bN (k) dF rfl rfl rfl ((R.mem hM3).below_len (aG aF hxb)) ((R.mem hM3).someK (aG aF hxb))) rfl (wq (dJ _ bK (R.mem hM3) (aG aF hxb) rfl) rfl (aV fJ hM3 rfl rfl (fun b4 w4 M4 => (bG 2 _ bK M4 rfl rfl rfl rfl rfl (aT rfl) rfl (fun w5 M5 => ?_)))))))))))
  refine aB (aC (bR [(0, 0), (1, 0), (2, 0), (3, 1), (4, 0), (5, 1), (6, 1), (7, 2)] mixed rfl (by kernel_rfl) (fun w6 hb6 hh6 => ?_)))
  have M6 := M5.drew hb6 hh6
  refine aX rfl rfl rfl (fun _ => aH (.pointer _) rfl) (aX rfl rfl rfl (fun _ => bB rfl) (aX rfl rfl rfl (fun _ => aD 0 aCb rfl) (bV rfl rfl rfl (aM 1 (.map _) aDz M6 rfl rfl rfl) (aX rfl rfl rfl (fun _ => aD 0 dH rfl) (bV rfl rfl rfl (aM 2 (.int _ _) bU M6 rfl rfl rfl) ?_)))))
  refine bV rfl rfl rfl (aU 2 bK M6 rfl rfl rfl) (dS [true, true, true] rfl (by kernel_rfl) (kD (enc := tY) 0 aDt M6 rfl rfl hme rfl rfl rfl rfl (fun e7 w7 hm7 M7 => ?_)))
  refine aB (aC ⟨dT, ?_⟩)
  refine bY (cO (aC (aA (wq (aY rfl rfl (by omega) (by omega)) rfl (aO rfl rfl (aB ?_))))))
  refine cD (k + 1, e7) (bA rfl dX) (cL rfl (cL rfl (cL rfl (cL rfl (cL rfl (cL rfl gO)))))) ?_ ?_
  ·exact ⟨⟨by omega, hm7.congr (fun q => aYj hxb q)⟩, M7.keep [true, true, false]⟩
  ·(show n - (k + 1) < n - k; omega)
 ·have hkn : k = n := by omega
  rw [List.take_of_length_le (by omega)] at hme
  refine cV (dD (dK (eO (aC (aE (aA (dN rfl rfl ?_)))))))
  refine bZ bHk rfl rfl (aOr _ (F.mem hM3) (N.mem hM3) _ _ _ xs (R.mem hM3) hb hs (by first | decide | omega)) ?_
  rintro v8 w8 ⟨r0, m0, rfl, hfm0, hgm0, hr0, hM8⟩
  have M8 : Mem _ _ [_, _, _] _ := hM3.call0 hM8
  refine wq (aH (.tuple (List.toArray _)) rfl) rfl (wq (bO (.slice _ _ _) rfl rfl) rfl (wq (bO (.int _ _) rfl rfl) rfl (eN rfl rfl (bC rfl rfl (aB (aC (aE (aA ?_))))))))
  refine dN rfl rfl (wq (aH (.pointer _) rfl) rfl (wq (dU [.pointer _] [] rfl rfl) rfl ?_))
  have M9 : Mem _ _ [_, _, _, _] _ := Mem.orderC (M8.dummy default)
  have hfl : (nI xs).length = r0.n := by simpa using hr0.1
  have hnn : xs.length * (xs.length - 1) ≤ 4096 * 4096 := Nat.mul_le_mul (by omega) (by omega)
  refine bZ bIx rfl rfl (aEt _ r0.A r0.n r0.c (nI xs) (hr0.rd M9 (bJ (i := 0) rfl)) b2 b1 (boM xs) em hme hJ (bH.nil _ _ _) (fun z hz => by obtain ⟨a, b, h1, h2, _, _, h3, h4⟩ := yT hs hz; exact ⟨a, b, h3, h4, hb a h1, hb b h2⟩) (by omega) (M9.ownSeg 1 3) (hr0.apartTail M9)) ?_
  rintro v10 w10 ⟨rfl, q, hq, hM10⟩
  have M10 : Mem _ _ [_, _, _, _] _ := M9.seg 1 3 hM10
  refine aB (aC (aE (aA (wq (aH (.pointer _) rfl) rfl (wq (bB rfl) rfl (wq (aD 1 sI rfl) rfl (wq (aM 1 (.slice _ _ _) rI M10 rfl rfl rfl) rfl (aO rfl rfl ?_))))))))
  refine eN rfl rfl (bC rfl rfl (aB (aC (aP (gA (.slice _ _ _) (.int _ _) rfl rfl ?_)))))
  exact ⟨q, m0, rfl, hfm0, hgm0, hq, M10.keep [false, false, false, true]⟩
set_option maxHeartbeats 8000000 in
theorem aUq (w : World) (A : Option Addr) (n c : Nat) (xs : List Body) (R : Rd w 10 A n (xs.map aF)) (hb : ∀ b ∈ xs, Okb b) (hs : cS xs) (hn : n ≤ 65536) :
  Calls Tryz.prog 44 #[.slice A n c] w (fun ex w' => ∃ v, ex = .returned v ∧ (fun v w' => ∃ r : Row, v = .slice r.A r.n r.c ∧ bH 121 5 r.A r.n r.c ((lL xs).map cG) r.e ∧ Mem w [] [r.e] w') v w') := by
 have hlen : xs.length = n := by simpa using R.len
 have hbd := R.bound
 refine aI #[.tmp 2] 40 Tryz.func44 rfl Tryz.results44 Tryz.ntmps44 rfl ?_
 have M0 := Mem.refl w
 refine aE (aA (eN rfl rfl (aB (aC (aE (aA (eN rfl rfl ?_)))))))
 have M1 := M0.dummy default
 refine aB (aC (aE (aE (aA (bC rfl rfl (aB (aC (aQ (dQ (σ := Nat × Row) [0, 2] (fun (i, r) => [(3, .slice r.A r.n r.c), (4, .int .i64 (i : Int))]) (fun (i, r) w' => (i ≤ n ∧ bH 121 5 r.A r.n r.c ((aPa xs i).map cG) r.e) ∧ Mem w [] [r.e] w') (fun (i, r) => n - i) (0, hJ) (bA rfl (bA rfl dX)) (⟨⟨by omega, bH.nil _ _ _⟩, M1⟩) ?_)))))))))
 rintro ⟨i, r⟩ ρ2 w2 ⟨⟨hi, hr⟩, hM2⟩
 refine aE (aE (aA (aO rfl rfl (dN rfl rfl (wq (dB Tryz.underlying22 rfl) rfl (cX rfl rfl rfl rfl (aB (aC ?_))))))))
 refine aS rfl (fun h11 => ?_) (fun h11 => ?_)
 ·obtain ⟨xa, hxa⟩ := cT (k := i) hlen (by omega)
  refine aL (aC (aE (aQ (aE (aA (aO rfl rfl (wq (aY rfl rfl (by omega) (by omega)) rfl (bC rfl rfl (aB (aC (aQ (dQ (σ := Nat × Row) [0, 2, 4] (fun (k, q) => [(3, .slice q.A q.n q.c), (5, .int .i64 (k : Int))]) (fun (k, q) w' => (i + 1 ≤ k ∧ k ≤ n ∧ bH 121 5 q.A q.n q.c ((aPa xs i ++ aEz xs i k).map cG) q.e) ∧ Mem w [] [q.e] w') (fun (k, q) => n - k) (i + 1, r) (bA rfl (bA rfl dX)) (⟨⟨by omega, by omega, by rw [aOw, List.append_nil]; exact hr⟩, hM2⟩) ?_))))))))))))
  rintro ⟨k, q⟩ ρ3 w3 ⟨⟨hik, hk, hq⟩, hM3⟩
  have hfl := aWc xs i
  have hfm : i * xs.length ≤ 65536 * 65536 := Nat.mul_le_mul (by omega) (by omega)
  have hrw := aVj xs i k
  have hql : (aPa xs i ++ aEz xs i k).length = q.n := by simpa using hq.1
  rw [List.length_append] at hql
  refine aE (aE (aA (aO rfl rfl (dN rfl rfl (wq (dB Tryz.underlying22 rfl) rfl (cX rfl rfl rfl rfl (aB (aC ?_))))))))
  refine aS rfl (fun h19 => ?_) (fun h19 => ?_)
  ·obtain ⟨xb, hxb⟩ := cT (k := k) hlen (by omega)
   refine aL (aC (aE (aQ (aE (aHf [(0, 0), (1, 0), (2, 1), (3, 1), (4, 0), (5, 0), (6, 1), (7, 1)] 8 12 [(9, 0), (10, 0), (11, 0), (12, 2), (13, 2), (14, 0)] [(8, 2), (9, 0), (10, 0), (11, 0), (13, 2), (14, 0)] mixed rfl (by kernel_rfl) (fun w4 hb4 hh4 => ?_))))))
   have M4 := hM3.drew hb4 hh4
   refine qT rfl rfl rfl (fun _ => aH (.slice _ _ _) rfl) (qT rfl rfl rfl (fun _ => aH (.int _ _) rfl) (yC rfl rfl rfl (bN (i) dF rfl rfl rfl ((R.mem M4).below_len (aG aF hxa)) ((R.mem M4).someK (aG aF hxa))) (yC rfl rfl rfl (dJ _ bK (R.mem M4) (aG aF hxa) rfl) ?_)))
   refine qT rfl rfl rfl (fun _ => aH (.slice _ _ _) rfl) (qT rfl rfl rfl (fun _ => aH (.int _ _) rfl) (yC rfl rfl rfl (bN (k) dF rfl rfl rfl ((R.mem M4).below_len (aG aF hxb)) ((R.mem M4).someK (aG aF hxb))) (yC rfl rfl rfl (dJ _ bK (R.mem M4) (aG aF hxb) rfl) ?_)))
   refine aAi ?_ ?_
   ·refine dS [true, true, true, true] rfl (by kernel_rfl) (bZ aYa rfl rfl (aKd _ xa xb (hb xa (List.mem_of_getElem? hxa)) (hb xb (List.mem_of_getElem? hxb))) ?_)
    rintro v5 w5 ⟨rfl, hb5⟩
    have M5 := M4.callB hb5
    refine aB (aC ⟨dT, ?_⟩)
    refine aX rfl rfl rfl (fun _ => aH (.tuple (List.toArray _)) rfl) (aX rfl rfl rfl (fun _ => bO (.agg (List.toArray _)) rfl rfl) (aX rfl rfl rfl (fun _ => bO (.bool _) rfl rfl) (dS [] rfl (by kernel_rfl) (aV lT M5 rfl rfl (fun b6 w6 M6 => ?_)))))
    refine aB (aC ⟨dT, ?_⟩)
    refine dS [] rfl (by kernel_rfl) (bG 1 _ eL M6 rfl rfl rfl rfl rfl (aT rfl) rfl (fun w7 M7 => ?_))
    refine aB (aC ⟨dT, ?_⟩)
    refine aX rfl rfl rfl (fun _ => aJ (.bool _) rfl) (bY (aC (aE (aA (wq (aH (.bool _) rfl) rfl (aB (aC ?_)))))))
    refine iB _ rfl (fun h34 => ?_) (fun h34 => ?_)
    ·obtain ⟨cc, hcc⟩ := Option.isSome_iff_exists.1 h34
     refine aA (dN rfl rfl (wq (aU 1 eL M7 rfl rfl rfl) rfl (aK 36 (.agg (cG cc).toArray) (congrArg (fun o => Value.agg (aKe o).toArray) hcc) (cU [.agg (List.toArray _)] [cG cc] rfl zN M7 rfl rfl rfl rfl (dE rfl) (by decide) (fun b8 w8 M8 => (dL 0 [cG cc] zN M8 rfl rfl rfl rfl rfl hq rfl (by simp [cG, Go.Bil.one]) (dR.ofMem 2 M8 rfl) (by omega) (fun A9 c9 e9 w9 M9 hR9 => ?_)))))))
     refine eN rfl rfl (aB (cO (aC (aA (aO rfl rfl (wq (aY rfl rfl (by omega) (by omega)) rfl ?_))))))
     refine bC rfl rfl (aB ?_)
     refine cD (k + 1, ⟨A9, q.n + 1, c9, e9⟩) (bA rfl (bA rfl dX)) (cL rfl (cL rfl (cL rfl gO))) ?_ ?_
     ·exact ⟨⟨by omega, by omega, by rw [tN hs hb hxa hxb (by omega), hcc, ← List.append_assoc, List.map_append]; exact hR9⟩, M9.keep [true, false, false]⟩
     ·(show n - (k + 1) < n - k; omega)
    ·have hcc : kI xa xb = none := by simpa using h34
     refine aL (cO (aC (aA (aO rfl rfl (wq (aY rfl rfl (by omega) (by omega)) rfl (bC rfl rfl ?_))))))
     refine aB ?_
     refine cD (k + 1, q) (bA rfl (bA rfl dX)) (cL rfl (cL rfl (cL rfl gO))) ?_ ?_
     ·exact ⟨⟨by omega, by omega, by rw [tN hs hb hxa hxb (by omega), hcc, ← List.append_assoc]; simpa using hq⟩, M7.keep [true, false]⟩
     ·(show n - (k + 1) < n - k; omega)
   ·refine dS [false, false, false, false] rfl (by kernel_rfl) (aV lT M4 rfl rfl (fun b10 w10 M10 => ?_))
    refine aB (aC ⟨(eD (bL rfl (dJ _ bK (R.mem M10) (aG aF hxb) rfl)) (eD (bL rfl (bN (k) dF rfl rfl rfl ((R.mem M10).below_len (aG aF hxb)) ((R.mem M10).someK (aG aF hxb)))) (eD (bL rfl (dJ _ bK (R.mem M10) (aG aF hxa) rfl)) (eD (bL rfl (bN (i) dF rfl rfl rfl ((R.mem M10).below_len (aG aF hxa)) ((R.mem M10).someK (aG aF hxa)))) dT)))), ?_⟩)
    refine dS [true, true, true, true] rfl (by kernel_rfl) (bZ aYa rfl rfl (aKd _ xa xb (hb xa (List.mem_of_getElem? hxa)) (hb xb (List.mem_of_getElem? hxb))) ?_)
    rintro v11 w11 ⟨rfl, hb11⟩
    have M11 := M10.callB hb11
    refine aB (aC ⟨dT, ?_⟩)
    refine aX rfl rfl rfl (fun _ => aH (.tuple (List.toArray _)) rfl) (aX rfl rfl rfl (fun _ => bO (.agg (List.toArray _)) rfl rfl) (aX rfl rfl rfl (fun _ => bO (.bool _) rfl rfl) (dS [] rfl (by kernel_rfl) (bG 1 _ eL M11 rfl rfl rfl rfl rfl (aT rfl) rfl (fun w12 M12 => ?_)))))
    refine aB (aC ⟨dT, ?_⟩)
    refine aX rfl rfl rfl (fun _ => aJ (.bool _) rfl) (bY (aC (aE (aA (wq (aH (.bool _) rfl) rfl (aB (aC ?_)))))))
    refine iB _ rfl (fun h34 => ?_) (fun h34 => ?_)
    ·obtain ⟨cc, hcc⟩ := Option.isSome_iff_exists.1 h34
     refine aA (dN rfl rfl (wq (aU 1 eL M12 rfl rfl rfl) rfl (aK 36 (.agg (cG cc).toArray) (congrArg (fun o => Value.agg (aKe o).toArray) hcc) (cU [.agg (List.toArray _)] [cG cc] rfl zN M12 rfl rfl rfl rfl (dE rfl) (by decide) (fun b13 w13 M13 => (dL 0 [cG cc] zN M13 rfl rfl rfl rfl rfl hq rfl (by simp [cG, Go.Bil.one]) (dR.ofMem 2 M13 rfl) (by omega) (fun A14 c14 e14 w14 M14 hR14 => ?_)))))))
     refine eN rfl rfl (aB (cO (aC (aA (aO rfl rfl (wq (aY rfl rfl (by omega) (by omega)) rfl ?_))))))
     refine bC rfl rfl (aB ?_)
     refine cD (k + 1, ⟨A14, q.n + 1, c14, e14⟩) (bA rfl (bA rfl dX)) (cL rfl (cL rfl (cL rfl gO))) ?_ ?_
     ·exact ⟨⟨by omega, by omega, by rw [tN hs hb hxa hxb (by omega), hcc, ← List.append_assoc, List.map_append]; exact hR14⟩, M14.keep [true, false, false]⟩
     ·(show n - (k + 1) < n - k; omega)
    ·have hcc : kI xa xb = none := by simpa using h34
     refine aL (cO (aC (aA (aO rfl rfl (wq (aY rfl rfl (by omega) (by omega)) rfl (bC rfl rfl ?_))))))
     refine aB ?_
     refine cD (k + 1, q) (bA rfl (bA rfl dX)) (cL rfl (cL rfl (cL rfl gO))) ?_ ?_
     ·exact ⟨⟨by omega, by omega, by rw [tN hs hb hxa hxb (by omega), hcc, ← List.append_assoc]; simpa using hq⟩, M12.keep [true, false]⟩
     ·(show n - (k + 1) < n - k; omega)
  ·have hkn : k = n := by omega
   refine cV (dD (dK (eO (cO (aC (aA ?_))))))
   refine aO rfl rfl (wq (aY rfl rfl (by omega) (by omega)) rfl (bC rfl rfl (aB ?_)))
   refine cD (i + 1, q) (bA rfl (bA rfl dX)) (cL rfl (cL rfl gO)) ?_ ?_
   ·exact ⟨⟨by omega, by rw [aSf, hlen, ← hkn]; exact hq⟩, hM3⟩
   ·(show n - (i + 1) < n - i; omega)
 ·have hin : i = n := by omega
  refine cV (dD (dK (eO (aC (aE (aA (dN rfl rfl ?_)))))))
  refine eN rfl rfl (aB (aC (aP (cE (.slice _ _ _) rfl ?_))))
  exact ⟨r, rfl, by unfold lL nI; rw [hlen, ← hin]; exact hr, hM2⟩
end Go.Proofs.YtlmcphcgiclanaaGreatDoor
