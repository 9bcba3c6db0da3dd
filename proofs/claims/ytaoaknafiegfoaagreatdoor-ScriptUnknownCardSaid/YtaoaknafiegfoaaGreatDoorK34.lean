/- Part of the proof of the laws of this seat: SW, C21a, C21b, R21a, R21b, R21c. No conditions. -/
import Derived.Test.YtaoaknafiegfoaaGreatDoorK2
import Derived.Test.YtaoaknafiegfoaaGreatDoorK5
import Derived.Test.YtaoaknafiegfoaaGreatDoorK22
import Derived.Test.YtaoaknafiegfoaaGreatDoorK33
import Derived.Test.YtaoaknafiegfoaaGreatDoorK32
import Derived.Test.YtaoaknafiegfoaaGreatDoorK6
import Derived.Test.YtaoaknafiegfoaaGreatDoorK24
import Derived.Test.YtaoaknafiegfoaaGreatDoorK13
import Derived.Test.YtaoaknafiegfoaaGreatDoorK17
import Derived.Test.YtaoaknafiegfoaaGreatDoorK11
set_option linter.unusedVariables false
set_option linter.unusedSimpArgs false
set_option linter.unnecessarySimpa false
namespace Go.Proofs.YtaoaknafiegfoaaGreatDoor
open Go.Bil
open Go.RowKit (Below)
open Go.Proofs
set_option maxHeartbeats 4000000 in
theorem aNh (w : World) (b : Nat) (A : Option Addr) (n c : Nat) (p : Option Nat) (er em : dG) (m : List Body) (hs : StoreIs 39 A n c p er em m) (hO : Own [(some b, bc [.slice A n c, .map p] 107), er, em] w) (x : Body) :
  Calls Tryz.prog 61 #[.pointer (some ⟨b, 0, none⟩), (.agg (aF x).toArray)] w (fun ex w' => ∃ v, ex = .returned v ∧ (fun v w' => v = .int .i64 (kN m x).2 ∧ ∃ A' n' c' p' er' em', StoreIs 39 A' n' c' p' er' em' (kN m x).1 ∧ Mem w (bH [(some b, bc [.slice A n c, .map p] 107), er, em]) [(some b, bc [.slice A' n' c', .map p'] 107), er', em'] w') v w') := by
 have hlen : m.length = n := by simpa using hs.row.1
 have hcap := hs.cap
 refine aH #[.tmp 4] 62 Tryz.func61 rfl Tryz.results61 Tryz.ntmps61 rfl ?_
 have M0 := hO.mem
 refine aD (aA (bC (.agg (List.toArray _)) M0 rfl rfl rfl (fun b1 w1 M1 => (bP rfl rfl (aB (aC (aD (aD (aA (wq (aG (.pointer _) rfl) rfl (wq (eQ false Tryz.underlying162 rfl rfl) rfl ?_)))))))))))
 refine aB (aC (cC rfl (aM (aC (aD (aD (aA (wq (bA 3 bR M1 rfl rfl rfl) rfl (bX aJq rfl rfl (rR _ x) ?_)))))))))
 rintro v2 w2 ⟨rfl, hb2⟩
 have M2 := M1.callB hb2
 refine bP rfl rfl (aB (aC (aD (aA (aY rfl rfl (cY rfl rfl rfl rfl (aB (aC ?_))))))))
 refine bE rfl (fun h13 => ?_) (fun h13 => ?_)
 ·refine aD (aA (aY rfl rfl (bP rfl rfl (aB (aC (aN (cJ (cB (.int _ _) rfl ?_))))))))
  have ha : kN m x = (m, check x) := by unfold kN; rw [if_pos h13]
  exact ⟨by rw [ha], A, n, c, p, er, em, by rw [ha]; exact hs, M2.keep [true, true, true, false]⟩
 ·refine aM (aC (aD (aD (bO [(0, 0), (1, 0), (2, 0), (3, 1), (4, 0), (5, 1), (6, 1), (7, 0), (8, 0), (9, 0), (10, 0), (11, 0)] mixed rfl (by kernel_rfl) (fun w3 hb3 hh3 => ?_)))))
  have M3 := M2.drew hb3 hh3
  refine aX rfl rfl rfl (fun _ => aG (.pointer _) rfl) (aX rfl rfl rfl (fun _ => aL rfl) (aX rfl rfl rfl (fun _ => aE 1 iY rfl) (cA rfl rfl rfl (aK 0 (.map _) mN M3 rfl rfl rfl) (aX rfl rfl rfl (fun _ => aE 0 eX rfl) (cA rfl rfl rfl (aK 3 (.int _ _) bY M3 rfl rfl rfl) ?_)))))
  refine cA rfl rfl rfl (iB (enc := (Value.int .i64)) 0 2 pR zv3 M3 rfl hs.map rfl rfl) (aX rfl rfl rfl (fun _ => aG (.tuple (List.toArray _)) rfl) (aX rfl rfl rfl (fun _ => bG (.int _ _) rfl rfl) (aX rfl rfl rfl (fun _ => bG (.bool _) rfl rfl) (qL rfl rfl rfl (aX rfl rfl rfl (fun _ => aI (.bool _) rfl) ?_)))))
  refine cF (aC (aD (aA (wq (aG (.bool _) rfl) rfl (aB (aC ?_))))))
  refine iS _ rfl (fun h25 => ?_) (fun h25 => ?_)
  ·have hf : 0 ≤ cH x.key m := by rw [wZ] at h25; exact of_decide_eq_true h25
   refine aD (aA (bP rfl rfl (aB (aC (aN (cJ (cB (.int _ _) rfl ?_)))))))
   have ha : kN m x = (m, 10) := by unfold kN; rw [if_neg h13, if_pos hf]
   exact ⟨by rw [ha], A, n, c, p, er, em, by rw [ha]; exact hs, M3.keep [true, true, true, false]⟩
  ·have hf : ¬ (0 ≤ cH x.key m) := fun h => by rw [wZ, decide_eq_true h] at h25; simp at h25
   refine aM (aC (aD (aD (aA (wq (aG (.pointer _) rfl) rfl (wq (aL rfl) rfl (wq (aE 0 eT rfl) rfl (wq (aK 0 (.slice _ _ _) fB M3 rfl rfl rfl) rfl (wq (cR Tryz.underlying29 rfl) rfl ?_)))))))))
   refine cY rfl rfl rfl rfl (aB (aC ?_))
   refine bE rfl (fun h31 => ?_) (fun h31 => ?_)
   ·refine aD (aA (bP rfl rfl (aB (aC (aN (cJ (cB (.int _ _) rfl ?_)))))))
    have ha : kN m x = (m, 12) := by unfold kN; rw [if_neg h13, if_neg hf, if_pos (by omega)]
    exact ⟨by rw [ha], A, n, c, p, er, em, by rw [ha]; exact hs, M3.keep [true, true, true, false]⟩
   ·refine aM (aC (aD (aD (aA (wq (aG (.pointer _) rfl) rfl (wq (aL rfl) rfl (wq (aE 1 iY rfl) rfl (wq (aK 0 (.map _) mN M3 rfl rfl rfl) rfl (wq (aKf _ Tryz.underlying101 rfl rfl) rfl ?_)))))))))
    refine aB (aC ?_)
    refine iS _ rfl (fun h36 => ?_) (fun h36 => ?_)
    ·have hpn : p = none := by cases p <;> simp_all
     have hnone : ∀ k, rU m k = (fun _ => none) k := fun k => by subst hpn; rcases hs.map with ⟨_, _, h⟩ | ⟨_, _, h, _⟩; exact h k; cases h
     refine aA (wq (aG (.pointer _) rfl) rfl (jT M3 rfl rfl (fun b4 w4 M4 => ?_)))
     have M5 := M4.replace (i := 2) (Nat.le_of_ble_eq_true rfl)
     refine wq (aL rfl) rfl (wq (aE 1 iY rfl) rfl (dX 0 (.map _) mN M5 rfl rfl rfl rfl rfl rfl (fun w6 M6 => (aB (aC (aD (bO [(0, 0), (1, 0), (2, 0), (3, 1), (4, 0), (5, 1), (6, 0), (7, 0), (8, 0), (9, 1), (10, 0), (11, 2)] mixed rfl (by kernel_rfl) (fun w7 hb7 hh7 => ?_))))))))
     have M7 := M6.drew hb7 hh7
     refine aX rfl rfl rfl (fun _ => aG (.pointer _) rfl) (aX rfl rfl rfl (fun _ => aL rfl) (aX rfl rfl rfl (fun _ => aE 1 iY rfl) (cA rfl rfl rfl (aK 0 (.map _) mN M7 rfl rfl rfl) (aX rfl rfl rfl (fun _ => aE 0 eX rfl) (cA rfl rfl rfl (aK 3 (.int _ _) bY M7 rfl rfl rfl) ?_)))))
     refine aX rfl rfl rfl (fun _ => aG (.pointer _) rfl) (aX rfl rfl rfl (fun _ => aL rfl) (aX rfl rfl rfl (fun _ => aE 0 eT rfl) (cA rfl rfl rfl (aK 0 (.slice _ _ _) fB M7 rfl rfl rfl) (aX rfl rfl rfl (fun _ => cR Tryz.underlying29 rfl) (dL [true, true, true] rfl (by kernel_rfl) ?_)))))
     refine iN (enc := (Value.int .i64)) 2 pR M7 rfl rfl ((iA.empty _ _ b4).congr hnone) rfl rfl rfl rfl (fun e8 w8 hm8 M8 => ?_)
     refine aB (aC ⟨dM, ?_⟩)
     refine cF (aC (aD (bO [(0, 0), (1, 0), (2, 0), (3, 0), (4, 1), (5, 1), (6, 2), (7, 2), (8, 0), (9, 0), (10, 2)] mixed rfl (by kernel_rfl) (fun w9 hb9 hh9 => ?_))))
     have M9 := M8.drew hb9 hh9
     refine aX rfl rfl rfl (fun _ => aG (.pointer _) rfl) (aX rfl rfl rfl (fun _ => aG (.pointer _) rfl) (aX rfl rfl rfl (fun _ => aL rfl) (aX rfl rfl rfl (fun _ => aE 0 eT rfl) (cA rfl rfl rfl (aK 0 (.slice _ _ _) fB M9 rfl rfl rfl) (cA rfl rfl rfl (bA 3 bR M9 rfl rfl rfl) ?_)))))
     refine dL [true, false] rfl (by kernel_rfl) (cV [.agg (List.toArray _)] _ rfl fE M9 rfl rfl rfl rfl (dD rfl) (by decide) (fun b10 w10 M10 => ?_))
     refine aB (aC ⟨(eK (bL rfl (aK 0 (.slice _ _ _) fB M10 rfl rfl rfl)) dM), ?_⟩)
     refine dL [true] rfl (by kernel_rfl) (dZ 1 [aF x] fE M10 rfl rfl rfl rfl rfl hs.row rfl (by simpa using ⟨mM x, mQ x⟩) (cZ.ofMem 4 M10 rfl) (by omega) (fun A11 c11 e11 w11 M11 hR11 => ?_))
     refine aB (aC ⟨dM, ?_⟩)
     refine aX rfl rfl rfl (fun _ => aL rfl) (aX rfl rfl rfl (fun _ => aE 0 eT rfl) (dL [] rfl (by kernel_rfl) (dX 0 (.slice _ _ _) fB M11 rfl rfl rfl rfl rfl rfl (fun w12 M12 => ?_))))
     refine aB (aC ⟨dM, ?_⟩)
     refine cF (aC (aD (aA (bP rfl rfl (aB (aC (aN (cB (.int _ _) rfl ?_))))))))
     have ha : kN m x = (m ++ [x], 0) := by unfold kN; rw [if_neg h13, if_neg hf, if_neg (by omega)]
     have hall := aMr (x := x) ⟨hs.keys, hs.cap, hs.ok⟩
     rw [ha] at hall
     obtain ⟨hk', hc', ho'⟩ := hall
     have hix := aHc hs.keys (x := x) (by omega)
     rw [hlen] at hix
     exact ⟨by rw [ha], _, _, _, _, _, _, by rw [ha]; exact ⟨(by simpa using hR11), (hm8.congr hix), hk', hc', ho'⟩, M12.keep [true, true, true, false, false]⟩
    ·have hps : p.isSome = true := by cases p <;> simp_all
     refine aM (aC (aD (bO [(0, 0), (1, 0), (2, 0), (3, 1), (4, 0), (5, 1), (6, 0), (7, 0), (8, 0), (9, 1), (10, 0), (11, 2)] mixed rfl (by kernel_rfl) (fun w13 hb13 hh13 => ?_))))
     have M13 := M3.drew hb13 hh13
     refine aX rfl rfl rfl (fun _ => aG (.pointer _) rfl) (aX rfl rfl rfl (fun _ => aL rfl) (aX rfl rfl rfl (fun _ => aE 1 iY rfl) (cA rfl rfl rfl (aK 0 (.map _) mN M13 rfl rfl rfl) (aX rfl rfl rfl (fun _ => aE 0 eX rfl) (cA rfl rfl rfl (aK 3 (.int _ _) bY M13 rfl rfl rfl) ?_)))))
     refine aX rfl rfl rfl (fun _ => aG (.pointer _) rfl) (aX rfl rfl rfl (fun _ => aL rfl) (aX rfl rfl rfl (fun _ => aE 0 eT rfl) (cA rfl rfl rfl (aK 0 (.slice _ _ _) fB M13 rfl rfl rfl) (aX rfl rfl rfl (fun _ => cR Tryz.underlying29 rfl) (dL [true, true, true] rfl (by kernel_rfl) ?_)))))
     refine iN (enc := (Value.int .i64)) 2 pR M13 rfl rfl hs.map hps rfl rfl rfl (fun e14 w14 hm14 M14 => ?_)
     refine aB (aC ⟨dM, ?_⟩)
     refine cF (aC (aD (bO [(0, 0), (1, 0), (2, 0), (3, 0), (4, 1), (5, 1), (6, 2), (7, 2), (8, 0), (9, 0), (10, 2)] mixed rfl (by kernel_rfl) (fun w15 hb15 hh15 => ?_))))
     have M15 := M14.drew hb15 hh15
     refine aX rfl rfl rfl (fun _ => aG (.pointer _) rfl) (aX rfl rfl rfl (fun _ => aG (.pointer _) rfl) (aX rfl rfl rfl (fun _ => aL rfl) (aX rfl rfl rfl (fun _ => aE 0 eT rfl) (cA rfl rfl rfl (aK 0 (.slice _ _ _) fB M15 rfl rfl rfl) (cA rfl rfl rfl (bA 3 bR M15 rfl rfl rfl) ?_)))))
     refine dL [true, false] rfl (by kernel_rfl) (cV [.agg (List.toArray _)] _ rfl fE M15 rfl rfl rfl rfl (dD rfl) (by decide) (fun b16 w16 M16 => ?_))
     refine aB (aC ⟨(eK (bL rfl (aK 0 (.slice _ _ _) fB M16 rfl rfl rfl)) dM), ?_⟩)
     refine dL [true] rfl (by kernel_rfl) (dZ 1 [aF x] fE M16 rfl rfl rfl rfl rfl hs.row rfl (by simpa using ⟨mM x, mQ x⟩) (cZ.ofMem 4 M16 rfl) (by omega) (fun A17 c17 e17 w17 M17 hR17 => ?_))
     refine aB (aC ⟨dM, ?_⟩)
     refine aX rfl rfl rfl (fun _ => aL rfl) (aX rfl rfl rfl (fun _ => aE 0 eT rfl) (dL [] rfl (by kernel_rfl) (dX 0 (.slice _ _ _) fB M17 rfl rfl rfl rfl rfl rfl (fun w18 M18 => ?_))))
     refine aB (aC ⟨dM, ?_⟩)
     refine cF (aC (aD (aA (bP rfl rfl (aB (aC (aN (cB (.int _ _) rfl ?_))))))))
     have ha : kN m x = (m ++ [x], 0) := by unfold kN; rw [if_neg h13, if_neg hf, if_neg (by omega)]
     have hall := aMr (x := x) ⟨hs.keys, hs.cap, hs.ok⟩
     rw [ha] at hall
     obtain ⟨hk', hc', ho'⟩ := hall
     have hix := aHc hs.keys (x := x) (by omega)
     rw [hlen] at hix
     exact ⟨by rw [ha], _, _, _, _, _, _, by rw [ha]; exact ⟨(by simpa using hR17), (hm14.congr hix), hk', hc', ho'⟩, M18.keep [true, true, true, false, false]⟩
set_option maxHeartbeats 4000000 in
theorem aXq (w : World) (b : Nat) (A : Option Addr) (n c : Nat) (p : Option Nat) (er em : dG) (m : List Body) (hs : StoreIs 39 A n c p er em m) (hO : Own [(some b, bc [.slice A n c, .map p] 107), er, em] w) (key : Int) :
  Calls Tryz.prog 117 #[.pointer (some ⟨b, 0, none⟩), .int .u32 key] w (fun ex w' => ∃ v, ex = .returned v ∧ (fun v w' => (∃ x, v = .tuple #[.agg (aF x).toArray, .int .i64 (zO m key).2] ∧ x = (zO m key).1) ∧ Mem w (bH [(some b, bc [.slice A n c, .map p] 107), er, em]) [(some b, bc [.slice A n c, .map p] 107), er, em] w') v w') := by
 have hlen : m.length = n := by simpa using hs.row.1
 have hcap := hs.cap
 refine aH #[.cell 4 39, .tmp 5] 30 Tryz.func117 rfl Tryz.results117 Tryz.ntmps117 rfl ?_
 have M0 := hO.mem
 refine aD (aA (aP iD M0 rfl rfl (fun b1 w1 M1 => (bP rfl rfl (aB (aC (aD (aD (aA (wq (aG (.pointer _) rfl) rfl (wq (eQ false Tryz.underlying162 rfl rfl) rfl ?_)))))))))))
 refine aB (aC (cC rfl (aM (aC (aD (aA (wq (aG (.pointer _) rfl) rfl (wq (aL rfl) rfl (wq (aE 1 iY rfl) rfl ?_)))))))))
 refine wq (aK 0 (.map _) mN M1 rfl rfl rfl) rfl (aY rfl rfl (wq (iB (enc := (Value.int .i64)) 0 2 pR zv3 M1 rfl hs.map rfl rfl) rfl (wq (aG (.tuple (List.toArray _)) rfl) rfl (wq (bG (.int _ _) rfl rfl) rfl (wq (bG (.bool _) rfl rfl) rfl ?_)))))
 refine bP rfl rfl (wq (aI (.bool _) rfl) rfl (aB (aC (aD (aD (aA (wq (aG (.bool _) rfl) rfl (wq (gE _ rfl rfl) rfl (aB (aC ?_))))))))))
 refine iS _ rfl (fun h21 => ?_) (fun h21 => ?_)
 ·have hi : rU m key = none := by cases h : rU m key <;> simp_all
  refine aD (aA (wq (cD [] _ aGp rfl rfl) rfl (bB 3 _ bR M1 rfl rfl rfl rfl rfl (aQ rfl) rfl (fun w2 M2 => (bP rfl rfl (aB (aC (aN (cJ (aBk (v2 := .int _ _) 3 bR M2 rfl rfl rfl rfl ?_))))))))))
  exact ⟨⟨⟨0, 0, 0, 0, 0, 0, 0, 0, 0, 0⟩, by rw [aBn hi]; rfl, by rw [aBn hi]⟩, M2.keep [true, true, true, false]⟩
 ·rcases jP key m with ⟨hi, _⟩ | ⟨i, bi, hbi, hbk, hi⟩
  ·simp [hi] at h21
  refine aM (aC (aD (aA (wq (aG (.pointer _) rfl) rfl (wq (aL rfl) rfl (wq (aE 0 eT rfl) rfl (wq (aK 0 (.slice _ _ _) fB M1 rfl rfl rfl) rfl (aY rfl rfl ?_))))))))
  refine wq (bV (i) fE rfl rfl (by rw [hi]; rfl) ((hs.row.rd M1 (aV (i := 1) rfl)).below_len (aJ aF hbi)) ((hs.row.rd M1 (aV (i := 1) rfl)).someK (aJ aF hbi))) rfl (wq (eB _ bR (hs.row.rd M1 (aV (i := 1) rfl)) (aJ aF hbi) rfl) rfl (bB 3 _ bR M1 rfl rfl rfl rfl rfl (aQ rfl) rfl (fun w3 M3 => ?_)))
  refine bP rfl rfl (aB (aC (aN (aBk (v2 := .int _ _) 3 bR M3 rfl rfl rfl rfl ?_))))
  exact ⟨⟨bi, by rw [tV hi hbi], by rw [tV hi hbi]⟩, M3.keep [true, true, true, false]⟩
set_option maxHeartbeats 4000000 in
theorem bAg (w : World) (b : Nat) (A : Option Addr) (n c : Nat) (p : Option Nat) (er em : dG) (m : List Body) (hs : StoreIs 39 A n c p er em m) (hO : Own [(some b, bc [.slice A n c, .map p] 107), er, em] w) (x : Body) :
  Calls Tryz.prog 125 #[.pointer (some ⟨b, 0, none⟩), (.agg (aF x).toArray)] w (fun ex w' => ∃ v, ex = .returned v ∧ (fun v w' => v = .int .i64 (rF m x).2 ∧ ∃ A' n' c' p' er' em', StoreIs 39 A' n' c' p' er' em' (rF m x).1 ∧ Mem w (bH [(some b, bc [.slice A n c, .map p] 107), er, em]) [(some b, bc [.slice A' n' c', .map p'] 107), er', em'] w') v w') := by
 have hlen : m.length = n := by simpa using hs.row.1
 have hcap := hs.cap
 refine aH #[.tmp 4] 34 Tryz.func125 rfl Tryz.results125 Tryz.ntmps125 rfl ?_
 have M0 := hO.mem
 refine aD (aA (bC (.agg (List.toArray _)) M0 rfl rfl rfl (fun b1 w1 M1 => (bP rfl rfl (aB (aC (aD (aD (aA (wq (aG (.pointer _) rfl) rfl (wq (eQ false Tryz.underlying162 rfl rfl) rfl ?_)))))))))))
 refine aB (aC (cC rfl (aM (aC (aD (aD (aA (wq (bA 3 bR M1 rfl rfl rfl) rfl (bX aJq rfl rfl (rR _ x) ?_)))))))))
 rintro v2 w2 ⟨rfl, hb2⟩
 have M2 := M1.callB hb2
 refine bP rfl rfl (aB (aC (aD (aA (aY rfl rfl (cY rfl rfl rfl rfl (aB (aC ?_))))))))
 refine bE rfl (fun h13 => ?_) (fun h13 => ?_)
 ·refine aD (aA (aY rfl rfl (bP rfl rfl (aB (aC (aN (cJ (cB (.int _ _) rfl ?_))))))))
  have ha : rF m x = (m, check x) := by unfold rF; rw [if_pos h13]
  exact ⟨by rw [ha], A, n, c, p, er, em, by rw [ha]; exact hs, M2.keep [true, true, true, false]⟩
 ·refine aM (aC (aD (bO [(0, 0), (1, 0), (2, 0), (3, 1), (4, 0), (5, 1), (6, 1), (7, 0), (8, 0), (9, 0), (10, 0), (11, 0)] mixed rfl (by kernel_rfl) (fun w3 hb3 hh3 => ?_))))
  have M3 := M2.drew hb3 hh3
  refine aX rfl rfl rfl (fun _ => aG (.pointer _) rfl) (aX rfl rfl rfl (fun _ => aL rfl) (aX rfl rfl rfl (fun _ => aE 1 iY rfl) (cA rfl rfl rfl (aK 0 (.map _) mN M3 rfl rfl rfl) (aX rfl rfl rfl (fun _ => aE 0 eX rfl) (cA rfl rfl rfl (aK 3 (.int _ _) bY M3 rfl rfl rfl) ?_)))))
  refine cA rfl rfl rfl (iB (enc := (Value.int .i64)) 0 2 pR zv3 M3 rfl hs.map rfl rfl) (aX rfl rfl rfl (fun _ => aG (.tuple (List.toArray _)) rfl) (aX rfl rfl rfl (fun _ => bG (.int _ _) rfl rfl) (aX rfl rfl rfl (fun _ => bG (.bool _) rfl rfl) (qL rfl rfl rfl (aX rfl rfl rfl (fun _ => aI (.bool _) rfl) ?_)))))
  refine cF (aC (aD (aD (aA (wq (aG (.bool _) rfl) rfl (wq (gE _ rfl rfl) rfl (aB (aC ?_))))))))
  refine iS _ rfl (fun h26 => ?_) (fun h26 => ?_)
  ·have hi : rU m x.key = none := by cases h : rU m x.key <;> simp_all
   refine aD (aA (bP rfl rfl (aB (aC (aN (cJ (cB (.int _ _) rfl ?_)))))))
   have ha : rF m x = (m, 11) := by unfold rF; rw [if_neg h13, if_pos (by rw [iJ, hi]; decide)]
   exact ⟨by rw [ha], A, n, c, p, er, em, by rw [ha]; exact hs, M3.keep [true, true, true, false]⟩
  ·rcases jP x.key m with ⟨hi, _⟩ | ⟨i, bi, hbi, hbk, hi⟩
   ·simp [hi] at h26
   refine aM (aC (aD (bO [(0, 0), (1, 0), (2, 0), (3, 1), (4, 0), (5, 1), (6, 1), (7, 2)] mixed rfl (by kernel_rfl) (fun w4 hb4 hh4 => ?_))))
   have M4 := M3.drew hb4 hh4
   refine aX rfl rfl rfl (fun _ => aG (.pointer _) rfl) (aX rfl rfl rfl (fun _ => aL rfl) (aX rfl rfl rfl (fun _ => aE 0 eT rfl) (cA rfl rfl rfl (aK 0 (.slice _ _ _) fB M4 rfl rfl rfl) (iG rfl rfl rfl (cA rfl rfl rfl (bA 3 bR M4 rfl rfl rfl) ?_)))))
   refine cA rfl rfl rfl (bV (i) fE rfl rfl (by rw [hi]; rfl) ((hs.row.rd M4 (aV (i := 1) rfl)).below_len (aJ aF hbi)) ((hs.row.rd M4 (aV (i := 1) rfl)).someK (aJ aF hbi))) (dL [true, true, true] rfl (by kernel_rfl) (aEs 1 _ bR M4 rfl hs.row (aJ aF hbi) rfl rfl rfl rfl (aQ rfl) (fun e5 w5 hR5 M5 => ?_)))
   have hQ5 := hR5.mapSet (f := aF) (x := x) rfl
   refine aB (aC ⟨dM, ?_⟩)
   refine cF (aC (aD (aA (bP rfl rfl (aB (aC (aN (cB (.int _ _) rfl ?_))))))))
   have ha : rF m x = (m.set i x, 0) := by unfold rF; rw [if_neg h13, iJ, hi]; simp only []; rw [if_neg (by omega), Int.toNat_natCast]
   exact ⟨by rw [ha], _, _, _, _, _, _, by rw [ha]; exact hs.put hbi hbk.symm (by omega) hQ5, M5.keep [true, true, true, false]⟩
set_option maxHeartbeats 4000000 in
theorem aLk (w : World) (b : Nat) (A : Option Addr) (n c : Nat) (p : Option Nat) (er em : dG) (m : List Body) (hs : StoreIs 39 A n c p er em m) (hO : Own [(some b, bc [.slice A n c, .map p] 107), er, em] w) (key : Int) :
  Calls Tryz.prog 122 #[.pointer (some ⟨b, 0, none⟩), .int .u32 key] w (fun ex w' => ∃ v, ex = .returned v ∧ (fun v w' => v = .int .i64 (iZ m key).2 ∧ ∃ A' n' c' p' er' em', StoreIs 39 A' n' c' p' er' em' (iZ m key).1 ∧ Mem w (bH [(some b, bc [.slice A n c, .map p] 107), er, em]) [(some b, bc [.slice A' n' c', .map p'] 107), er', em'] w') v w') := by
 have hlen : m.length = n := by simpa using hs.row.1
 have hcap := hs.cap
 refine aH #[.tmp 4] 67 Tryz.func122 rfl Tryz.results122 Tryz.ntmps122 rfl ?_
 have M0 := hO.mem
 refine aD (aA (bP rfl rfl (aB (aC (aD (aD (aA (wq (aG (.pointer _) rfl) rfl (wq (eQ false Tryz.underlying162 rfl rfl) rfl (aB (aC ?_)))))))))))
 refine cC rfl (aM (aC (aD (aA (wq (aG (.pointer _) rfl) rfl (wq (aL rfl) rfl (wq (aE 1 iY rfl) rfl (wq (aK 0 (.map _) mN M0 rfl rfl rfl) rfl ?_))))))))
 refine aY rfl rfl (wq (iB (enc := (Value.int .i64)) 0 2 pR zv3 M0 rfl hs.map rfl rfl) rfl (wq (aG (.tuple (List.toArray _)) rfl) rfl (wq (bG (.int _ _) rfl rfl) rfl (wq (bG (.bool _) rfl rfl) rfl (bP rfl rfl ?_)))))
 refine wq (aI (.bool _) rfl) rfl (aB (aC (aD (aD (aA (wq (aG (.bool _) rfl) rfl (wq (gE _ rfl rfl) rfl (aB (aC ?_)))))))))
 refine iS _ rfl (fun h20 => ?_) (fun h20 => ?_)
 ·have hi : rU m key = none := by cases h : rU m key <;> simp_all
  refine aD (aA (bP rfl rfl (aB (aC (aN (cJ (cB (.int _ _) rfl ?_)))))))
  have ha : iZ m key = (m, 11) := by unfold iZ; rw [if_pos (by rw [iJ, hi]; decide)]
  exact ⟨by rw [ha], A, n, c, p, er, em, by rw [ha]; exact hs, M0.keep [true, true, true]⟩
 ·rcases jP key m with ⟨hi, _⟩ | ⟨i, bi, hbi, hbk, hi⟩
  ·simp [hi] at h20
  have hilt : i < m.length := (List.getElem?_eq_some_iff.1 hbi).1
  obtain ⟨bl, hbl⟩ := cL (xs := m) (k := n - 1) rfl (by omega)
  have hps : p.isSome = true := hs.map.isSome hi
  refine aM (aC (aD (aA (wq (aG (.pointer _) rfl) rfl (wq (aL rfl) rfl (wq (aE 0 eT rfl) rfl (wq (aK 0 (.slice _ _ _) fB M0 rfl rfl rfl) rfl (wq (cR Tryz.underlying29 rfl) rfl ?_))))))))
  refine wq (nE rfl rfl (by omega) (by omega)) rfl (bP rfl rfl (aB (aC (aD (bO [(0, 0), (1, 0), (2, 0), (3, 1), (4, 0), (5, 0), (6, 0), (7, 0), (8, 1), (9, 0), (10, 1), (11, 1), (12, 1), (13, 2)] mixed rfl (by kernel_rfl) (fun w1 hb1 hh1 => ?_))))))
  have M1 := M0.drew hb1 hh1
  refine aX rfl rfl rfl (fun _ => aG (.pointer _) rfl) (aX rfl rfl rfl (fun _ => aL rfl) (aX rfl rfl rfl (fun _ => aE 0 eT rfl) (cA rfl rfl rfl (aK 0 (.slice _ _ _) fB M1 rfl rfl rfl) (iG rfl rfl rfl (aX rfl rfl rfl (fun _ => aG (.pointer _) rfl) ?_)))))
  refine aX rfl rfl rfl (fun _ => aL rfl) (aX rfl rfl rfl (fun _ => aE 0 eT rfl) (cA rfl rfl rfl (aK 0 (.slice _ _ _) fB M1 rfl rfl rfl) (iG rfl rfl rfl (cA rfl rfl rfl (bV (n - 1) fE rfl rfl (by omega) ((hs.row.rd M1 (aV (i := 1) rfl)).below_len (aJ aF hbl)) ((hs.row.rd M1 (aV (i := 1) rfl)).someK (aJ aF hbl))) ?_))))
  refine cA rfl rfl rfl (eB _ bR (hs.row.rd M1 (aV (i := 1) rfl)) (aJ aF hbl) rfl) (cA rfl rfl rfl (bV (i) fE rfl rfl (by rw [hi]; rfl) ((hs.row.rd M1 (aV (i := 1) rfl)).below_len (aJ aF hbi)) ((hs.row.rd M1 (aV (i := 1) rfl)).someK (aJ aF hbi))) (dL [true, true, true, true, true] rfl (by kernel_rfl) ?_))
  refine aEs 1 _ bR M1 rfl hs.row (aJ aF hbi) rfl rfl rfl rfl (aQ rfl) (fun e2 w2 hR2 M2 => ?_)
  have hQ2 := hR2.mapSet (f := aF) (x := bl) rfl
  refine aB (aC ⟨dM, ?_⟩)
  refine cF (aC (aD (bO [(0, 0), (1, 0), (2, 0), (3, 1), (4, 0), (5, 0), (6, 0), (7, 1), (8, 0), (9, 1), (10, 1), (11, 1), (12, 0), (13, 2)] mixed rfl (by kernel_rfl) (fun w3 hb3 hh3 => ?_))))
  have M3 := M2.drew hb3 hh3
  refine aX rfl rfl rfl (fun _ => aG (.pointer _) rfl) (aX rfl rfl rfl (fun _ => aL rfl) (aX rfl rfl rfl (fun _ => aE 1 iY rfl) (cA rfl rfl rfl (aK 0 (.map _) mN M3 rfl rfl rfl) (aX rfl rfl rfl (fun _ => aG (.pointer _) rfl) (aX rfl rfl rfl (fun _ => aL rfl) ?_)))))
  refine aX rfl rfl rfl (fun _ => aE 0 eT rfl) (cA rfl rfl rfl (aK 0 (.slice _ _ _) fB M3 rfl rfl rfl) (iG rfl rfl rfl ?_))
  refine cA rfl rfl rfl (bV (i) fE rfl rfl (by rw [hi]; rfl) ((hQ2.rd M3 (aV (i := 1) rfl)).below_len (aJ aF (by rw [List.getElem?_set_self hilt] : (m.set i bl)[i]? = some bl))) ((hQ2.rd M3 (aV (i := 1) rfl)).someK (aJ aF (by rw [List.getElem?_set_self hilt] : (m.set i bl)[i]? = some bl)))) ?_
  refine cA rfl rfl rfl (bN 0 eX (hQ2.rd M3 (aV (i := 1) rfl)) (Nat.lt_of_le_of_lt (Nat.zero_le _) ((hQ2.rd M3 (aV (i := 1) rfl)).below_len (aJ aF (by rw [List.getElem?_set_self hilt] : (m.set i bl)[i]? = some bl)))) rfl) ?_
  refine cA rfl rfl rfl (eI (o := 0) (.int _ _) bY (hQ2.rd M3 (aV (i := 1) rfl)) (aJ aF (by rw [List.getElem?_set_self hilt] : (m.set i bl)[i]? = some bl)) rfl rfl) ?_
  refine iG rfl rfl rfl (dL [true, true, true, true, true] rfl (by kernel_rfl) (iN (enc := (Value.int .i64)) 2 pR M3 rfl rfl hs.map hps rfl rfl rfl (fun e4 w4 hm4 M4 => ?_)))
  refine aB (aC ⟨dM, ?_⟩)
  refine cF (aC (aD (aA (wq (aG (.pointer _) rfl) rfl (wq (aG (.pointer _) rfl) rfl (wq (aL rfl) rfl (wq (aE 0 eT rfl) rfl ?_)))))))
  refine wq (aK 0 (.slice _ _ _) fB M4 rfl rfl rfl) rfl (aY rfl rfl (wq (fS (0) (((n : Int) - 1)) fE rfl rfl ⟨_, rfl⟩ (by decide) (by omega) (by have := hs.row.slice; omega)) rfl (wq (aL rfl) rfl (wq (aE 0 eT rfl) rfl (dX 0 (.slice _ _ _) fB M4 rfl rfl rfl rfl rfl rfl (fun w5 M5 => ?_))))))
  refine aB (aC (aD (aA (wq (aG (.pointer _) rfl) rfl (wq (aL rfl) rfl (wq (aE 1 iY rfl) rfl (wq (aK 0 (.map _) mN M5 rfl rfl rfl) rfl (aY rfl rfl ?_))))))))
  refine aNs (enc := (Value.int .i64)) 2 pR M5 rfl rfl hm4 hps rfl rfl (fun e6 w6 hm6 M6 => (aB (aC (aD (aA (bP rfl rfl (aB (aC (aN (cB (.int _ _) rfl ?_))))))))))
  have ha : iZ m key = (uQ m i, 0) := by unfold iZ; rw [iJ, hi]; simp only []; rw [if_neg (by omega), Int.toNat_natCast]
  have hn1 : ((n : Int) - 1).toNat = n - 1 := by omega
  exact ⟨by rw [ha], _, _, _, _, _, _, by rw [ha]; exact hs.cut hbi hbk (by rw [hlen]; exact hbl) (by rw [hi]; rfl) (by omega) hQ2 hm6, M6.keep [true, true, true]⟩
set_option maxHeartbeats 4000000 in
theorem aLh (w : World) (b : Nat) (A : Option Addr) (n c : Nat) (p : Option Nat) (er em : dG) (m : List Body) (hs : StoreIs 39 A n c p er em m) (hO : Own [(some b, bc [.slice A n c, .map p] 107), er, em] w) :
  Calls Tryz.prog 68 #[.pointer (some ⟨b, 0, none⟩)] w (fun ex w' => ∃ v, ex = .returned v ∧ (fun v w' => ∃ A' n' c' e', v = .slice A' n' c' ∧ aU 39 10 A' n' c' ((vJ m).map aF) e' ∧ Mem w (bH [(some b, bc [.slice A n c, .map p] 107), er, em]) [(some b, bc [.slice A n c, .map p] 107), er, em, e'] w') v w') := by
 have hlen : m.length = n := by simpa using hs.row.1
 have hcap := hs.cap
 refine aH #[.tmp 2] 14 Tryz.func68 rfl Tryz.results68 Tryz.ntmps68 rfl ?_
 have M0 := hO.mem
 refine aD (aA (fL rfl rfl (aB (aC (aD (aD (aA (wq (aG (.pointer _) rfl) rfl (wq (eQ false Tryz.underlying162 rfl rfl) rfl (aB (aC ?_)))))))))))
 refine cC rfl (aM (aC (aD (aA (wq (aG (.pointer _) rfl) rfl (wq (aL rfl) rfl (wq (aE 0 eT rfl) rfl (wq (aK 0 (.slice _ _ _) fB M0 rfl rfl rfl) rfl ?_))))))))
 refine bX bHh rfl rfl (aAu _ _ _ _ _ (hs.row.rd M0 (aV (i := 1) rfl)) (aKz m) (by omega)) ?_
 rintro v1 w1 ⟨A1, n1, c1, e1, rfl, hR1, hM1, _⟩
 have M1 : Mem _ _ [_, _, _, _] _ := M0.call0 hM1
 have hn1 : n1 = m.length := by simpa using hR1.1.symm
 refine fL rfl rfl (aB (aC (aD (aA (eC rfl rfl (bX bFt rfl rfl (vW 115 bEk wE _ _ _ _ m _ hR1 (M1.ownAt (i := 3) rfl) (by omega)) ?_))))))
 rintro v2 w2 ⟨rfl, ys2, e2, hp2, hu2, hR2, hM2⟩
 have M2 : Mem _ _ [_, _, _, _] _ := M1.seg 3 1 hM2
 have hys : ys2 = vJ m := aQi hu2 (zS m) (hp2.trans (lL m).symm) (hs.keys.perm hp2)
 rw [hys] at hR2
 refine aB (aC (aD (aA (eC rfl rfl (fL rfl rfl (aB (aC (aN (cB (.slice _ _ _) rfl ?_)))))))))
 exact ⟨_, _, _, _, rfl, hR2, M2⟩
theorem iH {x : Int} (h : 0 ≤ x ∧ x ≤ 4294967295) : IntKind.wrap .i32 x = nO x := by
 unfold nO
 simp [IntKind.wrap, IntKind.bits, IntKind.signed]
 split <;> split <;> omega
set_option maxHeartbeats 4000000 in
theorem aBi (w : World) (r : Row) (xs : List Int) (hr : aU 5 1 r.A r.n r.c ((xs).map bK) r.e) (n : Int) (hn : 0 ≤ n ∧ n ≤ 4294967295) (hl : r.n ≤ 1048576) (hO : Own [r.e] w) :
  Calls Tryz.prog 100 #[.slice r.A r.n r.c, .int .u32 n] w (fun ex w' => ∃ v, ex = .returned v ∧ (fun v w' => ∃ q : Row, v = .slice q.A q.n q.c ∧ q.n = r.n + 4 ∧ aU 5 1 q.A q.n q.c ((xs ++ iP n).map bK) q.e ∧ Mem w (bH [r.e]) [q.e] w') v w') := by
 refine aH #[.tmp 4] 19 Tryz.func100 rfl Tryz.results100 Tryz.ntmps100 rfl ?_
 have M0 := hO.mem
 refine aD (aA (fL rfl rfl (aB (aC (aD (aA (eC rfl rfl (aY rfl rfl (wq (gL rfl rfl (by decide)) rfl ?_)))))))))
 refine aS 7 (.int .u32 (n / 16777216)) (iE (aYs n)) (wq (dR rI Tryz.underlying5 rfl) rfl (aS 8 (.int .u8 (n / 16777216 % 256)) (iE (wr8 _)) (aY rfl rfl (wq (gL rfl rfl (by decide)) rfl (aS 10 (.int .u32 (n / 65536)) (iE (aYg n)) ?_)))))
 refine wq (dR rI Tryz.underlying5 rfl) rfl (aS 11 (.int .u8 (n / 65536 % 256)) (iE (wr8 _)) (aY rfl rfl (wq (gL rfl rfl (by decide)) rfl (aS 13 (.int .u32 (n / 256)) (iE (bBu n)) (wq (dR rI Tryz.underlying5 rfl) rfl ?_)))))
 refine aS 14 (.int .u8 (n / 256 % 256)) (iE (wr8 _)) (aY rfl rfl (wq (dR rI Tryz.underlying5 rfl) rfl (aS 16 (.int .u8 (n % 256)) (iE (wr8 _)) (cV [.int _ _, .int _ _, .int _ _, .int _ _] ((iP n).map bK) rfl lW M0 rfl rfl rfl rfl (dD rfl) (by decide) (fun b1 w1 M1 => (dZ 0 ((iP n).map bK) lW M1 rfl rfl rfl rfl rfl hr rfl (by simp [iP, bK, Go.Bil.one]) (cZ.ofMem 1 M1 rfl) (by omega) (fun A2 c2 e2 w2 M2 hR2 => ?_)))))))
 refine fL rfl rfl (aB (aC (aN (cB (.slice _ _ _) rfl ?_))))
 exact ⟨⟨A2, _, c2, e2⟩, rfl, rfl, by rw [List.map_append]; exact hR2, M2.keep [true, false]⟩
set_option maxHeartbeats 4000000 in
theorem fK (w : World) (x : Int) :
  Calls Tryz.prog 136 #[.int .i32 x] w (fun ex w' => ∃ v, ex = .returned v ∧ (fun v w' => v = .int .u32 (x % 4294967296) ∧ Below w.heap.size w w') v w') := by
 refine aH #[.tmp 2] 5 Tryz.func136 rfl Tryz.results136 Tryz.ntmps136 rfl ?_
 have M0 := Mem.refl w
 refine aD (aA (bP rfl rfl (aB (aC (aD (aA (aY rfl rfl (wq (dR fR Tryz.underlying35 rfl) rfl (aS 4 (.int .u32 (x % 4294967296)) (iE (aSk _)) ?_)))))))))
 refine bP rfl rfl (aB (aC (aN (cB (.int _ _) rfl ?_))))
 exact ⟨rfl, M0.below⟩
set_option maxHeartbeats 4000000 in
theorem aIu (w : World) (b : Body) :
  Calls Tryz.prog 101 #[(.agg (aF b).toArray)] w (fun ex w' => ∃ v, ex = .returned v ∧ (fun v w' => v = .agg ((uZ b).map (Value.int .u32)).toArray ∧ Below w.heap.size w w') v w') := by
 refine aH #[.cell 2 139] 49 Tryz.func101 rfl Tryz.results101 Tryz.ntmps101 rfl ?_
 have M0 := Mem.refl w
 refine aD (aA (bC (.agg (List.toArray _)) M0 rfl rfl rfl (fun b1 w1 M1 => (aP aCy M1 rfl rfl (fun b2 w2 M2 => (aB (aC (aD (aA (wq (aI (.func _ _ _) rfl) rfl (aB (aC (aD ?_)))))))))))))
 refine bO [(0, 0), (1, 1), (2, 0), (3, 0), (4, 1), (6, 0), (7, 0), (8, 0), (9, 1), (11, 0), (12, 0), (13, 0), (14, 1), (16, 0), (17, 0), (18, 1), (20, 0), (21, 0), (22, 1), (24, 0), (25, 0), (26, 0), (27, 1), (29, 0), (30, 0), (31, 0), (32, 1), (34, 0), (35, 0), (36, 0), (37, 1), (39, 0), (40, 0), (41, 0), (42, 1), (5, 2), (10, 2), (15, 2), (19, 2), (23, 2), (28, 2), (33, 2), (38, 2), (43, 2), (44, 0), (45, 2)] mixed rfl (by kernel_rfl) (fun w3 hb3 hh3 => ?_)
 have M3 := M2.drew hb3 hh3
 refine aX rfl rfl rfl (fun _ => aE 0 eX rfl) (cA rfl rfl rfl (aK 0 (.int _ _) bY M3 rfl rfl rfl) (aX rfl rfl rfl (fun _ => aG (.func _ _ _) rfl) (aX rfl rfl rfl (fun _ => aE 1 nQ rfl) (cA rfl rfl rfl (aK 0 (.int _ _) aW M3 rfl rfl rfl) (aX rfl rfl rfl (fun _ => aG (.func _ _ _) rfl) ?_)))))
 refine aX rfl rfl rfl (fun _ => aE 2 kW rfl) (aX rfl rfl rfl (fun _ => aE 0 dT rfl) (cA rfl rfl rfl (aK 0 (.int _ _) aW M3 rfl rfl rfl) (aX rfl rfl rfl (fun _ => aG (.func _ _ _) rfl) (aX rfl rfl rfl (fun _ => aE 2 kW rfl) (aX rfl rfl rfl (fun _ => aE 1 dN rfl) ?_)))))
 refine cA rfl rfl rfl (aK 0 (.int _ _) aW M3 rfl rfl rfl) (aX rfl rfl rfl (fun _ => aG (.func _ _ _) rfl) (aX rfl rfl rfl (fun _ => aE 4 fG rfl) (cA rfl rfl rfl (aK 0 (.int _ _) aW M3 rfl rfl rfl) (aX rfl rfl rfl (fun _ => aG (.func _ _ _) rfl) (aX rfl rfl rfl (fun _ => aE 5 sV rfl) ?_)))))
 refine cA rfl rfl rfl (aK 0 (.int _ _) aW M3 rfl rfl rfl) (aX rfl rfl rfl (fun _ => aG (.func _ _ _) rfl) (aX rfl rfl rfl (fun _ => aE 6 gQ rfl) (aX rfl rfl rfl (fun _ => aE 0 dT rfl) (cA rfl rfl rfl (aK 0 (.int _ _) aW M3 rfl rfl rfl) (aX rfl rfl rfl (fun _ => aG (.func _ _ _) rfl) ?_)))))
 refine aX rfl rfl rfl (fun _ => aE 6 gQ rfl) (aX rfl rfl rfl (fun _ => aE 1 dN rfl) (cA rfl rfl rfl (aK 0 (.int _ _) aW M3 rfl rfl rfl) (aX rfl rfl rfl (fun _ => aG (.func _ _ _) rfl) (aX rfl rfl rfl (fun _ => aE 8 fM rfl) (aX rfl rfl rfl (fun _ => aE 0 dT rfl) ?_)))))
 refine cA rfl rfl rfl (aK 0 (.int _ _) aW M3 rfl rfl rfl) (aX rfl rfl rfl (fun _ => aG (.func _ _ _) rfl) (aX rfl rfl rfl (fun _ => aE 8 fM rfl) (aX rfl rfl rfl (fun _ => aE 1 dN rfl) (cA rfl rfl rfl (aK 0 (.int _ _) aW M3 rfl rfl rfl) (dL [false, false, false, false, false, false, false, false, true, false] rfl (by kernel_rfl) ?_)))))
 refine bX oB rfl rfl (fK _ b.radius) ?_
 rintro v4 w4 ⟨rfl, hb4⟩
 have M4 := M3.callB hb4
 refine aB (aC ⟨(eK (bL rfl (aK 0 (.int _ _) aW M4 rfl rfl rfl)) (eK (bL rfl (aK 0 (.int _ _) aW M4 rfl rfl rfl)) (eK (bL rfl (aK 0 (.int _ _) aW M4 rfl rfl rfl)) (eK (bL rfl (aK 0 (.int _ _) aW M4 rfl rfl rfl)) (eK (bL rfl (aK 0 (.int _ _) aW M4 rfl rfl rfl)) (eK (bL rfl (aK 0 (.int _ _) aW M4 rfl rfl rfl)) (eK (bL rfl (aK 0 (.int _ _) aW M4 rfl rfl rfl)) (eK (bL rfl (aK 0 (.int _ _) aW M4 rfl rfl rfl)) (eK (bL rfl (aK 0 (.int _ _) bY M4 rfl rfl rfl)) dM))))))))), ?_⟩)
 refine dL [false, false, false, false, false, false, false, true, false] rfl (by kernel_rfl) (bX oB rfl rfl (fK _ b.ax) ?_)
 rintro v5 w5 ⟨rfl, hb5⟩
 have M5 := M4.callB hb5
 refine aB (aC ⟨(eK (bL rfl (aK 0 (.int _ _) aW M5 rfl rfl rfl)) (eK (bL rfl (aK 0 (.int _ _) aW M5 rfl rfl rfl)) (eK (bL rfl (aK 0 (.int _ _) aW M5 rfl rfl rfl)) (eK (bL rfl (aK 0 (.int _ _) aW M5 rfl rfl rfl)) (eK (bL rfl (aK 0 (.int _ _) aW M5 rfl rfl rfl)) (eK (bL rfl (aK 0 (.int _ _) aW M5 rfl rfl rfl)) (eK (bL rfl (aK 0 (.int _ _) aW M5 rfl rfl rfl)) (eK (bL rfl (aK 0 (.int _ _) bY M5 rfl rfl rfl)) dM)))))))), ?_⟩)
 refine dL [false, false, false, false, false, false, true, false] rfl (by kernel_rfl) (bX oB rfl rfl (fK _ b.ay) ?_)
 rintro v6 w6 ⟨rfl, hb6⟩
 have M6 := M5.callB hb6
 refine aB (aC ⟨(eK (bL rfl (aK 0 (.int _ _) aW M6 rfl rfl rfl)) (eK (bL rfl (aK 0 (.int _ _) aW M6 rfl rfl rfl)) (eK (bL rfl (aK 0 (.int _ _) aW M6 rfl rfl rfl)) (eK (bL rfl (aK 0 (.int _ _) aW M6 rfl rfl rfl)) (eK (bL rfl (aK 0 (.int _ _) aW M6 rfl rfl rfl)) (eK (bL rfl (aK 0 (.int _ _) aW M6 rfl rfl rfl)) (eK (bL rfl (aK 0 (.int _ _) bY M6 rfl rfl rfl)) dM))))))), ?_⟩)
 refine dL [false, false, false, false, false, true, false] rfl (by kernel_rfl) (bX oB rfl rfl (fK _ b.mass) ?_)
 rintro v7 w7 ⟨rfl, hb7⟩
 have M7 := M6.callB hb7
 refine aB (aC ⟨(eK (bL rfl (aK 0 (.int _ _) aW M7 rfl rfl rfl)) (eK (bL rfl (aK 0 (.int _ _) aW M7 rfl rfl rfl)) (eK (bL rfl (aK 0 (.int _ _) aW M7 rfl rfl rfl)) (eK (bL rfl (aK 0 (.int _ _) aW M7 rfl rfl rfl)) (eK (bL rfl (aK 0 (.int _ _) aW M7 rfl rfl rfl)) (eK (bL rfl (aK 0 (.int _ _) bY M7 rfl rfl rfl)) dM)))))), ?_⟩)
 refine dL [false, false, false, false, true, false] rfl (by kernel_rfl) (bX oB rfl rfl (fK _ b.bounce) ?_)
 rintro v8 w8 ⟨rfl, hb8⟩
 have M8 := M7.callB hb8
 refine aB (aC ⟨(eK (bL rfl (aK 0 (.int _ _) aW M8 rfl rfl rfl)) (eK (bL rfl (aK 0 (.int _ _) aW M8 rfl rfl rfl)) (eK (bL rfl (aK 0 (.int _ _) aW M8 rfl rfl rfl)) (eK (bL rfl (aK 0 (.int _ _) aW M8 rfl rfl rfl)) (eK (bL rfl (aK 0 (.int _ _) bY M8 rfl rfl rfl)) dM))))), ?_⟩)
 refine dL [false, false, false, true, false] rfl (by kernel_rfl) (bX oB rfl rfl (fK _ b.px) ?_)
 rintro v9 w9 ⟨rfl, hb9⟩
 have M9 := M8.callB hb9
 refine aB (aC ⟨(eK (bL rfl (aK 0 (.int _ _) aW M9 rfl rfl rfl)) (eK (bL rfl (aK 0 (.int _ _) aW M9 rfl rfl rfl)) (eK (bL rfl (aK 0 (.int _ _) aW M9 rfl rfl rfl)) (eK (bL rfl (aK 0 (.int _ _) bY M9 rfl rfl rfl)) dM)))), ?_⟩)
 refine dL [false, false, true, false] rfl (by kernel_rfl) (bX oB rfl rfl (fK _ b.py) ?_)
 rintro v10 w10 ⟨rfl, hb10⟩
 have M10 := M9.callB hb10
 refine aB (aC ⟨(eK (bL rfl (aK 0 (.int _ _) aW M10 rfl rfl rfl)) (eK (bL rfl (aK 0 (.int _ _) aW M10 rfl rfl rfl)) (eK (bL rfl (aK 0 (.int _ _) bY M10 rfl rfl rfl)) dM))), ?_⟩)
 refine dL [false, true, false] rfl (by kernel_rfl) (bX oB rfl rfl (fK _ b.vx) ?_)
 rintro v11 w11 ⟨rfl, hb11⟩
 have M11 := M10.callB hb11
 refine aB (aC ⟨(eK (bL rfl (aK 0 (.int _ _) aW M11 rfl rfl rfl)) (eK (bL rfl (aK 0 (.int _ _) bY M11 rfl rfl rfl)) dM)), ?_⟩)
 refine dL [true, false] rfl (by kernel_rfl) (bX oB rfl rfl (fK _ b.vy) ?_)
 rintro v12 w12 ⟨rfl, hb12⟩
 have M12 := M11.callB hb12
 refine aB (aC ⟨(eK (bL rfl (aK 0 (.int _ _) bY M12 rfl rfl rfl)) dM), ?_⟩)
 refine aX rfl rfl rfl (fun _ => oT [.int _ _, .int _ _, .int _ _, .int _ _, .int _ _, .int _ _, .int _ _, .int _ _, .int _ _, .int _ _] fJ aCy rfl rfl (dD rfl)) (dL [true] rfl (by kernel_rfl) (bB 1 _ aJw M12 rfl rfl rfl rfl rfl (aQ rfl) rfl (fun w13 M13 => ?_)))
 refine aB (aC ⟨dM, ?_⟩)
 refine cF (aC (aN (eP 1 aJw M13 rfl rfl rfl ?_)))
 exact ⟨rfl, M13.below⟩
set_option maxHeartbeats 4000000 in
theorem fZ (w : World) (A : Option Addr) (n c : Nat) (ls : List Int) (R : Rd w 1 A n (ls.map bK)) (hB : lP ls) (h4 : 4 ≤ n) :
  Calls Tryz.prog 79 #[.slice A n c] w (fun ex w' => ∃ v, ex = .returned v ∧ (fun v w' => v = .int .u32 (eH ls 0) ∧ Below w.heap.size w w') v w') := by
 have hlen : ls.length = n := by simpa using R.len
 have hbd := R.bound
 obtain ⟨x0, hx0⟩ := cL (xs := ls) (k := 0) hlen (by omega)
 obtain ⟨x1, hx1⟩ := cL (xs := ls) (k := 1) hlen (by omega)
 obtain ⟨x2, hx2⟩ := cL (xs := ls) (k := 2) hlen (by omega)
 obtain ⟨x3, hx3⟩ := cL (xs := ls) (k := 3) hlen (by omega)
 obtain ⟨g0, g1⟩ := hB x0 (List.mem_of_getElem? hx0)
 obtain ⟨g2, g3⟩ := hB x1 (List.mem_of_getElem? hx1)
 obtain ⟨g4, g5⟩ := hB x2 (List.mem_of_getElem? hx2)
 obtain ⟨g6, g7⟩ := hB x3 (List.mem_of_getElem? hx3)
 have hnum : eH ls 0 = ((x0 * 256 + x1) * 256 + x2) * 256 + x3 := by unfold eH; simp only [List.getD_eq_getElem?_getD, Nat.zero_add, hx0, hx1, hx2, hx3, Option.getD_some]
 obtain ⟨b0, rfl⟩ := Int.eq_ofNat_of_zero_le g0
 obtain ⟨b1, rfl⟩ := Int.eq_ofNat_of_zero_le g2
 obtain ⟨b2, rfl⟩ := Int.eq_ofNat_of_zero_le g4
 obtain ⟨b3, rfl⟩ := Int.eq_ofNat_of_zero_le g6
 refine aH #[.tmp 2] 25 Tryz.func79 rfl Tryz.results79 Tryz.ntmps79 rfl ?_
 have M0 := Mem.refl w
 refine aD (aA (bP rfl rfl (aB (aC (aD (bO [(0, 0), (1, 1), (2, 1), (3, 0), (4, 0), (5, 0), (6, 1), (7, 1), (8, 0), (9, 0), (10, 0), (11, 0), (12, 1), (13, 1), (14, 0), (15, 0), (16, 0), (17, 0), (18, 1), (19, 1), (20, 0), (21, 0), (22, 0)] mixed rfl (by kernel_rfl) (fun w1 hb1 hh1 => ?_)))))))
 have M1 := M0.drew hb1 hh1
 refine DmS rfl rfl rfl (cA rfl rfl rfl (bV (0) lW rfl rfl rfl ((R.mem M1).below_len (aJ bK hx0)) ((R.mem M1).someK (aJ bK hx0))) (cA rfl rfl rfl (gT (.int _ _) aPs (R.mem M1) (aJ bK hx0) rfl) (aX rfl rfl rfl (fun _ => bS us5 Tryz.underlying35 rfl (aCm _ (by omega) (by omega))) ?_)))
 refine aX rfl rfl rfl (fun _ => tA rfl rfl (by decide)) (gK 7 (.int .u32 ((b0 * 16777216 : Nat) : Int)) (iE (aXw b0 (by omega))) (DmS rfl rfl rfl (cA rfl rfl rfl (bV (1) lW rfl rfl rfl ((R.mem M1).below_len (aJ bK hx1)) ((R.mem M1).someK (aJ bK hx1))) (cA rfl rfl rfl (gT (.int _ _) aPs (R.mem M1) (aJ bK hx1) rfl) ?_))))
 refine aX rfl rfl rfl (fun _ => bS us5 Tryz.underlying35 rfl (aCm _ (by omega) (by omega))) (aX rfl rfl rfl (fun _ => tA rfl rfl (by decide)) (gK 12 (.int .u32 ((b1 * 65536 : Nat) : Int)) (iE (aZa b1 (by omega))) (aX rfl rfl rfl (fun _ => dY (.int _ _) rfl rfl rfl) (gK 13 (.int .u32 ((b0 * 16777216 + b1 * 65536 : Nat) : Int)) (iE (bFs b0 (b0 * 16777216) (b1 * 65536) 24 rfl (show b1 * 65536 < 16777216 by omega) (by omega))) ?_))))
 refine DmS rfl rfl rfl (cA rfl rfl rfl (bV (2) lW rfl rfl rfl ((R.mem M1).below_len (aJ bK hx2)) ((R.mem M1).someK (aJ bK hx2))) (cA rfl rfl rfl (gT (.int _ _) aPs (R.mem M1) (aJ bK hx2) rfl) (aX rfl rfl rfl (fun _ => bS us5 Tryz.underlying35 rfl (aCm _ (by omega) (by omega))) ?_)))
 refine aX rfl rfl rfl (fun _ => tA rfl rfl (by decide)) (gK 18 (.int .u32 ((b2 * 256 : Nat) : Int)) (iE (bFa b2 (by omega))) (aX rfl rfl rfl (fun _ => dY (.int _ _) rfl rfl rfl) (gK 19 (.int .u32 ((b0 * 16777216 + b1 * 65536 + b2 * 256 : Nat) : Int)) (iE (bFs (b0 * 256 + b1) (b0 * 16777216 + b1 * 65536) (b2 * 256) 16 (show (b0 * 256 + b1) * 65536 = _ by omega) (show b2 * 256 < 65536 by omega) (by omega))) ?_)))
 refine DmS rfl rfl rfl (cA rfl rfl rfl (bV (3) lW rfl rfl rfl ((R.mem M1).below_len (aJ bK hx3)) ((R.mem M1).someK (aJ bK hx3))) (cA rfl rfl rfl (gT (.int _ _) aPs (R.mem M1) (aJ bK hx3) rfl) (aX rfl rfl rfl (fun _ => bS us5 Tryz.underlying35 rfl (aCm _ (by omega) (by omega))) ?_)))
 refine aX rfl rfl rfl (fun _ => dY (.int _ _) rfl rfl rfl) (gK 24 (.int .u32 ((b0 * 16777216 + b1 * 65536 + b2 * 256 + b3 : Nat) : Int)) (iE (bFs (b0 * 65536 + b1 * 256 + b2) (b0 * 16777216 + b1 * 65536 + b2 * 256) b3 8 (show (b0 * 65536 + b1 * 256 + b2) * 256 = _ by omega) (show b3 < 256 by omega) (by omega))) ?_)
 refine qL rfl rfl rfl (cF (aC (aN (cB (.int _ _) rfl ?_))))
 exact ⟨iE (by rw [hnum]; omega), M1.below⟩
set_option maxHeartbeats 4000000 in
theorem fC (w : World) (n : Int) (hn : 0 ≤ n ∧ n ≤ 4294967295) :
  Calls Tryz.prog 80 #[.int .i64 n] w (fun ex w' => ∃ v, ex = .returned v ∧ (fun v w' => v = .int .i64 (8 + 40 * n) ∧ Below w.heap.size w w') v w') := by
 refine aH #[.tmp 2] 6 Tryz.func80 rfl Tryz.results80 Tryz.ntmps80 rfl ?_
 have M0 := Mem.refl w
 refine aD (aA (bP rfl rfl (aB (aC (aD (aA (aY rfl rfl (wq (fX rfl rfl (by omega) (by omega)) rfl (wq (bQ rfl rfl (by omega) (by omega)) rfl ?_)))))))))
 refine bP rfl rfl (aB (aC (aN (cB (.int _ _) rfl ?_))))
 exact ⟨iE (by omega), M0.below⟩
set_option maxHeartbeats 4000000 in
theorem wD (w : World) (b : Nat) (x0 x1 x2 x3 x4 x5 x6 x7 x8 x9 : Int) (h0 : 0 ≤ x2 ∧ x2 ≤ 4294967295) (h1 : 0 ≤ x3 ∧ x3 ≤ 4294967295) (hO : Own [(some b, bc [.int .u32 x0, .int .u32 x1, .int .u32 x2, .int .u32 x3, .int .u32 x4, .int .u32 x5, .int .u32 x6, .int .u32 x7, .int .u32 x8, .int .u32 x9] 139)] w) :
  Calls Tryz.prog 118 #[.int .i64 2, .pointer (some ⟨b, 0, none⟩)] w (fun ex w' => ∃ v, ex = .returned v ∧ (fun v w' => v = .agg [.int .i32 (nO x2), .int .i32 (nO x3)].toArray ∧ Mem w (bH [(some b, bc [.int .u32 x0, .int .u32 x1, .int .u32 x2, .int .u32 x3, .int .u32 x4, .int .u32 x5, .int .u32 x6, .int .u32 x7, .int .u32 x8, .int .u32 x9] 139)]) [(some b, bc [.int .u32 x0, .int .u32 x1, .int .u32 x2, .int .u32 x3, .int .u32 x4, .int .u32 x5, .int .u32 x6, .int .u32 x7, .int .u32 x8, .int .u32 x9] 139)] w') v w') := by
 refine aH #[.cell 3 37] 14 Tryz.func118 rfl Tryz.results118 Tryz.ntmps118 rfl ?_
 have M0 := hO.mem
 refine aD (aA (aP gC M0 rfl rfl (fun b1 w1 M1 => (aB (aC (aD (bO [(0, 0), (1, 0), (2, 1), (3, 0), (4, 0), (5, 0), (6, 0), (7, 1), (8, 0), (9, 0), (10, 2)] mixed rfl (by kernel_rfl) (fun w2 hb2 hh2 => ?_))))))))
 have M2 := M1.drew hb2 hh2
 refine iG rfl rfl rfl (aX rfl rfl rfl (fun _ => fA (2) fJ rfl rfl rfl (by decide)) (cA rfl rfl rfl (aK 0 (.int _ _) bY M2 rfl rfl rfl) (aX rfl rfl rfl (fun _ => dR rI Tryz.underlying21 rfl) (gK 7 (.int .i32 (nO x2)) (iE (iH h0)) (iG rfl rfl rfl ?_)))))
 refine aX rfl rfl rfl (fun _ => bQ rfl rfl (by first | decide | omega) (by first | decide | omega)) (aX rfl rfl rfl (fun _ => fA (3) fJ rfl rfl rfl (by decide)) (cA rfl rfl rfl (aK 0 (.int _ _) bY M2 rfl rfl rfl) (aX rfl rfl rfl (fun _ => dR rI Tryz.underlying21 rfl) (gK 12 (.int .i32 (nO x3)) (iE (iH h1)) ?_))))
 refine aX rfl rfl rfl (fun _ => cD [(0, .int _ _), (1, .int _ _)] _ fY rfl rfl) (dL [true, true] rfl (by kernel_rfl) (bB 1 _ bJ M2 rfl rfl rfl rfl rfl (aQ rfl) rfl (fun w3 M3 => ?_)))
 refine aB (aC ⟨dM, ?_⟩)
 refine cF (aC (aN (eP 1 bJ M3 rfl rfl rfl ?_)))
 exact ⟨rfl, M3.keep [true, false]⟩
set_option maxHeartbeats 4000000 in
theorem wG (w : World) (b : Nat) (x0 x1 x2 x3 x4 x5 x6 x7 x8 x9 : Int) (h0 : 0 ≤ x6 ∧ x6 ≤ 4294967295) (h1 : 0 ≤ x7 ∧ x7 ≤ 4294967295) (hO : Own [(some b, bc [.int .u32 x0, .int .u32 x1, .int .u32 x2, .int .u32 x3, .int .u32 x4, .int .u32 x5, .int .u32 x6, .int .u32 x7, .int .u32 x8, .int .u32 x9] 139)] w) :
  Calls Tryz.prog 118 #[.int .i64 6, .pointer (some ⟨b, 0, none⟩)] w (fun ex w' => ∃ v, ex = .returned v ∧ (fun v w' => v = .agg [.int .i32 (nO x6), .int .i32 (nO x7)].toArray ∧ Mem w (bH [(some b, bc [.int .u32 x0, .int .u32 x1, .int .u32 x2, .int .u32 x3, .int .u32 x4, .int .u32 x5, .int .u32 x6, .int .u32 x7, .int .u32 x8, .int .u32 x9] 139)]) [(some b, bc [.int .u32 x0, .int .u32 x1, .int .u32 x2, .int .u32 x3, .int .u32 x4, .int .u32 x5, .int .u32 x6, .int .u32 x7, .int .u32 x8, .int .u32 x9] 139)] w') v w') := by
 refine aH #[.cell 3 37] 14 Tryz.func118 rfl Tryz.results118 Tryz.ntmps118 rfl ?_
 have M0 := hO.mem
 refine aD (aA (aP gC M0 rfl rfl (fun b1 w1 M1 => (aB (aC (aD (bO [(0, 0), (1, 0), (2, 1), (3, 0), (4, 0), (5, 0), (6, 0), (7, 1), (8, 0), (9, 0), (10, 2)] mixed rfl (by kernel_rfl) (fun w2 hb2 hh2 => ?_))))))))
 have M2 := M1.drew hb2 hh2
 refine iG rfl rfl rfl (aX rfl rfl rfl (fun _ => fA (6) fJ rfl rfl rfl (by decide)) (cA rfl rfl rfl (aK 0 (.int _ _) bY M2 rfl rfl rfl) (aX rfl rfl rfl (fun _ => dR rI Tryz.underlying21 rfl) (gK 7 (.int .i32 (nO x6)) (iE (iH h0)) (iG rfl rfl rfl ?_)))))
 refine aX rfl rfl rfl (fun _ => bQ rfl rfl (by first | decide | omega) (by first | decide | omega)) (aX rfl rfl rfl (fun _ => fA (7) fJ rfl rfl rfl (by decide)) (cA rfl rfl rfl (aK 0 (.int _ _) bY M2 rfl rfl rfl) (aX rfl rfl rfl (fun _ => dR rI Tryz.underlying21 rfl) (gK 12 (.int .i32 (nO x7)) (iE (iH h1)) ?_))))
 refine aX rfl rfl rfl (fun _ => cD [(0, .int _ _), (1, .int _ _)] _ fY rfl rfl) (dL [true, true] rfl (by kernel_rfl) (bB 1 _ bJ M2 rfl rfl rfl rfl rfl (aQ rfl) rfl (fun w3 M3 => ?_)))
 refine aB (aC ⟨dM, ?_⟩)
 refine cF (aC (aN (eP 1 bJ M3 rfl rfl rfl ?_)))
 exact ⟨rfl, M3.keep [true, false]⟩
set_option maxHeartbeats 4000000 in
theorem vY (w : World) (b : Nat) (x0 x1 x2 x3 x4 x5 x6 x7 x8 x9 : Int) (h0 : 0 ≤ x8 ∧ x8 ≤ 4294967295) (h1 : 0 ≤ x9 ∧ x9 ≤ 4294967295) (hO : Own [(some b, bc [.int .u32 x0, .int .u32 x1, .int .u32 x2, .int .u32 x3, .int .u32 x4, .int .u32 x5, .int .u32 x6, .int .u32 x7, .int .u32 x8, .int .u32 x9] 139)] w) :
  Calls Tryz.prog 118 #[.int .i64 8, .pointer (some ⟨b, 0, none⟩)] w (fun ex w' => ∃ v, ex = .returned v ∧ (fun v w' => v = .agg [.int .i32 (nO x8), .int .i32 (nO x9)].toArray ∧ Mem w (bH [(some b, bc [.int .u32 x0, .int .u32 x1, .int .u32 x2, .int .u32 x3, .int .u32 x4, .int .u32 x5, .int .u32 x6, .int .u32 x7, .int .u32 x8, .int .u32 x9] 139)]) [(some b, bc [.int .u32 x0, .int .u32 x1, .int .u32 x2, .int .u32 x3, .int .u32 x4, .int .u32 x5, .int .u32 x6, .int .u32 x7, .int .u32 x8, .int .u32 x9] 139)] w') v w') := by
 refine aH #[.cell 3 37] 14 Tryz.func118 rfl Tryz.results118 Tryz.ntmps118 rfl ?_
 have M0 := hO.mem
 refine aD (aA (aP gC M0 rfl rfl (fun b1 w1 M1 => (aB (aC (aD (bO [(0, 0), (1, 0), (2, 1), (3, 0), (4, 0), (5, 0), (6, 0), (7, 1), (8, 0), (9, 0), (10, 2)] mixed rfl (by kernel_rfl) (fun w2 hb2 hh2 => ?_))))))))
 have M2 := M1.drew hb2 hh2
 refine iG rfl rfl rfl (aX rfl rfl rfl (fun _ => fA (8) fJ rfl rfl rfl (by decide)) (cA rfl rfl rfl (aK 0 (.int _ _) bY M2 rfl rfl rfl) (aX rfl rfl rfl (fun _ => dR rI Tryz.underlying21 rfl) (gK 7 (.int .i32 (nO x8)) (iE (iH h0)) (iG rfl rfl rfl ?_)))))
 refine aX rfl rfl rfl (fun _ => bQ rfl rfl (by first | decide | omega) (by first | decide | omega)) (aX rfl rfl rfl (fun _ => fA (9) fJ rfl rfl rfl (by decide)) (cA rfl rfl rfl (aK 0 (.int _ _) bY M2 rfl rfl rfl) (aX rfl rfl rfl (fun _ => dR rI Tryz.underlying21 rfl) (gK 12 (.int .i32 (nO x9)) (iE (iH h1)) ?_))))
 refine aX rfl rfl rfl (fun _ => cD [(0, .int _ _), (1, .int _ _)] _ fY rfl rfl) (dL [true, true] rfl (by kernel_rfl) (bB 1 _ bJ M2 rfl rfl rfl rfl rfl (aQ rfl) rfl (fun w3 M3 => ?_)))
 refine aB (aC ⟨dM, ?_⟩)
 refine cF (aC (aN (eP 1 bJ M3 rfl rfl rfl ?_)))
 exact ⟨rfl, M3.keep [true, false]⟩
set_option maxHeartbeats 4000000 in
theorem aEv (w : World) (x0 x1 x2 x3 x4 x5 x6 x7 x8 x9 : Int) (hx : ∀ x ∈ ([x0, x1, x2, x3, x4, x5, x6, x7, x8, x9] : List Int), 0 ≤ x ∧ x ≤ 4294967295) :
  Calls Tryz.prog 81 #[.agg [.int .u32 x0, .int .u32 x1, .int .u32 x2, .int .u32 x3, .int .u32 x4, .int .u32 x5, .int .u32 x6, .int .u32 x7, .int .u32 x8, .int .u32 x9].toArray] w (fun ex w' => ∃ v, ex = .returned v ∧ (fun v w' => v = (.agg (aF (⟨x0, nO x1, nO x2, nO x3, nO x4, nO x5, nO x6, nO x7, nO x8, nO x9⟩ : Body)).toArray) ∧ Below w.heap.size w w') v w') := by
 refine aH #[.cell 2 39] 23 Tryz.func81 rfl Tryz.results81 Tryz.ntmps81 rfl ?_
 have M0 := Mem.refl w
 refine aD (aA (bC (.agg (List.toArray _)) M0 rfl rfl rfl (fun b1 w1 M1 => (aP iD M1 rfl rfl (fun b2 w2 M2 => (aB (aC (aD (aA (wq (cM [] [.pointer _] rfl rfl) rfl (wq (aI (.func _ _ _) rfl) rfl ?_)))))))))))
 refine aB (aC (aD (bO [(0, 0), (1, 1), (2, 0), (3, 1), (4, 0), (5, 0), (7, 0), (8, 1), (9, 0), (10, 0), (11, 1), (12, 0), (13, 0), (15, 0), (6, 2), (14, 2), (16, 2), (17, 0), (18, 2)] mixed rfl (by kernel_rfl) (fun w3 hb3 hh3 => ?_))))
 have M3 := M2.drew hb3 hh3
 refine aX rfl rfl rfl (fun _ => fA (0) fJ rfl rfl rfl (by decide)) (cA rfl rfl rfl (aK 0 (.int _ _) bY M3 rfl rfl rfl) (aX rfl rfl rfl (fun _ => fA (1) fJ rfl rfl rfl (by decide)) (cA rfl rfl rfl (aK 0 (.int _ _) bY M3 rfl rfl rfl) (aX rfl rfl rfl (fun _ => dR rI Tryz.underlying21 rfl) ?_))))
 refine gK 9 (.int .i32 (nO x1)) (iE (iH (hx _ (by simp)))) (aX rfl rfl rfl (fun _ => aG (.func _ _ _) rfl) (aX rfl rfl rfl (fun _ => fA (4) fJ rfl rfl rfl (by decide)) (cA rfl rfl rfl (aK 0 (.int _ _) bY M3 rfl rfl rfl) (aX rfl rfl rfl (fun _ => dR rI Tryz.underlying21 rfl) ?_))))
 refine gK 14 (.int .i32 (nO x4)) (iE (iH (hx _ (by simp)))) (aX rfl rfl rfl (fun _ => fA (5) fJ rfl rfl rfl (by decide)) (cA rfl rfl rfl (aK 0 (.int _ _) bY M3 rfl rfl rfl) (aX rfl rfl rfl (fun _ => dR rI Tryz.underlying21 rfl) (gK 17 (.int .i32 (nO x5)) (iE (iH (hx _ (by simp)))) ?_))))
 refine aX rfl rfl rfl (fun _ => aG (.func _ _ _) rfl) (aX rfl rfl rfl (fun _ => aG (.func _ _ _) rfl) (dL [false, false, false, false] rfl (by kernel_rfl) (bX aKa rfl rfl (wD _ b1 x0 x1 x2 x3 x4 x5 x6 x7 x8 x9 (hx _ (by simp)) (hx _ (by simp)) (M3.ownSeg 0 1)) ?_)))
 rintro v4 w4 ⟨rfl, hM4⟩
 have M4 : Mem _ _ [_, _] _ := M3.seg 0 1 hM4
 refine aB (aC ⟨(eK (bL rfl (aK 0 (.int _ _) bY M4 rfl rfl rfl)) (eK (bL rfl (aK 0 (.int _ _) bY M4 rfl rfl rfl)) (eK (bL rfl (aK 0 (.int _ _) bY M4 rfl rfl rfl)) (eK (bL rfl (aK 0 (.int _ _) bY M4 rfl rfl rfl)) dM)))), ?_⟩)
 refine dL [false, false, false, false] rfl (by kernel_rfl) (bX aKa rfl rfl (wG _ b1 x0 x1 x2 x3 x4 x5 x6 x7 x8 x9 (hx _ (by simp)) (hx _ (by simp)) (M4.ownSeg 0 1)) ?_)
 rintro v5 w5 ⟨rfl, hM5⟩
 have M5 : Mem _ _ [_, _] _ := M4.seg 0 1 hM5
 refine aB (aC ⟨(eK (bL rfl (aK 0 (.int _ _) bY M5 rfl rfl rfl)) (eK (bL rfl (aK 0 (.int _ _) bY M5 rfl rfl rfl)) (eK (bL rfl (aK 0 (.int _ _) bY M5 rfl rfl rfl)) (eK (bL rfl (aK 0 (.int _ _) bY M5 rfl rfl rfl)) dM)))), ?_⟩)
 refine dL [false, false, false, false] rfl (by kernel_rfl) (bX aKa rfl rfl (vY _ b1 x0 x1 x2 x3 x4 x5 x6 x7 x8 x9 (hx _ (by simp)) (hx _ (by simp)) (M5.ownSeg 0 1)) ?_)
 rintro v6 w6 ⟨rfl, hM6⟩
 have M6 : Mem _ _ [_, _] _ := M5.seg 0 1 hM6
 refine aB (aC ⟨(eK (bL rfl (aK 0 (.int _ _) bY M6 rfl rfl rfl)) (eK (bL rfl (aK 0 (.int _ _) bY M6 rfl rfl rfl)) (eK (bL rfl (aK 0 (.int _ _) bY M6 rfl rfl rfl)) (eK (bL rfl (aK 0 (.int _ _) bY M6 rfl rfl rfl)) dM)))), ?_⟩)
 refine aX rfl rfl rfl (fun _ => cD [(0, .int _ _), (1, .int _ _), (2, .agg (List.toArray _)), (3, .int _ _), (4, .int _ _), (5, .agg (List.toArray _)), (6, .agg (List.toArray _))] _ aGp rfl rfl) (dL [true, true, true, true] rfl (by kernel_rfl) (bB 1 _ bR M6 rfl rfl rfl rfl rfl (aQ rfl) rfl (fun w7 M7 => ?_)))
 refine aB (aC ⟨dM, ?_⟩)
 refine cF (aC (aN (eP 1 bR M7 rfl rfl rfl ?_)))
 exact ⟨rfl, M7.below⟩
set_option maxHeartbeats 8000000 in
theorem aCt (w : World) (A : Option Addr) (n c : Nat) (xs : List Body) (R : Rd w 10 A n (xs.map aF)) (hn : n ≤ 4096) (hc : gX xs = 0) (hb : ∀ b ∈ xs, InB b) :
  Calls Tryz.prog 58 #[.slice A n c] w (fun ex w' => ∃ v, ex = .returned v ∧ (fun v w' => ∃ q : Row, v = .tuple #[.slice q.A q.n q.c, .int .i64 0] ∧ aU 5 1 q.A q.n q.c ((vZ xs).map bK) q.e ∧ Mem w [] [q.e] w') v w') := by
 have hlen : xs.length = n := by simpa using R.len
 have hbd := R.bound
 refine aH #[.tmp 2, .tmp 3] 38 Tryz.func58 rfl Tryz.results58 Tryz.ntmps58 rfl ?_
 have M0 := Mem.refl w
 refine aD (aA (fL rfl rfl (bP rfl rfl (aB (aC (aD (aD (aA (eC rfl rfl (bX bAu rfl rfl (yZ _ _ _ _ xs (R.mem M0)) ?_))))))))))
 rintro v1 w1 ⟨rfl, hb1⟩
 have M1 := M0.callB hb1
 refine bP rfl rfl (aB (aC (aD (aA (aY rfl rfl (cY rfl rfl rfl rfl (tW 13 rfl (fun h => h hc) (aB (aC ?_)))))))))
 refine cC rfl (aM (aC (aD (aA (cV [.int _ _, .int _ _, .int _ _, .int _ _] (pG.map bK) rfl lW M1 rfl rfl rfl rfl (dD rfl) (by decide) (fun b2 w2 M2 => ?_))))))
 have hlit15 := jZ (T := 5) (b := b2) (pG.map bK) (aIn _) rfl (by decide)
 refine aWo 0 Tryz.underlying31 Tryz.underlying5 M2 rfl rfl rfl rfl hlit15 (by decide) (fun e3 w3 M3 hR3 => (eC rfl rfl (wq (cR Tryz.underlying29 rfl) rfl (wq (bS us3 Tryz.underlying35 rfl (aCm _ (by omega) (by omega))) rfl (bX aTx rfl rfl (aBi _ ⟨(some ⟨b2, 0, none⟩), 4, 4, e3⟩ pG hR3 (n : Int) (by omega) (by first | omega | exact (show 4 ≤ 1048576 by decide)) (M3.ownSeg 0 1)) ?_)))))
 rintro v4 w4 ⟨q0, rfl, hnq0, hq0, hM4⟩
 have M4 : Mem _ _ [_] _ := M3.seg 0 1 hM4
 refine fL rfl rfl (aB (aC (aD (aD (aA (eC rfl rfl (wq (cR Tryz.underlying29 rfl) rfl (aY rfl rfl (aB (aC (aT ?_)))))))))))
 refine dP (σ := Nat × Row) [2, 3, 21, 22] (fun (k, q) => [(5, .slice q.A q.n q.c), (23, .int .i64 (k : Int))]) (fun (k, q) w' => (k ≤ n ∧ q.n = 8 + 40 * k ∧ aU 5 1 q.A q.n q.c (((pG ++ iP (n : Int)) ++ (xs.take k).flatMap tT).map bK) q.e) ∧ Mem w [] [q.e] w') (fun (k, q) => n - k) (0, q0) (bM rfl (bM rfl fD)) (⟨⟨by omega, hnq0, by rw [List.take_zero, List.flatMap_nil, List.append_nil]; exact hq0⟩, M4⟩) ?_
 rintro ⟨k, q⟩ ρ5 w5 ⟨⟨hk, hqn, hq⟩, hM5⟩
 refine aD (aA (cY rfl rfl rfl rfl (aB (aC (aD ?_)))))
 refine bE rfl (fun h24 => ?_) (fun h24 => ?_)
 ·obtain ⟨xb, hxb⟩ := cL (xs := xs) (k := k) hlen (by omega)
  have hxi := aQc (hb xb (List.mem_of_getElem? hxb))
  refine aM (aC (aD (aT (aD (aA (wq (bV (k) fE rfl rfl rfl ((R.mem hM5).below_len (aJ aF hxb)) ((R.mem hM5).someK (aJ aF hxb))) rfl (wq (eB _ bR (R.mem hM5) (aJ aF hxb) rfl) rfl (aP iD hM5 rfl rfl (fun b6 w6 M6 => (bB 1 _ bR M6 rfl rfl rfl rfl rfl (aQ rfl) rfl (fun w7 M7 => ?_)))))))))))
  refine aB (aC (aD (aA (wq (bA 1 bR M7 rfl rfl rfl) rfl (bX bFg rfl rfl (aIu _ xb) ?_)))))
  rintro v8 w8 ⟨rfl, hb8⟩
  have M8 := M7.callB hb8
  refine aY rfl rfl (aB (aC (aT (dP (σ := Nat × Row) [2, 3, 21, 22, 23, 28] (fun (j, p) => [(5, .slice p.A p.n p.c), (29, .int .i64 (j : Int))]) (fun (j, p) w' => (j ≤ 10 ∧ p.n = q.n + 4 * j ∧ aU 5 1 p.A p.n p.c (((pG ++ iP (n : Int)) ++ (xs.take k).flatMap tT ++ ((uZ xb).take j).flatMap iP).map bK) p.e) ∧ Mem w [] [p.e, (some b6, bc (aF xb) 39)] w') (fun (j, p) => 10 - j) (0, q) (bM rfl (bM rfl fD)) (⟨⟨by omega, by omega, by rw [List.take_zero, List.flatMap_nil, List.append_nil]; exact hq⟩, M8⟩) ?_))))
  rintro ⟨j, p⟩ ρ9 w9 ⟨⟨hj, hpn, hp⟩, hM9⟩
  refine aD (aA (cY rfl rfl rfl rfl (aB (aC (aD ?_)))))
  refine bE rfl (fun h30 => ?_) (fun h30 => ?_)
  ·obtain ⟨x, hx⟩ := cL (xs := uZ xb) (k := j) (n := 10) rfl (by omega)
   have hxr := hxi x (List.mem_of_getElem? hx)
   refine aM (aC (aD (aT (aD (aA ?_)))))
   refine wq (uR (j) (.int .u32 x) fJ bY rfl rfl (by omega) (by omega) rfl (by rw [kR, List.getElem?_map, hx]; rfl)) rfl ?_
   refine bP rfl rfl (aB (aC (aA (eC rfl rfl (aY rfl rfl (bX aTx rfl rfl (aBi _ p _ hp x hxr (by first | omega | exact (show 4 ≤ 1048576 by decide)) (hM9.ownSeg 0 1)) ?_))))))
   rintro v10 w10 ⟨p2, rfl, hnp2, hp2, hM10⟩
   have M10 : Mem _ _ [_, _] _ := hM9.seg 0 1 hM10
   refine fL rfl rfl (aB (dJ (aC (aA (wq (bQ rfl rfl (by omega) (by omega)) rfl (aY rfl rfl ?_))))))
   refine aB ?_
   refine cT (j + 1, p2) (bM rfl (bM rfl fD)) (cW rfl (cW rfl (cW rfl (cW rfl (cW rfl (cW rfl kK)))))) ?_ ?_
   ·exact ⟨⟨by omega, by omega, by rw [aQp hx, ← List.append_assoc]; exact hp2⟩, M10⟩
   ·(show 10 - (j + 1) < 10 - j; omega)
  ·obtain rfl : j = 10 := by omega
   rw [List.take_of_length_le (show (uZ xb).length ≤ 10 from Nat.le_refl _)] at hp
   refine cO (dC (dA (eV (dJ (aC (aA ?_))))))
   refine wq (bQ rfl rfl (by omega) (by omega)) rfl (aY rfl rfl (aB ?_))
   refine cT (k + 1, p) (bM rfl (bM rfl fD)) (cW rfl (cW rfl (cW rfl (cW rfl kK)))) ?_ ?_
   ·exact ⟨⟨by omega, by omega, by rw [aOf hxb, ← aOe, ← List.append_assoc]; exact hp⟩, hM9.keep [true, false]⟩
   ·(show n - (k + 1) < n - k; omega)
 ·obtain rfl : k = n := by omega
  rw [List.take_of_length_le (by omega), ← hlen] at hq
  refine cO (dC (dA (eV (aC (aD (aA (eC rfl rfl ?_)))))))
  refine fL rfl rfl (bP rfl rfl (aB (aC (aN (iK (.slice _ _ _) (.int _ _) rfl rfl ?_)))))
  exact ⟨q, rfl, hq, hM5⟩
set_option maxHeartbeats 16000000 in
theorem aEp (w : World) (A : Option Addr) (n c : Nat) (ls : List Int) (R : Rd w 1 A n (ls.map bK)) (hB : lP ls) (hcap : n ≤ c) (hn : n ≤ 1048576) :
  Calls Tryz.prog 54 #[.slice A n c] w (fun ex w' => ∃ v, ex = .returned v ∧ (fun v w' => ∃ r : Row, v = .tuple #[.slice r.A r.n r.c, .int .i64 (lE ls).2] ∧ aU 39 10 r.A r.n r.c (((lE ls).1).map aF) r.e ∧ Mem w [] [r.e] w') v w') := by
 have hlen : ls.length = n := by simpa using R.len
 have hbd := R.bound
 refine aH #[.tmp 2, .tmp 3] 58 Tryz.func54 rfl Tryz.results54 Tryz.ntmps54 rfl ?_
 have M0 := Mem.refl w
 refine aD (aA (fL rfl rfl (bP rfl rfl (aB (aC (aD (aD (aA (eC rfl rfl (wq (cR Tryz.underlying31 rfl) rfl ?_))))))))))
 refine cY rfl rfl rfl rfl (wq (aG (.bool (decide _)) rfl) rfl ?_)
 refine dK 13 rfl (fun g13 => ?_) (fun g13 => ?_)
 ·refine aR rfl rfl (aR rfl rfl (aR rfl rfl (aR rfl rfl (wq (bW true (.bool true) rfl rfl) rfl (aB (aC ?_))))))
  refine cQ rfl (aD (aA (fL rfl rfl (bP rfl rfl (aB (aC (aN (cJ (iK (.slice _ _ _) (.int _ _) rfl rfl ?_)))))))))
  have hd := aDd (l := ls) (fun h => by have := h.1; omega)
  exact ⟨⟨none, 0, 0, (none, default)⟩, by rw [hd], by rw [hd]; exact aU.nil _ _ _, (M0.keep []).dummy default⟩
 ·refine eC rfl rfl (wq (fS (0) (4) lW rfl rfl ⟨_, rfl⟩ (by omega) (by omega) (by omega)) rfl (wq (bFm Tryz.underlying31 Tryz.underlying5 Tryz.underlying9 (Rd.subB (R.mem M0) (0) (4) (by omega) (by omega) hcap) rfl) rfl (wq (aWe rfl rfl) rfl (wq (bW false (.bool (decide _)) rfl rfl) rfl (aB (aC ?_))))))
  refine bE rfl (fun h18 => ?_) (fun h18 => ?_)
  ·refine aD (aA (fL rfl rfl (bP rfl rfl (aB (aC (aN (cJ (iK (.slice _ _ _) (.int _ _) rfl rfl ?_))))))))
   have hd := aDd (l := ls) (fun h => ((aLn ((ls.drop 0).take (4 - 0)) (hB.sub 0 4) [66, 73, 76, 49]).1 h18) (by rw [← vL]; simpa using h.2.1))
   exact ⟨⟨none, 0, 0, (none, default)⟩, by rw [hd], by rw [hd]; exact aU.nil _ _ _, (M0.keep []).dummy default⟩
  ·refine aM (aC (aD (aA (eC rfl rfl (wq (fS (4) (((n : Nat) : Int)) lW rfl ⟨_, rfl⟩ rfl (by omega) (by omega) (by omega)) rfl (bX pH rfl rfl (fZ _ _ _ _ ((ls.drop (4)).take (n - (4))) (Rd.subB (R.mem M0) (4) (n) (by omega) (by omega) hcap) (hB.sub _ _) (by omega)) ?_))))))
   rintro v1 w1 ⟨rfl, hb1⟩
   have M1 := M0.callB hb1
   have hr4 := oR hB (a := 4) (by omega)
   obtain ⟨N, hN⟩ : ∃ N : Nat, eH ls 4 = (N : Int) := ⟨(eH ls 4).toNat, by omega⟩
   have hNl : N ≤ 4294967295 := by omega
   refine aS 21 (.int .u32 (N : Int)) (iE ((hJ (by omega)).trans hN)) (wq (bS rI Tryz.underlying3 rfl (kJ _ (by omega) (by omega))) rfl (bP rfl rfl (aB (aC (aD (aD (aA (eC rfl rfl (wq (cR Tryz.underlying31 rfl) rfl ?_)))))))))
   refine aY rfl rfl (bX pE rfl rfl (fC _ (N : Int) (by omega)) ?_)
   rintro v2 w2 ⟨rfl, hb2⟩
   have M2 := M1.callB hb2
   refine cY rfl rfl rfl rfl (aB (aC ?_))
   refine bE rfl (fun h27 => ?_) (fun h27 => ?_)
   ·refine aD (aA (fL rfl rfl (bP rfl rfl (aB (aC (aN (cJ (iK (.slice _ _ _) (.int _ _) rfl rfl ?_))))))))
    have hd := aDd (l := ls) (fun h => h27 (by have := h.2.2; rw [hN] at this; omega))
    exact ⟨⟨none, 0, 0, (none, default)⟩, by rw [hd], by rw [hd]; exact aU.nil _ _ _, (M2.keep []).dummy default⟩
   ·have hfm : aCk ls := ⟨by omega, by have h := Decidable.not_not.1 (mt ((aLn ((ls.drop 0).take (4 - 0)) (hB.sub 0 4) [66, 73, 76, 49]).2) h18); rw [← vL] at h; simpa using h, by rw [hN]; omega⟩
    refine aM (aC (aD (aA (fL rfl rfl ?_))))
    have M3 := M2.dummy default
    refine aB (aC (aD (aD (aA (aY rfl rfl (aY rfl rfl (aB (aC (aT (dP (σ := Nat × Row) [0, 2, 3, 28] (fun (i, q) => [(5, .slice q.A q.n q.c), (29, .int .i64 (i : Int))]) (fun (i, q) w' => (i ≤ N ∧ aU 39 10 q.A q.n q.c ((nK ls i).map aF) q.e) ∧ Mem w [] [q.e] w') (fun (i, q) => N - i) (0, fP) (bM rfl (bM rfl fD)) (⟨⟨by omega, aU.nil _ _ _⟩, M3⟩) ?_))))))))))
    rintro ⟨i, q⟩ ρ4 w4 ⟨⟨hi, hq⟩, hM4⟩
    have hqn : (nK ls i).length = q.n := by simpa using hq.1
    rw [zG] at hqn
    refine aD (aA (cY rfl rfl rfl rfl (aB (aC (aD ?_)))))
    refine bE rfl (fun h30 => ?_) (fun h30 => ?_)
    ·refine aM (aC (aD (aT (aD (aA (aY rfl rfl (bP rfl rfl (aB (aC (aD (aA (aP aCy hM4 rfl rfl (fun b5 w5 M5 => (aB (aC (aD (aD (aA ?_))))))))))))))))))
     refine aY rfl rfl (aB (aC (aT (lO 11 (iC (aD (aA (cY rfl rfl rfl rfl (oG 33 rfl (by first | decide | omega) ?_)))))))))
     refine aB (aC (aD (cQ rfl (aM (aC (aD (aT (aD (aA (aY rfl rfl (bP rfl rfl (aB (aC (aA ?_))))))))))))))
     refine aY rfl rfl (eC rfl rfl (aY rfl rfl (bX pE rfl rfl (fC _ (i : Int) (by omega)) ?_)))
     rintro v6 w6 ⟨rfl, hb6⟩
     have M6 := M5.callB hb6
     refine aY rfl rfl (wq (fX rfl rfl (by omega) (by omega)) rfl (wq (bQ rfl rfl (by omega) (by omega)) rfl (aS 41 (.int .i64 ((8 + 40 * i : Nat) : Int)) (iE (by omega)) (wq (fS (((8 + 40 * i : Nat) : Int)) (((n : Nat) : Int)) lW rfl ⟨_, rfl⟩ rfl (by omega) (by omega) (by omega)) rfl (bX pH rfl rfl (fZ _ _ _ _ ((ls.drop (8 + 40 * i)).take (n - (8 + 40 * i))) (Rd.subB (R.mem M6) (8 + 40 * i) (n) (by omega) (by omega) hcap) (hB.sub _ _) (by omega)) ?_)))))
     rintro v7 w7 ⟨rfl, hb7⟩
     have M7 := M6.callB hb7
     refine aS 43 (.int .u32 (eH ls (8 + 40 * i))) (iE (hJ (by omega))) (wq (fA (0) fJ rfl rfl rfl (by decide)) rfl (dX 1 (.int _ _) bY M7 rfl rfl rfl rfl rfl rfl (fun w8 M8 => (aB (dJ (aC (aA ?_)))))))
     refine wq (bQ rfl rfl (by first | decide | omega) (by first | decide | omega)) rfl (aS 45 (.int .i64 1) (iE (by first | decide | omega)) (aY rfl rfl (aB (aC (iC (kA (fr := [(0, .slice _ _ _), (2, .slice _ _ _), (3, .int .i64 0), (5, .slice _ _ _), (6, .int _ _), (7, .pointer _), (8, .int .i64 0), (28, .int _ _), (29, .int _ _), (32, .int .i64 1)]) (bM rfl (bM rfl (bM rfl (bM rfl (bM rfl (bM rfl (bM rfl (bM rfl (bM rfl (bM rfl fD)))))))))) (fun ρ9 => ?_)))))))
     refine aD (aA (cY rfl rfl rfl rfl (oG 33 rfl (by first | decide | omega) (aB (aC (aD (cQ rfl (aM (aC (aD (aT (aD (aA ?_)))))))))))))
     refine aY rfl rfl (bP rfl rfl (aB (aC (aA (aY rfl rfl (eC rfl rfl (aY rfl rfl ?_)))))))
     refine bX pE rfl rfl (fC _ (i : Int) (by omega)) ?_
     rintro v10 w10 ⟨rfl, hb10⟩
     have M10 := M8.callB hb10
     refine aY rfl rfl (wq (fX rfl rfl (by omega) (by omega)) rfl (wq (bQ rfl rfl (by omega) (by omega)) rfl (aS 41 (.int .i64 ((8 + 40 * i + 4 : Nat) : Int)) (iE (by omega)) (wq (fS (((8 + 40 * i + 4 : Nat) : Int)) (((n : Nat) : Int)) lW rfl ⟨_, rfl⟩ rfl (by omega) (by omega) (by omega)) rfl (bX pH rfl rfl (fZ _ _ _ _ ((ls.drop (8 + 40 * i + 4)).take (n - (8 + 40 * i + 4))) (Rd.subB (R.mem M10) (8 + 40 * i + 4) (n) (by omega) (by omega) hcap) (hB.sub _ _) (by omega)) ?_)))))
     rintro v11 w11 ⟨rfl, hb11⟩
     have M11 := M10.callB hb11
     refine aS 43 (.int .u32 (eH ls (8 + 40 * i + 4))) (iE (hJ (by omega))) (wq (fA (1) fJ rfl rfl rfl (by decide)) rfl (dX 1 (.int _ _) bY M11 rfl rfl rfl rfl rfl rfl (fun w12 M12 => (aB (dJ (aC (aA ?_)))))))
     refine wq (bQ rfl rfl (by first | decide | omega) (by first | decide | omega)) rfl (aS 45 (.int .i64 2) (iE (by first | decide | omega)) (aY rfl rfl (aB (aC (iC (kA (fr := [(0, .slice _ _ _), (2, .slice _ _ _), (3, .int .i64 0), (5, .slice _ _ _), (6, .int _ _), (7, .pointer _), (8, .int .i64 1), (28, .int _ _), (29, .int _ _), (32, .int .i64 2)]) (bM rfl (bM rfl (bM rfl (bM rfl (bM rfl (bM rfl (bM rfl (bM rfl (bM rfl (bM rfl fD)))))))))) (fun ρ13 => ?_)))))))
     refine aD (aA (cY rfl rfl rfl rfl (oG 33 rfl (by first | decide | omega) (aB (aC (aD (cQ rfl (aM (aC (aD (aT (aD (aA ?_)))))))))))))
     refine aY rfl rfl (bP rfl rfl (aB (aC (aA (aY rfl rfl (eC rfl rfl (aY rfl rfl ?_)))))))
     refine bX pE rfl rfl (fC _ (i : Int) (by omega)) ?_
     rintro v14 w14 ⟨rfl, hb14⟩
     have M14 := M12.callB hb14
     refine aY rfl rfl (wq (fX rfl rfl (by omega) (by omega)) rfl (wq (bQ rfl rfl (by omega) (by omega)) rfl (aS 41 (.int .i64 ((8 + 40 * i + 8 : Nat) : Int)) (iE (by omega)) (wq (fS (((8 + 40 * i + 8 : Nat) : Int)) (((n : Nat) : Int)) lW rfl ⟨_, rfl⟩ rfl (by omega) (by omega) (by omega)) rfl (bX pH rfl rfl (fZ _ _ _ _ ((ls.drop (8 + 40 * i + 8)).take (n - (8 + 40 * i + 8))) (Rd.subB (R.mem M14) (8 + 40 * i + 8) (n) (by omega) (by omega) hcap) (hB.sub _ _) (by omega)) ?_)))))
     rintro v15 w15 ⟨rfl, hb15⟩
     have M15 := M14.callB hb15
     refine aS 43 (.int .u32 (eH ls (8 + 40 * i + 8))) (iE (hJ (by omega))) (wq (fA (2) fJ rfl rfl rfl (by decide)) rfl (dX 1 (.int _ _) bY M15 rfl rfl rfl rfl rfl rfl (fun w16 M16 => (aB (dJ (aC (aA ?_)))))))
     refine wq (bQ rfl rfl (by first | decide | omega) (by first | decide | omega)) rfl (aS 45 (.int .i64 3) (iE (by first | decide | omega)) (aY rfl rfl (aB (aC (iC (kA (fr := [(0, .slice _ _ _), (2, .slice _ _ _), (3, .int .i64 0), (5, .slice _ _ _), (6, .int _ _), (7, .pointer _), (8, .int .i64 2), (28, .int _ _), (29, .int _ _), (32, .int .i64 3)]) (bM rfl (bM rfl (bM rfl (bM rfl (bM rfl (bM rfl (bM rfl (bM rfl (bM rfl (bM rfl fD)))))))))) (fun ρ17 => ?_)))))))
     refine aD (aA (cY rfl rfl rfl rfl (oG 33 rfl (by first | decide | omega) (aB (aC (aD (cQ rfl (aM (aC (aD (aT (aD (aA ?_)))))))))))))
     refine aY rfl rfl (bP rfl rfl (aB (aC (aA (aY rfl rfl (eC rfl rfl (aY rfl rfl ?_)))))))
     refine bX pE rfl rfl (fC _ (i : Int) (by omega)) ?_
     rintro v18 w18 ⟨rfl, hb18⟩
     have M18 := M16.callB hb18
     refine aY rfl rfl (wq (fX rfl rfl (by omega) (by omega)) rfl (wq (bQ rfl rfl (by omega) (by omega)) rfl (aS 41 (.int .i64 ((8 + 40 * i + 12 : Nat) : Int)) (iE (by omega)) (wq (fS (((8 + 40 * i + 12 : Nat) : Int)) (((n : Nat) : Int)) lW rfl ⟨_, rfl⟩ rfl (by omega) (by omega) (by omega)) rfl ?_))))
     refine bX pH rfl rfl (fZ _ _ _ _ ((ls.drop (8 + 40 * i + 12)).take (n - (8 + 40 * i + 12))) (Rd.subB (R.mem M18) (8 + 40 * i + 12) (n) (by omega) (by omega) hcap) (hB.sub _ _) (by omega)) ?_
     rintro v19 w19 ⟨rfl, hb19⟩
     have M19 := M18.callB hb19
     refine aS 43 (.int .u32 (eH ls (8 + 40 * i + 12))) (iE (hJ (by omega))) (wq (fA (3) fJ rfl rfl rfl (by decide)) rfl (dX 1 (.int _ _) bY M19 rfl rfl rfl rfl rfl rfl (fun w20 M20 => (aB (dJ (aC (aA ?_)))))))
     refine wq (bQ rfl rfl (by first | decide | omega) (by first | decide | omega)) rfl (aS 45 (.int .i64 4) (iE (by first | decide | omega)) (aY rfl rfl (aB (aC (iC (kA (fr := [(0, .slice _ _ _), (2, .slice _ _ _), (3, .int .i64 0), (5, .slice _ _ _), (6, .int _ _), (7, .pointer _), (8, .int .i64 3), (28, .int _ _), (29, .int _ _), (32, .int .i64 4)]) (bM rfl (bM rfl (bM rfl (bM rfl (bM rfl (bM rfl (bM rfl (bM rfl (bM rfl (bM rfl fD)))))))))) (fun ρ21 => ?_)))))))
     refine aD (aA (cY rfl rfl rfl rfl (oG 33 rfl (by first | decide | omega) (aB (aC (aD (cQ rfl (aM (aC (aD (aT (aD (aA ?_)))))))))))))
     refine aY rfl rfl (bP rfl rfl (aB (aC (aA (aY rfl rfl (eC rfl rfl (aY rfl rfl ?_)))))))
     refine bX pE rfl rfl (fC _ (i : Int) (by omega)) ?_
     rintro v22 w22 ⟨rfl, hb22⟩
     have M22 := M20.callB hb22
     refine aY rfl rfl (wq (fX rfl rfl (by omega) (by omega)) rfl (wq (bQ rfl rfl (by omega) (by omega)) rfl (aS 41 (.int .i64 ((8 + 40 * i + 16 : Nat) : Int)) (iE (by omega)) (wq (fS (((8 + 40 * i + 16 : Nat) : Int)) (((n : Nat) : Int)) lW rfl ⟨_, rfl⟩ rfl (by omega) (by omega) (by omega)) rfl ?_))))
     refine bX pH rfl rfl (fZ _ _ _ _ ((ls.drop (8 + 40 * i + 16)).take (n - (8 + 40 * i + 16))) (Rd.subB (R.mem M22) (8 + 40 * i + 16) (n) (by omega) (by omega) hcap) (hB.sub _ _) (by omega)) ?_
     rintro v23 w23 ⟨rfl, hb23⟩
     have M23 := M22.callB hb23
     refine aS 43 (.int .u32 (eH ls (8 + 40 * i + 16))) (iE (hJ (by omega))) (wq (fA (4) fJ rfl rfl rfl (by decide)) rfl (dX 1 (.int _ _) bY M23 rfl rfl rfl rfl rfl rfl (fun w24 M24 => (aB (dJ (aC (aA ?_)))))))
     refine wq (bQ rfl rfl (by first | decide | omega) (by first | decide | omega)) rfl (aS 45 (.int .i64 5) (iE (by first | decide | omega)) (aY rfl rfl (aB (aC (iC (kA (fr := [(0, .slice _ _ _), (2, .slice _ _ _), (3, .int .i64 0), (5, .slice _ _ _), (6, .int _ _), (7, .pointer _), (8, .int .i64 4), (28, .int _ _), (29, .int _ _), (32, .int .i64 5)]) (bM rfl (bM rfl (bM rfl (bM rfl (bM rfl (bM rfl (bM rfl (bM rfl (bM rfl (bM rfl fD)))))))))) (fun ρ25 => ?_)))))))
     refine aD (aA (cY rfl rfl rfl rfl (oG 33 rfl (by first | decide | omega) (aB (aC (aD (cQ rfl (aM (aC (aD (aT (aD (aA ?_)))))))))))))
     refine aY rfl rfl (bP rfl rfl (aB (aC (aA (aY rfl rfl (eC rfl rfl (aY rfl rfl ?_)))))))
     refine bX pE rfl rfl (fC _ (i : Int) (by omega)) ?_
     rintro v26 w26 ⟨rfl, hb26⟩
     have M26 := M24.callB hb26
     refine aY rfl rfl (wq (fX rfl rfl (by omega) (by omega)) rfl (wq (bQ rfl rfl (by omega) (by omega)) rfl (aS 41 (.int .i64 ((8 + 40 * i + 20 : Nat) : Int)) (iE (by omega)) (wq (fS (((8 + 40 * i + 20 : Nat) : Int)) (((n : Nat) : Int)) lW rfl ⟨_, rfl⟩ rfl (by omega) (by omega) (by omega)) rfl ?_))))
     refine bX pH rfl rfl (fZ _ _ _ _ ((ls.drop (8 + 40 * i + 20)).take (n - (8 + 40 * i + 20))) (Rd.subB (R.mem M26) (8 + 40 * i + 20) (n) (by omega) (by omega) hcap) (hB.sub _ _) (by omega)) ?_
     rintro v27 w27 ⟨rfl, hb27⟩
     have M27 := M26.callB hb27
     refine aS 43 (.int .u32 (eH ls (8 + 40 * i + 20))) (iE (hJ (by omega))) (wq (fA (5) fJ rfl rfl rfl (by decide)) rfl (dX 1 (.int _ _) bY M27 rfl rfl rfl rfl rfl rfl (fun w28 M28 => (aB (dJ (aC (aA ?_)))))))
     refine wq (bQ rfl rfl (by first | decide | omega) (by first | decide | omega)) rfl (aS 45 (.int .i64 6) (iE (by first | decide | omega)) (aY rfl rfl (aB (aC (iC (kA (fr := [(0, .slice _ _ _), (2, .slice _ _ _), (3, .int .i64 0), (5, .slice _ _ _), (6, .int _ _), (7, .pointer _), (8, .int .i64 5), (28, .int _ _), (29, .int _ _), (32, .int .i64 6)]) (bM rfl (bM rfl (bM rfl (bM rfl (bM rfl (bM rfl (bM rfl (bM rfl (bM rfl (bM rfl fD)))))))))) (fun ρ29 => ?_)))))))
     refine aD (aA (cY rfl rfl rfl rfl (oG 33 rfl (by first | decide | omega) (aB (aC (aD (cQ rfl (aM (aC (aD (aT (aD (aA ?_)))))))))))))
     refine aY rfl rfl (bP rfl rfl (aB (aC (aA (aY rfl rfl (eC rfl rfl (aY rfl rfl ?_)))))))
     refine bX pE rfl rfl (fC _ (i : Int) (by omega)) ?_
     rintro v30 w30 ⟨rfl, hb30⟩
     have M30 := M28.callB hb30
     refine aY rfl rfl (wq (fX rfl rfl (by omega) (by omega)) rfl (wq (bQ rfl rfl (by omega) (by omega)) rfl (aS 41 (.int .i64 ((8 + 40 * i + 24 : Nat) : Int)) (iE (by omega)) (wq (fS (((8 + 40 * i + 24 : Nat) : Int)) (((n : Nat) : Int)) lW rfl ⟨_, rfl⟩ rfl (by omega) (by omega) (by omega)) rfl ?_))))
     refine bX pH rfl rfl (fZ _ _ _ _ ((ls.drop (8 + 40 * i + 24)).take (n - (8 + 40 * i + 24))) (Rd.subB (R.mem M30) (8 + 40 * i + 24) (n) (by omega) (by omega) hcap) (hB.sub _ _) (by omega)) ?_
     rintro v31 w31 ⟨rfl, hb31⟩
     have M31 := M30.callB hb31
     refine aS 43 (.int .u32 (eH ls (8 + 40 * i + 24))) (iE (hJ (by omega))) (wq (fA (6) fJ rfl rfl rfl (by decide)) rfl (dX 1 (.int _ _) bY M31 rfl rfl rfl rfl rfl rfl (fun w32 M32 => (aB (dJ (aC (aA ?_)))))))
     refine wq (bQ rfl rfl (by first | decide | omega) (by first | decide | omega)) rfl (aS 45 (.int .i64 7) (iE (by first | decide | omega)) (aY rfl rfl (aB (aC (iC (kA (fr := [(0, .slice _ _ _), (2, .slice _ _ _), (3, .int .i64 0), (5, .slice _ _ _), (6, .int _ _), (7, .pointer _), (8, .int .i64 6), (28, .int _ _), (29, .int _ _), (32, .int .i64 7)]) (bM rfl (bM rfl (bM rfl (bM rfl (bM rfl (bM rfl (bM rfl (bM rfl (bM rfl (bM rfl fD)))))))))) (fun ρ33 => ?_)))))))
     refine aD (aA (cY rfl rfl rfl rfl (oG 33 rfl (by first | decide | omega) (aB (aC (aD (cQ rfl (aM (aC (aD (aT (aD (aA ?_)))))))))))))
     refine aY rfl rfl (bP rfl rfl (aB (aC (aA (aY rfl rfl (eC rfl rfl (aY rfl rfl ?_)))))))
     refine bX pE rfl rfl (fC _ (i : Int) (by omega)) ?_
     rintro v34 w34 ⟨rfl, hb34⟩
     have M34 := M32.callB hb34
     refine aY rfl rfl (wq (fX rfl rfl (by omega) (by omega)) rfl (wq (bQ rfl rfl (by omega) (by omega)) rfl (aS 41 (.int .i64 ((8 + 40 * i + 28 : Nat) : Int)) (iE (by omega)) (wq (fS (((8 + 40 * i + 28 : Nat) : Int)) (((n : Nat) : Int)) lW rfl ⟨_, rfl⟩ rfl (by omega) (by omega) (by omega)) rfl ?_))))
     refine bX pH rfl rfl (fZ _ _ _ _ ((ls.drop (8 + 40 * i + 28)).take (n - (8 + 40 * i + 28))) (Rd.subB (R.mem M34) (8 + 40 * i + 28) (n) (by omega) (by omega) hcap) (hB.sub _ _) (by omega)) ?_
     rintro v35 w35 ⟨rfl, hb35⟩
     have M35 := M34.callB hb35
     refine aS 43 (.int .u32 (eH ls (8 + 40 * i + 28))) (iE (hJ (by omega))) (wq (fA (7) fJ rfl rfl rfl (by decide)) rfl (dX 1 (.int _ _) bY M35 rfl rfl rfl rfl rfl rfl (fun w36 M36 => (aB (dJ (aC (aA ?_)))))))
     refine wq (bQ rfl rfl (by first | decide | omega) (by first | decide | omega)) rfl (aS 45 (.int .i64 8) (iE (by first | decide | omega)) (aY rfl rfl (aB (aC (iC (kA (fr := [(0, .slice _ _ _), (2, .slice _ _ _), (3, .int .i64 0), (5, .slice _ _ _), (6, .int _ _), (7, .pointer _), (8, .int .i64 7), (28, .int _ _), (29, .int _ _), (32, .int .i64 8)]) (bM rfl (bM rfl (bM rfl (bM rfl (bM rfl (bM rfl (bM rfl (bM rfl (bM rfl (bM rfl fD)))))))))) (fun ρ37 => ?_)))))))
     refine aD (aA (cY rfl rfl rfl rfl (oG 33 rfl (by first | decide | omega) (aB (aC (aD (cQ rfl (aM (aC (aD (aT (aD (aA ?_)))))))))))))
     refine aY rfl rfl (bP rfl rfl (aB (aC (aA (aY rfl rfl (eC rfl rfl (aY rfl rfl ?_)))))))
     refine bX pE rfl rfl (fC _ (i : Int) (by omega)) ?_
     rintro v38 w38 ⟨rfl, hb38⟩
     have M38 := M36.callB hb38
     refine aY rfl rfl (wq (fX rfl rfl (by omega) (by omega)) rfl (wq (bQ rfl rfl (by omega) (by omega)) rfl (aS 41 (.int .i64 ((8 + 40 * i + 32 : Nat) : Int)) (iE (by omega)) (wq (fS (((8 + 40 * i + 32 : Nat) : Int)) (((n : Nat) : Int)) lW rfl ⟨_, rfl⟩ rfl (by omega) (by omega) (by omega)) rfl ?_))))
     refine bX pH rfl rfl (fZ _ _ _ _ ((ls.drop (8 + 40 * i + 32)).take (n - (8 + 40 * i + 32))) (Rd.subB (R.mem M38) (8 + 40 * i + 32) (n) (by omega) (by omega) hcap) (hB.sub _ _) (by omega)) ?_
     rintro v39 w39 ⟨rfl, hb39⟩
     have M39 := M38.callB hb39
     refine aS 43 (.int .u32 (eH ls (8 + 40 * i + 32))) (iE (hJ (by omega))) (wq (fA (8) fJ rfl rfl rfl (by decide)) rfl (dX 1 (.int _ _) bY M39 rfl rfl rfl rfl rfl rfl (fun w40 M40 => (aB (dJ (aC (aA ?_)))))))
     refine wq (bQ rfl rfl (by first | decide | omega) (by first | decide | omega)) rfl (aS 45 (.int .i64 9) (iE (by first | decide | omega)) (aY rfl rfl (aB (aC (iC (kA (fr := [(0, .slice _ _ _), (2, .slice _ _ _), (3, .int .i64 0), (5, .slice _ _ _), (6, .int _ _), (7, .pointer _), (8, .int .i64 8), (28, .int _ _), (29, .int _ _), (32, .int .i64 9)]) (bM rfl (bM rfl (bM rfl (bM rfl (bM rfl (bM rfl (bM rfl (bM rfl (bM rfl (bM rfl fD)))))))))) (fun ρ41 => ?_)))))))
     refine aD (aA (cY rfl rfl rfl rfl (oG 33 rfl (by first | decide | omega) (aB (aC (aD (cQ rfl (aM (aC (aD (aT (aD (aA ?_)))))))))))))
     refine aY rfl rfl (bP rfl rfl (aB (aC (aA (aY rfl rfl (eC rfl rfl (aY rfl rfl ?_)))))))
     refine bX pE rfl rfl (fC _ (i : Int) (by omega)) ?_
     rintro v42 w42 ⟨rfl, hb42⟩
     have M42 := M40.callB hb42
     refine aY rfl rfl (wq (fX rfl rfl (by omega) (by omega)) rfl (wq (bQ rfl rfl (by omega) (by omega)) rfl (aS 41 (.int .i64 ((8 + 40 * i + 36 : Nat) : Int)) (iE (by omega)) (wq (fS (((8 + 40 * i + 36 : Nat) : Int)) (((n : Nat) : Int)) lW rfl ⟨_, rfl⟩ rfl (by omega) (by omega) (by omega)) rfl ?_))))
     refine bX pH rfl rfl (fZ _ _ _ _ ((ls.drop (8 + 40 * i + 36)).take (n - (8 + 40 * i + 36))) (Rd.subB (R.mem M42) (8 + 40 * i + 36) (n) (by omega) (by omega) hcap) (hB.sub _ _) (by omega)) ?_
     rintro v43 w43 ⟨rfl, hb43⟩
     have M43 := M42.callB hb43
     refine aS 43 (.int .u32 (eH ls (8 + 40 * i + 36))) (iE (hJ (by omega))) (wq (fA (9) fJ rfl rfl rfl (by decide)) rfl (dX 1 (.int _ _) bY M43 rfl rfl rfl rfl rfl rfl (fun w44 M44 => (aB (dJ (aC (aA ?_)))))))
     refine wq (bQ rfl rfl (by first | decide | omega) (by first | decide | omega)) rfl (aS 45 (.int .i64 10) (iE (by first | decide | omega)) (aY rfl rfl (aB (aC (iC (kA (fr := [(0, .slice _ _ _), (2, .slice _ _ _), (3, .int .i64 0), (5, .slice _ _ _), (6, .int _ _), (7, .pointer _), (8, .int .i64 9), (28, .int _ _), (29, .int _ _), (32, .int .i64 10)]) (bM rfl (bM rfl (bM rfl (bM rfl (bM rfl (bM rfl (bM rfl (bM rfl (bM rfl (bM rfl fD)))))))))) (fun ρ45 => ?_)))))))
     refine aD (aA (cY rfl rfl rfl rfl (tW 33 rfl (by first | decide | omega) (aB (aC (aD (cC rfl (cO ?_))))))))
     refine dC (dC (eV (aC (aA (eC rfl rfl (wq (bA 1 aJw M44 rfl rfl rfl) rfl (bX bHz rfl rfl (aEv _ _ _ _ _ _ _ _ _ _ _ (bGq hB (a := 8 + 40 * i) (by omega))) ?_)))))))
     rintro v46 w46 ⟨rfl, hb46⟩
     have M46 := M44.callB hb46
     refine aS 48 ((.agg (aF (pN ls (8 + 40 * i))).toArray)) rfl (cV [.agg (List.toArray _)] [aF (pN ls (8 + 40 * i))] rfl fE M46 rfl rfl rfl rfl (dD rfl) (by decide) (fun b47 w47 M47 => (dZ 0 [aF (pN ls (8 + 40 * i))] fE M47 rfl rfl rfl rfl rfl hq rfl (by simp [aF, Go.Bil.one]) (cZ.ofMem 2 M47 rfl) (by omega) (fun A48 c48 e48 w48 M48 hR48 => ?_))))
     refine fL rfl rfl (aB (dJ (aC (aA (wq (bQ rfl rfl (by omega) (by omega)) rfl (aY rfl rfl ?_))))))
     refine aB ?_
     refine cT (i + 1, ⟨A48, q.n + 1, c48, e48⟩) (bM rfl (bM rfl fD)) (cW rfl (cW rfl (cW rfl (cW rfl kK)))) ?_ ?_
     ·exact ⟨⟨by omega, by rw [aNn, List.map_append]; exact hR48⟩, M48.keep [true, false, false]⟩
     ·(show N - (i + 1) < N - i; omega)
    ·obtain rfl : i = N := by omega
     refine cO (dC (dA (eV (aC (aD (aD (aA (eC rfl rfl ?_))))))))
     refine bX bAu rfl rfl (yZ _ _ _ _ (nK ls i) (hq.rd hM4 (aV (i := 0) rfl))) ?_
     rintro v49 w49 ⟨rfl, hb49⟩
     have M49 := hM4.callB hb49
     refine bP rfl rfl (aB (aC (aD (aA (aY rfl rfl (cY rfl rfl rfl rfl (aB (aC ?_))))))))
     refine bE rfl (fun h55 => ?_) (fun h55 => ?_)
     ·refine aD (aA (aY rfl rfl (fL rfl rfl (bP rfl rfl (aB (aC (aN (cJ (iK (.slice _ _ _) (.int _ _) rfl rfl ?_)))))))))
      have hd := aZc hfm hN h55
      exact ⟨⟨none, 0, 0, (none, default)⟩, by rw [hd], by rw [hd]; exact aU.nil _ _ _, (M49.keep [false]).dummy default⟩
     ·refine aM (aC (aD (aA (eC rfl rfl (fL rfl rfl (bP rfl rfl (aB (aC (aN (iK (.slice _ _ _) (.int _ _) rfl rfl ?_))))))))))
      have hd := aWd hfm hN (Decidable.not_not.1 h55)
      exact ⟨q, by rw [hd], by rw [hd]; exact hq, M49⟩
set_option maxHeartbeats 4000000 in
theorem aIj (w : World) (A : Option Addr) (n c : Nat) (xs : List Int) (R : Rd w 1 A n (xs.map bK)) (B : Option Addr) (m c' : Nat) (ys : List Int) (R' : Rd w 1 B m (ys.map bK)) :
  Calls Tryz.prog 23 #[.slice A n c, .slice B m c'] w (fun ex w' => ∃ v, ex = .returned v ∧ (fun v w' => v = .bool (decide (xs = ys)) ∧ Below w.heap.size w w') v w') := by
 have hlen : xs.length = n := by simpa using R.len
 have hlen' : ys.length = m := by simpa using R'.len
 have hbd := R.bound
 have hbd' := R'.bound
 refine aH #[.tmp 4] 26 Tryz.func23 rfl Tryz.results23 Tryz.ntmps23 rfl ?_
 have M0 := Mem.refl w
 refine aD (aA (wq (aI (.bool false) rfl) rfl (aB (aC (aD (aD (aA (eC rfl rfl (wq (cR Tryz.underlying31 rfl) rfl (eC rfl rfl ?_))))))))))
 refine wq (cR Tryz.underlying31 rfl) rfl (cY rfl rfl rfl rfl (aB (aC ?_)))
 refine bE rfl (fun h10 => ?_) (fun h10 => ?_)
 ·refine aD (aA (wq (aI (.bool false) rfl) rfl (aB (aC (aN (cJ (cB (.bool false) rfl ?_)))))))
  exact ⟨bF (fun e => h10 (by rw [← hlen, ← hlen', e])), M0.below⟩
 ·have hnm : n = m := by omega
  refine aM (aC (aD (aD (aA (bP rfl rfl (aB (aC (aT (dP (σ := Nat) [0, 1] (fun k => [(5, .int .i64 (k : Int))]) (fun k w' => (k ≤ n ∧ ∀ (j : Nat) (x : Int), j < k → xs[j]? = some x → ys[j]? = some x) ∧ Mem w [] [] w') (fun k => n - k) 0 (bM rfl fD) (⟨⟨by omega, fun j c hj => by omega⟩, M0⟩) ?_)))))))))
  rintro k ρ1 w1 ⟨⟨hk, hne⟩, hM1⟩
  refine aD (aD (aA (aY rfl rfl (eC rfl rfl (wq (cR Tryz.underlying31 rfl) rfl (cY rfl rfl rfl rfl (aB (aC ?_))))))))
  refine bE rfl (fun h14 => ?_) (fun h14 => ?_)
  ·obtain ⟨xb, hxb⟩ := cL (xs := xs) (k := k) hlen (by omega)
   obtain ⟨yb, hyb⟩ := cL (xs := ys) (k := k) hlen' (by omega)
   refine aM (aC (aD (aT (aD (bO [(0, 0), (1, 0), (2, 1), (3, 1), (4, 0), (5, 0), (6, 1), (7, 1), (8, 0)] mixed rfl (by kernel_rfl) (fun w2 hb2 hh2 => ?_))))))
   have M2 := hM1.drew hb2 hh2
   refine DmS rfl rfl rfl (iG rfl rfl rfl (cA rfl rfl rfl (bV (k) lW rfl rfl rfl ((R.mem M2).below_len (aJ bK hxb)) ((R.mem M2).someK (aJ bK hxb))) (cA rfl rfl rfl (gT (.int _ _) aPs (R.mem M2) (aJ bK hxb) rfl) (DmS rfl rfl rfl (iG rfl rfl rfl ?_)))))
   refine cA rfl rfl rfl (bV (k) lW rfl rfl rfl ((R'.mem M2).below_len (aJ bK hyb)) ((R'.mem M2).someK (aJ bK hyb))) (cA rfl rfl rfl (gT (.int _ _) aPs (R'.mem M2) (aJ bK hyb) rfl) (aX rfl rfl rfl (fun _ => dY (.bool (decide _)) rfl rfl rfl) (cF (aC ?_))))
   refine bE rfl (fun h25 => ?_) (fun h25 => ?_)
   ·refine aD (aA (wq (aI (.bool false) rfl) rfl (aB (aC (aN (jN (cJ (uK ?_))))))))
    refine jN (cJ (cB (.bool false) rfl ?_))
    exact ⟨bF (fun e => h25 (by rw [e] at hxb; rw [hxb] at hyb; injection hyb)), M2.below⟩
   ·refine aM (dJ (aC (aA (aY rfl rfl (wq (bQ rfl rfl (by omega) (by omega)) rfl (bP rfl rfl ?_))))))
    refine aB ?_
    refine cT (k + 1) (bM rfl fD) (cW rfl (cW rfl kK)) ?_ ?_
    ·exact ⟨⟨by omega, qO (p := fun j x => ys[j]? = some x) hne hxb (by rw [hyb, Decidable.not_not.1 h25])⟩, M2⟩
    ·omega
  ·refine cO (dC (dA (eV (aC (aD (aA (wq (aI (.bool true) rfl) rfl ?_)))))))
   refine aB (aC (aN (cB (.bool true) rfl ?_)))
   exact ⟨bT (aTj hlen hlen' hnm (fun j x hj hx => hne j x (by omega) hx)), hM1.below⟩
end Go.Proofs.YtaoaknafiegfoaaGreatDoor
