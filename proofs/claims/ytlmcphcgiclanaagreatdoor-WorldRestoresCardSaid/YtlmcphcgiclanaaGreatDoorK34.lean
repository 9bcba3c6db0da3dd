/- Part of the proof of the laws of this seat: SW, C21a, C21b, R21a, R21b, R21c. No conditions. -/
import Derived.Test.YtlmcphcgiclanaaGreatDoorK2
import Derived.Test.YtlmcphcgiclanaaGreatDoorK5
import Derived.Test.YtlmcphcgiclanaaGreatDoorK22
import Derived.Test.YtlmcphcgiclanaaGreatDoorK33
import Derived.Test.YtlmcphcgiclanaaGreatDoorK32
import Derived.Test.YtlmcphcgiclanaaGreatDoorK6
import Derived.Test.YtlmcphcgiclanaaGreatDoorK24
import Derived.Test.YtlmcphcgiclanaaGreatDoorK13
import Derived.Test.YtlmcphcgiclanaaGreatDoorK17
import Derived.Test.YtlmcphcgiclanaaGreatDoorK11
set_option linter.unusedVariables false
set_option linter.unusedSimpArgs false
set_option linter.unnecessarySimpa false
namespace Go.Proofs.YtlmcphcgiclanaaGreatDoor
open Go.Bil
open Go.RowKit (Below)
open Go.Proofs
set_option maxHeartbeats 4000000 in
theorem aMa (w : World) (b : Nat) (A : Option Addr) (n c : Nat) (p : Option Nat) (er em : dR) (m : List Body) (hs : StoreIs 40 A n c p er em m) (hO : Own [(some b, bc [.slice A n c, .map p] 56), er, em] w) (x : Body) :
  Calls Tryz.prog 66 #[.pointer (some ⟨b, 0, none⟩), (.agg (aF x).toArray)] w (fun ex w' => ∃ v, ex = .returned v ∧ (fun v w' => v = .int .i64 (kM m x).2 ∧ ∃ A' n' c' p' er' em', StoreIs 40 A' n' c' p' er' em' (kM m x).1 ∧ Mem w (bS [(some b, bc [.slice A n c, .map p] 56), er, em]) [(some b, bc [.slice A' n' c', .map p'] 56), er', em'] w') v w') := by
 have hlen : m.length = n := by simpa using hs.row.1
 have hcap := hs.cap
 refine aH #[.tmp 4] 62 Tryz.func66 rfl Tryz.results66 Tryz.ntmps66 rfl ?_
 have M0 := hO.mem
 refine aD (aA (bK (.agg (List.toArray _)) M0 rfl rfl rfl (fun b1 w1 M1 => (bJ rfl rfl (aB (aC (aD (aD (aA (wq (aG (.pointer _) rfl) rfl (wq (eB false Tryz.underlying143 rfl rfl) rfl ?_)))))))))))
 refine aB (aC (bX rfl (aK (aC (aD (aD (aA (wq (bA 3 bP M1 rfl rfl rfl) rfl (bV aTx rfl rfl (rB _ x) ?_)))))))))
 rintro v2 w2 ⟨rfl, hb2⟩
 have M2 := M1.callB hb2
 refine bJ rfl rfl (aB (aC (aD (aA (aV rfl rfl (cT rfl rfl rfl rfl (aB (aC ?_))))))))
 refine aW rfl (fun h13 => ?_) (fun h13 => ?_)
 ·refine aD (aA (aV rfl rfl (bJ rfl rfl (aB (aC (aN (cE (cC (.int _ _) rfl ?_))))))))
  have ha : kM m x = (m, check x) := by unfold kM; rw [if_pos h13]
  exact ⟨by rw [ha], A, n, c, p, er, em, by rw [ha]; exact hs, M2.keep [true, true, true, false]⟩
 ·refine aK (aC (aD (aD (bQ [(0, 0), (1, 0), (2, 0), (3, 1), (4, 0), (5, 1), (6, 1), (7, 0), (8, 0), (9, 0), (10, 0), (11, 0)] mixed rfl (by kernel_rfl) (fun w3 hb3 hh3 => ?_)))))
  have M3 := M2.drew hb3 hh3
  refine aY rfl rfl rfl (fun _ => aG (.pointer _) rfl) (aY rfl rfl rfl (fun _ => aL rfl) (aY rfl rfl rfl (fun _ => aE 1 jY rfl) (cD rfl rfl rfl (aM 0 (.map _) qV M3 rfl rfl rfl) (aY rfl rfl rfl (fun _ => aE 0 eZ rfl) (cD rfl rfl rfl (aM 3 (.int _ _) bZ M3 rfl rfl rfl) ?_)))))
  refine cD rfl rfl rfl (sW (enc := (Value.int .i64)) 0 2 uY zv3 M3 rfl hs.map rfl rfl) (aY rfl rfl rfl (fun _ => aG (.tuple (List.toArray _)) rfl) (aY rfl rfl rfl (fun _ => bE (.int _ _) rfl rfl) (aY rfl rfl rfl (fun _ => bE (.bool _) rfl rfl) (pX rfl rfl rfl (aY rfl rfl rfl (fun _ => aI (.bool _) rfl) ?_)))))
  refine cF (aC (aD (aA (wq (aG (.bool _) rfl) rfl (aB (aC ?_))))))
  refine gU _ rfl (fun h25 => ?_) (fun h25 => ?_)
  ·have hf : 0 ≤ cH x.key m := by rw [zL] at h25; exact of_decide_eq_true h25
   refine aD (aA (bJ rfl rfl (aB (aC (aN (cE (cC (.int _ _) rfl ?_)))))))
   have ha : kM m x = (m, 10) := by unfold kM; rw [if_neg h13, if_pos hf]
   exact ⟨by rw [ha], A, n, c, p, er, em, by rw [ha]; exact hs, M3.keep [true, true, true, false]⟩
  ·have hf : ¬ (0 ≤ cH x.key m) := fun h => by rw [zL, decide_eq_true h] at h25; simp at h25
   refine aK (aC (aD (aD (aA (wq (aG (.pointer _) rfl) rfl (wq (aL rfl) rfl (wq (aE 0 fP rfl) rfl (wq (aM 0 (.slice _ _ _) fB M3 rfl rfl rfl) rfl (wq (cM Tryz.underlying22 rfl) rfl ?_)))))))))
   refine cT rfl rfl rfl rfl (aB (aC ?_))
   refine aW rfl (fun h31 => ?_) (fun h31 => ?_)
   ·refine aD (aA (bJ rfl rfl (aB (aC (aN (cE (cC (.int _ _) rfl ?_)))))))
    have ha : kM m x = (m, 12) := by unfold kM; rw [if_neg h13, if_neg hf, if_pos (by omega)]
    exact ⟨by rw [ha], A, n, c, p, er, em, by rw [ha]; exact hs, M3.keep [true, true, true, false]⟩
   ·refine aK (aC (aD (aD (aA (wq (aG (.pointer _) rfl) rfl (wq (aL rfl) rfl (wq (aE 1 jY rfl) rfl (wq (aM 0 (.map _) qV M3 rfl rfl rfl) rfl (wq (aIu _ Tryz.underlying50 rfl rfl) rfl ?_)))))))))
    refine aB (aC ?_)
    refine gU _ rfl (fun h36 => ?_) (fun h36 => ?_)
    ·have hpn : p = none := by cases p <;> simp_all
     have hnone : ∀ k, rO m k = (fun _ => none) k := fun k => by subst hpn; rcases hs.map with ⟨_, _, h⟩ | ⟨_, _, h, _⟩; exact h k; cases h
     refine aA (wq (aG (.pointer _) rfl) rfl (lL M3 rfl rfl (fun b4 w4 M4 => ?_)))
     have M5 := M4.replace (i := 2) (Nat.le_of_ble_eq_true rfl)
     refine wq (aL rfl) rfl (wq (aE 1 jY rfl) rfl (dH 0 (.map _) qV M5 rfl rfl rfl rfl rfl rfl (fun w6 M6 => (aB (aC (aD (bQ [(0, 0), (1, 0), (2, 0), (3, 1), (4, 0), (5, 1), (6, 0), (7, 0), (8, 0), (9, 1), (10, 0), (11, 2)] mixed rfl (by kernel_rfl) (fun w7 hb7 hh7 => ?_))))))))
     have M7 := M6.drew hb7 hh7
     refine aY rfl rfl rfl (fun _ => aG (.pointer _) rfl) (aY rfl rfl rfl (fun _ => aL rfl) (aY rfl rfl rfl (fun _ => aE 1 jY rfl) (cD rfl rfl rfl (aM 0 (.map _) qV M7 rfl rfl rfl) (aY rfl rfl rfl (fun _ => aE 0 eZ rfl) (cD rfl rfl rfl (aM 3 (.int _ _) bZ M7 rfl rfl rfl) ?_)))))
     refine aY rfl rfl rfl (fun _ => aG (.pointer _) rfl) (aY rfl rfl rfl (fun _ => aL rfl) (aY rfl rfl rfl (fun _ => aE 0 fP rfl) (cD rfl rfl rfl (aM 0 (.slice _ _ _) fB M7 rfl rfl rfl) (aY rfl rfl rfl (fun _ => cM Tryz.underlying22 rfl) (dP [true, true, true] rfl (by kernel_rfl) ?_)))))
     refine iA (enc := (Value.int .i64)) 2 uY M7 rfl rfl ((iU.empty _ _ b4).congr hnone) rfl rfl rfl rfl (fun e8 w8 hm8 M8 => ?_)
     refine aB (aC ⟨dQ, ?_⟩)
     refine cF (aC (aD (bQ [(0, 0), (1, 0), (2, 0), (3, 0), (4, 1), (5, 1), (6, 2), (7, 2), (8, 0), (9, 0), (10, 2)] mixed rfl (by kernel_rfl) (fun w9 hb9 hh9 => ?_))))
     have M9 := M8.drew hb9 hh9
     refine aY rfl rfl rfl (fun _ => aG (.pointer _) rfl) (aY rfl rfl rfl (fun _ => aG (.pointer _) rfl) (aY rfl rfl rfl (fun _ => aL rfl) (aY rfl rfl rfl (fun _ => aE 0 fP rfl) (cD rfl rfl rfl (aM 0 (.slice _ _ _) fB M9 rfl rfl rfl) (cD rfl rfl rfl (bA 3 bP M9 rfl rfl rfl) ?_)))))
     refine dP [true, false] rfl (by kernel_rfl) (dC [.agg (List.toArray _)] _ rfl eP M9 rfl rfl rfl rfl (dI rfl) (by decide) (fun b10 w10 M10 => ?_))
     refine aB (aC ⟨(eK (bN rfl (aM 0 (.slice _ _ _) fB M10 rfl rfl rfl)) dQ), ?_⟩)
     refine dP [true] rfl (by kernel_rfl) (eH 1 [aF x] eP M10 rfl rfl rfl rfl rfl hs.row rfl (by simpa using ⟨mK x, mH x⟩) (dD.ofMem 4 M10 rfl) (by omega) (fun A11 c11 e11 w11 M11 hR11 => ?_))
     refine aB (aC ⟨dQ, ?_⟩)
     refine aY rfl rfl rfl (fun _ => aL rfl) (aY rfl rfl rfl (fun _ => aE 0 fP rfl) (dP [] rfl (by kernel_rfl) (dH 0 (.slice _ _ _) fB M11 rfl rfl rfl rfl rfl rfl (fun w12 M12 => ?_))))
     refine aB (aC ⟨dQ, ?_⟩)
     refine cF (aC (aD (aA (bJ rfl rfl (aB (aC (aN (cC (.int _ _) rfl ?_))))))))
     have ha : kM m x = (m ++ [x], 0) := by unfold kM; rw [if_neg h13, if_neg hf, if_neg (by omega)]
     have hall := aMt (x := x) ⟨hs.keys, hs.cap, hs.ok⟩
     rw [ha] at hall
     obtain ⟨hk', hc', ho'⟩ := hall
     have hix := aHo hs.keys (x := x) (by omega)
     rw [hlen] at hix
     exact ⟨by rw [ha], _, _, _, _, _, _, by rw [ha]; exact ⟨(by simpa using hR11), (hm8.congr hix), hk', hc', ho'⟩, M12.keep [true, true, true, false, false]⟩
    ·have hps : p.isSome = true := by cases p <;> simp_all
     refine aK (aC (aD (bQ [(0, 0), (1, 0), (2, 0), (3, 1), (4, 0), (5, 1), (6, 0), (7, 0), (8, 0), (9, 1), (10, 0), (11, 2)] mixed rfl (by kernel_rfl) (fun w13 hb13 hh13 => ?_))))
     have M13 := M3.drew hb13 hh13
     refine aY rfl rfl rfl (fun _ => aG (.pointer _) rfl) (aY rfl rfl rfl (fun _ => aL rfl) (aY rfl rfl rfl (fun _ => aE 1 jY rfl) (cD rfl rfl rfl (aM 0 (.map _) qV M13 rfl rfl rfl) (aY rfl rfl rfl (fun _ => aE 0 eZ rfl) (cD rfl rfl rfl (aM 3 (.int _ _) bZ M13 rfl rfl rfl) ?_)))))
     refine aY rfl rfl rfl (fun _ => aG (.pointer _) rfl) (aY rfl rfl rfl (fun _ => aL rfl) (aY rfl rfl rfl (fun _ => aE 0 fP rfl) (cD rfl rfl rfl (aM 0 (.slice _ _ _) fB M13 rfl rfl rfl) (aY rfl rfl rfl (fun _ => cM Tryz.underlying22 rfl) (dP [true, true, true] rfl (by kernel_rfl) ?_)))))
     refine iA (enc := (Value.int .i64)) 2 uY M13 rfl rfl hs.map hps rfl rfl rfl (fun e14 w14 hm14 M14 => ?_)
     refine aB (aC ⟨dQ, ?_⟩)
     refine cF (aC (aD (bQ [(0, 0), (1, 0), (2, 0), (3, 0), (4, 1), (5, 1), (6, 2), (7, 2), (8, 0), (9, 0), (10, 2)] mixed rfl (by kernel_rfl) (fun w15 hb15 hh15 => ?_))))
     have M15 := M14.drew hb15 hh15
     refine aY rfl rfl rfl (fun _ => aG (.pointer _) rfl) (aY rfl rfl rfl (fun _ => aG (.pointer _) rfl) (aY rfl rfl rfl (fun _ => aL rfl) (aY rfl rfl rfl (fun _ => aE 0 fP rfl) (cD rfl rfl rfl (aM 0 (.slice _ _ _) fB M15 rfl rfl rfl) (cD rfl rfl rfl (bA 3 bP M15 rfl rfl rfl) ?_)))))
     refine dP [true, false] rfl (by kernel_rfl) (dC [.agg (List.toArray _)] _ rfl eP M15 rfl rfl rfl rfl (dI rfl) (by decide) (fun b16 w16 M16 => ?_))
     refine aB (aC ⟨(eK (bN rfl (aM 0 (.slice _ _ _) fB M16 rfl rfl rfl)) dQ), ?_⟩)
     refine dP [true] rfl (by kernel_rfl) (eH 1 [aF x] eP M16 rfl rfl rfl rfl rfl hs.row rfl (by simpa using ⟨mK x, mH x⟩) (dD.ofMem 4 M16 rfl) (by omega) (fun A17 c17 e17 w17 M17 hR17 => ?_))
     refine aB (aC ⟨dQ, ?_⟩)
     refine aY rfl rfl rfl (fun _ => aL rfl) (aY rfl rfl rfl (fun _ => aE 0 fP rfl) (dP [] rfl (by kernel_rfl) (dH 0 (.slice _ _ _) fB M17 rfl rfl rfl rfl rfl rfl (fun w18 M18 => ?_))))
     refine aB (aC ⟨dQ, ?_⟩)
     refine cF (aC (aD (aA (bJ rfl rfl (aB (aC (aN (cC (.int _ _) rfl ?_))))))))
     have ha : kM m x = (m ++ [x], 0) := by unfold kM; rw [if_neg h13, if_neg hf, if_neg (by omega)]
     have hall := aMt (x := x) ⟨hs.keys, hs.cap, hs.ok⟩
     rw [ha] at hall
     obtain ⟨hk', hc', ho'⟩ := hall
     have hix := aHo hs.keys (x := x) (by omega)
     rw [hlen] at hix
     exact ⟨by rw [ha], _, _, _, _, _, _, by rw [ha]; exact ⟨(by simpa using hR17), (hm14.congr hix), hk', hc', ho'⟩, M18.keep [true, true, true, false, false]⟩
set_option maxHeartbeats 4000000 in
theorem aXe (w : World) (b : Nat) (A : Option Addr) (n c : Nat) (p : Option Nat) (er em : dR) (m : List Body) (hs : StoreIs 40 A n c p er em m) (hO : Own [(some b, bc [.slice A n c, .map p] 56), er, em] w) (key : Int) :
  Calls Tryz.prog 70 #[.pointer (some ⟨b, 0, none⟩), .int .u32 key] w (fun ex w' => ∃ v, ex = .returned v ∧ (fun v w' => (∃ x, v = .tuple #[.agg (aF x).toArray, .int .i64 (zQ m key).2] ∧ x = (zQ m key).1) ∧ Mem w (bS [(some b, bc [.slice A n c, .map p] 56), er, em]) [(some b, bc [.slice A n c, .map p] 56), er, em] w') v w') := by
 have hlen : m.length = n := by simpa using hs.row.1
 have hcap := hs.cap
 refine aH #[.cell 4 40, .tmp 5] 30 Tryz.func70 rfl Tryz.results70 Tryz.ntmps70 rfl ?_
 have M0 := hO.mem
 refine aD (aA (aR gI M0 rfl rfl (fun b1 w1 M1 => (bJ rfl rfl (aB (aC (aD (aD (aA (wq (aG (.pointer _) rfl) rfl (wq (eB false Tryz.underlying143 rfl rfl) rfl ?_)))))))))))
 refine aB (aC (bX rfl (aK (aC (aD (aA (wq (aG (.pointer _) rfl) rfl (wq (aL rfl) rfl (wq (aE 1 jY rfl) rfl ?_)))))))))
 refine wq (aM 0 (.map _) qV M1 rfl rfl rfl) rfl (aV rfl rfl (wq (sW (enc := (Value.int .i64)) 0 2 uY zv3 M1 rfl hs.map rfl rfl) rfl (wq (aG (.tuple (List.toArray _)) rfl) rfl (wq (bE (.int _ _) rfl rfl) rfl (wq (bE (.bool _) rfl rfl) rfl ?_)))))
 refine bJ rfl rfl (wq (aI (.bool _) rfl) rfl (aB (aC (aD (aD (aA (wq (aG (.bool _) rfl) rfl (wq (fY _ rfl rfl) rfl (aB (aC ?_))))))))))
 refine gU _ rfl (fun h21 => ?_) (fun h21 => ?_)
 ·have hi : rO m key = none := by cases h : rO m key <;> simp_all
  refine aD (aA (wq (cN [] _ pC rfl rfl) rfl (bC 3 _ bP M1 rfl rfl rfl rfl rfl (aQ rfl) rfl (fun w2 M2 => (bJ rfl rfl (aB (aC (aN (cE (aCe (v2 := .int _ _) 3 bP M2 rfl rfl rfl rfl ?_))))))))))
  exact ⟨⟨⟨0, 0, 0, 0, 0, 0, 0, 0, 0, 0⟩, by rw [aCd hi]; rfl, by rw [aCd hi]⟩, M2.keep [true, true, true, false]⟩
 ·rcases jP key m with ⟨hi, _⟩ | ⟨i, bi, hbi, hbk, hi⟩
  ·simp [hi] at h21
  refine aK (aC (aD (aA (wq (aG (.pointer _) rfl) rfl (wq (aL rfl) rfl (wq (aE 0 fP rfl) rfl (wq (aM 0 (.slice _ _ _) fB M1 rfl rfl rfl) rfl (aV rfl rfl ?_))))))))
  refine wq (bO (i) eP rfl rfl (by rw [hi]; rfl) ((hs.row.rd M1 (aZ (i := 1) rfl)).below_len (aJ aF hbi)) ((hs.row.rd M1 (aZ (i := 1) rfl)).someK (aJ aF hbi))) rfl (wq (cZ _ bP (hs.row.rd M1 (aZ (i := 1) rfl)) (aJ aF hbi) rfl) rfl (bC 3 _ bP M1 rfl rfl rfl rfl rfl (aQ rfl) rfl (fun w3 M3 => ?_)))
  refine bJ rfl rfl (aB (aC (aN (aCe (v2 := .int _ _) 3 bP M3 rfl rfl rfl rfl ?_))))
  exact ⟨⟨bi, by rw [tM hi hbi], by rw [tM hi hbi]⟩, M3.keep [true, true, true, false]⟩
set_option maxHeartbeats 4000000 in
theorem aVv (w : World) (b : Nat) (A : Option Addr) (n c : Nat) (p : Option Nat) (er em : dR) (m : List Body) (hs : StoreIs 40 A n c p er em m) (hO : Own [(some b, bc [.slice A n c, .map p] 56), er, em] w) (x : Body) :
  Calls Tryz.prog 88 #[.pointer (some ⟨b, 0, none⟩), (.agg (aF x).toArray)] w (fun ex w' => ∃ v, ex = .returned v ∧ (fun v w' => v = .int .i64 (rC m x).2 ∧ ∃ A' n' c' p' er' em', StoreIs 40 A' n' c' p' er' em' (rC m x).1 ∧ Mem w (bS [(some b, bc [.slice A n c, .map p] 56), er, em]) [(some b, bc [.slice A' n' c', .map p'] 56), er', em'] w') v w') := by
 have hlen : m.length = n := by simpa using hs.row.1
 have hcap := hs.cap
 refine aH #[.tmp 4] 34 Tryz.func88 rfl Tryz.results88 Tryz.ntmps88 rfl ?_
 have M0 := hO.mem
 refine aD (aA (bK (.agg (List.toArray _)) M0 rfl rfl rfl (fun b1 w1 M1 => (bJ rfl rfl (aB (aC (aD (aD (aA (wq (aG (.pointer _) rfl) rfl (wq (eB false Tryz.underlying143 rfl rfl) rfl ?_)))))))))))
 refine aB (aC (bX rfl (aK (aC (aD (aD (aA (wq (bA 3 bP M1 rfl rfl rfl) rfl (bV aTx rfl rfl (rB _ x) ?_)))))))))
 rintro v2 w2 ⟨rfl, hb2⟩
 have M2 := M1.callB hb2
 refine bJ rfl rfl (aB (aC (aD (aA (aV rfl rfl (cT rfl rfl rfl rfl (aB (aC ?_))))))))
 refine aW rfl (fun h13 => ?_) (fun h13 => ?_)
 ·refine aD (aA (aV rfl rfl (bJ rfl rfl (aB (aC (aN (cE (cC (.int _ _) rfl ?_))))))))
  have ha : rC m x = (m, check x) := by unfold rC; rw [if_pos h13]
  exact ⟨by rw [ha], A, n, c, p, er, em, by rw [ha]; exact hs, M2.keep [true, true, true, false]⟩
 ·refine aK (aC (aD (bQ [(0, 0), (1, 0), (2, 0), (3, 1), (4, 0), (5, 1), (6, 1), (7, 0), (8, 0), (9, 0), (10, 0), (11, 0)] mixed rfl (by kernel_rfl) (fun w3 hb3 hh3 => ?_))))
  have M3 := M2.drew hb3 hh3
  refine aY rfl rfl rfl (fun _ => aG (.pointer _) rfl) (aY rfl rfl rfl (fun _ => aL rfl) (aY rfl rfl rfl (fun _ => aE 1 jY rfl) (cD rfl rfl rfl (aM 0 (.map _) qV M3 rfl rfl rfl) (aY rfl rfl rfl (fun _ => aE 0 eZ rfl) (cD rfl rfl rfl (aM 3 (.int _ _) bZ M3 rfl rfl rfl) ?_)))))
  refine cD rfl rfl rfl (sW (enc := (Value.int .i64)) 0 2 uY zv3 M3 rfl hs.map rfl rfl) (aY rfl rfl rfl (fun _ => aG (.tuple (List.toArray _)) rfl) (aY rfl rfl rfl (fun _ => bE (.int _ _) rfl rfl) (aY rfl rfl rfl (fun _ => bE (.bool _) rfl rfl) (pX rfl rfl rfl (aY rfl rfl rfl (fun _ => aI (.bool _) rfl) ?_)))))
  refine cF (aC (aD (aD (aA (wq (aG (.bool _) rfl) rfl (wq (fY _ rfl rfl) rfl (aB (aC ?_))))))))
  refine gU _ rfl (fun h26 => ?_) (fun h26 => ?_)
  ·have hi : rO m x.key = none := by cases h : rO m x.key <;> simp_all
   refine aD (aA (bJ rfl rfl (aB (aC (aN (cE (cC (.int _ _) rfl ?_)))))))
   have ha : rC m x = (m, 11) := by unfold rC; rw [if_neg h13, if_pos (by rw [iC, hi]; decide)]
   exact ⟨by rw [ha], A, n, c, p, er, em, by rw [ha]; exact hs, M3.keep [true, true, true, false]⟩
  ·rcases jP x.key m with ⟨hi, _⟩ | ⟨i, bi, hbi, hbk, hi⟩
   ·simp [hi] at h26
   refine aK (aC (aD (bQ [(0, 0), (1, 0), (2, 0), (3, 1), (4, 0), (5, 1), (6, 1), (7, 2)] mixed rfl (by kernel_rfl) (fun w4 hb4 hh4 => ?_))))
   have M4 := M3.drew hb4 hh4
   refine aY rfl rfl rfl (fun _ => aG (.pointer _) rfl) (aY rfl rfl rfl (fun _ => aL rfl) (aY rfl rfl rfl (fun _ => aE 0 fP rfl) (cD rfl rfl rfl (aM 0 (.slice _ _ _) fB M4 rfl rfl rfl) (gG rfl rfl rfl (cD rfl rfl rfl (bA 3 bP M4 rfl rfl rfl) ?_)))))
   refine cD rfl rfl rfl (bO (i) eP rfl rfl (by rw [hi]; rfl) ((hs.row.rd M4 (aZ (i := 1) rfl)).below_len (aJ aF hbi)) ((hs.row.rd M4 (aZ (i := 1) rfl)).someK (aJ aF hbi))) (dP [true, true, true] rfl (by kernel_rfl) (aDa 1 _ bP M4 rfl hs.row (aJ aF hbi) rfl rfl rfl rfl (aQ rfl) (fun e5 w5 hR5 M5 => ?_)))
   have hQ5 := hR5.mapSet (f := aF) (x := x) rfl
   refine aB (aC ⟨dQ, ?_⟩)
   refine cF (aC (aD (aA (bJ rfl rfl (aB (aC (aN (cC (.int _ _) rfl ?_))))))))
   have ha : rC m x = (m.set i x, 0) := by unfold rC; rw [if_neg h13, iC, hi]; simp only []; rw [if_neg (by omega), Int.toNat_natCast]
   exact ⟨by rw [ha], _, _, _, _, _, _, by rw [ha]; exact hs.put hbi hbk.symm (by omega) hQ5, M5.keep [true, true, true, false]⟩
set_option maxHeartbeats 4000000 in
theorem aJl (w : World) (b : Nat) (A : Option Addr) (n c : Nat) (p : Option Nat) (er em : dR) (m : List Body) (hs : StoreIs 40 A n c p er em m) (hO : Own [(some b, bc [.slice A n c, .map p] 56), er, em] w) (key : Int) :
  Calls Tryz.prog 89 #[.pointer (some ⟨b, 0, none⟩), .int .u32 key] w (fun ex w' => ∃ v, ex = .returned v ∧ (fun v w' => v = .int .i64 (iS m key).2 ∧ ∃ A' n' c' p' er' em', StoreIs 40 A' n' c' p' er' em' (iS m key).1 ∧ Mem w (bS [(some b, bc [.slice A n c, .map p] 56), er, em]) [(some b, bc [.slice A' n' c', .map p'] 56), er', em'] w') v w') := by
 have hlen : m.length = n := by simpa using hs.row.1
 have hcap := hs.cap
 refine aH #[.tmp 4] 67 Tryz.func89 rfl Tryz.results89 Tryz.ntmps89 rfl ?_
 have M0 := hO.mem
 refine aD (aA (bJ rfl rfl (aB (aC (aD (aD (aA (wq (aG (.pointer _) rfl) rfl (wq (eB false Tryz.underlying143 rfl rfl) rfl (aB (aC ?_)))))))))))
 refine bX rfl (aK (aC (aD (aA (wq (aG (.pointer _) rfl) rfl (wq (aL rfl) rfl (wq (aE 1 jY rfl) rfl (wq (aM 0 (.map _) qV M0 rfl rfl rfl) rfl ?_))))))))
 refine aV rfl rfl (wq (sW (enc := (Value.int .i64)) 0 2 uY zv3 M0 rfl hs.map rfl rfl) rfl (wq (aG (.tuple (List.toArray _)) rfl) rfl (wq (bE (.int _ _) rfl rfl) rfl (wq (bE (.bool _) rfl rfl) rfl (bJ rfl rfl ?_)))))
 refine wq (aI (.bool _) rfl) rfl (aB (aC (aD (aD (aA (wq (aG (.bool _) rfl) rfl (wq (fY _ rfl rfl) rfl (aB (aC ?_)))))))))
 refine gU _ rfl (fun h20 => ?_) (fun h20 => ?_)
 ·have hi : rO m key = none := by cases h : rO m key <;> simp_all
  refine aD (aA (bJ rfl rfl (aB (aC (aN (cE (cC (.int _ _) rfl ?_)))))))
  have ha : iS m key = (m, 11) := by unfold iS; rw [if_pos (by rw [iC, hi]; decide)]
  exact ⟨by rw [ha], A, n, c, p, er, em, by rw [ha]; exact hs, M0.keep [true, true, true]⟩
 ·rcases jP key m with ⟨hi, _⟩ | ⟨i, bi, hbi, hbk, hi⟩
  ·simp [hi] at h20
  have hilt : i < m.length := (List.getElem?_eq_some_iff.1 hbi).1
  obtain ⟨bl, hbl⟩ := cI (xs := m) (k := n - 1) rfl (by omega)
  have hps : p.isSome = true := hs.map.isSome hi
  refine aK (aC (aD (aA (wq (aG (.pointer _) rfl) rfl (wq (aL rfl) rfl (wq (aE 0 fP rfl) rfl (wq (aM 0 (.slice _ _ _) fB M0 rfl rfl rfl) rfl (wq (cM Tryz.underlying22 rfl) rfl ?_))))))))
  refine wq (nE rfl rfl (by omega) (by omega)) rfl (bJ rfl rfl (aB (aC (aD (bQ [(0, 0), (1, 0), (2, 0), (3, 1), (4, 0), (5, 0), (6, 0), (7, 0), (8, 1), (9, 0), (10, 1), (11, 1), (12, 1), (13, 2)] mixed rfl (by kernel_rfl) (fun w1 hb1 hh1 => ?_))))))
  have M1 := M0.drew hb1 hh1
  refine aY rfl rfl rfl (fun _ => aG (.pointer _) rfl) (aY rfl rfl rfl (fun _ => aL rfl) (aY rfl rfl rfl (fun _ => aE 0 fP rfl) (cD rfl rfl rfl (aM 0 (.slice _ _ _) fB M1 rfl rfl rfl) (gG rfl rfl rfl (aY rfl rfl rfl (fun _ => aG (.pointer _) rfl) ?_)))))
  refine aY rfl rfl rfl (fun _ => aL rfl) (aY rfl rfl rfl (fun _ => aE 0 fP rfl) (cD rfl rfl rfl (aM 0 (.slice _ _ _) fB M1 rfl rfl rfl) (gG rfl rfl rfl (cD rfl rfl rfl (bO (n - 1) eP rfl rfl (by omega) ((hs.row.rd M1 (aZ (i := 1) rfl)).below_len (aJ aF hbl)) ((hs.row.rd M1 (aZ (i := 1) rfl)).someK (aJ aF hbl))) ?_))))
  refine cD rfl rfl rfl (cZ _ bP (hs.row.rd M1 (aZ (i := 1) rfl)) (aJ aF hbl) rfl) (cD rfl rfl rfl (bO (i) eP rfl rfl (by rw [hi]; rfl) ((hs.row.rd M1 (aZ (i := 1) rfl)).below_len (aJ aF hbi)) ((hs.row.rd M1 (aZ (i := 1) rfl)).someK (aJ aF hbi))) (dP [true, true, true, true, true] rfl (by kernel_rfl) ?_))
  refine aDa 1 _ bP M1 rfl hs.row (aJ aF hbi) rfl rfl rfl rfl (aQ rfl) (fun e2 w2 hR2 M2 => ?_)
  have hQ2 := hR2.mapSet (f := aF) (x := bl) rfl
  refine aB (aC ⟨dQ, ?_⟩)
  refine cF (aC (aD (bQ [(0, 0), (1, 0), (2, 0), (3, 1), (4, 0), (5, 0), (6, 0), (7, 1), (8, 0), (9, 1), (10, 1), (11, 1), (12, 0), (13, 2)] mixed rfl (by kernel_rfl) (fun w3 hb3 hh3 => ?_))))
  have M3 := M2.drew hb3 hh3
  refine aY rfl rfl rfl (fun _ => aG (.pointer _) rfl) (aY rfl rfl rfl (fun _ => aL rfl) (aY rfl rfl rfl (fun _ => aE 1 jY rfl) (cD rfl rfl rfl (aM 0 (.map _) qV M3 rfl rfl rfl) (aY rfl rfl rfl (fun _ => aG (.pointer _) rfl) (aY rfl rfl rfl (fun _ => aL rfl) ?_)))))
  refine aY rfl rfl rfl (fun _ => aE 0 fP rfl) (cD rfl rfl rfl (aM 0 (.slice _ _ _) fB M3 rfl rfl rfl) (gG rfl rfl rfl ?_))
  refine cD rfl rfl rfl (bO (i) eP rfl rfl (by rw [hi]; rfl) ((hQ2.rd M3 (aZ (i := 1) rfl)).below_len (aJ aF (by rw [List.getElem?_set_self hilt] : (m.set i bl)[i]? = some bl))) ((hQ2.rd M3 (aZ (i := 1) rfl)).someK (aJ aF (by rw [List.getElem?_set_self hilt] : (m.set i bl)[i]? = some bl)))) ?_
  refine cD rfl rfl rfl (bR 0 eZ (hQ2.rd M3 (aZ (i := 1) rfl)) (Nat.lt_of_le_of_lt (Nat.zero_le _) ((hQ2.rd M3 (aZ (i := 1) rfl)).below_len (aJ aF (by rw [List.getElem?_set_self hilt] : (m.set i bl)[i]? = some bl)))) rfl) ?_
  refine cD rfl rfl rfl (eQ (o := 0) (.int _ _) bZ (hQ2.rd M3 (aZ (i := 1) rfl)) (aJ aF (by rw [List.getElem?_set_self hilt] : (m.set i bl)[i]? = some bl)) rfl rfl) ?_
  refine gG rfl rfl rfl (dP [true, true, true, true, true] rfl (by kernel_rfl) (iA (enc := (Value.int .i64)) 2 uY M3 rfl rfl hs.map hps rfl rfl rfl (fun e4 w4 hm4 M4 => ?_)))
  refine aB (aC ⟨dQ, ?_⟩)
  refine cF (aC (aD (aA (wq (aG (.pointer _) rfl) rfl (wq (aG (.pointer _) rfl) rfl (wq (aL rfl) rfl (wq (aE 0 fP rfl) rfl ?_)))))))
  refine wq (aM 0 (.slice _ _ _) fB M4 rfl rfl rfl) rfl (aV rfl rfl (wq (fN (0) (((n : Int) - 1)) eP rfl rfl ⟨_, rfl⟩ (by decide) (by omega) (by have := hs.row.slice; omega)) rfl (wq (aL rfl) rfl (wq (aE 0 fP rfl) rfl (dH 0 (.slice _ _ _) fB M4 rfl rfl rfl rfl rfl rfl (fun w5 M5 => ?_))))))
  refine aB (aC (aD (aA (wq (aG (.pointer _) rfl) rfl (wq (aL rfl) rfl (wq (aE 1 jY rfl) rfl (wq (aM 0 (.map _) qV M5 rfl rfl rfl) rfl (aV rfl rfl ?_))))))))
  refine aOp (enc := (Value.int .i64)) 2 uY M5 rfl rfl hm4 hps rfl rfl (fun e6 w6 hm6 M6 => (aB (aC (aD (aA (bJ rfl rfl (aB (aC (aN (cC (.int _ _) rfl ?_))))))))))
  have ha : iS m key = (uF m i, 0) := by unfold iS; rw [iC, hi]; simp only []; rw [if_neg (by omega), Int.toNat_natCast]
  have hn1 : ((n : Int) - 1).toNat = n - 1 := by omega
  exact ⟨by rw [ha], _, _, _, _, _, _, by rw [ha]; exact hs.cut hbi hbk (by rw [hlen]; exact hbl) (by rw [hi]; rfl) (by omega) hQ2 hm6, M6.keep [true, true, true]⟩
set_option maxHeartbeats 4000000 in
theorem aKa (w : World) (b : Nat) (A : Option Addr) (n c : Nat) (p : Option Nat) (er em : dR) (m : List Body) (hs : StoreIs 40 A n c p er em m) (hO : Own [(some b, bc [.slice A n c, .map p] 56), er, em] w) :
  Calls Tryz.prog 64 #[.pointer (some ⟨b, 0, none⟩)] w (fun ex w' => ∃ v, ex = .returned v ∧ (fun v w' => ∃ A' n' c' e', v = .slice A' n' c' ∧ aX 40 10 A' n' c' ((vI m).map aF) e' ∧ Mem w (bS [(some b, bc [.slice A n c, .map p] 56), er, em]) [(some b, bc [.slice A n c, .map p] 56), er, em, e'] w') v w') := by
 have hlen : m.length = n := by simpa using hs.row.1
 have hcap := hs.cap
 refine aH #[.tmp 2] 14 Tryz.func64 rfl Tryz.results64 Tryz.ntmps64 rfl ?_
 have M0 := hO.mem
 refine aD (aA (gC rfl rfl (aB (aC (aD (aD (aA (wq (aG (.pointer _) rfl) rfl (wq (eB false Tryz.underlying143 rfl rfl) rfl (aB (aC ?_)))))))))))
 refine bX rfl (aK (aC (aD (aA (wq (aG (.pointer _) rfl) rfl (wq (aL rfl) rfl (wq (aE 0 fP rfl) rfl (wq (aM 0 (.slice _ _ _) fB M0 rfl rfl rfl) rfl ?_))))))))
 refine bV bFu rfl rfl (aAm _ _ _ _ _ (hs.row.rd M0 (aZ (i := 1) rfl)) (aJf m) (by omega)) ?_
 rintro v1 w1 ⟨A1, n1, c1, e1, rfl, hR1, hM1, _⟩
 have M1 : Mem _ _ [_, _, _, _] _ := M0.call0 hM1
 have hn1 : n1 = m.length := by simpa using hR1.1.symm
 refine gC rfl rfl (aB (aC (aD (aA (eF rfl rfl (bV bFm rfl rfl (vR 96 bEy vS _ _ _ _ m _ hR1 (M1.ownAt (i := 3) rfl) (by omega)) ?_))))))
 rintro v2 w2 ⟨rfl, ys2, e2, hp2, hu2, hR2, hM2⟩
 have M2 : Mem _ _ [_, _, _, _] _ := M1.seg 3 1 hM2
 have hys : ys2 = vI m := aOo hu2 (zE m) (hp2.trans (lC m).symm) (hs.keys.perm hp2)
 rw [hys] at hR2
 refine aB (aC (aD (aA (eF rfl rfl (gC rfl rfl (aB (aC (aN (cC (.slice _ _ _) rfl ?_)))))))))
 exact ⟨_, _, _, _, rfl, hR2, M2⟩
theorem iF {x : Int} (h : 0 ≤ x ∧ x ≤ 4294967295) : IntKind.wrap .i32 x = mO x := by
 unfold mO
 simp [IntKind.wrap, IntKind.bits, IntKind.signed]
 split <;> split <;> omega
set_option maxHeartbeats 4000000 in
theorem aAt (w : World) (r : Row) (xs : List Int) (hr : aX 5 1 r.A r.n r.c ((xs).map bY) r.e) (n : Int) (hn : 0 ≤ n ∧ n ≤ 4294967295) (hl : r.n ≤ 1048576) (hO : Own [r.e] w) :
  Calls Tryz.prog 100 #[.slice r.A r.n r.c, .int .u32 n] w (fun ex w' => ∃ v, ex = .returned v ∧ (fun v w' => ∃ q : Row, v = .slice q.A q.n q.c ∧ q.n = r.n + 4 ∧ aX 5 1 q.A q.n q.c ((xs ++ cB n).map bY) q.e ∧ Mem w (bS [r.e]) [q.e] w') v w') := by
 refine aH #[.tmp 4] 19 Tryz.func100 rfl Tryz.results100 Tryz.ntmps100 rfl ?_
 have M0 := hO.mem
 refine aD (aA (gC rfl rfl (aB (aC (aD (aA (eF rfl rfl (aV rfl rfl (wq (gH rfl rfl (by decide)) rfl ?_)))))))))
 refine aT 7 (.int .u32 (n / 16777216)) (iE (aXj n)) (wq (dT qZ Tryz.underlying5 rfl) rfl (aT 8 (.int .u8 (n / 16777216 % 256)) (iE (wr8 _)) (aV rfl rfl (wq (gH rfl rfl (by decide)) rfl (aT 10 (.int .u32 (n / 65536)) (iE (aVp n)) ?_)))))
 refine wq (dT qZ Tryz.underlying5 rfl) rfl (aT 11 (.int .u8 (n / 65536 % 256)) (iE (wr8 _)) (aV rfl rfl (wq (gH rfl rfl (by decide)) rfl (aT 13 (.int .u32 (n / 256)) (iE (bDb n)) (wq (dT qZ Tryz.underlying5 rfl) rfl ?_)))))
 refine aT 14 (.int .u8 (n / 256 % 256)) (iE (wr8 _)) (aV rfl rfl (wq (dT qZ Tryz.underlying5 rfl) rfl (aT 16 (.int .u8 (n % 256)) (iE (wr8 _)) (dC [.int _ _, .int _ _, .int _ _, .int _ _] ((cB n).map bY) rfl kI M0 rfl rfl rfl rfl (dI rfl) (by decide) (fun b1 w1 M1 => (eH 0 ((cB n).map bY) kI M1 rfl rfl rfl rfl rfl hr rfl (by simp [cB, bY, Go.Bil.one]) (dD.ofMem 1 M1 rfl) (by omega) (fun A2 c2 e2 w2 M2 hR2 => ?_)))))))
 refine gC rfl rfl (aB (aC (aN (cC (.slice _ _ _) rfl ?_))))
 exact ⟨⟨A2, _, c2, e2⟩, rfl, rfl, by rw [List.map_append]; exact hR2, M2.keep [true, false]⟩
set_option maxHeartbeats 4000000 in
theorem fI (w : World) (x : Int) :
  Calls Tryz.prog 130 #[.int .i32 x] w (fun ex w' => ∃ v, ex = .returned v ∧ (fun v w' => v = .int .u32 (x % 4294967296) ∧ Below w.heap.size w w') v w') := by
 refine aH #[.tmp 2] 5 Tryz.func130 rfl Tryz.results130 Tryz.ntmps130 rfl ?_
 have M0 := Mem.refl w
 refine aD (aA (bJ rfl rfl (aB (aC (aD (aA (aV rfl rfl (wq (dT fL Tryz.underlying36 rfl) rfl (aT 4 (.int .u32 (x % 4294967296)) (iE (aTh _)) ?_)))))))))
 refine bJ rfl rfl (aB (aC (aN (cC (.int _ _) rfl ?_))))
 exact ⟨rfl, M0.below⟩
set_option maxHeartbeats 4000000 in
theorem aJz (w : World) (b : Body) :
  Calls Tryz.prog 101 #[(.agg (aF b).toArray)] w (fun ex w' => ∃ v, ex = .returned v ∧ (fun v w' => v = .agg ((vA b).map (Value.int .u32)).toArray ∧ Below w.heap.size w w') v w') := by
 refine aH #[.cell 2 150] 49 Tryz.func101 rfl Tryz.results101 Tryz.ntmps101 rfl ?_
 have M0 := Mem.refl w
 refine aD (aA (bK (.agg (List.toArray _)) M0 rfl rfl rfl (fun b1 w1 M1 => (aR aDu M1 rfl rfl (fun b2 w2 M2 => (aB (aC (aD (aA (wq (aI (.func _ _ _) rfl) rfl (aB (aC (aD ?_)))))))))))))
 refine bQ [(0, 0), (1, 1), (2, 0), (3, 0), (4, 1), (6, 0), (7, 0), (8, 0), (9, 1), (11, 0), (12, 0), (13, 0), (14, 1), (16, 0), (17, 0), (18, 1), (20, 0), (21, 0), (22, 1), (24, 0), (25, 0), (26, 0), (27, 1), (29, 0), (30, 0), (31, 0), (32, 1), (34, 0), (35, 0), (36, 0), (37, 1), (39, 0), (40, 0), (41, 0), (42, 1), (5, 2), (10, 2), (15, 2), (19, 2), (23, 2), (28, 2), (33, 2), (38, 2), (43, 2), (44, 0), (45, 2)] mixed rfl (by kernel_rfl) (fun w3 hb3 hh3 => ?_)
 have M3 := M2.drew hb3 hh3
 refine aY rfl rfl rfl (fun _ => aE 0 eZ rfl) (cD rfl rfl rfl (aM 0 (.int _ _) bZ M3 rfl rfl rfl) (aY rfl rfl rfl (fun _ => aG (.func _ _ _) rfl) (aY rfl rfl rfl (fun _ => aE 1 nN rfl) (cD rfl rfl rfl (aM 0 (.int _ _) aU M3 rfl rfl rfl) (aY rfl rfl rfl (fun _ => aG (.func _ _ _) rfl) ?_)))))
 refine aY rfl rfl rfl (fun _ => aE 2 kW rfl) (aY rfl rfl rfl (fun _ => aE 0 dU rfl) (cD rfl rfl rfl (aM 0 (.int _ _) aU M3 rfl rfl rfl) (aY rfl rfl rfl (fun _ => aG (.func _ _ _) rfl) (aY rfl rfl rfl (fun _ => aE 2 kW rfl) (aY rfl rfl rfl (fun _ => aE 1 dN rfl) ?_)))))
 refine cD rfl rfl rfl (aM 0 (.int _ _) aU M3 rfl rfl rfl) (aY rfl rfl rfl (fun _ => aG (.func _ _ _) rfl) (aY rfl rfl rfl (fun _ => aE 4 fF rfl) (cD rfl rfl rfl (aM 0 (.int _ _) aU M3 rfl rfl rfl) (aY rfl rfl rfl (fun _ => aG (.func _ _ _) rfl) (aY rfl rfl rfl (fun _ => aE 5 sK rfl) ?_)))))
 refine cD rfl rfl rfl (aM 0 (.int _ _) aU M3 rfl rfl rfl) (aY rfl rfl rfl (fun _ => aG (.func _ _ _) rfl) (aY rfl rfl rfl (fun _ => aE 6 fX rfl) (aY rfl rfl rfl (fun _ => aE 0 dU rfl) (cD rfl rfl rfl (aM 0 (.int _ _) aU M3 rfl rfl rfl) (aY rfl rfl rfl (fun _ => aG (.func _ _ _) rfl) ?_)))))
 refine aY rfl rfl rfl (fun _ => aE 6 fX rfl) (aY rfl rfl rfl (fun _ => aE 1 dN rfl) (cD rfl rfl rfl (aM 0 (.int _ _) aU M3 rfl rfl rfl) (aY rfl rfl rfl (fun _ => aG (.func _ _ _) rfl) (aY rfl rfl rfl (fun _ => aE 8 fG rfl) (aY rfl rfl rfl (fun _ => aE 0 dU rfl) ?_)))))
 refine cD rfl rfl rfl (aM 0 (.int _ _) aU M3 rfl rfl rfl) (aY rfl rfl rfl (fun _ => aG (.func _ _ _) rfl) (aY rfl rfl rfl (fun _ => aE 8 fG rfl) (aY rfl rfl rfl (fun _ => aE 1 dN rfl) (cD rfl rfl rfl (aM 0 (.int _ _) aU M3 rfl rfl rfl) (dP [false, false, false, false, false, false, false, false, true, false] rfl (by kernel_rfl) ?_)))))
 refine bV nS rfl rfl (fI _ b.radius) ?_
 rintro v4 w4 ⟨rfl, hb4⟩
 have M4 := M3.callB hb4
 refine aB (aC ⟨(eK (bN rfl (aM 0 (.int _ _) aU M4 rfl rfl rfl)) (eK (bN rfl (aM 0 (.int _ _) aU M4 rfl rfl rfl)) (eK (bN rfl (aM 0 (.int _ _) aU M4 rfl rfl rfl)) (eK (bN rfl (aM 0 (.int _ _) aU M4 rfl rfl rfl)) (eK (bN rfl (aM 0 (.int _ _) aU M4 rfl rfl rfl)) (eK (bN rfl (aM 0 (.int _ _) aU M4 rfl rfl rfl)) (eK (bN rfl (aM 0 (.int _ _) aU M4 rfl rfl rfl)) (eK (bN rfl (aM 0 (.int _ _) aU M4 rfl rfl rfl)) (eK (bN rfl (aM 0 (.int _ _) bZ M4 rfl rfl rfl)) dQ))))))))), ?_⟩)
 refine dP [false, false, false, false, false, false, false, true, false] rfl (by kernel_rfl) (bV nS rfl rfl (fI _ b.ax) ?_)
 rintro v5 w5 ⟨rfl, hb5⟩
 have M5 := M4.callB hb5
 refine aB (aC ⟨(eK (bN rfl (aM 0 (.int _ _) aU M5 rfl rfl rfl)) (eK (bN rfl (aM 0 (.int _ _) aU M5 rfl rfl rfl)) (eK (bN rfl (aM 0 (.int _ _) aU M5 rfl rfl rfl)) (eK (bN rfl (aM 0 (.int _ _) aU M5 rfl rfl rfl)) (eK (bN rfl (aM 0 (.int _ _) aU M5 rfl rfl rfl)) (eK (bN rfl (aM 0 (.int _ _) aU M5 rfl rfl rfl)) (eK (bN rfl (aM 0 (.int _ _) aU M5 rfl rfl rfl)) (eK (bN rfl (aM 0 (.int _ _) bZ M5 rfl rfl rfl)) dQ)))))))), ?_⟩)
 refine dP [false, false, false, false, false, false, true, false] rfl (by kernel_rfl) (bV nS rfl rfl (fI _ b.ay) ?_)
 rintro v6 w6 ⟨rfl, hb6⟩
 have M6 := M5.callB hb6
 refine aB (aC ⟨(eK (bN rfl (aM 0 (.int _ _) aU M6 rfl rfl rfl)) (eK (bN rfl (aM 0 (.int _ _) aU M6 rfl rfl rfl)) (eK (bN rfl (aM 0 (.int _ _) aU M6 rfl rfl rfl)) (eK (bN rfl (aM 0 (.int _ _) aU M6 rfl rfl rfl)) (eK (bN rfl (aM 0 (.int _ _) aU M6 rfl rfl rfl)) (eK (bN rfl (aM 0 (.int _ _) aU M6 rfl rfl rfl)) (eK (bN rfl (aM 0 (.int _ _) bZ M6 rfl rfl rfl)) dQ))))))), ?_⟩)
 refine dP [false, false, false, false, false, true, false] rfl (by kernel_rfl) (bV nS rfl rfl (fI _ b.mass) ?_)
 rintro v7 w7 ⟨rfl, hb7⟩
 have M7 := M6.callB hb7
 refine aB (aC ⟨(eK (bN rfl (aM 0 (.int _ _) aU M7 rfl rfl rfl)) (eK (bN rfl (aM 0 (.int _ _) aU M7 rfl rfl rfl)) (eK (bN rfl (aM 0 (.int _ _) aU M7 rfl rfl rfl)) (eK (bN rfl (aM 0 (.int _ _) aU M7 rfl rfl rfl)) (eK (bN rfl (aM 0 (.int _ _) aU M7 rfl rfl rfl)) (eK (bN rfl (aM 0 (.int _ _) bZ M7 rfl rfl rfl)) dQ)))))), ?_⟩)
 refine dP [false, false, false, false, true, false] rfl (by kernel_rfl) (bV nS rfl rfl (fI _ b.bounce) ?_)
 rintro v8 w8 ⟨rfl, hb8⟩
 have M8 := M7.callB hb8
 refine aB (aC ⟨(eK (bN rfl (aM 0 (.int _ _) aU M8 rfl rfl rfl)) (eK (bN rfl (aM 0 (.int _ _) aU M8 rfl rfl rfl)) (eK (bN rfl (aM 0 (.int _ _) aU M8 rfl rfl rfl)) (eK (bN rfl (aM 0 (.int _ _) aU M8 rfl rfl rfl)) (eK (bN rfl (aM 0 (.int _ _) bZ M8 rfl rfl rfl)) dQ))))), ?_⟩)
 refine dP [false, false, false, true, false] rfl (by kernel_rfl) (bV nS rfl rfl (fI _ b.px) ?_)
 rintro v9 w9 ⟨rfl, hb9⟩
 have M9 := M8.callB hb9
 refine aB (aC ⟨(eK (bN rfl (aM 0 (.int _ _) aU M9 rfl rfl rfl)) (eK (bN rfl (aM 0 (.int _ _) aU M9 rfl rfl rfl)) (eK (bN rfl (aM 0 (.int _ _) aU M9 rfl rfl rfl)) (eK (bN rfl (aM 0 (.int _ _) bZ M9 rfl rfl rfl)) dQ)))), ?_⟩)
 refine dP [false, false, true, false] rfl (by kernel_rfl) (bV nS rfl rfl (fI _ b.py) ?_)
 rintro v10 w10 ⟨rfl, hb10⟩
 have M10 := M9.callB hb10
 refine aB (aC ⟨(eK (bN rfl (aM 0 (.int _ _) aU M10 rfl rfl rfl)) (eK (bN rfl (aM 0 (.int _ _) aU M10 rfl rfl rfl)) (eK (bN rfl (aM 0 (.int _ _) bZ M10 rfl rfl rfl)) dQ))), ?_⟩)
 refine dP [false, true, false] rfl (by kernel_rfl) (bV nS rfl rfl (fI _ b.vx) ?_)
 rintro v11 w11 ⟨rfl, hb11⟩
 have M11 := M10.callB hb11
 refine aB (aC ⟨(eK (bN rfl (aM 0 (.int _ _) aU M11 rfl rfl rfl)) (eK (bN rfl (aM 0 (.int _ _) bZ M11 rfl rfl rfl)) dQ)), ?_⟩)
 refine dP [true, false] rfl (by kernel_rfl) (bV nS rfl rfl (fI _ b.vy) ?_)
 rintro v12 w12 ⟨rfl, hb12⟩
 have M12 := M11.callB hb12
 refine aB (aC ⟨(eK (bN rfl (aM 0 (.int _ _) bZ M12 rfl rfl rfl)) dQ), ?_⟩)
 refine aY rfl rfl rfl (fun _ => oQ [.int _ _, .int _ _, .int _ _, .int _ _, .int _ _, .int _ _, .int _ _, .int _ _, .int _ _, .int _ _] fH aDu rfl rfl (dI rfl)) (dP [true] rfl (by kernel_rfl) (bC 1 _ aJk M12 rfl rfl rfl rfl rfl (aQ rfl) rfl (fun w13 M13 => ?_)))
 refine aB (aC ⟨dQ, ?_⟩)
 refine cF (aC (aN (fR 1 aJk M13 rfl rfl rfl ?_)))
 exact ⟨rfl, M13.below⟩
set_option maxHeartbeats 4000000 in
theorem fS (w : World) (A : Option Addr) (n c : Nat) (ls : List Int) (R : Rd w 1 A n (ls.map bY)) (hB : jH ls) (h4 : 4 ≤ n) :
  Calls Tryz.prog 102 #[.slice A n c] w (fun ex w' => ∃ v, ex = .returned v ∧ (fun v w' => v = .int .u32 (dW ls 0) ∧ Below w.heap.size w w') v w') := by
 have hlen : ls.length = n := by simpa using R.len
 have hbd := R.bound
 obtain ⟨x0, hx0⟩ := cI (xs := ls) (k := 0) hlen (by omega)
 obtain ⟨x1, hx1⟩ := cI (xs := ls) (k := 1) hlen (by omega)
 obtain ⟨x2, hx2⟩ := cI (xs := ls) (k := 2) hlen (by omega)
 obtain ⟨x3, hx3⟩ := cI (xs := ls) (k := 3) hlen (by omega)
 obtain ⟨g0, g1⟩ := hB x0 (List.mem_of_getElem? hx0)
 obtain ⟨g2, g3⟩ := hB x1 (List.mem_of_getElem? hx1)
 obtain ⟨g4, g5⟩ := hB x2 (List.mem_of_getElem? hx2)
 obtain ⟨g6, g7⟩ := hB x3 (List.mem_of_getElem? hx3)
 have hnum : dW ls 0 = ((x0 * 256 + x1) * 256 + x2) * 256 + x3 := by unfold dW; simp only [List.getD_eq_getElem?_getD, Nat.zero_add, hx0, hx1, hx2, hx3, Option.getD_some]
 obtain ⟨b0, rfl⟩ := Int.eq_ofNat_of_zero_le g0
 obtain ⟨b1, rfl⟩ := Int.eq_ofNat_of_zero_le g2
 obtain ⟨b2, rfl⟩ := Int.eq_ofNat_of_zero_le g4
 obtain ⟨b3, rfl⟩ := Int.eq_ofNat_of_zero_le g6
 refine aH #[.tmp 2] 25 Tryz.func102 rfl Tryz.results102 Tryz.ntmps102 rfl ?_
 have M0 := Mem.refl w
 refine aD (aA (bJ rfl rfl (aB (aC (aD (bQ [(0, 0), (1, 1), (2, 1), (3, 0), (4, 0), (5, 0), (6, 1), (7, 1), (8, 0), (9, 0), (10, 0), (11, 0), (12, 1), (13, 1), (14, 0), (15, 0), (16, 0), (17, 0), (18, 1), (19, 1), (20, 0), (21, 0), (22, 0)] mixed rfl (by kernel_rfl) (fun w1 hb1 hh1 => ?_)))))))
 have M1 := M0.drew hb1 hh1
 refine vB rfl rfl rfl (cD rfl rfl rfl (bO (0) kI rfl rfl rfl ((R.mem M1).below_len (aJ bY hx0)) ((R.mem M1).someK (aJ bY hx0))) (cD rfl rfl rfl (gT (.int _ _) aNa (R.mem M1) (aJ bY hx0) rfl) (aY rfl rfl rfl (fun _ => bU us5 Tryz.underlying36 rfl (aAs _ (by omega) (by omega))) ?_)))
 refine aY rfl rfl rfl (fun _ => rQ rfl rfl (by decide)) (gB 7 (.int .u32 ((b0 * 16777216 : Nat) : Int)) (iE (aYj b0 (by omega))) (vB rfl rfl rfl (cD rfl rfl rfl (bO (1) kI rfl rfl rfl ((R.mem M1).below_len (aJ bY hx1)) ((R.mem M1).someK (aJ bY hx1))) (cD rfl rfl rfl (gT (.int _ _) aNa (R.mem M1) (aJ bY hx1) rfl) ?_))))
 refine aY rfl rfl rfl (fun _ => bU us5 Tryz.underlying36 rfl (aAs _ (by omega) (by omega))) (aY rfl rfl rfl (fun _ => rQ rfl rfl (by decide)) (gB 12 (.int .u32 ((b1 * 65536 : Nat) : Int)) (iE (aWb b1 (by omega))) (aY rfl rfl rfl (fun _ => dY (.int _ _) rfl rfl rfl) (gB 13 (.int .u32 ((b0 * 16777216 + b1 * 65536 : Nat) : Int)) (iE (bAp b0 (b0 * 16777216) (b1 * 65536) 24 rfl (show b1 * 65536 < 16777216 by omega) (by omega))) ?_))))
 refine vB rfl rfl rfl (cD rfl rfl rfl (bO (2) kI rfl rfl rfl ((R.mem M1).below_len (aJ bY hx2)) ((R.mem M1).someK (aJ bY hx2))) (cD rfl rfl rfl (gT (.int _ _) aNa (R.mem M1) (aJ bY hx2) rfl) (aY rfl rfl rfl (fun _ => bU us5 Tryz.underlying36 rfl (aAs _ (by omega) (by omega))) ?_)))
 refine aY rfl rfl rfl (fun _ => rQ rfl rfl (by decide)) (gB 18 (.int .u32 ((b2 * 256 : Nat) : Int)) (iE (bCc b2 (by omega))) (aY rfl rfl rfl (fun _ => dY (.int _ _) rfl rfl rfl) (gB 19 (.int .u32 ((b0 * 16777216 + b1 * 65536 + b2 * 256 : Nat) : Int)) (iE (bAp (b0 * 256 + b1) (b0 * 16777216 + b1 * 65536) (b2 * 256) 16 (show (b0 * 256 + b1) * 65536 = _ by omega) (show b2 * 256 < 65536 by omega) (by omega))) ?_)))
 refine vB rfl rfl rfl (cD rfl rfl rfl (bO (3) kI rfl rfl rfl ((R.mem M1).below_len (aJ bY hx3)) ((R.mem M1).someK (aJ bY hx3))) (cD rfl rfl rfl (gT (.int _ _) aNa (R.mem M1) (aJ bY hx3) rfl) (aY rfl rfl rfl (fun _ => bU us5 Tryz.underlying36 rfl (aAs _ (by omega) (by omega))) ?_)))
 refine aY rfl rfl rfl (fun _ => dY (.int _ _) rfl rfl rfl) (gB 24 (.int .u32 ((b0 * 16777216 + b1 * 65536 + b2 * 256 + b3 : Nat) : Int)) (iE (bAp (b0 * 65536 + b1 * 256 + b2) (b0 * 16777216 + b1 * 65536 + b2 * 256) b3 8 (show (b0 * 65536 + b1 * 256 + b2) * 256 = _ by omega) (show b3 < 256 by omega) (by omega))) ?_)
 refine pX rfl rfl rfl (cF (aC (aN (cC (.int _ _) rfl ?_))))
 exact ⟨iE (by rw [hnum]; omega), M1.below⟩
set_option maxHeartbeats 4000000 in
theorem fC (w : World) (n : Int) (hn : 0 ≤ n ∧ n ≤ 4294967295) :
  Calls Tryz.prog 103 #[.int .i64 n] w (fun ex w' => ∃ v, ex = .returned v ∧ (fun v w' => v = .int .i64 (8 + 40 * n) ∧ Below w.heap.size w w') v w') := by
 refine aH #[.tmp 2] 6 Tryz.func103 rfl Tryz.results103 Tryz.ntmps103 rfl ?_
 have M0 := Mem.refl w
 refine aD (aA (bJ rfl rfl (aB (aC (aD (aA (aV rfl rfl (wq (fT rfl rfl (by omega) (by omega)) rfl (wq (bM rfl rfl (by omega) (by omega)) rfl ?_)))))))))
 refine bJ rfl rfl (aB (aC (aN (cC (.int _ _) rfl ?_))))
 exact ⟨iE (by omega), M0.below⟩
set_option maxHeartbeats 4000000 in
theorem vV (w : World) (b : Nat) (x0 x1 x2 x3 x4 x5 x6 x7 x8 x9 : Int) (h0 : 0 ≤ x2 ∧ x2 ≤ 4294967295) (h1 : 0 ≤ x3 ∧ x3 ≤ 4294967295) (hO : Own [(some b, bc [.int .u32 x0, .int .u32 x1, .int .u32 x2, .int .u32 x3, .int .u32 x4, .int .u32 x5, .int .u32 x6, .int .u32 x7, .int .u32 x8, .int .u32 x9] 150)] w) :
  Calls Tryz.prog 131 #[.int .i64 2, .pointer (some ⟨b, 0, none⟩)] w (fun ex w' => ∃ v, ex = .returned v ∧ (fun v w' => v = .agg [.int .i32 (mO x2), .int .i32 (mO x3)].toArray ∧ Mem w (bS [(some b, bc [.int .u32 x0, .int .u32 x1, .int .u32 x2, .int .u32 x3, .int .u32 x4, .int .u32 x5, .int .u32 x6, .int .u32 x7, .int .u32 x8, .int .u32 x9] 150)]) [(some b, bc [.int .u32 x0, .int .u32 x1, .int .u32 x2, .int .u32 x3, .int .u32 x4, .int .u32 x5, .int .u32 x6, .int .u32 x7, .int .u32 x8, .int .u32 x9] 150)] w') v w') := by
 refine aH #[.cell 3 38] 14 Tryz.func131 rfl Tryz.results131 Tryz.ntmps131 rfl ?_
 have M0 := hO.mem
 refine aD (aA (aR fZ M0 rfl rfl (fun b1 w1 M1 => (aB (aC (aD (bQ [(0, 0), (1, 0), (2, 1), (3, 0), (4, 0), (5, 0), (6, 0), (7, 1), (8, 0), (9, 0), (10, 2)] mixed rfl (by kernel_rfl) (fun w2 hb2 hh2 => ?_))))))))
 have M2 := M1.drew hb2 hh2
 refine gG rfl rfl rfl (aY rfl rfl rfl (fun _ => eX (2) fH rfl rfl rfl (by decide)) (cD rfl rfl rfl (aM 0 (.int _ _) bZ M2 rfl rfl rfl) (aY rfl rfl rfl (fun _ => dT qZ Tryz.underlying21 rfl) (gB 7 (.int .i32 (mO x2)) (iE (iF h0)) (gG rfl rfl rfl ?_)))))
 refine aY rfl rfl rfl (fun _ => bM rfl rfl (by first | decide | omega) (by first | decide | omega)) (aY rfl rfl rfl (fun _ => eX (3) fH rfl rfl rfl (by decide)) (cD rfl rfl rfl (aM 0 (.int _ _) bZ M2 rfl rfl rfl) (aY rfl rfl rfl (fun _ => dT qZ Tryz.underlying21 rfl) (gB 12 (.int .i32 (mO x3)) (iE (iF h1)) ?_))))
 refine aY rfl rfl rfl (fun _ => cN [(0, .int _ _), (1, .int _ _)] _ eO rfl rfl) (dP [true, true] rfl (by kernel_rfl) (bC 1 _ bH M2 rfl rfl rfl rfl rfl (aQ rfl) rfl (fun w3 M3 => ?_)))
 refine aB (aC ⟨dQ, ?_⟩)
 refine cF (aC (aN (fR 1 bH M3 rfl rfl rfl ?_)))
 exact ⟨rfl, M3.keep [true, false]⟩
set_option maxHeartbeats 4000000 in
theorem vL (w : World) (b : Nat) (x0 x1 x2 x3 x4 x5 x6 x7 x8 x9 : Int) (h0 : 0 ≤ x6 ∧ x6 ≤ 4294967295) (h1 : 0 ≤ x7 ∧ x7 ≤ 4294967295) (hO : Own [(some b, bc [.int .u32 x0, .int .u32 x1, .int .u32 x2, .int .u32 x3, .int .u32 x4, .int .u32 x5, .int .u32 x6, .int .u32 x7, .int .u32 x8, .int .u32 x9] 150)] w) :
  Calls Tryz.prog 131 #[.int .i64 6, .pointer (some ⟨b, 0, none⟩)] w (fun ex w' => ∃ v, ex = .returned v ∧ (fun v w' => v = .agg [.int .i32 (mO x6), .int .i32 (mO x7)].toArray ∧ Mem w (bS [(some b, bc [.int .u32 x0, .int .u32 x1, .int .u32 x2, .int .u32 x3, .int .u32 x4, .int .u32 x5, .int .u32 x6, .int .u32 x7, .int .u32 x8, .int .u32 x9] 150)]) [(some b, bc [.int .u32 x0, .int .u32 x1, .int .u32 x2, .int .u32 x3, .int .u32 x4, .int .u32 x5, .int .u32 x6, .int .u32 x7, .int .u32 x8, .int .u32 x9] 150)] w') v w') := by
 refine aH #[.cell 3 38] 14 Tryz.func131 rfl Tryz.results131 Tryz.ntmps131 rfl ?_
 have M0 := hO.mem
 refine aD (aA (aR fZ M0 rfl rfl (fun b1 w1 M1 => (aB (aC (aD (bQ [(0, 0), (1, 0), (2, 1), (3, 0), (4, 0), (5, 0), (6, 0), (7, 1), (8, 0), (9, 0), (10, 2)] mixed rfl (by kernel_rfl) (fun w2 hb2 hh2 => ?_))))))))
 have M2 := M1.drew hb2 hh2
 refine gG rfl rfl rfl (aY rfl rfl rfl (fun _ => eX (6) fH rfl rfl rfl (by decide)) (cD rfl rfl rfl (aM 0 (.int _ _) bZ M2 rfl rfl rfl) (aY rfl rfl rfl (fun _ => dT qZ Tryz.underlying21 rfl) (gB 7 (.int .i32 (mO x6)) (iE (iF h0)) (gG rfl rfl rfl ?_)))))
 refine aY rfl rfl rfl (fun _ => bM rfl rfl (by first | decide | omega) (by first | decide | omega)) (aY rfl rfl rfl (fun _ => eX (7) fH rfl rfl rfl (by decide)) (cD rfl rfl rfl (aM 0 (.int _ _) bZ M2 rfl rfl rfl) (aY rfl rfl rfl (fun _ => dT qZ Tryz.underlying21 rfl) (gB 12 (.int .i32 (mO x7)) (iE (iF h1)) ?_))))
 refine aY rfl rfl rfl (fun _ => cN [(0, .int _ _), (1, .int _ _)] _ eO rfl rfl) (dP [true, true] rfl (by kernel_rfl) (bC 1 _ bH M2 rfl rfl rfl rfl rfl (aQ rfl) rfl (fun w3 M3 => ?_)))
 refine aB (aC ⟨dQ, ?_⟩)
 refine cF (aC (aN (fR 1 bH M3 rfl rfl rfl ?_)))
 exact ⟨rfl, M3.keep [true, false]⟩
set_option maxHeartbeats 4000000 in
theorem vM (w : World) (b : Nat) (x0 x1 x2 x3 x4 x5 x6 x7 x8 x9 : Int) (h0 : 0 ≤ x8 ∧ x8 ≤ 4294967295) (h1 : 0 ≤ x9 ∧ x9 ≤ 4294967295) (hO : Own [(some b, bc [.int .u32 x0, .int .u32 x1, .int .u32 x2, .int .u32 x3, .int .u32 x4, .int .u32 x5, .int .u32 x6, .int .u32 x7, .int .u32 x8, .int .u32 x9] 150)] w) :
  Calls Tryz.prog 131 #[.int .i64 8, .pointer (some ⟨b, 0, none⟩)] w (fun ex w' => ∃ v, ex = .returned v ∧ (fun v w' => v = .agg [.int .i32 (mO x8), .int .i32 (mO x9)].toArray ∧ Mem w (bS [(some b, bc [.int .u32 x0, .int .u32 x1, .int .u32 x2, .int .u32 x3, .int .u32 x4, .int .u32 x5, .int .u32 x6, .int .u32 x7, .int .u32 x8, .int .u32 x9] 150)]) [(some b, bc [.int .u32 x0, .int .u32 x1, .int .u32 x2, .int .u32 x3, .int .u32 x4, .int .u32 x5, .int .u32 x6, .int .u32 x7, .int .u32 x8, .int .u32 x9] 150)] w') v w') := by
 refine aH #[.cell 3 38] 14 Tryz.func131 rfl Tryz.results131 Tryz.ntmps131 rfl ?_
 have M0 := hO.mem
 refine aD (aA (aR fZ M0 rfl rfl (fun b1 w1 M1 => (aB (aC (aD (bQ [(0, 0), (1, 0), (2, 1), (3, 0), (4, 0), (5, 0), (6, 0), (7, 1), (8, 0), (9, 0), (10, 2)] mixed rfl (by kernel_rfl) (fun w2 hb2 hh2 => ?_))))))))
 have M2 := M1.drew hb2 hh2
 refine gG rfl rfl rfl (aY rfl rfl rfl (fun _ => eX (8) fH rfl rfl rfl (by decide)) (cD rfl rfl rfl (aM 0 (.int _ _) bZ M2 rfl rfl rfl) (aY rfl rfl rfl (fun _ => dT qZ Tryz.underlying21 rfl) (gB 7 (.int .i32 (mO x8)) (iE (iF h0)) (gG rfl rfl rfl ?_)))))
 refine aY rfl rfl rfl (fun _ => bM rfl rfl (by first | decide | omega) (by first | decide | omega)) (aY rfl rfl rfl (fun _ => eX (9) fH rfl rfl rfl (by decide)) (cD rfl rfl rfl (aM 0 (.int _ _) bZ M2 rfl rfl rfl) (aY rfl rfl rfl (fun _ => dT qZ Tryz.underlying21 rfl) (gB 12 (.int .i32 (mO x9)) (iE (iF h1)) ?_))))
 refine aY rfl rfl rfl (fun _ => cN [(0, .int _ _), (1, .int _ _)] _ eO rfl rfl) (dP [true, true] rfl (by kernel_rfl) (bC 1 _ bH M2 rfl rfl rfl rfl rfl (aQ rfl) rfl (fun w3 M3 => ?_)))
 refine aB (aC ⟨dQ, ?_⟩)
 refine cF (aC (aN (fR 1 bH M3 rfl rfl rfl ?_)))
 exact ⟨rfl, M3.keep [true, false]⟩
set_option maxHeartbeats 4000000 in
theorem aEr (w : World) (x0 x1 x2 x3 x4 x5 x6 x7 x8 x9 : Int) (hx : ∀ x ∈ ([x0, x1, x2, x3, x4, x5, x6, x7, x8, x9] : List Int), 0 ≤ x ∧ x ≤ 4294967295) :
  Calls Tryz.prog 104 #[.agg [.int .u32 x0, .int .u32 x1, .int .u32 x2, .int .u32 x3, .int .u32 x4, .int .u32 x5, .int .u32 x6, .int .u32 x7, .int .u32 x8, .int .u32 x9].toArray] w (fun ex w' => ∃ v, ex = .returned v ∧ (fun v w' => v = (.agg (aF (⟨x0, mO x1, mO x2, mO x3, mO x4, mO x5, mO x6, mO x7, mO x8, mO x9⟩ : Body)).toArray) ∧ Below w.heap.size w w') v w') := by
 refine aH #[.cell 2 40] 23 Tryz.func104 rfl Tryz.results104 Tryz.ntmps104 rfl ?_
 have M0 := Mem.refl w
 refine aD (aA (bK (.agg (List.toArray _)) M0 rfl rfl rfl (fun b1 w1 M1 => (aR gI M1 rfl rfl (fun b2 w2 M2 => (aB (aC (aD (aA (wq (cR [] [.pointer _] rfl rfl) rfl (wq (aI (.func _ _ _) rfl) rfl ?_)))))))))))
 refine aB (aC (aD (bQ [(0, 0), (1, 1), (2, 0), (3, 1), (4, 0), (5, 0), (7, 0), (8, 1), (9, 0), (10, 0), (11, 1), (12, 0), (13, 0), (15, 0), (6, 2), (14, 2), (16, 2), (17, 0), (18, 2)] mixed rfl (by kernel_rfl) (fun w3 hb3 hh3 => ?_))))
 have M3 := M2.drew hb3 hh3
 refine aY rfl rfl rfl (fun _ => eX (0) fH rfl rfl rfl (by decide)) (cD rfl rfl rfl (aM 0 (.int _ _) bZ M3 rfl rfl rfl) (aY rfl rfl rfl (fun _ => eX (1) fH rfl rfl rfl (by decide)) (cD rfl rfl rfl (aM 0 (.int _ _) bZ M3 rfl rfl rfl) (aY rfl rfl rfl (fun _ => dT qZ Tryz.underlying21 rfl) ?_))))
 refine gB 9 (.int .i32 (mO x1)) (iE (iF (hx _ (by simp)))) (aY rfl rfl rfl (fun _ => aG (.func _ _ _) rfl) (aY rfl rfl rfl (fun _ => eX (4) fH rfl rfl rfl (by decide)) (cD rfl rfl rfl (aM 0 (.int _ _) bZ M3 rfl rfl rfl) (aY rfl rfl rfl (fun _ => dT qZ Tryz.underlying21 rfl) ?_))))
 refine gB 14 (.int .i32 (mO x4)) (iE (iF (hx _ (by simp)))) (aY rfl rfl rfl (fun _ => eX (5) fH rfl rfl rfl (by decide)) (cD rfl rfl rfl (aM 0 (.int _ _) bZ M3 rfl rfl rfl) (aY rfl rfl rfl (fun _ => dT qZ Tryz.underlying21 rfl) (gB 17 (.int .i32 (mO x5)) (iE (iF (hx _ (by simp)))) ?_))))
 refine aY rfl rfl rfl (fun _ => aG (.func _ _ _) rfl) (aY rfl rfl rfl (fun _ => aG (.func _ _ _) rfl) (dP [false, false, false, false] rfl (by kernel_rfl) (bV aKu rfl rfl (vV _ b1 x0 x1 x2 x3 x4 x5 x6 x7 x8 x9 (hx _ (by simp)) (hx _ (by simp)) (M3.ownSeg 0 1)) ?_)))
 rintro v4 w4 ⟨rfl, hM4⟩
 have M4 : Mem _ _ [_, _] _ := M3.seg 0 1 hM4
 refine aB (aC ⟨(eK (bN rfl (aM 0 (.int _ _) bZ M4 rfl rfl rfl)) (eK (bN rfl (aM 0 (.int _ _) bZ M4 rfl rfl rfl)) (eK (bN rfl (aM 0 (.int _ _) bZ M4 rfl rfl rfl)) (eK (bN rfl (aM 0 (.int _ _) bZ M4 rfl rfl rfl)) dQ)))), ?_⟩)
 refine dP [false, false, false, false] rfl (by kernel_rfl) (bV aKu rfl rfl (vL _ b1 x0 x1 x2 x3 x4 x5 x6 x7 x8 x9 (hx _ (by simp)) (hx _ (by simp)) (M4.ownSeg 0 1)) ?_)
 rintro v5 w5 ⟨rfl, hM5⟩
 have M5 : Mem _ _ [_, _] _ := M4.seg 0 1 hM5
 refine aB (aC ⟨(eK (bN rfl (aM 0 (.int _ _) bZ M5 rfl rfl rfl)) (eK (bN rfl (aM 0 (.int _ _) bZ M5 rfl rfl rfl)) (eK (bN rfl (aM 0 (.int _ _) bZ M5 rfl rfl rfl)) (eK (bN rfl (aM 0 (.int _ _) bZ M5 rfl rfl rfl)) dQ)))), ?_⟩)
 refine dP [false, false, false, false] rfl (by kernel_rfl) (bV aKu rfl rfl (vM _ b1 x0 x1 x2 x3 x4 x5 x6 x7 x8 x9 (hx _ (by simp)) (hx _ (by simp)) (M5.ownSeg 0 1)) ?_)
 rintro v6 w6 ⟨rfl, hM6⟩
 have M6 : Mem _ _ [_, _] _ := M5.seg 0 1 hM6
 refine aB (aC ⟨(eK (bN rfl (aM 0 (.int _ _) bZ M6 rfl rfl rfl)) (eK (bN rfl (aM 0 (.int _ _) bZ M6 rfl rfl rfl)) (eK (bN rfl (aM 0 (.int _ _) bZ M6 rfl rfl rfl)) (eK (bN rfl (aM 0 (.int _ _) bZ M6 rfl rfl rfl)) dQ)))), ?_⟩)
 refine aY rfl rfl rfl (fun _ => cN [(0, .int _ _), (1, .int _ _), (2, .agg (List.toArray _)), (3, .int _ _), (4, .int _ _), (5, .agg (List.toArray _)), (6, .agg (List.toArray _))] _ pC rfl rfl) (dP [true, true, true, true] rfl (by kernel_rfl) (bC 1 _ bP M6 rfl rfl rfl rfl rfl (aQ rfl) rfl (fun w7 M7 => ?_)))
 refine aB (aC ⟨dQ, ?_⟩)
 refine cF (aC (aN (fR 1 bP M7 rfl rfl rfl ?_)))
 exact ⟨rfl, M7.below⟩
set_option maxHeartbeats 8000000 in
theorem aCz (w : World) (A : Option Addr) (n c : Nat) (xs : List Body) (R : Rd w 10 A n (xs.map aF)) (hn : n ≤ 4096) (hc : gO xs = 0) (hb : ∀ b ∈ xs, InB b) :
  Calls Tryz.prog 67 #[.slice A n c] w (fun ex w' => ∃ v, ex = .returned v ∧ (fun v w' => ∃ q : Row, v = .tuple #[.slice q.A q.n q.c, .int .i64 0] ∧ aX 5 1 q.A q.n q.c ((jQ xs).map bY) q.e ∧ Mem w [] [q.e] w') v w') := by
 have hlen : xs.length = n := by simpa using R.len
 have hbd := R.bound
 refine aH #[.tmp 2, .tmp 3] 38 Tryz.func67 rfl Tryz.results67 Tryz.ntmps67 rfl ?_
 have M0 := Mem.refl w
 refine aD (aA (gC rfl rfl (bJ rfl rfl (aB (aC (aD (aD (aA (eF rfl rfl (bV aZe rfl rfl (yL _ _ _ _ xs (R.mem M0)) ?_))))))))))
 rintro v1 w1 ⟨rfl, hb1⟩
 have M1 := M0.callB hb1
 refine bJ rfl rfl (aB (aC (aD (aA (aV rfl rfl (cT rfl rfl rfl rfl (tF 13 rfl (fun h => h hc) (aB (aC ?_)))))))))
 refine bX rfl (aK (aC (aD (aA (dC [.int _ _, .int _ _, .int _ _, .int _ _] (gJ.map bY) rfl kI M1 rfl rfl rfl rfl (dI rfl) (by decide) (fun b2 w2 M2 => ?_))))))
 have hlit15 := jR (T := 5) (b := b2) (gJ.map bY) (xA _) rfl (by decide)
 refine aMh 0 Tryz.underlying57 Tryz.underlying5 M2 rfl rfl rfl rfl hlit15 (by decide) (fun e3 w3 M3 hR3 => (eF rfl rfl (wq (cM Tryz.underlying22 rfl) rfl (wq (bU us3 Tryz.underlying36 rfl (aAs _ (by omega) (by omega))) rfl (bV aUr rfl rfl (aAt _ ⟨(some ⟨b2, 0, none⟩), 4, 4, e3⟩ gJ hR3 (n : Int) (by omega) (by first | omega | exact (show 4 ≤ 1048576 by decide)) (M3.ownSeg 0 1)) ?_)))))
 rintro v4 w4 ⟨q0, rfl, hnq0, hq0, hM4⟩
 have M4 : Mem _ _ [_] _ := M3.seg 0 1 hM4
 refine gC rfl rfl (aB (aC (aD (aD (aA (eF rfl rfl (wq (cM Tryz.underlying22 rfl) rfl (aV rfl rfl (aB (aC (aS ?_)))))))))))
 refine dM (σ := Nat × Row) [2, 3, 21, 22] (fun (k, q) => [(5, .slice q.A q.n q.c), (23, .int .i64 (k : Int))]) (fun (k, q) w' => (k ≤ n ∧ q.n = 8 + 40 * k ∧ aX 5 1 q.A q.n q.c (((gJ ++ cB (n : Int)) ++ (xs.take k).flatMap kD).map bY) q.e) ∧ Mem w [] [q.e] w') (fun (k, q) => n - k) (0, q0) (bL rfl (bL rfl eV)) (⟨⟨by omega, hnq0, by rw [List.take_zero, List.flatMap_nil, List.append_nil]; exact hq0⟩, M4⟩) ?_
 rintro ⟨k, q⟩ ρ5 w5 ⟨⟨hk, hqn, hq⟩, hM5⟩
 refine aD (aA (cT rfl rfl rfl rfl (aB (aC (aD ?_)))))
 refine aW rfl (fun h24 => ?_) (fun h24 => ?_)
 ·obtain ⟨xb, hxb⟩ := cI (xs := xs) (k := k) hlen (by omega)
  have hxi := aNf (hb xb (List.mem_of_getElem? hxb))
  refine aK (aC (aD (aS (aD (aA (wq (bO (k) eP rfl rfl rfl ((R.mem hM5).below_len (aJ aF hxb)) ((R.mem hM5).someK (aJ aF hxb))) rfl (wq (cZ _ bP (R.mem hM5) (aJ aF hxb) rfl) rfl (aR gI hM5 rfl rfl (fun b6 w6 M6 => (bC 1 _ bP M6 rfl rfl rfl rfl rfl (aQ rfl) rfl (fun w7 M7 => ?_)))))))))))
  refine aB (aC (aD (aA (wq (bA 1 bP M7 rfl rfl rfl) rfl (bV bCj rfl rfl (aJz _ xb) ?_)))))
  rintro v8 w8 ⟨rfl, hb8⟩
  have M8 := M7.callB hb8
  refine aV rfl rfl (aB (aC (aS (dM (σ := Nat × Row) [2, 3, 21, 22, 23, 28] (fun (j, p) => [(5, .slice p.A p.n p.c), (29, .int .i64 (j : Int))]) (fun (j, p) w' => (j ≤ 10 ∧ p.n = q.n + 4 * j ∧ aX 5 1 p.A p.n p.c (((gJ ++ cB (n : Int)) ++ (xs.take k).flatMap kD ++ ((vA xb).take j).flatMap cB).map bY) p.e) ∧ Mem w [] [p.e, (some b6, bc (aF xb) 40)] w') (fun (j, p) => 10 - j) (0, q) (bL rfl (bL rfl eV)) (⟨⟨by omega, by omega, by rw [List.take_zero, List.flatMap_nil, List.append_nil]; exact hq⟩, M8⟩) ?_))))
  rintro ⟨j, p⟩ ρ9 w9 ⟨⟨hj, hpn, hp⟩, hM9⟩
  refine aD (aA (cT rfl rfl rfl rfl (aB (aC (aD ?_)))))
  refine aW rfl (fun h30 => ?_) (fun h30 => ?_)
  ·obtain ⟨x, hx⟩ := cI (xs := vA xb) (k := j) (n := 10) rfl (by omega)
   have hxr := hxi x (List.mem_of_getElem? hx)
   refine aK (aC (aD (aS (aD (aA ?_)))))
   refine wq (uB (j) (.int .u32 x) fH bZ rfl rfl (by omega) (by omega) rfl (by rw [kN, List.getElem?_map, hx]; rfl)) rfl ?_
   refine bJ rfl rfl (aB (aC (aA (eF rfl rfl (aV rfl rfl (bV aUr rfl rfl (aAt _ p _ hp x hxr (by first | omega | exact (show 4 ≤ 1048576 by decide)) (hM9.ownSeg 0 1)) ?_))))))
   rintro v10 w10 ⟨p2, rfl, hnp2, hp2, hM10⟩
   have M10 : Mem _ _ [_, _] _ := hM9.seg 0 1 hM10
   refine gC rfl rfl (aB (cX (aC (aA (wq (bM rfl rfl (by omega) (by omega)) rfl (aV rfl rfl ?_))))))
   refine aB ?_
   refine cQ (j + 1, p2) (bL rfl (bL rfl eV)) (cU rfl (cU rfl (cU rfl (cU rfl (cU rfl (cU rfl jS)))))) ?_ ?_
   ·exact ⟨⟨by omega, by omega, by rw [aOi hx, ← List.append_assoc]; exact hp2⟩, M10⟩
   ·(show 10 - (j + 1) < 10 - j; omega)
  ·obtain rfl : j = 10 := by omega
   rw [List.take_of_length_le (show (vA xb).length ≤ 10 from Nat.le_refl _)] at hp
   refine cP (dA (cY (eT (cX (aC (aA ?_))))))
   refine wq (bM rfl rfl (by omega) (by omega)) rfl (aV rfl rfl (aB ?_))
   refine cQ (k + 1, p) (bL rfl (bL rfl eV)) (cU rfl (cU rfl (cU rfl (cU rfl jS)))) ?_ ?_
   ·exact ⟨⟨by omega, by omega, by rw [aNw hxb, ← aOh, ← List.append_assoc]; exact hp⟩, hM9.keep [true, false]⟩
   ·(show n - (k + 1) < n - k; omega)
 ·obtain rfl : k = n := by omega
  rw [List.take_of_length_le (by omega), ← hlen] at hq
  refine cP (dA (cY (eT (aC (aD (aA (eF rfl rfl ?_)))))))
  refine gC rfl rfl (bJ rfl rfl (aB (aC (aN (iD (.slice _ _ _) (.int _ _) rfl rfl ?_)))))
  exact ⟨q, rfl, hq, hM5⟩
set_option maxHeartbeats 16000000 in
theorem aEd (w : World) (A : Option Addr) (n c : Nat) (ls : List Int) (R : Rd w 1 A n (ls.map bY)) (hB : jH ls) (hcap : n ≤ c) (hn : n ≤ 1048576) :
  Calls Tryz.prog 68 #[.slice A n c] w (fun ex w' => ∃ v, ex = .returned v ∧ (fun v w' => ∃ r : Row, v = .tuple #[.slice r.A r.n r.c, .int .i64 (kH ls).2] ∧ aX 40 10 r.A r.n r.c (((kH ls).1).map aF) r.e ∧ Mem w [] [r.e] w') v w') := by
 have hlen : ls.length = n := by simpa using R.len
 have hbd := R.bound
 refine aH #[.tmp 2, .tmp 3] 58 Tryz.func68 rfl Tryz.results68 Tryz.ntmps68 rfl ?_
 have M0 := Mem.refl w
 refine aD (aA (gC rfl rfl (bJ rfl rfl (aB (aC (aD (aD (aA (eF rfl rfl (wq (cM Tryz.underlying57 rfl) rfl ?_))))))))))
 refine cT rfl rfl rfl rfl (wq (aG (.bool (decide _)) rfl) rfl ?_)
 refine cW 13 rfl (fun g13 => ?_) (fun g13 => ?_)
 ·refine aO rfl rfl (aO rfl rfl (aO rfl rfl (aO rfl rfl (wq (bI true (.bool true) rfl rfl) rfl (aB (aC ?_))))))
  refine cO rfl (aD (aA (gC rfl rfl (bJ rfl rfl (aB (aC (aN (cE (iD (.slice _ _ _) (.int _ _) rfl rfl ?_)))))))))
  have hd := vW (l := ls) (fun h => by have := h.1; omega)
  exact ⟨⟨none, 0, 0, (none, default)⟩, by rw [hd], by rw [hd]; exact aX.nil _ _ _, (M0.keep []).dummy default⟩
 ·refine eF rfl rfl (wq (fN (0) (4) kI rfl rfl ⟨_, rfl⟩ (by omega) (by omega) (by omega)) rfl (wq (bCv Tryz.underlying57 Tryz.underlying5 Tryz.underlying9 (Rd.subB (R.mem M0) (0) (4) (by omega) (by omega) hcap) rfl) rfl (wq (aVj rfl rfl) rfl (wq (bI false (.bool (decide _)) rfl rfl) rfl (aB (aC ?_))))))
  refine aW rfl (fun h18 => ?_) (fun h18 => ?_)
  ·refine aD (aA (gC rfl rfl (bJ rfl rfl (aB (aC (aN (cE (iD (.slice _ _ _) (.int _ _) rfl rfl ?_))))))))
   have hd := vW (l := ls) (fun h => ((aMr ((ls.drop 0).take (4 - 0)) (hB.sub 0 4) [66, 73, 76, 49]).1 h18) (by rw [← uM]; simpa using h.2.1))
   exact ⟨⟨none, 0, 0, (none, default)⟩, by rw [hd], by rw [hd]; exact aX.nil _ _ _, (M0.keep []).dummy default⟩
  ·refine aK (aC (aD (aA (eF rfl rfl (wq (fN (4) (((n : Nat) : Int)) kI rfl ⟨_, rfl⟩ rfl (by omega) (by omega) (by omega)) rfl (bV lI rfl rfl (fS _ _ _ _ ((ls.drop (4)).take (n - (4))) (Rd.subB (R.mem M0) (4) (n) (by omega) (by omega) hcap) (hB.sub _ _) (by omega)) ?_))))))
   rintro v1 w1 ⟨rfl, hb1⟩
   have M1 := M0.callB hb1
   have hr4 := oV hB (a := 4) (by omega)
   obtain ⟨N, hN⟩ : ∃ N : Nat, dW ls 4 = (N : Int) := ⟨(dW ls 4).toNat, by omega⟩
   have hNl : N ≤ 4294967295 := by omega
   refine aT 21 (.int .u32 (N : Int)) (iE ((gV (by omega)).trans hN)) (wq (bU qZ Tryz.underlying3 rfl (kJ _ (by omega) (by omega))) rfl (bJ rfl rfl (aB (aC (aD (aD (aA (eF rfl rfl (wq (cM Tryz.underlying57 rfl) rfl ?_)))))))))
   refine aV rfl rfl (bV lB rfl rfl (fC _ (N : Int) (by omega)) ?_)
   rintro v2 w2 ⟨rfl, hb2⟩
   have M2 := M1.callB hb2
   refine cT rfl rfl rfl rfl (aB (aC ?_))
   refine aW rfl (fun h27 => ?_) (fun h27 => ?_)
   ·refine aD (aA (gC rfl rfl (bJ rfl rfl (aB (aC (aN (cE (iD (.slice _ _ _) (.int _ _) rfl rfl ?_))))))))
    have hd := vW (l := ls) (fun h => h27 (by have := h.2.2; rw [hN] at this; omega))
    exact ⟨⟨none, 0, 0, (none, default)⟩, by rw [hd], by rw [hd]; exact aX.nil _ _ _, (M2.keep []).dummy default⟩
   ·have hfm : yD ls := ⟨by omega, by have h := Decidable.not_not.1 (mt ((aMr ((ls.drop 0).take (4 - 0)) (hB.sub 0 4) [66, 73, 76, 49]).2) h18); rw [← uM] at h; simpa using h, by rw [hN]; omega⟩
    refine aK (aC (aD (aA (gC rfl rfl ?_))))
    have M3 := M2.dummy default
    refine aB (aC (aD (aD (aA (aV rfl rfl (aV rfl rfl (aB (aC (aS (dM (σ := Nat × Row) [0, 2, 3, 28] (fun (i, q) => [(5, .slice q.A q.n q.c), (29, .int .i64 (i : Int))]) (fun (i, q) w' => (i ≤ N ∧ aX 40 10 q.A q.n q.c ((lR ls i).map aF) q.e) ∧ Mem w [] [q.e] w') (fun (i, q) => N - i) (0, iK) (bL rfl (bL rfl eV)) (⟨⟨by omega, aX.nil _ _ _⟩, M3⟩) ?_))))))))))
    rintro ⟨i, q⟩ ρ4 w4 ⟨⟨hi, hq⟩, hM4⟩
    have hqn : (lR ls i).length = q.n := by simpa using hq.1
    rw [xP] at hqn
    refine aD (aA (cT rfl rfl rfl rfl (aB (aC (aD ?_)))))
    refine aW rfl (fun h30 => ?_) (fun h30 => ?_)
    ·refine aK (aC (aD (aS (aD (aA (aV rfl rfl (bJ rfl rfl (aB (aC (aD (aA (aR aDu hM4 rfl rfl (fun b5 w5 M5 => (aB (aC (aD (aD (aA ?_))))))))))))))))))
     refine aV rfl rfl (aB (aC (aS (lQ 11 (gW (aD (aA (cT rfl rfl rfl rfl (kR 33 rfl (by first | decide | omega) ?_)))))))))
     refine aB (aC (aD (cO rfl (aK (aC (aD (aS (aD (aA (aV rfl rfl (bJ rfl rfl (aB (aC (aA ?_))))))))))))))
     refine aV rfl rfl (eF rfl rfl (aV rfl rfl (bV lB rfl rfl (fC _ (i : Int) (by omega)) ?_)))
     rintro v6 w6 ⟨rfl, hb6⟩
     have M6 := M5.callB hb6
     refine aV rfl rfl (wq (fT rfl rfl (by omega) (by omega)) rfl (wq (bM rfl rfl (by omega) (by omega)) rfl (aT 41 (.int .i64 ((8 + 40 * i : Nat) : Int)) (iE (by omega)) (wq (fN (((8 + 40 * i : Nat) : Int)) (((n : Nat) : Int)) kI rfl ⟨_, rfl⟩ rfl (by omega) (by omega) (by omega)) rfl (bV lI rfl rfl (fS _ _ _ _ ((ls.drop (8 + 40 * i)).take (n - (8 + 40 * i))) (Rd.subB (R.mem M6) (8 + 40 * i) (n) (by omega) (by omega) hcap) (hB.sub _ _) (by omega)) ?_)))))
     rintro v7 w7 ⟨rfl, hb7⟩
     have M7 := M6.callB hb7
     refine aT 43 (.int .u32 (dW ls (8 + 40 * i))) (iE (gV (by omega))) (wq (eX (0) fH rfl rfl rfl (by decide)) rfl (dH 1 (.int _ _) bZ M7 rfl rfl rfl rfl rfl rfl (fun w8 M8 => (aB (cX (aC (aA ?_)))))))
     refine wq (bM rfl rfl (by first | decide | omega) (by first | decide | omega)) rfl (aT 45 (.int .i64 1) (iE (by first | decide | omega)) (aV rfl rfl (aB (aC (gW (jZ (fr := [(0, .slice _ _ _), (2, .slice _ _ _), (3, .int .i64 0), (5, .slice _ _ _), (6, .int _ _), (7, .pointer _), (8, .int .i64 0), (28, .int _ _), (29, .int _ _), (32, .int .i64 1)]) (bL rfl (bL rfl (bL rfl (bL rfl (bL rfl (bL rfl (bL rfl (bL rfl (bL rfl (bL rfl eV)))))))))) (fun ρ9 => ?_)))))))
     refine aD (aA (cT rfl rfl rfl rfl (kR 33 rfl (by first | decide | omega) (aB (aC (aD (cO rfl (aK (aC (aD (aS (aD (aA ?_)))))))))))))
     refine aV rfl rfl (bJ rfl rfl (aB (aC (aA (aV rfl rfl (eF rfl rfl (aV rfl rfl ?_)))))))
     refine bV lB rfl rfl (fC _ (i : Int) (by omega)) ?_
     rintro v10 w10 ⟨rfl, hb10⟩
     have M10 := M8.callB hb10
     refine aV rfl rfl (wq (fT rfl rfl (by omega) (by omega)) rfl (wq (bM rfl rfl (by omega) (by omega)) rfl (aT 41 (.int .i64 ((8 + 40 * i + 4 : Nat) : Int)) (iE (by omega)) (wq (fN (((8 + 40 * i + 4 : Nat) : Int)) (((n : Nat) : Int)) kI rfl ⟨_, rfl⟩ rfl (by omega) (by omega) (by omega)) rfl (bV lI rfl rfl (fS _ _ _ _ ((ls.drop (8 + 40 * i + 4)).take (n - (8 + 40 * i + 4))) (Rd.subB (R.mem M10) (8 + 40 * i + 4) (n) (by omega) (by omega) hcap) (hB.sub _ _) (by omega)) ?_)))))
     rintro v11 w11 ⟨rfl, hb11⟩
     have M11 := M10.callB hb11
     refine aT 43 (.int .u32 (dW ls (8 + 40 * i + 4))) (iE (gV (by omega))) (wq (eX (1) fH rfl rfl rfl (by decide)) rfl (dH 1 (.int _ _) bZ M11 rfl rfl rfl rfl rfl rfl (fun w12 M12 => (aB (cX (aC (aA ?_)))))))
     refine wq (bM rfl rfl (by first | decide | omega) (by first | decide | omega)) rfl (aT 45 (.int .i64 2) (iE (by first | decide | omega)) (aV rfl rfl (aB (aC (gW (jZ (fr := [(0, .slice _ _ _), (2, .slice _ _ _), (3, .int .i64 0), (5, .slice _ _ _), (6, .int _ _), (7, .pointer _), (8, .int .i64 1), (28, .int _ _), (29, .int _ _), (32, .int .i64 2)]) (bL rfl (bL rfl (bL rfl (bL rfl (bL rfl (bL rfl (bL rfl (bL rfl (bL rfl (bL rfl eV)))))))))) (fun ρ13 => ?_)))))))
     refine aD (aA (cT rfl rfl rfl rfl (kR 33 rfl (by first | decide | omega) (aB (aC (aD (cO rfl (aK (aC (aD (aS (aD (aA ?_)))))))))))))
     refine aV rfl rfl (bJ rfl rfl (aB (aC (aA (aV rfl rfl (eF rfl rfl (aV rfl rfl ?_)))))))
     refine bV lB rfl rfl (fC _ (i : Int) (by omega)) ?_
     rintro v14 w14 ⟨rfl, hb14⟩
     have M14 := M12.callB hb14
     refine aV rfl rfl (wq (fT rfl rfl (by omega) (by omega)) rfl (wq (bM rfl rfl (by omega) (by omega)) rfl (aT 41 (.int .i64 ((8 + 40 * i + 8 : Nat) : Int)) (iE (by omega)) (wq (fN (((8 + 40 * i + 8 : Nat) : Int)) (((n : Nat) : Int)) kI rfl ⟨_, rfl⟩ rfl (by omega) (by omega) (by omega)) rfl (bV lI rfl rfl (fS _ _ _ _ ((ls.drop (8 + 40 * i + 8)).take (n - (8 + 40 * i + 8))) (Rd.subB (R.mem M14) (8 + 40 * i + 8) (n) (by omega) (by omega) hcap) (hB.sub _ _) (by omega)) ?_)))))
     rintro v15 w15 ⟨rfl, hb15⟩
     have M15 := M14.callB hb15
     refine aT 43 (.int .u32 (dW ls (8 + 40 * i + 8))) (iE (gV (by omega))) (wq (eX (2) fH rfl rfl rfl (by decide)) rfl (dH 1 (.int _ _) bZ M15 rfl rfl rfl rfl rfl rfl (fun w16 M16 => (aB (cX (aC (aA ?_)))))))
     refine wq (bM rfl rfl (by first | decide | omega) (by first | decide | omega)) rfl (aT 45 (.int .i64 3) (iE (by first | decide | omega)) (aV rfl rfl (aB (aC (gW (jZ (fr := [(0, .slice _ _ _), (2, .slice _ _ _), (3, .int .i64 0), (5, .slice _ _ _), (6, .int _ _), (7, .pointer _), (8, .int .i64 2), (28, .int _ _), (29, .int _ _), (32, .int .i64 3)]) (bL rfl (bL rfl (bL rfl (bL rfl (bL rfl (bL rfl (bL rfl (bL rfl (bL rfl (bL rfl eV)))))))))) (fun ρ17 => ?_)))))))
     refine aD (aA (cT rfl rfl rfl rfl (kR 33 rfl (by first | decide | omega) (aB (aC (aD (cO rfl (aK (aC (aD (aS (aD (aA ?_)))))))))))))
     refine aV rfl rfl (bJ rfl rfl (aB (aC (aA (aV rfl rfl (eF rfl rfl (aV rfl rfl ?_)))))))
     refine bV lB rfl rfl (fC _ (i : Int) (by omega)) ?_
     rintro v18 w18 ⟨rfl, hb18⟩
     have M18 := M16.callB hb18
     refine aV rfl rfl (wq (fT rfl rfl (by omega) (by omega)) rfl (wq (bM rfl rfl (by omega) (by omega)) rfl (aT 41 (.int .i64 ((8 + 40 * i + 12 : Nat) : Int)) (iE (by omega)) (wq (fN (((8 + 40 * i + 12 : Nat) : Int)) (((n : Nat) : Int)) kI rfl ⟨_, rfl⟩ rfl (by omega) (by omega) (by omega)) rfl ?_))))
     refine bV lI rfl rfl (fS _ _ _ _ ((ls.drop (8 + 40 * i + 12)).take (n - (8 + 40 * i + 12))) (Rd.subB (R.mem M18) (8 + 40 * i + 12) (n) (by omega) (by omega) hcap) (hB.sub _ _) (by omega)) ?_
     rintro v19 w19 ⟨rfl, hb19⟩
     have M19 := M18.callB hb19
     refine aT 43 (.int .u32 (dW ls (8 + 40 * i + 12))) (iE (gV (by omega))) (wq (eX (3) fH rfl rfl rfl (by decide)) rfl (dH 1 (.int _ _) bZ M19 rfl rfl rfl rfl rfl rfl (fun w20 M20 => (aB (cX (aC (aA ?_)))))))
     refine wq (bM rfl rfl (by first | decide | omega) (by first | decide | omega)) rfl (aT 45 (.int .i64 4) (iE (by first | decide | omega)) (aV rfl rfl (aB (aC (gW (jZ (fr := [(0, .slice _ _ _), (2, .slice _ _ _), (3, .int .i64 0), (5, .slice _ _ _), (6, .int _ _), (7, .pointer _), (8, .int .i64 3), (28, .int _ _), (29, .int _ _), (32, .int .i64 4)]) (bL rfl (bL rfl (bL rfl (bL rfl (bL rfl (bL rfl (bL rfl (bL rfl (bL rfl (bL rfl eV)))))))))) (fun ρ21 => ?_)))))))
     refine aD (aA (cT rfl rfl rfl rfl (kR 33 rfl (by first | decide | omega) (aB (aC (aD (cO rfl (aK (aC (aD (aS (aD (aA ?_)))))))))))))
     refine aV rfl rfl (bJ rfl rfl (aB (aC (aA (aV rfl rfl (eF rfl rfl (aV rfl rfl ?_)))))))
     refine bV lB rfl rfl (fC _ (i : Int) (by omega)) ?_
     rintro v22 w22 ⟨rfl, hb22⟩
     have M22 := M20.callB hb22
     refine aV rfl rfl (wq (fT rfl rfl (by omega) (by omega)) rfl (wq (bM rfl rfl (by omega) (by omega)) rfl (aT 41 (.int .i64 ((8 + 40 * i + 16 : Nat) : Int)) (iE (by omega)) (wq (fN (((8 + 40 * i + 16 : Nat) : Int)) (((n : Nat) : Int)) kI rfl ⟨_, rfl⟩ rfl (by omega) (by omega) (by omega)) rfl ?_))))
     refine bV lI rfl rfl (fS _ _ _ _ ((ls.drop (8 + 40 * i + 16)).take (n - (8 + 40 * i + 16))) (Rd.subB (R.mem M22) (8 + 40 * i + 16) (n) (by omega) (by omega) hcap) (hB.sub _ _) (by omega)) ?_
     rintro v23 w23 ⟨rfl, hb23⟩
     have M23 := M22.callB hb23
     refine aT 43 (.int .u32 (dW ls (8 + 40 * i + 16))) (iE (gV (by omega))) (wq (eX (4) fH rfl rfl rfl (by decide)) rfl (dH 1 (.int _ _) bZ M23 rfl rfl rfl rfl rfl rfl (fun w24 M24 => (aB (cX (aC (aA ?_)))))))
     refine wq (bM rfl rfl (by first | decide | omega) (by first | decide | omega)) rfl (aT 45 (.int .i64 5) (iE (by first | decide | omega)) (aV rfl rfl (aB (aC (gW (jZ (fr := [(0, .slice _ _ _), (2, .slice _ _ _), (3, .int .i64 0), (5, .slice _ _ _), (6, .int _ _), (7, .pointer _), (8, .int .i64 4), (28, .int _ _), (29, .int _ _), (32, .int .i64 5)]) (bL rfl (bL rfl (bL rfl (bL rfl (bL rfl (bL rfl (bL rfl (bL rfl (bL rfl (bL rfl eV)))))))))) (fun ρ25 => ?_)))))))
     refine aD (aA (cT rfl rfl rfl rfl (kR 33 rfl (by first | decide | omega) (aB (aC (aD (cO rfl (aK (aC (aD (aS (aD (aA ?_)))))))))))))
     refine aV rfl rfl (bJ rfl rfl (aB (aC (aA (aV rfl rfl (eF rfl rfl (aV rfl rfl ?_)))))))
     refine bV lB rfl rfl (fC _ (i : Int) (by omega)) ?_
     rintro v26 w26 ⟨rfl, hb26⟩
     have M26 := M24.callB hb26
     refine aV rfl rfl (wq (fT rfl rfl (by omega) (by omega)) rfl (wq (bM rfl rfl (by omega) (by omega)) rfl (aT 41 (.int .i64 ((8 + 40 * i + 20 : Nat) : Int)) (iE (by omega)) (wq (fN (((8 + 40 * i + 20 : Nat) : Int)) (((n : Nat) : Int)) kI rfl ⟨_, rfl⟩ rfl (by omega) (by omega) (by omega)) rfl ?_))))
     refine bV lI rfl rfl (fS _ _ _ _ ((ls.drop (8 + 40 * i + 20)).take (n - (8 + 40 * i + 20))) (Rd.subB (R.mem M26) (8 + 40 * i + 20) (n) (by omega) (by omega) hcap) (hB.sub _ _) (by omega)) ?_
     rintro v27 w27 ⟨rfl, hb27⟩
     have M27 := M26.callB hb27
     refine aT 43 (.int .u32 (dW ls (8 + 40 * i + 20))) (iE (gV (by omega))) (wq (eX (5) fH rfl rfl rfl (by decide)) rfl (dH 1 (.int _ _) bZ M27 rfl rfl rfl rfl rfl rfl (fun w28 M28 => (aB (cX (aC (aA ?_)))))))
     refine wq (bM rfl rfl (by first | decide | omega) (by first | decide | omega)) rfl (aT 45 (.int .i64 6) (iE (by first | decide | omega)) (aV rfl rfl (aB (aC (gW (jZ (fr := [(0, .slice _ _ _), (2, .slice _ _ _), (3, .int .i64 0), (5, .slice _ _ _), (6, .int _ _), (7, .pointer _), (8, .int .i64 5), (28, .int _ _), (29, .int _ _), (32, .int .i64 6)]) (bL rfl (bL rfl (bL rfl (bL rfl (bL rfl (bL rfl (bL rfl (bL rfl (bL rfl (bL rfl eV)))))))))) (fun ρ29 => ?_)))))))
     refine aD (aA (cT rfl rfl rfl rfl (kR 33 rfl (by first | decide | omega) (aB (aC (aD (cO rfl (aK (aC (aD (aS (aD (aA ?_)))))))))))))
     refine aV rfl rfl (bJ rfl rfl (aB (aC (aA (aV rfl rfl (eF rfl rfl (aV rfl rfl ?_)))))))
     refine bV lB rfl rfl (fC _ (i : Int) (by omega)) ?_
     rintro v30 w30 ⟨rfl, hb30⟩
     have M30 := M28.callB hb30
     refine aV rfl rfl (wq (fT rfl rfl (by omega) (by omega)) rfl (wq (bM rfl rfl (by omega) (by omega)) rfl (aT 41 (.int .i64 ((8 + 40 * i + 24 : Nat) : Int)) (iE (by omega)) (wq (fN (((8 + 40 * i + 24 : Nat) : Int)) (((n : Nat) : Int)) kI rfl ⟨_, rfl⟩ rfl (by omega) (by omega) (by omega)) rfl ?_))))
     refine bV lI rfl rfl (fS _ _ _ _ ((ls.drop (8 + 40 * i + 24)).take (n - (8 + 40 * i + 24))) (Rd.subB (R.mem M30) (8 + 40 * i + 24) (n) (by omega) (by omega) hcap) (hB.sub _ _) (by omega)) ?_
     rintro v31 w31 ⟨rfl, hb31⟩
     have M31 := M30.callB hb31
     refine aT 43 (.int .u32 (dW ls (8 + 40 * i + 24))) (iE (gV (by omega))) (wq (eX (6) fH rfl rfl rfl (by decide)) rfl (dH 1 (.int _ _) bZ M31 rfl rfl rfl rfl rfl rfl (fun w32 M32 => (aB (cX (aC (aA ?_)))))))
     refine wq (bM rfl rfl (by first | decide | omega) (by first | decide | omega)) rfl (aT 45 (.int .i64 7) (iE (by first | decide | omega)) (aV rfl rfl (aB (aC (gW (jZ (fr := [(0, .slice _ _ _), (2, .slice _ _ _), (3, .int .i64 0), (5, .slice _ _ _), (6, .int _ _), (7, .pointer _), (8, .int .i64 6), (28, .int _ _), (29, .int _ _), (32, .int .i64 7)]) (bL rfl (bL rfl (bL rfl (bL rfl (bL rfl (bL rfl (bL rfl (bL rfl (bL rfl (bL rfl eV)))))))))) (fun ρ33 => ?_)))))))
     refine aD (aA (cT rfl rfl rfl rfl (kR 33 rfl (by first | decide | omega) (aB (aC (aD (cO rfl (aK (aC (aD (aS (aD (aA ?_)))))))))))))
     refine aV rfl rfl (bJ rfl rfl (aB (aC (aA (aV rfl rfl (eF rfl rfl (aV rfl rfl ?_)))))))
     refine bV lB rfl rfl (fC _ (i : Int) (by omega)) ?_
     rintro v34 w34 ⟨rfl, hb34⟩
     have M34 := M32.callB hb34
     refine aV rfl rfl (wq (fT rfl rfl (by omega) (by omega)) rfl (wq (bM rfl rfl (by omega) (by omega)) rfl (aT 41 (.int .i64 ((8 + 40 * i + 28 : Nat) : Int)) (iE (by omega)) (wq (fN (((8 + 40 * i + 28 : Nat) : Int)) (((n : Nat) : Int)) kI rfl ⟨_, rfl⟩ rfl (by omega) (by omega) (by omega)) rfl ?_))))
     refine bV lI rfl rfl (fS _ _ _ _ ((ls.drop (8 + 40 * i + 28)).take (n - (8 + 40 * i + 28))) (Rd.subB (R.mem M34) (8 + 40 * i + 28) (n) (by omega) (by omega) hcap) (hB.sub _ _) (by omega)) ?_
     rintro v35 w35 ⟨rfl, hb35⟩
     have M35 := M34.callB hb35
     refine aT 43 (.int .u32 (dW ls (8 + 40 * i + 28))) (iE (gV (by omega))) (wq (eX (7) fH rfl rfl rfl (by decide)) rfl (dH 1 (.int _ _) bZ M35 rfl rfl rfl rfl rfl rfl (fun w36 M36 => (aB (cX (aC (aA ?_)))))))
     refine wq (bM rfl rfl (by first | decide | omega) (by first | decide | omega)) rfl (aT 45 (.int .i64 8) (iE (by first | decide | omega)) (aV rfl rfl (aB (aC (gW (jZ (fr := [(0, .slice _ _ _), (2, .slice _ _ _), (3, .int .i64 0), (5, .slice _ _ _), (6, .int _ _), (7, .pointer _), (8, .int .i64 7), (28, .int _ _), (29, .int _ _), (32, .int .i64 8)]) (bL rfl (bL rfl (bL rfl (bL rfl (bL rfl (bL rfl (bL rfl (bL rfl (bL rfl (bL rfl eV)))))))))) (fun ρ37 => ?_)))))))
     refine aD (aA (cT rfl rfl rfl rfl (kR 33 rfl (by first | decide | omega) (aB (aC (aD (cO rfl (aK (aC (aD (aS (aD (aA ?_)))))))))))))
     refine aV rfl rfl (bJ rfl rfl (aB (aC (aA (aV rfl rfl (eF rfl rfl (aV rfl rfl ?_)))))))
     refine bV lB rfl rfl (fC _ (i : Int) (by omega)) ?_
     rintro v38 w38 ⟨rfl, hb38⟩
     have M38 := M36.callB hb38
     refine aV rfl rfl (wq (fT rfl rfl (by omega) (by omega)) rfl (wq (bM rfl rfl (by omega) (by omega)) rfl (aT 41 (.int .i64 ((8 + 40 * i + 32 : Nat) : Int)) (iE (by omega)) (wq (fN (((8 + 40 * i + 32 : Nat) : Int)) (((n : Nat) : Int)) kI rfl ⟨_, rfl⟩ rfl (by omega) (by omega) (by omega)) rfl ?_))))
     refine bV lI rfl rfl (fS _ _ _ _ ((ls.drop (8 + 40 * i + 32)).take (n - (8 + 40 * i + 32))) (Rd.subB (R.mem M38) (8 + 40 * i + 32) (n) (by omega) (by omega) hcap) (hB.sub _ _) (by omega)) ?_
     rintro v39 w39 ⟨rfl, hb39⟩
     have M39 := M38.callB hb39
     refine aT 43 (.int .u32 (dW ls (8 + 40 * i + 32))) (iE (gV (by omega))) (wq (eX (8) fH rfl rfl rfl (by decide)) rfl (dH 1 (.int _ _) bZ M39 rfl rfl rfl rfl rfl rfl (fun w40 M40 => (aB (cX (aC (aA ?_)))))))
     refine wq (bM rfl rfl (by first | decide | omega) (by first | decide | omega)) rfl (aT 45 (.int .i64 9) (iE (by first | decide | omega)) (aV rfl rfl (aB (aC (gW (jZ (fr := [(0, .slice _ _ _), (2, .slice _ _ _), (3, .int .i64 0), (5, .slice _ _ _), (6, .int _ _), (7, .pointer _), (8, .int .i64 8), (28, .int _ _), (29, .int _ _), (32, .int .i64 9)]) (bL rfl (bL rfl (bL rfl (bL rfl (bL rfl (bL rfl (bL rfl (bL rfl (bL rfl (bL rfl eV)))))))))) (fun ρ41 => ?_)))))))
     refine aD (aA (cT rfl rfl rfl rfl (kR 33 rfl (by first | decide | omega) (aB (aC (aD (cO rfl (aK (aC (aD (aS (aD (aA ?_)))))))))))))
     refine aV rfl rfl (bJ rfl rfl (aB (aC (aA (aV rfl rfl (eF rfl rfl (aV rfl rfl ?_)))))))
     refine bV lB rfl rfl (fC _ (i : Int) (by omega)) ?_
     rintro v42 w42 ⟨rfl, hb42⟩
     have M42 := M40.callB hb42
     refine aV rfl rfl (wq (fT rfl rfl (by omega) (by omega)) rfl (wq (bM rfl rfl (by omega) (by omega)) rfl (aT 41 (.int .i64 ((8 + 40 * i + 36 : Nat) : Int)) (iE (by omega)) (wq (fN (((8 + 40 * i + 36 : Nat) : Int)) (((n : Nat) : Int)) kI rfl ⟨_, rfl⟩ rfl (by omega) (by omega) (by omega)) rfl ?_))))
     refine bV lI rfl rfl (fS _ _ _ _ ((ls.drop (8 + 40 * i + 36)).take (n - (8 + 40 * i + 36))) (Rd.subB (R.mem M42) (8 + 40 * i + 36) (n) (by omega) (by omega) hcap) (hB.sub _ _) (by omega)) ?_
     rintro v43 w43 ⟨rfl, hb43⟩
     have M43 := M42.callB hb43
     refine aT 43 (.int .u32 (dW ls (8 + 40 * i + 36))) (iE (gV (by omega))) (wq (eX (9) fH rfl rfl rfl (by decide)) rfl (dH 1 (.int _ _) bZ M43 rfl rfl rfl rfl rfl rfl (fun w44 M44 => (aB (cX (aC (aA ?_)))))))
     refine wq (bM rfl rfl (by first | decide | omega) (by first | decide | omega)) rfl (aT 45 (.int .i64 10) (iE (by first | decide | omega)) (aV rfl rfl (aB (aC (gW (jZ (fr := [(0, .slice _ _ _), (2, .slice _ _ _), (3, .int .i64 0), (5, .slice _ _ _), (6, .int _ _), (7, .pointer _), (8, .int .i64 9), (28, .int _ _), (29, .int _ _), (32, .int .i64 10)]) (bL rfl (bL rfl (bL rfl (bL rfl (bL rfl (bL rfl (bL rfl (bL rfl (bL rfl (bL rfl eV)))))))))) (fun ρ45 => ?_)))))))
     refine aD (aA (cT rfl rfl rfl rfl (tF 33 rfl (by first | decide | omega) (aB (aC (aD (bX rfl (cP ?_))))))))
     refine dA (dA (eT (aC (aA (eF rfl rfl (wq (bA 1 aJk M44 rfl rfl rfl) rfl (bV bDk rfl rfl (aEr _ _ _ _ _ _ _ _ _ _ _ (bFf hB (a := 8 + 40 * i) (by omega))) ?_)))))))
     rintro v46 w46 ⟨rfl, hb46⟩
     have M46 := M44.callB hb46
     refine aT 48 ((.agg (aF (kQ ls (8 + 40 * i))).toArray)) rfl (dC [.agg (List.toArray _)] [aF (kQ ls (8 + 40 * i))] rfl eP M46 rfl rfl rfl rfl (dI rfl) (by decide) (fun b47 w47 M47 => (eH 0 [aF (kQ ls (8 + 40 * i))] eP M47 rfl rfl rfl rfl rfl hq rfl (by simp [aF, Go.Bil.one]) (dD.ofMem 2 M47 rfl) (by omega) (fun A48 c48 e48 w48 M48 hR48 => ?_))))
     refine gC rfl rfl (aB (cX (aC (aA (wq (bM rfl rfl (by omega) (by omega)) rfl (aV rfl rfl ?_))))))
     refine aB ?_
     refine cQ (i + 1, ⟨A48, q.n + 1, c48, e48⟩) (bL rfl (bL rfl eV)) (cU rfl (cU rfl (cU rfl (cU rfl jS)))) ?_ ?_
     ·exact ⟨⟨by omega, by rw [aNy, List.map_append]; exact hR48⟩, M48.keep [true, false, false]⟩
     ·(show N - (i + 1) < N - i; omega)
    ·obtain rfl : i = N := by omega
     refine cP (dA (cY (eT (aC (aD (aD (aA (eF rfl rfl ?_))))))))
     refine bV aZe rfl rfl (yL _ _ _ _ (lR ls i) (hq.rd hM4 (aZ (i := 0) rfl))) ?_
     rintro v49 w49 ⟨rfl, hb49⟩
     have M49 := hM4.callB hb49
     refine bJ rfl rfl (aB (aC (aD (aA (aV rfl rfl (cT rfl rfl rfl rfl (aB (aC ?_))))))))
     refine aW rfl (fun h55 => ?_) (fun h55 => ?_)
     ·refine aD (aA (aV rfl rfl (gC rfl rfl (bJ rfl rfl (aB (aC (aN (cE (iD (.slice _ _ _) (.int _ _) rfl rfl ?_)))))))))
      have hd := aWl hfm hN h55
      exact ⟨⟨none, 0, 0, (none, default)⟩, by rw [hd], by rw [hd]; exact aX.nil _ _ _, (M49.keep [false]).dummy default⟩
     ·refine aK (aC (aD (aA (eF rfl rfl (gC rfl rfl (bJ rfl rfl (aB (aC (aN (iD (.slice _ _ _) (.int _ _) rfl rfl ?_))))))))))
      have hd := aTl hfm hN (Decidable.not_not.1 h55)
      exact ⟨q, by rw [hd], by rw [hd]; exact hq, M49⟩
set_option maxHeartbeats 4000000 in
theorem rI (w : World) (A : Option Addr) (n c : Nat) (xs : List Int) (R : Rd w 1 A n (xs.map bY)) (B : Option Addr) (m c' : Nat) (ys : List Int) (R' : Rd w 1 B m (ys.map bY)) :
  Calls Tryz.prog 33 #[.slice A n c, .slice B m c'] w (fun ex w' => ∃ v, ex = .returned v ∧ (fun v w' => v = .bool (decide (xs = ys)) ∧ Below w.heap.size w w') v w') := by
 have hlen : xs.length = n := by simpa using R.len
 have hlen' : ys.length = m := by simpa using R'.len
 have hbd := R.bound
 have hbd' := R'.bound
 refine aH #[.tmp 4] 26 Tryz.func33 rfl Tryz.results33 Tryz.ntmps33 rfl ?_
 have M0 := Mem.refl w
 refine aD (aA (wq (aI (.bool false) rfl) rfl (aB (aC (aD (aD (aA (eF rfl rfl (wq (cM Tryz.underlying57 rfl) rfl (eF rfl rfl ?_))))))))))
 refine wq (cM Tryz.underlying57 rfl) rfl (cT rfl rfl rfl rfl (aB (aC ?_)))
 refine aW rfl (fun h10 => ?_) (fun h10 => ?_)
 ·refine aD (aA (wq (aI (.bool false) rfl) rfl (aB (aC (aN (cE (cC (.bool false) rfl ?_)))))))
  exact ⟨bF (fun e => h10 (by rw [← hlen, ← hlen', e])), M0.below⟩
 ·have hnm : n = m := by omega
  refine aK (aC (aD (aD (aA (bJ rfl rfl (aB (aC (aS (dM (σ := Nat) [0, 1] (fun k => [(5, .int .i64 (k : Int))]) (fun k w' => (k ≤ n ∧ ∀ (j : Nat) (x : Int), j < k → xs[j]? = some x → ys[j]? = some x) ∧ Mem w [] [] w') (fun k => n - k) 0 (bL rfl eV) (⟨⟨by omega, fun j c hj => by omega⟩, M0⟩) ?_)))))))))
  rintro k ρ1 w1 ⟨⟨hk, hne⟩, hM1⟩
  refine aD (aD (aA (aV rfl rfl (eF rfl rfl (wq (cM Tryz.underlying57 rfl) rfl (cT rfl rfl rfl rfl (aB (aC ?_))))))))
  refine aW rfl (fun h14 => ?_) (fun h14 => ?_)
  ·obtain ⟨xb, hxb⟩ := cI (xs := xs) (k := k) hlen (by omega)
   obtain ⟨yb, hyb⟩ := cI (xs := ys) (k := k) hlen' (by omega)
   refine aK (aC (aD (aS (aD (bQ [(0, 0), (1, 0), (2, 1), (3, 1), (4, 0), (5, 0), (6, 1), (7, 1), (8, 0)] mixed rfl (by kernel_rfl) (fun w2 hb2 hh2 => ?_))))))
   have M2 := hM1.drew hb2 hh2
   refine vB rfl rfl rfl (gG rfl rfl rfl (cD rfl rfl rfl (bO (k) kI rfl rfl rfl ((R.mem M2).below_len (aJ bY hxb)) ((R.mem M2).someK (aJ bY hxb))) (cD rfl rfl rfl (gT (.int _ _) aNa (R.mem M2) (aJ bY hxb) rfl) (vB rfl rfl rfl (gG rfl rfl rfl ?_)))))
   refine cD rfl rfl rfl (bO (k) kI rfl rfl rfl ((R'.mem M2).below_len (aJ bY hyb)) ((R'.mem M2).someK (aJ bY hyb))) (cD rfl rfl rfl (gT (.int _ _) aNa (R'.mem M2) (aJ bY hyb) rfl) (aY rfl rfl rfl (fun _ => dY (.bool (decide _)) rfl rfl rfl) (cF (aC ?_))))
   refine aW rfl (fun h25 => ?_) (fun h25 => ?_)
   ·refine aD (aA (wq (aI (.bool false) rfl) rfl (aB (aC (aN (iQ (cE (oT ?_))))))))
    refine iQ (cE (cC (.bool false) rfl ?_))
    exact ⟨bF (fun e => h25 (by rw [e] at hxb; rw [hxb] at hyb; injection hyb)), M2.below⟩
   ·refine aK (cX (aC (aA (aV rfl rfl (wq (bM rfl rfl (by omega) (by omega)) rfl (bJ rfl rfl ?_))))))
    refine aB ?_
    refine cQ (k + 1) (bL rfl eV) (cU rfl (cU rfl jS)) ?_ ?_
    ·exact ⟨⟨by omega, pW (p := fun j x => ys[j]? = some x) hne hxb (by rw [hyb, Decidable.not_not.1 h25])⟩, M2⟩
    ·omega
  ·refine cP (dA (cY (eT (aC (aD (aA (wq (aI (.bool true) rfl) rfl ?_)))))))
   refine aB (aC (aN (cC (.bool true) rfl ?_)))
   exact ⟨bT (aUm hlen hlen' hnm (fun j x hj hx => hne j x (by omega) hx)), hM1.below⟩
end Go.Proofs.YtlmcphcgiclanaaGreatDoor
