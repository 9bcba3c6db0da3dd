/- Part of the proof of the laws of this seat: SW, C21a, C21b, R21a, R21b, R21c. No conditions. -/
import Derived.Test.YtlmcphcgiclanaaGreatDoorK2
import Derived.Test.YtlmcphcgiclanaaGreatDoorK5
import Derived.Test.YtlmcphcgiclanaaGreatDoorK22
import Derived.Test.YtlmcphcgiclanaaGreatDoorK33
import Derived.Test.YtlmcphcgiclanaaGreatDoorK32
import Derived.Test.YtlmcphcgiclanaaGreatDoorK6
import Derived.Test.YtlmcphcgiclanaaGreatDoorK24
import Derived.Test.YtlmcphcgiclanaaGreatDoorK13
import Derived.Test.YtlmcphcgiclanaaGreatDoorK17
import Derived.Test.YtlmcphcgiclanaaGreatDoorK11
set_option linter.unusedVariables false
set_option linter.unusedSimpArgs false
set_option linter.unnecessarySimpa false
namespace Go.Proofs.YtlmcphcgiclanaaGreatDoor
open Go.Bil
open Go.RowKit (Below)
open Go.Proofs
set_option maxHeartbeats 4000000 in
theorem aLu (w : World) (b : Nat) (A : Option Addr) (n c : Nat) (p : Option Nat) (er em : dN) (m : List Body) (hs : StoreIs 40 A n c p er em m) (hO : Own [(some b, bc [.slice A n c, .map p] 56), er, em] w) (x : Body) :
  Calls Tryz.prog 66 #[.pointer (some ⟨b, 0, none⟩), (.agg (aF x).toArray)] w (fun ex w' => ∃ v, ex = .returned v ∧ (fun v w' => v = .int .i64 (kL m x).2 ∧ ∃ A' n' c' p' er' em', StoreIs 40 A' n' c' p' er' em' (kL m x).1 ∧ Mem w (bS [(some b, bc [.slice A n c, .map p] 56), er, em]) [(some b, bc [.slice A' n' c', .map p'] 56), er', em'] w') v w') := by
 have hlen : m.length = n := by simpa using hs.row.1
 have hcap := hs.cap
 refine aH #[.tmp 4] 62 Tryz.func66 rfl Tryz.results66 Tryz.ntmps66 rfl ?_
 have M0 := hO.mem
 refine aD (aA (bN (.agg (List.toArray _)) M0 rfl rfl rfl (fun b1 w1 M1 => (bI rfl rfl (aB (aC (aD (aD (aA (wq (aG (.pointer _) rfl) rfl (wq (dX false Tryz.underlying143 rfl rfl) rfl ?_)))))))))))
 refine aB (aC (bR rfl (aL (aC (aD (aD (aA (wq (bB 3 bO M1 rfl rfl rfl) rfl (cA aUe rfl rfl (qW _ x) ?_)))))))))
 rintro v2 w2 ⟨rfl, hb2⟩
 have M2 := M1.callB hb2
 refine bI rfl rfl (aB (aC (aD (aA (aV rfl rfl (cQ rfl rfl rfl rfl (aB (aC ?_))))))))
 refine aW rfl (fun h13 => ?_) (fun h13 => ?_)
 ·refine aD (aA (aV rfl rfl (bI rfl rfl (aB (aC (aN (bZ (bV (.int _ _) rfl ?_))))))))
  have ha : kL m x = (m, check x) := by unfold kL; rw [if_pos h13]
  exact ⟨by rw [ha], A, n, c, p, er, em, by rw [ha]; exact hs, M2.keep [true, true, true, false]⟩
 ·refine aL (aC (aD (aD (bX [(0, 0), (1, 0), (2, 0), (3, 1), (4, 0), (5, 1), (6, 1), (7, 0), (8, 0), (9, 0), (10, 0), (11, 0)] mixed rfl (by kernel_rfl) (fun w3 hb3 hh3 => ?_)))))
  have M3 := M2.drew hb3 hh3
  refine bA rfl rfl rfl (fun _ => aG (.pointer _) rfl) (bA rfl rfl rfl (fun _ => aM rfl) (bA rfl rfl rfl (fun _ => aE 1 jX rfl) (cD rfl rfl rfl (aO 0 (.map _) qL M3 rfl rfl rfl) (bA rfl rfl rfl (fun _ => aE 0 eK rfl) (cD rfl rfl rfl (aO 3 (.int _ _) bY M3 rfl rfl rfl) ?_)))))
  refine cD rfl rfl rfl (sO (enc := (Value.int .i64)) 0 2 uF zv3 M3 rfl hs.map rfl rfl) (bA rfl rfl rfl (fun _ => aG (.tuple (List.toArray _)) rfl) (bA rfl rfl rfl (fun _ => bH (.int _ _) rfl rfl) (bA rfl rfl rfl (fun _ => bH (.bool _) rfl rfl) (qC rfl rfl rfl (bA rfl rfl rfl (fun _ => aI (.bool _) rfl) ?_)))))
  refine cH (aC (aD (aA (wq (aG (.bool _) rfl) rfl (aB (aC ?_))))))
  refine gO _ rfl (fun h25 => ?_) (fun h25 => ?_)
  ·have hf : 0 ≤ cF x.key m := by rw [yP] at h25; exact of_decide_eq_true h25
   refine aD (aA (bI rfl rfl (aB (aC (aN (bZ (bV (.int _ _) rfl ?_)))))))
   have ha : kL m x = (m, 10) := by unfold kL; rw [if_neg h13, if_pos hf]
   exact ⟨by rw [ha], A, n, c, p, er, em, by rw [ha]; exact hs, M3.keep [true, true, true, false]⟩
  ·have hf : ¬ (0 ≤ cF x.key m) := fun h => by rw [yP, decide_eq_true h] at h25; simp at h25
   refine aL (aC (aD (aD (aA (wq (aG (.pointer _) rfl) rfl (wq (aM rfl) rfl (wq (aE 0 fP rfl) rfl (wq (aO 0 (.slice _ _ _) fC M3 rfl rfl rfl) rfl (wq (cS Tryz.underlying22 rfl) rfl ?_)))))))))
   refine cQ rfl rfl rfl rfl (aB (aC ?_))
   refine aW rfl (fun h31 => ?_) (fun h31 => ?_)
   ·refine aD (aA (bI rfl rfl (aB (aC (aN (bZ (bV (.int _ _) rfl ?_)))))))
    have ha : kL m x = (m, 12) := by unfold kL; rw [if_neg h13, if_neg hf, if_pos (by omega)]
    exact ⟨by rw [ha], A, n, c, p, er, em, by rw [ha]; exact hs, M3.keep [true, true, true, false]⟩
   ·refine aL (aC (aD (aD (aA (wq (aG (.pointer _) rfl) rfl (wq (aM rfl) rfl (wq (aE 1 jX rfl) rfl (wq (aO 0 (.map _) qL M3 rfl rfl rfl) rfl (wq (aIo _ Tryz.underlying50 rfl rfl) rfl ?_)))))))))
    refine aB (aC ?_)
    refine gO _ rfl (fun h36 => ?_) (fun h36 => ?_)
    ·have hpn : p = none := by cases p <;> simp_all
     have hnone : ∀ k, rJ m k = (fun _ => none) k := fun k => by subst hpn; rcases hs.map with ⟨_, _, h⟩ | ⟨_, _, h, _⟩; exact h k; cases h
     refine aA (wq (aG (.pointer _) rfl) rfl (lC M3 rfl rfl (fun b4 w4 M4 => ?_)))
     have M5 := M4.replace (i := 2) (Nat.le_of_ble_eq_true rfl)
     refine wq (aM rfl) rfl (wq (aE 1 jX rfl) rfl (dF 0 (.map _) qL M5 rfl rfl rfl rfl rfl rfl (fun w6 M6 => (aB (aC (aD (bX [(0, 0), (1, 0), (2, 0), (3, 1), (4, 0), (5, 1), (6, 0), (7, 0), (8, 0), (9, 1), (10, 0), (11, 2)] mixed rfl (by kernel_rfl) (fun w7 hb7 hh7 => ?_))))))))
     have M7 := M6.drew hb7 hh7
     refine bA rfl rfl rfl (fun _ => aG (.pointer _) rfl) (bA rfl rfl rfl (fun _ => aM rfl) (bA rfl rfl rfl (fun _ => aE 1 jX rfl) (cD rfl rfl rfl (aO 0 (.map _) qL M7 rfl rfl rfl) (bA rfl rfl rfl (fun _ => aE 0 eK rfl) (cD rfl rfl rfl (aO 3 (.int _ _) bY M7 rfl rfl rfl) ?_)))))
     refine bA rfl rfl rfl (fun _ => aG (.pointer _) rfl) (bA rfl rfl rfl (fun _ => aM rfl) (bA rfl rfl rfl (fun _ => aE 0 fP rfl) (cD rfl rfl rfl (aO 0 (.slice _ _ _) fC M7 rfl rfl rfl) (bA rfl rfl rfl (fun _ => cS Tryz.underlying22 rfl) (dU [true, true, true] rfl (by kernel_rfl) ?_)))))
     refine iC (enc := (Value.int .i64)) 2 uF M7 rfl rfl ((iU.empty _ _ b4).congr hnone) rfl rfl rfl rfl (fun e8 w8 hm8 M8 => ?_)
     refine aB (aC ⟨dS, ?_⟩)
     refine cH (aC (aD (bX [(0, 0), (1, 0), (2, 0), (3, 0), (4, 1), (5, 1), (6, 2), (7, 2), (8, 0), (9, 0), (10, 2)] mixed rfl (by kernel_rfl) (fun w9 hb9 hh9 => ?_))))
     have M9 := M8.drew hb9 hh9
     refine bA rfl rfl rfl (fun _ => aG (.pointer _) rfl) (bA rfl rfl rfl (fun _ => aG (.pointer _) rfl) (bA rfl rfl rfl (fun _ => aM rfl) (bA rfl rfl rfl (fun _ => aE 0 fP rfl) (cD rfl rfl rfl (aO 0 (.slice _ _ _) fC M9 rfl rfl rfl) (cD rfl rfl rfl (bB 3 bO M9 rfl rfl rfl) ?_)))))
     refine dU [true, false] rfl (by kernel_rfl) (dA [.agg (List.toArray _)] _ rfl eV M9 rfl rfl rfl rfl (dI rfl) (by decide) (fun b10 w10 M10 => ?_))
     refine aB (aC ⟨(eX (bQ rfl (aO 0 (.slice _ _ _) fC M10 rfl rfl rfl)) dS), ?_⟩)
     refine dU [true] rfl (by kernel_rfl) (eF 1 [aF x] eV M10 rfl rfl rfl rfl rfl hs.row rfl (by simpa using ⟨mF x, mI x⟩) (dC.ofMem 4 M10 rfl) (by omega) (fun A11 c11 e11 w11 M11 hR11 => ?_))
     refine aB (aC ⟨dS, ?_⟩)
     refine bA rfl rfl rfl (fun _ => aM rfl) (bA rfl rfl rfl (fun _ => aE 0 fP rfl) (dU [] rfl (by kernel_rfl) (dF 0 (.slice _ _ _) fC M11 rfl rfl rfl rfl rfl rfl (fun w12 M12 => ?_))))
     refine aB (aC ⟨dS, ?_⟩)
     refine cH (aC (aD (aA (bI rfl rfl (aB (aC (aN (bV (.int _ _) rfl ?_))))))))
     have ha : kL m x = (m ++ [x], 0) := by unfold kL; rw [if_neg h13, if_neg hf, if_neg (by omega)]
     have hall := aKy (x := x) ⟨hs.keys, hs.cap, hs.ok⟩
     rw [ha] at hall
     obtain ⟨hk', hc', ho'⟩ := hall
     have hix := aEj hs.keys (x := x) (by omega)
     rw [hlen] at hix
     exact ⟨by rw [ha], _, _, _, _, _, _, by rw [ha]; exact ⟨(by simpa using hR11), (hm8.congr hix), hk', hc', ho'⟩, M12.keep [true, true, true, false, false]⟩
    ·have hps : p.isSome = true := by cases p <;> simp_all
     refine aL (aC (aD (bX [(0, 0), (1, 0), (2, 0), (3, 1), (4, 0), (5, 1), (6, 0), (7, 0), (8, 0), (9, 1), (10, 0), (11, 2)] mixed rfl (by kernel_rfl) (fun w13 hb13 hh13 => ?_))))
     have M13 := M3.drew hb13 hh13
     refine bA rfl rfl rfl (fun _ => aG (.pointer _) rfl) (bA rfl rfl rfl (fun _ => aM rfl) (bA rfl rfl rfl (fun _ => aE 1 jX rfl) (cD rfl rfl rfl (aO 0 (.map _) qL M13 rfl rfl rfl) (bA rfl rfl rfl (fun _ => aE 0 eK rfl) (cD rfl rfl rfl (aO 3 (.int _ _) bY M13 rfl rfl rfl) ?_)))))
     refine bA rfl rfl rfl (fun _ => aG (.pointer _) rfl) (bA rfl rfl rfl (fun _ => aM rfl) (bA rfl rfl rfl (fun _ => aE 0 fP rfl) (cD rfl rfl rfl (aO 0 (.slice _ _ _) fC M13 rfl rfl rfl) (bA rfl rfl rfl (fun _ => cS Tryz.underlying22 rfl) (dU [true, true, true] rfl (by kernel_rfl) ?_)))))
     refine iC (enc := (Value.int .i64)) 2 uF M13 rfl rfl hs.map hps rfl rfl rfl (fun e14 w14 hm14 M14 => ?_)
     refine aB (aC ⟨dS, ?_⟩)
     refine cH (aC (aD (bX [(0, 0), (1, 0), (2, 0), (3, 0), (4, 1), (5, 1), (6, 2), (7, 2), (8, 0), (9, 0), (10, 2)] mixed rfl (by kernel_rfl) (fun w15 hb15 hh15 => ?_))))
     have M15 := M14.drew hb15 hh15
     refine bA rfl rfl rfl (fun _ => aG (.pointer _) rfl) (bA rfl rfl rfl (fun _ => aG (.pointer _) rfl) (bA rfl rfl rfl (fun _ => aM rfl) (bA rfl rfl rfl (fun _ => aE 0 fP rfl) (cD rfl rfl rfl (aO 0 (.slice _ _ _) fC M15 rfl rfl rfl) (cD rfl rfl rfl (bB 3 bO M15 rfl rfl rfl) ?_)))))
     refine dU [true, false] rfl (by kernel_rfl) (dA [.agg (List.toArray _)] _ rfl eV M15 rfl rfl rfl rfl (dI rfl) (by decide) (fun b16 w16 M16 => ?_))
     refine aB (aC ⟨(eX (bQ rfl (aO 0 (.slice _ _ _) fC M16 rfl rfl rfl)) dS), ?_⟩)
     refine dU [true] rfl (by kernel_rfl) (eF 1 [aF x] eV M16 rfl rfl rfl rfl rfl hs.row rfl (by simpa using ⟨mF x, mI x⟩) (dC.ofMem 4 M16 rfl) (by omega) (fun A17 c17 e17 w17 M17 hR17 => ?_))
     refine aB (aC ⟨dS, ?_⟩)
     refine bA rfl rfl rfl (fun _ => aM rfl) (bA rfl rfl rfl (fun _ => aE 0 fP rfl) (dU [] rfl (by kernel_rfl) (dF 0 (.slice _ _ _) fC M17 rfl rfl rfl rfl rfl rfl (fun w18 M18 => ?_))))
     refine aB (aC ⟨dS, ?_⟩)
     refine cH (aC (aD (aA (bI rfl rfl (aB (aC (aN (bV (.int _ _) rfl ?_))))))))
     have ha : kL m x = (m ++ [x], 0) := by unfold kL; rw [if_neg h13, if_neg hf, if_neg (by omega)]
     have hall := aKy (x := x) ⟨hs.keys, hs.cap, hs.ok⟩
     rw [ha] at hall
     obtain ⟨hk', hc', ho'⟩ := hall
     have hix := aEj hs.keys (x := x) (by omega)
     rw [hlen] at hix
     exact ⟨by rw [ha], _, _, _, _, _, _, by rw [ha]; exact ⟨(by simpa using hR17), (hm14.congr hix), hk', hc', ho'⟩, M18.keep [true, true, true, false, false]⟩
set_option maxHeartbeats 4000000 in
theorem aUr (w : World) (b : Nat) (A : Option Addr) (n c : Nat) (p : Option Nat) (er em : dN) (m : List Body) (hs : StoreIs 40 A n c p er em m) (hO : Own [(some b, bc [.slice A n c, .map p] 56), er, em] w) (key : Int) :
  Calls Tryz.prog 70 #[.pointer (some ⟨b, 0, none⟩), .int .u32 key] w (fun ex w' => ∃ v, ex = .returned v ∧ (fun v w' => (∃ x, v = .tuple #[.agg (aF x).toArray, .int .i64 (yR m key).2] ∧ x = (yR m key).1) ∧ Mem w (bS [(some b, bc [.slice A n c, .map p] 56), er, em]) [(some b, bc [.slice A n c, .map p] 56), er, em] w') v w') := by
 have hlen : m.length = n := by simpa using hs.row.1
 have hcap := hs.cap
 refine aH #[.cell 4 40, .tmp 5] 30 Tryz.func70 rfl Tryz.results70 Tryz.ntmps70 rfl ?_
 have M0 := hO.mem
 refine aD (aA (aR gK M0 rfl rfl (fun b1 w1 M1 => (bI rfl rfl (aB (aC (aD (aD (aA (wq (aG (.pointer _) rfl) rfl (wq (dX false Tryz.underlying143 rfl rfl) rfl ?_)))))))))))
 refine aB (aC (bR rfl (aL (aC (aD (aA (wq (aG (.pointer _) rfl) rfl (wq (aM rfl) rfl (wq (aE 1 jX rfl) rfl ?_)))))))))
 refine wq (aO 0 (.map _) qL M1 rfl rfl rfl) rfl (aV rfl rfl (wq (sO (enc := (Value.int .i64)) 0 2 uF zv3 M1 rfl hs.map rfl rfl) rfl (wq (aG (.tuple (List.toArray _)) rfl) rfl (wq (bH (.int _ _) rfl rfl) rfl (wq (bH (.bool _) rfl rfl) rfl ?_)))))
 refine bI rfl rfl (wq (aI (.bool _) rfl) rfl (aB (aC (aD (aD (aA (wq (aG (.bool _) rfl) rfl (wq (fF _ rfl rfl) rfl (aB (aC ?_))))))))))
 refine gO _ rfl (fun h21 => ?_) (fun h21 => ?_)
 ·have hi : rJ m key = none := by cases h : rJ m key <;> simp_all
  refine aD (aA (wq (cN [] _ oU rfl rfl) rfl (bE 3 _ bO M1 rfl rfl rfl rfl rfl (aQ rfl) rfl (fun w2 M2 => (bI rfl rfl (aB (aC (aN (bZ (aAd (v2 := .int _ _) 3 bO M2 rfl rfl rfl rfl ?_))))))))))
  exact ⟨⟨⟨0, 0, 0, 0, 0, 0, 0, 0, 0, 0⟩, by rw [aAz hi]; rfl, by rw [aAz hi]⟩, M2.keep [true, true, true, false]⟩
 ·rcases jR key m with ⟨hi, _⟩ | ⟨i, bi, hbi, hbk, hi⟩
  ·simp [hi] at h21
  refine aL (aC (aD (aA (wq (aG (.pointer _) rfl) rfl (wq (aM rfl) rfl (wq (aE 0 fP rfl) rfl (wq (aO 0 (.slice _ _ _) fC M1 rfl rfl rfl) rfl (aV rfl rfl ?_))))))))
  refine wq (bP (i) eV rfl rfl (by rw [hi]; rfl) ((hs.row.rd M1 (aZ (i := 1) rfl)).below_len (aJ aF hbi)) ((hs.row.rd M1 (aZ (i := 1) rfl)).someK (aJ aF hbi))) rfl (wq (dW _ bO (hs.row.rd M1 (aZ (i := 1) rfl)) (aJ aF hbi) rfl) rfl (bE 3 _ bO M1 rfl rfl rfl rfl rfl (aQ rfl) rfl (fun w3 M3 => ?_)))
  refine bI rfl rfl (aB (aC (aN (aAd (v2 := .int _ _) 3 bO M3 rfl rfl rfl rfl ?_))))
  exact ⟨⟨bi, by rw [tM hi hbi], by rw [tM hi hbi]⟩, M3.keep [true, true, true, false]⟩
set_option maxHeartbeats 4000000 in
theorem aWy (w : World) (b : Nat) (A : Option Addr) (n c : Nat) (p : Option Nat) (er em : dN) (m : List Body) (hs : StoreIs 40 A n c p er em m) (hO : Own [(some b, bc [.slice A n c, .map p] 56), er, em] w) (x : Body) :
  Calls Tryz.prog 88 #[.pointer (some ⟨b, 0, none⟩), (.agg (aF x).toArray)] w (fun ex w' => ∃ v, ex = .returned v ∧ (fun v w' => v = .int .i64 (qU m x).2 ∧ ∃ A' n' c' p' er' em', StoreIs 40 A' n' c' p' er' em' (qU m x).1 ∧ Mem w (bS [(some b, bc [.slice A n c, .map p] 56), er, em]) [(some b, bc [.slice A' n' c', .map p'] 56), er', em'] w') v w') := by
 have hlen : m.length = n := by simpa using hs.row.1
 have hcap := hs.cap
 refine aH #[.tmp 4] 34 Tryz.func88 rfl Tryz.results88 Tryz.ntmps88 rfl ?_
 have M0 := hO.mem
 refine aD (aA (bN (.agg (List.toArray _)) M0 rfl rfl rfl (fun b1 w1 M1 => (bI rfl rfl (aB (aC (aD (aD (aA (wq (aG (.pointer _) rfl) rfl (wq (dX false Tryz.underlying143 rfl rfl) rfl ?_)))))))))))
 refine aB (aC (bR rfl (aL (aC (aD (aD (aA (wq (bB 3 bO M1 rfl rfl rfl) rfl (cA aUe rfl rfl (qW _ x) ?_)))))))))
 rintro v2 w2 ⟨rfl, hb2⟩
 have M2 := M1.callB hb2
 refine bI rfl rfl (aB (aC (aD (aA (aV rfl rfl (cQ rfl rfl rfl rfl (aB (aC ?_))))))))
 refine aW rfl (fun h13 => ?_) (fun h13 => ?_)
 ·refine aD (aA (aV rfl rfl (bI rfl rfl (aB (aC (aN (bZ (bV (.int _ _) rfl ?_))))))))
  have ha : qU m x = (m, check x) := by unfold qU; rw [if_pos h13]
  exact ⟨by rw [ha], A, n, c, p, er, em, by rw [ha]; exact hs, M2.keep [true, true, true, false]⟩
 ·refine aL (aC (aD (bX [(0, 0), (1, 0), (2, 0), (3, 1), (4, 0), (5, 1), (6, 1), (7, 0), (8, 0), (9, 0), (10, 0), (11, 0)] mixed rfl (by kernel_rfl) (fun w3 hb3 hh3 => ?_))))
  have M3 := M2.drew hb3 hh3
  refine bA rfl rfl rfl (fun _ => aG (.pointer _) rfl) (bA rfl rfl rfl (fun _ => aM rfl) (bA rfl rfl rfl (fun _ => aE 1 jX rfl) (cD rfl rfl rfl (aO 0 (.map _) qL M3 rfl rfl rfl) (bA rfl rfl rfl (fun _ => aE 0 eK rfl) (cD rfl rfl rfl (aO 3 (.int _ _) bY M3 rfl rfl rfl) ?_)))))
  refine cD rfl rfl rfl (sO (enc := (Value.int .i64)) 0 2 uF zv3 M3 rfl hs.map rfl rfl) (bA rfl rfl rfl (fun _ => aG (.tuple (List.toArray _)) rfl) (bA rfl rfl rfl (fun _ => bH (.int _ _) rfl rfl) (bA rfl rfl rfl (fun _ => bH (.bool _) rfl rfl) (qC rfl rfl rfl (bA rfl rfl rfl (fun _ => aI (.bool _) rfl) ?_)))))
  refine cH (aC (aD (aD (aA (wq (aG (.bool _) rfl) rfl (wq (fF _ rfl rfl) rfl (aB (aC ?_))))))))
  refine gO _ rfl (fun h26 => ?_) (fun h26 => ?_)
  ·have hi : rJ m x.key = none := by cases h : rJ m x.key <;> simp_all
   refine aD (aA (bI rfl rfl (aB (aC (aN (bZ (bV (.int _ _) rfl ?_)))))))
   have ha : qU m x = (m, 11) := by unfold qU; rw [if_neg h13, if_pos (by rw [gZ, hi]; decide)]
   exact ⟨by rw [ha], A, n, c, p, er, em, by rw [ha]; exact hs, M3.keep [true, true, true, false]⟩
  ·rcases jR x.key m with ⟨hi, _⟩ | ⟨i, bi, hbi, hbk, hi⟩
   ·simp [hi] at h26
   refine aL (aC (aD (bX [(0, 0), (1, 0), (2, 0), (3, 1), (4, 0), (5, 1), (6, 1), (7, 2)] mixed rfl (by kernel_rfl) (fun w4 hb4 hh4 => ?_))))
   have M4 := M3.drew hb4 hh4
   refine bA rfl rfl rfl (fun _ => aG (.pointer _) rfl) (bA rfl rfl rfl (fun _ => aM rfl) (bA rfl rfl rfl (fun _ => aE 0 fP rfl) (cD rfl rfl rfl (aO 0 (.slice _ _ _) fC M4 rfl rfl rfl) (gW rfl rfl rfl (cD rfl rfl rfl (bB 3 bO M4 rfl rfl rfl) ?_)))))
   refine cD rfl rfl rfl (bP (i) eV rfl rfl (by rw [hi]; rfl) ((hs.row.rd M4 (aZ (i := 1) rfl)).below_len (aJ aF hbi)) ((hs.row.rd M4 (aZ (i := 1) rfl)).someK (aJ aF hbi))) (dU [true, true, true] rfl (by kernel_rfl) (aDg 1 _ bO M4 rfl hs.row (aJ aF hbi) rfl rfl rfl rfl (aQ rfl) (fun e5 w5 hR5 M5 => ?_)))
   have hQ5 := hR5.mapSet (f := aF) (x := x) rfl
   refine aB (aC ⟨dS, ?_⟩)
   refine cH (aC (aD (aA (bI rfl rfl (aB (aC (aN (bV (.int _ _) rfl ?_))))))))
   have ha : qU m x = (m.set i x, 0) := by unfold qU; rw [if_neg h13, gZ, hi]; simp only []; rw [if_neg (by omega), Int.toNat_natCast]
   exact ⟨by rw [ha], _, _, _, _, _, _, by rw [ha]; exact hs.put hbi hbk.symm (by omega) hQ5, M5.keep [true, true, true, false]⟩
set_option maxHeartbeats 4000000 in
theorem aJu (w : World) (b : Nat) (A : Option Addr) (n c : Nat) (p : Option Nat) (er em : dN) (m : List Body) (hs : StoreIs 40 A n c p er em m) (hO : Own [(some b, bc [.slice A n c, .map p] 56), er, em] w) (key : Int) :
  Calls Tryz.prog 89 #[.pointer (some ⟨b, 0, none⟩), .int .u32 key] w (fun ex w' => ∃ v, ex = .returned v ∧ (fun v w' => v = .int .i64 (iQ m key).2 ∧ ∃ A' n' c' p' er' em', StoreIs 40 A' n' c' p' er' em' (iQ m key).1 ∧ Mem w (bS [(some b, bc [.slice A n c, .map p] 56), er, em]) [(some b, bc [.slice A' n' c', .map p'] 56), er', em'] w') v w') := by
 have hlen : m.length = n := by simpa using hs.row.1
 have hcap := hs.cap
 refine aH #[.tmp 4] 67 Tryz.func89 rfl Tryz.results89 Tryz.ntmps89 rfl ?_
 have M0 := hO.mem
 refine aD (aA (bI rfl rfl (aB (aC (aD (aD (aA (wq (aG (.pointer _) rfl) rfl (wq (dX false Tryz.underlying143 rfl rfl) rfl (aB (aC ?_)))))))))))
 refine bR rfl (aL (aC (aD (aA (wq (aG (.pointer _) rfl) rfl (wq (aM rfl) rfl (wq (aE 1 jX rfl) rfl (wq (aO 0 (.map _) qL M0 rfl rfl rfl) rfl ?_))))))))
 refine aV rfl rfl (wq (sO (enc := (Value.int .i64)) 0 2 uF zv3 M0 rfl hs.map rfl rfl) rfl (wq (aG (.tuple (List.toArray _)) rfl) rfl (wq (bH (.int _ _) rfl rfl) rfl (wq (bH (.bool _) rfl rfl) rfl (bI rfl rfl ?_)))))
 refine wq (aI (.bool _) rfl) rfl (aB (aC (aD (aD (aA (wq (aG (.bool _) rfl) rfl (wq (fF _ rfl rfl) rfl (aB (aC ?_)))))))))
 refine gO _ rfl (fun h20 => ?_) (fun h20 => ?_)
 ·have hi : rJ m key = none := by cases h : rJ m key <;> simp_all
  refine aD (aA (bI rfl rfl (aB (aC (aN (bZ (bV (.int _ _) rfl ?_)))))))
  have ha : iQ m key = (m, 11) := by unfold iQ; rw [if_pos (by rw [gZ, hi]; decide)]
  exact ⟨by rw [ha], A, n, c, p, er, em, by rw [ha]; exact hs, M0.keep [true, true, true]⟩
 ·rcases jR key m with ⟨hi, _⟩ | ⟨i, bi, hbi, hbk, hi⟩
  ·simp [hi] at h20
  have hilt : i < m.length := (List.getElem?_eq_some_iff.1 hbi).1
  obtain ⟨bl, hbl⟩ := cM (xs := m) (k := n - 1) rfl (by omega)
  have hps : p.isSome = true := hs.map.isSome hi
  refine aL (aC (aD (aA (wq (aG (.pointer _) rfl) rfl (wq (aM rfl) rfl (wq (aE 0 fP rfl) rfl (wq (aO 0 (.slice _ _ _) fC M0 rfl rfl rfl) rfl (wq (cS Tryz.underlying22 rfl) rfl ?_))))))))
  refine wq (mK rfl rfl (by omega) (by omega)) rfl (bI rfl rfl (aB (aC (aD (bX [(0, 0), (1, 0), (2, 0), (3, 1), (4, 0), (5, 0), (6, 0), (7, 0), (8, 1), (9, 0), (10, 1), (11, 1), (12, 1), (13, 2)] mixed rfl (by kernel_rfl) (fun w1 hb1 hh1 => ?_))))))
  have M1 := M0.drew hb1 hh1
  refine bA rfl rfl rfl (fun _ => aG (.pointer _) rfl) (bA rfl rfl rfl (fun _ => aM rfl) (bA rfl rfl rfl (fun _ => aE 0 fP rfl) (cD rfl rfl rfl (aO 0 (.slice _ _ _) fC M1 rfl rfl rfl) (gW rfl rfl rfl (bA rfl rfl rfl (fun _ => aG (.pointer _) rfl) ?_)))))
  refine bA rfl rfl rfl (fun _ => aM rfl) (bA rfl rfl rfl (fun _ => aE 0 fP rfl) (cD rfl rfl rfl (aO 0 (.slice _ _ _) fC M1 rfl rfl rfl) (gW rfl rfl rfl (cD rfl rfl rfl (bP (n - 1) eV rfl rfl (by omega) ((hs.row.rd M1 (aZ (i := 1) rfl)).below_len (aJ aF hbl)) ((hs.row.rd M1 (aZ (i := 1) rfl)).someK (aJ aF hbl))) ?_))))
  refine cD rfl rfl rfl (dW _ bO (hs.row.rd M1 (aZ (i := 1) rfl)) (aJ aF hbl) rfl) (cD rfl rfl rfl (bP (i) eV rfl rfl (by rw [hi]; rfl) ((hs.row.rd M1 (aZ (i := 1) rfl)).below_len (aJ aF hbi)) ((hs.row.rd M1 (aZ (i := 1) rfl)).someK (aJ aF hbi))) (dU [true, true, true, true, true] rfl (by kernel_rfl) ?_))
  refine aDg 1 _ bO M1 rfl hs.row (aJ aF hbi) rfl rfl rfl rfl (aQ rfl) (fun e2 w2 hR2 M2 => ?_)
  have hQ2 := hR2.mapSet (f := aF) (x := bl) rfl
  refine aB (aC ⟨dS, ?_⟩)
  refine cH (aC (aD (bX [(0, 0), (1, 0), (2, 0), (3, 1), (4, 0), (5, 0), (6, 0), (7, 1), (8, 0), (9, 1), (10, 1), (11, 1), (12, 0), (13, 2)] mixed rfl (by kernel_rfl) (fun w3 hb3 hh3 => ?_))))
  have M3 := M2.drew hb3 hh3
  refine bA rfl rfl rfl (fun _ => aG (.pointer _) rfl) (bA rfl rfl rfl (fun _ => aM rfl) (bA rfl rfl rfl (fun _ => aE 1 jX rfl) (cD rfl rfl rfl (aO 0 (.map _) qL M3 rfl rfl rfl) (bA rfl rfl rfl (fun _ => aG (.pointer _) rfl) (bA rfl rfl rfl (fun _ => aM rfl) ?_)))))
  refine bA rfl rfl rfl (fun _ => aE 0 fP rfl) (cD rfl rfl rfl (aO 0 (.slice _ _ _) fC M3 rfl rfl rfl) (gW rfl rfl rfl ?_))
  refine cD rfl rfl rfl (bP (i) eV rfl rfl (by rw [hi]; rfl) ((hQ2.rd M3 (aZ (i := 1) rfl)).below_len (aJ aF (by rw [List.getElem?_set_self hilt] : (m.set i bl)[i]? = some bl))) ((hQ2.rd M3 (aZ (i := 1) rfl)).someK (aJ aF (by rw [List.getElem?_set_self hilt] : (m.set i bl)[i]? = some bl)))) ?_
  refine cD rfl rfl rfl (bG 0 eK (hQ2.rd M3 (aZ (i := 1) rfl)) (Nat.lt_of_le_of_lt (Nat.zero_le _) ((hQ2.rd M3 (aZ (i := 1) rfl)).below_len (aJ aF (by rw [List.getElem?_set_self hilt] : (m.set i bl)[i]? = some bl)))) rfl) ?_
  refine cD rfl rfl rfl (dR (o := 0) (.int _ _) bY (hQ2.rd M3 (aZ (i := 1) rfl)) (aJ aF (by rw [List.getElem?_set_self hilt] : (m.set i bl)[i]? = some bl)) rfl rfl) ?_
  refine gW rfl rfl rfl (dU [true, true, true, true, true] rfl (by kernel_rfl) (iC (enc := (Value.int .i64)) 2 uF M3 rfl rfl hs.map hps rfl rfl rfl (fun e4 w4 hm4 M4 => ?_)))
  refine aB (aC ⟨dS, ?_⟩)
  refine cH (aC (aD (aA (wq (aG (.pointer _) rfl) rfl (wq (aG (.pointer _) rfl) rfl (wq (aM rfl) rfl (wq (aE 0 fP rfl) rfl ?_)))))))
  refine wq (aO 0 (.slice _ _ _) fC M4 rfl rfl rfl) rfl (aV rfl rfl (wq (fS (0) (((n : Int) - 1)) eV rfl rfl ⟨_, rfl⟩ (by decide) (by omega) (by have := hs.row.slice; omega)) rfl (wq (aM rfl) rfl (wq (aE 0 fP rfl) rfl (dF 0 (.slice _ _ _) fC M4 rfl rfl rfl rfl rfl rfl (fun w5 M5 => ?_))))))
  refine aB (aC (aD (aA (wq (aG (.pointer _) rfl) rfl (wq (aM rfl) rfl (wq (aE 1 jX rfl) rfl (wq (aO 0 (.map _) qL M5 rfl rfl rfl) rfl (aV rfl rfl ?_))))))))
  refine aOk (enc := (Value.int .i64)) 2 uF M5 rfl rfl hm4 hps rfl rfl (fun e6 w6 hm6 M6 => (aB (aC (aD (aA (bI rfl rfl (aB (aC (aN (bV (.int _ _) rfl ?_))))))))))
  have ha : iQ m key = (tL m i, 0) := by unfold iQ; rw [gZ, hi]; simp only []; rw [if_neg (by omega), Int.toNat_natCast]
  have hn1 : ((n : Int) - 1).toNat = n - 1 := by omega
  exact ⟨by rw [ha], _, _, _, _, _, _, by rw [ha]; exact hs.cut hbi hbk (by rw [hlen]; exact hbl) (by rw [hi]; rfl) (by omega) hQ2 hm6, M6.keep [true, true, true]⟩
set_option maxHeartbeats 4000000 in
theorem aIm (w : World) (b : Nat) (A : Option Addr) (n c : Nat) (p : Option Nat) (er em : dN) (m : List Body) (hs : StoreIs 40 A n c p er em m) (hO : Own [(some b, bc [.slice A n c, .map p] 56), er, em] w) :
  Calls Tryz.prog 64 #[.pointer (some ⟨b, 0, none⟩)] w (fun ex w' => ∃ v, ex = .returned v ∧ (fun v w' => ∃ A' n' c' e', v = .slice A' n' c' ∧ aY 40 10 A' n' c' ((uC m).map aF) e' ∧ Mem w (bS [(some b, bc [.slice A n c, .map p] 56), er, em]) [(some b, bc [.slice A n c, .map p] 56), er, em, e'] w') v w') := by
 have hlen : m.length = n := by simpa using hs.row.1
 have hcap := hs.cap
 refine aH #[.tmp 2] 14 Tryz.func64 rfl Tryz.results64 Tryz.ntmps64 rfl ?_
 have M0 := hO.mem
 refine aD (aA (fZ rfl rfl (aB (aC (aD (aD (aA (wq (aG (.pointer _) rfl) rfl (wq (dX false Tryz.underlying143 rfl rfl) rfl (aB (aC ?_)))))))))))
 refine bR rfl (aL (aC (aD (aA (wq (aG (.pointer _) rfl) rfl (wq (aM rfl) rfl (wq (aE 0 fP rfl) rfl (wq (aO 0 (.slice _ _ _) fC M0 rfl rfl rfl) rfl ?_))))))))
 refine cA bEm rfl rfl (zO _ _ _ _ _ (hs.row.rd M0 (aZ (i := 1) rfl)) (aIh m) (by omega)) ?_
 rintro v1 w1 ⟨A1, n1, c1, e1, rfl, hR1, hM1, _⟩
 have M1 : Mem _ _ [_, _, _, _] _ := M0.call0 hM1
 have hn1 : n1 = m.length := by simpa using hR1.1.symm
 refine fZ rfl rfl (aB (aC (aD (aA (dM rfl rfl (cA bDh rfl rfl (vC 96 bEb vJ _ _ _ _ m _ hR1 (M1.ownAt (i := 3) rfl) (by omega)) ?_))))))
 rintro v2 w2 ⟨rfl, ys2, e2, hp2, hu2, hR2, hM2⟩
 have M2 : Mem _ _ [_, _, _, _] _ := M1.seg 3 1 hM2
 have hys : ys2 = uC m := aOq hu2 (yH m) (hp2.trans (lM m).symm) (hs.keys.perm hp2)
 rw [hys] at hR2
 refine aB (aC (aD (aA (dM rfl rfl (fZ rfl rfl (aB (aC (aN (bV (.slice _ _ _) rfl ?_)))))))))
 exact ⟨_, _, _, _, rfl, hR2, M2⟩
theorem iB {x : Int} (h : 0 ≤ x ∧ x ≤ 4294967295) : IntKind.wrap .i32 x = nC x := by
 unfold nC
 simp [IntKind.wrap, IntKind.bits, IntKind.signed]
 split <;> split <;> omega
set_option maxHeartbeats 4000000 in
theorem aAx (w : World) (r : Row) (xs : List Int) (hr : aY 5 1 r.A r.n r.c ((xs).map cO) r.e) (n : Int) (hn : 0 ≤ n ∧ n ≤ 4294967295) (hl : r.n ≤ 1048576) (hO : Own [r.e] w) :
  Calls Tryz.prog 100 #[.slice r.A r.n r.c, .int .u32 n] w (fun ex w' => ∃ v, ex = .returned v ∧ (fun v w' => ∃ q : Row, v = .slice q.A q.n q.c ∧ q.n = r.n + 4 ∧ aY 5 1 q.A q.n q.c ((xs ++ iH n).map cO) q.e ∧ Mem w (bS [r.e]) [q.e] w') v w') := by
 refine aH #[.tmp 4] 19 Tryz.func100 rfl Tryz.results100 Tryz.ntmps100 rfl ?_
 have M0 := hO.mem
 refine aD (aA (fZ rfl rfl (aB (aC (aD (aA (dM rfl rfl (aV rfl rfl (wq (gG rfl rfl (by decide)) rfl ?_)))))))))
 refine aS 7 (.int .u32 (n / 16777216)) (iE (aXo n)) (wq (dQ rD Tryz.underlying5 rfl) rfl (aS 8 (.int .u8 (n / 16777216 % 256)) (iE (wr8 _)) (aV rfl rfl (wq (gG rfl rfl (by decide)) rfl (aS 10 (.int .u32 (n / 65536)) (iE (aWz n)) ?_)))))
 refine wq (dQ rD Tryz.underlying5 rfl) rfl (aS 11 (.int .u8 (n / 65536 % 256)) (iE (wr8 _)) (aV rfl rfl (wq (gG rfl rfl (by decide)) rfl (aS 13 (.int .u32 (n / 256)) (iE (bBt n)) (wq (dQ rD Tryz.underlying5 rfl) rfl ?_)))))
 refine aS 14 (.int .u8 (n / 256 % 256)) (iE (wr8 _)) (aV rfl rfl (wq (dQ rD Tryz.underlying5 rfl) rfl (aS 16 (.int .u8 (n % 256)) (iE (wr8 _)) (dA [.int _ _, .int _ _, .int _ _, .int _ _] ((iH n).map cO) rfl mG M0 rfl rfl rfl rfl (dI rfl) (by decide) (fun b1 w1 M1 => (eF 0 ((iH n).map cO) mG M1 rfl rfl rfl rfl rfl hr rfl (by simp [iH, cO, Go.Bil.one]) (dC.ofMem 1 M1 rfl) (by omega) (fun A2 c2 e2 w2 M2 hR2 => ?_)))))))
 refine fZ rfl rfl (aB (aC (aN (bV (.slice _ _ _) rfl ?_))))
 exact ⟨⟨A2, _, c2, e2⟩, rfl, rfl, by rw [List.map_append]; exact hR2, M2.keep [true, false]⟩
set_option maxHeartbeats 4000000 in
theorem fI (w : World) (x : Int) :
  Calls Tryz.prog 130 #[.int .i32 x] w (fun ex w' => ∃ v, ex = .returned v ∧ (fun v w' => v = .int .u32 (x % 4294967296) ∧ Below w.heap.size w w') v w') := by
 refine aH #[.tmp 2] 5 Tryz.func130 rfl Tryz.results130 Tryz.ntmps130 rfl ?_
 have M0 := Mem.refl w
 refine aD (aA (bI rfl rfl (aB (aC (aD (aA (aV rfl rfl (wq (dQ fO Tryz.underlying36 rfl) rfl (aS 4 (.int .u32 (x % 4294967296)) (iE (aTd _)) ?_)))))))))
 refine bI rfl rfl (aB (aC (aN (bV (.int _ _) rfl ?_))))
 exact ⟨rfl, M0.below⟩
set_option maxHeartbeats 4000000 in
theorem aJq (w : World) (b : Body) :
  Calls Tryz.prog 101 #[(.agg (aF b).toArray)] w (fun ex w' => ∃ v, ex = .returned v ∧ (fun v w' => v = .agg ((uQ b).map (Value.int .u32)).toArray ∧ Below w.heap.size w w') v w') := by
 refine aH #[.cell 2 150] 49 Tryz.func101 rfl Tryz.results101 Tryz.ntmps101 rfl ?_
 have M0 := Mem.refl w
 refine aD (aA (bN (.agg (List.toArray _)) M0 rfl rfl rfl (fun b1 w1 M1 => (aR aCh M1 rfl rfl (fun b2 w2 M2 => (aB (aC (aD (aA (wq (aI (.func _ _ _) rfl) rfl (aB (aC (aD ?_)))))))))))))
 refine bX [(0, 0), (1, 1), (2, 0), (3, 0), (4, 1), (6, 0), (7, 0), (8, 0), (9, 1), (11, 0), (12, 0), (13, 0), (14, 1), (16, 0), (17, 0), (18, 1), (20, 0), (21, 0), (22, 1), (24, 0), (25, 0), (26, 0), (27, 1), (29, 0), (30, 0), (31, 0), (32, 1), (34, 0), (35, 0), (36, 0), (37, 1), (39, 0), (40, 0), (41, 0), (42, 1), (5, 2), (10, 2), (15, 2), (19, 2), (23, 2), (28, 2), (33, 2), (38, 2), (43, 2), (44, 0), (45, 2)] mixed rfl (by kernel_rfl) (fun w3 hb3 hh3 => ?_)
 have M3 := M2.drew hb3 hh3
 refine bA rfl rfl rfl (fun _ => aE 0 eK rfl) (cD rfl rfl rfl (aO 0 (.int _ _) bY M3 rfl rfl rfl) (bA rfl rfl rfl (fun _ => aG (.func _ _ _) rfl) (bA rfl rfl rfl (fun _ => aE 1 kQ rfl) (cD rfl rfl rfl (aO 0 (.int _ _) aT M3 rfl rfl rfl) (bA rfl rfl rfl (fun _ => aG (.func _ _ _) rfl) ?_)))))
 refine bA rfl rfl rfl (fun _ => aE 2 jK rfl) (bA rfl rfl rfl (fun _ => aE 0 dJ rfl) (cD rfl rfl rfl (aO 0 (.int _ _) aT M3 rfl rfl rfl) (bA rfl rfl rfl (fun _ => aG (.func _ _ _) rfl) (bA rfl rfl rfl (fun _ => aE 2 jK rfl) (bA rfl rfl rfl (fun _ => aE 1 dB rfl) ?_)))))
 refine cD rfl rfl rfl (aO 0 (.int _ _) aT M3 rfl rfl rfl) (bA rfl rfl rfl (fun _ => aG (.func _ _ _) rfl) (bA rfl rfl rfl (fun _ => aE 4 eQ rfl) (cD rfl rfl rfl (aO 0 (.int _ _) aT M3 rfl rfl rfl) (bA rfl rfl rfl (fun _ => aG (.func _ _ _) rfl) (bA rfl rfl rfl (fun _ => aE 5 nO rfl) ?_)))))
 refine cD rfl rfl rfl (aO 0 (.int _ _) aT M3 rfl rfl rfl) (bA rfl rfl rfl (fun _ => aG (.func _ _ _) rfl) (bA rfl rfl rfl (fun _ => aE 6 fJ rfl) (bA rfl rfl rfl (fun _ => aE 0 dJ rfl) (cD rfl rfl rfl (aO 0 (.int _ _) aT M3 rfl rfl rfl) (bA rfl rfl rfl (fun _ => aG (.func _ _ _) rfl) ?_)))))
 refine bA rfl rfl rfl (fun _ => aE 6 fJ rfl) (bA rfl rfl rfl (fun _ => aE 1 dB rfl) (cD rfl rfl rfl (aO 0 (.int _ _) aT M3 rfl rfl rfl) (bA rfl rfl rfl (fun _ => aG (.func _ _ _) rfl) (bA rfl rfl rfl (fun _ => aE 8 eS rfl) (bA rfl rfl rfl (fun _ => aE 0 dJ rfl) ?_)))))
 refine cD rfl rfl rfl (aO 0 (.int _ _) aT M3 rfl rfl rfl) (bA rfl rfl rfl (fun _ => aG (.func _ _ _) rfl) (bA rfl rfl rfl (fun _ => aE 8 eS rfl) (bA rfl rfl rfl (fun _ => aE 1 dB rfl) (cD rfl rfl rfl (aO 0 (.int _ _) aT M3 rfl rfl rfl) (dU [false, false, false, false, false, false, false, false, true, false] rfl (by kernel_rfl) ?_)))))
 refine cA nI rfl rfl (fI _ b.radius) ?_
 rintro v4 w4 ⟨rfl, hb4⟩
 have M4 := M3.callB hb4
 refine aB (aC ⟨(eX (bQ rfl (aO 0 (.int _ _) aT M4 rfl rfl rfl)) (eX (bQ rfl (aO 0 (.int _ _) aT M4 rfl rfl rfl)) (eX (bQ rfl (aO 0 (.int _ _) aT M4 rfl rfl rfl)) (eX (bQ rfl (aO 0 (.int _ _) aT M4 rfl rfl rfl)) (eX (bQ rfl (aO 0 (.int _ _) aT M4 rfl rfl rfl)) (eX (bQ rfl (aO 0 (.int _ _) aT M4 rfl rfl rfl)) (eX (bQ rfl (aO 0 (.int _ _) aT M4 rfl rfl rfl)) (eX (bQ rfl (aO 0 (.int _ _) aT M4 rfl rfl rfl)) (eX (bQ rfl (aO 0 (.int _ _) bY M4 rfl rfl rfl)) dS))))))))), ?_⟩)
 refine dU [false, false, false, false, false, false, false, true, false] rfl (by kernel_rfl) (cA nI rfl rfl (fI _ b.ax) ?_)
 rintro v5 w5 ⟨rfl, hb5⟩
 have M5 := M4.callB hb5
 refine aB (aC ⟨(eX (bQ rfl (aO 0 (.int _ _) aT M5 rfl rfl rfl)) (eX (bQ rfl (aO 0 (.int _ _) aT M5 rfl rfl rfl)) (eX (bQ rfl (aO 0 (.int _ _) aT M5 rfl rfl rfl)) (eX (bQ rfl (aO 0 (.int _ _) aT M5 rfl rfl rfl)) (eX (bQ rfl (aO 0 (.int _ _) aT M5 rfl rfl rfl)) (eX (bQ rfl (aO 0 (.int _ _) aT M5 rfl rfl rfl)) (eX (bQ rfl (aO 0 (.int _ _) aT M5 rfl rfl rfl)) (eX (bQ rfl (aO 0 (.int _ _) bY M5 rfl rfl rfl)) dS)))))))), ?_⟩)
 refine dU [false, false, false, false, false, false, true, false] rfl (by kernel_rfl) (cA nI rfl rfl (fI _ b.ay) ?_)
 rintro v6 w6 ⟨rfl, hb6⟩
 have M6 := M5.callB hb6
 refine aB (aC ⟨(eX (bQ rfl (aO 0 (.int _ _) aT M6 rfl rfl rfl)) (eX (bQ rfl (aO 0 (.int _ _) aT M6 rfl rfl rfl)) (eX (bQ rfl (aO 0 (.int _ _) aT M6 rfl rfl rfl)) (eX (bQ rfl (aO 0 (.int _ _) aT M6 rfl rfl rfl)) (eX (bQ rfl (aO 0 (.int _ _) aT M6 rfl rfl rfl)) (eX (bQ rfl (aO 0 (.int _ _) aT M6 rfl rfl rfl)) (eX (bQ rfl (aO 0 (.int _ _) bY M6 rfl rfl rfl)) dS))))))), ?_⟩)
 refine dU [false, false, false, false, false, true, false] rfl (by kernel_rfl) (cA nI rfl rfl (fI _ b.mass) ?_)
 rintro v7 w7 ⟨rfl, hb7⟩
 have M7 := M6.callB hb7
 refine aB (aC ⟨(eX (bQ rfl (aO 0 (.int _ _) aT M7 rfl rfl rfl)) (eX (bQ rfl (aO 0 (.int _ _) aT M7 rfl rfl rfl)) (eX (bQ rfl (aO 0 (.int _ _) aT M7 rfl rfl rfl)) (eX (bQ rfl (aO 0 (.int _ _) aT M7 rfl rfl rfl)) (eX (bQ rfl (aO 0 (.int _ _) aT M7 rfl rfl rfl)) (eX (bQ rfl (aO 0 (.int _ _) bY M7 rfl rfl rfl)) dS)))))), ?_⟩)
 refine dU [false, false, false, false, true, false] rfl (by kernel_rfl) (cA nI rfl rfl (fI _ b.bounce) ?_)
 rintro v8 w8 ⟨rfl, hb8⟩
 have M8 := M7.callB hb8
 refine aB (aC ⟨(eX (bQ rfl (aO 0 (.int _ _) aT M8 rfl rfl rfl)) (eX (bQ rfl (aO 0 (.int _ _) aT M8 rfl rfl rfl)) (eX (bQ rfl (aO 0 (.int _ _) aT M8 rfl rfl rfl)) (eX (bQ rfl (aO 0 (.int _ _) aT M8 rfl rfl rfl)) (eX (bQ rfl (aO 0 (.int _ _) bY M8 rfl rfl rfl)) dS))))), ?_⟩)
 refine dU [false, false, false, true, false] rfl (by kernel_rfl) (cA nI rfl rfl (fI _ b.px) ?_)
 rintro v9 w9 ⟨rfl, hb9⟩
 have M9 := M8.callB hb9
 refine aB (aC ⟨(eX (bQ rfl (aO 0 (.int _ _) aT M9 rfl rfl rfl)) (eX (bQ rfl (aO 0 (.int _ _) aT M9 rfl rfl rfl)) (eX (bQ rfl (aO 0 (.int _ _) aT M9 rfl rfl rfl)) (eX (bQ rfl (aO 0 (.int _ _) bY M9 rfl rfl rfl)) dS)))), ?_⟩)
 refine dU [false, false, true, false] rfl (by kernel_rfl) (cA nI rfl rfl (fI _ b.py) ?_)
 rintro v10 w10 ⟨rfl, hb10⟩
 have M10 := M9.callB hb10
 refine aB (aC ⟨(eX (bQ rfl (aO 0 (.int _ _) aT M10 rfl rfl rfl)) (eX (bQ rfl (aO 0 (.int _ _) aT M10 rfl rfl rfl)) (eX (bQ rfl (aO 0 (.int _ _) bY M10 rfl rfl rfl)) dS))), ?_⟩)
 refine dU [false, true, false] rfl (by kernel_rfl) (cA nI rfl rfl (fI _ b.vx) ?_)
 rintro v11 w11 ⟨rfl, hb11⟩
 have M11 := M10.callB hb11
 refine aB (aC ⟨(eX (bQ rfl (aO 0 (.int _ _) aT M11 rfl rfl rfl)) (eX (bQ rfl (aO 0 (.int _ _) bY M11 rfl rfl rfl)) dS)), ?_⟩)
 refine dU [true, false] rfl (by kernel_rfl) (cA nI rfl rfl (fI _ b.vy) ?_)
 rintro v12 w12 ⟨rfl, hb12⟩
 have M12 := M11.callB hb12
 refine aB (aC ⟨(eX (bQ rfl (aO 0 (.int _ _) bY M12 rfl rfl rfl)) dS), ?_⟩)
 refine bA rfl rfl rfl (fun _ => oK [.int _ _, .int _ _, .int _ _, .int _ _, .int _ _, .int _ _, .int _ _, .int _ _, .int _ _, .int _ _] fG aCh rfl rfl (dI rfl)) (dU [true] rfl (by kernel_rfl) (bE 1 _ aIl M12 rfl rfl rfl rfl rfl (aQ rfl) rfl (fun w13 M13 => ?_)))
 refine aB (aC ⟨dS, ?_⟩)
 refine cH (aC (aN (fU 1 aIl M13 rfl rfl rfl ?_)))
 exact ⟨rfl, M13.below⟩
set_option maxHeartbeats 4000000 in
theorem fW (w : World) (A : Option Addr) (n c : Nat) (ls : List Int) (R : Rd w 1 A n (ls.map cO)) (hB : lK ls) (h4 : 4 ≤ n) :
  Calls Tryz.prog 102 #[.slice A n c] w (fun ex w' => ∃ v, ex = .returned v ∧ (fun v w' => v = .int .u32 (eD ls 0) ∧ Below w.heap.size w w') v w') := by
 have hlen : ls.length = n := by simpa using R.len
 have hbd := R.bound
 obtain ⟨x0, hx0⟩ := cM (xs := ls) (k := 0) hlen (by omega)
 obtain ⟨x1, hx1⟩ := cM (xs := ls) (k := 1) hlen (by omega)
 obtain ⟨x2, hx2⟩ := cM (xs := ls) (k := 2) hlen (by omega)
 obtain ⟨x3, hx3⟩ := cM (xs := ls) (k := 3) hlen (by omega)
 obtain ⟨g0, g1⟩ := hB x0 (List.mem_of_getElem? hx0)
 obtain ⟨g2, g3⟩ := hB x1 (List.mem_of_getElem? hx1)
 obtain ⟨g4, g5⟩ := hB x2 (List.mem_of_getElem? hx2)
 obtain ⟨g6, g7⟩ := hB x3 (List.mem_of_getElem? hx3)
 have hnum : eD ls 0 = ((x0 * 256 + x1) * 256 + x2) * 256 + x3 := by unfold eD; simp only [List.getD_eq_getElem?_getD, Nat.zero_add, hx0, hx1, hx2, hx3, Option.getD_some]
 obtain ⟨b0, rfl⟩ := Int.eq_ofNat_of_zero_le g0
 obtain ⟨b1, rfl⟩ := Int.eq_ofNat_of_zero_le g2
 obtain ⟨b2, rfl⟩ := Int.eq_ofNat_of_zero_le g4
 obtain ⟨b3, rfl⟩ := Int.eq_ofNat_of_zero_le g6
 refine aH #[.tmp 2] 25 Tryz.func102 rfl Tryz.results102 Tryz.ntmps102 rfl ?_
 have M0 := Mem.refl w
 refine aD (aA (bI rfl rfl (aB (aC (aD (bX [(0, 0), (1, 1), (2, 1), (3, 0), (4, 0), (5, 0), (6, 1), (7, 1), (8, 0), (9, 0), (10, 0), (11, 0), (12, 1), (13, 1), (14, 0), (15, 0), (16, 0), (17, 0), (18, 1), (19, 1), (20, 0), (21, 0), (22, 0)] mixed rfl (by kernel_rfl) (fun w1 hb1 hh1 => ?_)))))))
 have M1 := M0.drew hb1 hh1
 refine DmS rfl rfl rfl (cD rfl rfl rfl (bP (0) mG rfl rfl rfl ((R.mem M1).below_len (aJ cO hx0)) ((R.mem M1).someK (aJ cO hx0))) (cD rfl rfl rfl (iV (.int _ _) aXb (R.mem M1) (aJ cO hx0) rfl) (bA rfl rfl rfl (fun _ => bU us5 Tryz.underlying36 rfl (aAs _ (by omega) (by omega))) ?_)))
 refine bA rfl rfl rfl (fun _ => rU rfl rfl (by decide)) (iS 7 (.int .u32 ((b0 * 16777216 : Nat) : Int)) (iE (aWu b0 (by omega))) (DmS rfl rfl rfl (cD rfl rfl rfl (bP (1) mG rfl rfl rfl ((R.mem M1).below_len (aJ cO hx1)) ((R.mem M1).someK (aJ cO hx1))) (cD rfl rfl rfl (iV (.int _ _) aXb (R.mem M1) (aJ cO hx1) rfl) ?_))))
 refine bA rfl rfl rfl (fun _ => bU us5 Tryz.underlying36 rfl (aAs _ (by omega) (by omega))) (bA rfl rfl rfl (fun _ => rU rfl rfl (by decide)) (iS 12 (.int .u32 ((b1 * 65536 : Nat) : Int)) (iE (aXi b1 (by omega))) (bA rfl rfl rfl (fun _ => dV (.int _ _) rfl rfl rfl) (iS 13 (.int .u32 ((b0 * 16777216 + b1 * 65536 : Nat) : Int)) (iE (aZy b0 (b0 * 16777216) (b1 * 65536) 24 rfl (show b1 * 65536 < 16777216 by omega) (by omega))) ?_))))
 refine DmS rfl rfl rfl (cD rfl rfl rfl (bP (2) mG rfl rfl rfl ((R.mem M1).below_len (aJ cO hx2)) ((R.mem M1).someK (aJ cO hx2))) (cD rfl rfl rfl (iV (.int _ _) aXb (R.mem M1) (aJ cO hx2) rfl) (bA rfl rfl rfl (fun _ => bU us5 Tryz.underlying36 rfl (aAs _ (by omega) (by omega))) ?_)))
 refine bA rfl rfl rfl (fun _ => rU rfl rfl (by decide)) (iS 18 (.int .u32 ((b2 * 256 : Nat) : Int)) (iE (bBw b2 (by omega))) (bA rfl rfl rfl (fun _ => dV (.int _ _) rfl rfl rfl) (iS 19 (.int .u32 ((b0 * 16777216 + b1 * 65536 + b2 * 256 : Nat) : Int)) (iE (aZy (b0 * 256 + b1) (b0 * 16777216 + b1 * 65536) (b2 * 256) 16 (show (b0 * 256 + b1) * 65536 = _ by omega) (show b2 * 256 < 65536 by omega) (by omega))) ?_)))
 refine DmS rfl rfl rfl (cD rfl rfl rfl (bP (3) mG rfl rfl rfl ((R.mem M1).below_len (aJ cO hx3)) ((R.mem M1).someK (aJ cO hx3))) (cD rfl rfl rfl (iV (.int _ _) aXb (R.mem M1) (aJ cO hx3) rfl) (bA rfl rfl rfl (fun _ => bU us5 Tryz.underlying36 rfl (aAs _ (by omega) (by omega))) ?_)))
 refine bA rfl rfl rfl (fun _ => dV (.int _ _) rfl rfl rfl) (iS 24 (.int .u32 ((b0 * 16777216 + b1 * 65536 + b2 * 256 + b3 : Nat) : Int)) (iE (aZy (b0 * 65536 + b1 * 256 + b2) (b0 * 16777216 + b1 * 65536 + b2 * 256) b3 8 (show (b0 * 65536 + b1 * 256 + b2) * 256 = _ by omega) (show b3 < 256 by omega) (by omega))) ?_)
 refine qC rfl rfl rfl (cH (aC (aN (bV (.int _ _) rfl ?_))))
 exact ⟨iE (by rw [hnum]; omega), M1.below⟩
set_option maxHeartbeats 4000000 in
theorem fE (w : World) (n : Int) (hn : 0 ≤ n ∧ n ≤ 4294967295) :
  Calls Tryz.prog 103 #[.int .i64 n] w (fun ex w' => ∃ v, ex = .returned v ∧ (fun v w' => v = .int .i64 (8 + 40 * n) ∧ Below w.heap.size w w') v w') := by
 refine aH #[.tmp 2] 6 Tryz.func103 rfl Tryz.results103 Tryz.ntmps103 rfl ?_
 have M0 := Mem.refl w
 refine aD (aA (bI rfl rfl (aB (aC (aD (aA (aV rfl rfl (wq (fX rfl rfl (by omega) (by omega)) rfl (wq (bL rfl rfl (by omega) (by omega)) rfl ?_)))))))))
 refine bI rfl rfl (aB (aC (aN (bV (.int _ _) rfl ?_))))
 exact ⟨iE (by omega), M0.below⟩
set_option maxHeartbeats 4000000 in
theorem vK (w : World) (b : Nat) (x0 x1 x2 x3 x4 x5 x6 x7 x8 x9 : Int) (h0 : 0 ≤ x2 ∧ x2 ≤ 4294967295) (h1 : 0 ≤ x3 ∧ x3 ≤ 4294967295) (hO : Own [(some b, bc [.int .u32 x0, .int .u32 x1, .int .u32 x2, .int .u32 x3, .int .u32 x4, .int .u32 x5, .int .u32 x6, .int .u32 x7, .int .u32 x8, .int .u32 x9] 150)] w) :
  Calls Tryz.prog 131 #[.int .i64 2, .pointer (some ⟨b, 0, none⟩)] w (fun ex w' => ∃ v, ex = .returned v ∧ (fun v w' => v = .agg [.int .i32 (nC x2), .int .i32 (nC x3)].toArray ∧ Mem w (bS [(some b, bc [.int .u32 x0, .int .u32 x1, .int .u32 x2, .int .u32 x3, .int .u32 x4, .int .u32 x5, .int .u32 x6, .int .u32 x7, .int .u32 x8, .int .u32 x9] 150)]) [(some b, bc [.int .u32 x0, .int .u32 x1, .int .u32 x2, .int .u32 x3, .int .u32 x4, .int .u32 x5, .int .u32 x6, .int .u32 x7, .int .u32 x8, .int .u32 x9] 150)] w') v w') := by
 refine aH #[.cell 3 38] 14 Tryz.func131 rfl Tryz.results131 Tryz.ntmps131 rfl ?_
 have M0 := hO.mem
 refine aD (aA (aR gD M0 rfl rfl (fun b1 w1 M1 => (aB (aC (aD (bX [(0, 0), (1, 0), (2, 1), (3, 0), (4, 0), (5, 0), (6, 0), (7, 1), (8, 0), (9, 0), (10, 2)] mixed rfl (by kernel_rfl) (fun w2 hb2 hh2 => ?_))))))))
 have M2 := M1.drew hb2 hh2
 refine gW rfl rfl rfl (bA rfl rfl rfl (fun _ => fB (2) fG rfl rfl rfl (by decide)) (cD rfl rfl rfl (aO 0 (.int _ _) bY M2 rfl rfl rfl) (bA rfl rfl rfl (fun _ => dQ rD Tryz.underlying21 rfl) (iS 7 (.int .i32 (nC x2)) (iE (iB h0)) (gW rfl rfl rfl ?_)))))
 refine bA rfl rfl rfl (fun _ => bL rfl rfl (by first | decide | omega) (by first | decide | omega)) (bA rfl rfl rfl (fun _ => fB (3) fG rfl rfl rfl (by decide)) (cD rfl rfl rfl (aO 0 (.int _ _) bY M2 rfl rfl rfl) (bA rfl rfl rfl (fun _ => dQ rD Tryz.underlying21 rfl) (iS 12 (.int .i32 (nC x3)) (iE (iB h1)) ?_))))
 refine bA rfl rfl rfl (fun _ => cN [(0, .int _ _), (1, .int _ _)] _ eM rfl rfl) (dU [true, true] rfl (by kernel_rfl) (bE 1 _ bK M2 rfl rfl rfl rfl rfl (aQ rfl) rfl (fun w3 M3 => ?_)))
 refine aB (aC ⟨dS, ?_⟩)
 refine cH (aC (aN (fU 1 bK M3 rfl rfl rfl ?_)))
 exact ⟨rfl, M3.keep [true, false]⟩
set_option maxHeartbeats 4000000 in
theorem vE (w : World) (b : Nat) (x0 x1 x2 x3 x4 x5 x6 x7 x8 x9 : Int) (h0 : 0 ≤ x6 ∧ x6 ≤ 4294967295) (h1 : 0 ≤ x7 ∧ x7 ≤ 4294967295) (hO : Own [(some b, bc [.int .u32 x0, .int .u32 x1, .int .u32 x2, .int .u32 x3, .int .u32 x4, .int .u32 x5, .int .u32 x6, .int .u32 x7, .int .u32 x8, .int .u32 x9] 150)] w) :
  Calls Tryz.prog 131 #[.int .i64 6, .pointer (some ⟨b, 0, none⟩)] w (fun ex w' => ∃ v, ex = .returned v ∧ (fun v w' => v = .agg [.int .i32 (nC x6), .int .i32 (nC x7)].toArray ∧ Mem w (bS [(some b, bc [.int .u32 x0, .int .u32 x1, .int .u32 x2, .int .u32 x3, .int .u32 x4, .int .u32 x5, .int .u32 x6, .int .u32 x7, .int .u32 x8, .int .u32 x9] 150)]) [(some b, bc [.int .u32 x0, .int .u32 x1, .int .u32 x2, .int .u32 x3, .int .u32 x4, .int .u32 x5, .int .u32 x6, .int .u32 x7, .int .u32 x8, .int .u32 x9] 150)] w') v w') := by
 refine aH #[.cell 3 38] 14 Tryz.func131 rfl Tryz.results131 Tryz.ntmps131 rfl ?_
 have M0 := hO.mem
 refine aD (aA (aR gD M0 rfl rfl (fun b1 w1 M1 => (aB (aC (aD (bX [(0, 0), (1, 0), (2, 1), (3, 0), (4, 0), (5, 0), (6, 0), (7, 1), (8, 0), (9, 0), (10, 2)] mixed rfl (by kernel_rfl) (fun w2 hb2 hh2 => ?_))))))))
 have M2 := M1.drew hb2 hh2
 refine gW rfl rfl rfl (bA rfl rfl rfl (fun _ => fB (6) fG rfl rfl rfl (by decide)) (cD rfl rfl rfl (aO 0 (.int _ _) bY M2 rfl rfl rfl) (bA rfl rfl rfl (fun _ => dQ rD Tryz.underlying21 rfl) (iS 7 (.int .i32 (nC x6)) (iE (iB h0)) (gW rfl rfl rfl ?_)))))
 refine bA rfl rfl rfl (fun _ => bL rfl rfl (by first | decide | omega) (by first | decide | omega)) (bA rfl rfl rfl (fun _ => fB (7) fG rfl rfl rfl (by decide)) (cD rfl rfl rfl (aO 0 (.int _ _) bY M2 rfl rfl rfl) (bA rfl rfl rfl (fun _ => dQ rD Tryz.underlying21 rfl) (iS 12 (.int .i32 (nC x7)) (iE (iB h1)) ?_))))
 refine bA rfl rfl rfl (fun _ => cN [(0, .int _ _), (1, .int _ _)] _ eM rfl rfl) (dU [true, true] rfl (by kernel_rfl) (bE 1 _ bK M2 rfl rfl rfl rfl rfl (aQ rfl) rfl (fun w3 M3 => ?_)))
 refine aB (aC ⟨dS, ?_⟩)
 refine cH (aC (aN (fU 1 bK M3 rfl rfl rfl ?_)))
 exact ⟨rfl, M3.keep [true, false]⟩
set_option maxHeartbeats 4000000 in
theorem vH (w : World) (b : Nat) (x0 x1 x2 x3 x4 x5 x6 x7 x8 x9 : Int) (h0 : 0 ≤ x8 ∧ x8 ≤ 4294967295) (h1 : 0 ≤ x9 ∧ x9 ≤ 4294967295) (hO : Own [(some b, bc [.int .u32 x0, .int .u32 x1, .int .u32 x2, .int .u32 x3, .int .u32 x4, .int .u32 x5, .int .u32 x6, .int .u32 x7, .int .u32 x8, .int .u32 x9] 150)] w) :
  Calls Tryz.prog 131 #[.int .i64 8, .pointer (some ⟨b, 0, none⟩)] w (fun ex w' => ∃ v, ex = .returned v ∧ (fun v w' => v = .agg [.int .i32 (nC x8), .int .i32 (nC x9)].toArray ∧ Mem w (bS [(some b, bc [.int .u32 x0, .int .u32 x1, .int .u32 x2, .int .u32 x3, .int .u32 x4, .int .u32 x5, .int .u32 x6, .int .u32 x7, .int .u32 x8, .int .u32 x9] 150)]) [(some b, bc [.int .u32 x0, .int .u32 x1, .int .u32 x2, .int .u32 x3, .int .u32 x4, .int .u32 x5, .int .u32 x6, .int .u32 x7, .int .u32 x8, .int .u32 x9] 150)] w') v w') := by
 refine aH #[.cell 3 38] 14 Tryz.func131 rfl Tryz.results131 Tryz.ntmps131 rfl ?_
 have M0 := hO.mem
 refine aD (aA (aR gD M0 rfl rfl (fun b1 w1 M1 => (aB (aC (aD (bX [(0, 0), (1, 0), (2, 1), (3, 0), (4, 0), (5, 0), (6, 0), (7, 1), (8, 0), (9, 0), (10, 2)] mixed rfl (by kernel_rfl) (fun w2 hb2 hh2 => ?_))))))))
 have M2 := M1.drew hb2 hh2
 refine gW rfl rfl rfl (bA rfl rfl rfl (fun _ => fB (8) fG rfl rfl rfl (by decide)) (cD rfl rfl rfl (aO 0 (.int _ _) bY M2 rfl rfl rfl) (bA rfl rfl rfl (fun _ => dQ rD Tryz.underlying21 rfl) (iS 7 (.int .i32 (nC x8)) (iE (iB h0)) (gW rfl rfl rfl ?_)))))
 refine bA rfl rfl rfl (fun _ => bL rfl rfl (by first | decide | omega) (by first | decide | omega)) (bA rfl rfl rfl (fun _ => fB (9) fG rfl rfl rfl (by decide)) (cD rfl rfl rfl (aO 0 (.int _ _) bY M2 rfl rfl rfl) (bA rfl rfl rfl (fun _ => dQ rD Tryz.underlying21 rfl) (iS 12 (.int .i32 (nC x9)) (iE (iB h1)) ?_))))
 refine bA rfl rfl rfl (fun _ => cN [(0, .int _ _), (1, .int _ _)] _ eM rfl rfl) (dU [true, true] rfl (by kernel_rfl) (bE 1 _ bK M2 rfl rfl rfl rfl rfl (aQ rfl) rfl (fun w3 M3 => ?_)))
 refine aB (aC ⟨dS, ?_⟩)
 refine cH (aC (aN (fU 1 bK M3 rfl rfl rfl ?_)))
 exact ⟨rfl, M3.keep [true, false]⟩
set_option maxHeartbeats 4000000 in
theorem aDn (w : World) (x0 x1 x2 x3 x4 x5 x6 x7 x8 x9 : Int) (hx : ∀ x ∈ ([x0, x1, x2, x3, x4, x5, x6, x7, x8, x9] : List Int), 0 ≤ x ∧ x ≤ 4294967295) :
  Calls Tryz.prog 104 #[.agg [.int .u32 x0, .int .u32 x1, .int .u32 x2, .int .u32 x3, .int .u32 x4, .int .u32 x5, .int .u32 x6, .int .u32 x7, .int .u32 x8, .int .u32 x9].toArray] w (fun ex w' => ∃ v, ex = .returned v ∧ (fun v w' => v = (.agg (aF (⟨x0, nC x1, nC x2, nC x3, nC x4, nC x5, nC x6, nC x7, nC x8, nC x9⟩ : Body)).toArray) ∧ Below w.heap.size w w') v w') := by
 refine aH #[.cell 2 40] 23 Tryz.func104 rfl Tryz.results104 Tryz.ntmps104 rfl ?_
 have M0 := Mem.refl w
 refine aD (aA (bN (.agg (List.toArray _)) M0 rfl rfl rfl (fun b1 w1 M1 => (aR gK M1 rfl rfl (fun b2 w2 M2 => (aB (aC (aD (aA (wq (cR [] [.pointer _] rfl rfl) rfl (wq (aI (.func _ _ _) rfl) rfl ?_)))))))))))
 refine aB (aC (aD (bX [(0, 0), (1, 1), (2, 0), (3, 1), (4, 0), (5, 0), (7, 0), (8, 1), (9, 0), (10, 0), (11, 1), (12, 0), (13, 0), (15, 0), (6, 2), (14, 2), (16, 2), (17, 0), (18, 2)] mixed rfl (by kernel_rfl) (fun w3 hb3 hh3 => ?_))))
 have M3 := M2.drew hb3 hh3
 refine bA rfl rfl rfl (fun _ => fB (0) fG rfl rfl rfl (by decide)) (cD rfl rfl rfl (aO 0 (.int _ _) bY M3 rfl rfl rfl) (bA rfl rfl rfl (fun _ => fB (1) fG rfl rfl rfl (by decide)) (cD rfl rfl rfl (aO 0 (.int _ _) bY M3 rfl rfl rfl) (bA rfl rfl rfl (fun _ => dQ rD Tryz.underlying21 rfl) ?_))))
 refine iS 9 (.int .i32 (nC x1)) (iE (iB (hx _ (by simp)))) (bA rfl rfl rfl (fun _ => aG (.func _ _ _) rfl) (bA rfl rfl rfl (fun _ => fB (4) fG rfl rfl rfl (by decide)) (cD rfl rfl rfl (aO 0 (.int _ _) bY M3 rfl rfl rfl) (bA rfl rfl rfl (fun _ => dQ rD Tryz.underlying21 rfl) ?_))))
 refine iS 14 (.int .i32 (nC x4)) (iE (iB (hx _ (by simp)))) (bA rfl rfl rfl (fun _ => fB (5) fG rfl rfl rfl (by decide)) (cD rfl rfl rfl (aO 0 (.int _ _) bY M3 rfl rfl rfl) (bA rfl rfl rfl (fun _ => dQ rD Tryz.underlying21 rfl) (iS 17 (.int .i32 (nC x5)) (iE (iB (hx _ (by simp)))) ?_))))
 refine bA rfl rfl rfl (fun _ => aG (.func _ _ _) rfl) (bA rfl rfl rfl (fun _ => aG (.func _ _ _) rfl) (dU [false, false, false, false] rfl (by kernel_rfl) (cA aIf rfl rfl (vK _ b1 x0 x1 x2 x3 x4 x5 x6 x7 x8 x9 (hx _ (by simp)) (hx _ (by simp)) (M3.ownSeg 0 1)) ?_)))
 rintro v4 w4 ⟨rfl, hM4⟩
 have M4 : Mem _ _ [_, _] _ := M3.seg 0 1 hM4
 refine aB (aC ⟨(eX (bQ rfl (aO 0 (.int _ _) bY M4 rfl rfl rfl)) (eX (bQ rfl (aO 0 (.int _ _) bY M4 rfl rfl rfl)) (eX (bQ rfl (aO 0 (.int _ _) bY M4 rfl rfl rfl)) (eX (bQ rfl (aO 0 (.int _ _) bY M4 rfl rfl rfl)) dS)))), ?_⟩)
 refine dU [false, false, false, false] rfl (by kernel_rfl) (cA aIf rfl rfl (vE _ b1 x0 x1 x2 x3 x4 x5 x6 x7 x8 x9 (hx _ (by simp)) (hx _ (by simp)) (M4.ownSeg 0 1)) ?_)
 rintro v5 w5 ⟨rfl, hM5⟩
 have M5 : Mem _ _ [_, _] _ := M4.seg 0 1 hM5
 refine aB (aC ⟨(eX (bQ rfl (aO 0 (.int _ _) bY M5 rfl rfl rfl)) (eX (bQ rfl (aO 0 (.int _ _) bY M5 rfl rfl rfl)) (eX (bQ rfl (aO 0 (.int _ _) bY M5 rfl rfl rfl)) (eX (bQ rfl (aO 0 (.int _ _) bY M5 rfl rfl rfl)) dS)))), ?_⟩)
 refine dU [false, false, false, false] rfl (by kernel_rfl) (cA aIf rfl rfl (vH _ b1 x0 x1 x2 x3 x4 x5 x6 x7 x8 x9 (hx _ (by simp)) (hx _ (by simp)) (M5.ownSeg 0 1)) ?_)
 rintro v6 w6 ⟨rfl, hM6⟩
 have M6 : Mem _ _ [_, _] _ := M5.seg 0 1 hM6
 refine aB (aC ⟨(eX (bQ rfl (aO 0 (.int _ _) bY M6 rfl rfl rfl)) (eX (bQ rfl (aO 0 (.int _ _) bY M6 rfl rfl rfl)) (eX (bQ rfl (aO 0 (.int _ _) bY M6 rfl rfl rfl)) (eX (bQ rfl (aO 0 (.int _ _) bY M6 rfl rfl rfl)) dS)))), ?_⟩)
 refine bA rfl rfl rfl (fun _ => cN [(0, .int _ _), (1, .int _ _), (2, .agg (List.toArray _)), (3, .int _ _), (4, .int _ _), (5, .agg (List.toArray _)), (6, .agg (List.toArray _))] _ oU rfl rfl) (dU [true, true, true, true] rfl (by kernel_rfl) (bE 1 _ bO M6 rfl rfl rfl rfl rfl (aQ rfl) rfl (fun w7 M7 => ?_)))
 refine aB (aC ⟨dS, ?_⟩)
 refine cH (aC (aN (fU 1 bO M7 rfl rfl rfl ?_)))
 exact ⟨rfl, M7.below⟩
set_option maxHeartbeats 8000000 in
theorem aCr (w : World) (A : Option Addr) (n c : Nat) (xs : List Body) (R : Rd w 10 A n (xs.map aF)) (hn : n ≤ 4096) (hc : fM xs = 0) (hb : ∀ b ∈ xs, InB b) :
  Calls Tryz.prog 67 #[.slice A n c] w (fun ex w' => ∃ v, ex = .returned v ∧ (fun v w' => ∃ q : Row, v = .tuple #[.slice q.A q.n q.c, .int .i64 0] ∧ aY 5 1 q.A q.n q.c ((aEb xs).map cO) q.e ∧ Mem w [] [q.e] w') v w') := by
 have hlen : xs.length = n := by simpa using R.len
 have hbd := R.bound
 refine aH #[.tmp 2, .tmp 3] 38 Tryz.func67 rfl Tryz.results67 Tryz.ntmps67 rfl ?_
 have M0 := Mem.refl w
 refine aD (aA (fZ rfl rfl (bI rfl rfl (aB (aC (aD (aD (aA (dM rfl rfl (cA aZh rfl rfl (xR _ _ _ _ xs (R.mem M0)) ?_))))))))))
 rintro v1 w1 ⟨rfl, hb1⟩
 have M1 := M0.callB hb1
 refine bI rfl rfl (aB (aC (aD (aA (aV rfl rfl (cQ rfl rfl rfl rfl (sX 13 rfl (fun h => h hc) (aB (aC ?_)))))))))
 refine bR rfl (aL (aC (aD (aA (dA [.int _ _, .int _ _, .int _ _, .int _ _] (jI.map cO) rfl mG M1 rfl rfl rfl rfl (dI rfl) (by decide) (fun b2 w2 M2 => ?_))))))
 have hlit15 := jN (T := 5) (b := b2) (jI.map cO) (xD _) rfl (by decide)
 refine aLk 0 Tryz.underlying57 Tryz.underlying5 M2 rfl rfl rfl rfl hlit15 (by decide) (fun e3 w3 M3 hR3 => (dM rfl rfl (wq (cS Tryz.underlying22 rfl) rfl (wq (bU us3 Tryz.underlying36 rfl (aAs _ (by omega) (by omega))) rfl (cA aRh rfl rfl (aAx _ ⟨(some ⟨b2, 0, none⟩), 4, 4, e3⟩ jI hR3 (n : Int) (by omega) (by first | omega | exact (show 4 ≤ 1048576 by decide)) (M3.ownSeg 0 1)) ?_)))))
 rintro v4 w4 ⟨q0, rfl, hnq0, hq0, hM4⟩
 have M4 : Mem _ _ [_] _ := M3.seg 0 1 hM4
 refine fZ rfl rfl (aB (aC (aD (aD (aA (dM rfl rfl (wq (cS Tryz.underlying22 rfl) rfl (aV rfl rfl (aB (aC (aU ?_)))))))))))
 refine dO (σ := Nat × Row) [2, 3, 21, 22] (fun (k, q) => [(5, .slice q.A q.n q.c), (23, .int .i64 (k : Int))]) (fun (k, q) w' => (k ≤ n ∧ q.n = 8 + 40 * k ∧ aY 5 1 q.A q.n q.c (((jI ++ iH (n : Int)) ++ (xs.take k).flatMap tN).map cO) q.e) ∧ Mem w [] [q.e] w') (fun (k, q) => n - k) (0, q0) (bM rfl (bM rfl eP)) (⟨⟨by omega, hnq0, by rw [List.take_zero, List.flatMap_nil, List.append_nil]; exact hq0⟩, M4⟩) ?_
 rintro ⟨k, q⟩ ρ5 w5 ⟨⟨hk, hqn, hq⟩, hM5⟩
 refine aD (aA (cQ rfl rfl rfl rfl (aB (aC (aD ?_)))))
 refine aW rfl (fun h24 => ?_) (fun h24 => ?_)
 ·obtain ⟨xb, hxb⟩ := cM (xs := xs) (k := k) hlen (by omega)
  have hxi := aMn (hb xb (List.mem_of_getElem? hxb))
  refine aL (aC (aD (aU (aD (aA (wq (bP (k) eV rfl rfl rfl ((R.mem hM5).below_len (aJ aF hxb)) ((R.mem hM5).someK (aJ aF hxb))) rfl (wq (dW _ bO (R.mem hM5) (aJ aF hxb) rfl) rfl (aR gK hM5 rfl rfl (fun b6 w6 M6 => (bE 1 _ bO M6 rfl rfl rfl rfl rfl (aQ rfl) rfl (fun w7 M7 => ?_)))))))))))
  refine aB (aC (aD (aA (wq (bB 1 bO M7 rfl rfl rfl) rfl (cA aZo rfl rfl (aJq _ xb) ?_)))))
  rintro v8 w8 ⟨rfl, hb8⟩
  have M8 := M7.callB hb8
  refine aV rfl rfl (aB (aC (aU (dO (σ := Nat × Row) [2, 3, 21, 22, 23, 28] (fun (j, p) => [(5, .slice p.A p.n p.c), (29, .int .i64 (j : Int))]) (fun (j, p) w' => (j ≤ 10 ∧ p.n = q.n + 4 * j ∧ aY 5 1 p.A p.n p.c (((jI ++ iH (n : Int)) ++ (xs.take k).flatMap tN ++ ((uQ xb).take j).flatMap iH).map cO) p.e) ∧ Mem w [] [p.e, (some b6, bc (aF xb) 40)] w') (fun (j, p) => 10 - j) (0, q) (bM rfl (bM rfl eP)) (⟨⟨by omega, by omega, by rw [List.take_zero, List.flatMap_nil, List.append_nil]; exact hq⟩, M8⟩) ?_))))
  rintro ⟨j, p⟩ ρ9 w9 ⟨⟨hj, hpn, hp⟩, hM9⟩
  refine aD (aA (cQ rfl rfl rfl rfl (aB (aC (aD ?_)))))
  refine aW rfl (fun h30 => ?_) (fun h30 => ?_)
  ·obtain ⟨x, hx⟩ := cM (xs := uQ xb) (k := j) (n := 10) rfl (by omega)
   have hxr := hxi x (List.mem_of_getElem? hx)
   refine aL (aC (aD (aU (aD (aA ?_)))))
   refine wq (tH (j) (.int .u32 x) fG bY rfl rfl (by omega) (by omega) rfl (by rw [kJ, List.getElem?_map, hx]; rfl)) rfl ?_
   refine bI rfl rfl (aB (aC (aA (dM rfl rfl (aV rfl rfl (cA aRh rfl rfl (aAx _ p _ hp x hxr (by first | omega | exact (show 4 ≤ 1048576 by decide)) (hM9.ownSeg 0 1)) ?_))))))
   rintro v10 w10 ⟨p2, rfl, hnp2, hp2, hM10⟩
   have M10 : Mem _ _ [_, _] _ := hM9.seg 0 1 hM10
   refine fZ rfl rfl (aB (cU (aC (aA (wq (bL rfl rfl (by omega) (by omega)) rfl (aV rfl rfl ?_))))))
   refine aB ?_
   refine cI (j + 1, p2) (bM rfl (bM rfl eP)) (cV rfl (cV rfl (cV rfl (cV rfl (cV rfl (cV rfl iZ)))))) ?_ ?_
   ·exact ⟨⟨by omega, by omega, by rw [aMy hx, ← List.append_assoc]; exact hp2⟩, M10⟩
   ·(show 10 - (j + 1) < 10 - j; omega)
  ·obtain rfl : j = 10 := by omega
   rw [List.take_of_length_le (show (uQ xb).length ≤ 10 from Nat.le_refl _)] at hp
   refine cP (cZ (cX (fA (cU (aC (aA ?_))))))
   refine wq (bL rfl rfl (by omega) (by omega)) rfl (aV rfl rfl (aB ?_))
   refine cI (k + 1, p) (bM rfl (bM rfl eP)) (cV rfl (cV rfl (cV rfl (cV rfl iZ)))) ?_ ?_
   ·exact ⟨⟨by omega, by omega, by rw [aOo hxb, ← aOn, ← List.append_assoc]; exact hp⟩, hM9.keep [true, false]⟩
   ·(show n - (k + 1) < n - k; omega)
 ·obtain rfl : k = n := by omega
  rw [List.take_of_length_le (by omega), ← hlen] at hq
  refine cP (cZ (cX (fA (aC (aD (aA (dM rfl rfl ?_)))))))
  refine fZ rfl rfl (bI rfl rfl (aB (aC (aN (gY (.slice _ _ _) (.int _ _) rfl rfl ?_)))))
  exact ⟨q, rfl, hq, hM5⟩
set_option maxHeartbeats 16000000 in
theorem aDs (w : World) (A : Option Addr) (n c : Nat) (ls : List Int) (R : Rd w 1 A n (ls.map cO)) (hB : lK ls) (hcap : n ≤ c) (hn : n ≤ 1048576) :
  Calls Tryz.prog 68 #[.slice A n c] w (fun ex w' => ∃ v, ex = .returned v ∧ (fun v w' => ∃ r : Row, v = .tuple #[.slice r.A r.n r.c, .int .i64 (lO ls).2] ∧ aY 40 10 r.A r.n r.c (((lO ls).1).map aF) r.e ∧ Mem w [] [r.e] w') v w') := by
 have hlen : ls.length = n := by simpa using R.len
 have hbd := R.bound
 refine aH #[.tmp 2, .tmp 3] 58 Tryz.func68 rfl Tryz.results68 Tryz.ntmps68 rfl ?_
 have M0 := Mem.refl w
 refine aD (aA (fZ rfl rfl (bI rfl rfl (aB (aC (aD (aD (aA (dM rfl rfl (wq (cS Tryz.underlying57 rfl) rfl ?_))))))))))
 refine cQ rfl rfl rfl rfl (wq (aG (.bool (decide _)) rfl) rfl ?_)
 refine cC 13 rfl (fun g13 => ?_) (fun g13 => ?_)
 ·refine aK rfl rfl (aK rfl rfl (aK rfl rfl (aK rfl rfl (wq (aX true (.bool true) rfl rfl) rfl (aB (aC ?_))))))
  refine cK rfl (aD (aA (fZ rfl rfl (bI rfl rfl (aB (aC (aN (bZ (gY (.slice _ _ _) (.int _ _) rfl rfl ?_)))))))))
  have hd := wB (l := ls) (fun h => by have := h.1; omega)
  exact ⟨⟨none, 0, 0, (none, default)⟩, by rw [hd], by rw [hd]; exact aY.nil _ _ _, (M0.keep []).dummy default⟩
 ·refine dM rfl rfl (wq (fS (0) (4) mG rfl rfl ⟨_, rfl⟩ (by omega) (by omega) (by omega)) rfl (wq (aZt Tryz.underlying57 Tryz.underlying5 Tryz.underlying9 (Rd.subB (R.mem M0) (0) (4) (by omega) (by omega) hcap) rfl) rfl (wq (aQq rfl rfl) rfl (wq (aX false (.bool (decide _)) rfl rfl) rfl (aB (aC ?_))))))
  refine aW rfl (fun h18 => ?_) (fun h18 => ?_)
  ·refine aD (aA (fZ rfl rfl (bI rfl rfl (aB (aC (aN (bZ (gY (.slice _ _ _) (.int _ _) rfl rfl ?_))))))))
   have hd := wB (l := ls) (fun h => ((aLp ((ls.drop 0).take (4 - 0)) (hB.sub 0 4) [66, 73, 76, 49]).1 h18) (by rw [← uG]; simpa using h.2.1))
   exact ⟨⟨none, 0, 0, (none, default)⟩, by rw [hd], by rw [hd]; exact aY.nil _ _ _, (M0.keep []).dummy default⟩
  ·refine aL (aC (aD (aA (dM rfl rfl (wq (fS (4) (((n : Nat) : Int)) mG rfl ⟨_, rfl⟩ rfl (by omega) (by omega) (by omega)) rfl (cA kZ rfl rfl (fW _ _ _ _ ((ls.drop (4)).take (n - (4))) (Rd.subB (R.mem M0) (4) (n) (by omega) (by omega) hcap) (hB.sub _ _) (by omega)) ?_))))))
   rintro v1 w1 ⟨rfl, hb1⟩
   have M1 := M0.callB hb1
   have hr4 := oX hB (a := 4) (by omega)
   obtain ⟨N, hN⟩ : ∃ N : Nat, eD ls 4 = (N : Int) := ⟨(eD ls 4).toNat, by omega⟩
   have hNl : N ≤ 4294967295 := by omega
   refine aS 21 (.int .u32 (N : Int)) (iE ((gV (by omega)).trans hN)) (wq (bU rD Tryz.underlying3 rfl (kH _ (by omega) (by omega))) rfl (bI rfl rfl (aB (aC (aD (aD (aA (dM rfl rfl (wq (cS Tryz.underlying57 rfl) rfl ?_)))))))))
   refine aV rfl rfl (cA kX rfl rfl (fE _ (N : Int) (by omega)) ?_)
   rintro v2 w2 ⟨rfl, hb2⟩
   have M2 := M1.callB hb2
   refine cQ rfl rfl rfl rfl (aB (aC ?_))
   refine aW rfl (fun h27 => ?_) (fun h27 => ?_)
   ·refine aD (aA (fZ rfl rfl (bI rfl rfl (aB (aC (aN (bZ (gY (.slice _ _ _) (.int _ _) rfl rfl ?_))))))))
    have hd := wB (l := ls) (fun h => h27 (by have := h.2.2; rw [hN] at this; omega))
    exact ⟨⟨none, 0, 0, (none, default)⟩, by rw [hd], by rw [hd]; exact aY.nil _ _ _, (M2.keep []).dummy default⟩
   ·have hfm : aBm ls := ⟨by omega, by have h := Decidable.not_not.1 (mt ((aLp ((ls.drop 0).take (4 - 0)) (hB.sub 0 4) [66, 73, 76, 49]).2) h18); rw [← uG] at h; simpa using h, by rw [hN]; omega⟩
    refine aL (aC (aD (aA (fZ rfl rfl ?_))))
    have M3 := M2.dummy default
    refine aB (aC (aD (aD (aA (aV rfl rfl (aV rfl rfl (aB (aC (aU (dO (σ := Nat × Row) [0, 2, 3, 28] (fun (i, q) => [(5, .slice q.A q.n q.c), (29, .int .i64 (i : Int))]) (fun (i, q) w' => (i ≤ N ∧ aY 40 10 q.A q.n q.c ((mQ ls i).map aF) q.e) ∧ Mem w [] [q.e] w') (fun (i, q) => N - i) (0, iJ) (bM rfl (bM rfl eP)) (⟨⟨by omega, aY.nil _ _ _⟩, M3⟩) ?_))))))))))
    rintro ⟨i, q⟩ ρ4 w4 ⟨⟨hi, hq⟩, hM4⟩
    have hqn : (mQ ls i).length = q.n := by simpa using hq.1
    rw [wH] at hqn
    refine aD (aA (cQ rfl rfl rfl rfl (aB (aC (aD ?_)))))
    refine aW rfl (fun h30 => ?_) (fun h30 => ?_)
    ·refine aL (aC (aD (aU (aD (aA (aV rfl rfl (bI rfl rfl (aB (aC (aD (aA (aR aCh hM4 rfl rfl (fun b5 w5 M5 => (aB (aC (aD (aD (aA ?_))))))))))))))))))
     refine aV rfl rfl (aB (aC (aU (lH 11 (gP (aD (aA (cQ rfl rfl rfl rfl (kE 33 rfl (by first | decide | omega) ?_)))))))))
     refine aB (aC (aD (cK rfl (aL (aC (aD (aU (aD (aA (aV rfl rfl (bI rfl rfl (aB (aC (aA ?_))))))))))))))
     refine aV rfl rfl (dM rfl rfl (aV rfl rfl (cA kX rfl rfl (fE _ (i : Int) (by omega)) ?_)))
     rintro v6 w6 ⟨rfl, hb6⟩
     have M6 := M5.callB hb6
     refine aV rfl rfl (wq (fX rfl rfl (by omega) (by omega)) rfl (wq (bL rfl rfl (by omega) (by omega)) rfl (aS 41 (.int .i64 ((8 + 40 * i : Nat) : Int)) (iE (by omega)) (wq (fS (((8 + 40 * i : Nat) : Int)) (((n : Nat) : Int)) mG rfl ⟨_, rfl⟩ rfl (by omega) (by omega) (by omega)) rfl (cA kZ rfl rfl (fW _ _ _ _ ((ls.drop (8 + 40 * i)).take (n - (8 + 40 * i))) (Rd.subB (R.mem M6) (8 + 40 * i) (n) (by omega) (by omega) hcap) (hB.sub _ _) (by omega)) ?_)))))
     rintro v7 w7 ⟨rfl, hb7⟩
     have M7 := M6.callB hb7
     refine aS 43 (.int .u32 (eD ls (8 + 40 * i))) (iE (gV (by omega))) (wq (fB (0) fG rfl rfl rfl (by decide)) rfl (dF 1 (.int _ _) bY M7 rfl rfl rfl rfl rfl rfl (fun w8 M8 => (aB (cU (aC (aA ?_)))))))
     refine wq (bL rfl rfl (by first | decide | omega) (by first | decide | omega)) rfl (aS 45 (.int .i64 1) (iE (by first | decide | omega)) (aV rfl rfl (aB (aC (gP (jW (fr := [(0, .slice _ _ _), (2, .slice _ _ _), (3, .int .i64 0), (5, .slice _ _ _), (6, .int _ _), (7, .pointer _), (8, .int .i64 0), (28, .int _ _), (29, .int _ _), (32, .int .i64 1)]) (bM rfl (bM rfl (bM rfl (bM rfl (bM rfl (bM rfl (bM rfl (bM rfl (bM rfl (bM rfl eP)))))))))) (fun ρ9 => ?_)))))))
     refine aD (aA (cQ rfl rfl rfl rfl (kE 33 rfl (by first | decide | omega) (aB (aC (aD (cK rfl (aL (aC (aD (aU (aD (aA ?_)))))))))))))
     refine aV rfl rfl (bI rfl rfl (aB (aC (aA (aV rfl rfl (dM rfl rfl (aV rfl rfl ?_)))))))
     refine cA kX rfl rfl (fE _ (i : Int) (by omega)) ?_
     rintro v10 w10 ⟨rfl, hb10⟩
     have M10 := M8.callB hb10
     refine aV rfl rfl (wq (fX rfl rfl (by omega) (by omega)) rfl (wq (bL rfl rfl (by omega) (by omega)) rfl (aS 41 (.int .i64 ((8 + 40 * i + 4 : Nat) : Int)) (iE (by omega)) (wq (fS (((8 + 40 * i + 4 : Nat) : Int)) (((n : Nat) : Int)) mG rfl ⟨_, rfl⟩ rfl (by omega) (by omega) (by omega)) rfl (cA kZ rfl rfl (fW _ _ _ _ ((ls.drop (8 + 40 * i + 4)).take (n - (8 + 40 * i + 4))) (Rd.subB (R.mem M10) (8 + 40 * i + 4) (n) (by omega) (by omega) hcap) (hB.sub _ _) (by omega)) ?_)))))
     rintro v11 w11 ⟨rfl, hb11⟩
     have M11 := M10.callB hb11
     refine aS 43 (.int .u32 (eD ls (8 + 40 * i + 4))) (iE (gV (by omega))) (wq (fB (1) fG rfl rfl rfl (by decide)) rfl (dF 1 (.int _ _) bY M11 rfl rfl rfl rfl rfl rfl (fun w12 M12 => (aB (cU (aC (aA ?_)))))))
     refine wq (bL rfl rfl (by first | decide | omega) (by first | decide | omega)) rfl (aS 45 (.int .i64 2) (iE (by first | decide | omega)) (aV rfl rfl (aB (aC (gP (jW (fr := [(0, .slice _ _ _), (2, .slice _ _ _), (3, .int .i64 0), (5, .slice _ _ _), (6, .int _ _), (7, .pointer _), (8, .int .i64 1), (28, .int _ _), (29, .int _ _), (32, .int .i64 2)]) (bM rfl (bM rfl (bM rfl (bM rfl (bM rfl (bM rfl (bM rfl (bM rfl (bM rfl (bM rfl eP)))))))))) (fun ρ13 => ?_)))))))
     refine aD (aA (cQ rfl rfl rfl rfl (kE 33 rfl (by first | decide | omega) (aB (aC (aD (cK rfl (aL (aC (aD (aU (aD (aA ?_)))))))))))))
     refine aV rfl rfl (bI rfl rfl (aB (aC (aA (aV rfl rfl (dM rfl rfl (aV rfl rfl ?_)))))))
     refine cA kX rfl rfl (fE _ (i : Int) (by omega)) ?_
     rintro v14 w14 ⟨rfl, hb14⟩
     have M14 := M12.callB hb14
     refine aV rfl rfl (wq (fX rfl rfl (by omega) (by omega)) rfl (wq (bL rfl rfl (by omega) (by omega)) rfl (aS 41 (.int .i64 ((8 + 40 * i + 8 : Nat) : Int)) (iE (by omega)) (wq (fS (((8 + 40 * i + 8 : Nat) : Int)) (((n : Nat) : Int)) mG rfl ⟨_, rfl⟩ rfl (by omega) (by omega) (by omega)) rfl (cA kZ rfl rfl (fW _ _ _ _ ((ls.drop (8 + 40 * i + 8)).take (n - (8 + 40 * i + 8))) (Rd.subB (R.mem M14) (8 + 40 * i + 8) (n) (by omega) (by omega) hcap) (hB.sub _ _) (by omega)) ?_)))))
     rintro v15 w15 ⟨rfl, hb15⟩
     have M15 := M14.callB hb15
     refine aS 43 (.int .u32 (eD ls (8 + 40 * i + 8))) (iE (gV (by omega))) (wq (fB (2) fG rfl rfl rfl (by decide)) rfl (dF 1 (.int _ _) bY M15 rfl rfl rfl rfl rfl rfl (fun w16 M16 => (aB (cU (aC (aA ?_)))))))
     refine wq (bL rfl rfl (by first | decide | omega) (by first | decide | omega)) rfl (aS 45 (.int .i64 3) (iE (by first | decide | omega)) (aV rfl rfl (aB (aC (gP (jW (fr := [(0, .slice _ _ _), (2, .slice _ _ _), (3, .int .i64 0), (5, .slice _ _ _), (6, .int _ _), (7, .pointer _), (8, .int .i64 2), (28, .int _ _), (29, .int _ _), (32, .int .i64 3)]) (bM rfl (bM rfl (bM rfl (bM rfl (bM rfl (bM rfl (bM rfl (bM rfl (bM rfl (bM rfl eP)))))))))) (fun ρ17 => ?_)))))))
     refine aD (aA (cQ rfl rfl rfl rfl (kE 33 rfl (by first | decide | omega) (aB (aC (aD (cK rfl (aL (aC (aD (aU (aD (aA ?_)))))))))))))
     refine aV rfl rfl (bI rfl rfl (aB (aC (aA (aV rfl rfl (dM rfl rfl (aV rfl rfl ?_)))))))
     refine cA kX rfl rfl (fE _ (i : Int) (by omega)) ?_
     rintro v18 w18 ⟨rfl, hb18⟩
     have M18 := M16.callB hb18
     refine aV rfl rfl (wq (fX rfl rfl (by omega) (by omega)) rfl (wq (bL rfl rfl (by omega) (by omega)) rfl (aS 41 (.int .i64 ((8 + 40 * i + 12 : Nat) : Int)) (iE (by omega)) (wq (fS (((8 + 40 * i + 12 : Nat) : Int)) (((n : Nat) : Int)) mG rfl ⟨_, rfl⟩ rfl (by omega) (by omega) (by omega)) rfl ?_))))
     refine cA kZ rfl rfl (fW _ _ _ _ ((ls.drop (8 + 40 * i + 12)).take (n - (8 + 40 * i + 12))) (Rd.subB (R.mem M18) (8 + 40 * i + 12) (n) (by omega) (by omega) hcap) (hB.sub _ _) (by omega)) ?_
     rintro v19 w19 ⟨rfl, hb19⟩
     have M19 := M18.callB hb19
     refine aS 43 (.int .u32 (eD ls (8 + 40 * i + 12))) (iE (gV (by omega))) (wq (fB (3) fG rfl rfl rfl (by decide)) rfl (dF 1 (.int _ _) bY M19 rfl rfl rfl rfl rfl rfl (fun w20 M20 => (aB (cU (aC (aA ?_)))))))
     refine wq (bL rfl rfl (by first | decide | omega) (by first | decide | omega)) rfl (aS 45 (.int .i64 4) (iE (by first | decide | omega)) (aV rfl rfl (aB (aC (gP (jW (fr := [(0, .slice _ _ _), (2, .slice _ _ _), (3, .int .i64 0), (5, .slice _ _ _), (6, .int _ _), (7, .pointer _), (8, .int .i64 3), (28, .int _ _), (29, .int _ _), (32, .int .i64 4)]) (bM rfl (bM rfl (bM rfl (bM rfl (bM rfl (bM rfl (bM rfl (bM rfl (bM rfl (bM rfl eP)))))))))) (fun ρ21 => ?_)))))))
     refine aD (aA (cQ rfl rfl rfl rfl (kE 33 rfl (by first | decide | omega) (aB (aC (aD (cK rfl (aL (aC (aD (aU (aD (aA ?_)))))))))))))
     refine aV rfl rfl (bI rfl rfl (aB (aC (aA (aV rfl rfl (dM rfl rfl (aV rfl rfl ?_)))))))
     refine cA kX rfl rfl (fE _ (i : Int) (by omega)) ?_
     rintro v22 w22 ⟨rfl, hb22⟩
     have M22 := M20.callB hb22
     refine aV rfl rfl (wq (fX rfl rfl (by omega) (by omega)) rfl (wq (bL rfl rfl (by omega) (by omega)) rfl (aS 41 (.int .i64 ((8 + 40 * i + 16 : Nat) : Int)) (iE (by omega)) (wq (fS (((8 + 40 * i + 16 : Nat) : Int)) (((n : Nat) : Int)) mG rfl ⟨_, rfl⟩ rfl (by omega) (by omega) (by omega)) rfl ?_))))
     refine cA kZ rfl rfl (fW _ _ _ _ ((ls.drop (8 + 40 * i + 16)).take (n - (8 + 40 * i + 16))) (Rd.subB (R.mem M22) (8 + 40 * i + 16) (n) (by omega) (by omega) hcap) (hB.sub _ _) (by omega)) ?_
     rintro v23 w23 ⟨rfl, hb23⟩
     have M23 := M22.callB hb23
     refine aS 43 (.int .u32 (eD ls (8 + 40 * i + 16))) (iE (gV (by omega))) (wq (fB (4) fG rfl rfl rfl (by decide)) rfl (dF 1 (.int _ _) bY M23 rfl rfl rfl rfl rfl rfl (fun w24 M24 => (aB (cU (aC (aA ?_)))))))
     refine wq (bL rfl rfl (by first | decide | omega) (by first | decide | omega)) rfl (aS 45 (.int .i64 5) (iE (by first | decide | omega)) (aV rfl rfl (aB (aC (gP (jW (fr := [(0, .slice _ _ _), (2, .slice _ _ _), (3, .int .i64 0), (5, .slice _ _ _), (6, .int _ _), (7, .pointer _), (8, .int .i64 4), (28, .int _ _), (29, .int _ _), (32, .int .i64 5)]) (bM rfl (bM rfl (bM rfl (bM rfl (bM rfl (bM rfl (bM rfl (bM rfl (bM rfl (bM rfl eP)))))))))) (fun ρ25 => ?_)))))))
     refine aD (aA (cQ rfl rfl rfl rfl (kE 33 rfl (by first | decide | omega) (aB (aC (aD (cK rfl (aL (aC (aD (aU (aD (aA ?_)))))))))))))
     refine aV rfl rfl (bI rfl rfl (aB (aC (aA (aV rfl rfl (dM rfl rfl (aV rfl rfl ?_)))))))
     refine cA kX rfl rfl (fE _ (i : Int) (by omega)) ?_
     rintro v26 w26 ⟨rfl, hb26⟩
     have M26 := M24.callB hb26
     refine aV rfl rfl (wq (fX rfl rfl (by omega) (by omega)) rfl (wq (bL rfl rfl (by omega) (by omega)) rfl (aS 41 (.int .i64 ((8 + 40 * i + 20 : Nat) : Int)) (iE (by omega)) (wq (fS (((8 + 40 * i + 20 : Nat) : Int)) (((n : Nat) : Int)) mG rfl ⟨_, rfl⟩ rfl (by omega) (by omega) (by omega)) rfl ?_))))
     refine cA kZ rfl rfl (fW _ _ _ _ ((ls.drop (8 + 40 * i + 20)).take (n - (8 + 40 * i + 20))) (Rd.subB (R.mem M26) (8 + 40 * i + 20) (n) (by omega) (by omega) hcap) (hB.sub _ _) (by omega)) ?_
     rintro v27 w27 ⟨rfl, hb27⟩
     have M27 := M26.callB hb27
     refine aS 43 (.int .u32 (eD ls (8 + 40 * i + 20))) (iE (gV (by omega))) (wq (fB (5) fG rfl rfl rfl (by decide)) rfl (dF 1 (.int _ _) bY M27 rfl rfl rfl rfl rfl rfl (fun w28 M28 => (aB (cU (aC (aA ?_)))))))
     refine wq (bL rfl rfl (by first | decide | omega) (by first | decide | omega)) rfl (aS 45 (.int .i64 6) (iE (by first | decide | omega)) (aV rfl rfl (aB (aC (gP (jW (fr := [(0, .slice _ _ _), (2, .slice _ _ _), (3, .int .i64 0), (5, .slice _ _ _), (6, .int _ _), (7, .pointer _), (8, .int .i64 5), (28, .int _ _), (29, .int _ _), (32, .int .i64 6)]) (bM rfl (bM rfl (bM rfl (bM rfl (bM rfl (bM rfl (bM rfl (bM rfl (bM rfl (bM rfl eP)))))))))) (fun ρ29 => ?_)))))))
     refine aD (aA (cQ rfl rfl rfl rfl (kE 33 rfl (by first | decide | omega) (aB (aC (aD (cK rfl (aL (aC (aD (aU (aD (aA ?_)))))))))))))
     refine aV rfl rfl (bI rfl rfl (aB (aC (aA (aV rfl rfl (dM rfl rfl (aV rfl rfl ?_)))))))
     refine cA kX rfl rfl (fE _ (i : Int) (by omega)) ?_
     rintro v30 w30 ⟨rfl, hb30⟩
     have M30 := M28.callB hb30
     refine aV rfl rfl (wq (fX rfl rfl (by omega) (by omega)) rfl (wq (bL rfl rfl (by omega) (by omega)) rfl (aS 41 (.int .i64 ((8 + 40 * i + 24 : Nat) : Int)) (iE (by omega)) (wq (fS (((8 + 40 * i + 24 : Nat) : Int)) (((n : Nat) : Int)) mG rfl ⟨_, rfl⟩ rfl (by omega) (by omega) (by omega)) rfl ?_))))
     refine cA kZ rfl rfl (fW _ _ _ _ ((ls.drop (8 + 40 * i + 24)).take (n - (8 + 40 * i + 24))) (Rd.subB (R.mem M30) (8 + 40 * i + 24) (n) (by omega) (by omega) hcap) (hB.sub _ _) (by omega)) ?_
     rintro v31 w31 ⟨rfl, hb31⟩
     have M31 := M30.callB hb31
     refine aS 43 (.int .u32 (eD ls (8 + 40 * i + 24))) (iE (gV (by omega))) (wq (fB (6) fG rfl rfl rfl (by decide)) rfl (dF 1 (.int _ _) bY M31 rfl rfl rfl rfl rfl rfl (fun w32 M32 => (aB (cU (aC (aA ?_)))))))
     refine wq (bL rfl rfl (by first | decide | omega) (by first | decide | omega)) rfl (aS 45 (.int .i64 7) (iE (by first | decide | omega)) (aV rfl rfl (aB (aC (gP (jW (fr := [(0, .slice _ _ _), (2, .slice _ _ _), (3, .int .i64 0), (5, .slice _ _ _), (6, .int _ _), (7, .pointer _), (8, .int .i64 6), (28, .int _ _), (29, .int _ _), (32, .int .i64 7)]) (bM rfl (bM rfl (bM rfl (bM rfl (bM rfl (bM rfl (bM rfl (bM rfl (bM rfl (bM rfl eP)))))))))) (fun ρ33 => ?_)))))))
     refine aD (aA (cQ rfl rfl rfl rfl (kE 33 rfl (by first | decide | omega) (aB (aC (aD (cK rfl (aL (aC (aD (aU (aD (aA ?_)))))))))))))
     refine aV rfl rfl (bI rfl rfl (aB (aC (aA (aV rfl rfl (dM rfl rfl (aV rfl rfl ?_)))))))
     refine cA kX rfl rfl (fE _ (i : Int) (by omega)) ?_
     rintro v34 w34 ⟨rfl, hb34⟩
     have M34 := M32.callB hb34
     refine aV rfl rfl (wq (fX rfl rfl (by omega) (by omega)) rfl (wq (bL rfl rfl (by omega) (by omega)) rfl (aS 41 (.int .i64 ((8 + 40 * i + 28 : Nat) : Int)) (iE (by omega)) (wq (fS (((8 + 40 * i + 28 : Nat) : Int)) (((n : Nat) : Int)) mG rfl ⟨_, rfl⟩ rfl (by omega) (by omega) (by omega)) rfl ?_))))
     refine cA kZ rfl rfl (fW _ _ _ _ ((ls.drop (8 + 40 * i + 28)).take (n - (8 + 40 * i + 28))) (Rd.subB (R.mem M34) (8 + 40 * i + 28) (n) (by omega) (by omega) hcap) (hB.sub _ _) (by omega)) ?_
     rintro v35 w35 ⟨rfl, hb35⟩
     have M35 := M34.callB hb35
     refine aS 43 (.int .u32 (eD ls (8 + 40 * i + 28))) (iE (gV (by omega))) (wq (fB (7) fG rfl rfl rfl (by decide)) rfl (dF 1 (.int _ _) bY M35 rfl rfl rfl rfl rfl rfl (fun w36 M36 => (aB (cU (aC (aA ?_)))))))
     refine wq (bL rfl rfl (by first | decide | omega) (by first | decide | omega)) rfl (aS 45 (.int .i64 8) (iE (by first | decide | omega)) (aV rfl rfl (aB (aC (gP (jW (fr := [(0, .slice _ _ _), (2, .slice _ _ _), (3, .int .i64 0), (5, .slice _ _ _), (6, .int _ _), (7, .pointer _), (8, .int .i64 7), (28, .int _ _), (29, .int _ _), (32, .int .i64 8)]) (bM rfl (bM rfl (bM rfl (bM rfl (bM rfl (bM rfl (bM rfl (bM rfl (bM rfl (bM rfl eP)))))))))) (fun ρ37 => ?_)))))))
     refine aD (aA (cQ rfl rfl rfl rfl (kE 33 rfl (by first | decide | omega) (aB (aC (aD (cK rfl (aL (aC (aD (aU (aD (aA ?_)))))))))))))
     refine aV rfl rfl (bI rfl rfl (aB (aC (aA (aV rfl rfl (dM rfl rfl (aV rfl rfl ?_)))))))
     refine cA kX rfl rfl (fE _ (i : Int) (by omega)) ?_
     rintro v38 w38 ⟨rfl, hb38⟩
     have M38 := M36.callB hb38
     refine aV rfl rfl (wq (fX rfl rfl (by omega) (by omega)) rfl (wq (bL rfl rfl (by omega) (by omega)) rfl (aS 41 (.int .i64 ((8 + 40 * i + 32 : Nat) : Int)) (iE (by omega)) (wq (fS (((8 + 40 * i + 32 : Nat) : Int)) (((n : Nat) : Int)) mG rfl ⟨_, rfl⟩ rfl (by omega) (by omega) (by omega)) rfl ?_))))
     refine cA kZ rfl rfl (fW _ _ _ _ ((ls.drop (8 + 40 * i + 32)).take (n - (8 + 40 * i + 32))) (Rd.subB (R.mem M38) (8 + 40 * i + 32) (n) (by omega) (by omega) hcap) (hB.sub _ _) (by omega)) ?_
     rintro v39 w39 ⟨rfl, hb39⟩
     have M39 := M38.callB hb39
     refine aS 43 (.int .u32 (eD ls (8 + 40 * i + 32))) (iE (gV (by omega))) (wq (fB (8) fG rfl rfl rfl (by decide)) rfl (dF 1 (.int _ _) bY M39 rfl rfl rfl rfl rfl rfl (fun w40 M40 => (aB (cU (aC (aA ?_)))))))
     refine wq (bL rfl rfl (by first | decide | omega) (by first | decide | omega)) rfl (aS 45 (.int .i64 9) (iE (by first | decide | omega)) (aV rfl rfl (aB (aC (gP (jW (fr := [(0, .slice _ _ _), (2, .slice _ _ _), (3, .int .i64 0), (5, .slice _ _ _), (6, .int _ _), (7, .pointer _), (8, .int .i64 8), (28, .int _ _), (29, .int _ _), (32, .int .i64 9)]) (bM rfl (bM rfl (bM rfl (bM rfl (bM rfl (bM rfl (bM rfl (bM rfl (bM rfl (bM rfl eP)))))))))) (fun ρ41 => ?_)))))))
     refine aD (aA (cQ rfl rfl rfl rfl (kE 33 rfl (by first | decide | omega) (aB (aC (aD (cK rfl (aL (aC (aD (aU (aD (aA ?_)))))))))))))
     refine aV rfl rfl (bI rfl rfl (aB (aC (aA (aV rfl rfl (dM rfl rfl (aV rfl rfl ?_)))))))
     refine cA kX rfl rfl (fE _ (i : Int) (by omega)) ?_
     rintro v42 w42 ⟨rfl, hb42⟩
     have M42 := M40.callB hb42
     refine aV rfl rfl (wq (fX rfl rfl (by omega) (by omega)) rfl (wq (bL rfl rfl (by omega) (by omega)) rfl (aS 41 (.int .i64 ((8 + 40 * i + 36 : Nat) : Int)) (iE (by omega)) (wq (fS (((8 + 40 * i + 36 : Nat) : Int)) (((n : Nat) : Int)) mG rfl ⟨_, rfl⟩ rfl (by omega) (by omega) (by omega)) rfl ?_))))
     refine cA kZ rfl rfl (fW _ _ _ _ ((ls.drop (8 + 40 * i + 36)).take (n - (8 + 40 * i + 36))) (Rd.subB (R.mem M42) (8 + 40 * i + 36) (n) (by omega) (by omega) hcap) (hB.sub _ _) (by omega)) ?_
     rintro v43 w43 ⟨rfl, hb43⟩
     have M43 := M42.callB hb43
     refine aS 43 (.int .u32 (eD ls (8 + 40 * i + 36))) (iE (gV (by omega))) (wq (fB (9) fG rfl rfl rfl (by decide)) rfl (dF 1 (.int _ _) bY M43 rfl rfl rfl rfl rfl rfl (fun w44 M44 => (aB (cU (aC (aA ?_)))))))
     refine wq (bL rfl rfl (by first | decide | omega) (by first | decide | omega)) rfl (aS 45 (.int .i64 10) (iE (by first | decide | omega)) (aV rfl rfl (aB (aC (gP (jW (fr := [(0, .slice _ _ _), (2, .slice _ _ _), (3, .int .i64 0), (5, .slice _ _ _), (6, .int _ _), (7, .pointer _), (8, .int .i64 9), (28, .int _ _), (29, .int _ _), (32, .int .i64 10)]) (bM rfl (bM rfl (bM rfl (bM rfl (bM rfl (bM rfl (bM rfl (bM rfl (bM rfl (bM rfl eP)))))))))) (fun ρ45 => ?_)))))))
     refine aD (aA (cQ rfl rfl rfl rfl (sX 33 rfl (by first | decide | omega) (aB (aC (aD (bR rfl (cP ?_))))))))
     refine cZ (cZ (fA (aC (aA (dM rfl rfl (wq (bB 1 aIl M44 rfl rfl rfl) rfl (cA bCo rfl rfl (aDn _ _ _ _ _ _ _ _ _ _ _ (bDu hB (a := 8 + 40 * i) (by omega))) ?_)))))))
     rintro v46 w46 ⟨rfl, hb46⟩
     have M46 := M44.callB hb46
     refine aS 48 ((.agg (aF (oL ls (8 + 40 * i))).toArray)) rfl (dA [.agg (List.toArray _)] [aF (oL ls (8 + 40 * i))] rfl eV M46 rfl rfl rfl rfl (dI rfl) (by decide) (fun b47 w47 M47 => (eF 0 [aF (oL ls (8 + 40 * i))] eV M47 rfl rfl rfl rfl rfl hq rfl (by simp [aF, Go.Bil.one]) (dC.ofMem 2 M47 rfl) (by omega) (fun A48 c48 e48 w48 M48 hR48 => ?_))))
     refine fZ rfl rfl (aB (cU (aC (aA (wq (bL rfl rfl (by omega) (by omega)) rfl (aV rfl rfl ?_))))))
     refine aB ?_
     refine cI (i + 1, ⟨A48, q.n + 1, c48, e48⟩) (bM rfl (bM rfl eP)) (cV rfl (cV rfl (cV rfl (cV rfl iZ)))) ?_ ?_
     ·exact ⟨⟨by omega, by rw [aNo, List.map_append]; exact hR48⟩, M48.keep [true, false, false]⟩
     ·(show N - (i + 1) < N - i; omega)
    ·obtain rfl : i = N := by omega
     refine cP (cZ (cX (fA (aC (aD (aD (aA (dM rfl rfl ?_))))))))
     refine cA aZh rfl rfl (xR _ _ _ _ (mQ ls i) (hq.rd hM4 (aZ (i := 0) rfl))) ?_
     rintro v49 w49 ⟨rfl, hb49⟩
     have M49 := hM4.callB hb49
     refine bI rfl rfl (aB (aC (aD (aA (aV rfl rfl (cQ rfl rfl rfl rfl (aB (aC ?_))))))))
     refine aW rfl (fun h55 => ?_) (fun h55 => ?_)
     ·refine aD (aA (aV rfl rfl (fZ rfl rfl (bI rfl rfl (aB (aC (aN (bZ (gY (.slice _ _ _) (.int _ _) rfl rfl ?_)))))))))
      have hd := aUh hfm hN h55
      exact ⟨⟨none, 0, 0, (none, default)⟩, by rw [hd], by rw [hd]; exact aY.nil _ _ _, (M49.keep [false]).dummy default⟩
     ·refine aL (aC (aD (aA (dM rfl rfl (fZ rfl rfl (bI rfl rfl (aB (aC (aN (gY (.slice _ _ _) (.int _ _) rfl rfl ?_))))))))))
      have hd := aPw hfm hN (Decidable.not_not.1 h55)
      exact ⟨q, by rw [hd], by rw [hd]; exact hq, M49⟩
end Go.Proofs.YtlmcphcgiclanaaGreatDoor
