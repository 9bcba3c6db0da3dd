/- Part of the proof of the laws of this seat: SW, C21a, C21b, R21a, R21b, R21c. No conditions. -/
import Derived.Test.YtlmcphcgiclanaaGreatDoorK2
import Derived.Test.YtlmcphcgiclanaaGreatDoorK5
import Derived.Test.YtlmcphcgiclanaaGreatDoorK22
import Derived.Test.YtlmcphcgiclanaaGreatDoorK34
import Derived.Test.YtlmcphcgiclanaaGreatDoorK33
import Derived.Test.YtlmcphcgiclanaaGreatDoorK6
import Derived.Test.YtlmcphcgiclanaaGreatDoorK24
import Derived.Test.YtlmcphcgiclanaaGreatDoorK13
import Derived.Test.YtlmcphcgiclanaaGreatDoorK17
import Derived.Test.YtlmcphcgiclanaaGreatDoorK11
set_option linter.unusedVariables false
set_option linter.unusedSimpArgs false
set_option linter.unnecessarySimpa false
namespace Go.Proofs.YtlmcphcgiclanaaGreatDoor
open Go.Bil
open Go.RowKit (Below)
open Go.Proofs
set_option maxHeartbeats 4000000 in
theorem aRb (w : World) (b : Nat) (A : Option Addr) (n c : Nat) (p : Option Nat) (er em : fF) (m : List Body) (hs : StoreIs 40 A n c p er em m) (hO : Own [(some b, bc [.slice A n c, .map p] 56), er, em] w) (x : Body) :
  Calls Tryz.prog 66 #[.pointer (some ⟨b, 0, none⟩), (.agg (aF x).toArray)] w (fun ex w' => ∃ v, ex = .returned v ∧ (fun v w' => v = .int .i64 (mY m x).2 ∧ ∃ A' n' c' p' er' em', StoreIs 40 A' n' c' p' er' em' (mY m x).1 ∧ Mem w (cY [(some b, bc [.slice A n c, .map p] 56), er, em]) [(some b, bc [.slice A' n' c', .map p'] 56), er', em'] w') v w') := by
 have hlen : m.length = n := by simpa using hs.row.1
 have hcap := hs.cap
 refine aI #[.tmp 4] 62 Tryz.func66 rfl Tryz.results66 Tryz.ntmps66 rfl ?_
 have M0 := hO.mem
 refine aE (aA (bP (.agg (List.toArray _)) M0 rfl rfl rfl (fun b1 w1 M1 => (bC rfl rfl (aB (aC (aE (aE (aA (wq (aH (.pointer _) rfl) rfl (wq (fP false Tryz.underlying143 rfl rfl) rfl ?_)))))))))))
 refine aB (aC (cM rfl (aL (aC (aE (aE (aA (wq (aU 3 bK M1 rfl rfl rfl) rfl (bZ aXa rfl rfl (uR _ x) ?_)))))))))
 rintro v2 w2 ⟨rfl, hb2⟩
 have M2 := M1.callB hb2
 refine bC rfl rfl (aB (aC (aE (aA (aO rfl rfl (cX rfl rfl rfl rfl (aB (aC ?_))))))))
 refine aS rfl (fun h13 => ?_) (fun h13 => ?_)
 ·refine aE (aA (aO rfl rfl (bC rfl rfl (aB (aC (aP (cH (cE (.int _ _) rfl ?_))))))))
  have ha : mY m x = (m, check x) := by unfold mY; rw [if_pos h13]
  exact ⟨by rw [ha], A, n, c, p, er, em, by rw [ha]; exact hs, M2.keep [true, true, true, false]⟩
 ·refine aL (aC (aE (aE (bR [(0, 0), (1, 0), (2, 0), (3, 1), (4, 0), (5, 1), (6, 1), (7, 0), (8, 0), (9, 0), (10, 0), (11, 0)] mixed rfl (by kernel_rfl) (fun w3 hb3 hh3 => ?_)))))
  have M3 := M2.drew hb3 hh3
  refine aX rfl rfl rfl (fun _ => aH (.pointer _) rfl) (aX rfl rfl rfl (fun _ => bB rfl) (aX rfl rfl rfl (fun _ => aD 1 mI rfl) (bV rfl rfl rfl (aM 0 (.map _) uC M3 rfl rfl rfl) (aX rfl rfl rfl (fun _ => aD 0 dH rfl) (bV rfl rfl rfl (aM 3 (.int _ _) bU M3 rfl rfl rfl) ?_)))))
  refine bV rfl rfl rfl (vX (enc := (Value.int .i64)) 0 2 yL zv3 M3 rfl hs.map rfl rfl) (aX rfl rfl rfl (fun _ => aH (.tuple (List.toArray _)) rfl) (aX rfl rfl rfl (fun _ => bO (.int _ _) rfl rfl) (aX rfl rfl rfl (fun _ => bO (.bool _) rfl rfl) (lM rfl rfl rfl (aX rfl rfl rfl (fun _ => aJ (.bool _) rfl) ?_)))))
  refine bY (aC (aE (aA (wq (aH (.bool _) rfl) rfl (aB (aC ?_))))))
  refine iB _ rfl (fun h25 => ?_) (fun h25 => ?_)
  ·have hf : 0 ≤ dG x.key m := by rw [aDh] at h25; exact of_decide_eq_true h25
   refine aE (aA (bC rfl rfl (aB (aC (aP (cH (cE (.int _ _) rfl ?_)))))))
   have ha : mY m x = (m, 10) := by unfold mY; rw [if_neg h13, if_pos hf]
   exact ⟨by rw [ha], A, n, c, p, er, em, by rw [ha]; exact hs, M3.keep [true, true, true, false]⟩
  ·have hf : ¬ (0 ≤ dG x.key m) := fun h => by rw [aDh, decide_eq_true h] at h25; simp at h25
   refine aL (aC (aE (aE (aA (wq (aH (.pointer _) rfl) rfl (wq (bB rfl) rfl (wq (aD 0 iU rfl) rfl (wq (aM 0 (.slice _ _ _) fQ M3 rfl rfl rfl) rfl (wq (dB Tryz.underlying22 rfl) rfl ?_)))))))))
   refine cX rfl rfl rfl rfl (aB (aC ?_))
   refine aS rfl (fun h31 => ?_) (fun h31 => ?_)
   ·refine aE (aA (bC rfl rfl (aB (aC (aP (cH (cE (.int _ _) rfl ?_)))))))
    have ha : mY m x = (m, 12) := by unfold mY; rw [if_neg h13, if_neg hf, if_pos (by omega)]
    exact ⟨by rw [ha], A, n, c, p, er, em, by rw [ha]; exact hs, M3.keep [true, true, true, false]⟩
   ·refine aL (aC (aE (aE (aA (wq (aH (.pointer _) rfl) rfl (wq (bB rfl) rfl (wq (aD 1 mI rfl) rfl (wq (aM 0 (.map _) uC M3 rfl rfl rfl) rfl (wq (aNm _ Tryz.underlying50 rfl rfl) rfl ?_)))))))))
    refine aB (aC ?_)
    refine iB _ rfl (fun h36 => ?_) (fun h36 => ?_)
    ·have hpn : p = none := by cases p <;> simp_all
     have hnone : ∀ k, vD m k = (fun _ => none) k := fun k => by subst hpn; rcases hs.map with ⟨_, _, h⟩ | ⟨_, _, h, _⟩; exact h k; cases h
     refine aA (wq (aH (.pointer _) rfl) rfl (oE M3 rfl rfl (fun b4 w4 M4 => ?_)))
     have M5 := M4.replace (i := 2) (Nat.le_of_ble_eq_true rfl)
     refine wq (bB rfl) rfl (wq (aD 1 mI rfl) rfl (cZ 0 (.map _) uC M5 rfl rfl rfl rfl rfl rfl (fun w6 M6 => (aB (aC (aE (bR [(0, 0), (1, 0), (2, 0), (3, 1), (4, 0), (5, 1), (6, 0), (7, 0), (8, 0), (9, 1), (10, 0), (11, 2)] mixed rfl (by kernel_rfl) (fun w7 hb7 hh7 => ?_))))))))
     have M7 := M6.drew hb7 hh7
     refine aX rfl rfl rfl (fun _ => aH (.pointer _) rfl) (aX rfl rfl rfl (fun _ => bB rfl) (aX rfl rfl rfl (fun _ => aD 1 mI rfl) (bV rfl rfl rfl (aM 0 (.map _) uC M7 rfl rfl rfl) (aX rfl rfl rfl (fun _ => aD 0 dH rfl) (bV rfl rfl rfl (aM 3 (.int _ _) bU M7 rfl rfl rfl) ?_)))))
     refine aX rfl rfl rfl (fun _ => aH (.pointer _) rfl) (aX rfl rfl rfl (fun _ => bB rfl) (aX rfl rfl rfl (fun _ => aD 0 iU rfl) (bV rfl rfl rfl (aM 0 (.slice _ _ _) fQ M7 rfl rfl rfl) (aX rfl rfl rfl (fun _ => dB Tryz.underlying22 rfl) (dS [true, true, true] rfl (by kernel_rfl) ?_)))))
     refine kD (enc := (Value.int .i64)) 2 yL M7 rfl rfl ((kY.empty _ _ b4).congr hnone) rfl rfl rfl rfl (fun e8 w8 hm8 M8 => ?_)
     refine aB (aC ⟨dT, ?_⟩)
     refine bY (aC (aE (bR [(0, 0), (1, 0), (2, 0), (3, 0), (4, 1), (5, 1), (6, 2), (7, 2), (8, 0), (9, 0), (10, 2)] mixed rfl (by kernel_rfl) (fun w9 hb9 hh9 => ?_))))
     have M9 := M8.drew hb9 hh9
     refine aX rfl rfl rfl (fun _ => aH (.pointer _) rfl) (aX rfl rfl rfl (fun _ => aH (.pointer _) rfl) (aX rfl rfl rfl (fun _ => bB rfl) (aX rfl rfl rfl (fun _ => aD 0 iU rfl) (bV rfl rfl rfl (aM 0 (.slice _ _ _) fQ M9 rfl rfl rfl) (bV rfl rfl rfl (aU 3 bK M9 rfl rfl rfl) ?_)))))
     refine dS [true, false] rfl (by kernel_rfl) (cU [.agg (List.toArray _)] _ rfl dF M9 rfl rfl rfl rfl (dE rfl) (by decide) (fun b10 w10 M10 => ?_))
     refine aB (aC ⟨(eD (bL rfl (aM 0 (.slice _ _ _) fQ M10 rfl rfl rfl)) dT), ?_⟩)
     refine dS [true] rfl (by kernel_rfl) (dL 1 [aF x] dF M10 rfl rfl rfl rfl rfl hs.row rfl (by simpa using ⟨gV x, gT x⟩) (dR.ofMem 4 M10 rfl) (by omega) (fun A11 c11 e11 w11 M11 hR11 => ?_))
     refine aB (aC ⟨dT, ?_⟩)
     refine aX rfl rfl rfl (fun _ => bB rfl) (aX rfl rfl rfl (fun _ => aD 0 iU rfl) (dS [] rfl (by kernel_rfl) (cZ 0 (.slice _ _ _) fQ M11 rfl rfl rfl rfl rfl rfl (fun w12 M12 => ?_))))
     refine aB (aC ⟨dT, ?_⟩)
     refine bY (aC (aE (aA (bC rfl rfl (aB (aC (aP (cE (.int _ _) rfl ?_))))))))
     have ha : mY m x = (m ++ [x], 0) := by unfold mY; rw [if_neg h13, if_neg hf, if_neg (by omega)]
     have hall := aQy (x := x) ⟨hs.keys, hs.cap, hs.ok⟩
     rw [ha] at hall
     obtain ⟨hk', hc', ho'⟩ := hall
     have hix := aJz hs.keys (x := x) (by omega)
     rw [hlen] at hix
     exact ⟨by rw [ha], _, _, _, _, _, _, by rw [ha]; exact ⟨(by simpa using hR11), (hm8.congr hix), hk', hc', ho'⟩, M12.keep [true, true, true, false, false]⟩
    ·have hps : p.isSome = true := by cases p <;> simp_all
     refine aL (aC (aE (bR [(0, 0), (1, 0), (2, 0), (3, 1), (4, 0), (5, 1), (6, 0), (7, 0), (8, 0), (9, 1), (10, 0), (11, 2)] mixed rfl (by kernel_rfl) (fun w13 hb13 hh13 => ?_))))
     have M13 := M3.drew hb13 hh13
     refine aX rfl rfl rfl (fun _ => aH (.pointer _) rfl) (aX rfl rfl rfl (fun _ => bB rfl) (aX rfl rfl rfl (fun _ => aD 1 mI rfl) (bV rfl rfl rfl (aM 0 (.map _) uC M13 rfl rfl rfl) (aX rfl rfl rfl (fun _ => aD 0 dH rfl) (bV rfl rfl rfl (aM 3 (.int _ _) bU M13 rfl rfl rfl) ?_)))))
     refine aX rfl rfl rfl (fun _ => aH (.pointer _) rfl) (aX rfl rfl rfl (fun _ => bB rfl) (aX rfl rfl rfl (fun _ => aD 0 iU rfl) (bV rfl rfl rfl (aM 0 (.slice _ _ _) fQ M13 rfl rfl rfl) (aX rfl rfl rfl (fun _ => dB Tryz.underlying22 rfl) (dS [true, true, true] rfl (by kernel_rfl) ?_)))))
     refine kD (enc := (Value.int .i64)) 2 yL M13 rfl rfl hs.map hps rfl rfl rfl (fun e14 w14 hm14 M14 => ?_)
     refine aB (aC ⟨dT, ?_⟩)
     refine bY (aC (aE (bR [(0, 0), (1, 0), (2, 0), (3, 0), (4, 1), (5, 1), (6, 2), (7, 2), (8, 0), (9, 0), (10, 2)] mixed rfl (by kernel_rfl) (fun w15 hb15 hh15 => ?_))))
     have M15 := M14.drew hb15 hh15
     refine aX rfl rfl rfl (fun _ => aH (.pointer _) rfl) (aX rfl rfl rfl (fun _ => aH (.pointer _) rfl) (aX rfl rfl rfl (fun _ => bB rfl) (aX rfl rfl rfl (fun _ => aD 0 iU rfl) (bV rfl rfl rfl (aM 0 (.slice _ _ _) fQ M15 rfl rfl rfl) (bV rfl rfl rfl (aU 3 bK M15 rfl rfl rfl) ?_)))))
     refine dS [true, false] rfl (by kernel_rfl) (cU [.agg (List.toArray _)] _ rfl dF M15 rfl rfl rfl rfl (dE rfl) (by decide) (fun b16 w16 M16 => ?_))
     refine aB (aC ⟨(eD (bL rfl (aM 0 (.slice _ _ _) fQ M16 rfl rfl rfl)) dT), ?_⟩)
     refine dS [true] rfl (by kernel_rfl) (dL 1 [aF x] dF M16 rfl rfl rfl rfl rfl hs.row rfl (by simpa using ⟨gV x, gT x⟩) (dR.ofMem 4 M16 rfl) (by omega) (fun A17 c17 e17 w17 M17 hR17 => ?_))
     refine aB (aC ⟨dT, ?_⟩)
     refine aX rfl rfl rfl (fun _ => bB rfl) (aX rfl rfl rfl (fun _ => aD 0 iU rfl) (dS [] rfl (by kernel_rfl) (cZ 0 (.slice _ _ _) fQ M17 rfl rfl rfl rfl rfl rfl (fun w18 M18 => ?_))))
     refine aB (aC ⟨dT, ?_⟩)
     refine bY (aC (aE (aA (bC rfl rfl (aB (aC (aP (cE (.int _ _) rfl ?_))))))))
     have ha : mY m x = (m ++ [x], 0) := by unfold mY; rw [if_neg h13, if_neg hf, if_neg (by omega)]
     have hall := aQy (x := x) ⟨hs.keys, hs.cap, hs.ok⟩
     rw [ha] at hall
     obtain ⟨hk', hc', ho'⟩ := hall
     have hix := aJz hs.keys (x := x) (by omega)
     rw [hlen] at hix
     exact ⟨by rw [ha], _, _, _, _, _, _, by rw [ha]; exact ⟨(by simpa using hR17), (hm14.congr hix), hk', hc', ho'⟩, M18.keep [true, true, true, false, false]⟩
set_option maxHeartbeats 4000000 in
theorem bDg (w : World) (b : Nat) (A : Option Addr) (n c : Nat) (p : Option Nat) (er em : fF) (m : List Body) (hs : StoreIs 40 A n c p er em m) (hO : Own [(some b, bc [.slice A n c, .map p] 56), er, em] w) (key : Int) :
  Calls Tryz.prog 70 #[.pointer (some ⟨b, 0, none⟩), .int .u32 key] w (fun ex w' => ∃ v, ex = .returned v ∧ (fun v w' => (∃ x, v = .tuple #[.agg (aF x).toArray, .int .i64 (aCy m key).2] ∧ x = (aCy m key).1) ∧ Mem w (cY [(some b, bc [.slice A n c, .map p] 56), er, em]) [(some b, bc [.slice A n c, .map p] 56), er, em] w') v w') := by
 have hlen : m.length = n := by simpa using hs.row.1
 have hcap := hs.cap
 refine aI #[.cell 4 40, .tmp 5] 30 Tryz.func70 rfl Tryz.results70 Tryz.ntmps70 rfl ?_
 have M0 := hO.mem
 refine aE (aA (aV fJ M0 rfl rfl (fun b1 w1 M1 => (bC rfl rfl (aB (aC (aE (aE (aA (wq (aH (.pointer _) rfl) rfl (wq (fP false Tryz.underlying143 rfl rfl) rfl ?_)))))))))))
 refine aB (aC (cM rfl (aL (aC (aE (aA (wq (aH (.pointer _) rfl) rfl (wq (bB rfl) rfl (wq (aD 1 mI rfl) rfl ?_)))))))))
 refine wq (aM 0 (.map _) uC M1 rfl rfl rfl) rfl (aO rfl rfl (wq (vX (enc := (Value.int .i64)) 0 2 yL zv3 M1 rfl hs.map rfl rfl) rfl (wq (aH (.tuple (List.toArray _)) rfl) rfl (wq (bO (.int _ _) rfl rfl) rfl (wq (bO (.bool _) rfl rfl) rfl ?_)))))
 refine bC rfl rfl (wq (aJ (.bool _) rfl) rfl (aB (aC (aE (aE (aA (wq (aH (.bool _) rfl) rfl (wq (iD _ rfl rfl) rfl (aB (aC ?_))))))))))
 refine iB _ rfl (fun h21 => ?_) (fun h21 => ?_)
 ·have hi : vD m key = none := by cases h : vD m key <;> simp_all
  refine aE (aA (wq (cP [] _ nT rfl rfl) rfl (bG 3 _ bK M1 rfl rfl rfl rfl rfl (aT rfl) rfl (fun w2 M2 => (bC rfl rfl (aB (aC (aP (cH (rS (v2 := .int _ _) 3 bK M2 rfl rfl rfl rfl ?_))))))))))
  exact ⟨⟨⟨0, 0, 0, 0, 0, 0, 0, 0, 0, 0⟩, by rw [aGc hi]; rfl, by rw [aGc hi]⟩, M2.keep [true, true, true, false]⟩
 ·rcases mD key m with ⟨hi, _⟩ | ⟨i, bi, hbi, hbk, hi⟩
  ·simp [hi] at h21
  refine aL (aC (aE (aA (wq (aH (.pointer _) rfl) rfl (wq (bB rfl) rfl (wq (aD 0 iU rfl) rfl (wq (aM 0 (.slice _ _ _) fQ M1 rfl rfl rfl) rfl (aO rfl rfl ?_))))))))
  refine wq (bN (i) dF rfl rfl (by rw [hi]; rfl) ((hs.row.rd M1 (bJ (i := 1) rfl)).below_len (aG aF hbi)) ((hs.row.rd M1 (bJ (i := 1) rfl)).someK (aG aF hbi))) rfl (wq (dJ _ bK (hs.row.rd M1 (bJ (i := 1) rfl)) (aG aF hbi) rfl) rfl (bG 3 _ bK M1 rfl rfl rfl rfl rfl (aT rfl) rfl (fun w3 M3 => ?_)))
  refine bC rfl rfl (aB (aC (aP (rS (v2 := .int _ _) 3 bK M3 rfl rfl rfl rfl ?_))))
  exact ⟨⟨bi, by rw [xP hi hbi], by rw [xP hi hbi]⟩, M3.keep [true, true, true, false]⟩
set_option maxHeartbeats 4000000 in
theorem bDa (w : World) (b : Nat) (A : Option Addr) (n c : Nat) (p : Option Nat) (er em : fF) (m : List Body) (hs : StoreIs 40 A n c p er em m) (hO : Own [(some b, bc [.slice A n c, .map p] 56), er, em] w) (x : Body) :
  Calls Tryz.prog 88 #[.pointer (some ⟨b, 0, none⟩), (.agg (aF x).toArray)] w (fun ex w' => ∃ v, ex = .returned v ∧ (fun v w' => v = .int .i64 (uY m x).2 ∧ ∃ A' n' c' p' er' em', StoreIs 40 A' n' c' p' er' em' (uY m x).1 ∧ Mem w (cY [(some b, bc [.slice A n c, .map p] 56), er, em]) [(some b, bc [.slice A' n' c', .map p'] 56), er', em'] w') v w') := by
 have hlen : m.length = n := by simpa using hs.row.1
 have hcap := hs.cap
 refine aI #[.tmp 4] 34 Tryz.func88 rfl Tryz.results88 Tryz.ntmps88 rfl ?_
 have M0 := hO.mem
 refine aE (aA (bP (.agg (List.toArray _)) M0 rfl rfl rfl (fun b1 w1 M1 => (bC rfl rfl (aB (aC (aE (aE (aA (wq (aH (.pointer _) rfl) rfl (wq (fP false Tryz.underlying143 rfl rfl) rfl ?_)))))))))))
 refine aB (aC (cM rfl (aL (aC (aE (aE (aA (wq (aU 3 bK M1 rfl rfl rfl) rfl (bZ aXa rfl rfl (uR _ x) ?_)))))))))
 rintro v2 w2 ⟨rfl, hb2⟩
 have M2 := M1.callB hb2
 refine bC rfl rfl (aB (aC (aE (aA (aO rfl rfl (cX rfl rfl rfl rfl (aB (aC ?_))))))))
 refine aS rfl (fun h13 => ?_) (fun h13 => ?_)
 ·refine aE (aA (aO rfl rfl (bC rfl rfl (aB (aC (aP (cH (cE (.int _ _) rfl ?_))))))))
  have ha : uY m x = (m, check x) := by unfold uY; rw [if_pos h13]
  exact ⟨by rw [ha], A, n, c, p, er, em, by rw [ha]; exact hs, M2.keep [true, true, true, false]⟩
 ·refine aL (aC (aE (bR [(0, 0), (1, 0), (2, 0), (3, 1), (4, 0), (5, 1), (6, 1), (7, 0), (8, 0), (9, 0), (10, 0), (11, 0)] mixed rfl (by kernel_rfl) (fun w3 hb3 hh3 => ?_))))
  have M3 := M2.drew hb3 hh3
  refine aX rfl rfl rfl (fun _ => aH (.pointer _) rfl) (aX rfl rfl rfl (fun _ => bB rfl) (aX rfl rfl rfl (fun _ => aD 1 mI rfl) (bV rfl rfl rfl (aM 0 (.map _) uC M3 rfl rfl rfl) (aX rfl rfl rfl (fun _ => aD 0 dH rfl) (bV rfl rfl rfl (aM 3 (.int _ _) bU M3 rfl rfl rfl) ?_)))))
  refine bV rfl rfl rfl (vX (enc := (Value.int .i64)) 0 2 yL zv3 M3 rfl hs.map rfl rfl) (aX rfl rfl rfl (fun _ => aH (.tuple (List.toArray _)) rfl) (aX rfl rfl rfl (fun _ => bO (.int _ _) rfl rfl) (aX rfl rfl rfl (fun _ => bO (.bool _) rfl rfl) (lM rfl rfl rfl (aX rfl rfl rfl (fun _ => aJ (.bool _) rfl) ?_)))))
  refine bY (aC (aE (aE (aA (wq (aH (.bool _) rfl) rfl (wq (iD _ rfl rfl) rfl (aB (aC ?_))))))))
  refine iB _ rfl (fun h26 => ?_) (fun h26 => ?_)
  ·have hi : vD m x.key = none := by cases h : vD m x.key <;> simp_all
   refine aE (aA (bC rfl rfl (aB (aC (aP (cH (cE (.int _ _) rfl ?_)))))))
   have ha : uY m x = (m, 11) := by unfold uY; rw [if_neg h13, if_pos (by rw [jY, hi]; decide)]
   exact ⟨by rw [ha], A, n, c, p, er, em, by rw [ha]; exact hs, M3.keep [true, true, true, false]⟩
  ·rcases mD x.key m with ⟨hi, _⟩ | ⟨i, bi, hbi, hbk, hi⟩
   ·simp [hi] at h26
   refine aL (aC (aE (bR [(0, 0), (1, 0), (2, 0), (3, 1), (4, 0), (5, 1), (6, 1), (7, 2)] mixed rfl (by kernel_rfl) (fun w4 hb4 hh4 => ?_))))
   have M4 := M3.drew hb4 hh4
   refine aX rfl rfl rfl (fun _ => aH (.pointer _) rfl) (aX rfl rfl rfl (fun _ => bB rfl) (aX rfl rfl rfl (fun _ => aD 0 iU rfl) (bV rfl rfl rfl (aM 0 (.slice _ _ _) fQ M4 rfl rfl rfl) (eF rfl rfl rfl (bV rfl rfl rfl (aU 3 bK M4 rfl rfl rfl) ?_)))))
   refine bV rfl rfl rfl (bN (i) dF rfl rfl (by rw [hi]; rfl) ((hs.row.rd M4 (bJ (i := 1) rfl)).below_len (aG aF hbi)) ((hs.row.rd M4 (bJ (i := 1) rfl)).someK (aG aF hbi))) (dS [true, true, true] rfl (by kernel_rfl) (aHe 1 _ bK M4 rfl hs.row (aG aF hbi) rfl rfl rfl rfl (aT rfl) (fun e5 w5 hR5 M5 => ?_)))
   have hQ5 := hR5.mapSet (f := aF) (x := x) rfl
   refine aB (aC ⟨dT, ?_⟩)
   refine bY (aC (aE (aA (bC rfl rfl (aB (aC (aP (cE (.int _ _) rfl ?_))))))))
   have ha : uY m x = (m.set i x, 0) := by unfold uY; rw [if_neg h13, jY, hi]; simp only []; rw [if_neg (by omega), Int.toNat_natCast]
   exact ⟨by rw [ha], _, _, _, _, _, _, by rw [ha]; exact hs.put hbi hbk.symm (by omega) hQ5, M5.keep [true, true, true, false]⟩
set_option maxHeartbeats 4000000 in
theorem aNs (w : World) (b : Nat) (A : Option Addr) (n c : Nat) (p : Option Nat) (er em : fF) (m : List Body) (hs : StoreIs 40 A n c p er em m) (hO : Own [(some b, bc [.slice A n c, .map p] 56), er, em] w) (key : Int) :
  Calls Tryz.prog 89 #[.pointer (some ⟨b, 0, none⟩), .int .u32 key] w (fun ex w' => ∃ v, ex = .returned v ∧ (fun v w' => v = .int .i64 (kU m key).2 ∧ ∃ A' n' c' p' er' em', StoreIs 40 A' n' c' p' er' em' (kU m key).1 ∧ Mem w (cY [(some b, bc [.slice A n c, .map p] 56), er, em]) [(some b, bc [.slice A' n' c', .map p'] 56), er', em'] w') v w') := by
 have hlen : m.length = n := by simpa using hs.row.1
 have hcap := hs.cap
 refine aI #[.tmp 4] 67 Tryz.func89 rfl Tryz.results89 Tryz.ntmps89 rfl ?_
 have M0 := hO.mem
 refine aE (aA (bC rfl rfl (aB (aC (aE (aE (aA (wq (aH (.pointer _) rfl) rfl (wq (fP false Tryz.underlying143 rfl rfl) rfl (aB (aC ?_)))))))))))
 refine cM rfl (aL (aC (aE (aA (wq (aH (.pointer _) rfl) rfl (wq (bB rfl) rfl (wq (aD 1 mI rfl) rfl (wq (aM 0 (.map _) uC M0 rfl rfl rfl) rfl ?_))))))))
 refine aO rfl rfl (wq (vX (enc := (Value.int .i64)) 0 2 yL zv3 M0 rfl hs.map rfl rfl) rfl (wq (aH (.tuple (List.toArray _)) rfl) rfl (wq (bO (.int _ _) rfl rfl) rfl (wq (bO (.bool _) rfl rfl) rfl (bC rfl rfl ?_)))))
 refine wq (aJ (.bool _) rfl) rfl (aB (aC (aE (aE (aA (wq (aH (.bool _) rfl) rfl (wq (iD _ rfl rfl) rfl (aB (aC ?_)))))))))
 refine iB _ rfl (fun h20 => ?_) (fun h20 => ?_)
 ·have hi : vD m key = none := by cases h : vD m key <;> simp_all
  refine aE (aA (bC rfl rfl (aB (aC (aP (cH (cE (.int _ _) rfl ?_)))))))
  have ha : kU m key = (m, 11) := by unfold kU; rw [if_pos (by rw [jY, hi]; decide)]
  exact ⟨by rw [ha], A, n, c, p, er, em, by rw [ha]; exact hs, M0.keep [true, true, true]⟩
 ·rcases mD key m with ⟨hi, _⟩ | ⟨i, bi, hbi, hbk, hi⟩
  ·simp [hi] at h20
  have hilt : i < m.length := (List.getElem?_eq_some_iff.1 hbi).1
  obtain ⟨bl, hbl⟩ := cT (xs := m) (k := n - 1) rfl (by omega)
  have hps : p.isSome = true := hs.map.isSome hi
  refine aL (aC (aE (aA (wq (aH (.pointer _) rfl) rfl (wq (bB rfl) rfl (wq (aD 0 iU rfl) rfl (wq (aM 0 (.slice _ _ _) fQ M0 rfl rfl rfl) rfl (wq (dB Tryz.underlying22 rfl) rfl ?_))))))))
  refine wq (fX rfl rfl (by omega) (by omega)) rfl (bC rfl rfl (aB (aC (aE (bR [(0, 0), (1, 0), (2, 0), (3, 1), (4, 0), (5, 0), (6, 0), (7, 0), (8, 1), (9, 0), (10, 1), (11, 1), (12, 1), (13, 2)] mixed rfl (by kernel_rfl) (fun w1 hb1 hh1 => ?_))))))
  have M1 := M0.drew hb1 hh1
  refine aX rfl rfl rfl (fun _ => aH (.pointer _) rfl) (aX rfl rfl rfl (fun _ => bB rfl) (aX rfl rfl rfl (fun _ => aD 0 iU rfl) (bV rfl rfl rfl (aM 0 (.slice _ _ _) fQ M1 rfl rfl rfl) (eF rfl rfl rfl (aX rfl rfl rfl (fun _ => aH (.pointer _) rfl) ?_)))))
  refine aX rfl rfl rfl (fun _ => bB rfl) (aX rfl rfl rfl (fun _ => aD 0 iU rfl) (bV rfl rfl rfl (aM 0 (.slice _ _ _) fQ M1 rfl rfl rfl) (eF rfl rfl rfl (bV rfl rfl rfl (bN (n - 1) dF rfl rfl (by omega) ((hs.row.rd M1 (bJ (i := 1) rfl)).below_len (aG aF hbl)) ((hs.row.rd M1 (bJ (i := 1) rfl)).someK (aG aF hbl))) ?_))))
  refine bV rfl rfl rfl (dJ _ bK (hs.row.rd M1 (bJ (i := 1) rfl)) (aG aF hbl) rfl) (bV rfl rfl rfl (bN (i) dF rfl rfl (by rw [hi]; rfl) ((hs.row.rd M1 (bJ (i := 1) rfl)).below_len (aG aF hbi)) ((hs.row.rd M1 (bJ (i := 1) rfl)).someK (aG aF hbi))) (dS [true, true, true, true, true] rfl (by kernel_rfl) ?_))
  refine aHe 1 _ bK M1 rfl hs.row (aG aF hbi) rfl rfl rfl rfl (aT rfl) (fun e2 w2 hR2 M2 => ?_)
  have hQ2 := hR2.mapSet (f := aF) (x := bl) rfl
  refine aB (aC ⟨dT, ?_⟩)
  refine bY (aC (aE (bR [(0, 0), (1, 0), (2, 0), (3, 1), (4, 0), (5, 0), (6, 0), (7, 1), (8, 0), (9, 1), (10, 1), (11, 1), (12, 0), (13, 2)] mixed rfl (by kernel_rfl) (fun w3 hb3 hh3 => ?_))))
  have M3 := M2.drew hb3 hh3
  refine aX rfl rfl rfl (fun _ => aH (.pointer _) rfl) (aX rfl rfl rfl (fun _ => bB rfl) (aX rfl rfl rfl (fun _ => aD 1 mI rfl) (bV rfl rfl rfl (aM 0 (.map _) uC M3 rfl rfl rfl) (aX rfl rfl rfl (fun _ => aH (.pointer _) rfl) (aX rfl rfl rfl (fun _ => bB rfl) ?_)))))
  refine aX rfl rfl rfl (fun _ => aD 0 iU rfl) (bV rfl rfl rfl (aM 0 (.slice _ _ _) fQ M3 rfl rfl rfl) (eF rfl rfl rfl ?_))
  refine bV rfl rfl rfl (bN (i) dF rfl rfl (by rw [hi]; rfl) ((hQ2.rd M3 (bJ (i := 1) rfl)).below_len (aG aF (by rw [List.getElem?_set_self hilt] : (m.set i bl)[i]? = some bl))) ((hQ2.rd M3 (bJ (i := 1) rfl)).someK (aG aF (by rw [List.getElem?_set_self hilt] : (m.set i bl)[i]? = some bl)))) ?_
  refine bV rfl rfl rfl (bE 0 dH (hQ2.rd M3 (bJ (i := 1) rfl)) (Nat.lt_of_le_of_lt (Nat.zero_le _) ((hQ2.rd M3 (bJ (i := 1) rfl)).below_len (aG aF (by rw [List.getElem?_set_self hilt] : (m.set i bl)[i]? = some bl)))) rfl) ?_
  refine bV rfl rfl rfl (dV (o := 0) (.int _ _) bU (hQ2.rd M3 (bJ (i := 1) rfl)) (aG aF (by rw [List.getElem?_set_self hilt] : (m.set i bl)[i]? = some bl)) rfl rfl) ?_
  refine eF rfl rfl rfl (dS [true, true, true, true, true] rfl (by kernel_rfl) (kD (enc := (Value.int .i64)) 2 yL M3 rfl rfl hs.map hps rfl rfl rfl (fun e4 w4 hm4 M4 => ?_)))
  refine aB (aC ⟨dT, ?_⟩)
  refine bY (aC (aE (aA (wq (aH (.pointer _) rfl) rfl (wq (aH (.pointer _) rfl) rfl (wq (bB rfl) rfl (wq (aD 0 iU rfl) rfl ?_)))))))
  refine wq (aM 0 (.slice _ _ _) fQ M4 rfl rfl rfl) rfl (aO rfl rfl (wq (eV (0) (((n : Int) - 1)) dF rfl rfl ⟨_, rfl⟩ (by decide) (by omega) (by have := hs.row.slice; omega)) rfl (wq (bB rfl) rfl (wq (aD 0 iU rfl) rfl (cZ 0 (.slice _ _ _) fQ M4 rfl rfl rfl rfl rfl rfl (fun w5 M5 => ?_))))))
  refine aB (aC (aE (aA (wq (aH (.pointer _) rfl) rfl (wq (bB rfl) rfl (wq (aD 1 mI rfl) rfl (wq (aM 0 (.map _) uC M5 rfl rfl rfl) rfl (aO rfl rfl ?_))))))))
  refine aUh (enc := (Value.int .i64)) 2 yL M5 rfl rfl hm4 hps rfl rfl (fun e6 w6 hm6 M6 => (aB (aC (aE (aA (bC rfl rfl (aB (aC (aP (cE (.int _ _) rfl ?_))))))))))
  have ha : kU m key = (xO m i, 0) := by unfold kU; rw [jY, hi]; simp only []; rw [if_neg (by omega), Int.toNat_natCast]
  have hn1 : ((n : Int) - 1).toNat = n - 1 := by omega
  exact ⟨by rw [ha], _, _, _, _, _, _, by rw [ha]; exact hs.cut hbi hbk (by rw [hlen]; exact hbl) (by rw [hi]; rfl) (by omega) hQ2 hm6, M6.keep [true, true, true]⟩
set_option maxHeartbeats 4000000 in
theorem aOp (w : World) (b : Nat) (A : Option Addr) (n c : Nat) (p : Option Nat) (er em : fF) (m : List Body) (hs : StoreIs 40 A n c p er em m) (hO : Own [(some b, bc [.slice A n c, .map p] 56), er, em] w) :
  Calls Tryz.prog 64 #[.pointer (some ⟨b, 0, none⟩)] w (fun ex w' => ∃ v, ex = .returned v ∧ (fun v w' => ∃ A' n' c' e', v = .slice A' n' c' ∧ bH 40 10 A' n' c' ((zE m).map aF) e' ∧ Mem w (cY [(some b, bc [.slice A n c, .map p] 56), er, em]) [(some b, bc [.slice A n c, .map p] 56), er, em, e'] w') v w') := by
 have hlen : m.length = n := by simpa using hs.row.1
 have hcap := hs.cap
 refine aI #[.tmp 2] 14 Tryz.func64 rfl Tryz.results64 Tryz.ntmps64 rfl ?_
 have M0 := hO.mem
 refine aE (aA (eN rfl rfl (aB (aC (aE (aE (aA (wq (aH (.pointer _) rfl) rfl (wq (fP false Tryz.underlying143 rfl rfl) rfl (aB (aC ?_)))))))))))
 refine cM rfl (aL (aC (aE (aA (wq (aH (.pointer _) rfl) rfl (wq (bB rfl) rfl (wq (aD 0 iU rfl) rfl (wq (aM 0 (.slice _ _ _) fQ M0 rfl rfl rfl) rfl ?_))))))))
 refine bZ bMf rfl rfl (aEq _ _ _ _ _ (hs.row.rd M0 (bJ (i := 1) rfl)) (aNy m) (by omega)) ?_
 rintro v1 w1 ⟨A1, n1, c1, e1, rfl, hR1, hM1, _⟩
 have M1 : Mem _ _ [_, _, _, _] _ := M0.call0 hM1
 have hn1 : n1 = m.length := by simpa using hR1.1.symm
 refine eN rfl rfl (aB (aC (aE (aA (dN rfl rfl (bZ bKz rfl rfl (zQ 96 bKt zR _ _ _ _ m _ hR1 (M1.ownAt (i := 3) rfl) (by omega)) ?_))))))
 rintro v2 w2 ⟨rfl, ys2, e2, hp2, hu2, hR2, hM2⟩
 have M2 : Mem _ _ [_, _, _, _] _ := M1.seg 3 1 hM2
 have hys : ys2 = zE m := aUy hu2 (aDe m) (hp2.trans (nZ m).symm) (hs.keys.perm hp2)
 rw [hys] at hR2
 refine aB (aC (aE (aA (dN rfl rfl (eN rfl rfl (aB (aC (aP (cE (.slice _ _ _) rfl ?_)))))))))
 exact ⟨_, _, _, _, rfl, hR2, M2⟩
theorem kA {x : Int} (h : 0 ≤ x ∧ x ≤ 4294967295) : IntKind.wrap .i32 x = kF x := by
 unfold kF
 simp [IntKind.wrap, IntKind.bits, IntKind.signed]
 split <;> split <;> omega
theorem pT {n k : Int} (h : 0 ≤ n ∧ n ≤ 4294967296) (hk : 0 < k) : IntKind.i64.wrap (n.tdiv k) = n / k := by
 rw [Int.tdiv_eq_ediv_of_nonneg h.1]
 have h1 := Int.ediv_nonneg h.1 (Int.le_of_lt hk)
 have h2 : n / k ≤ n := Int.ediv_le_self k h.1
 exact fC _ (by omega) (by omega)
set_option maxHeartbeats 4000000 in
theorem aFx (w : World) (r : Row) (xs : List Int) (hr : bH 5 1 r.A r.n r.c ((xs).map bQ) r.e) (n : Int) (hn : 0 ≤ n ∧ n ≤ 4294967295) (hl : r.n ≤ 1048576) (hO : Own [r.e] w) :
  Calls Tryz.prog 100 #[.slice r.A r.n r.c, .int .u32 n] w (fun ex w' => ∃ v, ex = .returned v ∧ (fun v w' => ∃ q : Row, v = .slice q.A q.n q.c ∧ q.n = r.n + 4 ∧ bH 5 1 q.A q.n q.c ((xs ++ fO n).map bQ) q.e ∧ Mem w (cY [r.e]) [q.e] w') v w') := by
 refine aI #[.tmp 4] 19 Tryz.func100 rfl Tryz.results100 Tryz.ntmps100 rfl ?_
 have M0 := hO.mem
 refine aE (aA (eN rfl rfl (aB (aC (aE (aA (dN rfl rfl (aO rfl rfl (wq (jH rfl rfl (by decide)) rfl ?_)))))))))
 refine aK 7 (.int .u32 (n / 16777216)) (iE (bDm n)) (wq (dA tP Tryz.underlying5 rfl) rfl (aK 8 (.int .u8 (n / 16777216 % 256)) (iE (wr8 _)) (aO rfl rfl (wq (jH rfl rfl (by decide)) rfl (aK 10 (.int .u32 (n / 65536)) (iE (bBx n)) ?_)))))
 refine wq (dA tP Tryz.underlying5 rfl) rfl (aK 11 (.int .u8 (n / 65536 % 256)) (iE (wr8 _)) (aO rfl rfl (wq (jH rfl rfl (by decide)) rfl (aK 13 (.int .u32 (n / 256)) (iE (bJq n)) (wq (dA tP Tryz.underlying5 rfl) rfl ?_)))))
 refine aK 14 (.int .u8 (n / 256 % 256)) (iE (wr8 _)) (aO rfl rfl (wq (dA tP Tryz.underlying5 rfl) rfl (aK 16 (.int .u8 (n % 256)) (iE (wr8 _)) (cU [.int _ _, .int _ _, .int _ _, .int _ _] ((fO n).map bQ) rfl gE M0 rfl rfl rfl rfl (dE rfl) (by decide) (fun b1 w1 M1 => (dL 0 ((fO n).map bQ) gE M1 rfl rfl rfl rfl rfl hr rfl (by simp [fO, bQ, Go.Bil.one]) (dR.ofMem 1 M1 rfl) (by omega) (fun A2 c2 e2 w2 M2 hR2 => ?_)))))))
 refine eN rfl rfl (aB (aC (aP (cE (.slice _ _ _) rfl ?_))))
 exact ⟨⟨A2, _, c2, e2⟩, rfl, rfl, by rw [List.map_append]; exact hR2, M2.keep [true, false]⟩
set_option maxHeartbeats 4000000 in
theorem iN (w : World) (x : Int) :
  Calls Tryz.prog 130 #[.int .i32 x] w (fun ex w' => ∃ v, ex = .returned v ∧ (fun v w' => v = .int .u32 (x % 4294967296) ∧ Below w.heap.size w w') v w') := by
 refine aI #[.tmp 2] 5 Tryz.func130 rfl Tryz.results130 Tryz.ntmps130 rfl ?_
 have M0 := Mem.refl w
 refine aE (aA (bC rfl rfl (aB (aC (aE (aA (aO rfl rfl (wq (dA dO Tryz.underlying36 rfl) rfl (aK 4 (.int .u32 (x % 4294967296)) (iE (aWn _)) ?_)))))))))
 refine bC rfl rfl (aB (aC (aP (cE (.int _ _) rfl ?_))))
 exact ⟨rfl, M0.below⟩
set_option maxHeartbeats 4000000 in
theorem aNh (w : World) (b : Body) :
  Calls Tryz.prog 101 #[(.agg (aF b).toArray)] w (fun ex w' => ∃ v, ex = .returned v ∧ (fun v w' => v = .agg ((zB b).map (Value.int .u32)).toArray ∧ Below w.heap.size w w') v w') := by
 refine aI #[.cell 2 150] 49 Tryz.func101 rfl Tryz.results101 Tryz.ntmps101 rfl ?_
 have M0 := Mem.refl w
 refine aE (aA (bP (.agg (List.toArray _)) M0 rfl rfl rfl (fun b1 w1 M1 => (aV aHi M1 rfl rfl (fun b2 w2 M2 => (aB (aC (aE (aA (wq (aJ (.func _ _ _) rfl) rfl (aB (aC (aE ?_)))))))))))))
 refine bR [(0, 0), (1, 1), (2, 0), (3, 0), (4, 1), (6, 0), (7, 0), (8, 0), (9, 1), (11, 0), (12, 0), (13, 0), (14, 1), (16, 0), (17, 0), (18, 1), (20, 0), (21, 0), (22, 1), (24, 0), (25, 0), (26, 0), (27, 1), (29, 0), (30, 0), (31, 0), (32, 1), (34, 0), (35, 0), (36, 0), (37, 1), (39, 0), (40, 0), (41, 0), (42, 1), (5, 2), (10, 2), (15, 2), (19, 2), (23, 2), (28, 2), (33, 2), (38, 2), (43, 2), (44, 0), (45, 2)] mixed rfl (by kernel_rfl) (fun w3 hb3 hh3 => ?_)
 have M3 := M2.drew hb3 hh3
 refine aX rfl rfl rfl (fun _ => aD 0 dH rfl) (bV rfl rfl rfl (aM 0 (.int _ _) bU M3 rfl rfl rfl) (aX rfl rfl rfl (fun _ => aH (.func _ _ _) rfl) (aX rfl rfl rfl (fun _ => aD 1 kT rfl) (bV rfl rfl rfl (aM 0 (.int _ _) aR M3 rfl rfl rfl) (aX rfl rfl rfl (fun _ => aH (.func _ _ _) rfl) ?_)))))
 refine aX rfl rfl rfl (fun _ => aD 2 iH rfl) (aX rfl rfl rfl (fun _ => aD 0 cQ rfl) (bV rfl rfl rfl (aM 0 (.int _ _) aR M3 rfl rfl rfl) (aX rfl rfl rfl (fun _ => aH (.func _ _ _) rfl) (aX rfl rfl rfl (fun _ => aD 2 iH rfl) (aX rfl rfl rfl (fun _ => aD 1 cK rfl) ?_)))))
 refine bV rfl rfl rfl (aM 0 (.int _ _) aR M3 rfl rfl rfl) (aX rfl rfl rfl (fun _ => aH (.func _ _ _) rfl) (aX rfl rfl rfl (fun _ => aD 4 eC rfl) (bV rfl rfl rfl (aM 0 (.int _ _) aR M3 rfl rfl rfl) (aX rfl rfl rfl (fun _ => aH (.func _ _ _) rfl) (aX rfl rfl rfl (fun _ => aD 5 mK rfl) ?_)))))
 refine bV rfl rfl rfl (aM 0 (.int _ _) aR M3 rfl rfl rfl) (aX rfl rfl rfl (fun _ => aH (.func _ _ _) rfl) (aX rfl rfl rfl (fun _ => aD 6 fD rfl) (aX rfl rfl rfl (fun _ => aD 0 cQ rfl) (bV rfl rfl rfl (aM 0 (.int _ _) aR M3 rfl rfl rfl) (aX rfl rfl rfl (fun _ => aH (.func _ _ _) rfl) ?_)))))
 refine aX rfl rfl rfl (fun _ => aD 6 fD rfl) (aX rfl rfl rfl (fun _ => aD 1 cK rfl) (bV rfl rfl rfl (aM 0 (.int _ _) aR M3 rfl rfl rfl) (aX rfl rfl rfl (fun _ => aH (.func _ _ _) rfl) (aX rfl rfl rfl (fun _ => aD 8 dP rfl) (aX rfl rfl rfl (fun _ => aD 0 cQ rfl) ?_)))))
 refine bV rfl rfl rfl (aM 0 (.int _ _) aR M3 rfl rfl rfl) (aX rfl rfl rfl (fun _ => aH (.func _ _ _) rfl) (aX rfl rfl rfl (fun _ => aD 8 dP rfl) (aX rfl rfl rfl (fun _ => aD 1 cK rfl) (bV rfl rfl rfl (aM 0 (.int _ _) aR M3 rfl rfl rfl) (dS [false, false, false, false, false, false, false, false, true, false] rfl (by kernel_rfl) ?_)))))
 refine bZ qX rfl rfl (iN _ b.radius) ?_
 rintro v4 w4 ⟨rfl, hb4⟩
 have M4 := M3.callB hb4
 refine aB (aC ⟨(eD (bL rfl (aM 0 (.int _ _) aR M4 rfl rfl rfl)) (eD (bL rfl (aM 0 (.int _ _) aR M4 rfl rfl rfl)) (eD (bL rfl (aM 0 (.int _ _) aR M4 rfl rfl rfl)) (eD (bL rfl (aM 0 (.int _ _) aR M4 rfl rfl rfl)) (eD (bL rfl (aM 0 (.int _ _) aR M4 rfl rfl rfl)) (eD (bL rfl (aM 0 (.int _ _) aR M4 rfl rfl rfl)) (eD (bL rfl (aM 0 (.int _ _) aR M4 rfl rfl rfl)) (eD (bL rfl (aM 0 (.int _ _) aR M4 rfl rfl rfl)) (eD (bL rfl (aM 0 (.int _ _) bU M4 rfl rfl rfl)) dT))))))))), ?_⟩)
 refine dS [false, false, false, false, false, false, false, true, false] rfl (by kernel_rfl) (bZ qX rfl rfl (iN _ b.ax) ?_)
 rintro v5 w5 ⟨rfl, hb5⟩
 have M5 := M4.callB hb5
 refine aB (aC ⟨(eD (bL rfl (aM 0 (.int _ _) aR M5 rfl rfl rfl)) (eD (bL rfl (aM 0 (.int _ _) aR M5 rfl rfl rfl)) (eD (bL rfl (aM 0 (.int _ _) aR M5 rfl rfl rfl)) (eD (bL rfl (aM 0 (.int _ _) aR M5 rfl rfl rfl)) (eD (bL rfl (aM 0 (.int _ _) aR M5 rfl rfl rfl)) (eD (bL rfl (aM 0 (.int _ _) aR M5 rfl rfl rfl)) (eD (bL rfl (aM 0 (.int _ _) aR M5 rfl rfl rfl)) (eD (bL rfl (aM 0 (.int _ _) bU M5 rfl rfl rfl)) dT)))))))), ?_⟩)
 refine dS [false, false, false, false, false, false, true, false] rfl (by kernel_rfl) (bZ qX rfl rfl (iN _ b.ay) ?_)
 rintro v6 w6 ⟨rfl, hb6⟩
 have M6 := M5.callB hb6
 refine aB (aC ⟨(eD (bL rfl (aM 0 (.int _ _) aR M6 rfl rfl rfl)) (eD (bL rfl (aM 0 (.int _ _) aR M6 rfl rfl rfl)) (eD (bL rfl (aM 0 (.int _ _) aR M6 rfl rfl rfl)) (eD (bL rfl (aM 0 (.int _ _) aR M6 rfl rfl rfl)) (eD (bL rfl (aM 0 (.int _ _) aR M6 rfl rfl rfl)) (eD (bL rfl (aM 0 (.int _ _) aR M6 rfl rfl rfl)) (eD (bL rfl (aM 0 (.int _ _) bU M6 rfl rfl rfl)) dT))))))), ?_⟩)
 refine dS [false, false, false, false, false, true, false] rfl (by kernel_rfl) (bZ qX rfl rfl (iN _ b.mass) ?_)
 rintro v7 w7 ⟨rfl, hb7⟩
 have M7 := M6.callB hb7
 refine aB (aC ⟨(eD (bL rfl (aM 0 (.int _ _) aR M7 rfl rfl rfl)) (eD (bL rfl (aM 0 (.int _ _) aR M7 rfl rfl rfl)) (eD (bL rfl (aM 0 (.int _ _) aR M7 rfl rfl rfl)) (eD (bL rfl (aM 0 (.int _ _) aR M7 rfl rfl rfl)) (eD (bL rfl (aM 0 (.int _ _) aR M7 rfl rfl rfl)) (eD (bL rfl (aM 0 (.int _ _) bU M7 rfl rfl rfl)) dT)))))), ?_⟩)
 refine dS [false, false, false, false, true, false] rfl (by kernel_rfl) (bZ qX rfl rfl (iN _ b.bounce) ?_)
 rintro v8 w8 ⟨rfl, hb8⟩
 have M8 := M7.callB hb8
 refine aB (aC ⟨(eD (bL rfl (aM 0 (.int _ _) aR M8 rfl rfl rfl)) (eD (bL rfl (aM 0 (.int _ _) aR M8 rfl rfl rfl)) (eD (bL rfl (aM 0 (.int _ _) aR M8 rfl rfl rfl)) (eD (bL rfl (aM 0 (.int _ _) aR M8 rfl rfl rfl)) (eD (bL rfl (aM 0 (.int _ _) bU M8 rfl rfl rfl)) dT))))), ?_⟩)
 refine dS [false, false, false, true, false] rfl (by kernel_rfl) (bZ qX rfl rfl (iN _ b.px) ?_)
 rintro v9 w9 ⟨rfl, hb9⟩
 have M9 := M8.callB hb9
 refine aB (aC ⟨(eD (bL rfl (aM 0 (.int _ _) aR M9 rfl rfl rfl)) (eD (bL rfl (aM 0 (.int _ _) aR M9 rfl rfl rfl)) (eD (bL rfl (aM 0 (.int _ _) aR M9 rfl rfl rfl)) (eD (bL rfl (aM 0 (.int _ _) bU M9 rfl rfl rfl)) dT)))), ?_⟩)
 refine dS [false, false, true, false] rfl (by kernel_rfl) (bZ qX rfl rfl (iN _ b.py) ?_)
 rintro v10 w10 ⟨rfl, hb10⟩
 have M10 := M9.callB hb10
 refine aB (aC ⟨(eD (bL rfl (aM 0 (.int _ _) aR M10 rfl rfl rfl)) (eD (bL rfl (aM 0 (.int _ _) aR M10 rfl rfl rfl)) (eD (bL rfl (aM 0 (.int _ _) bU M10 rfl rfl rfl)) dT))), ?_⟩)
 refine dS [false, true, false] rfl (by kernel_rfl) (bZ qX rfl rfl (iN _ b.vx) ?_)
 rintro v11 w11 ⟨rfl, hb11⟩
 have M11 := M10.callB hb11
 refine aB (aC ⟨(eD (bL rfl (aM 0 (.int _ _) aR M11 rfl rfl rfl)) (eD (bL rfl (aM 0 (.int _ _) bU M11 rfl rfl rfl)) dT)), ?_⟩)
 refine dS [true, false] rfl (by kernel_rfl) (bZ qX rfl rfl (iN _ b.vy) ?_)
 rintro v12 w12 ⟨rfl, hb12⟩
 have M12 := M11.callB hb12
 refine aB (aC ⟨(eD (bL rfl (aM 0 (.int _ _) bU M12 rfl rfl rfl)) dT), ?_⟩)
 refine aX rfl rfl rfl (fun _ => rH [.int _ _, .int _ _, .int _ _, .int _ _, .int _ _, .int _ _, .int _ _, .int _ _, .int _ _, .int _ _] iC aHi rfl rfl (dE rfl)) (dS [true] rfl (by kernel_rfl) (bG 1 _ aOe M12 rfl rfl rfl rfl rfl (aT rfl) rfl (fun w13 M13 => ?_)))
 refine aB (aC ⟨dT, ?_⟩)
 refine bY (aC (aP (eX 1 aOe M13 rfl rfl rfl ?_)))
 exact ⟨rfl, M13.below⟩
set_option maxHeartbeats 4000000 in
theorem iX (w : World) (A : Option Addr) (n c : Nat) (ls : List Int) (R : Rd w 1 A n (ls.map bQ)) (hB : lW ls) (h4 : 4 ≤ n) :
  Calls Tryz.prog 102 #[.slice A n c] w (fun ex w' => ∃ v, ex = .returned v ∧ (fun v w' => v = .int .u32 (eH ls 0) ∧ Below w.heap.size w w') v w') := by
 have hlen : ls.length = n := by simpa using R.len
 have hbd := R.bound
 obtain ⟨x0, hx0⟩ := cT (xs := ls) (k := 0) hlen (by omega)
 obtain ⟨x1, hx1⟩ := cT (xs := ls) (k := 1) hlen (by omega)
 obtain ⟨x2, hx2⟩ := cT (xs := ls) (k := 2) hlen (by omega)
 obtain ⟨x3, hx3⟩ := cT (xs := ls) (k := 3) hlen (by omega)
 obtain ⟨g0, g1⟩ := hB x0 (List.mem_of_getElem? hx0)
 obtain ⟨g2, g3⟩ := hB x1 (List.mem_of_getElem? hx1)
 obtain ⟨g4, g5⟩ := hB x2 (List.mem_of_getElem? hx2)
 obtain ⟨g6, g7⟩ := hB x3 (List.mem_of_getElem? hx3)
 have hnum : eH ls 0 = ((x0 * 256 + x1) * 256 + x2) * 256 + x3 := by unfold eH; simp only [List.getD_eq_getElem?_getD, Nat.zero_add, hx0, hx1, hx2, hx3, Option.getD_some]
 obtain ⟨b0, rfl⟩ := Int.eq_ofNat_of_zero_le g0
 obtain ⟨b1, rfl⟩ := Int.eq_ofNat_of_zero_le g2
 obtain ⟨b2, rfl⟩ := Int.eq_ofNat_of_zero_le g4
 obtain ⟨b3, rfl⟩ := Int.eq_ofNat_of_zero_le g6
 refine aI #[.tmp 2] 25 Tryz.func102 rfl Tryz.results102 Tryz.ntmps102 rfl ?_
 have M0 := Mem.refl w
 refine aE (aA (bC rfl rfl (aB (aC (aE (bR [(0, 0), (1, 1), (2, 1), (3, 0), (4, 0), (5, 0), (6, 1), (7, 1), (8, 0), (9, 0), (10, 0), (11, 0), (12, 1), (13, 1), (14, 0), (15, 0), (16, 0), (17, 0), (18, 1), (19, 1), (20, 0), (21, 0), (22, 0)] mixed rfl (by kernel_rfl) (fun w1 hb1 hh1 => ?_)))))))
 have M1 := M0.drew hb1 hh1
 refine kQ rfl rfl rfl (bV rfl rfl rfl (bN (0) gE rfl rfl rfl ((R.mem M1).below_len (aG bQ hx0)) ((R.mem M1).someK (aG bQ hx0))) (bV rfl rfl rfl (iS (.int _ _) aEv (R.mem M1) (aG bQ hx0) rfl) (aX rfl rfl rfl (fun _ => aZ us5 Tryz.underlying36 rfl (aCv _ (by omega) (by omega))) ?_)))
 refine aX rfl rfl rfl (fun _ => vH rfl rfl (by decide)) (dY 7 (.int .u32 ((b0 * 16777216 : Nat) : Int)) (iE (bBt b0 (by omega))) (kQ rfl rfl rfl (bV rfl rfl rfl (bN (1) gE rfl rfl rfl ((R.mem M1).below_len (aG bQ hx1)) ((R.mem M1).someK (aG bQ hx1))) (bV rfl rfl rfl (iS (.int _ _) aEv (R.mem M1) (aG bQ hx1) rfl) ?_))))
 refine aX rfl rfl rfl (fun _ => aZ us5 Tryz.underlying36 rfl (aCv _ (by omega) (by omega))) (aX rfl rfl rfl (fun _ => vH rfl rfl (by decide)) (dY 12 (.int .u32 ((b1 * 65536 : Nat) : Int)) (iE (bDn b1 (by omega))) (aX rfl rfl rfl (fun _ => cA (.int _ _) rfl rfl rfl) (dY 13 (.int .u32 ((b0 * 16777216 + b1 * 65536 : Nat) : Int)) (iE (bHe b0 (b0 * 16777216) (b1 * 65536) 24 rfl (show b1 * 65536 < 16777216 by omega) (by omega))) ?_))))
 refine kQ rfl rfl rfl (bV rfl rfl rfl (bN (2) gE rfl rfl rfl ((R.mem M1).below_len (aG bQ hx2)) ((R.mem M1).someK (aG bQ hx2))) (bV rfl rfl rfl (iS (.int _ _) aEv (R.mem M1) (aG bQ hx2) rfl) (aX rfl rfl rfl (fun _ => aZ us5 Tryz.underlying36 rfl (aCv _ (by omega) (by omega))) ?_)))
 refine aX rfl rfl rfl (fun _ => vH rfl rfl (by decide)) (dY 18 (.int .u32 ((b2 * 256 : Nat) : Int)) (iE (bGh b2 (by omega))) (aX rfl rfl rfl (fun _ => cA (.int _ _) rfl rfl rfl) (dY 19 (.int .u32 ((b0 * 16777216 + b1 * 65536 + b2 * 256 : Nat) : Int)) (iE (bHe (b0 * 256 + b1) (b0 * 16777216 + b1 * 65536) (b2 * 256) 16 (show (b0 * 256 + b1) * 65536 = _ by omega) (show b2 * 256 < 65536 by omega) (by omega))) ?_)))
 refine kQ rfl rfl rfl (bV rfl rfl rfl (bN (3) gE rfl rfl rfl ((R.mem M1).below_len (aG bQ hx3)) ((R.mem M1).someK (aG bQ hx3))) (bV rfl rfl rfl (iS (.int _ _) aEv (R.mem M1) (aG bQ hx3) rfl) (aX rfl rfl rfl (fun _ => aZ us5 Tryz.underlying36 rfl (aCv _ (by omega) (by omega))) ?_)))
 refine aX rfl rfl rfl (fun _ => cA (.int _ _) rfl rfl rfl) (dY 24 (.int .u32 ((b0 * 16777216 + b1 * 65536 + b2 * 256 + b3 : Nat) : Int)) (iE (bHe (b0 * 65536 + b1 * 256 + b2) (b0 * 16777216 + b1 * 65536 + b2 * 256) b3 8 (show (b0 * 65536 + b1 * 256 + b2) * 256 = _ by omega) (show b3 < 256 by omega) (by omega))) ?_)
 refine lM rfl rfl rfl (bY (aC (aP (cE (.int _ _) rfl ?_))))
 exact ⟨iE (by rw [hnum]; omega), M1.below⟩
set_option maxHeartbeats 4000000 in
theorem gW (w : World) (n : Int) (hn : 0 ≤ n ∧ n ≤ 4294967295) :
  Calls Tryz.prog 103 #[.int .i64 n] w (fun ex w' => ∃ v, ex = .returned v ∧ (fun v w' => v = .int .i64 (8 + 40 * n) ∧ Below w.heap.size w w') v w') := by
 refine aI #[.tmp 2] 6 Tryz.func103 rfl Tryz.results103 Tryz.ntmps103 rfl ?_
 have M0 := Mem.refl w
 refine aE (aA (bC rfl rfl (aB (aC (aE (aA (aO rfl rfl (wq (eS rfl rfl (by omega) (by omega)) rfl (wq (aY rfl rfl (by omega) (by omega)) rfl ?_)))))))))
 refine bC rfl rfl (aB (aC (aP (cE (.int _ _) rfl ?_))))
 exact ⟨iE (by omega), M0.below⟩
set_option maxHeartbeats 4000000 in
theorem zP (w : World) (b : Nat) (x0 x1 x2 x3 x4 x5 x6 x7 x8 x9 : Int) (h0 : 0 ≤ x2 ∧ x2 ≤ 4294967295) (h1 : 0 ≤ x3 ∧ x3 ≤ 4294967295) (hO : Own [(some b, bc [.int .u32 x0, .int .u32 x1, .int .u32 x2, .int .u32 x3, .int .u32 x4, .int .u32 x5, .int .u32 x6, .int .u32 x7, .int .u32 x8, .int .u32 x9] 150)] w) :
  Calls Tryz.prog 131 #[.int .i64 2, .pointer (some ⟨b, 0, none⟩)] w (fun ex w' => ∃ v, ex = .returned v ∧ (fun v w' => v = .agg [.int .i32 (kF x2), .int .i32 (kF x3)].toArray ∧ Mem w (cY [(some b, bc [.int .u32 x0, .int .u32 x1, .int .u32 x2, .int .u32 x3, .int .u32 x4, .int .u32 x5, .int .u32 x6, .int .u32 x7, .int .u32 x8, .int .u32 x9] 150)]) [(some b, bc [.int .u32 x0, .int .u32 x1, .int .u32 x2, .int .u32 x3, .int .u32 x4, .int .u32 x5, .int .u32 x6, .int .u32 x7, .int .u32 x8, .int .u32 x9] 150)] w') v w') := by
 refine aI #[.cell 3 38] 14 Tryz.func131 rfl Tryz.results131 Tryz.ntmps131 rfl ?_
 have M0 := hO.mem
 refine aE (aA (aV gY M0 rfl rfl (fun b1 w1 M1 => (aB (aC (aE (bR [(0, 0), (1, 0), (2, 1), (3, 0), (4, 0), (5, 0), (6, 0), (7, 1), (8, 0), (9, 0), (10, 2)] mixed rfl (by kernel_rfl) (fun w2 hb2 hh2 => ?_))))))))
 have M2 := M1.drew hb2 hh2
 refine eF rfl rfl rfl (aX rfl rfl rfl (fun _ => bX (2) iC rfl rfl rfl (by decide)) (bV rfl rfl rfl (aM 0 (.int _ _) bU M2 rfl rfl rfl) (aX rfl rfl rfl (fun _ => dA tP Tryz.underlying21 rfl) (dY 7 (.int .i32 (kF x2)) (iE (kA h0)) (eF rfl rfl rfl ?_)))))
 refine aX rfl rfl rfl (fun _ => aY rfl rfl (by first | decide | omega) (by first | decide | omega)) (aX rfl rfl rfl (fun _ => bX (3) iC rfl rfl rfl (by decide)) (bV rfl rfl rfl (aM 0 (.int _ _) bU M2 rfl rfl rfl) (aX rfl rfl rfl (fun _ => dA tP Tryz.underlying21 rfl) (dY 12 (.int .i32 (kF x3)) (iE (kA h1)) ?_))))
 refine aX rfl rfl rfl (fun _ => cP [(0, .int _ _), (1, .int _ _)] _ eG rfl rfl) (dS [true, true] rfl (by kernel_rfl) (bG 1 _ bI M2 rfl rfl rfl rfl rfl (aT rfl) rfl (fun w3 M3 => ?_)))
 refine aB (aC ⟨dT, ?_⟩)
 refine bY (aC (aP (eX 1 bI M3 rfl rfl rfl ?_)))
 exact ⟨rfl, M3.keep [true, false]⟩
set_option maxHeartbeats 4000000 in
theorem zV (w : World) (b : Nat) (x0 x1 x2 x3 x4 x5 x6 x7 x8 x9 : Int) (h0 : 0 ≤ x6 ∧ x6 ≤ 4294967295) (h1 : 0 ≤ x7 ∧ x7 ≤ 4294967295) (hO : Own [(some b, bc [.int .u32 x0, .int .u32 x1, .int .u32 x2, .int .u32 x3, .int .u32 x4, .int .u32 x5, .int .u32 x6, .int .u32 x7, .int .u32 x8, .int .u32 x9] 150)] w) :
  Calls Tryz.prog 131 #[.int .i64 6, .pointer (some ⟨b, 0, none⟩)] w (fun ex w' => ∃ v, ex = .returned v ∧ (fun v w' => v = .agg [.int .i32 (kF x6), .int .i32 (kF x7)].toArray ∧ Mem w (cY [(some b, bc [.int .u32 x0, .int .u32 x1, .int .u32 x2, .int .u32 x3, .int .u32 x4, .int .u32 x5, .int .u32 x6, .int .u32 x7, .int .u32 x8, .int .u32 x9] 150)]) [(some b, bc [.int .u32 x0, .int .u32 x1, .int .u32 x2, .int .u32 x3, .int .u32 x4, .int .u32 x5, .int .u32 x6, .int .u32 x7, .int .u32 x8, .int .u32 x9] 150)] w') v w') := by
 refine aI #[.cell 3 38] 14 Tryz.func131 rfl Tryz.results131 Tryz.ntmps131 rfl ?_
 have M0 := hO.mem
 refine aE (aA (aV gY M0 rfl rfl (fun b1 w1 M1 => (aB (aC (aE (bR [(0, 0), (1, 0), (2, 1), (3, 0), (4, 0), (5, 0), (6, 0), (7, 1), (8, 0), (9, 0), (10, 2)] mixed rfl (by kernel_rfl) (fun w2 hb2 hh2 => ?_))))))))
 have M2 := M1.drew hb2 hh2
 refine eF rfl rfl rfl (aX rfl rfl rfl (fun _ => bX (6) iC rfl rfl rfl (by decide)) (bV rfl rfl rfl (aM 0 (.int _ _) bU M2 rfl rfl rfl) (aX rfl rfl rfl (fun _ => dA tP Tryz.underlying21 rfl) (dY 7 (.int .i32 (kF x6)) (iE (kA h0)) (eF rfl rfl rfl ?_)))))
 refine aX rfl rfl rfl (fun _ => aY rfl rfl (by first | decide | omega) (by first | decide | omega)) (aX rfl rfl rfl (fun _ => bX (7) iC rfl rfl rfl (by decide)) (bV rfl rfl rfl (aM 0 (.int _ _) bU M2 rfl rfl rfl) (aX rfl rfl rfl (fun _ => dA tP Tryz.underlying21 rfl) (dY 12 (.int .i32 (kF x7)) (iE (kA h1)) ?_))))
 refine aX rfl rfl rfl (fun _ => cP [(0, .int _ _), (1, .int _ _)] _ eG rfl rfl) (dS [true, true] rfl (by kernel_rfl) (bG 1 _ bI M2 rfl rfl rfl rfl rfl (aT rfl) rfl (fun w3 M3 => ?_)))
 refine aB (aC ⟨dT, ?_⟩)
 refine bY (aC (aP (eX 1 bI M3 rfl rfl rfl ?_)))
 exact ⟨rfl, M3.keep [true, false]⟩
set_option maxHeartbeats 4000000 in
theorem zS (w : World) (b : Nat) (x0 x1 x2 x3 x4 x5 x6 x7 x8 x9 : Int) (h0 : 0 ≤ x8 ∧ x8 ≤ 4294967295) (h1 : 0 ≤ x9 ∧ x9 ≤ 4294967295) (hO : Own [(some b, bc [.int .u32 x0, .int .u32 x1, .int .u32 x2, .int .u32 x3, .int .u32 x4, .int .u32 x5, .int .u32 x6, .int .u32 x7, .int .u32 x8, .int .u32 x9] 150)] w) :
  Calls Tryz.prog 131 #[.int .i64 8, .pointer (some ⟨b, 0, none⟩)] w (fun ex w' => ∃ v, ex = .returned v ∧ (fun v w' => v = .agg [.int .i32 (kF x8), .int .i32 (kF x9)].toArray ∧ Mem w (cY [(some b, bc [.int .u32 x0, .int .u32 x1, .int .u32 x2, .int .u32 x3, .int .u32 x4, .int .u32 x5, .int .u32 x6, .int .u32 x7, .int .u32 x8, .int .u32 x9] 150)]) [(some b, bc [.int .u32 x0, .int .u32 x1, .int .u32 x2, .int .u32 x3, .int .u32 x4, .int .u32 x5, .int .u32 x6, .int .u32 x7, .int .u32 x8, .int .u32 x9] 150)] w') v w') := by
 refine aI #[.cell 3 38] 14 Tryz.func131 rfl Tryz.results131 Tryz.ntmps131 rfl ?_
 have M0 := hO.mem
 refine aE (aA (aV gY M0 rfl rfl (fun b1 w1 M1 => (aB (aC (aE (bR [(0, 0), (1, 0), (2, 1), (3, 0), (4, 0), (5, 0), (6, 0), (7, 1), (8, 0), (9, 0), (10, 2)] mixed rfl (by kernel_rfl) (fun w2 hb2 hh2 => ?_))))))))
 have M2 := M1.drew hb2 hh2
 refine eF rfl rfl rfl (aX rfl rfl rfl (fun _ => bX (8) iC rfl rfl rfl (by decide)) (bV rfl rfl rfl (aM 0 (.int _ _) bU M2 rfl rfl rfl) (aX rfl rfl rfl (fun _ => dA tP Tryz.underlying21 rfl) (dY 7 (.int .i32 (kF x8)) (iE (kA h0)) (eF rfl rfl rfl ?_)))))
 refine aX rfl rfl rfl (fun _ => aY rfl rfl (by first | decide | omega) (by first | decide | omega)) (aX rfl rfl rfl (fun _ => bX (9) iC rfl rfl rfl (by decide)) (bV rfl rfl rfl (aM 0 (.int _ _) bU M2 rfl rfl rfl) (aX rfl rfl rfl (fun _ => dA tP Tryz.underlying21 rfl) (dY 12 (.int .i32 (kF x9)) (iE (kA h1)) ?_))))
 refine aX rfl rfl rfl (fun _ => cP [(0, .int _ _), (1, .int _ _)] _ eG rfl rfl) (dS [true, true] rfl (by kernel_rfl) (bG 1 _ bI M2 rfl rfl rfl rfl rfl (aT rfl) rfl (fun w3 M3 => ?_)))
 refine aB (aC ⟨dT, ?_⟩)
 refine bY (aC (aP (eX 1 bI M3 rfl rfl rfl ?_)))
 exact ⟨rfl, M3.keep [true, false]⟩
set_option maxHeartbeats 4000000 in
theorem aHc (w : World) (x0 x1 x2 x3 x4 x5 x6 x7 x8 x9 : Int) (hx : ∀ x ∈ ([x0, x1, x2, x3, x4, x5, x6, x7, x8, x9] : List Int), 0 ≤ x ∧ x ≤ 4294967295) :
  Calls Tryz.prog 104 #[.agg [.int .u32 x0, .int .u32 x1, .int .u32 x2, .int .u32 x3, .int .u32 x4, .int .u32 x5, .int .u32 x6, .int .u32 x7, .int .u32 x8, .int .u32 x9].toArray] w (fun ex w' => ∃ v, ex = .returned v ∧ (fun v w' => v = (.agg (aF (⟨x0, kF x1, kF x2, kF x3, kF x4, kF x5, kF x6, kF x7, kF x8, kF x9⟩ : Body)).toArray) ∧ Below w.heap.size w w') v w') := by
 refine aI #[.cell 2 40] 23 Tryz.func104 rfl Tryz.results104 Tryz.ntmps104 rfl ?_
 have M0 := Mem.refl w
 refine aE (aA (bP (.agg (List.toArray _)) M0 rfl rfl rfl (fun b1 w1 M1 => (aV fJ M1 rfl rfl (fun b2 w2 M2 => (aB (aC (aE (aA (wq (dU [] [.pointer _] rfl rfl) rfl (wq (aJ (.func _ _ _) rfl) rfl ?_)))))))))))
 refine aB (aC (aE (bR [(0, 0), (1, 1), (2, 0), (3, 1), (4, 0), (5, 0), (7, 0), (8, 1), (9, 0), (10, 0), (11, 1), (12, 0), (13, 0), (15, 0), (6, 2), (14, 2), (16, 2), (17, 0), (18, 2)] mixed rfl (by kernel_rfl) (fun w3 hb3 hh3 => ?_))))
 have M3 := M2.drew hb3 hh3
 refine aX rfl rfl rfl (fun _ => bX (0) iC rfl rfl rfl (by decide)) (bV rfl rfl rfl (aM 0 (.int _ _) bU M3 rfl rfl rfl) (aX rfl rfl rfl (fun _ => bX (1) iC rfl rfl rfl (by decide)) (bV rfl rfl rfl (aM 0 (.int _ _) bU M3 rfl rfl rfl) (aX rfl rfl rfl (fun _ => dA tP Tryz.underlying21 rfl) ?_))))
 refine dY 9 (.int .i32 (kF x1)) (iE (kA (hx _ (by simp)))) (aX rfl rfl rfl (fun _ => aH (.func _ _ _) rfl) (aX rfl rfl rfl (fun _ => bX (4) iC rfl rfl rfl (by decide)) (bV rfl rfl rfl (aM 0 (.int _ _) bU M3 rfl rfl rfl) (aX rfl rfl rfl (fun _ => dA tP Tryz.underlying21 rfl) ?_))))
 refine dY 14 (.int .i32 (kF x4)) (iE (kA (hx _ (by simp)))) (aX rfl rfl rfl (fun _ => bX (5) iC rfl rfl rfl (by decide)) (bV rfl rfl rfl (aM 0 (.int _ _) bU M3 rfl rfl rfl) (aX rfl rfl rfl (fun _ => dA tP Tryz.underlying21 rfl) (dY 17 (.int .i32 (kF x5)) (iE (kA (hx _ (by simp)))) ?_))))
 refine aX rfl rfl rfl (fun _ => aH (.func _ _ _) rfl) (aX rfl rfl rfl (fun _ => aH (.func _ _ _) rfl) (dS [false, false, false, false] rfl (by kernel_rfl) (bZ aNl rfl rfl (zP _ b1 x0 x1 x2 x3 x4 x5 x6 x7 x8 x9 (hx _ (by simp)) (hx _ (by simp)) (M3.ownSeg 0 1)) ?_)))
 rintro v4 w4 ⟨rfl, hM4⟩
 have M4 : Mem _ _ [_, _] _ := M3.seg 0 1 hM4
 refine aB (aC ⟨(eD (bL rfl (aM 0 (.int _ _) bU M4 rfl rfl rfl)) (eD (bL rfl (aM 0 (.int _ _) bU M4 rfl rfl rfl)) (eD (bL rfl (aM 0 (.int _ _) bU M4 rfl rfl rfl)) (eD (bL rfl (aM 0 (.int _ _) bU M4 rfl rfl rfl)) dT)))), ?_⟩)
 refine dS [false, false, false, false] rfl (by kernel_rfl) (bZ aNl rfl rfl (zV _ b1 x0 x1 x2 x3 x4 x5 x6 x7 x8 x9 (hx _ (by simp)) (hx _ (by simp)) (M4.ownSeg 0 1)) ?_)
 rintro v5 w5 ⟨rfl, hM5⟩
 have M5 : Mem _ _ [_, _] _ := M4.seg 0 1 hM5
 refine aB (aC ⟨(eD (bL rfl (aM 0 (.int _ _) bU M5 rfl rfl rfl)) (eD (bL rfl (aM 0 (.int _ _) bU M5 rfl rfl rfl)) (eD (bL rfl (aM 0 (.int _ _) bU M5 rfl rfl rfl)) (eD (bL rfl (aM 0 (.int _ _) bU M5 rfl rfl rfl)) dT)))), ?_⟩)
 refine dS [false, false, false, false] rfl (by kernel_rfl) (bZ aNl rfl rfl (zS _ b1 x0 x1 x2 x3 x4 x5 x6 x7 x8 x9 (hx _ (by simp)) (hx _ (by simp)) (M5.ownSeg 0 1)) ?_)
 rintro v6 w6 ⟨rfl, hM6⟩
 have M6 : Mem _ _ [_, _] _ := M5.seg 0 1 hM6
 refine aB (aC ⟨(eD (bL rfl (aM 0 (.int _ _) bU M6 rfl rfl rfl)) (eD (bL rfl (aM 0 (.int _ _) bU M6 rfl rfl rfl)) (eD (bL rfl (aM 0 (.int _ _) bU M6 rfl rfl rfl)) (eD (bL rfl (aM 0 (.int _ _) bU M6 rfl rfl rfl)) dT)))), ?_⟩)
 refine aX rfl rfl rfl (fun _ => cP [(0, .int _ _), (1, .int _ _), (2, .agg (List.toArray _)), (3, .int _ _), (4, .int _ _), (5, .agg (List.toArray _)), (6, .agg (List.toArray _))] _ nT rfl rfl) (dS [true, true, true, true] rfl (by kernel_rfl) (bG 1 _ bK M6 rfl rfl rfl rfl rfl (aT rfl) rfl (fun w7 M7 => ?_)))
 refine aB (aC ⟨dT, ?_⟩)
 refine bY (aC (aP (eX 1 bK M7 rfl rfl rfl ?_)))
 exact ⟨rfl, M7.below⟩
set_option maxHeartbeats 8000000 in
theorem aIk (w : World) (A : Option Addr) (n c : Nat) (xs : List Body) (R : Rd w 10 A n (xs.map aF)) (hn : n ≤ 4096) (hc : iT xs = 0) (hb : ∀ b ∈ xs, InB b) :
  Calls Tryz.prog 67 #[.slice A n c] w (fun ex w' => ∃ v, ex = .returned v ∧ (fun v w' => ∃ q : Row, v = .tuple #[.slice q.A q.n q.c, .int .i64 0] ∧ bH 5 1 q.A q.n q.c ((aJe xs).map bQ) q.e ∧ Mem w [] [q.e] w') v w') := by
 have hlen : xs.length = n := by simpa using R.len
 have hbd := R.bound
 refine aI #[.tmp 2, .tmp 3] 38 Tryz.func67 rfl Tryz.results67 Tryz.ntmps67 rfl ?_
 have M0 := Mem.refl w
 refine aE (aA (eN rfl rfl (bC rfl rfl (aB (aC (aE (aE (aA (dN rfl rfl (bZ bFx rfl rfl (aCq _ _ _ _ xs (R.mem M0)) ?_))))))))))
 rintro v1 w1 ⟨rfl, hb1⟩
 have M1 := M0.callB hb1
 refine bC rfl rfl (aB (aC (aE (aA (aO rfl rfl (cX rfl rfl rfl rfl (pA 13 rfl (fun h => h hc) (aB (aC ?_)))))))))
 refine cM rfl (aL (aC (aE (aA (cU [.int _ _, .int _ _, .int _ _, .int _ _] (jQ.map bQ) rfl gE M1 rfl rfl rfl rfl (dE rfl) (by decide) (fun b2 w2 M2 => ?_))))))
 have hlit15 := jT (T := 5) (b := b2) (jQ.map bQ) (oH _) rfl (by decide)
 refine aHd 0 Tryz.underlying57 Tryz.underlying5 M2 rfl rfl rfl rfl hlit15 (by decide) (fun e3 w3 M3 hR3 => (dN rfl rfl (wq (dB Tryz.underlying22 rfl) rfl (wq (aZ us3 Tryz.underlying36 rfl (aCv _ (by omega) (by omega))) rfl (bZ bAq rfl rfl (aFx _ ⟨(some ⟨b2, 0, none⟩), 4, 4, e3⟩ jQ hR3 (n : Int) (by omega) (by first | omega | exact (show 4 ≤ 1048576 by decide)) (M3.ownSeg 0 1)) ?_)))))
 rintro v4 w4 ⟨q0, rfl, hnq0, hq0, hM4⟩
 have M4 : Mem _ _ [_] _ := M3.seg 0 1 hM4
 refine eN rfl rfl (aB (aC (aE (aE (aA (dN rfl rfl (wq (dB Tryz.underlying22 rfl) rfl (aO rfl rfl (aB (aC (aQ ?_)))))))))))
 refine dQ (σ := Nat × Row) [2, 3, 21, 22] (fun (k, q) => [(5, .slice q.A q.n q.c), (23, .int .i64 (k : Int))]) (fun (k, q) w' => (k ≤ n ∧ q.n = 8 + 40 * k ∧ bH 5 1 q.A q.n q.c (((jQ ++ fO (n : Int)) ++ (xs.take k).flatMap uZ).map bQ) q.e) ∧ Mem w [] [q.e] w') (fun (k, q) => n - k) (0, q0) (bA rfl (bA rfl dX)) (⟨⟨by omega, hnq0, by rw [List.take_zero, List.flatMap_nil, List.append_nil]; exact hq0⟩, M4⟩) ?_
 rintro ⟨k, q⟩ ρ5 w5 ⟨⟨hk, hqn, hq⟩, hM5⟩
 refine aE (aA (cX rfl rfl rfl rfl (aB (aC (aE ?_)))))
 refine aS rfl (fun h24 => ?_) (fun h24 => ?_)
 ·obtain ⟨xb, hxb⟩ := cT (xs := xs) (k := k) hlen (by omega)
  have hxi := aTu (hb xb (List.mem_of_getElem? hxb))
  refine aL (aC (aE (aQ (aE (aA (wq (bN (k) dF rfl rfl rfl ((R.mem hM5).below_len (aG aF hxb)) ((R.mem hM5).someK (aG aF hxb))) rfl (wq (dJ _ bK (R.mem hM5) (aG aF hxb) rfl) rfl (aV fJ hM5 rfl rfl (fun b6 w6 M6 => (bG 1 _ bK M6 rfl rfl rfl rfl rfl (aT rfl) rfl (fun w7 M7 => ?_)))))))))))
  refine aB (aC (aE (aA (wq (aU 1 bK M7 rfl rfl rfl) rfl (bZ bJt rfl rfl (aNh _ xb) ?_)))))
  rintro v8 w8 ⟨rfl, hb8⟩
  have M8 := M7.callB hb8
  refine aO rfl rfl (aB (aC (aQ (dQ (σ := Nat × Row) [2, 3, 21, 22, 23, 28] (fun (j, p) => [(5, .slice p.A p.n p.c), (29, .int .i64 (j : Int))]) (fun (j, p) w' => (j ≤ 10 ∧ p.n = q.n + 4 * j ∧ bH 5 1 p.A p.n p.c (((jQ ++ fO (n : Int)) ++ (xs.take k).flatMap uZ ++ ((zB xb).take j).flatMap fO).map bQ) p.e) ∧ Mem w [] [p.e, (some b6, bc (aF xb) 40)] w') (fun (j, p) => 10 - j) (0, q) (bA rfl (bA rfl dX)) (⟨⟨by omega, by omega, by rw [List.take_zero, List.flatMap_nil, List.append_nil]; exact hq⟩, M8⟩) ?_))))
  rintro ⟨j, p⟩ ρ9 w9 ⟨⟨hj, hpn, hp⟩, hM9⟩
  refine aE (aA (cX rfl rfl rfl rfl (aB (aC (aE ?_)))))
  refine aS rfl (fun h30 => ?_) (fun h30 => ?_)
  ·obtain ⟨x, hx⟩ := cT (xs := zB xb) (k := j) (n := 10) rfl (by omega)
   have hxr := hxi x (List.mem_of_getElem? hx)
   refine aL (aC (aE (aQ (aE (aA ?_)))))
   refine wq (xZ (j) (.int .u32 x) iC bU rfl rfl (by omega) (by omega) rfl (by rw [mC, List.getElem?_map, hx]; rfl)) rfl ?_
   refine bC rfl rfl (aB (aC (aA (dN rfl rfl (aO rfl rfl (bZ bAq rfl rfl (aFx _ p _ hp x hxr (by first | omega | exact (show 4 ≤ 1048576 by decide)) (hM9.ownSeg 0 1)) ?_))))))
   rintro v10 w10 ⟨p2, rfl, hnp2, hp2, hM10⟩
   have M10 : Mem _ _ [_, _] _ := hM9.seg 0 1 hM10
   refine eN rfl rfl (aB (cO (aC (aA (wq (aY rfl rfl (by omega) (by omega)) rfl (aO rfl rfl ?_))))))
   refine aB ?_
   refine cD (j + 1, p2) (bA rfl (bA rfl dX)) (cL rfl (cL rfl (cL rfl (cL rfl (cL rfl (cL rfl gO)))))) ?_ ?_
   ·exact ⟨⟨by omega, by omega, by rw [aTl hx, ← List.append_assoc]; exact hp2⟩, M10⟩
   ·(show 10 - (j + 1) < 10 - j; omega)
  ·obtain rfl : j = 10 := by omega
   rw [List.take_of_length_le (show (zB xb).length ≤ 10 from Nat.le_refl _)] at hp
   refine cV (dD (dK (eO (cO (aC (aA ?_))))))
   refine wq (aY rfl rfl (by omega) (by omega)) rfl (aO rfl rfl (aB ?_))
   refine cD (k + 1, p) (bA rfl (bA rfl dX)) (cL rfl (cL rfl (cL rfl (cL rfl gO)))) ?_ ?_
   ·exact ⟨⟨by omega, by omega, by rw [aFr hxb, ← aSs, ← List.append_assoc]; exact hp⟩, hM9.keep [true, false]⟩
   ·(show n - (k + 1) < n - k; omega)
 ·obtain rfl : k = n := by omega
  rw [List.take_of_length_le (by omega), ← hlen] at hq
  refine cV (dD (dK (eO (aC (aE (aA (dN rfl rfl ?_)))))))
  refine eN rfl rfl (bC rfl rfl (aB (aC (aP (gA (.slice _ _ _) (.int _ _) rfl rfl ?_)))))
  exact ⟨q, rfl, hq, hM5⟩
set_option maxHeartbeats 16000000 in
theorem aIa (w : World) (A : Option Addr) (n c : Nat) (ls : List Int) (R : Rd w 1 A n (ls.map bQ)) (hB : lW ls) (hcap : n ≤ c) (hn : n ≤ 1048576) :
  Calls Tryz.prog 68 #[.slice A n c] w (fun ex w' => ∃ v, ex = .returned v ∧ (fun v w' => ∃ r : Row, v = .tuple #[.slice r.A r.n r.c, .int .i64 (nM ls).2] ∧ bH 40 10 r.A r.n r.c (((nM ls).1).map aF) r.e ∧ Mem w [] [r.e] w') v w') := by
 have hlen : ls.length = n := by simpa using R.len
 have hbd := R.bound
 refine aI #[.tmp 2, .tmp 3] 58 Tryz.func68 rfl Tryz.results68 Tryz.ntmps68 rfl ?_
 have M0 := Mem.refl w
 refine aE (aA (eN rfl rfl (bC rfl rfl (aB (aC (aE (aE (aA (dN rfl rfl (wq (dB Tryz.underlying57 rfl) rfl ?_))))))))))
 refine cX rfl rfl rfl rfl (wq (aH (.bool (decide _)) rfl) rfl ?_)
 refine dI 13 rfl (fun g13 => ?_) (fun g13 => ?_)
 ·refine aN rfl rfl (aN rfl rfl (aN rfl rfl (aN rfl rfl (wq (bM true (.bool true) rfl rfl) rfl (aB (aC ?_))))))
  refine cC rfl (aE (aA (eN rfl rfl (bC rfl rfl (aB (aC (aP (cH (gA (.slice _ _ _) (.int _ _) rfl rfl ?_)))))))))
  have hd := qV (l := ls) (fun h => by have := h.1; omega)
  exact ⟨⟨none, 0, 0, (none, default)⟩, by rw [hd], by rw [hd]; exact bH.nil _ _ _, (M0.keep []).dummy default⟩
 ·refine dN rfl rfl (wq (eV (0) (4) gE rfl rfl ⟨_, rfl⟩ (by omega) (by omega) (by omega)) rfl (wq (aWq Tryz.underlying57 Tryz.underlying5 Tryz.underlying9 (Rd.subB (R.mem M0) (0) (4) (by omega) (by omega) hcap) rfl) rfl (wq (aKc rfl rfl) rfl (wq (bM false (.bool (decide _)) rfl rfl) rfl (aB (aC ?_))))))
  refine aS rfl (fun h18 => ?_) (fun h18 => ?_)
  ·refine aE (aA (eN rfl rfl (bC rfl rfl (aB (aC (aP (cH (gA (.slice _ _ _) (.int _ _) rfl rfl ?_))))))))
   have hd := qV (l := ls) (fun h => ((aAp ((ls.drop 0).take (4 - 0)) (hB.sub 0 4) [66, 73, 76, 49]).1 h18) (by rw [← oZ]; simpa using h.2.1))
   exact ⟨⟨none, 0, 0, (none, default)⟩, by rw [hd], by rw [hd]; exact bH.nil _ _ _, (M0.keep []).dummy default⟩
  ·refine aL (aC (aE (aA (dN rfl rfl (wq (eV (4) (((n : Nat) : Int)) gE rfl ⟨_, rfl⟩ rfl (by omega) (by omega) (by omega)) rfl (bZ oF rfl rfl (iX _ _ _ _ ((ls.drop (4)).take (n - (4))) (Rd.subB (R.mem M0) (4) (n) (by omega) (by omega) hcap) (hB.sub _ _) (by omega)) ?_))))))
   rintro v1 w1 ⟨rfl, hb1⟩
   have M1 := M0.callB hb1
   have hr4 := lR hB (a := 4) (by omega)
   obtain ⟨N, hN⟩ : ∃ N : Nat, eH ls 4 = (N : Int) := ⟨(eH ls 4).toNat, by omega⟩
   have hNl : N ≤ 4294967295 := by omega
   refine aK 21 (.int .u32 (N : Int)) (iE ((fH (by omega)).trans hN)) (wq (aZ tP Tryz.underlying3 rfl (fC _ (by omega) (by omega))) rfl (bC rfl rfl (aB (aC (aE (aE (aA (dN rfl rfl (wq (dB Tryz.underlying57 rfl) rfl ?_)))))))))
   refine aO rfl rfl (bZ nP rfl rfl (gW _ (N : Int) (by omega)) ?_)
   rintro v2 w2 ⟨rfl, hb2⟩
   have M2 := M1.callB hb2
   refine cX rfl rfl rfl rfl (aB (aC ?_))
   refine aS rfl (fun h27 => ?_) (fun h27 => ?_)
   ·refine aE (aA (eN rfl rfl (bC rfl rfl (aB (aC (aP (cH (gA (.slice _ _ _) (.int _ _) rfl rfl ?_))))))))
    have hd := qV (l := ls) (fun h => h27 (by have := h.2.2; rw [hN] at this; omega))
    exact ⟨⟨none, 0, 0, (none, default)⟩, by rw [hd], by rw [hd]; exact bH.nil _ _ _, (M2.keep []).dummy default⟩
   ·have hfm : aDa ls := ⟨by omega, by have h := Decidable.not_not.1 (mt ((aAp ((ls.drop 0).take (4 - 0)) (hB.sub 0 4) [66, 73, 76, 49]).2) h18); rw [← oZ] at h; simpa using h, by rw [hN]; omega⟩
    refine aL (aC (aE (aA (eN rfl rfl ?_))))
    have M3 := M2.dummy default
    refine aB (aC (aE (aE (aA (aO rfl rfl (aO rfl rfl (aB (aC (aQ (dQ (σ := Nat × Row) [0, 2, 3, 28] (fun (i, q) => [(5, .slice q.A q.n q.c), (29, .int .i64 (i : Int))]) (fun (i, q) w' => (i ≤ N ∧ bH 40 10 q.A q.n q.c ((oI ls i).map aF) q.e) ∧ Mem w [] [q.e] w') (fun (i, q) => N - i) (0, hJ) (bA rfl (bA rfl dX)) (⟨⟨by omega, bH.nil _ _ _⟩, M3⟩) ?_))))))))))
    rintro ⟨i, q⟩ ρ4 w4 ⟨⟨hi, hq⟩, hM4⟩
    have hqn : (oI ls i).length = q.n := by simpa using hq.1
    rw [vY] at hqn
    refine aE (aA (cX rfl rfl rfl rfl (aB (aC (aE ?_)))))
    refine aS rfl (fun h30 => ?_) (fun h30 => ?_)
    ·refine aL (aC (aE (aQ (aE (aA (aO rfl rfl (bC rfl rfl (aB (aC (aE (aA (aV aHi hM4 rfl rfl (fun b5 w5 M5 => (aB (aC (aE (aE (aA ?_))))))))))))))))))
     refine aO rfl rfl (aB (aC (aQ (iL 11 (fG (aE (aA (cX rfl rfl rfl rfl (jB 33 rfl (by first | decide | omega) ?_)))))))))
     refine aB (aC (aE (cC rfl (aL (aC (aE (aQ (aE (aA (aO rfl rfl (bC rfl rfl (aB (aC (aA ?_))))))))))))))
     refine aO rfl rfl (dN rfl rfl (aO rfl rfl (bZ nP rfl rfl (gW _ (i : Int) (by omega)) ?_)))
     rintro v6 w6 ⟨rfl, hb6⟩
     have M6 := M5.callB hb6
     refine aO rfl rfl (wq (eS rfl rfl (by omega) (by omega)) rfl (wq (aY rfl rfl (by omega) (by omega)) rfl (aK 41 (.int .i64 ((8 + 40 * i : Nat) : Int)) (iE (by omega)) (wq (eV (((8 + 40 * i : Nat) : Int)) (((n : Nat) : Int)) gE rfl ⟨_, rfl⟩ rfl (by omega) (by omega) (by omega)) rfl (bZ oF rfl rfl (iX _ _ _ _ ((ls.drop (8 + 40 * i)).take (n - (8 + 40 * i))) (Rd.subB (R.mem M6) (8 + 40 * i) (n) (by omega) (by omega) hcap) (hB.sub _ _) (by omega)) ?_)))))
     rintro v7 w7 ⟨rfl, hb7⟩
     have M7 := M6.callB hb7
     refine aK 43 (.int .u32 (eH ls (8 + 40 * i))) (iE (fH (by omega))) (wq (bX (0) iC rfl rfl rfl (by decide)) rfl (cZ 1 (.int _ _) bU M7 rfl rfl rfl rfl rfl rfl (fun w8 M8 => (aB (cO (aC (aA ?_)))))))
     refine wq (aY rfl rfl (by first | decide | omega) (by first | decide | omega)) rfl (aK 45 (.int .i64 1) (iE (by first | decide | omega)) (aO rfl rfl (aB (aC (fG (dW (fr := [(0, .slice _ _ _), (2, .slice _ _ _), (3, .int .i64 0), (5, .slice _ _ _), (6, .int _ _), (7, .pointer _), (8, .int .i64 0), (28, .int _ _), (29, .int _ _), (32, .int .i64 1)]) (bA rfl (bA rfl (bA rfl (bA rfl (bA rfl (bA rfl (bA rfl (bA rfl (bA rfl (bA rfl dX)))))))))) (fun ρ9 => ?_)))))))
     refine aE (aA (cX rfl rfl rfl rfl (jB 33 rfl (by first | decide | omega) (aB (aC (aE (cC rfl (aL (aC (aE (aQ (aE (aA ?_)))))))))))))
     refine aO rfl rfl (bC rfl rfl (aB (aC (aA (aO rfl rfl (dN rfl rfl (aO rfl rfl ?_)))))))
     refine bZ nP rfl rfl (gW _ (i : Int) (by omega)) ?_
     rintro v10 w10 ⟨rfl, hb10⟩
     have M10 := M8.callB hb10
     refine aO rfl rfl (wq (eS rfl rfl (by omega) (by omega)) rfl (wq (aY rfl rfl (by omega) (by omega)) rfl (aK 41 (.int .i64 ((8 + 40 * i + 4 : Nat) : Int)) (iE (by omega)) (wq (eV (((8 + 40 * i + 4 : Nat) : Int)) (((n : Nat) : Int)) gE rfl ⟨_, rfl⟩ rfl (by omega) (by omega) (by omega)) rfl (bZ oF rfl rfl (iX _ _ _ _ ((ls.drop (8 + 40 * i + 4)).take (n - (8 + 40 * i + 4))) (Rd.subB (R.mem M10) (8 + 40 * i + 4) (n) (by omega) (by omega) hcap) (hB.sub _ _) (by omega)) ?_)))))
     rintro v11 w11 ⟨rfl, hb11⟩
     have M11 := M10.callB hb11
     refine aK 43 (.int .u32 (eH ls (8 + 40 * i + 4))) (iE (fH (by omega))) (wq (bX (1) iC rfl rfl rfl (by decide)) rfl (cZ 1 (.int _ _) bU M11 rfl rfl rfl rfl rfl rfl (fun w12 M12 => (aB (cO (aC (aA ?_)))))))
     refine wq (aY rfl rfl (by first | decide | omega) (by first | decide | omega)) rfl (aK 45 (.int .i64 2) (iE (by first | decide | omega)) (aO rfl rfl (aB (aC (fG (dW (fr := [(0, .slice _ _ _), (2, .slice _ _ _), (3, .int .i64 0), (5, .slice _ _ _), (6, .int _ _), (7, .pointer _), (8, .int .i64 1), (28, .int _ _), (29, .int _ _), (32, .int .i64 2)]) (bA rfl (bA rfl (bA rfl (bA rfl (bA rfl (bA rfl (bA rfl (bA rfl (bA rfl (bA rfl dX)))))))))) (fun ρ13 => ?_)))))))
     refine aE (aA (cX rfl rfl rfl rfl (jB 33 rfl (by first | decide | omega) (aB (aC (aE (cC rfl (aL (aC (aE (aQ (aE (aA ?_)))))))))))))
     refine aO rfl rfl (bC rfl rfl (aB (aC (aA (aO rfl rfl (dN rfl rfl (aO rfl rfl ?_)))))))
     refine bZ nP rfl rfl (gW _ (i : Int) (by omega)) ?_
     rintro v14 w14 ⟨rfl, hb14⟩
     have M14 := M12.callB hb14
     refine aO rfl rfl (wq (eS rfl rfl (by omega) (by omega)) rfl (wq (aY rfl rfl (by omega) (by omega)) rfl (aK 41 (.int .i64 ((8 + 40 * i + 8 : Nat) : Int)) (iE (by omega)) (wq (eV (((8 + 40 * i + 8 : Nat) : Int)) (((n : Nat) : Int)) gE rfl ⟨_, rfl⟩ rfl (by omega) (by omega) (by omega)) rfl (bZ oF rfl rfl (iX _ _ _ _ ((ls.drop (8 + 40 * i + 8)).take (n - (8 + 40 * i + 8))) (Rd.subB (R.mem M14) (8 + 40 * i + 8) (n) (by omega) (by omega) hcap) (hB.sub _ _) (by omega)) ?_)))))
     rintro v15 w15 ⟨rfl, hb15⟩
     have M15 := M14.callB hb15
     refine aK 43 (.int .u32 (eH ls (8 + 40 * i + 8))) (iE (fH (by omega))) (wq (bX (2) iC rfl rfl rfl (by decide)) rfl (cZ 1 (.int _ _) bU M15 rfl rfl rfl rfl rfl rfl (fun w16 M16 => (aB (cO (aC (aA ?_)))))))
     refine wq (aY rfl rfl (by first | decide | omega) (by first | decide | omega)) rfl (aK 45 (.int .i64 3) (iE (by first | decide | omega)) (aO rfl rfl (aB (aC (fG (dW (fr := [(0, .slice _ _ _), (2, .slice _ _ _), (3, .int .i64 0), (5, .slice _ _ _), (6, .int _ _), (7, .pointer _), (8, .int .i64 2), (28, .int _ _), (29, .int _ _), (32, .int .i64 3)]) (bA rfl (bA rfl (bA rfl (bA rfl (bA rfl (bA rfl (bA rfl (bA rfl (bA rfl (bA rfl dX)))))))))) (fun ρ17 => ?_)))))))
     refine aE (aA (cX rfl rfl rfl rfl (jB 33 rfl (by first | decide | omega) (aB (aC (aE (cC rfl (aL (aC (aE (aQ (aE (aA ?_)))))))))))))
     refine aO rfl rfl (bC rfl rfl (aB (aC (aA (aO rfl rfl (dN rfl rfl (aO rfl rfl ?_)))))))
     refine bZ nP rfl rfl (gW _ (i : Int) (by omega)) ?_
     rintro v18 w18 ⟨rfl, hb18⟩
     have M18 := M16.callB hb18
     refine aO rfl rfl (wq (eS rfl rfl (by omega) (by omega)) rfl (wq (aY rfl rfl (by omega) (by omega)) rfl (aK 41 (.int .i64 ((8 + 40 * i + 12 : Nat) : Int)) (iE (by omega)) (wq (eV (((8 + 40 * i + 12 : Nat) : Int)) (((n : Nat) : Int)) gE rfl ⟨_, rfl⟩ rfl (by omega) (by omega) (by omega)) rfl ?_))))
     refine bZ oF rfl rfl (iX _ _ _ _ ((ls.drop (8 + 40 * i + 12)).take (n - (8 + 40 * i + 12))) (Rd.subB (R.mem M18) (8 + 40 * i + 12) (n) (by omega) (by omega) hcap) (hB.sub _ _) (by omega)) ?_
     rintro v19 w19 ⟨rfl, hb19⟩
     have M19 := M18.callB hb19
     refine aK 43 (.int .u32 (eH ls (8 + 40 * i + 12))) (iE (fH (by omega))) (wq (bX (3) iC rfl rfl rfl (by decide)) rfl (cZ 1 (.int _ _) bU M19 rfl rfl rfl rfl rfl rfl (fun w20 M20 => (aB (cO (aC (aA ?_)))))))
     refine wq (aY rfl rfl (by first | decide | omega) (by first | decide | omega)) rfl (aK 45 (.int .i64 4) (iE (by first | decide | omega)) (aO rfl rfl (aB (aC (fG (dW (fr := [(0, .slice _ _ _), (2, .slice _ _ _), (3, .int .i64 0), (5, .slice _ _ _), (6, .int _ _), (7, .pointer _), (8, .int .i64 3), (28, .int _ _), (29, .int _ _), (32, .int .i64 4)]) (bA rfl (bA rfl (bA rfl (bA rfl (bA rfl (bA rfl (bA rfl (bA rfl (bA rfl (bA rfl dX)))))))))) (fun ρ21 => ?_)))))))
     refine aE (aA (cX rfl rfl rfl rfl (jB 33 rfl (by first | decide | omega) (aB (aC (aE (cC rfl (aL (aC (aE (aQ (aE (aA ?_)))))))))))))
     refine aO rfl rfl (bC rfl rfl (aB (aC (aA (aO rfl rfl (dN rfl rfl (aO rfl rfl ?_)))))))
     refine bZ nP rfl rfl (gW _ (i : Int) (by omega)) ?_
     rintro v22 w22 ⟨rfl, hb22⟩
     have M22 := M20.callB hb22
     refine aO rfl rfl (wq (eS rfl rfl (by omega) (by omega)) rfl (wq (aY rfl rfl (by omega) (by omega)) rfl (aK 41 (.int .i64 ((8 + 40 * i + 16 : Nat) : Int)) (iE (by omega)) (wq (eV (((8 + 40 * i + 16 : Nat) : Int)) (((n : Nat) : Int)) gE rfl ⟨_, rfl⟩ rfl (by omega) (by omega) (by omega)) rfl ?_))))
     refine bZ oF rfl rfl (iX _ _ _ _ ((ls.drop (8 + 40 * i + 16)).take (n - (8 + 40 * i + 16))) (Rd.subB (R.mem M22) (8 + 40 * i + 16) (n) (by omega) (by omega) hcap) (hB.sub _ _) (by omega)) ?_
     rintro v23 w23 ⟨rfl, hb23⟩
     have M23 := M22.callB hb23
     refine aK 43 (.int .u32 (eH ls (8 + 40 * i + 16))) (iE (fH (by omega))) (wq (bX (4) iC rfl rfl rfl (by decide)) rfl (cZ 1 (.int _ _) bU M23 rfl rfl rfl rfl rfl rfl (fun w24 M24 => (aB (cO (aC (aA ?_)))))))
     refine wq (aY rfl rfl (by first | decide | omega) (by first | decide | omega)) rfl (aK 45 (.int .i64 5) (iE (by first | decide | omega)) (aO rfl rfl (aB (aC (fG (dW (fr := [(0, .slice _ _ _), (2, .slice _ _ _), (3, .int .i64 0), (5, .slice _ _ _), (6, .int _ _), (7, .pointer _), (8, .int .i64 4), (28, .int _ _), (29, .int _ _), (32, .int .i64 5)]) (bA rfl (bA rfl (bA rfl (bA rfl (bA rfl (bA rfl (bA rfl (bA rfl (bA rfl (bA rfl dX)))))))))) (fun ρ25 => ?_)))))))
     refine aE (aA (cX rfl rfl rfl rfl (jB 33 rfl (by first | decide | omega) (aB (aC (aE (cC rfl (aL (aC (aE (aQ (aE (aA ?_)))))))))))))
     refine aO rfl rfl (bC rfl rfl (aB (aC (aA (aO rfl rfl (dN rfl rfl (aO rfl rfl ?_)))))))
     refine bZ nP rfl rfl (gW _ (i : Int) (by omega)) ?_
     rintro v26 w26 ⟨rfl, hb26⟩
     have M26 := M24.callB hb26
     refine aO rfl rfl (wq (eS rfl rfl (by omega) (by omega)) rfl (wq (aY rfl rfl (by omega) (by omega)) rfl (aK 41 (.int .i64 ((8 + 40 * i + 20 : Nat) : Int)) (iE (by omega)) (wq (eV (((8 + 40 * i + 20 : Nat) : Int)) (((n : Nat) : Int)) gE rfl ⟨_, rfl⟩ rfl (by omega) (by omega) (by omega)) rfl ?_))))
     refine bZ oF rfl rfl (iX _ _ _ _ ((ls.drop (8 + 40 * i + 20)).take (n - (8 + 40 * i + 20))) (Rd.subB (R.mem M26) (8 + 40 * i + 20) (n) (by omega) (by omega) hcap) (hB.sub _ _) (by omega)) ?_
     rintro v27 w27 ⟨rfl, hb27⟩
     have M27 := M26.callB hb27
     refine aK 43 (.int .u32 (eH ls (8 + 40 * i + 20))) (iE (fH (by omega))) (wq (bX (5) iC rfl rfl rfl (by decide)) rfl (cZ 1 (.int _ _) bU M27 rfl rfl rfl rfl rfl rfl (fun w28 M28 => (aB (cO (aC (aA ?_)))))))
     refine wq (aY rfl rfl (by first | decide | omega) (by first | decide | omega)) rfl (aK 45 (.int .i64 6) (iE (by first | decide | omega)) (aO rfl rfl (aB (aC (fG (dW (fr := [(0, .slice _ _ _), (2, .slice _ _ _), (3, .int .i64 0), (5, .slice _ _ _), (6, .int _ _), (7, .pointer _), (8, .int .i64 5), (28, .int _ _), (29, .int _ _), (32, .int .i64 6)]) (bA rfl (bA rfl (bA rfl (bA rfl (bA rfl (bA rfl (bA rfl (bA rfl (bA rfl (bA rfl dX)))))))))) (fun ρ29 => ?_)))))))
     refine aE (aA (cX rfl rfl rfl rfl (jB 33 rfl (by first | decide | omega) (aB (aC (aE (cC rfl (aL (aC (aE (aQ (aE (aA ?_)))))))))))))
     refine aO rfl rfl (bC rfl rfl (aB (aC (aA (aO rfl rfl (dN rfl rfl (aO rfl rfl ?_)))))))
     refine bZ nP rfl rfl (gW _ (i : Int) (by omega)) ?_
     rintro v30 w30 ⟨rfl, hb30⟩
     have M30 := M28.callB hb30
     refine aO rfl rfl (wq (eS rfl rfl (by omega) (by omega)) rfl (wq (aY rfl rfl (by omega) (by omega)) rfl (aK 41 (.int .i64 ((8 + 40 * i + 24 : Nat) : Int)) (iE (by omega)) (wq (eV (((8 + 40 * i + 24 : Nat) : Int)) (((n : Nat) : Int)) gE rfl ⟨_, rfl⟩ rfl (by omega) (by omega) (by omega)) rfl ?_))))
     refine bZ oF rfl rfl (iX _ _ _ _ ((ls.drop (8 + 40 * i + 24)).take (n - (8 + 40 * i + 24))) (Rd.subB (R.mem M30) (8 + 40 * i + 24) (n) (by omega) (by omega) hcap) (hB.sub _ _) (by omega)) ?_
     rintro v31 w31 ⟨rfl, hb31⟩
     have M31 := M30.callB hb31
     refine aK 43 (.int .u32 (eH ls (8 + 40 * i + 24))) (iE (fH (by omega))) (wq (bX (6) iC rfl rfl rfl (by decide)) rfl (cZ 1 (.int _ _) bU M31 rfl rfl rfl rfl rfl rfl (fun w32 M32 => (aB (cO (aC (aA ?_)))))))
     refine wq (aY rfl rfl (by first | decide | omega) (by first | decide | omega)) rfl (aK 45 (.int .i64 7) (iE (by first | decide | omega)) (aO rfl rfl (aB (aC (fG (dW (fr := [(0, .slice _ _ _), (2, .slice _ _ _), (3, .int .i64 0), (5, .slice _ _ _), (6, .int _ _), (7, .pointer _), (8, .int .i64 6), (28, .int _ _), (29, .int _ _), (32, .int .i64 7)]) (bA rfl (bA rfl (bA rfl (bA rfl (bA rfl (bA rfl (bA rfl (bA rfl (bA rfl (bA rfl dX)))))))))) (fun ρ33 => ?_)))))))
     refine aE (aA (cX rfl rfl rfl rfl (jB 33 rfl (by first | decide | omega) (aB (aC (aE (cC rfl (aL (aC (aE (aQ (aE (aA ?_)))))))))))))
     refine aO rfl rfl (bC rfl rfl (aB (aC (aA (aO rfl rfl (dN rfl rfl (aO rfl rfl ?_)))))))
     refine bZ nP rfl rfl (gW _ (i : Int) (by omega)) ?_
     rintro v34 w34 ⟨rfl, hb34⟩
     have M34 := M32.callB hb34
     refine aO rfl rfl (wq (eS rfl rfl (by omega) (by omega)) rfl (wq (aY rfl rfl (by omega) (by omega)) rfl (aK 41 (.int .i64 ((8 + 40 * i + 28 : Nat) : Int)) (iE (by omega)) (wq (eV (((8 + 40 * i + 28 : Nat) : Int)) (((n : Nat) : Int)) gE rfl ⟨_, rfl⟩ rfl (by omega) (by omega) (by omega)) rfl ?_))))
     refine bZ oF rfl rfl (iX _ _ _ _ ((ls.drop (8 + 40 * i + 28)).take (n - (8 + 40 * i + 28))) (Rd.subB (R.mem M34) (8 + 40 * i + 28) (n) (by omega) (by omega) hcap) (hB.sub _ _) (by omega)) ?_
     rintro v35 w35 ⟨rfl, hb35⟩
     have M35 := M34.callB hb35
     refine aK 43 (.int .u32 (eH ls (8 + 40 * i + 28))) (iE (fH (by omega))) (wq (bX (7) iC rfl rfl rfl (by decide)) rfl (cZ 1 (.int _ _) bU M35 rfl rfl rfl rfl rfl rfl (fun w36 M36 => (aB (cO (aC (aA ?_)))))))
     refine wq (aY rfl rfl (by first | decide | omega) (by first | decide | omega)) rfl (aK 45 (.int .i64 8) (iE (by first | decide | omega)) (aO rfl rfl (aB (aC (fG (dW (fr := [(0, .slice _ _ _), (2, .slice _ _ _), (3, .int .i64 0), (5, .slice _ _ _), (6, .int _ _), (7, .pointer _), (8, .int .i64 7), (28, .int _ _), (29, .int _ _), (32, .int .i64 8)]) (bA rfl (bA rfl (bA rfl (bA rfl (bA rfl (bA rfl (bA rfl (bA rfl (bA rfl (bA rfl dX)))))))))) (fun ρ37 => ?_)))))))
     refine aE (aA (cX rfl rfl rfl rfl (jB 33 rfl (by first | decide | omega) (aB (aC (aE (cC rfl (aL (aC (aE (aQ (aE (aA ?_)))))))))))))
     refine aO rfl rfl (bC rfl rfl (aB (aC (aA (aO rfl rfl (dN rfl rfl (aO rfl rfl ?_)))))))
     refine bZ nP rfl rfl (gW _ (i : Int) (by omega)) ?_
     rintro v38 w38 ⟨rfl, hb38⟩
     have M38 := M36.callB hb38
     refine aO rfl rfl (wq (eS rfl rfl (by omega) (by omega)) rfl (wq (aY rfl rfl (by omega) (by omega)) rfl (aK 41 (.int .i64 ((8 + 40 * i + 32 : Nat) : Int)) (iE (by omega)) (wq (eV (((8 + 40 * i + 32 : Nat) : Int)) (((n : Nat) : Int)) gE rfl ⟨_, rfl⟩ rfl (by omega) (by omega) (by omega)) rfl ?_))))
     refine bZ oF rfl rfl (iX _ _ _ _ ((ls.drop (8 + 40 * i + 32)).take (n - (8 + 40 * i + 32))) (Rd.subB (R.mem M38) (8 + 40 * i + 32) (n) (by omega) (by omega) hcap) (hB.sub _ _) (by omega)) ?_
     rintro v39 w39 ⟨rfl, hb39⟩
     have M39 := M38.callB hb39
     refine aK 43 (.int .u32 (eH ls (8 + 40 * i + 32))) (iE (fH (by omega))) (wq (bX (8) iC rfl rfl rfl (by decide)) rfl (cZ 1 (.int _ _) bU M39 rfl rfl rfl rfl rfl rfl (fun w40 M40 => (aB (cO (aC (aA ?_)))))))
     refine wq (aY rfl rfl (by first | decide | omega) (by first | decide | omega)) rfl (aK 45 (.int .i64 9) (iE (by first | decide | omega)) (aO rfl rfl (aB (aC (fG (dW (fr := [(0, .slice _ _ _), (2, .slice _ _ _), (3, .int .i64 0), (5, .slice _ _ _), (6, .int _ _), (7, .pointer _), (8, .int .i64 8), (28, .int _ _), (29, .int _ _), (32, .int .i64 9)]) (bA rfl (bA rfl (bA rfl (bA rfl (bA rfl (bA rfl (bA rfl (bA rfl (bA rfl (bA rfl dX)))))))))) (fun ρ41 => ?_)))))))
     refine aE (aA (cX rfl rfl rfl rfl (jB 33 rfl (by first | decide | omega) (aB (aC (aE (cC rfl (aL (aC (aE (aQ (aE (aA ?_)))))))))))))
     refine aO rfl rfl (bC rfl rfl (aB (aC (aA (aO rfl rfl (dN rfl rfl (aO rfl rfl ?_)))))))
     refine bZ nP rfl rfl (gW _ (i : Int) (by omega)) ?_
     rintro v42 w42 ⟨rfl, hb42⟩
     have M42 := M40.callB hb42
     refine aO rfl rfl (wq (eS rfl rfl (by omega) (by omega)) rfl (wq (aY rfl rfl (by omega) (by omega)) rfl (aK 41 (.int .i64 ((8 + 40 * i + 36 : Nat) : Int)) (iE (by omega)) (wq (eV (((8 + 40 * i + 36 : Nat) : Int)) (((n : Nat) : Int)) gE rfl ⟨_, rfl⟩ rfl (by omega) (by omega) (by omega)) rfl ?_))))
     refine bZ oF rfl rfl (iX _ _ _ _ ((ls.drop (8 + 40 * i + 36)).take (n - (8 + 40 * i + 36))) (Rd.subB (R.mem M42) (8 + 40 * i + 36) (n) (by omega) (by omega) hcap) (hB.sub _ _) (by omega)) ?_
     rintro v43 w43 ⟨rfl, hb43⟩
     have M43 := M42.callB hb43
     refine aK 43 (.int .u32 (eH ls (8 + 40 * i + 36))) (iE (fH (by omega))) (wq (bX (9) iC rfl rfl rfl (by decide)) rfl (cZ 1 (.int _ _) bU M43 rfl rfl rfl rfl rfl rfl (fun w44 M44 => (aB (cO (aC (aA ?_)))))))
     refine wq (aY rfl rfl (by first | decide | omega) (by first | decide | omega)) rfl (aK 45 (.int .i64 10) (iE (by first | decide | omega)) (aO rfl rfl (aB (aC (fG (dW (fr := [(0, .slice _ _ _), (2, .slice _ _ _), (3, .int .i64 0), (5, .slice _ _ _), (6, .int _ _), (7, .pointer _), (8, .int .i64 9), (28, .int _ _), (29, .int _ _), (32, .int .i64 10)]) (bA rfl (bA rfl (bA rfl (bA rfl (bA rfl (bA rfl (bA rfl (bA rfl (bA rfl (bA rfl dX)))))))))) (fun ρ45 => ?_)))))))
     refine aE (aA (cX rfl rfl rfl rfl (pA 33 rfl (by first | decide | omega) (aB (aC (aE (cM rfl (cV ?_))))))))
     refine dD (dD (eO (aC (aA (dN rfl rfl (wq (aU 1 aOe M44 rfl rfl rfl) rfl (bZ bIl rfl rfl (aHc _ _ _ _ _ _ _ _ _ _ _ (bKk hB (a := 8 + 40 * i) (by omega))) ?_)))))))
     rintro v46 w46 ⟨rfl, hb46⟩
     have M46 := M44.callB hb46
     refine aK 48 ((.agg (aF (nS ls (8 + 40 * i))).toArray)) rfl (cU [.agg (List.toArray _)] [aF (nS ls (8 + 40 * i))] rfl dF M46 rfl rfl rfl rfl (dE rfl) (by decide) (fun b47 w47 M47 => (dL 0 [aF (nS ls (8 + 40 * i))] dF M47 rfl rfl rfl rfl rfl hq rfl (by simp [aF, Go.Bil.one]) (dR.ofMem 2 M47 rfl) (by omega) (fun A48 c48 e48 w48 M48 hR48 => ?_))))
     refine eN rfl rfl (aB (cO (aC (aA (wq (aY rfl rfl (by omega) (by omega)) rfl (aO rfl rfl ?_))))))
     refine aB ?_
     refine cD (i + 1, ⟨A48, q.n + 1, c48, e48⟩) (bA rfl (bA rfl dX)) (cL rfl (cL rfl (cL rfl (cL rfl gO)))) ?_ ?_
     ·exact ⟨⟨by omega, by rw [aGe, List.map_append]; exact hR48⟩, M48.keep [true, false, false]⟩
     ·(show N - (i + 1) < N - i; omega)
    ·obtain rfl : i = N := by omega
     refine cV (dD (dK (eO (aC (aE (aE (aA (dN rfl rfl ?_))))))))
     refine bZ bFx rfl rfl (aCq _ _ _ _ (oI ls i) (hq.rd hM4 (bJ (i := 0) rfl))) ?_
     rintro v49 w49 ⟨rfl, hb49⟩
     have M49 := hM4.callB hb49
     refine bC rfl rfl (aB (aC (aE (aA (aO rfl rfl (cX rfl rfl rfl rfl (aB (aC ?_))))))))
     refine aS rfl (fun h55 => ?_) (fun h55 => ?_)
     ·refine aE (aA (aO rfl rfl (eN rfl rfl (bC rfl rfl (aB (aC (aP (cH (gA (.slice _ _ _) (.int _ _) rfl rfl ?_)))))))))
      have hd := aQc hfm hN h55
      exact ⟨⟨none, 0, 0, (none, default)⟩, by rw [hd], by rw [hd]; exact bH.nil _ _ _, (M49.keep [false]).dummy default⟩
     ·refine aL (aC (aE (aA (dN rfl rfl (eN rfl rfl (bC rfl rfl (aB (aC (aP (gA (.slice _ _ _) (.int _ _) rfl rfl ?_))))))))))
      have hd := aMg hfm hN (Decidable.not_not.1 h55)
      exact ⟨q, by rw [hd], by rw [hd]; exact hq, M49⟩
set_option maxHeartbeats 4000000 in
theorem gX (w : World) (n : Int) (hn : -2147483648 ≤ n ∧ n ≤ 4294967295) :
  Calls Tryz.prog 92 #[.int .i64 n] w (fun ex w' => ∃ v, ex = .returned v ∧ (fun v w' => ∃ q : Row, v = .slice q.A q.n q.c ∧ q.n = 4 ∧ bH 5 1 q.A q.n q.c ((fO n).map bQ) q.e ∧ Mem w [] [q.e] w') v w') := by
 obtain ⟨m, hm⟩ : ∃ m, m = n % 4294967296 := ⟨_, rfl⟩
 have hmr : 0 ≤ m ∧ m ≤ 4294967296 := by omega
 have hwm : fO m = fO n := by rw [hm]; exact tB n
 refine aI #[.tmp 2] 19 Tryz.func92 rfl Tryz.results92 Tryz.ntmps92 rfl ?_
 have M0 := Mem.refl w
 refine aE (aA (eN rfl rfl (aB (aC (aE (aE (aA (aO rfl rfl (cX rfl rfl rfl rfl (aB (aC ?_)))))))))))
 refine aS rfl (fun h4 => ?_) (fun h4 => ?_)
 ·refine aA (aO rfl rfl (wq (aY rfl rfl (by omega) (by omega)) rfl (aK 6 (.int .i64 m) (iE (by omega)) (bC rfl rfl (aB (aC (aE (aA ?_))))))))
  refine aO rfl rfl (aK 7 (.int .i64 m) (iE (by omega)) (wq (fY rfl rfl (by decide)) rfl (aK 8 (.int .i64 (m / 16777216)) (iE (pT (by omega) (by omega))) (wq (dA lK Tryz.underlying5 rfl) rfl (aK 9 (.int .u8 (m / 16777216 % 256)) (iE (wr8 _)) ?_)))))
  refine aO rfl rfl (aK 10 (.int .i64 m) (iE (by omega)) (wq (fY rfl rfl (by decide)) rfl (aK 11 (.int .i64 (m / 65536)) (iE (pT (by omega) (by omega))) (wq (dA lK Tryz.underlying5 rfl) rfl (aK 12 (.int .u8 (m / 65536 % 256)) (iE (wr8 _)) ?_)))))
  refine aO rfl rfl (aK 13 (.int .i64 m) (iE (by omega)) (wq (fY rfl rfl (by decide)) rfl (aK 14 (.int .i64 (m / 256)) (iE (pT (by omega) (by omega))) (wq (dA lK Tryz.underlying5 rfl) rfl (aK 15 (.int .u8 (m / 256 % 256)) (iE (wr8 _)) ?_)))))
  refine aO rfl rfl (aK 16 (.int .i64 m) (iE (by omega)) (wq (dA lK Tryz.underlying5 rfl) rfl (aK 17 (.int .u8 (m % 256)) (iE (wr8 _)) (cU [.int _ _, .int _ _, .int _ _, .int _ _] ((fO m).map bQ) rfl gE M0 rfl rfl rfl rfl (dE rfl) (by decide) (fun b1 w1 M1 => ?_)))))
  have hlit18 := jT (T := 5) (b := b1) ((fO m).map bQ) (oH _) rfl (show 4 ≤ 281474976710656 by decide)
  refine eN rfl rfl (aB (aC (aP (cE (.slice _ _ _) rfl ?_))))
  exact ⟨⟨some ⟨b1, 0, none⟩, 4, 4, _⟩, rfl, rfl, by rw [← hwm]; exact hlit18, M1⟩
 ·refine aL (aC (aE (aA (aO rfl rfl (aK 7 (.int .i64 m) (iE (by omega)) (wq (fY rfl rfl (by decide)) rfl (aK 8 (.int .i64 (m / 16777216)) (iE (pT (by omega) (by omega))) (wq (dA lK Tryz.underlying5 rfl) rfl ?_))))))))
  refine aK 9 (.int .u8 (m / 16777216 % 256)) (iE (wr8 _)) (aO rfl rfl (aK 10 (.int .i64 m) (iE (by omega)) (wq (fY rfl rfl (by decide)) rfl (aK 11 (.int .i64 (m / 65536)) (iE (pT (by omega) (by omega))) (wq (dA lK Tryz.underlying5 rfl) rfl ?_)))))
  refine aK 12 (.int .u8 (m / 65536 % 256)) (iE (wr8 _)) (aO rfl rfl (aK 13 (.int .i64 m) (iE (by omega)) (wq (fY rfl rfl (by decide)) rfl (aK 14 (.int .i64 (m / 256)) (iE (pT (by omega) (by omega))) (wq (dA lK Tryz.underlying5 rfl) rfl ?_)))))
  refine aK 15 (.int .u8 (m / 256 % 256)) (iE (wr8 _)) (aO rfl rfl (aK 16 (.int .i64 m) (iE (by omega)) (wq (dA lK Tryz.underlying5 rfl) rfl (aK 17 (.int .u8 (m % 256)) (iE (wr8 _)) (cU [.int _ _, .int _ _, .int _ _, .int _ _] ((fO m).map bQ) rfl gE M0 rfl rfl rfl rfl (dE rfl) (by decide) (fun b2 w2 M2 => ?_))))))
  have hlit18 := jT (T := 5) (b := b2) ((fO m).map bQ) (oH _) rfl (show 4 ≤ 281474976710656 by decide)
  refine eN rfl rfl (aB (aC (aP (cE (.slice _ _ _) rfl ?_))))
  exact ⟨⟨some ⟨b2, 0, none⟩, 4, 4, _⟩, rfl, rfl, by rw [← hwm]; exact hlit18, M2⟩
set_option maxHeartbeats 4000000 in
theorem qW (w : World) (A : Option Addr) (n c : Nat) (ls : List Int) (R : Rd w 1 A n (ls.map bQ)) (hB : lW ls) (h4 : 4 ≤ n) :
  Calls Tryz.prog 93 #[.slice A n c] w (fun ex w' => ∃ v, ex = .returned v ∧ (fun v w' => v = .int .i64 (eH ls 0) ∧ Below w.heap.size w w') v w') := by
 have hlen : ls.length = n := by simpa using R.len
 have hbd := R.bound
 obtain ⟨x0, hx0⟩ := cT (xs := ls) (k := 0) hlen (by omega)
 obtain ⟨x1, hx1⟩ := cT (xs := ls) (k := 1) hlen (by omega)
 obtain ⟨x2, hx2⟩ := cT (xs := ls) (k := 2) hlen (by omega)
 obtain ⟨x3, hx3⟩ := cT (xs := ls) (k := 3) hlen (by omega)
 obtain ⟨g0, g1⟩ := hB x0 (List.mem_of_getElem? hx0)
 obtain ⟨g2, g3⟩ := hB x1 (List.mem_of_getElem? hx1)
 obtain ⟨g4, g5⟩ := hB x2 (List.mem_of_getElem? hx2)
 obtain ⟨g6, g7⟩ := hB x3 (List.mem_of_getElem? hx3)
 have hnum : eH ls 0 = ((x0 * 256 + x1) * 256 + x2) * 256 + x3 := by unfold eH; simp only [List.getD_eq_getElem?_getD, Nat.zero_add, hx0, hx1, hx2, hx3, Option.getD_some]
 refine aI #[.tmp 2] 25 Tryz.func93 rfl Tryz.results93 Tryz.ntmps93 rfl ?_
 have M0 := Mem.refl w
 refine aE (aA (bC rfl rfl (aB (aC (aE (bR [(0, 0), (1, 1), (2, 1), (3, 0), (4, 0), (5, 0), (6, 1), (7, 1), (8, 0), (9, 0), (10, 0), (11, 0), (12, 1), (13, 1), (14, 0), (15, 0), (16, 0), (17, 0), (18, 1), (19, 1), (20, 0), (21, 0), (22, 0)] mixed rfl (by kernel_rfl) (fun w1 hb1 hh1 => ?_)))))))
 have M1 := M0.drew hb1 hh1
 refine kQ rfl rfl rfl (bV rfl rfl rfl (bN (0) gE rfl rfl rfl ((R.mem M1).below_len (aG bQ hx0)) ((R.mem M1).someK (aG bQ hx0))) (bV rfl rfl rfl (iS (.int _ _) aEv (R.mem M1) (aG bQ hx0) rfl) (aX rfl rfl rfl (fun _ => aZ us5 Tryz.underlying2 rfl (fC _ (by omega) (by omega))) ?_)))
 refine aX rfl rfl rfl (fun _ => eS rfl rfl (by omega) (by omega)) (kQ rfl rfl rfl (bV rfl rfl rfl (bN (1) gE rfl rfl rfl ((R.mem M1).below_len (aG bQ hx1)) ((R.mem M1).someK (aG bQ hx1))) (bV rfl rfl rfl (iS (.int _ _) aEv (R.mem M1) (aG bQ hx1) rfl) (aX rfl rfl rfl (fun _ => aZ us5 Tryz.underlying2 rfl (fC _ (by omega) (by omega))) ?_))))
 refine aX rfl rfl rfl (fun _ => aY rfl rfl (by omega) (by omega)) (aX rfl rfl rfl (fun _ => eS rfl rfl (by omega) (by omega)) (kQ rfl rfl rfl (bV rfl rfl rfl (bN (2) gE rfl rfl rfl ((R.mem M1).below_len (aG bQ hx2)) ((R.mem M1).someK (aG bQ hx2))) (bV rfl rfl rfl (iS (.int _ _) aEv (R.mem M1) (aG bQ hx2) rfl) ?_))))
 refine aX rfl rfl rfl (fun _ => aZ us5 Tryz.underlying2 rfl (fC _ (by omega) (by omega))) (aX rfl rfl rfl (fun _ => aY rfl rfl (by omega) (by omega)) (aX rfl rfl rfl (fun _ => eS rfl rfl (by omega) (by omega)) (kQ rfl rfl rfl (bV rfl rfl rfl (bN (3) gE rfl rfl rfl ((R.mem M1).below_len (aG bQ hx3)) ((R.mem M1).someK (aG bQ hx3))) ?_))))
 refine bV rfl rfl rfl (iS (.int _ _) aEv (R.mem M1) (aG bQ hx3) rfl) (aX rfl rfl rfl (fun _ => aZ us5 Tryz.underlying2 rfl (fC _ (by omega) (by omega))) (aX rfl rfl rfl (fun _ => aY rfl rfl (by omega) (by omega)) (lM rfl rfl rfl (bY (aC (aP ?_))))))
 refine cE (.int _ _) rfl ?_
 exact ⟨iE (by rw [hnum]), M1.below⟩
set_option maxHeartbeats 4000000 in
theorem gR (w : World) (A : Option Addr) (n c : Nat) (ls : List Int) (R : Rd w 1 A n (ls.map bQ)) (hB : lW ls) (h4 : 4 ≤ n) :
  Calls Tryz.prog 94 #[.slice A n c] w (fun ex w' => ∃ v, ex = .returned v ∧ (fun v w' => v = .int .i32 (kF (eH ls 0)) ∧ Below w.heap.size w w') v w') := by
 have hlen : ls.length = n := by simpa using R.len
 have hbd := R.bound
 obtain ⟨hr1, hr2, _⟩ := lR hB (a := 0) (by omega)
 have hsg := mG ⟨hr1, hr2⟩
 refine aI #[.tmp 2] 12 Tryz.func94 rfl Tryz.results94 Tryz.ntmps94 rfl ?_
 have M0 := Mem.refl w
 refine aE (aA (bC rfl rfl (aB (aC (aE (aA (dN rfl rfl (bZ bAy rfl rfl (qW _ A n c ls (R.mem M0) hB h4) ?_))))))))
 rintro v1 w1 ⟨rfl, hb1⟩
 have M1 := M0.callB hb1
 refine bC rfl rfl (aB (aC (aE (aE (aA (aO rfl rfl (cX rfl rfl rfl rfl (aB (aC ?_)))))))))
 refine aS rfl (fun h7 => ?_) (fun h7 => ?_)
 ·refine aA (aO rfl rfl (wq (fX rfl rfl (by omega) (by omega)) rfl (bC rfl rfl (aB (aC (aE (aA (aO rfl rfl ?_))))))))
  refine wq (dA lK Tryz.underlying21 rfl) rfl (aK 11 (.int .i32 (kF (eH ls 0))) (iE (by first | (rw [show eH ls 0 - 4294967296 = kF (eH ls 0) by unfold kF; rw [if_pos (by omega)]]; exact iP _ (by omega) (by omega)) | (rw [show kF (eH ls 0) = eH ls 0 by unfold kF; rw [if_neg (by omega)]]; exact iP _ (by omega) (by omega)))) ?_)
  refine bC rfl rfl (aB (aC (aP (cE (.int _ _) rfl ?_))))
  exact ⟨rfl, M1.below⟩
 ·refine aL (aC (aE (aA (aO rfl rfl (wq (dA lK Tryz.underlying21 rfl) rfl (aK 11 (.int .i32 (kF (eH ls 0))) (iE (by first | (rw [show eH ls 0 - 4294967296 = kF (eH ls 0) by unfold kF; rw [if_pos (by omega)]]; exact iP _ (by omega) (by omega)) | (rw [show kF (eH ls 0) = eH ls 0 by unfold kF; rw [if_neg (by omega)]]; exact iP _ (by omega) (by omega)))) ?_))))))
  refine bC rfl rfl (aB (aC (aP (cE (.int _ _) rfl ?_))))
  exact ⟨rfl, M1.below⟩
set_option maxHeartbeats 4000000 in
theorem aPl (w : World) (A : Option Addr) (n c : Nat) (xs : List Int) (R : Rd w 1 A n (xs.map bQ)) (B : Option Addr) (m c' : Nat) (ys : List Int) (R' : Rd w 1 B m (ys.map bQ)) :
  Calls Tryz.prog 33 #[.slice A n c, .slice B m c'] w (fun ex w' => ∃ v, ex = .returned v ∧ (fun v w' => v = .bool (decide (xs = ys)) ∧ Below w.heap.size w w') v w') := by
 have hlen : xs.length = n := by simpa using R.len
 have hlen' : ys.length = m := by simpa using R'.len
 have hbd := R.bound
 have hbd' := R'.bound
 refine aI #[.tmp 4] 26 Tryz.func33 rfl Tryz.results33 Tryz.ntmps33 rfl ?_
 have M0 := Mem.refl w
 refine aE (aA (wq (aJ (.bool false) rfl) rfl (aB (aC (aE (aE (aA (dN rfl rfl (wq (dB Tryz.underlying57 rfl) rfl (dN rfl rfl ?_))))))))))
 refine wq (dB Tryz.underlying57 rfl) rfl (cX rfl rfl rfl rfl (aB (aC ?_)))
 refine aS rfl (fun h10 => ?_) (fun h10 => ?_)
 ·refine aE (aA (wq (aJ (.bool false) rfl) rfl (aB (aC (aP (cH (cE (.bool false) rfl ?_)))))))
  exact ⟨bF (fun e => h10 (by rw [← hlen, ← hlen', e])), M0.below⟩
 ·have hnm : n = m := by omega
  refine aL (aC (aE (aE (aA (bC rfl rfl (aB (aC (aQ (dQ (σ := Nat) [0, 1] (fun k => [(5, .int .i64 (k : Int))]) (fun k w' => (k ≤ n ∧ ∀ (j : Nat) (x : Int), j < k → xs[j]? = some x → ys[j]? = some x) ∧ Mem w [] [] w') (fun k => n - k) 0 (bA rfl dX) (⟨⟨by omega, fun j c hj => by omega⟩, M0⟩) ?_)))))))))
  rintro k ρ1 w1 ⟨⟨hk, hne⟩, hM1⟩
  refine aE (aE (aA (aO rfl rfl (dN rfl rfl (wq (dB Tryz.underlying57 rfl) rfl (cX rfl rfl rfl rfl (aB (aC ?_))))))))
  refine aS rfl (fun h14 => ?_) (fun h14 => ?_)
  ·obtain ⟨xb, hxb⟩ := cT (xs := xs) (k := k) hlen (by omega)
   obtain ⟨yb, hyb⟩ := cT (xs := ys) (k := k) hlen' (by omega)
   refine aL (aC (aE (aQ (aE (bR [(0, 0), (1, 0), (2, 1), (3, 1), (4, 0), (5, 0), (6, 1), (7, 1), (8, 0)] mixed rfl (by kernel_rfl) (fun w2 hb2 hh2 => ?_))))))
   have M2 := hM1.drew hb2 hh2
   refine kQ rfl rfl rfl (eF rfl rfl rfl (bV rfl rfl rfl (bN (k) gE rfl rfl rfl ((R.mem M2).below_len (aG bQ hxb)) ((R.mem M2).someK (aG bQ hxb))) (bV rfl rfl rfl (iS (.int _ _) aEv (R.mem M2) (aG bQ hxb) rfl) (kQ rfl rfl rfl (eF rfl rfl rfl ?_)))))
   refine bV rfl rfl rfl (bN (k) gE rfl rfl rfl ((R'.mem M2).below_len (aG bQ hyb)) ((R'.mem M2).someK (aG bQ hyb))) (bV rfl rfl rfl (iS (.int _ _) aEv (R'.mem M2) (aG bQ hyb) rfl) (aX rfl rfl rfl (fun _ => cA (.bool (decide _)) rfl rfl rfl) (bY (aC ?_))))
   refine aS rfl (fun h25 => ?_) (fun h25 => ?_)
   ·refine aE (aA (wq (aJ (.bool false) rfl) rfl (aB (aC (aP (jP (cH (pD ?_))))))))
    refine jP (cH (cE (.bool false) rfl ?_))
    exact ⟨bF (fun e => h25 (by rw [e] at hxb; rw [hxb] at hyb; injection hyb)), M2.below⟩
   ·refine aL (cO (aC (aA (aO rfl rfl (wq (aY rfl rfl (by omega) (by omega)) rfl (bC rfl rfl ?_))))))
    refine aB ?_
    refine cD (k + 1) (bA rfl dX) (cL rfl (cL rfl gO)) ?_ ?_
    ·exact ⟨⟨by omega, oS (p := fun j x => ys[j]? = some x) hne hxb (by rw [hyb, Decidable.not_not.1 h25])⟩, M2⟩
    ·omega
  ·refine cV (dD (dK (eO (aC (aE (aA (wq (aJ (.bool true) rfl) rfl ?_)))))))
   refine aB (aC (aP (cE (.bool true) rfl ?_)))
   exact ⟨bT (aVx hlen hlen' hnm (fun j x hj hx => hne j x (by omega) hx)), hM1.below⟩
set_option maxHeartbeats 16000000 in
theorem aLj (w : World) (A : Option Addr) (n c : Nat) (xs : List Body) (R : Rd w 10 A n (xs.map aF)) (hn : n ≤ 4096) (hb : ∀ b ∈ xs, InB b) :
  Calls Tryz.prog 62 #[.slice A n c] w (fun ex w' => ∃ v, ex = .returned v ∧ (fun v w' => ∃ q : Row, v = .slice q.A q.n q.c ∧ bH 5 1 q.A q.n q.c ((aJe xs).map bQ) q.e ∧ Mem w [] [q.e] w') v w') := by
 have hlen : xs.length = n := by simpa using R.len
 have hbd := R.bound
 refine aI #[.tmp 2] 84 Tryz.func62 rfl Tryz.results62 Tryz.ntmps62 rfl ?_
 have M0 := Mem.refl w
 refine aE (aA (eN rfl rfl (aB (aC (aE (aA (cU [.int _ _, .int _ _, .int _ _, .int _ _] (jQ.map bQ) rfl gE M0 rfl rfl rfl rfl (dE rfl) (by decide) (fun b1 w1 M1 => ?_))))))))
 have hlit6 := jT (T := 5) (b := b1) (jQ.map bQ) (oH _) rfl (by decide)
 refine aHd 0 Tryz.underlying57 Tryz.underlying5 M1 rfl rfl rfl rfl hlit6 (by decide) (fun e2 w2 M2 hR2 => (dN rfl rfl (wq (dB Tryz.underlying22 rfl) rfl (bZ sM rfl rfl (gX _ (n : Int) (by omega)) ?_))))
 rintro v3 w3 ⟨q0, rfl, hn0, hw0, hM3⟩
 have M3 : Mem _ _ [_, _] _ := M2.call0 hM3
 refine gK 0 ((fO (n : Int)).map bQ) gE M3 rfl rfl rfl rfl rfl hR2 (hw0.rd M3 (bJ (i := 1) rfl)) (gZ _) (by omega) (fun A4 c4 e4 w4 M4 hR4 hA4 => (eN rfl rfl (aB (aC (aE (aE (aA (bC rfl rfl (aB (aC (aQ (dQ (σ := Nat × Row) [0, 2] (fun (k, q) => [(3, .slice q.A q.n q.c), (4, .int .i64 (k : Int))]) (fun (k, q) w' => (k ≤ n ∧ q.n = 8 + 40 * k ∧ bH 5 1 q.A q.n q.c (((jQ ++ fO (n : Int)) ++ (xs.take k).flatMap uZ).map bQ) q.e) ∧ Mem w [] [q.e] w') (fun (k, q) => n - k) (0, ⟨A4, 4 + q0.n, c4, e4⟩) (bA rfl (bA rfl dX)) (⟨⟨by omega, (show 4 + q0.n = 8 by omega), by rw [List.take_zero, List.flatMap_nil, List.append_nil, List.map_append]; exact hR4⟩, M4.keep [true, false]⟩) ?_))))))))))))
 rintro ⟨k, q⟩ ρ5 w5 ⟨⟨hk, hqn, hq⟩, hM5⟩
 refine aE (aE (aA (aO rfl rfl (dN rfl rfl (wq (dB Tryz.underlying22 rfl) rfl (cX rfl rfl rfl rfl (aB (aC ?_))))))))
 refine aS rfl (fun h15 => ?_) (fun h15 => ?_)
 ·obtain ⟨xb, hxb⟩ := cT (xs := xs) (k := k) hlen (by omega)
  obtain ⟨i0, i1, i2, i3, i4, i5, i6, i7, i8, i9⟩ := hb xb (List.mem_of_getElem? hxb)
  refine aL (aC (aE (aQ (aE (aA (dN rfl rfl (aO rfl rfl (wq (bN (k) dF rfl rfl rfl ((R.mem hM5).below_len (aG aF hxb)) ((R.mem hM5).someK (aG aF hxb))) rfl (wq (dJ _ bK (R.mem hM5) (aG aF hxb) rfl) rfl (aV fJ hM5 rfl rfl (fun b6 w6 M6 => ?_)))))))))))
  refine bG 1 _ bK M6 rfl rfl rfl rfl rfl (aT rfl) rfl (fun w7 M7 => (aB (aC (aE (bR [(0, 0), (1, 0), (2, 1), (3, 0), (6, 0), (7, 1), (8, 0), (4, 2), (5, 2), (9, 2), (10, 2), (11, 0)] mixed rfl (by kernel_rfl) (fun w8 hb8 hh8 => ?_))))))
  have M8 := M7.drew hb8 hh8
  refine kQ rfl rfl rfl (aX rfl rfl rfl (fun _ => aD 0 dH rfl) (bV rfl rfl rfl (aM 1 (.int _ _) bU M8 rfl rfl rfl) (aX rfl rfl rfl (fun _ => aZ tP Tryz.underlying2 rfl (fC _ (by omega) (by omega))) (aX rfl rfl rfl (fun _ => aD 1 kT rfl) (bV rfl rfl rfl (aM 1 (.int _ _) aR M8 rfl rfl rfl) ?_)))))
  refine aX rfl rfl rfl (fun _ => aZ dO Tryz.underlying2 rfl (fC _ (by omega) (by omega))) (dS [false, true] rfl (by kernel_rfl) (bZ sM rfl rfl (gX _ xb.key (by omega)) ?_))
  rintro v9 w9 ⟨q9, rfl, hn9, hw9, hM9⟩
  have M9 : Mem _ _ [_, _, _] _ := M8.call0 hM9
  refine aB (aC ⟨(eD (bL rfl (aM 1 (.int _ _) aR M9 rfl rfl rfl)) dT), ?_⟩)
  refine dS [false] rfl (by kernel_rfl) (gK 0 ((fO xb.key).map bQ) gE M9 rfl rfl rfl rfl rfl hq (hw9.rd M9 (bJ (i := 2) rfl)) (gZ _) (by omega) (fun A10 c10 e10 w10 M10 hR10 hA10 => ?_))
  refine aB (aC ⟨(eD (bL rfl (aM 1 (.int _ _) aR M10 rfl rfl rfl)) dT), ?_⟩)
  refine dS [true] rfl (by kernel_rfl) (bZ sM rfl rfl (gX _ xb.radius (by omega)) ?_)
  rintro v11 w11 ⟨q11, rfl, hn11, hw11, hM11⟩
  have M11 : Mem _ _ [_, _, _, _] _ := M10.call0 hM11
  refine aB (aC ⟨dT, ?_⟩)
  refine dS [] rfl (by kernel_rfl) (gK 0 ((fO xb.radius).map bQ) gE M11 rfl rfl rfl rfl rfl hR10 (hw11.rd M11 (bJ (i := 3) rfl)) (gZ _) (by omega) (fun A12 c12 e12 w12 M12 hR12 hA12 => ?_))
  refine aB (aC ⟨dT, ?_⟩)
  refine aX rfl rfl rfl (fun _ => aJ (.slice _ _ _) rfl) (bY (aC (aE (bR [(0, 0), (1, 0), (2, 0), (3, 1), (4, 0), (7, 0), (8, 0), (9, 1), (10, 0), (5, 2), (6, 2), (11, 2), (12, 2), (13, 0)] mixed rfl (by kernel_rfl) (fun w13 hb13 hh13 => ?_)))))
  have M13 := M12.drew hb13 hh13
  refine kQ rfl rfl rfl (aX rfl rfl rfl (fun _ => aD 2 iH rfl) (aX rfl rfl rfl (fun _ => aD 0 cQ rfl) (bV rfl rfl rfl (aM 1 (.int _ _) aR M13 rfl rfl rfl) (aX rfl rfl rfl (fun _ => aZ dO Tryz.underlying2 rfl (fC _ (by omega) (by omega))) (aX rfl rfl rfl (fun _ => aD 2 iH rfl) ?_)))))
  refine aX rfl rfl rfl (fun _ => aD 1 cK rfl) (bV rfl rfl rfl (aM 1 (.int _ _) aR M13 rfl rfl rfl) (aX rfl rfl rfl (fun _ => aZ dO Tryz.underlying2 rfl (fC _ (by omega) (by omega))) (dS [false, true] rfl (by kernel_rfl) (bZ sM rfl rfl (gX _ xb.ax (by omega)) ?_))))
  rintro v14 w14 ⟨q14, rfl, hn14, hw14, hM14⟩
  have M14 : Mem _ _ [_, _, _, _, _] _ := M13.call0 hM14
  refine aB (aC ⟨(eD (bL rfl (aM 1 (.int _ _) aR M14 rfl rfl rfl)) dT), ?_⟩)
  refine dS [false] rfl (by kernel_rfl) (gK 0 ((fO xb.ax).map bQ) gE M14 rfl rfl rfl rfl rfl hR12 (hw14.rd M14 (bJ (i := 4) rfl)) (gZ _) (by omega) (fun A15 c15 e15 w15 M15 hR15 hA15 => ?_))
  refine aB (aC ⟨(eD (bL rfl (aM 1 (.int _ _) aR M15 rfl rfl rfl)) dT), ?_⟩)
  refine dS [true] rfl (by kernel_rfl) (bZ sM rfl rfl (gX _ xb.ay (by omega)) ?_)
  rintro v16 w16 ⟨q16, rfl, hn16, hw16, hM16⟩
  have M16 : Mem _ _ [_, _, _, _, _, _] _ := M15.call0 hM16
  refine aB (aC ⟨dT, ?_⟩)
  refine dS [] rfl (by kernel_rfl) (gK 0 ((fO xb.ay).map bQ) gE M16 rfl rfl rfl rfl rfl hR15 (hw16.rd M16 (bJ (i := 5) rfl)) (gZ _) (by omega) (fun A17 c17 e17 w17 M17 hR17 hA17 => ?_))
  refine aB (aC ⟨dT, ?_⟩)
  refine aX rfl rfl rfl (fun _ => aJ (.slice _ _ _) rfl) (bY (aC (aE (bR [(0, 0), (1, 0), (2, 1), (3, 0), (6, 0), (7, 1), (8, 0), (4, 2), (5, 2), (9, 2), (10, 2), (11, 0)] mixed rfl (by kernel_rfl) (fun w18 hb18 hh18 => ?_)))))
  have M18 := M17.drew hb18 hh18
  refine kQ rfl rfl rfl (aX rfl rfl rfl (fun _ => aD 4 eC rfl) (bV rfl rfl rfl (aM 1 (.int _ _) aR M18 rfl rfl rfl) (aX rfl rfl rfl (fun _ => aZ dO Tryz.underlying2 rfl (fC _ (by omega) (by omega))) (aX rfl rfl rfl (fun _ => aD 5 mK rfl) (bV rfl rfl rfl (aM 1 (.int _ _) aR M18 rfl rfl rfl) ?_)))))
  refine aX rfl rfl rfl (fun _ => aZ dO Tryz.underlying2 rfl (fC _ (by omega) (by omega))) (dS [false, true] rfl (by kernel_rfl) (bZ sM rfl rfl (gX _ xb.mass (by omega)) ?_))
  rintro v19 w19 ⟨q19, rfl, hn19, hw19, hM19⟩
  have M19 : Mem _ _ [_, _, _, _, _, _, _] _ := M18.call0 hM19
  refine aB (aC ⟨(eD (bL rfl (aM 1 (.int _ _) aR M19 rfl rfl rfl)) dT), ?_⟩)
  refine dS [false] rfl (by kernel_rfl) (gK 0 ((fO xb.mass).map bQ) gE M19 rfl rfl rfl rfl rfl hR17 (hw19.rd M19 (bJ (i := 6) rfl)) (gZ _) (by omega) (fun A20 c20 e20 w20 M20 hR20 hA20 => ?_))
  refine aB (aC ⟨(eD (bL rfl (aM 1 (.int _ _) aR M20 rfl rfl rfl)) dT), ?_⟩)
  refine dS [true] rfl (by kernel_rfl) (bZ sM rfl rfl (gX _ xb.bounce (by omega)) ?_)
  rintro v21 w21 ⟨q21, rfl, hn21, hw21, hM21⟩
  have M21 : Mem _ _ [_, _, _, _, _, _, _, _] _ := M20.call0 hM21
  refine aB (aC ⟨dT, ?_⟩)
  refine dS [] rfl (by kernel_rfl) (gK 0 ((fO xb.bounce).map bQ) gE M21 rfl rfl rfl rfl rfl hR20 (hw21.rd M21 (bJ (i := 7) rfl)) (gZ _) (by omega) (fun A22 c22 e22 w22 M22 hR22 hA22 => ?_))
  refine aB (aC ⟨dT, ?_⟩)
  refine aX rfl rfl rfl (fun _ => aJ (.slice _ _ _) rfl) (bY (aC (aE (bR [(0, 0), (1, 0), (2, 0), (3, 1), (4, 0), (7, 0), (8, 0), (9, 1), (10, 0), (5, 2), (6, 2), (11, 2), (12, 2), (13, 0)] mixed rfl (by kernel_rfl) (fun w23 hb23 hh23 => ?_)))))
  have M23 := M22.drew hb23 hh23
  refine kQ rfl rfl rfl (aX rfl rfl rfl (fun _ => aD 6 fD rfl) (aX rfl rfl rfl (fun _ => aD 0 cQ rfl) (bV rfl rfl rfl (aM 1 (.int _ _) aR M23 rfl rfl rfl) (aX rfl rfl rfl (fun _ => aZ dO Tryz.underlying2 rfl (fC _ (by omega) (by omega))) (aX rfl rfl rfl (fun _ => aD 6 fD rfl) ?_)))))
  refine aX rfl rfl rfl (fun _ => aD 1 cK rfl) (bV rfl rfl rfl (aM 1 (.int _ _) aR M23 rfl rfl rfl) (aX rfl rfl rfl (fun _ => aZ dO Tryz.underlying2 rfl (fC _ (by omega) (by omega))) (dS [false, true] rfl (by kernel_rfl) (bZ sM rfl rfl (gX _ xb.px (by omega)) ?_))))
  rintro v24 w24 ⟨q24, rfl, hn24, hw24, hM24⟩
  have M24 : Mem _ _ [_, _, _, _, _, _, _, _, _] _ := M23.call0 hM24
  refine aB (aC ⟨(eD (bL rfl (aM 1 (.int _ _) aR M24 rfl rfl rfl)) dT), ?_⟩)
  refine dS [false] rfl (by kernel_rfl) (gK 0 ((fO xb.px).map bQ) gE M24 rfl rfl rfl rfl rfl hR22 (hw24.rd M24 (bJ (i := 8) rfl)) (gZ _) (by omega) (fun A25 c25 e25 w25 M25 hR25 hA25 => ?_))
  refine aB (aC ⟨(eD (bL rfl (aM 1 (.int _ _) aR M25 rfl rfl rfl)) dT), ?_⟩)
  refine dS [true] rfl (by kernel_rfl) (bZ sM rfl rfl (gX _ xb.py (by omega)) ?_)
  rintro v26 w26 ⟨q26, rfl, hn26, hw26, hM26⟩
  have M26 : Mem _ _ [_, _, _, _, _, _, _, _, _, _] _ := M25.call0 hM26
  refine aB (aC ⟨dT, ?_⟩)
  refine dS [] rfl (by kernel_rfl) (gK 0 ((fO xb.py).map bQ) gE M26 rfl rfl rfl rfl rfl hR25 (hw26.rd M26 (bJ (i := 9) rfl)) (gZ _) (by omega) (fun A27 c27 e27 w27 M27 hR27 hA27 => ?_))
  refine aB (aC ⟨dT, ?_⟩)
  refine aX rfl rfl rfl (fun _ => aJ (.slice _ _ _) rfl) (bY (aC (bR [(0, 0), (1, 0), (2, 0), (3, 1), (4, 0), (7, 0), (8, 0), (9, 1), (10, 0), (5, 2), (6, 2), (11, 2), (12, 2), (13, 0)] mixed rfl (by kernel_rfl) (fun w28 hb28 hh28 => ?_))))
  have M28 := M27.drew hb28 hh28
  refine kQ rfl rfl rfl (aX rfl rfl rfl (fun _ => aD 8 dP rfl) (aX rfl rfl rfl (fun _ => aD 0 cQ rfl) (bV rfl rfl rfl (aM 1 (.int _ _) aR M28 rfl rfl rfl) (aX rfl rfl rfl (fun _ => aZ dO Tryz.underlying2 rfl (fC _ (by omega) (by omega))) (aX rfl rfl rfl (fun _ => aD 8 dP rfl) ?_)))))
  refine aX rfl rfl rfl (fun _ => aD 1 cK rfl) (bV rfl rfl rfl (aM 1 (.int _ _) aR M28 rfl rfl rfl) (aX rfl rfl rfl (fun _ => aZ dO Tryz.underlying2 rfl (fC _ (by omega) (by omega))) (dS [false, true] rfl (by kernel_rfl) (bZ sM rfl rfl (gX _ xb.vx (by omega)) ?_))))
  rintro v29 w29 ⟨q29, rfl, hn29, hw29, hM29⟩
  have M29 : Mem _ _ [_, _, _, _, _, _, _, _, _, _, _] _ := M28.call0 hM29
  refine aB (aC ⟨(eD (bL rfl (aM 1 (.int _ _) aR M29 rfl rfl rfl)) dT), ?_⟩)
  refine dS [false] rfl (by kernel_rfl) (gK 0 ((fO xb.vx).map bQ) gE M29 rfl rfl rfl rfl rfl hR27 (hw29.rd M29 (bJ (i := 10) rfl)) (gZ _) (by omega) (fun A30 c30 e30 w30 M30 hR30 hA30 => ?_))
  refine aB (aC ⟨(eD (bL rfl (aM 1 (.int _ _) aR M30 rfl rfl rfl)) dT), ?_⟩)
  refine dS [true] rfl (by kernel_rfl) (bZ sM rfl rfl (gX _ xb.vy (by omega)) ?_)
  rintro v31 w31 ⟨q31, rfl, hn31, hw31, hM31⟩
  have M31 : Mem _ _ [_, _, _, _, _, _, _, _, _, _, _, _] _ := M30.call0 hM31
  refine aB (aC ⟨dT, ?_⟩)
  refine dS [] rfl (by kernel_rfl) (gK 0 ((fO xb.vy).map bQ) gE M31 rfl rfl rfl rfl rfl hR30 (hw31.rd M31 (bJ (i := 11) rfl)) (gZ _) (by omega) (fun A32 c32 e32 w32 M32 hR32 hA32 => ?_))
  refine aB (aC ⟨dT, ?_⟩)
  refine aX rfl rfl rfl (fun _ => aJ (.slice _ _ _) rfl) (bY (cO (aC (aA (aO rfl rfl (wq (aY rfl rfl (by omega) (by omega)) rfl ?_))))))
  refine bC rfl rfl (aB ?_)
  refine cD (k + 1, ⟨A32, q.n + q9.n + q11.n + q14.n + q16.n + q19.n + q21.n + q24.n + q26.n + q29.n + q31.n, c32, e32⟩) (bA rfl (bA rfl dX)) (cL rfl (cL rfl gO)) ?_ ?_
  ·exact ⟨⟨by omega, (show q.n + q9.n + q11.n + q14.n + q16.n + q19.n + q21.n + q24.n + q26.n + q29.n + q31.n = 8 + 40 * (k + 1) by omega), by rw [aFr hxb, ← List.append_assoc, List.map_append]; simpa only [uZ, aRc, List.flatMap_cons, List.flatMap_nil, List.append_nil, List.map_append, List.append_assoc] using hR32⟩, M32.keep [true, false, false, false, false, false, false, false, false, false, false, false]⟩
  ·(show n - (k + 1) < n - k; omega)
 ·obtain rfl : k = n := by omega
  rw [List.take_of_length_le (by omega), ← hlen] at hq
  refine cV (dD (dK (eO (aC (aE (aA (dN rfl rfl ?_)))))))
  refine eN rfl rfl (aB (aC (aP (cE (.slice _ _ _) rfl ?_))))
  exact ⟨q, rfl, hq, hM5⟩
theorem kO (l : List Int) (a b : Nat) {m : Nat} (h : b + 4 ≤ m) : eH ((l.drop a).take m) b = eH l (a + b) := by
 have g (j : Nat) (hj : j < m) : ((l.drop a).take m).getD j 0 = l.getD (a + j) 0 := by
  rw [List.getD_eq_getElem?_getD, List.getD_eq_getElem?_getD, List.getElem?_take_of_lt hj, List.getElem?_drop]
 unfold eH
 rw [g b (by omega), g (b + 1) (by omega), g (b + 2) (by omega), g (b + 3) (by omega)]
 rfl
set_option maxHeartbeats 32000000 in
theorem aHp (w : World) (A : Option Addr) (n c : Nat) (ls : List Int) (R : Rd w 1 A n (ls.map bQ)) (hB : lW ls) (hcap : n ≤ c) (hn : n ≤ 1048576) :
  Calls Tryz.prog 63 #[.slice A n c] w (fun ex w' => ∃ v, ex = .returned v ∧ (fun v w' => ∃ r : Row, v = .tuple #[.slice r.A r.n r.c, .int .i64 (nM ls).2] ∧ bH 40 10 r.A r.n r.c (((nM ls).1).map aF) r.e ∧ Mem w [] [r.e] w') v w') := by
 have hlen : ls.length = n := by simpa using R.len
 have hbd := R.bound
 refine aI #[.tmp 2, .tmp 3] 82 Tryz.func63 rfl Tryz.results63 Tryz.ntmps63 rfl ?_
 have M0 := Mem.refl w
 refine aE (aA (eN rfl rfl (bC rfl rfl (aB (aC (aE (aE (aA (dN rfl rfl (wq (dB Tryz.underlying57 rfl) rfl ?_))))))))))
 refine cX rfl rfl rfl rfl (wq (aH (.bool (decide _)) rfl) rfl ?_)
 refine dI 11 rfl (fun g11 => ?_) (fun g11 => ?_)
 ·refine aN rfl rfl (aN rfl rfl (aN rfl rfl (aN rfl rfl (wq (bM true (.bool true) rfl rfl) rfl (wq (aH (.bool true) rfl) rfl ?_)))))
  refine aN rfl rfl (aN rfl rfl (aN rfl rfl (aN rfl rfl (aN rfl rfl (aN rfl rfl ?_)))))
  refine aN rfl rfl (aN rfl rfl (wq (bM true (.bool true) rfl rfl) rfl (aB (aC (cC rfl (aE (aA ?_)))))))
  refine eN rfl rfl (bC rfl rfl (aB (aC (aP (cH (gA (.slice _ _ _) (.int _ _) rfl rfl ?_))))))
  have hd := qV (l := ls) (fun h => by have := h.1; omega)
  exact ⟨⟨none, 0, 0, (none, default)⟩, by rw [hd], by rw [hd]; exact bH.nil _ _ _, (M0.keep []).dummy default⟩
 ·refine dN rfl rfl (wq (eV (0) (4) gE rfl rfl ⟨_, rfl⟩ (by omega) (by omega) (by omega)) rfl (wq (aWq Tryz.underlying57 Tryz.underlying5 Tryz.underlying9 (Rd.subB (R.mem M0) (0) (4) (by omega) (by omega) hcap) rfl) rfl (wq (aKc rfl rfl) rfl (wq (bM false (.bool (decide _)) rfl rfl) rfl (wq (aH (.bool (decide _)) rfl) rfl ?_)))))
  refine dI 17 rfl (fun g17 => ?_) (fun g17 => ?_)
  ·refine aN rfl rfl (aN rfl rfl (aN rfl rfl (aN rfl rfl (aN rfl rfl (aN rfl rfl ?_)))))
   refine aN rfl rfl (aN rfl rfl (wq (bM true (.bool true) rfl rfl) rfl (aB (aC (cC rfl (aE (aA ?_)))))))
   refine eN rfl rfl (bC rfl rfl (aB (aC (aP (cH (gA (.slice _ _ _) (.int _ _) rfl rfl ?_))))))
   have hd := qV (l := ls) (fun h => ((aAp ((ls.drop 0).take (4 - 0)) (hB.sub 0 4) [66, 73, 76, 49]).1 g17) (by rw [← oZ]; simpa using h.2.1))
   exact ⟨⟨none, 0, 0, (none, default)⟩, by rw [hd], by rw [hd]; exact bH.nil _ _ _, (M0.keep []).dummy default⟩
  ·refine dN rfl rfl (wq (dB Tryz.underlying57 rfl) rfl (dN rfl rfl (wq (eV (4) (8) gE rfl ⟨_, rfl⟩ ⟨_, rfl⟩ (by omega) (by omega) (by omega)) rfl (bZ bAy rfl rfl (qW _ _ _ _ ((ls.drop (4)).take (8 - (4))) (Rd.subB (R.mem M0) (4) (8) (by omega) (by omega) hcap) (hB.sub _ _) (by omega)) ?_))))
   rintro v1 w1 ⟨rfl, hb1⟩
   have M1 := M0.callB hb1
   have hr4 := lR hB (a := 4) (by omega)
   obtain ⟨N, hN⟩ : ∃ N : Nat, eH ls 4 = (N : Int) := ⟨(eH ls 4).toNat, by omega⟩
   have hNl : N ≤ 4294967295 := by omega
   refine aK 22 (.int .i64 (N : Int)) (iE ((fH (by omega)).trans hN)) (wq (eS rfl rfl (by omega) (by omega)) rfl (wq (aY rfl rfl (by omega) (by omega)) rfl (cX rfl rfl rfl rfl (wq (bM false (.bool (decide _)) rfl rfl) rfl (aB (aC ?_))))))
   refine aS rfl (fun h26 => ?_) (fun h26 => ?_)
   ·refine aE (aA (eN rfl rfl (bC rfl rfl (aB (aC (aP (cH (gA (.slice _ _ _) (.int _ _) rfl rfl ?_))))))))
    have hd := qV (l := ls) (fun h => h26 (by have := h.2.2; rw [hN] at this; omega))
    exact ⟨⟨none, 0, 0, (none, default)⟩, by rw [hd], by rw [hd]; exact bH.nil _ _ _, (M1.keep []).dummy default⟩
   ·have hm4 := Decidable.not_not.1 (mt ((aAp ((ls.drop 0).take (4 - 0)) (hB.sub 0 4) [66, 73, 76, 49]).2) g17)
    rw [← oZ] at hm4
    have hfm : aDa ls := ⟨by omega, by simpa using hm4, by rw [hN]; omega⟩
    have hnN : n = 8 + 40 * N := by omega
    refine aL (aC (aE (aA (eN rfl rfl ?_))))
    have M2 := M1.dummy default
    refine aB (aC (aE (aE (aA (bC rfl rfl (aB (aC (aQ (dQ (σ := Nat × Row) [0, 2, 3] (fun (i, q) => [(4, .slice q.A q.n q.c), (5, .int .i64 ((8 + 40 * i : Nat) : Int))]) (fun (i, q) w' => (i ≤ N ∧ bH 40 10 q.A q.n q.c ((oI ls i).map aF) q.e) ∧ Mem w [] [q.e] w') (fun (i, q) => N - i) (0, hJ) (bA rfl (bA rfl dX)) (⟨⟨by omega, bH.nil _ _ _⟩, M2⟩) ?_)))))))))
    rintro ⟨i, q⟩ ρ3 w3 ⟨⟨hi, hq⟩, hM3⟩
    have hqn : (oI ls i).length = q.n := by simpa using hq.1
    rw [vY] at hqn
    refine aE (aE (aA (aO rfl rfl (dN rfl rfl (wq (dB Tryz.underlying57 rfl) rfl (cX rfl rfl rfl rfl (aB (aC ?_))))))))
    refine aS rfl (fun h30 => ?_) (fun h30 => ?_)
    ·refine aL (aC (aE (aQ (aE (aA (dN rfl rfl (aO rfl rfl (aO rfl rfl (wq (aY rfl rfl (by omega) (by omega)) rfl (aK 36 (.int .i64 ((8 + 40 * i + 40 : Nat) : Int)) (iE (by omega)) ?_))))))))))
     refine wq (eV (((8 + 40 * i : Nat) : Int)) (((8 + 40 * i + 40 : Nat) : Int)) gE rfl ⟨_, rfl⟩ ⟨_, rfl⟩ (by omega) (by omega) (by omega)) rfl (eN rfl rfl (aB (aC (bR [(0, 0), (1, 0), (2, 0), (5, 0), (6, 0), (8, 0), (9, 0), (11, 0), (12, 0), (15, 0), (16, 0), (18, 0), (19, 0), (21, 0), (22, 0), (24, 0), (25, 0), (28, 0), (29, 0), (31, 0), (32, 0), (3, 2), (4, 0), (7, 2), (10, 2), (13, 2), (14, 0), (17, 2), (20, 2), (23, 2), (26, 2), (27, 0), (30, 2), (33, 2), (34, 0), (35, 0), (36, 2), (37, 2), (38, 0)] mixed rfl (by kernel_rfl) (fun w4 hb4 hh4 => ?_)))))
     have M4 := hM3.drew hb4 hh4
     refine kQ rfl rfl rfl (kQ rfl rfl rfl (aX rfl rfl rfl (fun _ => eV (0) (4) gE rfl rfl ⟨_, rfl⟩ (by omega) (by omega) (by omega)) (kQ rfl rfl rfl (aX rfl rfl rfl (fun _ => eV (4) (8) gE rfl ⟨_, rfl⟩ ⟨_, rfl⟩ (by omega) (by omega) (by omega)) (kQ rfl rfl rfl ?_)))))
     refine aX rfl rfl rfl (fun _ => eV (8) (12) gE rfl ⟨_, rfl⟩ ⟨_, rfl⟩ (by omega) (by omega) (by omega)) (kQ rfl rfl rfl (aX rfl rfl rfl (fun _ => eV (12) (16) gE rfl ⟨_, rfl⟩ ⟨_, rfl⟩ (by omega) (by omega) (by omega)) (kQ rfl rfl rfl (aX rfl rfl rfl (fun _ => eV (16) (20) gE rfl ⟨_, rfl⟩ ⟨_, rfl⟩ (by omega) (by omega) (by omega)) ?_))))
     refine kQ rfl rfl rfl (aX rfl rfl rfl (fun _ => eV (20) (24) gE rfl ⟨_, rfl⟩ ⟨_, rfl⟩ (by omega) (by omega) (by omega)) (kQ rfl rfl rfl (aX rfl rfl rfl (fun _ => eV (24) (28) gE rfl ⟨_, rfl⟩ ⟨_, rfl⟩ (by omega) (by omega) (by omega)) (kQ rfl rfl rfl (aX rfl rfl rfl (fun _ => eV (28) (32) gE rfl ⟨_, rfl⟩ ⟨_, rfl⟩ (by omega) (by omega) (by omega)) ?_)))))
     refine kQ rfl rfl rfl (aX rfl rfl rfl (fun _ => eV (32) (36) gE rfl ⟨_, rfl⟩ ⟨_, rfl⟩ (by omega) (by omega) (by omega)) (kQ rfl rfl rfl (aX rfl rfl rfl (fun _ => eV (36) (40) gE rfl ⟨_, rfl⟩ ⟨_, rfl⟩ (by omega) (by omega) (by omega)) (dS [] rfl (by kernel_rfl) (bZ bAy rfl rfl (qW _ _ _ _ ((((ls.drop (8 + 40 * i)).take ((8 + 40 * i) + 40 - (8 + 40 * i))).drop 0).take (4 - 0)) (Rd.subB (Rd.subB (R.mem M4) ((8 + 40 * i)) ((8 + 40 * i) + 40) (by omega) (by omega) hcap) 0 4 (by omega) (by omega) (by omega)) ((hB.sub _ _).sub _ _) (by omega)) ?_)))))
     rintro v5 w5 ⟨rfl, hb5⟩
     have M5 := M4.callB hb5
     refine aB (aC ⟨dT, ?_⟩)
     refine dY 41 (.int .i64 (eH ls (8 + 40 * i))) (iE ((fH (by omega)).trans (kO ls (8 + 40 * i) 0 (by omega)))) (aX rfl rfl rfl (fun _ => dA lK Tryz.underlying36 rfl) (dY 42 (.int .u32 (eH ls (8 + 40 * i))) (iE (aCv _ (lR hB (a := 8 + 40 * i) (by omega)).1 (lR hB (a := 8 + 40 * i) (by omega)).2.1)) ?_))
     refine dS [] rfl (by kernel_rfl) (bZ vS rfl rfl (gR _ _ _ _ ((((ls.drop (8 + 40 * i)).take ((8 + 40 * i) + 40 - (8 + 40 * i))).drop 4).take (8 - 4)) (Rd.subB (Rd.subB (R.mem M5) ((8 + 40 * i)) ((8 + 40 * i) + 40) (by omega) (by omega) hcap) 4 8 (by omega) (by omega) (by omega)) ((hB.sub _ _).sub _ _) (by omega)) ?_)
     rintro v6 w6 ⟨rfl, hb6⟩
     have M6 := M5.callB hb6
     refine aB (aC ⟨dT, ?_⟩)
     refine dY 45 (.int .i32 (kF (eH ls (8 + 40 * i + 4)))) (iE (congrArg kF ((fH (by omega)).trans (kO ls (8 + 40 * i) 4 (by omega))))) (dS [] rfl (by kernel_rfl) (bZ vS rfl rfl (gR _ _ _ _ ((((ls.drop (8 + 40 * i)).take ((8 + 40 * i) + 40 - (8 + 40 * i))).drop 8).take (12 - 8)) (Rd.subB (Rd.subB (R.mem M6) ((8 + 40 * i)) ((8 + 40 * i) + 40) (by omega) (by omega) hcap) 8 12 (by omega) (by omega) (by omega)) ((hB.sub _ _).sub _ _) (by omega)) ?_))
     rintro v7 w7 ⟨rfl, hb7⟩
     have M7 := M6.callB hb7
     refine aB (aC ⟨dT, ?_⟩)
     refine dY 48 (.int .i32 (kF (eH ls (8 + 40 * i + 8)))) (iE (congrArg kF ((fH (by omega)).trans (kO ls (8 + 40 * i) 8 (by omega))))) (dS [] rfl (by kernel_rfl) (bZ vS rfl rfl (gR _ _ _ _ ((((ls.drop (8 + 40 * i)).take ((8 + 40 * i) + 40 - (8 + 40 * i))).drop 12).take (16 - 12)) (Rd.subB (Rd.subB (R.mem M7) ((8 + 40 * i)) ((8 + 40 * i) + 40) (by omega) (by omega) hcap) 12 16 (by omega) (by omega) (by omega)) ((hB.sub _ _).sub _ _) (by omega)) ?_))
     rintro v8 w8 ⟨rfl, hb8⟩
     have M8 := M7.callB hb8
     refine aB (aC ⟨dT, ?_⟩)
     refine dY 51 (.int .i32 (kF (eH ls (8 + 40 * i + 12)))) (iE (congrArg kF ((fH (by omega)).trans (kO ls (8 + 40 * i) 12 (by omega))))) (aX rfl rfl rfl (fun _ => cP [(0, .int _ _), (1, .int _ _)] _ eG rfl rfl) (dS [] rfl (by kernel_rfl) (bZ vS rfl rfl (gR _ _ _ _ ((((ls.drop (8 + 40 * i)).take ((8 + 40 * i) + 40 - (8 + 40 * i))).drop 16).take (20 - 16)) (Rd.subB (Rd.subB (R.mem M8) ((8 + 40 * i)) ((8 + 40 * i) + 40) (by omega) (by omega) hcap) 16 20 (by omega) (by omega) (by omega)) ((hB.sub _ _).sub _ _) (by omega)) ?_)))
     rintro v9 w9 ⟨rfl, hb9⟩
     have M9 := M8.callB hb9
     refine aB (aC ⟨dT, ?_⟩)
     refine dY 55 (.int .i32 (kF (eH ls (8 + 40 * i + 16)))) (iE (congrArg kF ((fH (by omega)).trans (kO ls (8 + 40 * i) 16 (by omega))))) (dS [] rfl (by kernel_rfl) (bZ vS rfl rfl (gR _ _ _ _ ((((ls.drop (8 + 40 * i)).take ((8 + 40 * i) + 40 - (8 + 40 * i))).drop 20).take (24 - 20)) (Rd.subB (Rd.subB (R.mem M9) ((8 + 40 * i)) ((8 + 40 * i) + 40) (by omega) (by omega) hcap) 20 24 (by omega) (by omega) (by omega)) ((hB.sub _ _).sub _ _) (by omega)) ?_))
     rintro v10 w10 ⟨rfl, hb10⟩
     have M10 := M9.callB hb10
     refine aB (aC ⟨dT, ?_⟩)
     refine dY 58 (.int .i32 (kF (eH ls (8 + 40 * i + 20)))) (iE (congrArg kF ((fH (by omega)).trans (kO ls (8 + 40 * i) 20 (by omega))))) (dS [] rfl (by kernel_rfl) (bZ vS rfl rfl (gR _ _ _ _ ((((ls.drop (8 + 40 * i)).take ((8 + 40 * i) + 40 - (8 + 40 * i))).drop 24).take (28 - 24)) (Rd.subB (Rd.subB (R.mem M10) ((8 + 40 * i)) ((8 + 40 * i) + 40) (by omega) (by omega) hcap) 24 28 (by omega) (by omega) (by omega)) ((hB.sub _ _).sub _ _) (by omega)) ?_))
     rintro v11 w11 ⟨rfl, hb11⟩
     have M11 := M10.callB hb11
     refine aB (aC ⟨dT, ?_⟩)
     refine dY 61 (.int .i32 (kF (eH ls (8 + 40 * i + 24)))) (iE (congrArg kF ((fH (by omega)).trans (kO ls (8 + 40 * i) 24 (by omega))))) (dS [] rfl (by kernel_rfl) (bZ vS rfl rfl (gR _ _ _ _ ((((ls.drop (8 + 40 * i)).take ((8 + 40 * i) + 40 - (8 + 40 * i))).drop 28).take (32 - 28)) (Rd.subB (Rd.subB (R.mem M11) ((8 + 40 * i)) ((8 + 40 * i) + 40) (by omega) (by omega) hcap) 28 32 (by omega) (by omega) (by omega)) ((hB.sub _ _).sub _ _) (by omega)) ?_))
     rintro v12 w12 ⟨rfl, hb12⟩
     have M12 := M11.callB hb12
     refine aB (aC ⟨dT, ?_⟩)
     refine dY 64 (.int .i32 (kF (eH ls (8 + 40 * i + 28)))) (iE (congrArg kF ((fH (by omega)).trans (kO ls (8 + 40 * i) 28 (by omega))))) (aX rfl rfl rfl (fun _ => cP [(0, .int _ _), (1, .int _ _)] _ eG rfl rfl) (dS [] rfl (by kernel_rfl) (bZ vS rfl rfl (gR _ _ _ _ ((((ls.drop (8 + 40 * i)).take ((8 + 40 * i) + 40 - (8 + 40 * i))).drop 32).take (36 - 32)) (Rd.subB (Rd.subB (R.mem M12) ((8 + 40 * i)) ((8 + 40 * i) + 40) (by omega) (by omega) hcap) 32 36 (by omega) (by omega) (by omega)) ((hB.sub _ _).sub _ _) (by omega)) ?_)))
     rintro v13 w13 ⟨rfl, hb13⟩
     have M13 := M12.callB hb13
     refine aB (aC ⟨dT, ?_⟩)
     refine dY 68 (.int .i32 (kF (eH ls (8 + 40 * i + 32)))) (iE (congrArg kF ((fH (by omega)).trans (kO ls (8 + 40 * i) 32 (by omega))))) (dS [] rfl (by kernel_rfl) (bZ vS rfl rfl (gR _ _ _ _ ((((ls.drop (8 + 40 * i)).take ((8 + 40 * i) + 40 - (8 + 40 * i))).drop 36).take (40 - 36)) (Rd.subB (Rd.subB (R.mem M13) ((8 + 40 * i)) ((8 + 40 * i) + 40) (by omega) (by omega) hcap) 36 40 (by omega) (by omega) (by omega)) ((hB.sub _ _).sub _ _) (by omega)) ?_))
     rintro v14 w14 ⟨rfl, hb14⟩
     have M14 := M13.callB hb14
     refine aB (aC ⟨dT, ?_⟩)
     refine dY 71 (.int .i32 (kF (eH ls (8 + 40 * i + 36)))) (iE (congrArg kF ((fH (by omega)).trans (kO ls (8 + 40 * i) 36 (by omega))))) (aX rfl rfl rfl (fun _ => cP [(0, .int _ _), (1, .int _ _)] _ eG rfl rfl) (aX rfl rfl rfl (fun _ => cP [(0, .int _ _), (1, .int _ _), (2, .agg (List.toArray _)), (3, .int _ _), (4, .int _ _), (5, .agg (List.toArray _)), (6, .agg (List.toArray _))] _ nT rfl rfl) ?_))
     refine dY 73 ((.agg (aF (nS ls (8 + 40 * i))).toArray)) rfl (dS [] rfl (by kernel_rfl) (cU [.agg (List.toArray _)] [aF (nS ls (8 + 40 * i))] rfl dF M14 rfl rfl rfl rfl (dE rfl) (by decide) (fun b15 w15 M15 => ?_)))
     refine aB (aC ⟨dT, ?_⟩)
     refine dS [] rfl (by kernel_rfl) (dL 0 [aF (nS ls (8 + 40 * i))] dF M15 rfl rfl rfl rfl rfl hq rfl (by simp [aF, Go.Bil.one]) (dR.ofMem 1 M15 rfl) (by omega) (fun A16 c16 e16 w16 M16 hR16 => ?_))
     refine aB (aC ⟨dT, ?_⟩)
     refine aX rfl rfl rfl (fun _ => aJ (.slice _ _ _) rfl) (bY (cO (aC (aA (aO rfl rfl (wq (aY rfl rfl (by omega) (by omega)) rfl ?_))))))
     refine bC rfl rfl (aB ?_)
     refine cD (i + 1, ⟨A16, q.n + 1, c16, e16⟩) (bA rfl (bA (iv rfl (by omega)) dX)) (cL rfl (cL rfl (cL rfl gO))) ?_ ?_
     ·exact ⟨⟨by omega, by rw [aGe, List.map_append]; exact hR16⟩, M16.keep [true, false]⟩
     ·(show N - (i + 1) < N - i; omega)
    ·obtain rfl : i = N := by omega
     refine cV (dD (dK (eO (aC (aE (aA (dN rfl rfl ?_)))))))
     refine bZ bLv rfl rfl (aJo _ _ _ _ (oI ls i) (hq.rd hM3 (bJ (i := 0) rfl))) ?_
     rintro v17 w17 ⟨rfl, hb17⟩
     have M17 := hM3.callB hb17
     refine bC rfl rfl (aB (aC (aE (aE (aA (aO rfl rfl (cX rfl rfl rfl rfl (aB (aC ?_)))))))))
     refine aS rfl (fun h79 => ?_) (fun h79 => ?_)
     ·refine aE (aA (aO rfl rfl (eN rfl rfl (bC rfl rfl (aB (aC (aP (cH (gA (.slice _ _ _) (.int _ _) rfl rfl ?_)))))))))
      have hd := aQc hfm hN h79
      exact ⟨⟨none, 0, 0, (none, default)⟩, by rw [hd], by rw [hd]; exact bH.nil _ _ _, (M17.keep [false]).dummy default⟩
     ·refine aL (aC (aE (aA (dN rfl rfl (eN rfl rfl (bC rfl rfl (aB (aC (aP (gA (.slice _ _ _) (.int _ _) rfl rfl ?_))))))))))
      have hd := aMg hfm hN (Decidable.not_not.1 h79)
      exact ⟨q, by rw [hd], by rw [hd]; exact hq, M17⟩
end Go.Proofs.YtlmcphcgiclanaaGreatDoor
