/- Part of the proof of the laws of this seat: SW, C21a, C21b, R21a, R21b, R21c. No conditions. -/
import Derived.Test.YtaoaknafiegfoaaGreatDoorK2
import Derived.Test.YtaoaknafiegfoaaGreatDoorK5
import Derived.Test.YtaoaknafiegfoaaGreatDoorK22
import Derived.Test.YtaoaknafiegfoaaGreatDoorK33
import Derived.Test.YtaoaknafiegfoaaGreatDoorK32
import Derived.Test.YtaoaknafiegfoaaGreatDoorK6
import Derived.Test.YtaoaknafiegfoaaGreatDoorK24
import Derived.Test.YtaoaknafiegfoaaGreatDoorK13
import Derived.Test.YtaoaknafiegfoaaGreatDoorK17
import Derived.Test.YtaoaknafiegfoaaGreatDoorK11
set_option linter.unusedVariables false
set_option linter.unusedSimpArgs false
set_option linter.unnecessarySimpa false
namespace Go.Proofs.YtaoaknafiegfoaaGreatDoor
open Go.Bil
open Go.RowKit (Below)
open Go.Proofs
set_option maxHeartbeats 4000000 in
theorem aOn (w : World) (b : Nat) (A : Option Addr) (n c : Nat) (p : Option Nat) (er em : dN) (m : List Body) (hs : StoreIs 39 A n c p er em m) (hO : Own [(some b, bc [.slice A n c, .map p] 107), er, em] w) (x : Body) :
  Calls Tryz.prog 61 #[.pointer (some ⟨b, 0, none⟩), (.agg (aF x).toArray)] w (fun ex w' => ∃ v, ex = .returned v ∧ (fun v w' => v = .int .i64 (jZ m x).2 ∧ ∃ A' n' c' p' er' em', StoreIs 39 A' n' c' p' er' em' (jZ m x).1 ∧ Mem w (bH [(some b, bc [.slice A n c, .map p] 107), er, em]) [(some b, bc [.slice A' n' c', .map p'] 107), er', em'] w') v w') := by
 have hlen : m.length = n := by simpa using hs.row.1
 have hcap := hs.cap
 refine aH #[.tmp 4] 62 Tryz.func61 rfl Tryz.results61 Tryz.ntmps61 rfl ?_
 have M0 := hO.mem
 refine aD (aA (bG (.agg (List.toArray _)) M0 rfl rfl rfl (fun b1 w1 M1 => (bP rfl rfl (aB (aC (aD (aD (aA (wq (aG (.pointer _) rfl) rfl (wq (eN false Tryz.underlying162 rfl rfl) rfl ?_)))))))))))
 refine aB (aC (cB rfl (aK (aC (aD (aD (aA (wq (bC 3 bS M1 rfl rfl rfl) rfl (bX aLt rfl rfl (sE _ x) ?_)))))))))
 rintro v2 w2 ⟨rfl, hb2⟩
 have M2 := M1.callB hb2
 refine bP rfl rfl (aB (aC (aD (aA (aY rfl rfl (dA rfl rfl rfl rfl (aB (aC ?_))))))))
 refine aZ rfl (fun h13 => ?_) (fun h13 => ?_)
 ·refine aD (aA (aY rfl rfl (bP rfl rfl (aB (aC (aM (cE (bW (.int _ _) rfl ?_))))))))
  have ha : jZ m x = (m, check x) := by unfold jZ; rw [if_pos h13]
  exact ⟨by rw [ha], A, n, c, p, er, em, by rw [ha]; exact hs, M2.keep [true, true, true, false]⟩
 ·refine aK (aC (aD (aD (bO [(0, 0), (1, 0), (2, 0), (3, 1), (4, 0), (5, 1), (6, 1), (7, 0), (8, 0), (9, 0), (10, 0), (11, 0)] mixed rfl (by kernel_rfl) (fun w3 hb3 hh3 => ?_)))))
  have M3 := M2.drew hb3 hh3
  refine aV rfl rfl rfl (fun _ => aG (.pointer _) rfl) (aV rfl rfl rfl (fun _ => aO rfl) (aV rfl rfl rfl (fun _ => aE 1 iX rfl) (bV rfl rfl rfl (aL 0 (.map _) mX M3 rfl rfl rfl) (aV rfl rfl rfl (fun _ => aE 0 eP rfl) (bV rfl rfl rfl (aL 3 (.int _ _) cC M3 rfl rfl rfl) ?_)))))
  refine bV rfl rfl rfl (gY (enc := (Value.int .i64)) 0 2 pX zv3 M3 rfl hs.map rfl rfl) (aV rfl rfl rfl (fun _ => aG (.tuple (List.toArray _)) rfl) (aV rfl rfl rfl (fun _ => bE (.int _ _) rfl rfl) (aV rfl rfl rfl (fun _ => bE (.bool _) rfl rfl) (qN rfl rfl rfl (aV rfl rfl rfl (fun _ => aI (.bool _) rfl) ?_)))))
  refine cD (aC (aD (aA (wq (aG (.bool _) rfl) rfl (aB (aC ?_))))))
  refine gR _ rfl (fun h25 => ?_) (fun h25 => ?_)
  ·have hf : 0 ≤ cK x.key m := by rw [yV] at h25; exact of_decide_eq_true h25
   refine aD (aA (bP rfl rfl (aB (aC (aM (cE (bW (.int _ _) rfl ?_)))))))
   have ha : jZ m x = (m, 10) := by unfold jZ; rw [if_neg h13, if_pos hf]
   exact ⟨by rw [ha], A, n, c, p, er, em, by rw [ha]; exact hs, M3.keep [true, true, true, false]⟩
  ·have hf : ¬ (0 ≤ cK x.key m) := fun h => by rw [yV, decide_eq_true h] at h25; simp at h25
   refine aK (aC (aD (aD (aA (wq (aG (.pointer _) rfl) rfl (wq (aO rfl) rfl (wq (aE 0 fD rfl) rfl (wq (aL 0 (.slice _ _ _) fI M3 rfl rfl rfl) rfl (wq (cP Tryz.underlying29 rfl) rfl ?_)))))))))
   refine dA rfl rfl rfl rfl (aB (aC ?_))
   refine aZ rfl (fun h31 => ?_) (fun h31 => ?_)
   ·refine aD (aA (bP rfl rfl (aB (aC (aM (cE (bW (.int _ _) rfl ?_)))))))
    have ha : jZ m x = (m, 12) := by unfold jZ; rw [if_neg h13, if_neg hf, if_pos (by omega)]
    exact ⟨by rw [ha], A, n, c, p, er, em, by rw [ha]; exact hs, M3.keep [true, true, true, false]⟩
   ·refine aK (aC (aD (aD (aA (wq (aG (.pointer _) rfl) rfl (wq (aO rfl) rfl (wq (aE 1 iX rfl) rfl (wq (aL 0 (.map _) mX M3 rfl rfl rfl) rfl (wq (aLl _ Tryz.underlying101 rfl rfl) rfl ?_)))))))))
    refine aB (aC ?_)
    refine gR _ rfl (fun h36 => ?_) (fun h36 => ?_)
    ·have hpn : p = none := by cases p <;> simp_all
     have hnone : ∀ k, sN m k = (fun _ => none) k := fun k => by subst hpn; rcases hs.map with ⟨_, _, h⟩ | ⟨_, _, h, _⟩; exact h k; cases h
     refine aA (wq (aG (.pointer _) rfl) rfl (kC M3 rfl rfl (fun b4 w4 M4 => ?_)))
     have M5 := M4.replace (i := 2) (Nat.le_of_ble_eq_true rfl)
     refine wq (aO rfl) rfl (wq (aE 1 iX rfl) rfl (dX 0 (.map _) mX M5 rfl rfl rfl rfl rfl rfl (fun w6 M6 => (aB (aC (aD (bO [(0, 0), (1, 0), (2, 0), (3, 1), (4, 0), (5, 1), (6, 0), (7, 0), (8, 0), (9, 1), (10, 0), (11, 2)] mixed rfl (by kernel_rfl) (fun w7 hb7 hh7 => ?_))))))))
     have M7 := M6.drew hb7 hh7
     refine aV rfl rfl rfl (fun _ => aG (.pointer _) rfl) (aV rfl rfl rfl (fun _ => aO rfl) (aV rfl rfl rfl (fun _ => aE 1 iX rfl) (bV rfl rfl rfl (aL 0 (.map _) mX M7 rfl rfl rfl) (aV rfl rfl rfl (fun _ => aE 0 eP rfl) (bV rfl rfl rfl (aL 3 (.int _ _) cC M7 rfl rfl rfl) ?_)))))
     refine aV rfl rfl rfl (fun _ => aG (.pointer _) rfl) (aV rfl rfl rfl (fun _ => aO rfl) (aV rfl rfl rfl (fun _ => aE 0 fD rfl) (bV rfl rfl rfl (aL 0 (.slice _ _ _) fI M7 rfl rfl rfl) (aV rfl rfl rfl (fun _ => cP Tryz.underlying29 rfl) (dG [true, true, true] rfl (by kernel_rfl) ?_)))))
     refine iM (enc := (Value.int .i64)) 2 pX M7 rfl rfl ((iC.empty _ _ b4).congr hnone) rfl rfl rfl rfl (fun e8 w8 hm8 M8 => ?_)
     refine aB (aC ⟨dH, ?_⟩)
     refine cD (aC (aD (bO [(0, 0), (1, 0), (2, 0), (3, 0), (4, 1), (5, 1), (6, 2), (7, 2), (8, 0), (9, 0), (10, 2)] mixed rfl (by kernel_rfl) (fun w9 hb9 hh9 => ?_))))
     have M9 := M8.drew hb9 hh9
     refine aV rfl rfl rfl (fun _ => aG (.pointer _) rfl) (aV rfl rfl rfl (fun _ => aG (.pointer _) rfl) (aV rfl rfl rfl (fun _ => aO rfl) (aV rfl rfl rfl (fun _ => aE 0 fD rfl) (bV rfl rfl rfl (aL 0 (.slice _ _ _) fI M9 rfl rfl rfl) (bV rfl rfl rfl (bC 3 bS M9 rfl rfl rfl) ?_)))))
     refine dG [true, false] rfl (by kernel_rfl) (dB [.agg (List.toArray _)] _ rfl dW M9 rfl rfl rfl rfl (dI rfl) (by decide) (fun b10 w10 M10 => ?_))
     refine aB (aC ⟨(eF (bK rfl (aL 0 (.slice _ _ _) fI M10 rfl rfl rfl)) dH), ?_⟩)
     refine dG [true] rfl (by kernel_rfl) (eC 1 [aF x] dW M10 rfl rfl rfl rfl rfl hs.row rfl (by simpa using ⟨nC x, mY x⟩) (dD.ofMem 4 M10 rfl) (by omega) (fun A11 c11 e11 w11 M11 hR11 => ?_))
     refine aB (aC ⟨dH, ?_⟩)
     refine aV rfl rfl rfl (fun _ => aO rfl) (aV rfl rfl rfl (fun _ => aE 0 fD rfl) (dG [] rfl (by kernel_rfl) (dX 0 (.slice _ _ _) fI M11 rfl rfl rfl rfl rfl rfl (fun w12 M12 => ?_))))
     refine aB (aC ⟨dH, ?_⟩)
     refine cD (aC (aD (aA (bP rfl rfl (aB (aC (aM (bW (.int _ _) rfl ?_))))))))
     have ha : jZ m x = (m ++ [x], 0) := by unfold jZ; rw [if_neg h13, if_neg hf, if_neg (by omega)]
     have hall := aNl (x := x) ⟨hs.keys, hs.cap, hs.ok⟩
     rw [ha] at hall
     obtain ⟨hk', hc', ho'⟩ := hall
     have hix := aGm hs.keys (x := x) (by omega)
     rw [hlen] at hix
     exact ⟨by rw [ha], _, _, _, _, _, _, by rw [ha]; exact ⟨(by simpa using hR11), (hm8.congr hix), hk', hc', ho'⟩, M12.keep [true, true, true, false, false]⟩
    ·have hps : p.isSome = true := by cases p <;> simp_all
     refine aK (aC (aD (bO [(0, 0), (1, 0), (2, 0), (3, 1), (4, 0), (5, 1), (6, 0), (7, 0), (8, 0), (9, 1), (10, 0), (11, 2)] mixed rfl (by kernel_rfl) (fun w13 hb13 hh13 => ?_))))
     have M13 := M3.drew hb13 hh13
     refine aV rfl rfl rfl (fun _ => aG (.pointer _) rfl) (aV rfl rfl rfl (fun _ => aO rfl) (aV rfl rfl rfl (fun _ => aE 1 iX rfl) (bV rfl rfl rfl (aL 0 (.map _) mX M13 rfl rfl rfl) (aV rfl rfl rfl (fun _ => aE 0 eP rfl) (bV rfl rfl rfl (aL 3 (.int _ _) cC M13 rfl rfl rfl) ?_)))))
     refine aV rfl rfl rfl (fun _ => aG (.pointer _) rfl) (aV rfl rfl rfl (fun _ => aO rfl) (aV rfl rfl rfl (fun _ => aE 0 fD rfl) (bV rfl rfl rfl (aL 0 (.slice _ _ _) fI M13 rfl rfl rfl) (aV rfl rfl rfl (fun _ => cP Tryz.underlying29 rfl) (dG [true, true, true] rfl (by kernel_rfl) ?_)))))
     refine iM (enc := (Value.int .i64)) 2 pX M13 rfl rfl hs.map hps rfl rfl rfl (fun e14 w14 hm14 M14 => ?_)
     refine aB (aC ⟨dH, ?_⟩)
     refine cD (aC (aD (bO [(0, 0), (1, 0), (2, 0), (3, 0), (4, 1), (5, 1), (6, 2), (7, 2), (8, 0), (9, 0), (10, 2)] mixed rfl (by kernel_rfl) (fun w15 hb15 hh15 => ?_))))
     have M15 := M14.drew hb15 hh15
     refine aV rfl rfl rfl (fun _ => aG (.pointer _) rfl) (aV rfl rfl rfl (fun _ => aG (.pointer _) rfl) (aV rfl rfl rfl (fun _ => aO rfl) (aV rfl rfl rfl (fun _ => aE 0 fD rfl) (bV rfl rfl rfl (aL 0 (.slice _ _ _) fI M15 rfl rfl rfl) (bV rfl rfl rfl (bC 3 bS M15 rfl rfl rfl) ?_)))))
     refine dG [true, false] rfl (by kernel_rfl) (dB [.agg (List.toArray _)] _ rfl dW M15 rfl rfl rfl rfl (dI rfl) (by decide) (fun b16 w16 M16 => ?_))
     refine aB (aC ⟨(eF (bK rfl (aL 0 (.slice _ _ _) fI M16 rfl rfl rfl)) dH), ?_⟩)
     refine dG [true] rfl (by kernel_rfl) (eC 1 [aF x] dW M16 rfl rfl rfl rfl rfl hs.row rfl (by simpa using ⟨nC x, mY x⟩) (dD.ofMem 4 M16 rfl) (by omega) (fun A17 c17 e17 w17 M17 hR17 => ?_))
     refine aB (aC ⟨dH, ?_⟩)
     refine aV rfl rfl rfl (fun _ => aO rfl) (aV rfl rfl rfl (fun _ => aE 0 fD rfl) (dG [] rfl (by kernel_rfl) (dX 0 (.slice _ _ _) fI M17 rfl rfl rfl rfl rfl rfl (fun w18 M18 => ?_))))
     refine aB (aC ⟨dH, ?_⟩)
     refine cD (aC (aD (aA (bP rfl rfl (aB (aC (aM (bW (.int _ _) rfl ?_))))))))
     have ha : jZ m x = (m ++ [x], 0) := by unfold jZ; rw [if_neg h13, if_neg hf, if_neg (by omega)]
     have hall := aNl (x := x) ⟨hs.keys, hs.cap, hs.ok⟩
     rw [ha] at hall
     obtain ⟨hk', hc', ho'⟩ := hall
     have hix := aGm hs.keys (x := x) (by omega)
     rw [hlen] at hix
     exact ⟨by rw [ha], _, _, _, _, _, _, by rw [ha]; exact ⟨(by simpa using hR17), (hm14.congr hix), hk', hc', ho'⟩, M18.keep [true, true, true, false, false]⟩
set_option maxHeartbeats 4000000 in
theorem aYv (w : World) (b : Nat) (A : Option Addr) (n c : Nat) (p : Option Nat) (er em : dN) (m : List Body) (hs : StoreIs 39 A n c p er em m) (hO : Own [(some b, bc [.slice A n c, .map p] 107), er, em] w) (key : Int) :
  Calls Tryz.prog 117 #[.pointer (some ⟨b, 0, none⟩), .int .u32 key] w (fun ex w' => ∃ v, ex = .returned v ∧ (fun v w' => (∃ x, v = .tuple #[.agg (aF x).toArray, .int .i64 (xR m key).2] ∧ x = (xR m key).1) ∧ Mem w (bH [(some b, bc [.slice A n c, .map p] 107), er, em]) [(some b, bc [.slice A n c, .map p] 107), er, em] w') v w') := by
 have hlen : m.length = n := by simpa using hs.row.1
 have hcap := hs.cap
 refine aH #[.cell 4 39, .tmp 5] 30 Tryz.func117 rfl Tryz.results117 Tryz.ntmps117 rfl ?_
 have M0 := hO.mem
 refine aD (aA (aQ gS M0 rfl rfl (fun b1 w1 M1 => (bP rfl rfl (aB (aC (aD (aD (aA (wq (aG (.pointer _) rfl) rfl (wq (eN false Tryz.underlying162 rfl rfl) rfl ?_)))))))))))
 refine aB (aC (cB rfl (aK (aC (aD (aA (wq (aG (.pointer _) rfl) rfl (wq (aO rfl) rfl (wq (aE 1 iX rfl) rfl ?_)))))))))
 refine wq (aL 0 (.map _) mX M1 rfl rfl rfl) rfl (aY rfl rfl (wq (gY (enc := (Value.int .i64)) 0 2 pX zv3 M1 rfl hs.map rfl rfl) rfl (wq (aG (.tuple (List.toArray _)) rfl) rfl (wq (bE (.int _ _) rfl rfl) rfl (wq (bE (.bool _) rfl rfl) rfl ?_)))))
 refine bP rfl rfl (wq (aI (.bool _) rfl) rfl (aB (aC (aD (aD (aA (wq (aG (.bool _) rfl) rfl (wq (fO _ rfl rfl) rfl (aB (aC ?_))))))))))
 refine gR _ rfl (fun h21 => ?_) (fun h21 => ?_)
 ·have hi : sN m key = none := by cases h : sN m key <;> simp_all
  refine aD (aA (wq (cH [] _ zW rfl rfl) rfl (bB 3 _ bS M1 rfl rfl rfl rfl rfl (aR rfl) rfl (fun w2 M2 => (bP rfl rfl (aB (aC (aM (cE (aCl (v2 := .int _ _) 3 bS M2 rfl rfl rfl rfl ?_))))))))))
  exact ⟨⟨⟨0, 0, 0, 0, 0, 0, 0, 0, 0, 0⟩, by rw [aDl hi]; rfl, by rw [aDl hi]⟩, M2.keep [true, true, true, false]⟩
 ·rcases jW key m with ⟨hi, _⟩ | ⟨i, bi, hbi, hbk, hi⟩
  ·simp [hi] at h21
  refine aK (aC (aD (aA (wq (aG (.pointer _) rfl) rfl (wq (aO rfl) rfl (wq (aE 0 fD rfl) rfl (wq (aL 0 (.slice _ _ _) fI M1 rfl rfl rfl) rfl (aY rfl rfl ?_))))))))
  refine wq (bN (i) dW rfl rfl (by rw [hi]; rfl) ((hs.row.rd M1 (aX (i := 1) rfl)).below_len (aJ aF hbi)) ((hs.row.rd M1 (aX (i := 1) rfl)).someK (aJ aF hbi))) rfl (wq (dC _ bS (hs.row.rd M1 (aX (i := 1) rfl)) (aJ aF hbi) rfl) rfl (bB 3 _ bS M1 rfl rfl rfl rfl rfl (aR rfl) rfl (fun w3 M3 => ?_)))
  refine bP rfl rfl (aB (aC (aM (aCl (v2 := .int _ _) 3 bS M3 rfl rfl rfl rfl ?_))))
  exact ⟨⟨bi, by rw [uH hi hbi], by rw [uH hi hbi]⟩, M3.keep [true, true, true, false]⟩
set_option maxHeartbeats 4000000 in
theorem aYt (w : World) (b : Nat) (A : Option Addr) (n c : Nat) (p : Option Nat) (er em : dN) (m : List Body) (hs : StoreIs 39 A n c p er em m) (hO : Own [(some b, bc [.slice A n c, .map p] 107), er, em] w) (x : Body) :
  Calls Tryz.prog 125 #[.pointer (some ⟨b, 0, none⟩), (.agg (aF x).toArray)] w (fun ex w' => ∃ v, ex = .returned v ∧ (fun v w' => v = .int .i64 (sM m x).2 ∧ ∃ A' n' c' p' er' em', StoreIs 39 A' n' c' p' er' em' (sM m x).1 ∧ Mem w (bH [(some b, bc [.slice A n c, .map p] 107), er, em]) [(some b, bc [.slice A' n' c', .map p'] 107), er', em'] w') v w') := by
 have hlen : m.length = n := by simpa using hs.row.1
 have hcap := hs.cap
 refine aH #[.tmp 4] 34 Tryz.func125 rfl Tryz.results125 Tryz.ntmps125 rfl ?_
 have M0 := hO.mem
 refine aD (aA (bG (.agg (List.toArray _)) M0 rfl rfl rfl (fun b1 w1 M1 => (bP rfl rfl (aB (aC (aD (aD (aA (wq (aG (.pointer _) rfl) rfl (wq (eN false Tryz.underlying162 rfl rfl) rfl ?_)))))))))))
 refine aB (aC (cB rfl (aK (aC (aD (aD (aA (wq (bC 3 bS M1 rfl rfl rfl) rfl (bX aLt rfl rfl (sE _ x) ?_)))))))))
 rintro v2 w2 ⟨rfl, hb2⟩
 have M2 := M1.callB hb2
 refine bP rfl rfl (aB (aC (aD (aA (aY rfl rfl (dA rfl rfl rfl rfl (aB (aC ?_))))))))
 refine aZ rfl (fun h13 => ?_) (fun h13 => ?_)
 ·refine aD (aA (aY rfl rfl (bP rfl rfl (aB (aC (aM (cE (bW (.int _ _) rfl ?_))))))))
  have ha : sM m x = (m, check x) := by unfold sM; rw [if_pos h13]
  exact ⟨by rw [ha], A, n, c, p, er, em, by rw [ha]; exact hs, M2.keep [true, true, true, false]⟩
 ·refine aK (aC (aD (bO [(0, 0), (1, 0), (2, 0), (3, 1), (4, 0), (5, 1), (6, 1), (7, 0), (8, 0), (9, 0), (10, 0), (11, 0)] mixed rfl (by kernel_rfl) (fun w3 hb3 hh3 => ?_))))
  have M3 := M2.drew hb3 hh3
  refine aV rfl rfl rfl (fun _ => aG (.pointer _) rfl) (aV rfl rfl rfl (fun _ => aO rfl) (aV rfl rfl rfl (fun _ => aE 1 iX rfl) (bV rfl rfl rfl (aL 0 (.map _) mX M3 rfl rfl rfl) (aV rfl rfl rfl (fun _ => aE 0 eP rfl) (bV rfl rfl rfl (aL 3 (.int _ _) cC M3 rfl rfl rfl) ?_)))))
  refine bV rfl rfl rfl (gY (enc := (Value.int .i64)) 0 2 pX zv3 M3 rfl hs.map rfl rfl) (aV rfl rfl rfl (fun _ => aG (.tuple (List.toArray _)) rfl) (aV rfl rfl rfl (fun _ => bE (.int _ _) rfl rfl) (aV rfl rfl rfl (fun _ => bE (.bool _) rfl rfl) (qN rfl rfl rfl (aV rfl rfl rfl (fun _ => aI (.bool _) rfl) ?_)))))
  refine cD (aC (aD (aD (aA (wq (aG (.bool _) rfl) rfl (wq (fO _ rfl rfl) rfl (aB (aC ?_))))))))
  refine gR _ rfl (fun h26 => ?_) (fun h26 => ?_)
  ·have hi : sN m x.key = none := by cases h : sN m x.key <;> simp_all
   refine aD (aA (bP rfl rfl (aB (aC (aM (cE (bW (.int _ _) rfl ?_)))))))
   have ha : sM m x = (m, 11) := by unfold sM; rw [if_neg h13, if_pos (by rw [iJ, hi]; decide)]
   exact ⟨by rw [ha], A, n, c, p, er, em, by rw [ha]; exact hs, M3.keep [true, true, true, false]⟩
  ·rcases jW x.key m with ⟨hi, _⟩ | ⟨i, bi, hbi, hbk, hi⟩
   ·simp [hi] at h26
   refine aK (aC (aD (bO [(0, 0), (1, 0), (2, 0), (3, 1), (4, 0), (5, 1), (6, 1), (7, 2)] mixed rfl (by kernel_rfl) (fun w4 hb4 hh4 => ?_))))
   have M4 := M3.drew hb4 hh4
   refine aV rfl rfl rfl (fun _ => aG (.pointer _) rfl) (aV rfl rfl rfl (fun _ => aO rfl) (aV rfl rfl rfl (fun _ => aE 0 fD rfl) (bV rfl rfl rfl (aL 0 (.slice _ _ _) fI M4 rfl rfl rfl) (fV rfl rfl rfl (bV rfl rfl rfl (bC 3 bS M4 rfl rfl rfl) ?_)))))
   refine bV rfl rfl rfl (bN (i) dW rfl rfl (by rw [hi]; rfl) ((hs.row.rd M4 (aX (i := 1) rfl)).below_len (aJ aF hbi)) ((hs.row.rd M4 (aX (i := 1) rfl)).someK (aJ aF hbi))) (dG [true, true, true] rfl (by kernel_rfl) (aEa 1 _ bS M4 rfl hs.row (aJ aF hbi) rfl rfl rfl rfl (aR rfl) (fun e5 w5 hR5 M5 => ?_)))
   have hQ5 := hR5.mapSet (f := aF) (x := x) rfl
   refine aB (aC ⟨dH, ?_⟩)
   refine cD (aC (aD (aA (bP rfl rfl (aB (aC (aM (bW (.int _ _) rfl ?_))))))))
   have ha : sM m x = (m.set i x, 0) := by unfold sM; rw [if_neg h13, iJ, hi]; simp only []; rw [if_neg (by omega), Int.toNat_natCast]
   exact ⟨by rw [ha], _, _, _, _, _, _, by rw [ha]; exact hs.put hbi hbk.symm (by omega) hQ5, M5.keep [true, true, true, false]⟩
set_option maxHeartbeats 4000000 in
theorem aLs (w : World) (b : Nat) (A : Option Addr) (n c : Nat) (p : Option Nat) (er em : dN) (m : List Body) (hs : StoreIs 39 A n c p er em m) (hO : Own [(some b, bc [.slice A n c, .map p] 107), er, em] w) (key : Int) :
  Calls Tryz.prog 122 #[.pointer (some ⟨b, 0, none⟩), .int .u32 key] w (fun ex w' => ∃ v, ex = .returned v ∧ (fun v w' => v = .int .i64 (jA m key).2 ∧ ∃ A' n' c' p' er' em', StoreIs 39 A' n' c' p' er' em' (jA m key).1 ∧ Mem w (bH [(some b, bc [.slice A n c, .map p] 107), er, em]) [(some b, bc [.slice A' n' c', .map p'] 107), er', em'] w') v w') := by
 have hlen : m.length = n := by simpa using hs.row.1
 have hcap := hs.cap
 refine aH #[.tmp 4] 67 Tryz.func122 rfl Tryz.results122 Tryz.ntmps122 rfl ?_
 have M0 := hO.mem
 refine aD (aA (bP rfl rfl (aB (aC (aD (aD (aA (wq (aG (.pointer _) rfl) rfl (wq (eN false Tryz.underlying162 rfl rfl) rfl (aB (aC ?_)))))))))))
 refine cB rfl (aK (aC (aD (aA (wq (aG (.pointer _) rfl) rfl (wq (aO rfl) rfl (wq (aE 1 iX rfl) rfl (wq (aL 0 (.map _) mX M0 rfl rfl rfl) rfl ?_))))))))
 refine aY rfl rfl (wq (gY (enc := (Value.int .i64)) 0 2 pX zv3 M0 rfl hs.map rfl rfl) rfl (wq (aG (.tuple (List.toArray _)) rfl) rfl (wq (bE (.int _ _) rfl rfl) rfl (wq (bE (.bool _) rfl rfl) rfl (bP rfl rfl ?_)))))
 refine wq (aI (.bool _) rfl) rfl (aB (aC (aD (aD (aA (wq (aG (.bool _) rfl) rfl (wq (fO _ rfl rfl) rfl (aB (aC ?_)))))))))
 refine gR _ rfl (fun h20 => ?_) (fun h20 => ?_)
 ·have hi : sN m key = none := by cases h : sN m key <;> simp_all
  refine aD (aA (bP rfl rfl (aB (aC (aM (cE (bW (.int _ _) rfl ?_)))))))
  have ha : jA m key = (m, 11) := by unfold jA; rw [if_pos (by rw [iJ, hi]; decide)]
  exact ⟨by rw [ha], A, n, c, p, er, em, by rw [ha]; exact hs, M0.keep [true, true, true]⟩
 ·rcases jW key m with ⟨hi, _⟩ | ⟨i, bi, hbi, hbk, hi⟩
  ·simp [hi] at h20
  have hilt : i < m.length := (List.getElem?_eq_some_iff.1 hbi).1
  obtain ⟨bl, hbl⟩ := cI (xs := m) (k := n - 1) rfl (by omega)
  have hps : p.isSome = true := hs.map.isSome hi
  refine aK (aC (aD (aA (wq (aG (.pointer _) rfl) rfl (wq (aO rfl) rfl (wq (aE 0 fD rfl) rfl (wq (aL 0 (.slice _ _ _) fI M0 rfl rfl rfl) rfl (wq (cP Tryz.underlying29 rfl) rfl ?_))))))))
  refine wq (mD rfl rfl (by omega) (by omega)) rfl (bP rfl rfl (aB (aC (aD (bO [(0, 0), (1, 0), (2, 0), (3, 1), (4, 0), (5, 0), (6, 0), (7, 0), (8, 1), (9, 0), (10, 1), (11, 1), (12, 1), (13, 2)] mixed rfl (by kernel_rfl) (fun w1 hb1 hh1 => ?_))))))
  have M1 := M0.drew hb1 hh1
  refine aV rfl rfl rfl (fun _ => aG (.pointer _) rfl) (aV rfl rfl rfl (fun _ => aO rfl) (aV rfl rfl rfl (fun _ => aE 0 fD rfl) (bV rfl rfl rfl (aL 0 (.slice _ _ _) fI M1 rfl rfl rfl) (fV rfl rfl rfl (aV rfl rfl rfl (fun _ => aG (.pointer _) rfl) ?_)))))
  refine aV rfl rfl rfl (fun _ => aO rfl) (aV rfl rfl rfl (fun _ => aE 0 fD rfl) (bV rfl rfl rfl (aL 0 (.slice _ _ _) fI M1 rfl rfl rfl) (fV rfl rfl rfl (bV rfl rfl rfl (bN (n - 1) dW rfl rfl (by omega) ((hs.row.rd M1 (aX (i := 1) rfl)).below_len (aJ aF hbl)) ((hs.row.rd M1 (aX (i := 1) rfl)).someK (aJ aF hbl))) ?_))))
  refine bV rfl rfl rfl (dC _ bS (hs.row.rd M1 (aX (i := 1) rfl)) (aJ aF hbl) rfl) (bV rfl rfl rfl (bN (i) dW rfl rfl (by rw [hi]; rfl) ((hs.row.rd M1 (aX (i := 1) rfl)).below_len (aJ aF hbi)) ((hs.row.rd M1 (aX (i := 1) rfl)).someK (aJ aF hbi))) (dG [true, true, true, true, true] rfl (by kernel_rfl) ?_))
  refine aEa 1 _ bS M1 rfl hs.row (aJ aF hbi) rfl rfl rfl rfl (aR rfl) (fun e2 w2 hR2 M2 => ?_)
  have hQ2 := hR2.mapSet (f := aF) (x := bl) rfl
  refine aB (aC ⟨dH, ?_⟩)
  refine cD (aC (aD (bO [(0, 0), (1, 0), (2, 0), (3, 1), (4, 0), (5, 0), (6, 0), (7, 1), (8, 0), (9, 1), (10, 1), (11, 1), (12, 0), (13, 2)] mixed rfl (by kernel_rfl) (fun w3 hb3 hh3 => ?_))))
  have M3 := M2.drew hb3 hh3
  refine aV rfl rfl rfl (fun _ => aG (.pointer _) rfl) (aV rfl rfl rfl (fun _ => aO rfl) (aV rfl rfl rfl (fun _ => aE 1 iX rfl) (bV rfl rfl rfl (aL 0 (.map _) mX M3 rfl rfl rfl) (aV rfl rfl rfl (fun _ => aG (.pointer _) rfl) (aV rfl rfl rfl (fun _ => aO rfl) ?_)))))
  refine aV rfl rfl rfl (fun _ => aE 0 fD rfl) (bV rfl rfl rfl (aL 0 (.slice _ _ _) fI M3 rfl rfl rfl) (fV rfl rfl rfl ?_))
  refine bV rfl rfl rfl (bN (i) dW rfl rfl (by rw [hi]; rfl) ((hQ2.rd M3 (aX (i := 1) rfl)).below_len (aJ aF (by rw [List.getElem?_set_self hilt] : (m.set i bl)[i]? = some bl))) ((hQ2.rd M3 (aX (i := 1) rfl)).someK (aJ aF (by rw [List.getElem?_set_self hilt] : (m.set i bl)[i]? = some bl)))) ?_
  refine bV rfl rfl rfl (bJ 0 eP (hQ2.rd M3 (aX (i := 1) rfl)) (Nat.lt_of_le_of_lt (Nat.zero_le _) ((hQ2.rd M3 (aX (i := 1) rfl)).below_len (aJ aF (by rw [List.getElem?_set_self hilt] : (m.set i bl)[i]? = some bl)))) rfl) ?_
  refine bV rfl rfl rfl (eJ (o := 0) (.int _ _) cC (hQ2.rd M3 (aX (i := 1) rfl)) (aJ aF (by rw [List.getElem?_set_self hilt] : (m.set i bl)[i]? = some bl)) rfl rfl) ?_
  refine fV rfl rfl rfl (dG [true, true, true, true, true] rfl (by kernel_rfl) (iM (enc := (Value.int .i64)) 2 pX M3 rfl rfl hs.map hps rfl rfl rfl (fun e4 w4 hm4 M4 => ?_)))
  refine aB (aC ⟨dH, ?_⟩)
  refine cD (aC (aD (aA (wq (aG (.pointer _) rfl) rfl (wq (aG (.pointer _) rfl) rfl (wq (aO rfl) rfl (wq (aE 0 fD rfl) rfl ?_)))))))
  refine wq (aL 0 (.slice _ _ _) fI M4 rfl rfl rfl) rfl (aY rfl rfl (wq (fY (0) (((n : Int) - 1)) dW rfl rfl ⟨_, rfl⟩ (by decide) (by omega) (by have := hs.row.slice; omega)) rfl (wq (aO rfl) rfl (wq (aE 0 fD rfl) rfl (dX 0 (.slice _ _ _) fI M4 rfl rfl rfl rfl rfl rfl (fun w5 M5 => ?_))))))
  refine aB (aC (aD (aA (wq (aG (.pointer _) rfl) rfl (wq (aO rfl) rfl (wq (aE 1 iX rfl) rfl (wq (aL 0 (.map _) mX M5 rfl rfl rfl) rfl (aY rfl rfl ?_))))))))
  refine aPa (enc := (Value.int .i64)) 2 pX M5 rfl rfl hm4 hps rfl rfl (fun e6 w6 hm6 M6 => (aB (aC (aD (aA (bP rfl rfl (aB (aC (aM (bW (.int _ _) rfl ?_))))))))))
  have ha : jA m key = (uF m i, 0) := by unfold jA; rw [iJ, hi]; simp only []; rw [if_neg (by omega), Int.toNat_natCast]
  have hn1 : ((n : Int) - 1).toNat = n - 1 := by omega
  exact ⟨by rw [ha], _, _, _, _, _, _, by rw [ha]; exact hs.cut hbi hbk (by rw [hlen]; exact hbl) (by rw [hi]; rfl) (by omega) hQ2 hm6, M6.keep [true, true, true]⟩
set_option maxHeartbeats 4000000 in
theorem aLg (w : World) (b : Nat) (A : Option Addr) (n c : Nat) (p : Option Nat) (er em : dN) (m : List Body) (hs : StoreIs 39 A n c p er em m) (hO : Own [(some b, bc [.slice A n c, .map p] 107), er, em] w) :
  Calls Tryz.prog 68 #[.pointer (some ⟨b, 0, none⟩)] w (fun ex w' => ∃ v, ex = .returned v ∧ (fun v w' => ∃ A' n' c' e', v = .slice A' n' c' ∧ aW 39 10 A' n' c' ((rM m).map aF) e' ∧ Mem w (bH [(some b, bc [.slice A n c, .map p] 107), er, em]) [(some b, bc [.slice A n c, .map p] 107), er, em, e'] w') v w') := by
 have hlen : m.length = n := by simpa using hs.row.1
 have hcap := hs.cap
 refine aH #[.tmp 2] 14 Tryz.func68 rfl Tryz.results68 Tryz.ntmps68 rfl ?_
 have M0 := hO.mem
 refine aD (aA (fP rfl rfl (aB (aC (aD (aD (aA (wq (aG (.pointer _) rfl) rfl (wq (eN false Tryz.underlying162 rfl rfl) rfl (aB (aC ?_)))))))))))
 refine cB rfl (aK (aC (aD (aA (wq (aG (.pointer _) rfl) rfl (wq (aO rfl) rfl (wq (aE 0 fD rfl) rfl (wq (aL 0 (.slice _ _ _) fI M0 rfl rfl rfl) rfl ?_))))))))
 refine bX bIq rfl rfl (aBj _ _ _ _ _ (hs.row.rd M0 (aX (i := 1) rfl)) (aMa m) (by omega)) ?_
 rintro v1 w1 ⟨A1, n1, c1, e1, rfl, hR1, hM1, _⟩
 have M1 : Mem _ _ [_, _, _, _] _ := M0.call0 hM1
 have hn1 : n1 = m.length := by simpa using hR1.1.symm
 refine fP rfl rfl (aB (aC (aD (aA (eG rfl rfl (bX bGf rfl rfl (wW 115 bGh wV _ _ _ _ m _ hR1 (M1.ownAt (i := 3) rfl) (by omega)) ?_))))))
 rintro v2 w2 ⟨rfl, ys2, e2, hp2, hu2, hR2, hM2⟩
 have M2 : Mem _ _ [_, _, _, _] _ := M1.seg 3 1 hM2
 have hys : ys2 = rM m := aCv hu2 (qJ m) (hp2.trans (hJ m).symm) (hs.keys.perm hp2)
 rw [hys] at hR2
 refine aB (aC (aD (aA (eG rfl rfl (fP rfl rfl (aB (aC (aM (bW (.slice _ _ _) rfl ?_)))))))))
 exact ⟨_, _, _, _, rfl, hR2, M2⟩
theorem iL {x : Int} (h : 0 ≤ x ∧ x ≤ 4294967295) : IntKind.wrap .i32 x = nE x := by
 unfold nE
 simp [IntKind.wrap, IntKind.bits, IntKind.signed]
 split <;> split <;> omega
set_option maxHeartbeats 4000000 in
theorem aDd (w : World) (r : Row) (xs : List Int) (hr : aW 5 1 r.A r.n r.c ((xs).map bI) r.e) (n : Int) (hn : 0 ≤ n ∧ n ≤ 4294967295) (hl : r.n ≤ 1048576) (hO : Own [r.e] w) :
  Calls Tryz.prog 100 #[.slice r.A r.n r.c, .int .u32 n] w (fun ex w' => ∃ v, ex = .returned v ∧ (fun v w' => ∃ q : Row, v = .slice q.A q.n q.c ∧ q.n = r.n + 4 ∧ aW 5 1 q.A q.n q.c ((xs ++ cG n).map bI) q.e ∧ Mem w (bH [r.e]) [q.e] w') v w') := by
 refine aH #[.tmp 4] 19 Tryz.func100 rfl Tryz.results100 Tryz.ntmps100 rfl ?_
 have M0 := hO.mem
 refine aD (aA (fP rfl rfl (aB (aC (aD (aA (eG rfl rfl (aY rfl rfl (wq (gM rfl rfl (by decide)) rfl ?_)))))))))
 refine aT 7 (.int .u32 (n / 16777216)) (iE (aZj n)) (wq (dU sJ Tryz.underlying5 rfl) rfl (aT 8 (.int .u8 (n / 16777216 % 256)) (iE (wr8 _)) (aY rfl rfl (wq (gM rfl rfl (by decide)) rfl (aT 10 (.int .u32 (n / 65536)) (iE (bBo n)) ?_)))))
 refine wq (dU sJ Tryz.underlying5 rfl) rfl (aT 11 (.int .u8 (n / 65536 % 256)) (iE (wr8 _)) (aY rfl rfl (wq (gM rfl rfl (by decide)) rfl (aT 13 (.int .u32 (n / 256)) (iE (bFp n)) (wq (dU sJ Tryz.underlying5 rfl) rfl ?_)))))
 refine aT 14 (.int .u8 (n / 256 % 256)) (iE (wr8 _)) (aY rfl rfl (wq (dU sJ Tryz.underlying5 rfl) rfl (aT 16 (.int .u8 (n % 256)) (iE (wr8 _)) (dB [.int _ _, .int _ _, .int _ _, .int _ _] ((cG n).map bI) rfl mL M0 rfl rfl rfl rfl (dI rfl) (by decide) (fun b1 w1 M1 => (eC 0 ((cG n).map bI) mL M1 rfl rfl rfl rfl rfl hr rfl (by simp [cG, bI, Go.Bil.one]) (dD.ofMem 1 M1 rfl) (by omega) (fun A2 c2 e2 w2 M2 hR2 => ?_)))))))
 refine fP rfl rfl (aB (aC (aM (bW (.slice _ _ _) rfl ?_))))
 exact ⟨⟨A2, _, c2, e2⟩, rfl, rfl, by rw [List.map_append]; exact hR2, M2.keep [true, false]⟩
set_option maxHeartbeats 4000000 in
theorem fS (w : World) (x : Int) :
  Calls Tryz.prog 136 #[.int .i32 x] w (fun ex w' => ∃ v, ex = .returned v ∧ (fun v w' => v = .int .u32 (x % 4294967296) ∧ Below w.heap.size w w') v w') := by
 refine aH #[.tmp 2] 5 Tryz.func136 rfl Tryz.results136 Tryz.ntmps136 rfl ?_
 have M0 := Mem.refl w
 refine aD (aA (bP rfl rfl (aB (aC (aD (aA (aY rfl rfl (wq (dU fW Tryz.underlying35 rfl) rfl (aT 4 (.int .u32 (x % 4294967296)) (iE (aYb _)) ?_)))))))))
 refine bP rfl rfl (aB (aC (aM (bW (.int _ _) rfl ?_))))
 exact ⟨rfl, M0.below⟩
set_option maxHeartbeats 4000000 in
theorem aKk (w : World) (b : Body) :
  Calls Tryz.prog 101 #[(.agg (aF b).toArray)] w (fun ex w' => ∃ v, ex = .returned v ∧ (fun v w' => v = .agg ((vV b).map (Value.int .u32)).toArray ∧ Below w.heap.size w w') v w') := by
 refine aH #[.cell 2 139] 49 Tryz.func101 rfl Tryz.results101 Tryz.ntmps101 rfl ?_
 have M0 := Mem.refl w
 refine aD (aA (bG (.agg (List.toArray _)) M0 rfl rfl rfl (fun b1 w1 M1 => (aQ aEt M1 rfl rfl (fun b2 w2 M2 => (aB (aC (aD (aA (wq (aI (.func _ _ _) rfl) rfl (aB (aC (aD ?_)))))))))))))
 refine bO [(0, 0), (1, 1), (2, 0), (3, 0), (4, 1), (6, 0), (7, 0), (8, 0), (9, 1), (11, 0), (12, 0), (13, 0), (14, 1), (16, 0), (17, 0), (18, 1), (20, 0), (21, 0), (22, 1), (24, 0), (25, 0), (26, 0), (27, 1), (29, 0), (30, 0), (31, 0), (32, 1), (34, 0), (35, 0), (36, 0), (37, 1), (39, 0), (40, 0), (41, 0), (42, 1), (5, 2), (10, 2), (15, 2), (19, 2), (23, 2), (28, 2), (33, 2), (38, 2), (43, 2), (44, 0), (45, 2)] mixed rfl (by kernel_rfl) (fun w3 hb3 hh3 => ?_)
 have M3 := M2.drew hb3 hh3
 refine aV rfl rfl rfl (fun _ => aE 0 eP rfl) (bV rfl rfl rfl (aL 0 (.int _ _) cC M3 rfl rfl rfl) (aV rfl rfl rfl (fun _ => aG (.func _ _ _) rfl) (aV rfl rfl rfl (fun _ => aE 1 lE rfl) (bV rfl rfl rfl (aL 0 (.int _ _) aU M3 rfl rfl rfl) (aV rfl rfl rfl (fun _ => aG (.func _ _ _) rfl) ?_)))))
 refine aV rfl rfl rfl (fun _ => aE 2 jK rfl) (aV rfl rfl rfl (fun _ => aE 0 dR rfl) (bV rfl rfl rfl (aL 0 (.int _ _) aU M3 rfl rfl rfl) (aV rfl rfl rfl (fun _ => aG (.func _ _ _) rfl) (aV rfl rfl rfl (fun _ => aE 2 jK rfl) (aV rfl rfl rfl (fun _ => aE 1 dJ rfl) ?_)))))
 refine bV rfl rfl rfl (aL 0 (.int _ _) aU M3 rfl rfl rfl) (aV rfl rfl rfl (fun _ => aG (.func _ _ _) rfl) (aV rfl rfl rfl (fun _ => aE 4 fB rfl) (bV rfl rfl rfl (aL 0 (.int _ _) aU M3 rfl rfl rfl) (aV rfl rfl rfl (fun _ => aG (.func _ _ _) rfl) (aV rfl rfl rfl (fun _ => aE 5 oX rfl) ?_)))))
 refine bV rfl rfl rfl (aL 0 (.int _ _) aU M3 rfl rfl rfl) (aV rfl rfl rfl (fun _ => aG (.func _ _ _) rfl) (aV rfl rfl rfl (fun _ => aE 6 fR rfl) (aV rfl rfl rfl (fun _ => aE 0 dR rfl) (bV rfl rfl rfl (aL 0 (.int _ _) aU M3 rfl rfl rfl) (aV rfl rfl rfl (fun _ => aG (.func _ _ _) rfl) ?_)))))
 refine aV rfl rfl rfl (fun _ => aE 6 fR rfl) (aV rfl rfl rfl (fun _ => aE 1 dJ rfl) (bV rfl rfl rfl (aL 0 (.int _ _) aU M3 rfl rfl rfl) (aV rfl rfl rfl (fun _ => aG (.func _ _ _) rfl) (aV rfl rfl rfl (fun _ => aE 8 fA rfl) (aV rfl rfl rfl (fun _ => aE 0 dR rfl) ?_)))))
 refine bV rfl rfl rfl (aL 0 (.int _ _) aU M3 rfl rfl rfl) (aV rfl rfl rfl (fun _ => aG (.func _ _ _) rfl) (aV rfl rfl rfl (fun _ => aE 8 fA rfl) (aV rfl rfl rfl (fun _ => aE 1 dJ rfl) (bV rfl rfl rfl (aL 0 (.int _ _) aU M3 rfl rfl rfl) (dG [false, false, false, false, false, false, false, false, true, false] rfl (by kernel_rfl) ?_)))))
 refine bX oH rfl rfl (fS _ b.radius) ?_
 rintro v4 w4 ⟨rfl, hb4⟩
 have M4 := M3.callB hb4
 refine aB (aC ⟨(eF (bK rfl (aL 0 (.int _ _) aU M4 rfl rfl rfl)) (eF (bK rfl (aL 0 (.int _ _) aU M4 rfl rfl rfl)) (eF (bK rfl (aL 0 (.int _ _) aU M4 rfl rfl rfl)) (eF (bK rfl (aL 0 (.int _ _) aU M4 rfl rfl rfl)) (eF (bK rfl (aL 0 (.int _ _) aU M4 rfl rfl rfl)) (eF (bK rfl (aL 0 (.int _ _) aU M4 rfl rfl rfl)) (eF (bK rfl (aL 0 (.int _ _) aU M4 rfl rfl rfl)) (eF (bK rfl (aL 0 (.int _ _) aU M4 rfl rfl rfl)) (eF (bK rfl (aL 0 (.int _ _) cC M4 rfl rfl rfl)) dH))))))))), ?_⟩)
 refine dG [false, false, false, false, false, false, false, true, false] rfl (by kernel_rfl) (bX oH rfl rfl (fS _ b.ax) ?_)
 rintro v5 w5 ⟨rfl, hb5⟩
 have M5 := M4.callB hb5
 refine aB (aC ⟨(eF (bK rfl (aL 0 (.int _ _) aU M5 rfl rfl rfl)) (eF (bK rfl (aL 0 (.int _ _) aU M5 rfl rfl rfl)) (eF (bK rfl (aL 0 (.int _ _) aU M5 rfl rfl rfl)) (eF (bK rfl (aL 0 (.int _ _) aU M5 rfl rfl rfl)) (eF (bK rfl (aL 0 (.int _ _) aU M5 rfl rfl rfl)) (eF (bK rfl (aL 0 (.int _ _) aU M5 rfl rfl rfl)) (eF (bK rfl (aL 0 (.int _ _) aU M5 rfl rfl rfl)) (eF (bK rfl (aL 0 (.int _ _) cC M5 rfl rfl rfl)) dH)))))))), ?_⟩)
 refine dG [false, false, false, false, false, false, true, false] rfl (by kernel_rfl) (bX oH rfl rfl (fS _ b.ay) ?_)
 rintro v6 w6 ⟨rfl, hb6⟩
 have M6 := M5.callB hb6
 refine aB (aC ⟨(eF (bK rfl (aL 0 (.int _ _) aU M6 rfl rfl rfl)) (eF (bK rfl (aL 0 (.int _ _) aU M6 rfl rfl rfl)) (eF (bK rfl (aL 0 (.int _ _) aU M6 rfl rfl rfl)) (eF (bK rfl (aL 0 (.int _ _) aU M6 rfl rfl rfl)) (eF (bK rfl (aL 0 (.int _ _) aU M6 rfl rfl rfl)) (eF (bK rfl (aL 0 (.int _ _) aU M6 rfl rfl rfl)) (eF (bK rfl (aL 0 (.int _ _) cC M6 rfl rfl rfl)) dH))))))), ?_⟩)
 refine dG [false, false, false, false, false, true, false] rfl (by kernel_rfl) (bX oH rfl rfl (fS _ b.mass) ?_)
 rintro v7 w7 ⟨rfl, hb7⟩
 have M7 := M6.callB hb7
 refine aB (aC ⟨(eF (bK rfl (aL 0 (.int _ _) aU M7 rfl rfl rfl)) (eF (bK rfl (aL 0 (.int _ _) aU M7 rfl rfl rfl)) (eF (bK rfl (aL 0 (.int _ _) aU M7 rfl rfl rfl)) (eF (bK rfl (aL 0 (.int _ _) aU M7 rfl rfl rfl)) (eF (bK rfl (aL 0 (.int _ _) aU M7 rfl rfl rfl)) (eF (bK rfl (aL 0 (.int _ _) cC M7 rfl rfl rfl)) dH)))))), ?_⟩)
 refine dG [false, false, false, false, true, false] rfl (by kernel_rfl) (bX oH rfl rfl (fS _ b.bounce) ?_)
 rintro v8 w8 ⟨rfl, hb8⟩
 have M8 := M7.callB hb8
 refine aB (aC ⟨(eF (bK rfl (aL 0 (.int _ _) aU M8 rfl rfl rfl)) (eF (bK rfl (aL 0 (.int _ _) aU M8 rfl rfl rfl)) (eF (bK rfl (aL 0 (.int _ _) aU M8 rfl rfl rfl)) (eF (bK rfl (aL 0 (.int _ _) aU M8 rfl rfl rfl)) (eF (bK rfl (aL 0 (.int _ _) cC M8 rfl rfl rfl)) dH))))), ?_⟩)
 refine dG [false, false, false, true, false] rfl (by kernel_rfl) (bX oH rfl rfl (fS _ b.px) ?_)
 rintro v9 w9 ⟨rfl, hb9⟩
 have M9 := M8.callB hb9
 refine aB (aC ⟨(eF (bK rfl (aL 0 (.int _ _) aU M9 rfl rfl rfl)) (eF (bK rfl (aL 0 (.int _ _) aU M9 rfl rfl rfl)) (eF (bK rfl (aL 0 (.int _ _) aU M9 rfl rfl rfl)) (eF (bK rfl (aL 0 (.int _ _) cC M9 rfl rfl rfl)) dH)))), ?_⟩)
 refine dG [false, false, true, false] rfl (by kernel_rfl) (bX oH rfl rfl (fS _ b.py) ?_)
 rintro v10 w10 ⟨rfl, hb10⟩
 have M10 := M9.callB hb10
 refine aB (aC ⟨(eF (bK rfl (aL 0 (.int _ _) aU M10 rfl rfl rfl)) (eF (bK rfl (aL 0 (.int _ _) aU M10 rfl rfl rfl)) (eF (bK rfl (aL 0 (.int _ _) cC M10 rfl rfl rfl)) dH))), ?_⟩)
 refine dG [false, true, false] rfl (by kernel_rfl) (bX oH rfl rfl (fS _ b.vx) ?_)
 rintro v11 w11 ⟨rfl, hb11⟩
 have M11 := M10.callB hb11
 refine aB (aC ⟨(eF (bK rfl (aL 0 (.int _ _) aU M11 rfl rfl rfl)) (eF (bK rfl (aL 0 (.int _ _) cC M11 rfl rfl rfl)) dH)), ?_⟩)
 refine dG [true, false] rfl (by kernel_rfl) (bX oH rfl rfl (fS _ b.vy) ?_)
 rintro v12 w12 ⟨rfl, hb12⟩
 have M12 := M11.callB hb12
 refine aB (aC ⟨(eF (bK rfl (aL 0 (.int _ _) cC M12 rfl rfl rfl)) dH), ?_⟩)
 refine aV rfl rfl rfl (fun _ => pN [.int _ _, .int _ _, .int _ _, .int _ _, .int _ _, .int _ _, .int _ _, .int _ _, .int _ _, .int _ _] fN aEt rfl rfl (dI rfl)) (dG [true] rfl (by kernel_rfl) (bB 1 _ aMn M12 rfl rfl rfl rfl rfl (aR rfl) rfl (fun w13 M13 => ?_)))
 refine aB (aC ⟨dH, ?_⟩)
 refine cD (aC (aM (eV 1 aMn M13 rfl rfl rfl ?_)))
 exact ⟨rfl, M13.below⟩
set_option maxHeartbeats 4000000 in
theorem gD (w : World) (A : Option Addr) (n c : Nat) (ls : List Int) (R : Rd w 1 A n (ls.map bI)) (hB : iR ls) (h4 : 4 ≤ n) :
  Calls Tryz.prog 79 #[.slice A n c] w (fun ex w' => ∃ v, ex = .returned v ∧ (fun v w' => v = .int .u32 (dZ ls 0) ∧ Below w.heap.size w w') v w') := by
 have hlen : ls.length = n := by simpa using R.len
 have hbd := R.bound
 obtain ⟨x0, hx0⟩ := cI (xs := ls) (k := 0) hlen (by omega)
 obtain ⟨x1, hx1⟩ := cI (xs := ls) (k := 1) hlen (by omega)
 obtain ⟨x2, hx2⟩ := cI (xs := ls) (k := 2) hlen (by omega)
 obtain ⟨x3, hx3⟩ := cI (xs := ls) (k := 3) hlen (by omega)
 obtain ⟨g0, g1⟩ := hB x0 (List.mem_of_getElem? hx0)
 obtain ⟨g2, g3⟩ := hB x1 (List.mem_of_getElem? hx1)
 obtain ⟨g4, g5⟩ := hB x2 (List.mem_of_getElem? hx2)
 obtain ⟨g6, g7⟩ := hB x3 (List.mem_of_getElem? hx3)
 have hnum : dZ ls 0 = ((x0 * 256 + x1) * 256 + x2) * 256 + x3 := by unfold dZ; simp only [List.getD_eq_getElem?_getD, Nat.zero_add, hx0, hx1, hx2, hx3, Option.getD_some]
 obtain ⟨b0, rfl⟩ := Int.eq_ofNat_of_zero_le g0
 obtain ⟨b1, rfl⟩ := Int.eq_ofNat_of_zero_le g2
 obtain ⟨b2, rfl⟩ := Int.eq_ofNat_of_zero_le g4
 obtain ⟨b3, rfl⟩ := Int.eq_ofNat_of_zero_le g6
 refine aH #[.tmp 2] 25 Tryz.func79 rfl Tryz.results79 Tryz.ntmps79 rfl ?_
 have M0 := Mem.refl w
 refine aD (aA (bP rfl rfl (aB (aC (aD (bO [(0, 0), (1, 1), (2, 1), (3, 0), (4, 0), (5, 0), (6, 1), (7, 1), (8, 0), (9, 0), (10, 0), (11, 0), (12, 1), (13, 1), (14, 0), (15, 0), (16, 0), (17, 0), (18, 1), (19, 1), (20, 0), (21, 0), (22, 0)] mixed rfl (by kernel_rfl) (fun w1 hb1 hh1 => ?_)))))))
 have M1 := M0.drew hb1 hh1
 refine oF rfl rfl rfl (bV rfl rfl rfl (bN (0) mL rfl rfl rfl ((R.mem M1).below_len (aJ bI hx0)) ((R.mem M1).someK (aJ bI hx0))) (bV rfl rfl rfl (iB (.int _ _) aRz (R.mem M1) (aJ bI hx0) rfl) (aV rfl rfl rfl (fun _ => bZ us5 Tryz.underlying35 rfl (aDg _ (by omega) (by omega))) ?_)))
 refine aV rfl rfl rfl (fun _ => tK rfl rfl (by decide)) (fH 7 (.int .u32 ((b0 * 16777216 : Nat) : Int)) (iE (aYw b0 (by omega))) (oF rfl rfl rfl (bV rfl rfl rfl (bN (1) mL rfl rfl rfl ((R.mem M1).below_len (aJ bI hx1)) ((R.mem M1).someK (aJ bI hx1))) (bV rfl rfl rfl (iB (.int _ _) aRz (R.mem M1) (aJ bI hx1) rfl) ?_))))
 refine aV rfl rfl rfl (fun _ => bZ us5 Tryz.underlying35 rfl (aDg _ (by omega) (by omega))) (aV rfl rfl rfl (fun _ => tK rfl rfl (by decide)) (fH 12 (.int .u32 ((b1 * 65536 : Nat) : Int)) (iE (bBx b1 (by omega))) (aV rfl rfl rfl (fun _ => dO (.int _ _) rfl rfl rfl) (fH 13 (.int .u32 ((b0 * 16777216 + b1 * 65536 : Nat) : Int)) (iE (bDr b0 (b0 * 16777216) (b1 * 65536) 24 rfl (show b1 * 65536 < 16777216 by omega) (by omega))) ?_))))
 refine oF rfl rfl rfl (bV rfl rfl rfl (bN (2) mL rfl rfl rfl ((R.mem M1).below_len (aJ bI hx2)) ((R.mem M1).someK (aJ bI hx2))) (bV rfl rfl rfl (iB (.int _ _) aRz (R.mem M1) (aJ bI hx2) rfl) (aV rfl rfl rfl (fun _ => bZ us5 Tryz.underlying35 rfl (aDg _ (by omega) (by omega))) ?_)))
 refine aV rfl rfl rfl (fun _ => tK rfl rfl (by decide)) (fH 18 (.int .u32 ((b2 * 256 : Nat) : Int)) (iE (bGw b2 (by omega))) (aV rfl rfl rfl (fun _ => dO (.int _ _) rfl rfl rfl) (fH 19 (.int .u32 ((b0 * 16777216 + b1 * 65536 + b2 * 256 : Nat) : Int)) (iE (bDr (b0 * 256 + b1) (b0 * 16777216 + b1 * 65536) (b2 * 256) 16 (show (b0 * 256 + b1) * 65536 = _ by omega) (show b2 * 256 < 65536 by omega) (by omega))) ?_)))
 refine oF rfl rfl rfl (bV rfl rfl rfl (bN (3) mL rfl rfl rfl ((R.mem M1).below_len (aJ bI hx3)) ((R.mem M1).someK (aJ bI hx3))) (bV rfl rfl rfl (iB (.int _ _) aRz (R.mem M1) (aJ bI hx3) rfl) (aV rfl rfl rfl (fun _ => bZ us5 Tryz.underlying35 rfl (aDg _ (by omega) (by omega))) ?_)))
 refine aV rfl rfl rfl (fun _ => dO (.int _ _) rfl rfl rfl) (fH 24 (.int .u32 ((b0 * 16777216 + b1 * 65536 + b2 * 256 + b3 : Nat) : Int)) (iE (bDr (b0 * 65536 + b1 * 256 + b2) (b0 * 16777216 + b1 * 65536 + b2 * 256) b3 8 (show (b0 * 65536 + b1 * 256 + b2) * 256 = _ by omega) (show b3 < 256 by omega) (by omega))) ?_)
 refine qN rfl rfl rfl (cD (aC (aM (bW (.int _ _) rfl ?_))))
 exact ⟨iE (by rw [hnum]; omega), M1.below⟩
set_option maxHeartbeats 4000000 in
theorem fK (w : World) (n : Int) (hn : 0 ≤ n ∧ n ≤ 4294967295) :
  Calls Tryz.prog 80 #[.int .i64 n] w (fun ex w' => ∃ v, ex = .returned v ∧ (fun v w' => v = .int .i64 (8 + 40 * n) ∧ Below w.heap.size w w') v w') := by
 refine aH #[.tmp 2] 6 Tryz.func80 rfl Tryz.results80 Tryz.ntmps80 rfl ?_
 have M0 := Mem.refl w
 refine aD (aA (bP rfl rfl (aB (aC (aD (aA (aY rfl rfl (wq (gE rfl rfl (by omega) (by omega)) rfl (wq (bU rfl rfl (by omega) (by omega)) rfl ?_)))))))))
 refine bP rfl rfl (aB (aC (aM (bW (.int _ _) rfl ?_))))
 exact ⟨iE (by omega), M0.below⟩
set_option maxHeartbeats 4000000 in
theorem wU (w : World) (b : Nat) (x0 x1 x2 x3 x4 x5 x6 x7 x8 x9 : Int) (h0 : 0 ≤ x2 ∧ x2 ≤ 4294967295) (h1 : 0 ≤ x3 ∧ x3 ≤ 4294967295) (hO : Own [(some b, bc [.int .u32 x0, .int .u32 x1, .int .u32 x2, .int .u32 x3, .int .u32 x4, .int .u32 x5, .int .u32 x6, .int .u32 x7, .int .u32 x8, .int .u32 x9] 139)] w) :
  Calls Tryz.prog 118 #[.int .i64 2, .pointer (some ⟨b, 0, none⟩)] w (fun ex w' => ∃ v, ex = .returned v ∧ (fun v w' => v = .agg [.int .i32 (nE x2), .int .i32 (nE x3)].toArray ∧ Mem w (bH [(some b, bc [.int .u32 x0, .int .u32 x1, .int .u32 x2, .int .u32 x3, .int .u32 x4, .int .u32 x5, .int .u32 x6, .int .u32 x7, .int .u32 x8, .int .u32 x9] 139)]) [(some b, bc [.int .u32 x0, .int .u32 x1, .int .u32 x2, .int .u32 x3, .int .u32 x4, .int .u32 x5, .int .u32 x6, .int .u32 x7, .int .u32 x8, .int .u32 x9] 139)] w') v w') := by
 refine aH #[.cell 3 37] 14 Tryz.func118 rfl Tryz.results118 Tryz.ntmps118 rfl ?_
 have M0 := hO.mem
 refine aD (aA (aQ gL M0 rfl rfl (fun b1 w1 M1 => (aB (aC (aD (bO [(0, 0), (1, 0), (2, 1), (3, 0), (4, 0), (5, 0), (6, 0), (7, 1), (8, 0), (9, 0), (10, 2)] mixed rfl (by kernel_rfl) (fun w2 hb2 hh2 => ?_))))))))
 have M2 := M1.drew hb2 hh2
 refine fV rfl rfl rfl (aV rfl rfl rfl (fun _ => fF (2) fN rfl rfl rfl (by decide)) (bV rfl rfl rfl (aL 0 (.int _ _) cC M2 rfl rfl rfl) (aV rfl rfl rfl (fun _ => dU sJ Tryz.underlying21 rfl) (fH 7 (.int .i32 (nE x2)) (iE (iL h0)) (fV rfl rfl rfl ?_)))))
 refine aV rfl rfl rfl (fun _ => bU rfl rfl (by first | decide | omega) (by first | decide | omega)) (aV rfl rfl rfl (fun _ => fF (3) fN rfl rfl rfl (by decide)) (bV rfl rfl rfl (aL 0 (.int _ _) cC M2 rfl rfl rfl) (aV rfl rfl rfl (fun _ => dU sJ Tryz.underlying21 rfl) (fH 12 (.int .i32 (nE x3)) (iE (iL h1)) ?_))))
 refine aV rfl rfl rfl (fun _ => cH [(0, .int _ _), (1, .int _ _)] _ fE rfl rfl) (dG [true, true] rfl (by kernel_rfl) (bB 1 _ bM M2 rfl rfl rfl rfl rfl (aR rfl) rfl (fun w3 M3 => ?_)))
 refine aB (aC ⟨dH, ?_⟩)
 refine cD (aC (aM (eV 1 bM M3 rfl rfl rfl ?_)))
 exact ⟨rfl, M3.keep [true, false]⟩
set_option maxHeartbeats 4000000 in
theorem wS (w : World) (b : Nat) (x0 x1 x2 x3 x4 x5 x6 x7 x8 x9 : Int) (h0 : 0 ≤ x6 ∧ x6 ≤ 4294967295) (h1 : 0 ≤ x7 ∧ x7 ≤ 4294967295) (hO : Own [(some b, bc [.int .u32 x0, .int .u32 x1, .int .u32 x2, .int .u32 x3, .int .u32 x4, .int .u32 x5, .int .u32 x6, .int .u32 x7, .int .u32 x8, .int .u32 x9] 139)] w) :
  Calls Tryz.prog 118 #[.int .i64 6, .pointer (some ⟨b, 0, none⟩)] w (fun ex w' => ∃ v, ex = .returned v ∧ (fun v w' => v = .agg [.int .i32 (nE x6), .int .i32 (nE x7)].toArray ∧ Mem w (bH [(some b, bc [.int .u32 x0, .int .u32 x1, .int .u32 x2, .int .u32 x3, .int .u32 x4, .int .u32 x5, .int .u32 x6, .int .u32 x7, .int .u32 x8, .int .u32 x9] 139)]) [(some b, bc [.int .u32 x0, .int .u32 x1, .int .u32 x2, .int .u32 x3, .int .u32 x4, .int .u32 x5, .int .u32 x6, .int .u32 x7, .int .u32 x8, .int .u32 x9] 139)] w') v w') := by
 refine aH #[.cell 3 37] 14 Tryz.func118 rfl Tryz.results118 Tryz.ntmps118 rfl ?_
 have M0 := hO.mem
 refine aD (aA (aQ gL M0 rfl rfl (fun b1 w1 M1 => (aB (aC (aD (bO [(0, 0), (1, 0), (2, 1), (3, 0), (4, 0), (5, 0), (6, 0), (7, 1), (8, 0), (9, 0), (10, 2)] mixed rfl (by kernel_rfl) (fun w2 hb2 hh2 => ?_))))))))
 have M2 := M1.drew hb2 hh2
 refine fV rfl rfl rfl (aV rfl rfl rfl (fun _ => fF (6) fN rfl rfl rfl (by decide)) (bV rfl rfl rfl (aL 0 (.int _ _) cC M2 rfl rfl rfl) (aV rfl rfl rfl (fun _ => dU sJ Tryz.underlying21 rfl) (fH 7 (.int .i32 (nE x6)) (iE (iL h0)) (fV rfl rfl rfl ?_)))))
 refine aV rfl rfl rfl (fun _ => bU rfl rfl (by first | decide | omega) (by first | decide | omega)) (aV rfl rfl rfl (fun _ => fF (7) fN rfl rfl rfl (by decide)) (bV rfl rfl rfl (aL 0 (.int _ _) cC M2 rfl rfl rfl) (aV rfl rfl rfl (fun _ => dU sJ Tryz.underlying21 rfl) (fH 12 (.int .i32 (nE x7)) (iE (iL h1)) ?_))))
 refine aV rfl rfl rfl (fun _ => cH [(0, .int _ _), (1, .int _ _)] _ fE rfl rfl) (dG [true, true] rfl (by kernel_rfl) (bB 1 _ bM M2 rfl rfl rfl rfl rfl (aR rfl) rfl (fun w3 M3 => ?_)))
 refine aB (aC ⟨dH, ?_⟩)
 refine cD (aC (aM (eV 1 bM M3 rfl rfl rfl ?_)))
 exact ⟨rfl, M3.keep [true, false]⟩
set_option maxHeartbeats 4000000 in
theorem wZ (w : World) (b : Nat) (x0 x1 x2 x3 x4 x5 x6 x7 x8 x9 : Int) (h0 : 0 ≤ x8 ∧ x8 ≤ 4294967295) (h1 : 0 ≤ x9 ∧ x9 ≤ 4294967295) (hO : Own [(some b, bc [.int .u32 x0, .int .u32 x1, .int .u32 x2, .int .u32 x3, .int .u32 x4, .int .u32 x5, .int .u32 x6, .int .u32 x7, .int .u32 x8, .int .u32 x9] 139)] w) :
  Calls Tryz.prog 118 #[.int .i64 8, .pointer (some ⟨b, 0, none⟩)] w (fun ex w' => ∃ v, ex = .returned v ∧ (fun v w' => v = .agg [.int .i32 (nE x8), .int .i32 (nE x9)].toArray ∧ Mem w (bH [(some b, bc [.int .u32 x0, .int .u32 x1, .int .u32 x2, .int .u32 x3, .int .u32 x4, .int .u32 x5, .int .u32 x6, .int .u32 x7, .int .u32 x8, .int .u32 x9] 139)]) [(some b, bc [.int .u32 x0, .int .u32 x1, .int .u32 x2, .int .u32 x3, .int .u32 x4, .int .u32 x5, .int .u32 x6, .int .u32 x7, .int .u32 x8, .int .u32 x9] 139)] w') v w') := by
 refine aH #[.cell 3 37] 14 Tryz.func118 rfl Tryz.results118 Tryz.ntmps118 rfl ?_
 have M0 := hO.mem
 refine aD (aA (aQ gL M0 rfl rfl (fun b1 w1 M1 => (aB (aC (aD (bO [(0, 0), (1, 0), (2, 1), (3, 0), (4, 0), (5, 0), (6, 0), (7, 1), (8, 0), (9, 0), (10, 2)] mixed rfl (by kernel_rfl) (fun w2 hb2 hh2 => ?_))))))))
 have M2 := M1.drew hb2 hh2
 refine fV rfl rfl rfl (aV rfl rfl rfl (fun _ => fF (8) fN rfl rfl rfl (by decide)) (bV rfl rfl rfl (aL 0 (.int _ _) cC M2 rfl rfl rfl) (aV rfl rfl rfl (fun _ => dU sJ Tryz.underlying21 rfl) (fH 7 (.int .i32 (nE x8)) (iE (iL h0)) (fV rfl rfl rfl ?_)))))
 refine aV rfl rfl rfl (fun _ => bU rfl rfl (by first | decide | omega) (by first | decide | omega)) (aV rfl rfl rfl (fun _ => fF (9) fN rfl rfl rfl (by decide)) (bV rfl rfl rfl (aL 0 (.int _ _) cC M2 rfl rfl rfl) (aV rfl rfl rfl (fun _ => dU sJ Tryz.underlying21 rfl) (fH 12 (.int .i32 (nE x9)) (iE (iL h1)) ?_))))
 refine aV rfl rfl rfl (fun _ => cH [(0, .int _ _), (1, .int _ _)] _ fE rfl rfl) (dG [true, true] rfl (by kernel_rfl) (bB 1 _ bM M2 rfl rfl rfl rfl rfl (aR rfl) rfl (fun w3 M3 => ?_)))
 refine aB (aC ⟨dH, ?_⟩)
 refine cD (aC (aM (eV 1 bM M3 rfl rfl rfl ?_)))
 exact ⟨rfl, M3.keep [true, false]⟩
set_option maxHeartbeats 4000000 in
theorem aEi (w : World) (x0 x1 x2 x3 x4 x5 x6 x7 x8 x9 : Int) (hx : ∀ x ∈ ([x0, x1, x2, x3, x4, x5, x6, x7, x8, x9] : List Int), 0 ≤ x ∧ x ≤ 4294967295) :
  Calls Tryz.prog 81 #[.agg [.int .u32 x0, .int .u32 x1, .int .u32 x2, .int .u32 x3, .int .u32 x4, .int .u32 x5, .int .u32 x6, .int .u32 x7, .int .u32 x8, .int .u32 x9].toArray] w (fun ex w' => ∃ v, ex = .returned v ∧ (fun v w' => v = (.agg (aF (⟨x0, nE x1, nE x2, nE x3, nE x4, nE x5, nE x6, nE x7, nE x8, nE x9⟩ : Body)).toArray) ∧ Below w.heap.size w w') v w') := by
 refine aH #[.cell 2 39] 23 Tryz.func81 rfl Tryz.results81 Tryz.ntmps81 rfl ?_
 have M0 := Mem.refl w
 refine aD (aA (bG (.agg (List.toArray _)) M0 rfl rfl rfl (fun b1 w1 M1 => (aQ gS M1 rfl rfl (fun b2 w2 M2 => (aB (aC (aD (aA (wq (cO [] [.pointer _] rfl rfl) rfl (wq (aI (.func _ _ _) rfl) rfl ?_)))))))))))
 refine aB (aC (aD (bO [(0, 0), (1, 1), (2, 0), (3, 1), (4, 0), (5, 0), (7, 0), (8, 1), (9, 0), (10, 0), (11, 1), (12, 0), (13, 0), (15, 0), (6, 2), (14, 2), (16, 2), (17, 0), (18, 2)] mixed rfl (by kernel_rfl) (fun w3 hb3 hh3 => ?_))))
 have M3 := M2.drew hb3 hh3
 refine aV rfl rfl rfl (fun _ => fF (0) fN rfl rfl rfl (by decide)) (bV rfl rfl rfl (aL 0 (.int _ _) cC M3 rfl rfl rfl) (aV rfl rfl rfl (fun _ => fF (1) fN rfl rfl rfl (by decide)) (bV rfl rfl rfl (aL 0 (.int _ _) cC M3 rfl rfl rfl) (aV rfl rfl rfl (fun _ => dU sJ Tryz.underlying21 rfl) ?_))))
 refine fH 9 (.int .i32 (nE x1)) (iE (iL (hx _ (by simp)))) (aV rfl rfl rfl (fun _ => aG (.func _ _ _) rfl) (aV rfl rfl rfl (fun _ => fF (4) fN rfl rfl rfl (by decide)) (bV rfl rfl rfl (aL 0 (.int _ _) cC M3 rfl rfl rfl) (aV rfl rfl rfl (fun _ => dU sJ Tryz.underlying21 rfl) ?_))))
 refine fH 14 (.int .i32 (nE x4)) (iE (iL (hx _ (by simp)))) (aV rfl rfl rfl (fun _ => fF (5) fN rfl rfl rfl (by decide)) (bV rfl rfl rfl (aL 0 (.int _ _) cC M3 rfl rfl rfl) (aV rfl rfl rfl (fun _ => dU sJ Tryz.underlying21 rfl) (fH 17 (.int .i32 (nE x5)) (iE (iL (hx _ (by simp)))) ?_))))
 refine aV rfl rfl rfl (fun _ => aG (.func _ _ _) rfl) (aV rfl rfl rfl (fun _ => aG (.func _ _ _) rfl) (dG [false, false, false, false] rfl (by kernel_rfl) (bX aJn rfl rfl (wU _ b1 x0 x1 x2 x3 x4 x5 x6 x7 x8 x9 (hx _ (by simp)) (hx _ (by simp)) (M3.ownSeg 0 1)) ?_)))
 rintro v4 w4 ⟨rfl, hM4⟩
 have M4 : Mem _ _ [_, _] _ := M3.seg 0 1 hM4
 refine aB (aC ⟨(eF (bK rfl (aL 0 (.int _ _) cC M4 rfl rfl rfl)) (eF (bK rfl (aL 0 (.int _ _) cC M4 rfl rfl rfl)) (eF (bK rfl (aL 0 (.int _ _) cC M4 rfl rfl rfl)) (eF (bK rfl (aL 0 (.int _ _) cC M4 rfl rfl rfl)) dH)))), ?_⟩)
 refine dG [false, false, false, false] rfl (by kernel_rfl) (bX aJn rfl rfl (wS _ b1 x0 x1 x2 x3 x4 x5 x6 x7 x8 x9 (hx _ (by simp)) (hx _ (by simp)) (M4.ownSeg 0 1)) ?_)
 rintro v5 w5 ⟨rfl, hM5⟩
 have M5 : Mem _ _ [_, _] _ := M4.seg 0 1 hM5
 refine aB (aC ⟨(eF (bK rfl (aL 0 (.int _ _) cC M5 rfl rfl rfl)) (eF (bK rfl (aL 0 (.int _ _) cC M5 rfl rfl rfl)) (eF (bK rfl (aL 0 (.int _ _) cC M5 rfl rfl rfl)) (eF (bK rfl (aL 0 (.int _ _) cC M5 rfl rfl rfl)) dH)))), ?_⟩)
 refine dG [false, false, false, false] rfl (by kernel_rfl) (bX aJn rfl rfl (wZ _ b1 x0 x1 x2 x3 x4 x5 x6 x7 x8 x9 (hx _ (by simp)) (hx _ (by simp)) (M5.ownSeg 0 1)) ?_)
 rintro v6 w6 ⟨rfl, hM6⟩
 have M6 : Mem _ _ [_, _] _ := M5.seg 0 1 hM6
 refine aB (aC ⟨(eF (bK rfl (aL 0 (.int _ _) cC M6 rfl rfl rfl)) (eF (bK rfl (aL 0 (.int _ _) cC M6 rfl rfl rfl)) (eF (bK rfl (aL 0 (.int _ _) cC M6 rfl rfl rfl)) (eF (bK rfl (aL 0 (.int _ _) cC M6 rfl rfl rfl)) dH)))), ?_⟩)
 refine aV rfl rfl rfl (fun _ => cH [(0, .int _ _), (1, .int _ _), (2, .agg (List.toArray _)), (3, .int _ _), (4, .int _ _), (5, .agg (List.toArray _)), (6, .agg (List.toArray _))] _ zW rfl rfl) (dG [true, true, true, true] rfl (by kernel_rfl) (bB 1 _ bS M6 rfl rfl rfl rfl rfl (aR rfl) rfl (fun w7 M7 => ?_)))
 refine aB (aC ⟨dH, ?_⟩)
 refine cD (aC (aM (eV 1 bS M7 rfl rfl rfl ?_)))
 exact ⟨rfl, M7.below⟩
set_option maxHeartbeats 8000000 in
theorem aEr (w : World) (A : Option Addr) (n c : Nat) (xs : List Body) (R : Rd w 10 A n (xs.map aF)) (hn : n ≤ 4096) (hc : gQ xs = 0) (hb : ∀ b ∈ xs, InB b) :
  Calls Tryz.prog 58 #[.slice A n c] w (fun ex w' => ∃ v, ex = .returned v ∧ (fun v w' => ∃ q : Row, v = .tuple #[.slice q.A q.n q.c, .int .i64 0] ∧ aW 5 1 q.A q.n q.c ((lO xs).map bI) q.e ∧ Mem w [] [q.e] w') v w') := by
 have hlen : xs.length = n := by simpa using R.len
 have hbd := R.bound
 refine aH #[.tmp 2, .tmp 3] 38 Tryz.func58 rfl Tryz.results58 Tryz.ntmps58 rfl ?_
 have M0 := Mem.refl w
 refine aD (aA (fP rfl rfl (bP rfl rfl (aB (aC (aD (aD (aA (eG rfl rfl (bX bCu rfl rfl (yI _ _ _ _ xs (R.mem M0)) ?_))))))))))
 rintro v1 w1 ⟨rfl, hb1⟩
 have M1 := M0.callB hb1
 refine bP rfl rfl (aB (aC (aD (aA (aY rfl rfl (dA rfl rfl rfl rfl (uZ 13 rfl (fun h => h hc) (aB (aC ?_)))))))))
 refine cB rfl (aK (aC (aD (aA (dB [.int _ _, .int _ _, .int _ _, .int _ _] (kY.map bI) rfl mL M1 rfl rfl rfl rfl (dI rfl) (by decide) (fun b2 w2 M2 => ?_))))))
 have hlit15 := kA (T := 5) (b := b2) (kY.map bI) (aLu _) rfl (by decide)
 refine bBe 0 Tryz.underlying31 Tryz.underlying5 M2 rfl rfl rfl rfl hlit15 (by decide) (fun e3 w3 M3 hR3 => (eG rfl rfl (wq (cP Tryz.underlying29 rfl) rfl (wq (bZ us3 Tryz.underlying35 rfl (aDg _ (by omega) (by omega))) rfl (bX aTr rfl rfl (aDd _ ⟨(some ⟨b2, 0, none⟩), 4, 4, e3⟩ kY hR3 (n : Int) (by omega) (by first | omega | exact (show 4 ≤ 1048576 by decide)) (M3.ownSeg 0 1)) ?_)))))
 rintro v4 w4 ⟨q0, rfl, hnq0, hq0, hM4⟩
 have M4 : Mem _ _ [_] _ := M3.seg 0 1 hM4
 refine fP rfl rfl (aB (aC (aD (aD (aA (eG rfl rfl (wq (cP Tryz.underlying29 rfl) rfl (aY rfl rfl (aB (aC (aS ?_)))))))))))
 refine dK (σ := Nat × Row) [2, 3, 21, 22] (fun (k, q) => [(5, .slice q.A q.n q.c), (23, .int .i64 (k : Int))]) (fun (k, q) w' => (k ≤ n ∧ q.n = 8 + 40 * k ∧ aW 5 1 q.A q.n q.c (((kY ++ cG (n : Int)) ++ (xs.take k).flatMap kO).map bI) q.e) ∧ Mem w [] [q.e] w') (fun (k, q) => n - k) (0, q0) (bR rfl (bR rfl eZ)) (⟨⟨by omega, hnq0, by rw [List.take_zero, List.flatMap_nil, List.append_nil]; exact hq0⟩, M4⟩) ?_
 rintro ⟨k, q⟩ ρ5 w5 ⟨⟨hk, hqn, hq⟩, hM5⟩
 refine aD (aA (dA rfl rfl rfl rfl (aB (aC (aD ?_)))))
 refine aZ rfl (fun h24 => ?_) (fun h24 => ?_)
 ·obtain ⟨xb, hxb⟩ := cI (xs := xs) (k := k) hlen (by omega)
  have hxi := aRr (hb xb (List.mem_of_getElem? hxb))
  refine aK (aC (aD (aS (aD (aA (wq (bN (k) dW rfl rfl rfl ((R.mem hM5).below_len (aJ aF hxb)) ((R.mem hM5).someK (aJ aF hxb))) rfl (wq (dC _ bS (R.mem hM5) (aJ aF hxb) rfl) rfl (aQ gS hM5 rfl rfl (fun b6 w6 M6 => (bB 1 _ bS M6 rfl rfl rfl rfl rfl (aR rfl) rfl (fun w7 M7 => ?_)))))))))))
  refine aB (aC (aD (aA (wq (bC 1 bS M7 rfl rfl rfl) rfl (bX bFi rfl rfl (aKk _ xb) ?_)))))
  rintro v8 w8 ⟨rfl, hb8⟩
  have M8 := M7.callB hb8
  refine aY rfl rfl (aB (aC (aS (dK (σ := Nat × Row) [2, 3, 21, 22, 23, 28] (fun (j, p) => [(5, .slice p.A p.n p.c), (29, .int .i64 (j : Int))]) (fun (j, p) w' => (j ≤ 10 ∧ p.n = q.n + 4 * j ∧ aW 5 1 p.A p.n p.c (((kY ++ cG (n : Int)) ++ (xs.take k).flatMap kO ++ ((vV xb).take j).flatMap cG).map bI) p.e) ∧ Mem w [] [p.e, (some b6, bc (aF xb) 39)] w') (fun (j, p) => 10 - j) (0, q) (bR rfl (bR rfl eZ)) (⟨⟨by omega, by omega, by rw [List.take_zero, List.flatMap_nil, List.append_nil]; exact hq⟩, M8⟩) ?_))))
  rintro ⟨j, p⟩ ρ9 w9 ⟨⟨hj, hpn, hp⟩, hM9⟩
  refine aD (aA (dA rfl rfl rfl rfl (aB (aC (aD ?_)))))
  refine aZ rfl (fun h30 => ?_) (fun h30 => ?_)
  ·obtain ⟨x, hx⟩ := cI (xs := vV xb) (k := j) (n := 10) rfl (by omega)
   have hxr := hxi x (List.mem_of_getElem? hx)
   refine aK (aC (aD (aS (aD (aA ?_)))))
   refine wq (vE (j) (.int .u32 x) fN cC rfl rfl (by omega) (by omega) rfl (by rw [kR, List.getElem?_map, hx]; rfl)) rfl ?_
   refine bP rfl rfl (aB (aC (aA (eG rfl rfl (aY rfl rfl (bX aTr rfl rfl (aDd _ p _ hp x hxr (by first | omega | exact (show 4 ≤ 1048576 by decide)) (hM9.ownSeg 0 1)) ?_))))))
   rintro v10 w10 ⟨p2, rfl, hnp2, hp2, hM10⟩
   have M10 : Mem _ _ [_, _] _ := hM9.seg 0 1 hM10
   refine fP rfl rfl (aB (dE (aC (aA (wq (bU rfl rfl (by omega) (by omega)) rfl (aY rfl rfl ?_))))))
   refine aB ?_
   refine cS (j + 1, p2) (bR rfl (bR rfl eZ)) (cV rfl (cV rfl (cV rfl (cV rfl (cV rfl (cV rfl jQ)))))) ?_ ?_
   ·exact ⟨⟨by omega, by omega, by rw [aQs hx, ← List.append_assoc]; exact hp2⟩, M10⟩
   ·(show 10 - (j + 1) < 10 - j; omega)
  ·obtain rfl : j = 10 := by omega
   rw [List.take_of_length_le (show (vV xb).length ≤ 10 from Nat.le_refl _)] at hp
   refine cR (cZ (cX (eQ (dE (aC (aA ?_))))))
   refine wq (bU rfl rfl (by omega) (by omega)) rfl (aY rfl rfl (aB ?_))
   refine cS (k + 1, p) (bR rfl (bR rfl eZ)) (cV rfl (cV rfl (cV rfl (cV rfl jQ)))) ?_ ?_
   ·exact ⟨⟨by omega, by omega, by rw [aQf hxb, ← aOz, ← List.append_assoc]; exact hp⟩, hM9.keep [true, false]⟩
   ·(show n - (k + 1) < n - k; omega)
 ·obtain rfl : k = n := by omega
  rw [List.take_of_length_le (by omega), ← hlen] at hq
  refine cR (cZ (cX (eQ (aC (aD (aA (eG rfl rfl ?_)))))))
  refine fP rfl rfl (bP rfl rfl (aB (aC (aM (iH (.slice _ _ _) (.int _ _) rfl rfl ?_)))))
  exact ⟨q, rfl, hq, hM5⟩
set_option maxHeartbeats 16000000 in
theorem uC (w : World) (A : Option Addr) (n c : Nat) (ls : List Int) (R : Rd w 1 A n (ls.map bI)) (hB : iR ls) (hcap : n ≤ c) (hn : n ≤ 1048576) :
  Calls Tryz.prog 54 #[.slice A n c] w (fun ex w' => ∃ v, ex = .returned v ∧ (fun v w' => ∃ r : Row, v = .tuple #[.slice r.A r.n r.c, .int .i64 (kI ls).2] ∧ aW 39 10 r.A r.n r.c (((kI ls).1).map aF) r.e ∧ Mem w [] [r.e] w') v w') := by
 have hlen : ls.length = n := by simpa using R.len
 have hbd := R.bound
 refine aH #[.tmp 2, .tmp 3] 58 Tryz.func54 rfl Tryz.results54 Tryz.ntmps54 rfl ?_
 have M0 := Mem.refl w
 refine aD (aA (fP rfl rfl (bP rfl rfl (aB (aC (aD (aD (aA (eG rfl rfl (wq (cP Tryz.underlying31 rfl) rfl ?_))))))))))
 refine dA rfl rfl rfl rfl (wq (aG (.bool (decide _)) rfl) rfl ?_)
 refine cU 13 rfl (fun g13 => ?_) (fun g13 => ?_)
 ·refine aN rfl rfl (aN rfl rfl (aN rfl rfl (aN rfl rfl (wq (bQ true (.bool true) rfl rfl) rfl (aB (aC ?_))))))
  refine cM rfl (aD (aA (fP rfl rfl (bP rfl rfl (aB (aC (aM (cE (iH (.slice _ _ _) (.int _ _) rfl rfl ?_)))))))))
  have hd := aEb (l := ls) (fun h => by have := h.1; omega)
  exact ⟨⟨none, 0, 0, (none, default)⟩, by rw [hd], by rw [hd]; exact aW.nil _ _ _, (M0.keep []).dummy default⟩
 ·refine eG rfl rfl (wq (fY (0) (4) mL rfl rfl ⟨_, rfl⟩ (by omega) (by omega) (by omega)) rfl (wq (bEy Tryz.underlying31 Tryz.underlying5 Tryz.underlying9 (Rd.subB (R.mem M0) (0) (4) (by omega) (by omega) hcap) rfl) rfl (wq (aWt rfl rfl) rfl (wq (bQ false (.bool (decide _)) rfl rfl) rfl (aB (aC ?_))))))
  refine aZ rfl (fun h18 => ?_) (fun h18 => ?_)
  ·refine aD (aA (fP rfl rfl (bP rfl rfl (aB (aC (aM (cE (iH (.slice _ _ _) (.int _ _) rfl rfl ?_))))))))
   have hd := aEb (l := ls) (fun h => ((aNk ((ls.drop 0).take (4 - 0)) (hB.sub 0 4) [66, 73, 76, 49]).1 h18) (by rw [← wO]; simpa using h.2.1))
   exact ⟨⟨none, 0, 0, (none, default)⟩, by rw [hd], by rw [hd]; exact aW.nil _ _ _, (M0.keep []).dummy default⟩
  ·refine aK (aC (aD (aA (eG rfl rfl (wq (fY (4) (((n : Nat) : Int)) mL rfl ⟨_, rfl⟩ rfl (by omega) (by omega) (by omega)) rfl (bX pL rfl rfl (gD _ _ _ _ ((ls.drop (4)).take (n - (4))) (Rd.subB (R.mem M0) (4) (n) (by omega) (by omega) hcap) (hB.sub _ _) (by omega)) ?_))))))
   rintro v1 w1 ⟨rfl, hb1⟩
   have M1 := M0.callB hb1
   have hr4 := pO hB (a := 4) (by omega)
   obtain ⟨N, hN⟩ : ∃ N : Nat, dZ ls 4 = (N : Int) := ⟨(dZ ls 4).toNat, by omega⟩
   have hNl : N ≤ 4294967295 := by omega
   refine aT 21 (.int .u32 (N : Int)) (iE ((gW (by omega)).trans hN)) (wq (bZ sJ Tryz.underlying3 rfl (kQ _ (by omega) (by omega))) rfl (bP rfl rfl (aB (aC (aD (aD (aA (eG rfl rfl (wq (cP Tryz.underlying31 rfl) rfl ?_)))))))))
   refine aY rfl rfl (bX pY rfl rfl (fK _ (N : Int) (by omega)) ?_)
   rintro v2 w2 ⟨rfl, hb2⟩
   have M2 := M1.callB hb2
   refine dA rfl rfl rfl rfl (aB (aC ?_))
   refine aZ rfl (fun h27 => ?_) (fun h27 => ?_)
   ·refine aD (aA (fP rfl rfl (bP rfl rfl (aB (aC (aM (cE (iH (.slice _ _ _) (.int _ _) rfl rfl ?_))))))))
    have hd := aEb (l := ls) (fun h => h27 (by have := h.2.2; rw [hN] at this; omega))
    exact ⟨⟨none, 0, 0, (none, default)⟩, by rw [hd], by rw [hd]; exact aW.nil _ _ _, (M2.keep []).dummy default⟩
   ·have hfm : zF ls := ⟨by omega, by have h := Decidable.not_not.1 (mt ((aNk ((ls.drop 0).take (4 - 0)) (hB.sub 0 4) [66, 73, 76, 49]).2) h18); rw [← wO] at h; simpa using h, by rw [hN]; omega⟩
    refine aK (aC (aD (aA (fP rfl rfl ?_))))
    have M3 := M2.dummy default
    refine aB (aC (aD (aD (aA (aY rfl rfl (aY rfl rfl (aB (aC (aS (dK (σ := Nat × Row) [0, 2, 3, 28] (fun (i, q) => [(5, .slice q.A q.n q.c), (29, .int .i64 (i : Int))]) (fun (i, q) w' => (i ≤ N ∧ aW 39 10 q.A q.n q.c ((mK ls i).map aF) q.e) ∧ Mem w [] [q.e] w') (fun (i, q) => N - i) (0, gP) (bR rfl (bR rfl eZ)) (⟨⟨by omega, aW.nil _ _ _⟩, M3⟩) ?_))))))))))
    rintro ⟨i, q⟩ ρ4 w4 ⟨⟨hi, hq⟩, hM4⟩
    have hqn : (mK ls i).length = q.n := by simpa using hq.1
    rw [zK] at hqn
    refine aD (aA (dA rfl rfl rfl rfl (aB (aC (aD ?_)))))
    refine aZ rfl (fun h30 => ?_) (fun h30 => ?_)
    ·refine aK (aC (aD (aS (aD (aA (aY rfl rfl (bP rfl rfl (aB (aC (aD (aA (aQ aEt hM4 rfl rfl (fun b5 w5 M5 => (aB (aC (aD (aD (aA ?_))))))))))))))))))
     refine aY rfl rfl (aB (aC (aS (lZ 11 (gZ (aD (aA (dA rfl rfl rfl rfl (rI 33 rfl (by first | decide | omega) ?_)))))))))
     refine aB (aC (aD (cM rfl (aK (aC (aD (aS (aD (aA (aY rfl rfl (bP rfl rfl (aB (aC (aA ?_))))))))))))))
     refine aY rfl rfl (eG rfl rfl (aY rfl rfl (bX pY rfl rfl (fK _ (i : Int) (by omega)) ?_)))
     rintro v6 w6 ⟨rfl, hb6⟩
     have M6 := M5.callB hb6
     refine aY rfl rfl (wq (gE rfl rfl (by omega) (by omega)) rfl (wq (bU rfl rfl (by omega) (by omega)) rfl (aT 41 (.int .i64 ((8 + 40 * i : Nat) : Int)) (iE (by omega)) (wq (fY (((8 + 40 * i : Nat) : Int)) (((n : Nat) : Int)) mL rfl ⟨_, rfl⟩ rfl (by omega) (by omega) (by omega)) rfl (bX pL rfl rfl (gD _ _ _ _ ((ls.drop (8 + 40 * i)).take (n - (8 + 40 * i))) (Rd.subB (R.mem M6) (8 + 40 * i) (n) (by omega) (by omega) hcap) (hB.sub _ _) (by omega)) ?_)))))
     rintro v7 w7 ⟨rfl, hb7⟩
     have M7 := M6.callB hb7
     refine aT 43 (.int .u32 (dZ ls (8 + 40 * i))) (iE (gW (by omega))) (wq (fF (0) fN rfl rfl rfl (by decide)) rfl (dX 1 (.int _ _) cC M7 rfl rfl rfl rfl rfl rfl (fun w8 M8 => (aB (dE (aC (aA ?_)))))))
     refine wq (bU rfl rfl (by first | decide | omega) (by first | decide | omega)) rfl (aT 45 (.int .i64 1) (iE (by first | decide | omega)) (aY rfl rfl (aB (aC (gZ (kF (fr := [(0, .slice _ _ _), (2, .slice _ _ _), (3, .int .i64 0), (5, .slice _ _ _), (6, .int _ _), (7, .pointer _), (8, .int .i64 0), (28, .int _ _), (29, .int _ _), (32, .int .i64 1)]) (bR rfl (bR rfl (bR rfl (bR rfl (bR rfl (bR rfl (bR rfl (bR rfl (bR rfl (bR rfl eZ)))))))))) (fun ρ9 => ?_)))))))
     refine aD (aA (dA rfl rfl rfl rfl (rI 33 rfl (by first | decide | omega) (aB (aC (aD (cM rfl (aK (aC (aD (aS (aD (aA ?_)))))))))))))
     refine aY rfl rfl (bP rfl rfl (aB (aC (aA (aY rfl rfl (eG rfl rfl (aY rfl rfl ?_)))))))
     refine bX pY rfl rfl (fK _ (i : Int) (by omega)) ?_
     rintro v10 w10 ⟨rfl, hb10⟩
     have M10 := M8.callB hb10
     refine aY rfl rfl (wq (gE rfl rfl (by omega) (by omega)) rfl (wq (bU rfl rfl (by omega) (by omega)) rfl (aT 41 (.int .i64 ((8 + 40 * i + 4 : Nat) : Int)) (iE (by omega)) (wq (fY (((8 + 40 * i + 4 : Nat) : Int)) (((n : Nat) : Int)) mL rfl ⟨_, rfl⟩ rfl (by omega) (by omega) (by omega)) rfl (bX pL rfl rfl (gD _ _ _ _ ((ls.drop (8 + 40 * i + 4)).take (n - (8 + 40 * i + 4))) (Rd.subB (R.mem M10) (8 + 40 * i + 4) (n) (by omega) (by omega) hcap) (hB.sub _ _) (by omega)) ?_)))))
     rintro v11 w11 ⟨rfl, hb11⟩
     have M11 := M10.callB hb11
     refine aT 43 (.int .u32 (dZ ls (8 + 40 * i + 4))) (iE (gW (by omega))) (wq (fF (1) fN rfl rfl rfl (by decide)) rfl (dX 1 (.int _ _) cC M11 rfl rfl rfl rfl rfl rfl (fun w12 M12 => (aB (dE (aC (aA ?_)))))))
     refine wq (bU rfl rfl (by first | decide | omega) (by first | decide | omega)) rfl (aT 45 (.int .i64 2) (iE (by first | decide | omega)) (aY rfl rfl (aB (aC (gZ (kF (fr := [(0, .slice _ _ _), (2, .slice _ _ _), (3, .int .i64 0), (5, .slice _ _ _), (6, .int _ _), (7, .pointer _), (8, .int .i64 1), (28, .int _ _), (29, .int _ _), (32, .int .i64 2)]) (bR rfl (bR rfl (bR rfl (bR rfl (bR rfl (bR rfl (bR rfl (bR rfl (bR rfl (bR rfl eZ)))))))))) (fun ρ13 => ?_)))))))
     refine aD (aA (dA rfl rfl rfl rfl (rI 33 rfl (by first | decide | omega) (aB (aC (aD (cM rfl (aK (aC (aD (aS (aD (aA ?_)))))))))))))
     refine aY rfl rfl (bP rfl rfl (aB (aC (aA (aY rfl rfl (eG rfl rfl (aY rfl rfl ?_)))))))
     refine bX pY rfl rfl (fK _ (i : Int) (by omega)) ?_
     rintro v14 w14 ⟨rfl, hb14⟩
     have M14 := M12.callB hb14
     refine aY rfl rfl (wq (gE rfl rfl (by omega) (by omega)) rfl (wq (bU rfl rfl (by omega) (by omega)) rfl (aT 41 (.int .i64 ((8 + 40 * i + 8 : Nat) : Int)) (iE (by omega)) (wq (fY (((8 + 40 * i + 8 : Nat) : Int)) (((n : Nat) : Int)) mL rfl ⟨_, rfl⟩ rfl (by omega) (by omega) (by omega)) rfl (bX pL rfl rfl (gD _ _ _ _ ((ls.drop (8 + 40 * i + 8)).take (n - (8 + 40 * i + 8))) (Rd.subB (R.mem M14) (8 + 40 * i + 8) (n) (by omega) (by omega) hcap) (hB.sub _ _) (by omega)) ?_)))))
     rintro v15 w15 ⟨rfl, hb15⟩
     have M15 := M14.callB hb15
     refine aT 43 (.int .u32 (dZ ls (8 + 40 * i + 8))) (iE (gW (by omega))) (wq (fF (2) fN rfl rfl rfl (by decide)) rfl (dX 1 (.int _ _) cC M15 rfl rfl rfl rfl rfl rfl (fun w16 M16 => (aB (dE (aC (aA ?_)))))))
     refine wq (bU rfl rfl (by first | decide | omega) (by first | decide | omega)) rfl (aT 45 (.int .i64 3) (iE (by first | decide | omega)) (aY rfl rfl (aB (aC (gZ (kF (fr := [(0, .slice _ _ _), (2, .slice _ _ _), (3, .int .i64 0), (5, .slice _ _ _), (6, .int _ _), (7, .pointer _), (8, .int .i64 2), (28, .int _ _), (29, .int _ _), (32, .int .i64 3)]) (bR rfl (bR rfl (bR rfl (bR rfl (bR rfl (bR rfl (bR rfl (bR rfl (bR rfl (bR rfl eZ)))))))))) (fun ρ17 => ?_)))))))
     refine aD (aA (dA rfl rfl rfl rfl (rI 33 rfl (by first | decide | omega) (aB (aC (aD (cM rfl (aK (aC (aD (aS (aD (aA ?_)))))))))))))
     refine aY rfl rfl (bP rfl rfl (aB (aC (aA (aY rfl rfl (eG rfl rfl (aY rfl rfl ?_)))))))
     refine bX pY rfl rfl (fK _ (i : Int) (by omega)) ?_
     rintro v18 w18 ⟨rfl, hb18⟩
     have M18 := M16.callB hb18
     refine aY rfl rfl (wq (gE rfl rfl (by omega) (by omega)) rfl (wq (bU rfl rfl (by omega) (by omega)) rfl (aT 41 (.int .i64 ((8 + 40 * i + 12 : Nat) : Int)) (iE (by omega)) (wq (fY (((8 + 40 * i + 12 : Nat) : Int)) (((n : Nat) : Int)) mL rfl ⟨_, rfl⟩ rfl (by omega) (by omega) (by omega)) rfl ?_))))
     refine bX pL rfl rfl (gD _ _ _ _ ((ls.drop (8 + 40 * i + 12)).take (n - (8 + 40 * i + 12))) (Rd.subB (R.mem M18) (8 + 40 * i + 12) (n) (by omega) (by omega) hcap) (hB.sub _ _) (by omega)) ?_
     rintro v19 w19 ⟨rfl, hb19⟩
     have M19 := M18.callB hb19
     refine aT 43 (.int .u32 (dZ ls (8 + 40 * i + 12))) (iE (gW (by omega))) (wq (fF (3) fN rfl rfl rfl (by decide)) rfl (dX 1 (.int _ _) cC M19 rfl rfl rfl rfl rfl rfl (fun w20 M20 => (aB (dE (aC (aA ?_)))))))
     refine wq (bU rfl rfl (by first | decide | omega) (by first | decide | omega)) rfl (aT 45 (.int .i64 4) (iE (by first | decide | omega)) (aY rfl rfl (aB (aC (gZ (kF (fr := [(0, .slice _ _ _), (2, .slice _ _ _), (3, .int .i64 0), (5, .slice _ _ _), (6, .int _ _), (7, .pointer _), (8, .int .i64 3), (28, .int _ _), (29, .int _ _), (32, .int .i64 4)]) (bR rfl (bR rfl (bR rfl (bR rfl (bR rfl (bR rfl (bR rfl (bR rfl (bR rfl (bR rfl eZ)))))))))) (fun ρ21 => ?_)))))))
     refine aD (aA (dA rfl rfl rfl rfl (rI 33 rfl (by first | decide | omega) (aB (aC (aD (cM rfl (aK (aC (aD (aS (aD (aA ?_)))))))))))))
     refine aY rfl rfl (bP rfl rfl (aB (aC (aA (aY rfl rfl (eG rfl rfl (aY rfl rfl ?_)))))))
     refine bX pY rfl rfl (fK _ (i : Int) (by omega)) ?_
     rintro v22 w22 ⟨rfl, hb22⟩
     have M22 := M20.callB hb22
     refine aY rfl rfl (wq (gE rfl rfl (by omega) (by omega)) rfl (wq (bU rfl rfl (by omega) (by omega)) rfl (aT 41 (.int .i64 ((8 + 40 * i + 16 : Nat) : Int)) (iE (by omega)) (wq (fY (((8 + 40 * i + 16 : Nat) : Int)) (((n : Nat) : Int)) mL rfl ⟨_, rfl⟩ rfl (by omega) (by omega) (by omega)) rfl ?_))))
     refine bX pL rfl rfl (gD _ _ _ _ ((ls.drop (8 + 40 * i + 16)).take (n - (8 + 40 * i + 16))) (Rd.subB (R.mem M22) (8 + 40 * i + 16) (n) (by omega) (by omega) hcap) (hB.sub _ _) (by omega)) ?_
     rintro v23 w23 ⟨rfl, hb23⟩
     have M23 := M22.callB hb23
     refine aT 43 (.int .u32 (dZ ls (8 + 40 * i + 16))) (iE (gW (by omega))) (wq (fF (4) fN rfl rfl rfl (by decide)) rfl (dX 1 (.int _ _) cC M23 rfl rfl rfl rfl rfl rfl (fun w24 M24 => (aB (dE (aC (aA ?_)))))))
     refine wq (bU rfl rfl (by first | decide | omega) (by first | decide | omega)) rfl (aT 45 (.int .i64 5) (iE (by first | decide | omega)) (aY rfl rfl (aB (aC (gZ (kF (fr := [(0, .slice _ _ _), (2, .slice _ _ _), (3, .int .i64 0), (5, .slice _ _ _), (6, .int _ _), (7, .pointer _), (8, .int .i64 4), (28, .int _ _), (29, .int _ _), (32, .int .i64 5)]) (bR rfl (bR rfl (bR rfl (bR rfl (bR rfl (bR rfl (bR rfl (bR rfl (bR rfl (bR rfl eZ)))))))))) (fun ρ25 => ?_)))))))
     refine aD (aA (dA rfl rfl rfl rfl (rI 33 rfl (by first | decide | omega) (aB (aC (aD (cM rfl (aK (aC (aD (aS (aD (aA ?_)))))))))))))
     refine aY rfl rfl (bP rfl rfl (aB (aC (aA (aY rfl rfl (eG rfl rfl (aY rfl rfl ?_)))))))
     refine bX pY rfl rfl (fK _ (i : Int) (by omega)) ?_
     rintro v26 w26 ⟨rfl, hb26⟩
     have M26 := M24.callB hb26
     refine aY rfl rfl (wq (gE rfl rfl (by omega) (by omega)) rfl (wq (bU rfl rfl (by omega) (by omega)) rfl (aT 41 (.int .i64 ((8 + 40 * i + 20 : Nat) : Int)) (iE (by omega)) (wq (fY (((8 + 40 * i + 20 : Nat) : Int)) (((n : Nat) : Int)) mL rfl ⟨_, rfl⟩ rfl (by omega) (by omega) (by omega)) rfl ?_))))
     refine bX pL rfl rfl (gD _ _ _ _ ((ls.drop (8 + 40 * i + 20)).take (n - (8 + 40 * i + 20))) (Rd.subB (R.mem M26) (8 + 40 * i + 20) (n) (by omega) (by omega) hcap) (hB.sub _ _) (by omega)) ?_
     rintro v27 w27 ⟨rfl, hb27⟩
     have M27 := M26.callB hb27
     refine aT 43 (.int .u32 (dZ ls (8 + 40 * i + 20))) (iE (gW (by omega))) (wq (fF (5) fN rfl rfl rfl (by decide)) rfl (dX 1 (.int _ _) cC M27 rfl rfl rfl rfl rfl rfl (fun w28 M28 => (aB (dE (aC (aA ?_)))))))
     refine wq (bU rfl rfl (by first | decide | omega) (by first | decide | omega)) rfl (aT 45 (.int .i64 6) (iE (by first | decide | omega)) (aY rfl rfl (aB (aC (gZ (kF (fr := [(0, .slice _ _ _), (2, .slice _ _ _), (3, .int .i64 0), (5, .slice _ _ _), (6, .int _ _), (7, .pointer _), (8, .int .i64 5), (28, .int _ _), (29, .int _ _), (32, .int .i64 6)]) (bR rfl (bR rfl (bR rfl (bR rfl (bR rfl (bR rfl (bR rfl (bR rfl (bR rfl (bR rfl eZ)))))))))) (fun ρ29 => ?_)))))))
     refine aD (aA (dA rfl rfl rfl rfl (rI 33 rfl (by first | decide | omega) (aB (aC (aD (cM rfl (aK (aC (aD (aS (aD (aA ?_)))))))))))))
     refine aY rfl rfl (bP rfl rfl (aB (aC (aA (aY rfl rfl (eG rfl rfl (aY rfl rfl ?_)))))))
     refine bX pY rfl rfl (fK _ (i : Int) (by omega)) ?_
     rintro v30 w30 ⟨rfl, hb30⟩
     have M30 := M28.callB hb30
     refine aY rfl rfl (wq (gE rfl rfl (by omega) (by omega)) rfl (wq (bU rfl rfl (by omega) (by omega)) rfl (aT 41 (.int .i64 ((8 + 40 * i + 24 : Nat) : Int)) (iE (by omega)) (wq (fY (((8 + 40 * i + 24 : Nat) : Int)) (((n : Nat) : Int)) mL rfl ⟨_, rfl⟩ rfl (by omega) (by omega) (by omega)) rfl ?_))))
     refine bX pL rfl rfl (gD _ _ _ _ ((ls.drop (8 + 40 * i + 24)).take (n - (8 + 40 * i + 24))) (Rd.subB (R.mem M30) (8 + 40 * i + 24) (n) (by omega) (by omega) hcap) (hB.sub _ _) (by omega)) ?_
     rintro v31 w31 ⟨rfl, hb31⟩
     have M31 := M30.callB hb31
     refine aT 43 (.int .u32 (dZ ls (8 + 40 * i + 24))) (iE (gW (by omega))) (wq (fF (6) fN rfl rfl rfl (by decide)) rfl (dX 1 (.int _ _) cC M31 rfl rfl rfl rfl rfl rfl (fun w32 M32 => (aB (dE (aC (aA ?_)))))))
     refine wq (bU rfl rfl (by first | decide | omega) (by first | decide | omega)) rfl (aT 45 (.int .i64 7) (iE (by first | decide | omega)) (aY rfl rfl (aB (aC (gZ (kF (fr := [(0, .slice _ _ _), (2, .slice _ _ _), (3, .int .i64 0), (5, .slice _ _ _), (6, .int _ _), (7, .pointer _), (8, .int .i64 6), (28, .int _ _), (29, .int _ _), (32, .int .i64 7)]) (bR rfl (bR rfl (bR rfl (bR rfl (bR rfl (bR rfl (bR rfl (bR rfl (bR rfl (bR rfl eZ)))))))))) (fun ρ33 => ?_)))))))
     refine aD (aA (dA rfl rfl rfl rfl (rI 33 rfl (by first | decide | omega) (aB (aC (aD (cM rfl (aK (aC (aD (aS (aD (aA ?_)))))))))))))
     refine aY rfl rfl (bP rfl rfl (aB (aC (aA (aY rfl rfl (eG rfl rfl (aY rfl rfl ?_)))))))
     refine bX pY rfl rfl (fK _ (i : Int) (by omega)) ?_
     rintro v34 w34 ⟨rfl, hb34⟩
     have M34 := M32.callB hb34
     refine aY rfl rfl (wq (gE rfl rfl (by omega) (by omega)) rfl (wq (bU rfl rfl (by omega) (by omega)) rfl (aT 41 (.int .i64 ((8 + 40 * i + 28 : Nat) : Int)) (iE (by omega)) (wq (fY (((8 + 40 * i + 28 : Nat) : Int)) (((n : Nat) : Int)) mL rfl ⟨_, rfl⟩ rfl (by omega) (by omega) (by omega)) rfl ?_))))
     refine bX pL rfl rfl (gD _ _ _ _ ((ls.drop (8 + 40 * i + 28)).take (n - (8 + 40 * i + 28))) (Rd.subB (R.mem M34) (8 + 40 * i + 28) (n) (by omega) (by omega) hcap) (hB.sub _ _) (by omega)) ?_
     rintro v35 w35 ⟨rfl, hb35⟩
     have M35 := M34.callB hb35
     refine aT 43 (.int .u32 (dZ ls (8 + 40 * i + 28))) (iE (gW (by omega))) (wq (fF (7) fN rfl rfl rfl (by decide)) rfl (dX 1 (.int _ _) cC M35 rfl rfl rfl rfl rfl rfl (fun w36 M36 => (aB (dE (aC (aA ?_)))))))
     refine wq (bU rfl rfl (by first | decide | omega) (by first | decide | omega)) rfl (aT 45 (.int .i64 8) (iE (by first | decide | omega)) (aY rfl rfl (aB (aC (gZ (kF (fr := [(0, .slice _ _ _), (2, .slice _ _ _), (3, .int .i64 0), (5, .slice _ _ _), (6, .int _ _), (7, .pointer _), (8, .int .i64 7), (28, .int _ _), (29, .int _ _), (32, .int .i64 8)]) (bR rfl (bR rfl (bR rfl (bR rfl (bR rfl (bR rfl (bR rfl (bR rfl (bR rfl (bR rfl eZ)))))))))) (fun ρ37 => ?_)))))))
     refine aD (aA (dA rfl rfl rfl rfl (rI 33 rfl (by first | decide | omega) (aB (aC (aD (cM rfl (aK (aC (aD (aS (aD (aA ?_)))))))))))))
     refine aY rfl rfl (bP rfl rfl (aB (aC (aA (aY rfl rfl (eG rfl rfl (aY rfl rfl ?_)))))))
     refine bX pY rfl rfl (fK _ (i : Int) (by omega)) ?_
     rintro v38 w38 ⟨rfl, hb38⟩
     have M38 := M36.callB hb38
     refine aY rfl rfl (wq (gE rfl rfl (by omega) (by omega)) rfl (wq (bU rfl rfl (by omega) (by omega)) rfl (aT 41 (.int .i64 ((8 + 40 * i + 32 : Nat) : Int)) (iE (by omega)) (wq (fY (((8 + 40 * i + 32 : Nat) : Int)) (((n : Nat) : Int)) mL rfl ⟨_, rfl⟩ rfl (by omega) (by omega) (by omega)) rfl ?_))))
     refine bX pL rfl rfl (gD _ _ _ _ ((ls.drop (8 + 40 * i + 32)).take (n - (8 + 40 * i + 32))) (Rd.subB (R.mem M38) (8 + 40 * i + 32) (n) (by omega) (by omega) hcap) (hB.sub _ _) (by omega)) ?_
     rintro v39 w39 ⟨rfl, hb39⟩
     have M39 := M38.callB hb39
     refine aT 43 (.int .u32 (dZ ls (8 + 40 * i + 32))) (iE (gW (by omega))) (wq (fF (8) fN rfl rfl rfl (by decide)) rfl (dX 1 (.int _ _) cC M39 rfl rfl rfl rfl rfl rfl (fun w40 M40 => (aB (dE (aC (aA ?_)))))))
     refine wq (bU rfl rfl (by first | decide | omega) (by first | decide | omega)) rfl (aT 45 (.int .i64 9) (iE (by first | decide | omega)) (aY rfl rfl (aB (aC (gZ (kF (fr := [(0, .slice _ _ _), (2, .slice _ _ _), (3, .int .i64 0), (5, .slice _ _ _), (6, .int _ _), (7, .pointer _), (8, .int .i64 8), (28, .int _ _), (29, .int _ _), (32, .int .i64 9)]) (bR rfl (bR rfl (bR rfl (bR rfl (bR rfl (bR rfl (bR rfl (bR rfl (bR rfl (bR rfl eZ)))))))))) (fun ρ41 => ?_)))))))
     refine aD (aA (dA rfl rfl rfl rfl (rI 33 rfl (by first | decide | omega) (aB (aC (aD (cM rfl (aK (aC (aD (aS (aD (aA ?_)))))))))))))
     refine aY rfl rfl (bP rfl rfl (aB (aC (aA (aY rfl rfl (eG rfl rfl (aY rfl rfl ?_)))))))
     refine bX pY rfl rfl (fK _ (i : Int) (by omega)) ?_
     rintro v42 w42 ⟨rfl, hb42⟩
     have M42 := M40.callB hb42
     refine aY rfl rfl (wq (gE rfl rfl (by omega) (by omega)) rfl (wq (bU rfl rfl (by omega) (by omega)) rfl (aT 41 (.int .i64 ((8 + 40 * i + 36 : Nat) : Int)) (iE (by omega)) (wq (fY (((8 + 40 * i + 36 : Nat) : Int)) (((n : Nat) : Int)) mL rfl ⟨_, rfl⟩ rfl (by omega) (by omega) (by omega)) rfl ?_))))
     refine bX pL rfl rfl (gD _ _ _ _ ((ls.drop (8 + 40 * i + 36)).take (n - (8 + 40 * i + 36))) (Rd.subB (R.mem M42) (8 + 40 * i + 36) (n) (by omega) (by omega) hcap) (hB.sub _ _) (by omega)) ?_
     rintro v43 w43 ⟨rfl, hb43⟩
     have M43 := M42.callB hb43
     refine aT 43 (.int .u32 (dZ ls (8 + 40 * i + 36))) (iE (gW (by omega))) (wq (fF (9) fN rfl rfl rfl (by decide)) rfl (dX 1 (.int _ _) cC M43 rfl rfl rfl rfl rfl rfl (fun w44 M44 => (aB (dE (aC (aA ?_)))))))
     refine wq (bU rfl rfl (by first | decide | omega) (by first | decide | omega)) rfl (aT 45 (.int .i64 10) (iE (by first | decide | omega)) (aY rfl rfl (aB (aC (gZ (kF (fr := [(0, .slice _ _ _), (2, .slice _ _ _), (3, .int .i64 0), (5, .slice _ _ _), (6, .int _ _), (7, .pointer _), (8, .int .i64 9), (28, .int _ _), (29, .int _ _), (32, .int .i64 10)]) (bR rfl (bR rfl (bR rfl (bR rfl (bR rfl (bR rfl (bR rfl (bR rfl (bR rfl (bR rfl eZ)))))))))) (fun ρ45 => ?_)))))))
     refine aD (aA (dA rfl rfl rfl rfl (uZ 33 rfl (by first | decide | omega) (aB (aC (aD (cB rfl (cR ?_))))))))
     refine cZ (cZ (eQ (aC (aA (eG rfl rfl (wq (bC 1 aMn M44 rfl rfl rfl) rfl (bX bJr rfl rfl (aEi _ _ _ _ _ _ _ _ _ _ _ (bIg hB (a := 8 + 40 * i) (by omega))) ?_)))))))
     rintro v46 w46 ⟨rfl, hb46⟩
     have M46 := M44.callB hb46
     refine aT 48 ((.agg (aF (kT ls (8 + 40 * i))).toArray)) rfl (dB [.agg (List.toArray _)] [aF (kT ls (8 + 40 * i))] rfl dW M46 rfl rfl rfl rfl (dI rfl) (by decide) (fun b47 w47 M47 => (eC 0 [aF (kT ls (8 + 40 * i))] dW M47 rfl rfl rfl rfl rfl hq rfl (by simp [aF, Go.Bil.one]) (dD.ofMem 2 M47 rfl) (by omega) (fun A48 c48 e48 w48 M48 hR48 => ?_))))
     refine fP rfl rfl (aB (dE (aC (aA (wq (bU rfl rfl (by omega) (by omega)) rfl (aY rfl rfl ?_))))))
     refine aB ?_
     refine cS (i + 1, ⟨A48, q.n + 1, c48, e48⟩) (bR rfl (bR rfl eZ)) (cV rfl (cV rfl (cV rfl (cV rfl jQ)))) ?_ ?_
     ·exact ⟨⟨by omega, by rw [aQv, List.map_append]; exact hR48⟩, M48.keep [true, false, false]⟩
     ·(show N - (i + 1) < N - i; omega)
    ·obtain rfl : i = N := by omega
     refine cR (cZ (cX (eQ (aC (aD (aD (aA (eG rfl rfl ?_))))))))
     refine bX bCu rfl rfl (yI _ _ _ _ (mK ls i) (hq.rd hM4 (aX (i := 0) rfl))) ?_
     rintro v49 w49 ⟨rfl, hb49⟩
     have M49 := hM4.callB hb49
     refine bP rfl rfl (aB (aC (aD (aA (aY rfl rfl (dA rfl rfl rfl rfl (aB (aC ?_))))))))
     refine aZ rfl (fun h55 => ?_) (fun h55 => ?_)
     ·refine aD (aA (aY rfl rfl (fP rfl rfl (bP rfl rfl (aB (aC (aM (cE (iH (.slice _ _ _) (.int _ _) rfl rfl ?_)))))))))
      have hd := bBv hfm hN h55
      exact ⟨⟨none, 0, 0, (none, default)⟩, by rw [hd], by rw [hd]; exact aW.nil _ _ _, (M49.keep [false]).dummy default⟩
     ·refine aK (aC (aD (aA (eG rfl rfl (fP rfl rfl (bP rfl rfl (aB (aC (aM (iH (.slice _ _ _) (.int _ _) rfl rfl ?_))))))))))
      have hd := aSp hfm hN (Decidable.not_not.1 h55)
      exact ⟨q, by rw [hd], by rw [hd]; exact hq, M49⟩
set_option maxHeartbeats 4000000 in
theorem rV (w : World) (A : Option Addr) (n c : Nat) (xs : List Int) (R : Rd w 1 A n (xs.map bI)) (B : Option Addr) (m c' : Nat) (ys : List Int) (R' : Rd w 1 B m (ys.map bI)) :
  Calls Tryz.prog 23 #[.slice A n c, .slice B m c'] w (fun ex w' => ∃ v, ex = .returned v ∧ (fun v w' => v = .bool (decide (xs = ys)) ∧ Below w.heap.size w w') v w') := by
 have hlen : xs.length = n := by simpa using R.len
 have hlen' : ys.length = m := by simpa using R'.len
 have hbd := R.bound
 have hbd' := R'.bound
 refine aH #[.tmp 4] 26 Tryz.func23 rfl Tryz.results23 Tryz.ntmps23 rfl ?_
 have M0 := Mem.refl w
 refine aD (aA (wq (aI (.bool false) rfl) rfl (aB (aC (aD (aD (aA (eG rfl rfl (wq (cP Tryz.underlying31 rfl) rfl (eG rfl rfl ?_))))))))))
 refine wq (cP Tryz.underlying31 rfl) rfl (dA rfl rfl rfl rfl (aB (aC ?_)))
 refine aZ rfl (fun h10 => ?_) (fun h10 => ?_)
 ·refine aD (aA (wq (aI (.bool false) rfl) rfl (aB (aC (aM (cE (bW (.bool false) rfl ?_)))))))
  exact ⟨bF (fun e => h10 (by rw [← hlen, ← hlen', e])), M0.below⟩
 ·have hnm : n = m := by omega
  refine aK (aC (aD (aD (aA (bP rfl rfl (aB (aC (aS (dK (σ := Nat) [0, 1] (fun k => [(5, .int .i64 (k : Int))]) (fun k w' => (k ≤ n ∧ ∀ (j : Nat) (x : Int), j < k → xs[j]? = some x → ys[j]? = some x) ∧ Mem w [] [] w') (fun k => n - k) 0 (bR rfl eZ) (⟨⟨by omega, fun j c hj => by omega⟩, M0⟩) ?_)))))))))
  rintro k ρ1 w1 ⟨⟨hk, hne⟩, hM1⟩
  refine aD (aD (aA (aY rfl rfl (eG rfl rfl (wq (cP Tryz.underlying31 rfl) rfl (dA rfl rfl rfl rfl (aB (aC ?_))))))))
  refine aZ rfl (fun h14 => ?_) (fun h14 => ?_)
  ·obtain ⟨xb, hxb⟩ := cI (xs := xs) (k := k) hlen (by omega)
   obtain ⟨yb, hyb⟩ := cI (xs := ys) (k := k) hlen' (by omega)
   refine aK (aC (aD (aS (aD (bO [(0, 0), (1, 0), (2, 1), (3, 1), (4, 0), (5, 0), (6, 1), (7, 1), (8, 0)] mixed rfl (by kernel_rfl) (fun w2 hb2 hh2 => ?_))))))
   have M2 := hM1.drew hb2 hh2
   refine oF rfl rfl rfl (fV rfl rfl rfl (bV rfl rfl rfl (bN (k) mL rfl rfl rfl ((R.mem M2).below_len (aJ bI hxb)) ((R.mem M2).someK (aJ bI hxb))) (bV rfl rfl rfl (iB (.int _ _) aRz (R.mem M2) (aJ bI hxb) rfl) (oF rfl rfl rfl (fV rfl rfl rfl ?_)))))
   refine bV rfl rfl rfl (bN (k) mL rfl rfl rfl ((R'.mem M2).below_len (aJ bI hyb)) ((R'.mem M2).someK (aJ bI hyb))) (bV rfl rfl rfl (iB (.int _ _) aRz (R'.mem M2) (aJ bI hyb) rfl) (aV rfl rfl rfl (fun _ => dO (.bool (decide _)) rfl rfl rfl) (cD (aC ?_))))
   refine aZ rfl (fun h25 => ?_) (fun h25 => ?_)
   ·refine aD (aA (wq (aI (.bool false) rfl) rfl (aB (aC (aM (iY (cE (qD ?_))))))))
    refine iY (cE (bW (.bool false) rfl ?_))
    exact ⟨bF (fun e => h25 (by rw [e] at hxb; rw [hxb] at hyb; injection hyb)), M2.below⟩
   ·refine aK (dE (aC (aA (aY rfl rfl (wq (bU rfl rfl (by omega) (by omega)) rfl (bP rfl rfl ?_))))))
    refine aB ?_
    refine cS (k + 1) (bR rfl eZ) (cV rfl (cV rfl jQ)) ?_ ?_
    ·exact ⟨⟨by omega, oK (p := fun j x => ys[j]? = some x) hne hxb (by rw [hyb, Decidable.not_not.1 h25])⟩, M2⟩
    ·omega
  ·refine cR (cZ (cX (eQ (aC (aD (aA (wq (aI (.bool true) rfl) rfl ?_)))))))
   refine aB (aC (aM (bW (.bool true) rfl ?_)))
   exact ⟨bT (aWm hlen hlen' hnm (fun j x hj hx => hne j x (by omega) hx)), hM1.below⟩
end Go.Proofs.YtaoaknafiegfoaaGreatDoor
