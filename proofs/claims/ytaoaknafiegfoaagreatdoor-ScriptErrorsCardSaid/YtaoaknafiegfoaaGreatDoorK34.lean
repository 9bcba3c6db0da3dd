/- Part of the proof of the laws of this seat: SW, C21a, C21b, R21a, R21b, R21c. No conditions. -/
import Derived.Test.YtaoaknafiegfoaaGreatDoorK2
import Derived.Test.YtaoaknafiegfoaaGreatDoorK5
import Derived.Test.YtaoaknafiegfoaaGreatDoorK22
import Derived.Test.YtaoaknafiegfoaaGreatDoorK33
import Derived.Test.YtaoaknafiegfoaaGreatDoorK32
import Derived.Test.YtaoaknafiegfoaaGreatDoorK6
import Derived.Test.YtaoaknafiegfoaaGreatDoorK24
import Derived.Test.YtaoaknafiegfoaaGreatDoorK13
import Derived.Test.YtaoaknafiegfoaaGreatDoorK17
import Derived.Test.YtaoaknafiegfoaaGreatDoorK11
set_option linter.unusedVariables false
set_option linter.unusedSimpArgs false
set_option linter.unnecessarySimpa false
namespace Go.Proofs.YtaoaknafiegfoaaGreatDoor
open Go.Bil
open Go.RowKit (Below)
open Go.Proofs
set_option maxHeartbeats 4000000 in
theorem aNt (w : World) (b : Nat) (A : Option Addr) (n c : Nat) (p : Option Nat) (er em : dG) (m : List Body) (hs : StoreIs 39 A n c p er em m) (hO : Own [(some b, bc [.slice A n c, .map p] 107), er, em] w) (x : Body) :
  Calls Tryz.prog 61 #[.pointer (some ⟨b, 0, none⟩), (.agg (aF x).toArray)] w (fun ex w' => ∃ v, ex = .returned v ∧ (fun v w' => v = .int .i64 (kS m x).2 ∧ ∃ A' n' c' p' er' em', StoreIs 39 A' n' c' p' er' em' (kS m x).1 ∧ Mem w (bJ [(some b, bc [.slice A n c, .map p] 107), er, em]) [(some b, bc [.slice A' n' c', .map p'] 107), er', em'] w') v w') := by
 have hlen : m.length = n := by simpa using hs.row.1
 have hcap := hs.cap
 refine aH #[.tmp 4] 62 Tryz.func61 rfl Tryz.results61 Tryz.ntmps61 rfl ?_
 have M0 := hO.mem
 refine aD (aA (bE (.agg (List.toArray _)) M0 rfl rfl rfl (fun b1 w1 M1 => (bO rfl rfl (aB (aC (aD (aD (aA (wq (aG (.pointer _) rfl) rfl (wq (eV false Tryz.underlying162 rfl rfl) rfl ?_)))))))))))
 refine aB (aC (bY rfl (aK (aC (aD (aD (aA (wq (bA 3 bS M1 rfl rfl rfl) rfl (cA aLl rfl rfl (rQ _ x) ?_)))))))))
 rintro v2 w2 ⟨rfl, hb2⟩
 have M2 := M1.callB hb2
 refine bO rfl rfl (aB (aC (aD (aA (aY rfl rfl (cY rfl rfl rfl rfl (aB (aC ?_))))))))
 refine bB rfl (fun h13 => ?_) (fun h13 => ?_)
 ·refine aD (aA (aY rfl rfl (bO rfl rfl (aB (aC (aO (cM (cD (.int _ _) rfl ?_))))))))
  have ha : kS m x = (m, check x) := by unfold kS; rw [if_pos h13]
  exact ⟨by rw [ha], A, n, c, p, er, em, by rw [ha]; exact hs, M2.keep [true, true, true, false]⟩
 ·refine aK (aC (aD (aD (bP [(0, 0), (1, 0), (2, 0), (3, 1), (4, 0), (5, 1), (6, 1), (7, 0), (8, 0), (9, 0), (10, 0), (11, 0)] mixed rfl (by kernel_rfl) (fun w3 hb3 hh3 => ?_)))))
  have M3 := M2.drew hb3 hh3
  refine aX rfl rfl rfl (fun _ => aG (.pointer _) rfl) (aX rfl rfl rfl (fun _ => aM rfl) (aX rfl rfl rfl (fun _ => aE 1 jA rfl) (bW rfl rfl rfl (aL 0 (.map _) mS M3 rfl rfl rfl) (aX rfl rfl rfl (fun _ => aE 0 fB rfl) (bW rfl rfl rfl (aL 3 (.int _ _) bZ M3 rfl rfl rfl) ?_)))))
  refine bW rfl rfl rfl (iH (enc := (Value.int .i64)) 0 2 pL zv3 M3 rfl hs.map rfl rfl) (aX rfl rfl rfl (fun _ => aG (.tuple (List.toArray _)) rfl) (aX rfl rfl rfl (fun _ => bG (.int _ _) rfl rfl) (aX rfl rfl rfl (fun _ => bG (.bool _) rfl rfl) (qO rfl rfl rfl (aX rfl rfl rfl (fun _ => aI (.bool _) rfl) ?_)))))
  refine cE (aC (aD (aA (wq (aG (.bool _) rfl) rfl (aB (aC ?_))))))
  refine iJ _ rfl (fun h25 => ?_) (fun h25 => ?_)
  ·have hf : 0 ≤ cH x.key m := by rw [yV] at h25; exact of_decide_eq_true h25
   refine aD (aA (bO rfl rfl (aB (aC (aO (cM (cD (.int _ _) rfl ?_)))))))
   have ha : kS m x = (m, 10) := by unfold kS; rw [if_neg h13, if_pos hf]
   exact ⟨by rw [ha], A, n, c, p, er, em, by rw [ha]; exact hs, M3.keep [true, true, true, false]⟩
  ·have hf : ¬ (0 ≤ cH x.key m) := fun h => by rw [yV, decide_eq_true h] at h25; simp at h25
   refine aK (aC (aD (aD (aA (wq (aG (.pointer _) rfl) rfl (wq (aM rfl) rfl (wq (aE 0 eZ rfl) rfl (wq (aL 0 (.slice _ _ _) fD M3 rfl rfl rfl) rfl (wq (cN Tryz.underlying29 rfl) rfl ?_)))))))))
   refine cY rfl rfl rfl rfl (aB (aC ?_))
   refine bB rfl (fun h31 => ?_) (fun h31 => ?_)
   ·refine aD (aA (bO rfl rfl (aB (aC (aO (cM (cD (.int _ _) rfl ?_)))))))
    have ha : kS m x = (m, 12) := by unfold kS; rw [if_neg h13, if_neg hf, if_pos (by omega)]
    exact ⟨by rw [ha], A, n, c, p, er, em, by rw [ha]; exact hs, M3.keep [true, true, true, false]⟩
   ·refine aK (aC (aD (aD (aA (wq (aG (.pointer _) rfl) rfl (wq (aM rfl) rfl (wq (aE 1 jA rfl) rfl (wq (aL 0 (.map _) mS M3 rfl rfl rfl) rfl (wq (aJt _ Tryz.underlying101 rfl rfl) rfl ?_)))))))))
    refine aB (aC ?_)
    refine iJ _ rfl (fun h36 => ?_) (fun h36 => ?_)
    ·have hpn : p = none := by cases p <;> simp_all
     have hnone : ∀ k, sE m k = (fun _ => none) k := fun k => by subst hpn; rcases hs.map with ⟨_, _, h⟩ | ⟨_, _, h, _⟩; exact h k; cases h
     refine aA (wq (aG (.pointer _) rfl) rfl (jU M3 rfl rfl (fun b4 w4 M4 => ?_)))
     have M5 := M4.replace (i := 2) (Nat.le_of_ble_eq_true rfl)
     refine wq (aM rfl) rfl (wq (aE 1 jA rfl) rfl (eD 0 (.map _) mS M5 rfl rfl rfl rfl rfl rfl (fun w6 M6 => (aB (aC (aD (bP [(0, 0), (1, 0), (2, 0), (3, 1), (4, 0), (5, 1), (6, 0), (7, 0), (8, 0), (9, 1), (10, 0), (11, 2)] mixed rfl (by kernel_rfl) (fun w7 hb7 hh7 => ?_))))))))
     have M7 := M6.drew hb7 hh7
     refine aX rfl rfl rfl (fun _ => aG (.pointer _) rfl) (aX rfl rfl rfl (fun _ => aM rfl) (aX rfl rfl rfl (fun _ => aE 1 jA rfl) (bW rfl rfl rfl (aL 0 (.map _) mS M7 rfl rfl rfl) (aX rfl rfl rfl (fun _ => aE 0 fB rfl) (bW rfl rfl rfl (aL 3 (.int _ _) bZ M7 rfl rfl rfl) ?_)))))
     refine aX rfl rfl rfl (fun _ => aG (.pointer _) rfl) (aX rfl rfl rfl (fun _ => aM rfl) (aX rfl rfl rfl (fun _ => aE 0 eZ rfl) (bW rfl rfl rfl (aL 0 (.slice _ _ _) fD M7 rfl rfl rfl) (aX rfl rfl rfl (fun _ => cN Tryz.underlying29 rfl) (dM [true, true, true] rfl (by kernel_rfl) ?_)))))
     refine iO (enc := (Value.int .i64)) 2 pL M7 rfl rfl ((iD.empty _ _ b4).congr hnone) rfl rfl rfl rfl (fun e8 w8 hm8 M8 => ?_)
     refine aB (aC ⟨dN, ?_⟩)
     refine cE (aC (aD (bP [(0, 0), (1, 0), (2, 0), (3, 0), (4, 1), (5, 1), (6, 2), (7, 2), (8, 0), (9, 0), (10, 2)] mixed rfl (by kernel_rfl) (fun w9 hb9 hh9 => ?_))))
     have M9 := M8.drew hb9 hh9
     refine aX rfl rfl rfl (fun _ => aG (.pointer _) rfl) (aX rfl rfl rfl (fun _ => aG (.pointer _) rfl) (aX rfl rfl rfl (fun _ => aM rfl) (aX rfl rfl rfl (fun _ => aE 0 eZ rfl) (bW rfl rfl rfl (aL 0 (.slice _ _ _) fD M9 rfl rfl rfl) (bW rfl rfl rfl (bA 3 bS M9 rfl rfl rfl) ?_)))))
     refine dM [true, false] rfl (by kernel_rfl) (cT [.agg (List.toArray _)] _ rfl fG M9 rfl rfl rfl rfl (dA rfl) (by decide) (fun b10 w10 M10 => ?_))
     refine aB (aC ⟨(eL (bN rfl (aL 0 (.slice _ _ _) fD M10 rfl rfl rfl)) dN), ?_⟩)
     refine dM [true] rfl (by kernel_rfl) (dR 1 [aF x] fG M10 rfl rfl rfl rfl rfl hs.row rfl (by simpa using ⟨mU x, mR x⟩) (cZ.ofMem 4 M10 rfl) (by omega) (fun A11 c11 e11 w11 M11 hR11 => ?_))
     refine aB (aC ⟨dN, ?_⟩)
     refine aX rfl rfl rfl (fun _ => aM rfl) (aX rfl rfl rfl (fun _ => aE 0 eZ rfl) (dM [] rfl (by kernel_rfl) (eD 0 (.slice _ _ _) fD M11 rfl rfl rfl rfl rfl rfl (fun w12 M12 => ?_))))
     refine aB (aC ⟨dN, ?_⟩)
     refine cE (aC (aD (aA (bO rfl rfl (aB (aC (aO (cD (.int _ _) rfl ?_))))))))
     have ha : kS m x = (m ++ [x], 0) := by unfold kS; rw [if_neg h13, if_neg hf, if_neg (by omega)]
     have hall := aNm (x := x) ⟨hs.keys, hs.cap, hs.ok⟩
     rw [ha] at hall
     obtain ⟨hk', hc', ho'⟩ := hall
     have hix := aFr hs.keys (x := x) (by omega)
     rw [hlen] at hix
     exact ⟨by rw [ha], _, _, _, _, _, _, by rw [ha]; exact ⟨(by simpa using hR11), (hm8.congr hix), hk', hc', ho'⟩, M12.keep [true, true, true, false, false]⟩
    ·have hps : p.isSome = true := by cases p <;> simp_all
     refine aK (aC (aD (bP [(0, 0), (1, 0), (2, 0), (3, 1), (4, 0), (5, 1), (6, 0), (7, 0), (8, 0), (9, 1), (10, 0), (11, 2)] mixed rfl (by kernel_rfl) (fun w13 hb13 hh13 => ?_))))
     have M13 := M3.drew hb13 hh13
     refine aX rfl rfl rfl (fun _ => aG (.pointer _) rfl) (aX rfl rfl rfl (fun _ => aM rfl) (aX rfl rfl rfl (fun _ => aE 1 jA rfl) (bW rfl rfl rfl (aL 0 (.map _) mS M13 rfl rfl rfl) (aX rfl rfl rfl (fun _ => aE 0 fB rfl) (bW rfl rfl rfl (aL 3 (.int _ _) bZ M13 rfl rfl rfl) ?_)))))
     refine aX rfl rfl rfl (fun _ => aG (.pointer _) rfl) (aX rfl rfl rfl (fun _ => aM rfl) (aX rfl rfl rfl (fun _ => aE 0 eZ rfl) (bW rfl rfl rfl (aL 0 (.slice _ _ _) fD M13 rfl rfl rfl) (aX rfl rfl rfl (fun _ => cN Tryz.underlying29 rfl) (dM [true, true, true] rfl (by kernel_rfl) ?_)))))
     refine iO (enc := (Value.int .i64)) 2 pL M13 rfl rfl hs.map hps rfl rfl rfl (fun e14 w14 hm14 M14 => ?_)
     refine aB (aC ⟨dN, ?_⟩)
     refine cE (aC (aD (bP [(0, 0), (1, 0), (2, 0), (3, 0), (4, 1), (5, 1), (6, 2), (7, 2), (8, 0), (9, 0), (10, 2)] mixed rfl (by kernel_rfl) (fun w15 hb15 hh15 => ?_))))
     have M15 := M14.drew hb15 hh15
     refine aX rfl rfl rfl (fun _ => aG (.pointer _) rfl) (aX rfl rfl rfl (fun _ => aG (.pointer _) rfl) (aX rfl rfl rfl (fun _ => aM rfl) (aX rfl rfl rfl (fun _ => aE 0 eZ rfl) (bW rfl rfl rfl (aL 0 (.slice _ _ _) fD M15 rfl rfl rfl) (bW rfl rfl rfl (bA 3 bS M15 rfl rfl rfl) ?_)))))
     refine dM [true, false] rfl (by kernel_rfl) (cT [.agg (List.toArray _)] _ rfl fG M15 rfl rfl rfl rfl (dA rfl) (by decide) (fun b16 w16 M16 => ?_))
     refine aB (aC ⟨(eL (bN rfl (aL 0 (.slice _ _ _) fD M16 rfl rfl rfl)) dN), ?_⟩)
     refine dM [true] rfl (by kernel_rfl) (dR 1 [aF x] fG M16 rfl rfl rfl rfl rfl hs.row rfl (by simpa using ⟨mU x, mR x⟩) (cZ.ofMem 4 M16 rfl) (by omega) (fun A17 c17 e17 w17 M17 hR17 => ?_))
     refine aB (aC ⟨dN, ?_⟩)
     refine aX rfl rfl rfl (fun _ => aM rfl) (aX rfl rfl rfl (fun _ => aE 0 eZ rfl) (dM [] rfl (by kernel_rfl) (eD 0 (.slice _ _ _) fD M17 rfl rfl rfl rfl rfl rfl (fun w18 M18 => ?_))))
     refine aB (aC ⟨dN, ?_⟩)
     refine cE (aC (aD (aA (bO rfl rfl (aB (aC (aO (cD (.int _ _) rfl ?_))))))))
     have ha : kS m x = (m ++ [x], 0) := by unfold kS; rw [if_neg h13, if_neg hf, if_neg (by omega)]
     have hall := aNm (x := x) ⟨hs.keys, hs.cap, hs.ok⟩
     rw [ha] at hall
     obtain ⟨hk', hc', ho'⟩ := hall
     have hix := aFr hs.keys (x := x) (by omega)
     rw [hlen] at hix
     exact ⟨by rw [ha], _, _, _, _, _, _, by rw [ha]; exact ⟨(by simpa using hR17), (hm14.congr hix), hk', hc', ho'⟩, M18.keep [true, true, true, false, false]⟩
set_option maxHeartbeats 4000000 in
theorem aZf (w : World) (b : Nat) (A : Option Addr) (n c : Nat) (p : Option Nat) (er em : dG) (m : List Body) (hs : StoreIs 39 A n c p er em m) (hO : Own [(some b, bc [.slice A n c, .map p] 107), er, em] w) (key : Int) :
  Calls Tryz.prog 117 #[.pointer (some ⟨b, 0, none⟩), .int .u32 key] w (fun ex w' => ∃ v, ex = .returned v ∧ (fun v w' => (∃ x, v = .tuple #[.agg (aF x).toArray, .int .i64 (yY m key).2] ∧ x = (yY m key).1) ∧ Mem w (bJ [(some b, bc [.slice A n c, .map p] 107), er, em]) [(some b, bc [.slice A n c, .map p] 107), er, em] w') v w') := by
 have hlen : m.length = n := by simpa using hs.row.1
 have hcap := hs.cap
 refine aH #[.cell 4 39, .tmp 5] 30 Tryz.func117 rfl Tryz.results117 Tryz.ntmps117 rfl ?_
 have M0 := hO.mem
 refine aD (aA (aQ gW M0 rfl rfl (fun b1 w1 M1 => (bO rfl rfl (aB (aC (aD (aD (aA (wq (aG (.pointer _) rfl) rfl (wq (eV false Tryz.underlying162 rfl rfl) rfl ?_)))))))))))
 refine aB (aC (bY rfl (aK (aC (aD (aA (wq (aG (.pointer _) rfl) rfl (wq (aM rfl) rfl (wq (aE 1 jA rfl) rfl ?_)))))))))
 refine wq (aL 0 (.map _) mS M1 rfl rfl rfl) rfl (aY rfl rfl (wq (iH (enc := (Value.int .i64)) 0 2 pL zv3 M1 rfl hs.map rfl rfl) rfl (wq (aG (.tuple (List.toArray _)) rfl) rfl (wq (bG (.int _ _) rfl rfl) rfl (wq (bG (.bool _) rfl rfl) rfl ?_)))))
 refine bO rfl rfl (wq (aI (.bool _) rfl) rfl (aB (aC (aD (aD (aA (wq (aG (.bool _) rfl) rfl (wq (gL _ rfl rfl) rfl (aB (aC ?_))))))))))
 refine iJ _ rfl (fun h21 => ?_) (fun h21 => ?_)
 ·have hi : sE m key = none := by cases h : sE m key <;> simp_all
  refine aD (aA (wq (cF [] _ aHz rfl rfl) rfl (bC 3 _ bS M1 rfl rfl rfl rfl rfl (aR rfl) rfl (fun w2 M2 => (bO rfl rfl (aB (aC (aO (cM (aCk (v2 := .int _ _) 3 bS M2 rfl rfl rfl rfl ?_))))))))))
  exact ⟨⟨⟨0, 0, 0, 0, 0, 0, 0, 0, 0, 0⟩, by rw [aCp hi]; rfl, by rw [aCp hi]⟩, M2.keep [true, true, true, false]⟩
 ·rcases kC key m with ⟨hi, _⟩ | ⟨i, bi, hbi, hbk, hi⟩
  ·simp [hi] at h21
  refine aK (aC (aD (aA (wq (aG (.pointer _) rfl) rfl (wq (aM rfl) rfl (wq (aE 0 eZ rfl) rfl (wq (aL 0 (.slice _ _ _) fD M1 rfl rfl rfl) rfl (aY rfl rfl ?_))))))))
  refine wq (bR (i) fG rfl rfl (by rw [hi]; rfl) ((hs.row.rd M1 (aP (i := 1) rfl)).below_len (aJ aF hbi)) ((hs.row.rd M1 (aP (i := 1) rfl)).someK (aJ aF hbi))) rfl (wq (dZ _ bS (hs.row.rd M1 (aP (i := 1) rfl)) (aJ aF hbi) rfl) rfl (bC 3 _ bS M1 rfl rfl rfl rfl rfl (aR rfl) rfl (fun w3 M3 => ?_)))
  refine bO rfl rfl (aB (aC (aO (aCk (v2 := .int _ _) 3 bS M3 rfl rfl rfl rfl ?_))))
  exact ⟨⟨bi, by rw [uC hi hbi], by rw [uC hi hbi]⟩, M3.keep [true, true, true, false]⟩
set_option maxHeartbeats 4000000 in
theorem aYt (w : World) (b : Nat) (A : Option Addr) (n c : Nat) (p : Option Nat) (er em : dG) (m : List Body) (hs : StoreIs 39 A n c p er em m) (hO : Own [(some b, bc [.slice A n c, .map p] 107), er, em] w) (x : Body) :
  Calls Tryz.prog 125 #[.pointer (some ⟨b, 0, none⟩), (.agg (aF x).toArray)] w (fun ex w' => ∃ v, ex = .returned v ∧ (fun v w' => v = .int .i64 (rU m x).2 ∧ ∃ A' n' c' p' er' em', StoreIs 39 A' n' c' p' er' em' (rU m x).1 ∧ Mem w (bJ [(some b, bc [.slice A n c, .map p] 107), er, em]) [(some b, bc [.slice A' n' c', .map p'] 107), er', em'] w') v w') := by
 have hlen : m.length = n := by simpa using hs.row.1
 have hcap := hs.cap
 refine aH #[.tmp 4] 34 Tryz.func125 rfl Tryz.results125 Tryz.ntmps125 rfl ?_
 have M0 := hO.mem
 refine aD (aA (bE (.agg (List.toArray _)) M0 rfl rfl rfl (fun b1 w1 M1 => (bO rfl rfl (aB (aC (aD (aD (aA (wq (aG (.pointer _) rfl) rfl (wq (eV false Tryz.underlying162 rfl rfl) rfl ?_)))))))))))
 refine aB (aC (bY rfl (aK (aC (aD (aD (aA (wq (bA 3 bS M1 rfl rfl rfl) rfl (cA aLl rfl rfl (rQ _ x) ?_)))))))))
 rintro v2 w2 ⟨rfl, hb2⟩
 have M2 := M1.callB hb2
 refine bO rfl rfl (aB (aC (aD (aA (aY rfl rfl (cY rfl rfl rfl rfl (aB (aC ?_))))))))
 refine bB rfl (fun h13 => ?_) (fun h13 => ?_)
 ·refine aD (aA (aY rfl rfl (bO rfl rfl (aB (aC (aO (cM (cD (.int _ _) rfl ?_))))))))
  have ha : rU m x = (m, check x) := by unfold rU; rw [if_pos h13]
  exact ⟨by rw [ha], A, n, c, p, er, em, by rw [ha]; exact hs, M2.keep [true, true, true, false]⟩
 ·refine aK (aC (aD (bP [(0, 0), (1, 0), (2, 0), (3, 1), (4, 0), (5, 1), (6, 1), (7, 0), (8, 0), (9, 0), (10, 0), (11, 0)] mixed rfl (by kernel_rfl) (fun w3 hb3 hh3 => ?_))))
  have M3 := M2.drew hb3 hh3
  refine aX rfl rfl rfl (fun _ => aG (.pointer _) rfl) (aX rfl rfl rfl (fun _ => aM rfl) (aX rfl rfl rfl (fun _ => aE 1 jA rfl) (bW rfl rfl rfl (aL 0 (.map _) mS M3 rfl rfl rfl) (aX rfl rfl rfl (fun _ => aE 0 fB rfl) (bW rfl rfl rfl (aL 3 (.int _ _) bZ M3 rfl rfl rfl) ?_)))))
  refine bW rfl rfl rfl (iH (enc := (Value.int .i64)) 0 2 pL zv3 M3 rfl hs.map rfl rfl) (aX rfl rfl rfl (fun _ => aG (.tuple (List.toArray _)) rfl) (aX rfl rfl rfl (fun _ => bG (.int _ _) rfl rfl) (aX rfl rfl rfl (fun _ => bG (.bool _) rfl rfl) (qO rfl rfl rfl (aX rfl rfl rfl (fun _ => aI (.bool _) rfl) ?_)))))
  refine cE (aC (aD (aD (aA (wq (aG (.bool _) rfl) rfl (wq (gL _ rfl rfl) rfl (aB (aC ?_))))))))
  refine iJ _ rfl (fun h26 => ?_) (fun h26 => ?_)
  ·have hi : sE m x.key = none := by cases h : sE m x.key <;> simp_all
   refine aD (aA (bO rfl rfl (aB (aC (aO (cM (cD (.int _ _) rfl ?_)))))))
   have ha : rU m x = (m, 11) := by unfold rU; rw [if_neg h13, if_pos (by rw [iN, hi]; decide)]
   exact ⟨by rw [ha], A, n, c, p, er, em, by rw [ha]; exact hs, M3.keep [true, true, true, false]⟩
  ·rcases kC x.key m with ⟨hi, _⟩ | ⟨i, bi, hbi, hbk, hi⟩
   ·simp [hi] at h26
   refine aK (aC (aD (bP [(0, 0), (1, 0), (2, 0), (3, 1), (4, 0), (5, 1), (6, 1), (7, 2)] mixed rfl (by kernel_rfl) (fun w4 hb4 hh4 => ?_))))
   have M4 := M3.drew hb4 hh4
   refine aX rfl rfl rfl (fun _ => aG (.pointer _) rfl) (aX rfl rfl rfl (fun _ => aM rfl) (aX rfl rfl rfl (fun _ => aE 0 eZ rfl) (bW rfl rfl rfl (aL 0 (.slice _ _ _) fD M4 rfl rfl rfl) (gR rfl rfl rfl (bW rfl rfl rfl (bA 3 bS M4 rfl rfl rfl) ?_)))))
   refine bW rfl rfl rfl (bR (i) fG rfl rfl (by rw [hi]; rfl) ((hs.row.rd M4 (aP (i := 1) rfl)).below_len (aJ aF hbi)) ((hs.row.rd M4 (aP (i := 1) rfl)).someK (aJ aF hbi))) (dM [true, true, true] rfl (by kernel_rfl) (aDc 1 _ bS M4 rfl hs.row (aJ aF hbi) rfl rfl rfl rfl (aR rfl) (fun e5 w5 hR5 M5 => ?_)))
   have hQ5 := hR5.mapSet (f := aF) (x := x) rfl
   refine aB (aC ⟨dN, ?_⟩)
   refine cE (aC (aD (aA (bO rfl rfl (aB (aC (aO (cD (.int _ _) rfl ?_))))))))
   have ha : rU m x = (m.set i x, 0) := by unfold rU; rw [if_neg h13, iN, hi]; simp only []; rw [if_neg (by omega), Int.toNat_natCast]
   exact ⟨by rw [ha], _, _, _, _, _, _, by rw [ha]; exact hs.put hbi hbk.symm (by omega) hQ5, M5.keep [true, true, true, false]⟩
set_option maxHeartbeats 4000000 in
theorem aKq (w : World) (b : Nat) (A : Option Addr) (n c : Nat) (p : Option Nat) (er em : dG) (m : List Body) (hs : StoreIs 39 A n c p er em m) (hO : Own [(some b, bc [.slice A n c, .map p] 107), er, em] w) (key : Int) :
  Calls Tryz.prog 122 #[.pointer (some ⟨b, 0, none⟩), .int .u32 key] w (fun ex w' => ∃ v, ex = .returned v ∧ (fun v w' => v = .int .i64 (jC m key).2 ∧ ∃ A' n' c' p' er' em', StoreIs 39 A' n' c' p' er' em' (jC m key).1 ∧ Mem w (bJ [(some b, bc [.slice A n c, .map p] 107), er, em]) [(some b, bc [.slice A' n' c', .map p'] 107), er', em'] w') v w') := by
 have hlen : m.length = n := by simpa using hs.row.1
 have hcap := hs.cap
 refine aH #[.tmp 4] 67 Tryz.func122 rfl Tryz.results122 Tryz.ntmps122 rfl ?_
 have M0 := hO.mem
 refine aD (aA (bO rfl rfl (aB (aC (aD (aD (aA (wq (aG (.pointer _) rfl) rfl (wq (eV false Tryz.underlying162 rfl rfl) rfl (aB (aC ?_)))))))))))
 refine bY rfl (aK (aC (aD (aA (wq (aG (.pointer _) rfl) rfl (wq (aM rfl) rfl (wq (aE 1 jA rfl) rfl (wq (aL 0 (.map _) mS M0 rfl rfl rfl) rfl ?_))))))))
 refine aY rfl rfl (wq (iH (enc := (Value.int .i64)) 0 2 pL zv3 M0 rfl hs.map rfl rfl) rfl (wq (aG (.tuple (List.toArray _)) rfl) rfl (wq (bG (.int _ _) rfl rfl) rfl (wq (bG (.bool _) rfl rfl) rfl (bO rfl rfl ?_)))))
 refine wq (aI (.bool _) rfl) rfl (aB (aC (aD (aD (aA (wq (aG (.bool _) rfl) rfl (wq (gL _ rfl rfl) rfl (aB (aC ?_)))))))))
 refine iJ _ rfl (fun h20 => ?_) (fun h20 => ?_)
 ·have hi : sE m key = none := by cases h : sE m key <;> simp_all
  refine aD (aA (bO rfl rfl (aB (aC (aO (cM (cD (.int _ _) rfl ?_)))))))
  have ha : jC m key = (m, 11) := by unfold jC; rw [if_pos (by rw [iN, hi]; decide)]
  exact ⟨by rw [ha], A, n, c, p, er, em, by rw [ha]; exact hs, M0.keep [true, true, true]⟩
 ·rcases kC key m with ⟨hi, _⟩ | ⟨i, bi, hbi, hbk, hi⟩
  ·simp [hi] at h20
  have hilt : i < m.length := (List.getElem?_eq_some_iff.1 hbi).1
  obtain ⟨bl, hbl⟩ := cI (xs := m) (k := n - 1) rfl (by omega)
  have hps : p.isSome = true := hs.map.isSome hi
  refine aK (aC (aD (aA (wq (aG (.pointer _) rfl) rfl (wq (aM rfl) rfl (wq (aE 0 eZ rfl) rfl (wq (aL 0 (.slice _ _ _) fD M0 rfl rfl rfl) rfl (wq (cN Tryz.underlying29 rfl) rfl ?_))))))))
  refine wq (nE rfl rfl (by omega) (by omega)) rfl (bO rfl rfl (aB (aC (aD (bP [(0, 0), (1, 0), (2, 0), (3, 1), (4, 0), (5, 0), (6, 0), (7, 0), (8, 1), (9, 0), (10, 1), (11, 1), (12, 1), (13, 2)] mixed rfl (by kernel_rfl) (fun w1 hb1 hh1 => ?_))))))
  have M1 := M0.drew hb1 hh1
  refine aX rfl rfl rfl (fun _ => aG (.pointer _) rfl) (aX rfl rfl rfl (fun _ => aM rfl) (aX rfl rfl rfl (fun _ => aE 0 eZ rfl) (bW rfl rfl rfl (aL 0 (.slice _ _ _) fD M1 rfl rfl rfl) (gR rfl rfl rfl (aX rfl rfl rfl (fun _ => aG (.pointer _) rfl) ?_)))))
  refine aX rfl rfl rfl (fun _ => aM rfl) (aX rfl rfl rfl (fun _ => aE 0 eZ rfl) (bW rfl rfl rfl (aL 0 (.slice _ _ _) fD M1 rfl rfl rfl) (gR rfl rfl rfl (bW rfl rfl rfl (bR (n - 1) fG rfl rfl (by omega) ((hs.row.rd M1 (aP (i := 1) rfl)).below_len (aJ aF hbl)) ((hs.row.rd M1 (aP (i := 1) rfl)).someK (aJ aF hbl))) ?_))))
  refine bW rfl rfl rfl (dZ _ bS (hs.row.rd M1 (aP (i := 1) rfl)) (aJ aF hbl) rfl) (bW rfl rfl rfl (bR (i) fG rfl rfl (by rw [hi]; rfl) ((hs.row.rd M1 (aP (i := 1) rfl)).below_len (aJ aF hbi)) ((hs.row.rd M1 (aP (i := 1) rfl)).someK (aJ aF hbi))) (dM [true, true, true, true, true] rfl (by kernel_rfl) ?_))
  refine aDc 1 _ bS M1 rfl hs.row (aJ aF hbi) rfl rfl rfl rfl (aR rfl) (fun e2 w2 hR2 M2 => ?_)
  have hQ2 := hR2.mapSet (f := aF) (x := bl) rfl
  refine aB (aC ⟨dN, ?_⟩)
  refine cE (aC (aD (bP [(0, 0), (1, 0), (2, 0), (3, 1), (4, 0), (5, 0), (6, 0), (7, 1), (8, 0), (9, 1), (10, 1), (11, 1), (12, 0), (13, 2)] mixed rfl (by kernel_rfl) (fun w3 hb3 hh3 => ?_))))
  have M3 := M2.drew hb3 hh3
  refine aX rfl rfl rfl (fun _ => aG (.pointer _) rfl) (aX rfl rfl rfl (fun _ => aM rfl) (aX rfl rfl rfl (fun _ => aE 1 jA rfl) (bW rfl rfl rfl (aL 0 (.map _) mS M3 rfl rfl rfl) (aX rfl rfl rfl (fun _ => aG (.pointer _) rfl) (aX rfl rfl rfl (fun _ => aM rfl) ?_)))))
  refine aX rfl rfl rfl (fun _ => aE 0 eZ rfl) (bW rfl rfl rfl (aL 0 (.slice _ _ _) fD M3 rfl rfl rfl) (gR rfl rfl rfl ?_))
  refine bW rfl rfl rfl (bR (i) fG rfl rfl (by rw [hi]; rfl) ((hQ2.rd M3 (aP (i := 1) rfl)).below_len (aJ aF (by rw [List.getElem?_set_self hilt] : (m.set i bl)[i]? = some bl))) ((hQ2.rd M3 (aP (i := 1) rfl)).someK (aJ aF (by rw [List.getElem?_set_self hilt] : (m.set i bl)[i]? = some bl)))) ?_
  refine bW rfl rfl rfl (bH 0 fB (hQ2.rd M3 (aP (i := 1) rfl)) (Nat.lt_of_le_of_lt (Nat.zero_le _) ((hQ2.rd M3 (aP (i := 1) rfl)).below_len (aJ aF (by rw [List.getElem?_set_self hilt] : (m.set i bl)[i]? = some bl)))) rfl) ?_
  refine bW rfl rfl rfl (dS (o := 0) (.int _ _) bZ (hQ2.rd M3 (aP (i := 1) rfl)) (aJ aF (by rw [List.getElem?_set_self hilt] : (m.set i bl)[i]? = some bl)) rfl rfl) ?_
  refine gR rfl rfl rfl (dM [true, true, true, true, true] rfl (by kernel_rfl) (iO (enc := (Value.int .i64)) 2 pL M3 rfl rfl hs.map hps rfl rfl rfl (fun e4 w4 hm4 M4 => ?_)))
  refine aB (aC ⟨dN, ?_⟩)
  refine cE (aC (aD (aA (wq (aG (.pointer _) rfl) rfl (wq (aG (.pointer _) rfl) rfl (wq (aM rfl) rfl (wq (aE 0 eZ rfl) rfl ?_)))))))
  refine wq (aL 0 (.slice _ _ _) fD M4 rfl rfl rfl) rfl (aY rfl rfl (wq (fX (0) (((n : Int) - 1)) fG rfl rfl ⟨_, rfl⟩ (by decide) (by omega) (by have := hs.row.slice; omega)) rfl (wq (aM rfl) rfl (wq (aE 0 eZ rfl) rfl (eD 0 (.slice _ _ _) fD M4 rfl rfl rfl rfl rfl rfl (fun w5 M5 => ?_))))))
  refine aB (aC (aD (aA (wq (aG (.pointer _) rfl) rfl (wq (aM rfl) rfl (wq (aE 1 jA rfl) rfl (wq (aL 0 (.map _) mS M5 rfl rfl rfl) rfl (aY rfl rfl ?_))))))))
  refine aQw (enc := (Value.int .i64)) 2 pL M5 rfl rfl hm4 hps rfl rfl (fun e6 w6 hm6 M6 => (aB (aC (aD (aA (bO rfl rfl (aB (aC (aO (cD (.int _ _) rfl ?_))))))))))
  have ha : jC m key = (uD m i, 0) := by unfold jC; rw [iN, hi]; simp only []; rw [if_neg (by omega), Int.toNat_natCast]
  have hn1 : ((n : Int) - 1).toNat = n - 1 := by omega
  exact ⟨by rw [ha], _, _, _, _, _, _, by rw [ha]; exact hs.cut hbi hbk (by rw [hlen]; exact hbl) (by rw [hi]; rfl) (by omega) hQ2 hm6, M6.keep [true, true, true]⟩
set_option maxHeartbeats 4000000 in
theorem aLv (w : World) (b : Nat) (A : Option Addr) (n c : Nat) (p : Option Nat) (er em : dG) (m : List Body) (hs : StoreIs 39 A n c p er em m) (hO : Own [(some b, bc [.slice A n c, .map p] 107), er, em] w) :
  Calls Tryz.prog 68 #[.pointer (some ⟨b, 0, none⟩)] w (fun ex w' => ∃ v, ex = .returned v ∧ (fun v w' => ∃ A' n' c' e', v = .slice A' n' c' ∧ aU 39 10 A' n' c' ((wA m).map aF) e' ∧ Mem w (bJ [(some b, bc [.slice A n c, .map p] 107), er, em]) [(some b, bc [.slice A n c, .map p] 107), er, em, e'] w') v w') := by
 have hlen : m.length = n := by simpa using hs.row.1
 have hcap := hs.cap
 refine aH #[.tmp 2] 14 Tryz.func68 rfl Tryz.results68 Tryz.ntmps68 rfl ?_
 have M0 := hO.mem
 refine aD (aA (fJ rfl rfl (aB (aC (aD (aD (aA (wq (aG (.pointer _) rfl) rfl (wq (eV false Tryz.underlying162 rfl rfl) rfl (aB (aC ?_)))))))))))
 refine bY rfl (aK (aC (aD (aA (wq (aG (.pointer _) rfl) rfl (wq (aM rfl) rfl (wq (aE 0 eZ rfl) rfl (wq (aL 0 (.slice _ _ _) fD M0 rfl rfl rfl) rfl ?_))))))))
 refine cA bHz rfl rfl (aBa _ _ _ _ _ (hs.row.rd M0 (aP (i := 1) rfl)) (aLo m) (by omega)) ?_
 rintro v1 w1 ⟨A1, n1, c1, e1, rfl, hR1, hM1, _⟩
 have M1 : Mem _ _ [_, _, _, _] _ := M0.call0 hM1
 have hn1 : n1 = m.length := by simpa using hR1.1.symm
 refine fJ rfl rfl (aB (aC (aD (aA (dV rfl rfl (cA bCi rfl rfl (wH 115 bGb wO _ _ _ _ m _ hR1 (M1.ownAt (i := 3) rfl) (by omega)) ?_))))))
 rintro v2 w2 ⟨rfl, ys2, e2, hp2, hu2, hR2, hM2⟩
 have M2 : Mem _ _ [_, _, _, _] _ := M1.seg 3 1 hM2
 have hys : ys2 = wA m := aOd hu2 (aAb m) (hp2.trans (lP m).symm) (hs.keys.perm hp2)
 rw [hys] at hR2
 refine aB (aC (aD (aA (dV rfl rfl (fJ rfl rfl (aB (aC (aO (cD (.slice _ _ _) rfl ?_)))))))))
 exact ⟨_, _, _, _, rfl, hR2, M2⟩
theorem iQ {x : Int} (h : 0 ≤ x ∧ x ≤ 4294967295) : IntKind.wrap .i32 x = nV x := by
 unfold nV
 simp [IntKind.wrap, IntKind.bits, IntKind.signed]
 split <;> split <;> omega
set_option maxHeartbeats 4000000 in
theorem aCz (w : World) (r : Row) (xs : List Int) (hr : aU 5 1 r.A r.n r.c ((xs).map bI) r.e) (n : Int) (hn : 0 ≤ n ∧ n ≤ 4294967295) (hl : r.n ≤ 1048576) (hO : Own [r.e] w) :
  Calls Tryz.prog 100 #[.slice r.A r.n r.c, .int .u32 n] w (fun ex w' => ∃ v, ex = .returned v ∧ (fun v w' => ∃ q : Row, v = .slice q.A q.n q.c ∧ q.n = r.n + 4 ∧ aU 5 1 q.A q.n q.c ((xs ++ iS n).map bI) q.e ∧ Mem w (bJ [r.e]) [q.e] w') v w') := by
 refine aH #[.tmp 4] 19 Tryz.func100 rfl Tryz.results100 Tryz.ntmps100 rfl ?_
 have M0 := hO.mem
 refine aD (aA (fJ rfl rfl (aB (aC (aD (aA (dV rfl rfl (aY rfl rfl (wq (gO rfl rfl (by decide)) rfl ?_)))))))))
 refine aV 7 (.int .u32 (n / 16777216)) (iE (aYd n)) (wq (dT rV Tryz.underlying5 rfl) rfl (aV 8 (.int .u8 (n / 16777216 % 256)) (iE (wr8 _)) (aY rfl rfl (wq (gO rfl rfl (by decide)) rfl (aV 10 (.int .u32 (n / 65536)) (iE (aXj n)) ?_)))))
 refine wq (dT rV Tryz.underlying5 rfl) rfl (aV 11 (.int .u8 (n / 65536 % 256)) (iE (wr8 _)) (aY rfl rfl (wq (gO rfl rfl (by decide)) rfl (aV 13 (.int .u32 (n / 256)) (iE (bFw n)) (wq (dT rV Tryz.underlying5 rfl) rfl ?_)))))
 refine aV 14 (.int .u8 (n / 256 % 256)) (iE (wr8 _)) (aY rfl rfl (wq (dT rV Tryz.underlying5 rfl) rfl (aV 16 (.int .u8 (n % 256)) (iE (wr8 _)) (cT [.int _ _, .int _ _, .int _ _, .int _ _] ((iS n).map bI) rfl mE M0 rfl rfl rfl rfl (dA rfl) (by decide) (fun b1 w1 M1 => (dR 0 ((iS n).map bI) mE M1 rfl rfl rfl rfl rfl hr rfl (by simp [iS, bI, Go.Bil.one]) (cZ.ofMem 1 M1 rfl) (by omega) (fun A2 c2 e2 w2 M2 hR2 => ?_)))))))
 refine fJ rfl rfl (aB (aC (aO (cD (.slice _ _ _) rfl ?_))))
 exact ⟨⟨A2, _, c2, e2⟩, rfl, rfl, by rw [List.map_append]; exact hR2, M2.keep [true, false]⟩
set_option maxHeartbeats 4000000 in
theorem fM (w : World) (x : Int) :
  Calls Tryz.prog 136 #[.int .i32 x] w (fun ex w' => ∃ v, ex = .returned v ∧ (fun v w' => v = .int .u32 (x % 4294967296) ∧ Below w.heap.size w w') v w') := by
 refine aH #[.tmp 2] 5 Tryz.func136 rfl Tryz.results136 Tryz.ntmps136 rfl ?_
 have M0 := Mem.refl w
 refine aD (aA (bO rfl rfl (aB (aC (aD (aA (aY rfl rfl (wq (dT fV Tryz.underlying35 rfl) rfl (aV 4 (.int .u32 (x % 4294967296)) (iE (aSv _)) ?_)))))))))
 refine bO rfl rfl (aB (aC (aO (cD (.int _ _) rfl ?_))))
 exact ⟨rfl, M0.below⟩
set_option maxHeartbeats 4000000 in
theorem aKm (w : World) (b : Body) :
  Calls Tryz.prog 101 #[(.agg (aF b).toArray)] w (fun ex w' => ∃ v, ex = .returned v ∧ (fun v w' => v = .agg ((vQ b).map (Value.int .u32)).toArray ∧ Below w.heap.size w w') v w') := by
 refine aH #[.cell 2 139] 49 Tryz.func101 rfl Tryz.results101 Tryz.ntmps101 rfl ?_
 have M0 := Mem.refl w
 refine aD (aA (bE (.agg (List.toArray _)) M0 rfl rfl rfl (fun b1 w1 M1 => (aQ aDb M1 rfl rfl (fun b2 w2 M2 => (aB (aC (aD (aA (wq (aI (.func _ _ _) rfl) rfl (aB (aC (aD ?_)))))))))))))
 refine bP [(0, 0), (1, 1), (2, 0), (3, 0), (4, 1), (6, 0), (7, 0), (8, 0), (9, 1), (11, 0), (12, 0), (13, 0), (14, 1), (16, 0), (17, 0), (18, 1), (20, 0), (21, 0), (22, 1), (24, 0), (25, 0), (26, 0), (27, 1), (29, 0), (30, 0), (31, 0), (32, 1), (34, 0), (35, 0), (36, 0), (37, 1), (39, 0), (40, 0), (41, 0), (42, 1), (5, 2), (10, 2), (15, 2), (19, 2), (23, 2), (28, 2), (33, 2), (38, 2), (43, 2), (44, 0), (45, 2)] mixed rfl (by kernel_rfl) (fun w3 hb3 hh3 => ?_)
 have M3 := M2.drew hb3 hh3
 refine aX rfl rfl rfl (fun _ => aE 0 fB rfl) (bW rfl rfl rfl (aL 0 (.int _ _) bZ M3 rfl rfl rfl) (aX rfl rfl rfl (fun _ => aG (.func _ _ _) rfl) (aX rfl rfl rfl (fun _ => aE 1 oB rfl) (bW rfl rfl rfl (aL 0 (.int _ _) aW M3 rfl rfl rfl) (aX rfl rfl rfl (fun _ => aG (.func _ _ _) rfl) ?_)))))
 refine aX rfl rfl rfl (fun _ => aE 2 lB rfl) (aX rfl rfl rfl (fun _ => aE 0 dW rfl) (bW rfl rfl rfl (aL 0 (.int _ _) aW M3 rfl rfl rfl) (aX rfl rfl rfl (fun _ => aG (.func _ _ _) rfl) (aX rfl rfl rfl (fun _ => aE 2 lB rfl) (aX rfl rfl rfl (fun _ => aE 1 dO rfl) ?_)))))
 refine bW rfl rfl rfl (aL 0 (.int _ _) aW M3 rfl rfl rfl) (aX rfl rfl rfl (fun _ => aG (.func _ _ _) rfl) (aX rfl rfl rfl (fun _ => aE 4 fH rfl) (bW rfl rfl rfl (aL 0 (.int _ _) aW M3 rfl rfl rfl) (aX rfl rfl rfl (fun _ => aG (.func _ _ _) rfl) (aX rfl rfl rfl (fun _ => aE 5 sN rfl) ?_)))))
 refine bW rfl rfl rfl (aL 0 (.int _ _) aW M3 rfl rfl rfl) (aX rfl rfl rfl (fun _ => aG (.func _ _ _) rfl) (aX rfl rfl rfl (fun _ => aE 6 gU rfl) (aX rfl rfl rfl (fun _ => aE 0 dW rfl) (bW rfl rfl rfl (aL 0 (.int _ _) aW M3 rfl rfl rfl) (aX rfl rfl rfl (fun _ => aG (.func _ _ _) rfl) ?_)))))
 refine aX rfl rfl rfl (fun _ => aE 6 gU rfl) (aX rfl rfl rfl (fun _ => aE 1 dO rfl) (bW rfl rfl rfl (aL 0 (.int _ _) aW M3 rfl rfl rfl) (aX rfl rfl rfl (fun _ => aG (.func _ _ _) rfl) (aX rfl rfl rfl (fun _ => aE 8 fO rfl) (aX rfl rfl rfl (fun _ => aE 0 dW rfl) ?_)))))
 refine bW rfl rfl rfl (aL 0 (.int _ _) aW M3 rfl rfl rfl) (aX rfl rfl rfl (fun _ => aG (.func _ _ _) rfl) (aX rfl rfl rfl (fun _ => aE 8 fO rfl) (aX rfl rfl rfl (fun _ => aE 1 dO rfl) (bW rfl rfl rfl (aL 0 (.int _ _) aW M3 rfl rfl rfl) (dM [false, false, false, false, false, false, false, false, true, false] rfl (by kernel_rfl) ?_)))))
 refine cA oR rfl rfl (fM _ b.radius) ?_
 rintro v4 w4 ⟨rfl, hb4⟩
 have M4 := M3.callB hb4
 refine aB (aC ⟨(eL (bN rfl (aL 0 (.int _ _) aW M4 rfl rfl rfl)) (eL (bN rfl (aL 0 (.int _ _) aW M4 rfl rfl rfl)) (eL (bN rfl (aL 0 (.int _ _) aW M4 rfl rfl rfl)) (eL (bN rfl (aL 0 (.int _ _) aW M4 rfl rfl rfl)) (eL (bN rfl (aL 0 (.int _ _) aW M4 rfl rfl rfl)) (eL (bN rfl (aL 0 (.int _ _) aW M4 rfl rfl rfl)) (eL (bN rfl (aL 0 (.int _ _) aW M4 rfl rfl rfl)) (eL (bN rfl (aL 0 (.int _ _) aW M4 rfl rfl rfl)) (eL (bN rfl (aL 0 (.int _ _) bZ M4 rfl rfl rfl)) dN))))))))), ?_⟩)
 refine dM [false, false, false, false, false, false, false, true, false] rfl (by kernel_rfl) (cA oR rfl rfl (fM _ b.ax) ?_)
 rintro v5 w5 ⟨rfl, hb5⟩
 have M5 := M4.callB hb5
 refine aB (aC ⟨(eL (bN rfl (aL 0 (.int _ _) aW M5 rfl rfl rfl)) (eL (bN rfl (aL 0 (.int _ _) aW M5 rfl rfl rfl)) (eL (bN rfl (aL 0 (.int _ _) aW M5 rfl rfl rfl)) (eL (bN rfl (aL 0 (.int _ _) aW M5 rfl rfl rfl)) (eL (bN rfl (aL 0 (.int _ _) aW M5 rfl rfl rfl)) (eL (bN rfl (aL 0 (.int _ _) aW M5 rfl rfl rfl)) (eL (bN rfl (aL 0 (.int _ _) aW M5 rfl rfl rfl)) (eL (bN rfl (aL 0 (.int _ _) bZ M5 rfl rfl rfl)) dN)))))))), ?_⟩)
 refine dM [false, false, false, false, false, false, true, false] rfl (by kernel_rfl) (cA oR rfl rfl (fM _ b.ay) ?_)
 rintro v6 w6 ⟨rfl, hb6⟩
 have M6 := M5.callB hb6
 refine aB (aC ⟨(eL (bN rfl (aL 0 (.int _ _) aW M6 rfl rfl rfl)) (eL (bN rfl (aL 0 (.int _ _) aW M6 rfl rfl rfl)) (eL (bN rfl (aL 0 (.int _ _) aW M6 rfl rfl rfl)) (eL (bN rfl (aL 0 (.int _ _) aW M6 rfl rfl rfl)) (eL (bN rfl (aL 0 (.int _ _) aW M6 rfl rfl rfl)) (eL (bN rfl (aL 0 (.int _ _) aW M6 rfl rfl rfl)) (eL (bN rfl (aL 0 (.int _ _) bZ M6 rfl rfl rfl)) dN))))))), ?_⟩)
 refine dM [false, false, false, false, false, true, false] rfl (by kernel_rfl) (cA oR rfl rfl (fM _ b.mass) ?_)
 rintro v7 w7 ⟨rfl, hb7⟩
 have M7 := M6.callB hb7
 refine aB (aC ⟨(eL (bN rfl (aL 0 (.int _ _) aW M7 rfl rfl rfl)) (eL (bN rfl (aL 0 (.int _ _) aW M7 rfl rfl rfl)) (eL (bN rfl (aL 0 (.int _ _) aW M7 rfl rfl rfl)) (eL (bN rfl (aL 0 (.int _ _) aW M7 rfl rfl rfl)) (eL (bN rfl (aL 0 (.int _ _) aW M7 rfl rfl rfl)) (eL (bN rfl (aL 0 (.int _ _) bZ M7 rfl rfl rfl)) dN)))))), ?_⟩)
 refine dM [false, false, false, false, true, false] rfl (by kernel_rfl) (cA oR rfl rfl (fM _ b.bounce) ?_)
 rintro v8 w8 ⟨rfl, hb8⟩
 have M8 := M7.callB hb8
 refine aB (aC ⟨(eL (bN rfl (aL 0 (.int _ _) aW M8 rfl rfl rfl)) (eL (bN rfl (aL 0 (.int _ _) aW M8 rfl rfl rfl)) (eL (bN rfl (aL 0 (.int _ _) aW M8 rfl rfl rfl)) (eL (bN rfl (aL 0 (.int _ _) aW M8 rfl rfl rfl)) (eL (bN rfl (aL 0 (.int _ _) bZ M8 rfl rfl rfl)) dN))))), ?_⟩)
 refine dM [false, false, false, true, false] rfl (by kernel_rfl) (cA oR rfl rfl (fM _ b.px) ?_)
 rintro v9 w9 ⟨rfl, hb9⟩
 have M9 := M8.callB hb9
 refine aB (aC ⟨(eL (bN rfl (aL 0 (.int _ _) aW M9 rfl rfl rfl)) (eL (bN rfl (aL 0 (.int _ _) aW M9 rfl rfl rfl)) (eL (bN rfl (aL 0 (.int _ _) aW M9 rfl rfl rfl)) (eL (bN rfl (aL 0 (.int _ _) bZ M9 rfl rfl rfl)) dN)))), ?_⟩)
 refine dM [false, false, true, false] rfl (by kernel_rfl) (cA oR rfl rfl (fM _ b.py) ?_)
 rintro v10 w10 ⟨rfl, hb10⟩
 have M10 := M9.callB hb10
 refine aB (aC ⟨(eL (bN rfl (aL 0 (.int _ _) aW M10 rfl rfl rfl)) (eL (bN rfl (aL 0 (.int _ _) aW M10 rfl rfl rfl)) (eL (bN rfl (aL 0 (.int _ _) bZ M10 rfl rfl rfl)) dN))), ?_⟩)
 refine dM [false, true, false] rfl (by kernel_rfl) (cA oR rfl rfl (fM _ b.vx) ?_)
 rintro v11 w11 ⟨rfl, hb11⟩
 have M11 := M10.callB hb11
 refine aB (aC ⟨(eL (bN rfl (aL 0 (.int _ _) aW M11 rfl rfl rfl)) (eL (bN rfl (aL 0 (.int _ _) bZ M11 rfl rfl rfl)) dN)), ?_⟩)
 refine dM [true, false] rfl (by kernel_rfl) (cA oR rfl rfl (fM _ b.vy) ?_)
 rintro v12 w12 ⟨rfl, hb12⟩
 have M12 := M11.callB hb12
 refine aB (aC ⟨(eL (bN rfl (aL 0 (.int _ _) bZ M12 rfl rfl rfl)) dN), ?_⟩)
 refine aX rfl rfl rfl (fun _ => pF [.int _ _, .int _ _, .int _ _, .int _ _, .int _ _, .int _ _, .int _ _, .int _ _, .int _ _, .int _ _] fL aDb rfl rfl (dA rfl)) (dM [true] rfl (by kernel_rfl) (bC 1 _ aKz M12 rfl rfl rfl rfl rfl (aR rfl) rfl (fun w13 M13 => ?_)))
 refine aB (aC ⟨dN, ?_⟩)
 refine cE (aC (aO (eQ 1 aKz M13 rfl rfl rfl ?_)))
 exact ⟨rfl, M13.below⟩
set_option maxHeartbeats 4000000 in
theorem fZ (w : World) (A : Option Addr) (n c : Nat) (ls : List Int) (R : Rd w 1 A n (ls.map bI)) (hB : jM ls) (h4 : 4 ≤ n) :
  Calls Tryz.prog 79 #[.slice A n c] w (fun ex w' => ∃ v, ex = .returned v ∧ (fun v w' => v = .int .u32 (eJ ls 0) ∧ Below w.heap.size w w') v w') := by
 have hlen : ls.length = n := by simpa using R.len
 have hbd := R.bound
 obtain ⟨x0, hx0⟩ := cI (xs := ls) (k := 0) hlen (by omega)
 obtain ⟨x1, hx1⟩ := cI (xs := ls) (k := 1) hlen (by omega)
 obtain ⟨x2, hx2⟩ := cI (xs := ls) (k := 2) hlen (by omega)
 obtain ⟨x3, hx3⟩ := cI (xs := ls) (k := 3) hlen (by omega)
 obtain ⟨g0, g1⟩ := hB x0 (List.mem_of_getElem? hx0)
 obtain ⟨g2, g3⟩ := hB x1 (List.mem_of_getElem? hx1)
 obtain ⟨g4, g5⟩ := hB x2 (List.mem_of_getElem? hx2)
 obtain ⟨g6, g7⟩ := hB x3 (List.mem_of_getElem? hx3)
 have hnum : eJ ls 0 = ((x0 * 256 + x1) * 256 + x2) * 256 + x3 := by unfold eJ; simp only [List.getD_eq_getElem?_getD, Nat.zero_add, hx0, hx1, hx2, hx3, Option.getD_some]
 obtain ⟨b0, rfl⟩ := Int.eq_ofNat_of_zero_le g0
 obtain ⟨b1, rfl⟩ := Int.eq_ofNat_of_zero_le g2
 obtain ⟨b2, rfl⟩ := Int.eq_ofNat_of_zero_le g4
 obtain ⟨b3, rfl⟩ := Int.eq_ofNat_of_zero_le g6
 refine aH #[.tmp 2] 25 Tryz.func79 rfl Tryz.results79 Tryz.ntmps79 rfl ?_
 have M0 := Mem.refl w
 refine aD (aA (bO rfl rfl (aB (aC (aD (bP [(0, 0), (1, 1), (2, 1), (3, 0), (4, 0), (5, 0), (6, 1), (7, 1), (8, 0), (9, 0), (10, 0), (11, 0), (12, 1), (13, 1), (14, 0), (15, 0), (16, 0), (17, 0), (18, 1), (19, 1), (20, 0), (21, 0), (22, 0)] mixed rfl (by kernel_rfl) (fun w1 hb1 hh1 => ?_)))))))
 have M1 := M0.drew hb1 hh1
 refine xG rfl rfl rfl (bW rfl rfl rfl (bR (0) mE rfl rfl rfl ((R.mem M1).below_len (aJ bI hx0)) ((R.mem M1).someK (aJ bI hx0))) (bW rfl rfl rfl (iA (.int _ _) aPt (R.mem M1) (aJ bI hx0) rfl) (aX rfl rfl rfl (fun _ => bU us5 Tryz.underlying35 rfl (aBm _ (by omega) (by omega))) ?_)))
 refine aX rfl rfl rfl (fun _ => tM rfl rfl (by decide)) (fY 7 (.int .u32 ((b0 * 16777216 : Nat) : Int)) (iE (aZm b0 (by omega))) (xG rfl rfl rfl (bW rfl rfl rfl (bR (1) mE rfl rfl rfl ((R.mem M1).below_len (aJ bI hx1)) ((R.mem M1).someK (aJ bI hx1))) (bW rfl rfl rfl (iA (.int _ _) aPt (R.mem M1) (aJ bI hx1) rfl) ?_))))
 refine aX rfl rfl rfl (fun _ => bU us5 Tryz.underlying35 rfl (aBm _ (by omega) (by omega))) (aX rfl rfl rfl (fun _ => tM rfl rfl (by decide)) (fY 12 (.int .u32 ((b1 * 65536 : Nat) : Int)) (iE (aYx b1 (by omega))) (aX rfl rfl rfl (fun _ => dY (.int _ _) rfl rfl rfl) (fY 13 (.int .u32 ((b0 * 16777216 + b1 * 65536 : Nat) : Int)) (iE (bCg b0 (b0 * 16777216) (b1 * 65536) 24 rfl (show b1 * 65536 < 16777216 by omega) (by omega))) ?_))))
 refine xG rfl rfl rfl (bW rfl rfl rfl (bR (2) mE rfl rfl rfl ((R.mem M1).below_len (aJ bI hx2)) ((R.mem M1).someK (aJ bI hx2))) (bW rfl rfl rfl (iA (.int _ _) aPt (R.mem M1) (aJ bI hx2) rfl) (aX rfl rfl rfl (fun _ => bU us5 Tryz.underlying35 rfl (aBm _ (by omega) (by omega))) ?_)))
 refine aX rfl rfl rfl (fun _ => tM rfl rfl (by decide)) (fY 18 (.int .u32 ((b2 * 256 : Nat) : Int)) (iE (bDm b2 (by omega))) (aX rfl rfl rfl (fun _ => dY (.int _ _) rfl rfl rfl) (fY 19 (.int .u32 ((b0 * 16777216 + b1 * 65536 + b2 * 256 : Nat) : Int)) (iE (bCg (b0 * 256 + b1) (b0 * 16777216 + b1 * 65536) (b2 * 256) 16 (show (b0 * 256 + b1) * 65536 = _ by omega) (show b2 * 256 < 65536 by omega) (by omega))) ?_)))
 refine xG rfl rfl rfl (bW rfl rfl rfl (bR (3) mE rfl rfl rfl ((R.mem M1).below_len (aJ bI hx3)) ((R.mem M1).someK (aJ bI hx3))) (bW rfl rfl rfl (iA (.int _ _) aPt (R.mem M1) (aJ bI hx3) rfl) (aX rfl rfl rfl (fun _ => bU us5 Tryz.underlying35 rfl (aBm _ (by omega) (by omega))) ?_)))
 refine aX rfl rfl rfl (fun _ => dY (.int _ _) rfl rfl rfl) (fY 24 (.int .u32 ((b0 * 16777216 + b1 * 65536 + b2 * 256 + b3 : Nat) : Int)) (iE (bCg (b0 * 65536 + b1 * 256 + b2) (b0 * 16777216 + b1 * 65536 + b2 * 256) b3 8 (show (b0 * 65536 + b1 * 256 + b2) * 256 = _ by omega) (show b3 < 256 by omega) (by omega))) ?_)
 refine qO rfl rfl rfl (cE (aC (aO (cD (.int _ _) rfl ?_))))
 exact ⟨iE (by rw [hnum]; omega), M1.below⟩
set_option maxHeartbeats 4000000 in
theorem fE (w : World) (n : Int) (hn : 0 ≤ n ∧ n ≤ 4294967295) :
  Calls Tryz.prog 80 #[.int .i64 n] w (fun ex w' => ∃ v, ex = .returned v ∧ (fun v w' => v = .int .i64 (8 + 40 * n) ∧ Below w.heap.size w w') v w') := by
 refine aH #[.tmp 2] 6 Tryz.func80 rfl Tryz.results80 Tryz.ntmps80 rfl ?_
 have M0 := Mem.refl w
 refine aD (aA (bO rfl rfl (aB (aC (aD (aA (aY rfl rfl (wq (gC rfl rfl (by omega) (by omega)) rfl (wq (bQ rfl rfl (by omega) (by omega)) rfl ?_)))))))))
 refine bO rfl rfl (aB (aC (aO (cD (.int _ _) rfl ?_))))
 exact ⟨iE (by omega), M0.below⟩
set_option maxHeartbeats 4000000 in
theorem wJ (w : World) (b : Nat) (x0 x1 x2 x3 x4 x5 x6 x7 x8 x9 : Int) (h0 : 0 ≤ x2 ∧ x2 ≤ 4294967295) (h1 : 0 ≤ x3 ∧ x3 ≤ 4294967295) (hO : Own [(some b, bc [.int .u32 x0, .int .u32 x1, .int .u32 x2, .int .u32 x3, .int .u32 x4, .int .u32 x5, .int .u32 x6, .int .u32 x7, .int .u32 x8, .int .u32 x9] 139)] w) :
  Calls Tryz.prog 118 #[.int .i64 2, .pointer (some ⟨b, 0, none⟩)] w (fun ex w' => ∃ v, ex = .returned v ∧ (fun v w' => v = .agg [.int .i32 (nV x2), .int .i32 (nV x3)].toArray ∧ Mem w (bJ [(some b, bc [.int .u32 x0, .int .u32 x1, .int .u32 x2, .int .u32 x3, .int .u32 x4, .int .u32 x5, .int .u32 x6, .int .u32 x7, .int .u32 x8, .int .u32 x9] 139)]) [(some b, bc [.int .u32 x0, .int .u32 x1, .int .u32 x2, .int .u32 x3, .int .u32 x4, .int .u32 x5, .int .u32 x6, .int .u32 x7, .int .u32 x8, .int .u32 x9] 139)] w') v w') := by
 refine aH #[.cell 3 37] 14 Tryz.func118 rfl Tryz.results118 Tryz.ntmps118 rfl ?_
 have M0 := hO.mem
 refine aD (aA (aQ gK M0 rfl rfl (fun b1 w1 M1 => (aB (aC (aD (bP [(0, 0), (1, 0), (2, 1), (3, 0), (4, 0), (5, 0), (6, 0), (7, 1), (8, 0), (9, 0), (10, 2)] mixed rfl (by kernel_rfl) (fun w2 hb2 hh2 => ?_))))))))
 have M2 := M1.drew hb2 hh2
 refine gR rfl rfl rfl (aX rfl rfl rfl (fun _ => fC (2) fL rfl rfl rfl (by decide)) (bW rfl rfl rfl (aL 0 (.int _ _) bZ M2 rfl rfl rfl) (aX rfl rfl rfl (fun _ => dT rV Tryz.underlying21 rfl) (fY 7 (.int .i32 (nV x2)) (iE (iQ h0)) (gR rfl rfl rfl ?_)))))
 refine aX rfl rfl rfl (fun _ => bQ rfl rfl (by first | decide | omega) (by first | decide | omega)) (aX rfl rfl rfl (fun _ => fC (3) fL rfl rfl rfl (by decide)) (bW rfl rfl rfl (aL 0 (.int _ _) bZ M2 rfl rfl rfl) (aX rfl rfl rfl (fun _ => dT rV Tryz.underlying21 rfl) (fY 12 (.int .i32 (nV x3)) (iE (iQ h1)) ?_))))
 refine aX rfl rfl rfl (fun _ => cF [(0, .int _ _), (1, .int _ _)] _ gD rfl rfl) (dM [true, true] rfl (by kernel_rfl) (bC 1 _ bL M2 rfl rfl rfl rfl rfl (aR rfl) rfl (fun w3 M3 => ?_)))
 refine aB (aC ⟨dN, ?_⟩)
 refine cE (aC (aO (eQ 1 bL M3 rfl rfl rfl ?_)))
 exact ⟨rfl, M3.keep [true, false]⟩
set_option maxHeartbeats 4000000 in
theorem wI (w : World) (b : Nat) (x0 x1 x2 x3 x4 x5 x6 x7 x8 x9 : Int) (h0 : 0 ≤ x6 ∧ x6 ≤ 4294967295) (h1 : 0 ≤ x7 ∧ x7 ≤ 4294967295) (hO : Own [(some b, bc [.int .u32 x0, .int .u32 x1, .int .u32 x2, .int .u32 x3, .int .u32 x4, .int .u32 x5, .int .u32 x6, .int .u32 x7, .int .u32 x8, .int .u32 x9] 139)] w) :
  Calls Tryz.prog 118 #[.int .i64 6, .pointer (some ⟨b, 0, none⟩)] w (fun ex w' => ∃ v, ex = .returned v ∧ (fun v w' => v = .agg [.int .i32 (nV x6), .int .i32 (nV x7)].toArray ∧ Mem w (bJ [(some b, bc [.int .u32 x0, .int .u32 x1, .int .u32 x2, .int .u32 x3, .int .u32 x4, .int .u32 x5, .int .u32 x6, .int .u32 x7, .int .u32 x8, .int .u32 x9] 139)]) [(some b, bc [.int .u32 x0, .int .u32 x1, .int .u32 x2, .int .u32 x3, .int .u32 x4, .int .u32 x5, .int .u32 x6, .int .u32 x7, .int .u32 x8, .int .u32 x9] 139)] w') v w') := by
 refine aH #[.cell 3 37] 14 Tryz.func118 rfl Tryz.results118 Tryz.ntmps118 rfl ?_
 have M0 := hO.mem
 refine aD (aA (aQ gK M0 rfl rfl (fun b1 w1 M1 => (aB (aC (aD (bP [(0, 0), (1, 0), (2, 1), (3, 0), (4, 0), (5, 0), (6, 0), (7, 1), (8, 0), (9, 0), (10, 2)] mixed rfl (by kernel_rfl) (fun w2 hb2 hh2 => ?_))))))))
 have M2 := M1.drew hb2 hh2
 refine gR rfl rfl rfl (aX rfl rfl rfl (fun _ => fC (6) fL rfl rfl rfl (by decide)) (bW rfl rfl rfl (aL 0 (.int _ _) bZ M2 rfl rfl rfl) (aX rfl rfl rfl (fun _ => dT rV Tryz.underlying21 rfl) (fY 7 (.int .i32 (nV x6)) (iE (iQ h0)) (gR rfl rfl rfl ?_)))))
 refine aX rfl rfl rfl (fun _ => bQ rfl rfl (by first | decide | omega) (by first | decide | omega)) (aX rfl rfl rfl (fun _ => fC (7) fL rfl rfl rfl (by decide)) (bW rfl rfl rfl (aL 0 (.int _ _) bZ M2 rfl rfl rfl) (aX rfl rfl rfl (fun _ => dT rV Tryz.underlying21 rfl) (fY 12 (.int .i32 (nV x7)) (iE (iQ h1)) ?_))))
 refine aX rfl rfl rfl (fun _ => cF [(0, .int _ _), (1, .int _ _)] _ gD rfl rfl) (dM [true, true] rfl (by kernel_rfl) (bC 1 _ bL M2 rfl rfl rfl rfl rfl (aR rfl) rfl (fun w3 M3 => ?_)))
 refine aB (aC ⟨dN, ?_⟩)
 refine cE (aC (aO (eQ 1 bL M3 rfl rfl rfl ?_)))
 exact ⟨rfl, M3.keep [true, false]⟩
set_option maxHeartbeats 4000000 in
theorem wN (w : World) (b : Nat) (x0 x1 x2 x3 x4 x5 x6 x7 x8 x9 : Int) (h0 : 0 ≤ x8 ∧ x8 ≤ 4294967295) (h1 : 0 ≤ x9 ∧ x9 ≤ 4294967295) (hO : Own [(some b, bc [.int .u32 x0, .int .u32 x1, .int .u32 x2, .int .u32 x3, .int .u32 x4, .int .u32 x5, .int .u32 x6, .int .u32 x7, .int .u32 x8, .int .u32 x9] 139)] w) :
  Calls Tryz.prog 118 #[.int .i64 8, .pointer (some ⟨b, 0, none⟩)] w (fun ex w' => ∃ v, ex = .returned v ∧ (fun v w' => v = .agg [.int .i32 (nV x8), .int .i32 (nV x9)].toArray ∧ Mem w (bJ [(some b, bc [.int .u32 x0, .int .u32 x1, .int .u32 x2, .int .u32 x3, .int .u32 x4, .int .u32 x5, .int .u32 x6, .int .u32 x7, .int .u32 x8, .int .u32 x9] 139)]) [(some b, bc [.int .u32 x0, .int .u32 x1, .int .u32 x2, .int .u32 x3, .int .u32 x4, .int .u32 x5, .int .u32 x6, .int .u32 x7, .int .u32 x8, .int .u32 x9] 139)] w') v w') := by
 refine aH #[.cell 3 37] 14 Tryz.func118 rfl Tryz.results118 Tryz.ntmps118 rfl ?_
 have M0 := hO.mem
 refine aD (aA (aQ gK M0 rfl rfl (fun b1 w1 M1 => (aB (aC (aD (bP [(0, 0), (1, 0), (2, 1), (3, 0), (4, 0), (5, 0), (6, 0), (7, 1), (8, 0), (9, 0), (10, 2)] mixed rfl (by kernel_rfl) (fun w2 hb2 hh2 => ?_))))))))
 have M2 := M1.drew hb2 hh2
 refine gR rfl rfl rfl (aX rfl rfl rfl (fun _ => fC (8) fL rfl rfl rfl (by decide)) (bW rfl rfl rfl (aL 0 (.int _ _) bZ M2 rfl rfl rfl) (aX rfl rfl rfl (fun _ => dT rV Tryz.underlying21 rfl) (fY 7 (.int .i32 (nV x8)) (iE (iQ h0)) (gR rfl rfl rfl ?_)))))
 refine aX rfl rfl rfl (fun _ => bQ rfl rfl (by first | decide | omega) (by first | decide | omega)) (aX rfl rfl rfl (fun _ => fC (9) fL rfl rfl rfl (by decide)) (bW rfl rfl rfl (aL 0 (.int _ _) bZ M2 rfl rfl rfl) (aX rfl rfl rfl (fun _ => dT rV Tryz.underlying21 rfl) (fY 12 (.int .i32 (nV x9)) (iE (iQ h1)) ?_))))
 refine aX rfl rfl rfl (fun _ => cF [(0, .int _ _), (1, .int _ _)] _ gD rfl rfl) (dM [true, true] rfl (by kernel_rfl) (bC 1 _ bL M2 rfl rfl rfl rfl rfl (aR rfl) rfl (fun w3 M3 => ?_)))
 refine aB (aC ⟨dN, ?_⟩)
 refine cE (aC (aO (eQ 1 bL M3 rfl rfl rfl ?_)))
 exact ⟨rfl, M3.keep [true, false]⟩
set_option maxHeartbeats 4000000 in
theorem aEf (w : World) (x0 x1 x2 x3 x4 x5 x6 x7 x8 x9 : Int) (hx : ∀ x ∈ ([x0, x1, x2, x3, x4, x5, x6, x7, x8, x9] : List Int), 0 ≤ x ∧ x ≤ 4294967295) :
  Calls Tryz.prog 81 #[.agg [.int .u32 x0, .int .u32 x1, .int .u32 x2, .int .u32 x3, .int .u32 x4, .int .u32 x5, .int .u32 x6, .int .u32 x7, .int .u32 x8, .int .u32 x9].toArray] w (fun ex w' => ∃ v, ex = .returned v ∧ (fun v w' => v = (.agg (aF (⟨x0, nV x1, nV x2, nV x3, nV x4, nV x5, nV x6, nV x7, nV x8, nV x9⟩ : Body)).toArray) ∧ Below w.heap.size w w') v w') := by
 refine aH #[.cell 2 39] 23 Tryz.func81 rfl Tryz.results81 Tryz.ntmps81 rfl ?_
 have M0 := Mem.refl w
 refine aD (aA (bE (.agg (List.toArray _)) M0 rfl rfl rfl (fun b1 w1 M1 => (aQ gW M1 rfl rfl (fun b2 w2 M2 => (aB (aC (aD (aA (wq (cL [] [.pointer _] rfl rfl) rfl (wq (aI (.func _ _ _) rfl) rfl ?_)))))))))))
 refine aB (aC (aD (bP [(0, 0), (1, 1), (2, 0), (3, 1), (4, 0), (5, 0), (7, 0), (8, 1), (9, 0), (10, 0), (11, 1), (12, 0), (13, 0), (15, 0), (6, 2), (14, 2), (16, 2), (17, 0), (18, 2)] mixed rfl (by kernel_rfl) (fun w3 hb3 hh3 => ?_))))
 have M3 := M2.drew hb3 hh3
 refine aX rfl rfl rfl (fun _ => fC (0) fL rfl rfl rfl (by decide)) (bW rfl rfl rfl (aL 0 (.int _ _) bZ M3 rfl rfl rfl) (aX rfl rfl rfl (fun _ => fC (1) fL rfl rfl rfl (by decide)) (bW rfl rfl rfl (aL 0 (.int _ _) bZ M3 rfl rfl rfl) (aX rfl rfl rfl (fun _ => dT rV Tryz.underlying21 rfl) ?_))))
 refine fY 9 (.int .i32 (nV x1)) (iE (iQ (hx _ (by simp)))) (aX rfl rfl rfl (fun _ => aG (.func _ _ _) rfl) (aX rfl rfl rfl (fun _ => fC (4) fL rfl rfl rfl (by decide)) (bW rfl rfl rfl (aL 0 (.int _ _) bZ M3 rfl rfl rfl) (aX rfl rfl rfl (fun _ => dT rV Tryz.underlying21 rfl) ?_))))
 refine fY 14 (.int .i32 (nV x4)) (iE (iQ (hx _ (by simp)))) (aX rfl rfl rfl (fun _ => fC (5) fL rfl rfl rfl (by decide)) (bW rfl rfl rfl (aL 0 (.int _ _) bZ M3 rfl rfl rfl) (aX rfl rfl rfl (fun _ => dT rV Tryz.underlying21 rfl) (fY 17 (.int .i32 (nV x5)) (iE (iQ (hx _ (by simp)))) ?_))))
 refine aX rfl rfl rfl (fun _ => aG (.func _ _ _) rfl) (aX rfl rfl rfl (fun _ => aG (.func _ _ _) rfl) (dM [false, false, false, false] rfl (by kernel_rfl) (cA aKe rfl rfl (wJ _ b1 x0 x1 x2 x3 x4 x5 x6 x7 x8 x9 (hx _ (by simp)) (hx _ (by simp)) (M3.ownSeg 0 1)) ?_)))
 rintro v4 w4 ⟨rfl, hM4⟩
 have M4 : Mem _ _ [_, _] _ := M3.seg 0 1 hM4
 refine aB (aC ⟨(eL (bN rfl (aL 0 (.int _ _) bZ M4 rfl rfl rfl)) (eL (bN rfl (aL 0 (.int _ _) bZ M4 rfl rfl rfl)) (eL (bN rfl (aL 0 (.int _ _) bZ M4 rfl rfl rfl)) (eL (bN rfl (aL 0 (.int _ _) bZ M4 rfl rfl rfl)) dN)))), ?_⟩)
 refine dM [false, false, false, false] rfl (by kernel_rfl) (cA aKe rfl rfl (wI _ b1 x0 x1 x2 x3 x4 x5 x6 x7 x8 x9 (hx _ (by simp)) (hx _ (by simp)) (M4.ownSeg 0 1)) ?_)
 rintro v5 w5 ⟨rfl, hM5⟩
 have M5 : Mem _ _ [_, _] _ := M4.seg 0 1 hM5
 refine aB (aC ⟨(eL (bN rfl (aL 0 (.int _ _) bZ M5 rfl rfl rfl)) (eL (bN rfl (aL 0 (.int _ _) bZ M5 rfl rfl rfl)) (eL (bN rfl (aL 0 (.int _ _) bZ M5 rfl rfl rfl)) (eL (bN rfl (aL 0 (.int _ _) bZ M5 rfl rfl rfl)) dN)))), ?_⟩)
 refine dM [false, false, false, false] rfl (by kernel_rfl) (cA aKe rfl rfl (wN _ b1 x0 x1 x2 x3 x4 x5 x6 x7 x8 x9 (hx _ (by simp)) (hx _ (by simp)) (M5.ownSeg 0 1)) ?_)
 rintro v6 w6 ⟨rfl, hM6⟩
 have M6 : Mem _ _ [_, _] _ := M5.seg 0 1 hM6
 refine aB (aC ⟨(eL (bN rfl (aL 0 (.int _ _) bZ M6 rfl rfl rfl)) (eL (bN rfl (aL 0 (.int _ _) bZ M6 rfl rfl rfl)) (eL (bN rfl (aL 0 (.int _ _) bZ M6 rfl rfl rfl)) (eL (bN rfl (aL 0 (.int _ _) bZ M6 rfl rfl rfl)) dN)))), ?_⟩)
 refine aX rfl rfl rfl (fun _ => cF [(0, .int _ _), (1, .int _ _), (2, .agg (List.toArray _)), (3, .int _ _), (4, .int _ _), (5, .agg (List.toArray _)), (6, .agg (List.toArray _))] _ aHz rfl rfl) (dM [true, true, true, true] rfl (by kernel_rfl) (bC 1 _ bS M6 rfl rfl rfl rfl rfl (aR rfl) rfl (fun w7 M7 => ?_)))
 refine aB (aC ⟨dN, ?_⟩)
 refine cE (aC (aO (eQ 1 bS M7 rfl rfl rfl ?_)))
 exact ⟨rfl, M7.below⟩
set_option maxHeartbeats 8000000 in
theorem aEm (w : World) (A : Option Addr) (n c : Nat) (xs : List Body) (R : Rd w 10 A n (xs.map aF)) (hn : n ≤ 4096) (hc : iB xs = 0) (hb : ∀ b ∈ xs, InB b) :
  Calls Tryz.prog 58 #[.slice A n c] w (fun ex w' => ∃ v, ex = .returned v ∧ (fun v w' => ∃ q : Row, v = .tuple #[.slice q.A q.n q.c, .int .i64 0] ∧ aU 5 1 q.A q.n q.c ((wL xs).map bI) q.e ∧ Mem w [] [q.e] w') v w') := by
 have hlen : xs.length = n := by simpa using R.len
 have hbd := R.bound
 refine aH #[.tmp 2, .tmp 3] 38 Tryz.func58 rfl Tryz.results58 Tryz.ntmps58 rfl ?_
 have M0 := Mem.refl w
 refine aD (aA (fJ rfl rfl (bO rfl rfl (aB (aC (aD (aD (aA (dV rfl rfl (cA bBw rfl rfl (zF _ _ _ _ xs (R.mem M0)) ?_))))))))))
 rintro v1 w1 ⟨rfl, hb1⟩
 have M1 := M0.callB hb1
 refine bO rfl rfl (aB (aC (aD (aA (aY rfl rfl (cY rfl rfl rfl rfl (tS 13 rfl (fun h => h hc) (aB (aC ?_)))))))))
 refine bY rfl (aK (aC (aD (aA (cT [.int _ _, .int _ _, .int _ _, .int _ _] (pM.map bI) rfl mE M1 rfl rfl rfl rfl (dA rfl) (by decide) (fun b2 w2 M2 => ?_))))))
 have hlit15 := jY (T := 5) (b := b2) (pM.map bI) (aKv _) rfl (by decide)
 refine aYc 0 Tryz.underlying31 Tryz.underlying5 M2 rfl rfl rfl rfl hlit15 (by decide) (fun e3 w3 M3 hR3 => (dV rfl rfl (wq (cN Tryz.underlying29 rfl) rfl (wq (bU us3 Tryz.underlying35 rfl (aBm _ (by omega) (by omega))) rfl (cA aTk rfl rfl (aCz _ ⟨(some ⟨b2, 0, none⟩), 4, 4, e3⟩ pM hR3 (n : Int) (by omega) (by first | omega | exact (show 4 ≤ 1048576 by decide)) (M3.ownSeg 0 1)) ?_)))))
 rintro v4 w4 ⟨q0, rfl, hnq0, hq0, hM4⟩
 have M4 : Mem _ _ [_] _ := M3.seg 0 1 hM4
 refine fJ rfl rfl (aB (aC (aD (aD (aA (dV rfl rfl (wq (cN Tryz.underlying29 rfl) rfl (aY rfl rfl (aB (aC (aT ?_)))))))))))
 refine dL (σ := Nat × Row) [2, 3, 21, 22] (fun (k, q) => [(5, .slice q.A q.n q.c), (23, .int .i64 (k : Int))]) (fun (k, q) w' => (k ≤ n ∧ q.n = 8 + 40 * k ∧ aU 5 1 q.A q.n q.c (((pM ++ iS (n : Int)) ++ (xs.take k).flatMap uF).map bI) q.e) ∧ Mem w [] [q.e] w') (fun (k, q) => n - k) (0, q0) (bM rfl (bM rfl eX)) (⟨⟨by omega, hnq0, by rw [List.take_zero, List.flatMap_nil, List.append_nil]; exact hq0⟩, M4⟩) ?_
 rintro ⟨k, q⟩ ρ5 w5 ⟨⟨hk, hqn, hq⟩, hM5⟩
 refine aD (aA (cY rfl rfl rfl rfl (aB (aC (aD ?_)))))
 refine bB rfl (fun h24 => ?_) (fun h24 => ?_)
 ·obtain ⟨xb, hxb⟩ := cI (xs := xs) (k := k) hlen (by omega)
  have hxi := aQc (hb xb (List.mem_of_getElem? hxb))
  refine aK (aC (aD (aT (aD (aA (wq (bR (k) fG rfl rfl rfl ((R.mem hM5).below_len (aJ aF hxb)) ((R.mem hM5).someK (aJ aF hxb))) rfl (wq (dZ _ bS (R.mem hM5) (aJ aF hxb) rfl) rfl (aQ gW hM5 rfl rfl (fun b6 w6 M6 => (bC 1 _ bS M6 rfl rfl rfl rfl rfl (aR rfl) rfl (fun w7 M7 => ?_)))))))))))
  refine aB (aC (aD (aA (wq (bA 1 bS M7 rfl rfl rfl) rfl (cA bFr rfl rfl (aKm _ xb) ?_)))))
  rintro v8 w8 ⟨rfl, hb8⟩
  have M8 := M7.callB hb8
  refine aY rfl rfl (aB (aC (aT (dL (σ := Nat × Row) [2, 3, 21, 22, 23, 28] (fun (j, p) => [(5, .slice p.A p.n p.c), (29, .int .i64 (j : Int))]) (fun (j, p) w' => (j ≤ 10 ∧ p.n = q.n + 4 * j ∧ aU 5 1 p.A p.n p.c (((pM ++ iS (n : Int)) ++ (xs.take k).flatMap uF ++ ((vQ xb).take j).flatMap iS).map bI) p.e) ∧ Mem w [] [p.e, (some b6, bc (aF xb) 39)] w') (fun (j, p) => 10 - j) (0, q) (bM rfl (bM rfl eX)) (⟨⟨by omega, by omega, by rw [List.take_zero, List.flatMap_nil, List.append_nil]; exact hq⟩, M8⟩) ?_))))
  rintro ⟨j, p⟩ ρ9 w9 ⟨⟨hj, hpn, hp⟩, hM9⟩
  refine aD (aA (cY rfl rfl rfl rfl (aB (aC (aD ?_)))))
  refine bB rfl (fun h30 => ?_) (fun h30 => ?_)
  ·obtain ⟨x, hx⟩ := cI (xs := vQ xb) (k := j) (n := 10) rfl (by omega)
   have hxr := hxi x (List.mem_of_getElem? hx)
   refine aK (aC (aD (aT (aD (aA ?_)))))
   refine wq (uY (j) (.int .u32 x) fL bZ rfl rfl (by omega) (by omega) rfl (by rw [kP, List.getElem?_map, hx]; rfl)) rfl ?_
   refine bO rfl rfl (aB (aC (aA (dV rfl rfl (aY rfl rfl (cA aTk rfl rfl (aCz _ p _ hp x hxr (by first | omega | exact (show 4 ≤ 1048576 by decide)) (hM9.ownSeg 0 1)) ?_))))))
   rintro v10 w10 ⟨p2, rfl, hnp2, hp2, hM10⟩
   have M10 : Mem _ _ [_, _] _ := hM9.seg 0 1 hM10
   refine fJ rfl rfl (aB (dE (aC (aA (wq (bQ rfl rfl (by omega) (by omega)) rfl (aY rfl rfl ?_))))))
   refine aB ?_
   refine cR (j + 1, p2) (bM rfl (bM rfl eX)) (cV rfl (cV rfl (cV rfl (cV rfl (cV rfl (cV rfl kA)))))) ?_ ?_
   ·exact ⟨⟨by omega, by omega, by rw [aPd hx, ← List.append_assoc]; exact hp2⟩, M10⟩
   ·(show 10 - (j + 1) < 10 - j; omega)
  ·obtain rfl : j = 10 := by omega
   rw [List.take_of_length_le (show (vQ xb).length ≤ 10 from Nat.le_refl _)] at hp
   refine cQ (dC (cX (eT (dE (aC (aA ?_))))))
   refine wq (bQ rfl rfl (by omega) (by omega)) rfl (aY rfl rfl (aB ?_))
   refine cR (k + 1, p) (bM rfl (bM rfl eX)) (cV rfl (cV rfl (cV rfl (cV rfl kA)))) ?_ ?_
   ·exact ⟨⟨by omega, by omega, by rw [aQv hxb, ← aQo, ← List.append_assoc]; exact hp⟩, hM9.keep [true, false]⟩
   ·(show n - (k + 1) < n - k; omega)
 ·obtain rfl : k = n := by omega
  rw [List.take_of_length_le (by omega), ← hlen] at hq
  refine cQ (dC (cX (eT (aC (aD (aA (dV rfl rfl ?_)))))))
  refine fJ rfl rfl (bO rfl rfl (aB (aC (aO (iM (.slice _ _ _) (.int _ _) rfl rfl ?_)))))
  exact ⟨q, rfl, hq, hM5⟩
set_option maxHeartbeats 16000000 in
theorem aEt (w : World) (A : Option Addr) (n c : Nat) (ls : List Int) (R : Rd w 1 A n (ls.map bI)) (hB : jM ls) (hcap : n ≤ c) (hn : n ≤ 1048576) :
  Calls Tryz.prog 54 #[.slice A n c] w (fun ex w' => ∃ v, ex = .returned v ∧ (fun v w' => ∃ r : Row, v = .tuple #[.slice r.A r.n r.c, .int .i64 (lM ls).2] ∧ aU 39 10 r.A r.n r.c (((lM ls).1).map aF) r.e ∧ Mem w [] [r.e] w') v w') := by
 have hlen : ls.length = n := by simpa using R.len
 have hbd := R.bound
 refine aH #[.tmp 2, .tmp 3] 58 Tryz.func54 rfl Tryz.results54 Tryz.ntmps54 rfl ?_
 have M0 := Mem.refl w
 refine aD (aA (fJ rfl rfl (bO rfl rfl (aB (aC (aD (aD (aA (dV rfl rfl (wq (cN Tryz.underlying31 rfl) rfl ?_))))))))))
 refine cY rfl rfl rfl rfl (wq (aG (.bool (decide _)) rfl) rfl ?_)
 refine dH 13 rfl (fun g13 => ?_) (fun g13 => ?_)
 ·refine aS rfl rfl (aS rfl rfl (aS rfl rfl (aS rfl rfl (wq (bX true (.bool true) rfl rfl) rfl (aB (aC ?_))))))
  refine cS rfl (aD (aA (fJ rfl rfl (bO rfl rfl (aB (aC (aO (cM (iM (.slice _ _ _) (.int _ _) rfl rfl ?_)))))))))
  have hd := aEd (l := ls) (fun h => by have := h.1; omega)
  exact ⟨⟨none, 0, 0, (none, default)⟩, by rw [hd], by rw [hd]; exact aU.nil _ _ _, (M0.keep []).dummy default⟩
 ·refine dV rfl rfl (wq (fX (0) (4) mE rfl rfl ⟨_, rfl⟩ (by omega) (by omega) (by omega)) rfl (wq (bEc Tryz.underlying31 Tryz.underlying5 Tryz.underlying9 (Rd.subB (R.mem M0) (0) (4) (by omega) (by omega) hcap) rfl) rfl (wq (aWf rfl rfl) rfl (wq (bX false (.bool (decide _)) rfl rfl) rfl (aB (aC ?_))))))
  refine bB rfl (fun h18 => ?_) (fun h18 => ?_)
  ·refine aD (aA (fJ rfl rfl (bO rfl rfl (aB (aC (aO (cM (iM (.slice _ _ _) (.int _ _) rfl rfl ?_))))))))
   have hd := aEd (l := ls) (fun h => ((aMt ((ls.drop 0).take (4 - 0)) (hB.sub 0 4) [66, 73, 76, 49]).1 h18) (by rw [← vA]; simpa using h.2.1))
   exact ⟨⟨none, 0, 0, (none, default)⟩, by rw [hd], by rw [hd]; exact aU.nil _ _ _, (M0.keep []).dummy default⟩
  ·refine aK (aC (aD (aA (dV rfl rfl (wq (fX (4) (((n : Nat) : Int)) mE rfl ⟨_, rfl⟩ rfl (by omega) (by omega) (by omega)) rfl (cA pT rfl rfl (fZ _ _ _ _ ((ls.drop (4)).take (n - (4))) (Rd.subB (R.mem M0) (4) (n) (by omega) (by omega) hcap) (hB.sub _ _) (by omega)) ?_))))))
   rintro v1 w1 ⟨rfl, hb1⟩
   have M1 := M0.callB hb1
   have hr4 := pO hB (a := 4) (by omega)
   obtain ⟨N, hN⟩ : ∃ N : Nat, eJ ls 4 = (N : Int) := ⟨(eJ ls 4).toNat, by omega⟩
   have hNl : N ≤ 4294967295 := by omega
   refine aV 21 (.int .u32 (N : Int)) (iE ((hJ (by omega)).trans hN)) (wq (bU rV Tryz.underlying3 rfl (kO _ (by omega) (by omega))) rfl (bO rfl rfl (aB (aC (aD (aD (aA (dV rfl rfl (wq (cN Tryz.underlying31 rfl) rfl ?_)))))))))
   refine aY rfl rfl (cA pG rfl rfl (fE _ (N : Int) (by omega)) ?_)
   rintro v2 w2 ⟨rfl, hb2⟩
   have M2 := M1.callB hb2
   refine cY rfl rfl rfl rfl (aB (aC ?_))
   refine bB rfl (fun h27 => ?_) (fun h27 => ?_)
   ·refine aD (aA (fJ rfl rfl (bO rfl rfl (aB (aC (aO (cM (iM (.slice _ _ _) (.int _ _) rfl rfl ?_))))))))
    have hd := aEd (l := ls) (fun h => h27 (by have := h.2.2; rw [hN] at this; omega))
    exact ⟨⟨none, 0, 0, (none, default)⟩, by rw [hd], by rw [hd]; exact aU.nil _ _ _, (M2.keep []).dummy default⟩
   ·have hfm : aCu ls := ⟨by omega, by have h := Decidable.not_not.1 (mt ((aMt ((ls.drop 0).take (4 - 0)) (hB.sub 0 4) [66, 73, 76, 49]).2) h18); rw [← vA] at h; simpa using h, by rw [hN]; omega⟩
    refine aK (aC (aD (aA (fJ rfl rfl ?_))))
    have M3 := M2.dummy default
    refine aB (aC (aD (aD (aA (aY rfl rfl (aY rfl rfl (aB (aC (aT (dL (σ := Nat × Row) [0, 2, 3, 28] (fun (i, q) => [(5, .slice q.A q.n q.c), (29, .int .i64 (i : Int))]) (fun (i, q) w' => (i ≤ N ∧ aU 39 10 q.A q.n q.c ((nG ls i).map aF) q.e) ∧ Mem w [] [q.e] w') (fun (i, q) => N - i) (0, fR) (bM rfl (bM rfl eX)) (⟨⟨by omega, aU.nil _ _ _⟩, M3⟩) ?_))))))))))
    rintro ⟨i, q⟩ ρ4 w4 ⟨⟨hi, hq⟩, hM4⟩
    have hqn : (nG ls i).length = q.n := by simpa using hq.1
    rw [yT] at hqn
    refine aD (aA (cY rfl rfl rfl rfl (aB (aC (aD ?_)))))
    refine bB rfl (fun h30 => ?_) (fun h30 => ?_)
    ·refine aK (aC (aD (aT (aD (aA (aY rfl rfl (bO rfl rfl (aB (aC (aD (aA (aQ aDb hM4 rfl rfl (fun b5 w5 M5 => (aB (aC (aD (aD (aA ?_))))))))))))))))))
     refine aY rfl rfl (aB (aC (aT (lN 11 (iI (aD (aA (cY rfl rfl rfl rfl (nU 33 rfl (by first | decide | omega) ?_)))))))))
     refine aB (aC (aD (cS rfl (aK (aC (aD (aT (aD (aA (aY rfl rfl (bO rfl rfl (aB (aC (aA ?_))))))))))))))
     refine aY rfl rfl (dV rfl rfl (aY rfl rfl (cA pG rfl rfl (fE _ (i : Int) (by omega)) ?_)))
     rintro v6 w6 ⟨rfl, hb6⟩
     have M6 := M5.callB hb6
     refine aY rfl rfl (wq (gC rfl rfl (by omega) (by omega)) rfl (wq (bQ rfl rfl (by omega) (by omega)) rfl (aV 41 (.int .i64 ((8 + 40 * i : Nat) : Int)) (iE (by omega)) (wq (fX (((8 + 40 * i : Nat) : Int)) (((n : Nat) : Int)) mE rfl ⟨_, rfl⟩ rfl (by omega) (by omega) (by omega)) rfl (cA pT rfl rfl (fZ _ _ _ _ ((ls.drop (8 + 40 * i)).take (n - (8 + 40 * i))) (Rd.subB (R.mem M6) (8 + 40 * i) (n) (by omega) (by omega) hcap) (hB.sub _ _) (by omega)) ?_)))))
     rintro v7 w7 ⟨rfl, hb7⟩
     have M7 := M6.callB hb7
     refine aV 43 (.int .u32 (eJ ls (8 + 40 * i))) (iE (hJ (by omega))) (wq (fC (0) fL rfl rfl rfl (by decide)) rfl (eD 1 (.int _ _) bZ M7 rfl rfl rfl rfl rfl rfl (fun w8 M8 => (aB (dE (aC (aA ?_)))))))
     refine wq (bQ rfl rfl (by first | decide | omega) (by first | decide | omega)) rfl (aV 45 (.int .i64 1) (iE (by first | decide | omega)) (aY rfl rfl (aB (aC (iI (kF (fr := [(0, .slice _ _ _), (2, .slice _ _ _), (3, .int .i64 0), (5, .slice _ _ _), (6, .int _ _), (7, .pointer _), (8, .int .i64 0), (28, .int _ _), (29, .int _ _), (32, .int .i64 1)]) (bM rfl (bM rfl (bM rfl (bM rfl (bM rfl (bM rfl (bM rfl (bM rfl (bM rfl (bM rfl eX)))))))))) (fun ρ9 => ?_)))))))
     refine aD (aA (cY rfl rfl rfl rfl (nU 33 rfl (by first | decide | omega) (aB (aC (aD (cS rfl (aK (aC (aD (aT (aD (aA ?_)))))))))))))
     refine aY rfl rfl (bO rfl rfl (aB (aC (aA (aY rfl rfl (dV rfl rfl (aY rfl rfl ?_)))))))
     refine cA pG rfl rfl (fE _ (i : Int) (by omega)) ?_
     rintro v10 w10 ⟨rfl, hb10⟩
     have M10 := M8.callB hb10
     refine aY rfl rfl (wq (gC rfl rfl (by omega) (by omega)) rfl (wq (bQ rfl rfl (by omega) (by omega)) rfl (aV 41 (.int .i64 ((8 + 40 * i + 4 : Nat) : Int)) (iE (by omega)) (wq (fX (((8 + 40 * i + 4 : Nat) : Int)) (((n : Nat) : Int)) mE rfl ⟨_, rfl⟩ rfl (by omega) (by omega) (by omega)) rfl (cA pT rfl rfl (fZ _ _ _ _ ((ls.drop (8 + 40 * i + 4)).take (n - (8 + 40 * i + 4))) (Rd.subB (R.mem M10) (8 + 40 * i + 4) (n) (by omega) (by omega) hcap) (hB.sub _ _) (by omega)) ?_)))))
     rintro v11 w11 ⟨rfl, hb11⟩
     have M11 := M10.callB hb11
     refine aV 43 (.int .u32 (eJ ls (8 + 40 * i + 4))) (iE (hJ (by omega))) (wq (fC (1) fL rfl rfl rfl (by decide)) rfl (eD 1 (.int _ _) bZ M11 rfl rfl rfl rfl rfl rfl (fun w12 M12 => (aB (dE (aC (aA ?_)))))))
     refine wq (bQ rfl rfl (by first | decide | omega) (by first | decide | omega)) rfl (aV 45 (.int .i64 2) (iE (by first | decide | omega)) (aY rfl rfl (aB (aC (iI (kF (fr := [(0, .slice _ _ _), (2, .slice _ _ _), (3, .int .i64 0), (5, .slice _ _ _), (6, .int _ _), (7, .pointer _), (8, .int .i64 1), (28, .int _ _), (29, .int _ _), (32, .int .i64 2)]) (bM rfl (bM rfl (bM rfl (bM rfl (bM rfl (bM rfl (bM rfl (bM rfl (bM rfl (bM rfl eX)))))))))) (fun ρ13 => ?_)))))))
     refine aD (aA (cY rfl rfl rfl rfl (nU 33 rfl (by first | decide | omega) (aB (aC (aD (cS rfl (aK (aC (aD (aT (aD (aA ?_)))))))))))))
     refine aY rfl rfl (bO rfl rfl (aB (aC (aA (aY rfl rfl (dV rfl rfl (aY rfl rfl ?_)))))))
     refine cA pG rfl rfl (fE _ (i : Int) (by omega)) ?_
     rintro v14 w14 ⟨rfl, hb14⟩
     have M14 := M12.callB hb14
     refine aY rfl rfl (wq (gC rfl rfl (by omega) (by omega)) rfl (wq (bQ rfl rfl (by omega) (by omega)) rfl (aV 41 (.int .i64 ((8 + 40 * i + 8 : Nat) : Int)) (iE (by omega)) (wq (fX (((8 + 40 * i + 8 : Nat) : Int)) (((n : Nat) : Int)) mE rfl ⟨_, rfl⟩ rfl (by omega) (by omega) (by omega)) rfl (cA pT rfl rfl (fZ _ _ _ _ ((ls.drop (8 + 40 * i + 8)).take (n - (8 + 40 * i + 8))) (Rd.subB (R.mem M14) (8 + 40 * i + 8) (n) (by omega) (by omega) hcap) (hB.sub _ _) (by omega)) ?_)))))
     rintro v15 w15 ⟨rfl, hb15⟩
     have M15 := M14.callB hb15
     refine aV 43 (.int .u32 (eJ ls (8 + 40 * i + 8))) (iE (hJ (by omega))) (wq (fC (2) fL rfl rfl rfl (by decide)) rfl (eD 1 (.int _ _) bZ M15 rfl rfl rfl rfl rfl rfl (fun w16 M16 => (aB (dE (aC (aA ?_)))))))
     refine wq (bQ rfl rfl (by first | decide | omega) (by first | decide | omega)) rfl (aV 45 (.int .i64 3) (iE (by first | decide | omega)) (aY rfl rfl (aB (aC (iI (kF (fr := [(0, .slice _ _ _), (2, .slice _ _ _), (3, .int .i64 0), (5, .slice _ _ _), (6, .int _ _), (7, .pointer _), (8, .int .i64 2), (28, .int _ _), (29, .int _ _), (32, .int .i64 3)]) (bM rfl (bM rfl (bM rfl (bM rfl (bM rfl (bM rfl (bM rfl (bM rfl (bM rfl (bM rfl eX)))))))))) (fun ρ17 => ?_)))))))
     refine aD (aA (cY rfl rfl rfl rfl (nU 33 rfl (by first | decide | omega) (aB (aC (aD (cS rfl (aK (aC (aD (aT (aD (aA ?_)))))))))))))
     refine aY rfl rfl (bO rfl rfl (aB (aC (aA (aY rfl rfl (dV rfl rfl (aY rfl rfl ?_)))))))
     refine cA pG rfl rfl (fE _ (i : Int) (by omega)) ?_
     rintro v18 w18 ⟨rfl, hb18⟩
     have M18 := M16.callB hb18
     refine aY rfl rfl (wq (gC rfl rfl (by omega) (by omega)) rfl (wq (bQ rfl rfl (by omega) (by omega)) rfl (aV 41 (.int .i64 ((8 + 40 * i + 12 : Nat) : Int)) (iE (by omega)) (wq (fX (((8 + 40 * i + 12 : Nat) : Int)) (((n : Nat) : Int)) mE rfl ⟨_, rfl⟩ rfl (by omega) (by omega) (by omega)) rfl ?_))))
     refine cA pT rfl rfl (fZ _ _ _ _ ((ls.drop (8 + 40 * i + 12)).take (n - (8 + 40 * i + 12))) (Rd.subB (R.mem M18) (8 + 40 * i + 12) (n) (by omega) (by omega) hcap) (hB.sub _ _) (by omega)) ?_
     rintro v19 w19 ⟨rfl, hb19⟩
     have M19 := M18.callB hb19
     refine aV 43 (.int .u32 (eJ ls (8 + 40 * i + 12))) (iE (hJ (by omega))) (wq (fC (3) fL rfl rfl rfl (by decide)) rfl (eD 1 (.int _ _) bZ M19 rfl rfl rfl rfl rfl rfl (fun w20 M20 => (aB (dE (aC (aA ?_)))))))
     refine wq (bQ rfl rfl (by first | decide | omega) (by first | decide | omega)) rfl (aV 45 (.int .i64 4) (iE (by first | decide | omega)) (aY rfl rfl (aB (aC (iI (kF (fr := [(0, .slice _ _ _), (2, .slice _ _ _), (3, .int .i64 0), (5, .slice _ _ _), (6, .int _ _), (7, .pointer _), (8, .int .i64 3), (28, .int _ _), (29, .int _ _), (32, .int .i64 4)]) (bM rfl (bM rfl (bM rfl (bM rfl (bM rfl (bM rfl (bM rfl (bM rfl (bM rfl (bM rfl eX)))))))))) (fun ρ21 => ?_)))))))
     refine aD (aA (cY rfl rfl rfl rfl (nU 33 rfl (by first | decide | omega) (aB (aC (aD (cS rfl (aK (aC (aD (aT (aD (aA ?_)))))))))))))
     refine aY rfl rfl (bO rfl rfl (aB (aC (aA (aY rfl rfl (dV rfl rfl (aY rfl rfl ?_)))))))
     refine cA pG rfl rfl (fE _ (i : Int) (by omega)) ?_
     rintro v22 w22 ⟨rfl, hb22⟩
     have M22 := M20.callB hb22
     refine aY rfl rfl (wq (gC rfl rfl (by omega) (by omega)) rfl (wq (bQ rfl rfl (by omega) (by omega)) rfl (aV 41 (.int .i64 ((8 + 40 * i + 16 : Nat) : Int)) (iE (by omega)) (wq (fX (((8 + 40 * i + 16 : Nat) : Int)) (((n : Nat) : Int)) mE rfl ⟨_, rfl⟩ rfl (by omega) (by omega) (by omega)) rfl ?_))))
     refine cA pT rfl rfl (fZ _ _ _ _ ((ls.drop (8 + 40 * i + 16)).take (n - (8 + 40 * i + 16))) (Rd.subB (R.mem M22) (8 + 40 * i + 16) (n) (by omega) (by omega) hcap) (hB.sub _ _) (by omega)) ?_
     rintro v23 w23 ⟨rfl, hb23⟩
     have M23 := M22.callB hb23
     refine aV 43 (.int .u32 (eJ ls (8 + 40 * i + 16))) (iE (hJ (by omega))) (wq (fC (4) fL rfl rfl rfl (by decide)) rfl (eD 1 (.int _ _) bZ M23 rfl rfl rfl rfl rfl rfl (fun w24 M24 => (aB (dE (aC (aA ?_)))))))
     refine wq (bQ rfl rfl (by first | decide | omega) (by first | decide | omega)) rfl (aV 45 (.int .i64 5) (iE (by first | decide | omega)) (aY rfl rfl (aB (aC (iI (kF (fr := [(0, .slice _ _ _), (2, .slice _ _ _), (3, .int .i64 0), (5, .slice _ _ _), (6, .int _ _), (7, .pointer _), (8, .int .i64 4), (28, .int _ _), (29, .int _ _), (32, .int .i64 5)]) (bM rfl (bM rfl (bM rfl (bM rfl (bM rfl (bM rfl (bM rfl (bM rfl (bM rfl (bM rfl eX)))))))))) (fun ρ25 => ?_)))))))
     refine aD (aA (cY rfl rfl rfl rfl (nU 33 rfl (by first | decide | omega) (aB (aC (aD (cS rfl (aK (aC (aD (aT (aD (aA ?_)))))))))))))
     refine aY rfl rfl (bO rfl rfl (aB (aC (aA (aY rfl rfl (dV rfl rfl (aY rfl rfl ?_)))))))
     refine cA pG rfl rfl (fE _ (i : Int) (by omega)) ?_
     rintro v26 w26 ⟨rfl, hb26⟩
     have M26 := M24.callB hb26
     refine aY rfl rfl (wq (gC rfl rfl (by omega) (by omega)) rfl (wq (bQ rfl rfl (by omega) (by omega)) rfl (aV 41 (.int .i64 ((8 + 40 * i + 20 : Nat) : Int)) (iE (by omega)) (wq (fX (((8 + 40 * i + 20 : Nat) : Int)) (((n : Nat) : Int)) mE rfl ⟨_, rfl⟩ rfl (by omega) (by omega) (by omega)) rfl ?_))))
     refine cA pT rfl rfl (fZ _ _ _ _ ((ls.drop (8 + 40 * i + 20)).take (n - (8 + 40 * i + 20))) (Rd.subB (R.mem M26) (8 + 40 * i + 20) (n) (by omega) (by omega) hcap) (hB.sub _ _) (by omega)) ?_
     rintro v27 w27 ⟨rfl, hb27⟩
     have M27 := M26.callB hb27
     refine aV 43 (.int .u32 (eJ ls (8 + 40 * i + 20))) (iE (hJ (by omega))) (wq (fC (5) fL rfl rfl rfl (by decide)) rfl (eD 1 (.int _ _) bZ M27 rfl rfl rfl rfl rfl rfl (fun w28 M28 => (aB (dE (aC (aA ?_)))))))
     refine wq (bQ rfl rfl (by first | decide | omega) (by first | decide | omega)) rfl (aV 45 (.int .i64 6) (iE (by first | decide | omega)) (aY rfl rfl (aB (aC (iI (kF (fr := [(0, .slice _ _ _), (2, .slice _ _ _), (3, .int .i64 0), (5, .slice _ _ _), (6, .int _ _), (7, .pointer _), (8, .int .i64 5), (28, .int _ _), (29, .int _ _), (32, .int .i64 6)]) (bM rfl (bM rfl (bM rfl (bM rfl (bM rfl (bM rfl (bM rfl (bM rfl (bM rfl (bM rfl eX)))))))))) (fun ρ29 => ?_)))))))
     refine aD (aA (cY rfl rfl rfl rfl (nU 33 rfl (by first | decide | omega) (aB (aC (aD (cS rfl (aK (aC (aD (aT (aD (aA ?_)))))))))))))
     refine aY rfl rfl (bO rfl rfl (aB (aC (aA (aY rfl rfl (dV rfl rfl (aY rfl rfl ?_)))))))
     refine cA pG rfl rfl (fE _ (i : Int) (by omega)) ?_
     rintro v30 w30 ⟨rfl, hb30⟩
     have M30 := M28.callB hb30
     refine aY rfl rfl (wq (gC rfl rfl (by omega) (by omega)) rfl (wq (bQ rfl rfl (by omega) (by omega)) rfl (aV 41 (.int .i64 ((8 + 40 * i + 24 : Nat) : Int)) (iE (by omega)) (wq (fX (((8 + 40 * i + 24 : Nat) : Int)) (((n : Nat) : Int)) mE rfl ⟨_, rfl⟩ rfl (by omega) (by omega) (by omega)) rfl ?_))))
     refine cA pT rfl rfl (fZ _ _ _ _ ((ls.drop (8 + 40 * i + 24)).take (n - (8 + 40 * i + 24))) (Rd.subB (R.mem M30) (8 + 40 * i + 24) (n) (by omega) (by omega) hcap) (hB.sub _ _) (by omega)) ?_
     rintro v31 w31 ⟨rfl, hb31⟩
     have M31 := M30.callB hb31
     refine aV 43 (.int .u32 (eJ ls (8 + 40 * i + 24))) (iE (hJ (by omega))) (wq (fC (6) fL rfl rfl rfl (by decide)) rfl (eD 1 (.int _ _) bZ M31 rfl rfl rfl rfl rfl rfl (fun w32 M32 => (aB (dE (aC (aA ?_)))))))
     refine wq (bQ rfl rfl (by first | decide | omega) (by first | decide | omega)) rfl (aV 45 (.int .i64 7) (iE (by first | decide | omega)) (aY rfl rfl (aB (aC (iI (kF (fr := [(0, .slice _ _ _), (2, .slice _ _ _), (3, .int .i64 0), (5, .slice _ _ _), (6, .int _ _), (7, .pointer _), (8, .int .i64 6), (28, .int _ _), (29, .int _ _), (32, .int .i64 7)]) (bM rfl (bM rfl (bM rfl (bM rfl (bM rfl (bM rfl (bM rfl (bM rfl (bM rfl (bM rfl eX)))))))))) (fun ρ33 => ?_)))))))
     refine aD (aA (cY rfl rfl rfl rfl (nU 33 rfl (by first | decide | omega) (aB (aC (aD (cS rfl (aK (aC (aD (aT (aD (aA ?_)))))))))))))
     refine aY rfl rfl (bO rfl rfl (aB (aC (aA (aY rfl rfl (dV rfl rfl (aY rfl rfl ?_)))))))
     refine cA pG rfl rfl (fE _ (i : Int) (by omega)) ?_
     rintro v34 w34 ⟨rfl, hb34⟩
     have M34 := M32.callB hb34
     refine aY rfl rfl (wq (gC rfl rfl (by omega) (by omega)) rfl (wq (bQ rfl rfl (by omega) (by omega)) rfl (aV 41 (.int .i64 ((8 + 40 * i + 28 : Nat) : Int)) (iE (by omega)) (wq (fX (((8 + 40 * i + 28 : Nat) : Int)) (((n : Nat) : Int)) mE rfl ⟨_, rfl⟩ rfl (by omega) (by omega) (by omega)) rfl ?_))))
     refine cA pT rfl rfl (fZ _ _ _ _ ((ls.drop (8 + 40 * i + 28)).take (n - (8 + 40 * i + 28))) (Rd.subB (R.mem M34) (8 + 40 * i + 28) (n) (by omega) (by omega) hcap) (hB.sub _ _) (by omega)) ?_
     rintro v35 w35 ⟨rfl, hb35⟩
     have M35 := M34.callB hb35
     refine aV 43 (.int .u32 (eJ ls (8 + 40 * i + 28))) (iE (hJ (by omega))) (wq (fC (7) fL rfl rfl rfl (by decide)) rfl (eD 1 (.int _ _) bZ M35 rfl rfl rfl rfl rfl rfl (fun w36 M36 => (aB (dE (aC (aA ?_)))))))
     refine wq (bQ rfl rfl (by first | decide | omega) (by first | decide | omega)) rfl (aV 45 (.int .i64 8) (iE (by first | decide | omega)) (aY rfl rfl (aB (aC (iI (kF (fr := [(0, .slice _ _ _), (2, .slice _ _ _), (3, .int .i64 0), (5, .slice _ _ _), (6, .int _ _), (7, .pointer _), (8, .int .i64 7), (28, .int _ _), (29, .int _ _), (32, .int .i64 8)]) (bM rfl (bM rfl (bM rfl (bM rfl (bM rfl (bM rfl (bM rfl (bM rfl (bM rfl (bM rfl eX)))))))))) (fun ρ37 => ?_)))))))
     refine aD (aA (cY rfl rfl rfl rfl (nU 33 rfl (by first | decide | omega) (aB (aC (aD (cS rfl (aK (aC (aD (aT (aD (aA ?_)))))))))))))
     refine aY rfl rfl (bO rfl rfl (aB (aC (aA (aY rfl rfl (dV rfl rfl (aY rfl rfl ?_)))))))
     refine cA pG rfl rfl (fE _ (i : Int) (by omega)) ?_
     rintro v38 w38 ⟨rfl, hb38⟩
     have M38 := M36.callB hb38
     refine aY rfl rfl (wq (gC rfl rfl (by omega) (by omega)) rfl (wq (bQ rfl rfl (by omega) (by omega)) rfl (aV 41 (.int .i64 ((8 + 40 * i + 32 : Nat) : Int)) (iE (by omega)) (wq (fX (((8 + 40 * i + 32 : Nat) : Int)) (((n : Nat) : Int)) mE rfl ⟨_, rfl⟩ rfl (by omega) (by omega) (by omega)) rfl ?_))))
     refine cA pT rfl rfl (fZ _ _ _ _ ((ls.drop (8 + 40 * i + 32)).take (n - (8 + 40 * i + 32))) (Rd.subB (R.mem M38) (8 + 40 * i + 32) (n) (by omega) (by omega) hcap) (hB.sub _ _) (by omega)) ?_
     rintro v39 w39 ⟨rfl, hb39⟩
     have M39 := M38.callB hb39
     refine aV 43 (.int .u32 (eJ ls (8 + 40 * i + 32))) (iE (hJ (by omega))) (wq (fC (8) fL rfl rfl rfl (by decide)) rfl (eD 1 (.int _ _) bZ M39 rfl rfl rfl rfl rfl rfl (fun w40 M40 => (aB (dE (aC (aA ?_)))))))
     refine wq (bQ rfl rfl (by first | decide | omega) (by first | decide | omega)) rfl (aV 45 (.int .i64 9) (iE (by first | decide | omega)) (aY rfl rfl (aB (aC (iI (kF (fr := [(0, .slice _ _ _), (2, .slice _ _ _), (3, .int .i64 0), (5, .slice _ _ _), (6, .int _ _), (7, .pointer _), (8, .int .i64 8), (28, .int _ _), (29, .int _ _), (32, .int .i64 9)]) (bM rfl (bM rfl (bM rfl (bM rfl (bM rfl (bM rfl (bM rfl (bM rfl (bM rfl (bM rfl eX)))))))))) (fun ρ41 => ?_)))))))
     refine aD (aA (cY rfl rfl rfl rfl (nU 33 rfl (by first | decide | omega) (aB (aC (aD (cS rfl (aK (aC (aD (aT (aD (aA ?_)))))))))))))
     refine aY rfl rfl (bO rfl rfl (aB (aC (aA (aY rfl rfl (dV rfl rfl (aY rfl rfl ?_)))))))
     refine cA pG rfl rfl (fE _ (i : Int) (by omega)) ?_
     rintro v42 w42 ⟨rfl, hb42⟩
     have M42 := M40.callB hb42
     refine aY rfl rfl (wq (gC rfl rfl (by omega) (by omega)) rfl (wq (bQ rfl rfl (by omega) (by omega)) rfl (aV 41 (.int .i64 ((8 + 40 * i + 36 : Nat) : Int)) (iE (by omega)) (wq (fX (((8 + 40 * i + 36 : Nat) : Int)) (((n : Nat) : Int)) mE rfl ⟨_, rfl⟩ rfl (by omega) (by omega) (by omega)) rfl ?_))))
     refine cA pT rfl rfl (fZ _ _ _ _ ((ls.drop (8 + 40 * i + 36)).take (n - (8 + 40 * i + 36))) (Rd.subB (R.mem M42) (8 + 40 * i + 36) (n) (by omega) (by omega) hcap) (hB.sub _ _) (by omega)) ?_
     rintro v43 w43 ⟨rfl, hb43⟩
     have M43 := M42.callB hb43
     refine aV 43 (.int .u32 (eJ ls (8 + 40 * i + 36))) (iE (hJ (by omega))) (wq (fC (9) fL rfl rfl rfl (by decide)) rfl (eD 1 (.int _ _) bZ M43 rfl rfl rfl rfl rfl rfl (fun w44 M44 => (aB (dE (aC (aA ?_)))))))
     refine wq (bQ rfl rfl (by first | decide | omega) (by first | decide | omega)) rfl (aV 45 (.int .i64 10) (iE (by first | decide | omega)) (aY rfl rfl (aB (aC (iI (kF (fr := [(0, .slice _ _ _), (2, .slice _ _ _), (3, .int .i64 0), (5, .slice _ _ _), (6, .int _ _), (7, .pointer _), (8, .int .i64 9), (28, .int _ _), (29, .int _ _), (32, .int .i64 10)]) (bM rfl (bM rfl (bM rfl (bM rfl (bM rfl (bM rfl (bM rfl (bM rfl (bM rfl (bM rfl eX)))))))))) (fun ρ45 => ?_)))))))
     refine aD (aA (cY rfl rfl rfl rfl (tS 33 rfl (by first | decide | omega) (aB (aC (aD (bY rfl (cQ ?_))))))))
     refine dC (dC (eT (aC (aA (dV rfl rfl (wq (bA 1 aKz M44 rfl rfl rfl) rfl (cA bIw rfl rfl (aEf _ _ _ _ _ _ _ _ _ _ _ (bJe hB (a := 8 + 40 * i) (by omega))) ?_)))))))
     rintro v46 w46 ⟨rfl, hb46⟩
     have M46 := M44.callB hb46
     refine aV 48 ((.agg (aF (pY ls (8 + 40 * i))).toArray)) rfl (cT [.agg (List.toArray _)] [aF (pY ls (8 + 40 * i))] rfl fG M46 rfl rfl rfl rfl (dA rfl) (by decide) (fun b47 w47 M47 => (dR 0 [aF (pY ls (8 + 40 * i))] fG M47 rfl rfl rfl rfl rfl hq rfl (by simp [aF, Go.Bil.one]) (cZ.ofMem 2 M47 rfl) (by omega) (fun A48 c48 e48 w48 M48 hR48 => ?_))))
     refine fJ rfl rfl (aB (dE (aC (aA (wq (bQ rfl rfl (by omega) (by omega)) rfl (aY rfl rfl ?_))))))
     refine aB ?_
     refine cR (i + 1, ⟨A48, q.n + 1, c48, e48⟩) (bM rfl (bM rfl eX)) (cV rfl (cV rfl (cV rfl (cV rfl kA)))) ?_ ?_
     ·exact ⟨⟨by omega, by rw [aPp, List.map_append]; exact hR48⟩, M48.keep [true, false, false]⟩
     ·(show N - (i + 1) < N - i; omega)
    ·obtain rfl : i = N := by omega
     refine cQ (dC (cX (eT (aC (aD (aD (aA (dV rfl rfl ?_))))))))
     refine cA bBw rfl rfl (zF _ _ _ _ (nG ls i) (hq.rd hM4 (aP (i := 0) rfl))) ?_
     rintro v49 w49 ⟨rfl, hb49⟩
     have M49 := hM4.callB hb49
     refine bO rfl rfl (aB (aC (aD (aA (aY rfl rfl (cY rfl rfl rfl rfl (aB (aC ?_))))))))
     refine bB rfl (fun h55 => ?_) (fun h55 => ?_)
     ·refine aD (aA (aY rfl rfl (fJ rfl rfl (bO rfl rfl (aB (aC (aO (cM (iM (.slice _ _ _) (.int _ _) rfl rfl ?_)))))))))
      have hd := aZy hfm hN h55
      exact ⟨⟨none, 0, 0, (none, default)⟩, by rw [hd], by rw [hd]; exact aU.nil _ _ _, (M49.keep [false]).dummy default⟩
     ·refine aK (aC (aD (aA (dV rfl rfl (fJ rfl rfl (bO rfl rfl (aB (aC (aO (iM (.slice _ _ _) (.int _ _) rfl rfl ?_))))))))))
      have hd := aVp hfm hN (Decidable.not_not.1 h55)
      exact ⟨q, by rw [hd], by rw [hd]; exact hq, M49⟩
set_option maxHeartbeats 4000000 in
theorem aJa (w : World) (A : Option Addr) (n c : Nat) (xs : List Int) (R : Rd w 1 A n (xs.map bI)) (B : Option Addr) (m c' : Nat) (ys : List Int) (R' : Rd w 1 B m (ys.map bI)) :
  Calls Tryz.prog 23 #[.slice A n c, .slice B m c'] w (fun ex w' => ∃ v, ex = .returned v ∧ (fun v w' => v = .bool (decide (xs = ys)) ∧ Below w.heap.size w w') v w') := by
 have hlen : xs.length = n := by simpa using R.len
 have hlen' : ys.length = m := by simpa using R'.len
 have hbd := R.bound
 have hbd' := R'.bound
 refine aH #[.tmp 4] 26 Tryz.func23 rfl Tryz.results23 Tryz.ntmps23 rfl ?_
 have M0 := Mem.refl w
 refine aD (aA (wq (aI (.bool false) rfl) rfl (aB (aC (aD (aD (aA (dV rfl rfl (wq (cN Tryz.underlying31 rfl) rfl (dV rfl rfl ?_))))))))))
 refine wq (cN Tryz.underlying31 rfl) rfl (cY rfl rfl rfl rfl (aB (aC ?_)))
 refine bB rfl (fun h10 => ?_) (fun h10 => ?_)
 ·refine aD (aA (wq (aI (.bool false) rfl) rfl (aB (aC (aO (cM (cD (.bool false) rfl ?_)))))))
  exact ⟨bF (fun e => h10 (by rw [← hlen, ← hlen', e])), M0.below⟩
 ·have hnm : n = m := by omega
  refine aK (aC (aD (aD (aA (bO rfl rfl (aB (aC (aT (dL (σ := Nat) [0, 1] (fun k => [(5, .int .i64 (k : Int))]) (fun k w' => (k ≤ n ∧ ∀ (j : Nat) (x : Int), j < k → xs[j]? = some x → ys[j]? = some x) ∧ Mem w [] [] w') (fun k => n - k) 0 (bM rfl eX) (⟨⟨by omega, fun j c hj => by omega⟩, M0⟩) ?_)))))))))
  rintro k ρ1 w1 ⟨⟨hk, hne⟩, hM1⟩
  refine aD (aD (aA (aY rfl rfl (dV rfl rfl (wq (cN Tryz.underlying31 rfl) rfl (cY rfl rfl rfl rfl (aB (aC ?_))))))))
  refine bB rfl (fun h14 => ?_) (fun h14 => ?_)
  ·obtain ⟨xb, hxb⟩ := cI (xs := xs) (k := k) hlen (by omega)
   obtain ⟨yb, hyb⟩ := cI (xs := ys) (k := k) hlen' (by omega)
   refine aK (aC (aD (aT (aD (bP [(0, 0), (1, 0), (2, 1), (3, 1), (4, 0), (5, 0), (6, 1), (7, 1), (8, 0)] mixed rfl (by kernel_rfl) (fun w2 hb2 hh2 => ?_))))))
   have M2 := hM1.drew hb2 hh2
   refine xG rfl rfl rfl (gR rfl rfl rfl (bW rfl rfl rfl (bR (k) mE rfl rfl rfl ((R.mem M2).below_len (aJ bI hxb)) ((R.mem M2).someK (aJ bI hxb))) (bW rfl rfl rfl (iA (.int _ _) aPt (R.mem M2) (aJ bI hxb) rfl) (xG rfl rfl rfl (gR rfl rfl rfl ?_)))))
   refine bW rfl rfl rfl (bR (k) mE rfl rfl rfl ((R'.mem M2).below_len (aJ bI hyb)) ((R'.mem M2).someK (aJ bI hyb))) (bW rfl rfl rfl (iA (.int _ _) aPt (R'.mem M2) (aJ bI hyb) rfl) (aX rfl rfl rfl (fun _ => dY (.bool (decide _)) rfl rfl rfl) (cE (aC ?_))))
   refine bB rfl (fun h25 => ?_) (fun h25 => ?_)
   ·refine aD (aA (wq (aI (.bool false) rfl) rfl (aB (aC (aO (jS (cM (uE ?_))))))))
    refine jS (cM (cD (.bool false) rfl ?_))
    exact ⟨bF (fun e => h25 (by rw [e] at hxb; rw [hxb] at hyb; injection hyb)), M2.below⟩
   ·refine aK (dE (aC (aA (aY rfl rfl (wq (bQ rfl rfl (by omega) (by omega)) rfl (bO rfl rfl ?_))))))
    refine aB ?_
    refine cR (k + 1) (bM rfl eX) (cV rfl (cV rfl kA)) ?_ ?_
    ·exact ⟨⟨by omega, qU (p := fun j x => ys[j]? = some x) hne hxb (by rw [hyb, Decidable.not_not.1 h25])⟩, M2⟩
    ·omega
  ·refine cQ (dC (cX (eT (aC (aD (aA (wq (aI (.bool true) rfl) rfl ?_)))))))
   refine aB (aC (aO (cD (.bool true) rfl ?_)))
   exact ⟨bT (aUv hlen hlen' hnm (fun j x hj hx => hne j x (by omega) hx)), hM1.below⟩
end Go.Proofs.YtaoaknafiegfoaaGreatDoor
