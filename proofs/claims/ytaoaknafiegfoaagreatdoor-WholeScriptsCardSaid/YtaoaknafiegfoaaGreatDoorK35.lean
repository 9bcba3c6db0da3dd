/- Part of the proof of the laws of this seat: SW, C21a, C21b, R21a, R21b, R21c. No conditions. -/
import Derived.Test.YtaoaknafiegfoaaGreatDoorK2
import Derived.Test.YtaoaknafiegfoaaGreatDoorK5
import Derived.Test.YtaoaknafiegfoaaGreatDoorK22
import Derived.Test.YtaoaknafiegfoaaGreatDoorK34
import Derived.Test.YtaoaknafiegfoaaGreatDoorK33
import Derived.Test.YtaoaknafiegfoaaGreatDoorK6
import Derived.Test.YtaoaknafiegfoaaGreatDoorK24
import Derived.Test.YtaoaknafiegfoaaGreatDoorK13
import Derived.Test.YtaoaknafiegfoaaGreatDoorK17
import Derived.Test.YtaoaknafiegfoaaGreatDoorK11
set_option linter.unusedVariables false
set_option linter.unusedSimpArgs false
set_option linter.unnecessarySimpa false
namespace Go.Proofs.YtaoaknafiegfoaaGreatDoor
open Go.Bil
open Go.RowKit (Below)
open Go.Proofs
set_option maxHeartbeats 4000000 in
theorem aSx (w : World) (b : Nat) (A : Option Addr) (n c : Nat) (p : Option Nat) (er em : eZ) (m : List Body) (hs : StoreIs 39 A n c p er em m) (hO : Own [(some b, bc [.slice A n c, .map p] 107), er, em] w) (x : Body) :
  Calls Tryz.prog 61 #[.pointer (some ⟨b, 0, none⟩), (.agg (aF x).toArray)] w (fun ex w' => ∃ v, ex = .returned v ∧ (fun v w' => v = .int .i64 (nT m x).2 ∧ ∃ A' n' c' p' er' em', StoreIs 39 A' n' c' p' er' em' (nT m x).1 ∧ Mem w (cE [(some b, bc [.slice A n c, .map p] 107), er, em]) [(some b, bc [.slice A' n' c', .map p'] 107), er', em'] w') v w') := by
 have hlen : m.length = n := by simpa using hs.row.1
 have hcap := hs.cap
 refine aI #[.tmp 4] 62 Tryz.func61 rfl Tryz.results61 Tryz.ntmps61 rfl ?_
 have M0 := hO.mem
 refine aE (aA (bK (.agg (List.toArray _)) M0 rfl rfl rfl (fun b1 w1 M1 => (bI rfl rfl (aB (aC (aE (aE (aA (wq (aH (.pointer _) rfl) rfl (wq (gD false Tryz.underlying162 rfl rfl) rfl ?_)))))))))))
 refine aB (aC (cJ rfl (aL (aC (aE (aE (aA (wq (aX 3 bO M1 rfl rfl rfl) rfl (bY aQq rfl rfl (vY _ x) ?_)))))))))
 rintro v2 w2 ⟨rfl, hb2⟩
 have M2 := M1.callB hb2
 refine bI rfl rfl (aB (aC (aE (aA (aP rfl rfl (cZ rfl rfl rfl rfl (aB (aC ?_))))))))
 refine aW rfl (fun h13 => ?_) (fun h13 => ?_)
 ·refine aE (aA (aP rfl rfl (bI rfl rfl (aB (aC (aO (cM (cD (.int _ _) rfl ?_))))))))
  have ha : nT m x = (m, check x) := by unfold nT; rw [if_pos h13]
  exact ⟨by rw [ha], A, n, c, p, er, em, by rw [ha]; exact hs, M2.keep [true, true, true, false]⟩
 ·refine aL (aC (aE (aE (bQ [(0, 0), (1, 0), (2, 0), (3, 1), (4, 0), (5, 1), (6, 1), (7, 0), (8, 0), (9, 0), (10, 0), (11, 0)] mixed rfl (by kernel_rfl) (fun w3 hb3 hh3 => ?_)))))
  have M3 := M2.drew hb3 hh3
  refine aV rfl rfl rfl (fun _ => aH (.pointer _) rfl) (aV rfl rfl rfl (fun _ => bE rfl) (aV rfl rfl rfl (fun _ => aD 1 lE rfl) (bS rfl rfl rfl (aM 0 (.map _) qE M3 rfl rfl rfl) (aV rfl rfl rfl (fun _ => aD 0 dL rfl) (bS rfl rfl rfl (aM 3 (.int _ _) bW M3 rfl rfl rfl) ?_)))))
  refine bS rfl rfl rfl (kE (enc := (Value.int .i64)) 0 2 sQ zv3 M3 rfl hs.map rfl rfl) (aV rfl rfl rfl (fun _ => aH (.tuple (List.toArray _)) rfl) (aV rfl rfl rfl (fun _ => bN (.int _ _) rfl rfl) (aV rfl rfl rfl (fun _ => bN (.bool _) rfl rfl) (mA rfl rfl rfl (aV rfl rfl rfl (fun _ => aJ (.bool _) rfl) ?_)))))
  refine bX (aC (aE (aA (wq (aH (.bool _) rfl) rfl (aB (aC ?_))))))
  refine iG _ rfl (fun h25 => ?_) (fun h25 => ?_)
  ·have hf : 0 ≤ dI x.key m := by rw [aFl] at h25; exact of_decide_eq_true h25
   refine aE (aA (bI rfl rfl (aB (aC (aO (cM (cD (.int _ _) rfl ?_)))))))
   have ha : nT m x = (m, 10) := by unfold nT; rw [if_neg h13, if_pos hf]
   exact ⟨by rw [ha], A, n, c, p, er, em, by rw [ha]; exact hs, M3.keep [true, true, true, false]⟩
  ·have hf : ¬ (0 ≤ dI x.key m) := fun h => by rw [aFl, decide_eq_true h] at h25; simp at h25
   refine aL (aC (aE (aE (aA (wq (aH (.pointer _) rfl) rfl (wq (bE rfl) rfl (wq (aD 0 gY rfl) rfl (wq (aM 0 (.slice _ _ _) fX M3 rfl rfl rfl) rfl (wq (dC Tryz.underlying29 rfl) rfl ?_)))))))))
   refine cZ rfl rfl rfl rfl (aB (aC ?_))
   refine aW rfl (fun h31 => ?_) (fun h31 => ?_)
   ·refine aE (aA (bI rfl rfl (aB (aC (aO (cM (cD (.int _ _) rfl ?_)))))))
    have ha : nT m x = (m, 12) := by unfold nT; rw [if_neg h13, if_neg hf, if_pos (by omega)]
    exact ⟨by rw [ha], A, n, c, p, er, em, by rw [ha]; exact hs, M3.keep [true, true, true, false]⟩
   ·refine aL (aC (aE (aE (aA (wq (aH (.pointer _) rfl) rfl (wq (bE rfl) rfl (wq (aD 1 lE rfl) rfl (wq (aM 0 (.map _) qE M3 rfl rfl rfl) rfl (wq (aSe _ Tryz.underlying101 rfl rfl) rfl ?_)))))))))
    refine aB (aC ?_)
    refine iG _ rfl (fun h36 => ?_) (fun h36 => ?_)
    ·have hpn : p = none := by cases p <;> simp_all
     have hnone : ∀ k, wH m k = (fun _ => none) k := fun k => by subst hpn; rcases hs.map with ⟨_, _, h⟩ | ⟨_, _, h, _⟩; exact h k; cases h
     refine aA (wq (aH (.pointer _) rfl) rfl (mT M3 rfl rfl (fun b4 w4 M4 => ?_)))
     have M5 := M4.replace (i := 2) (Nat.le_of_ble_eq_true rfl)
     refine wq (bE rfl) rfl (wq (aD 1 lE rfl) rfl (dD 0 (.map _) qE M5 rfl rfl rfl rfl rfl rfl (fun w6 M6 => (aB (aC (aE (bQ [(0, 0), (1, 0), (2, 0), (3, 1), (4, 0), (5, 1), (6, 0), (7, 0), (8, 0), (9, 1), (10, 0), (11, 2)] mixed rfl (by kernel_rfl) (fun w7 hb7 hh7 => ?_))))))))
     have M7 := M6.drew hb7 hh7
     refine aV rfl rfl rfl (fun _ => aH (.pointer _) rfl) (aV rfl rfl rfl (fun _ => bE rfl) (aV rfl rfl rfl (fun _ => aD 1 lE rfl) (bS rfl rfl rfl (aM 0 (.map _) qE M7 rfl rfl rfl) (aV rfl rfl rfl (fun _ => aD 0 dL rfl) (bS rfl rfl rfl (aM 3 (.int _ _) bW M7 rfl rfl rfl) ?_)))))
     refine aV rfl rfl rfl (fun _ => aH (.pointer _) rfl) (aV rfl rfl rfl (fun _ => bE rfl) (aV rfl rfl rfl (fun _ => aD 0 gY rfl) (bS rfl rfl rfl (aM 0 (.slice _ _ _) fX M7 rfl rfl rfl) (aV rfl rfl rfl (fun _ => dC Tryz.underlying29 rfl) (dT [true, true, true] rfl (by kernel_rfl) ?_)))))
     refine kN (enc := (Value.int .i64)) 2 sQ M7 rfl rfl ((kG.empty _ _ b4).congr hnone) rfl rfl rfl rfl (fun e8 w8 hm8 M8 => ?_)
     refine aB (aC ⟨dU, ?_⟩)
     refine bX (aC (aE (bQ [(0, 0), (1, 0), (2, 0), (3, 0), (4, 1), (5, 1), (6, 2), (7, 2), (8, 0), (9, 0), (10, 2)] mixed rfl (by kernel_rfl) (fun w9 hb9 hh9 => ?_))))
     have M9 := M8.drew hb9 hh9
     refine aV rfl rfl rfl (fun _ => aH (.pointer _) rfl) (aV rfl rfl rfl (fun _ => aH (.pointer _) rfl) (aV rfl rfl rfl (fun _ => bE rfl) (aV rfl rfl rfl (fun _ => aD 0 gY rfl) (bS rfl rfl rfl (aM 0 (.slice _ _ _) fX M9 rfl rfl rfl) (bS rfl rfl rfl (aX 3 bO M9 rfl rfl rfl) ?_)))))
     refine dT [true, false] rfl (by kernel_rfl) (cT [.agg (List.toArray _)] _ rfl dH M9 rfl rfl rfl rfl (dG rfl) (by decide) (fun b10 w10 M10 => ?_))
     refine aB (aC ⟨(dZ (bM rfl (aM 0 (.slice _ _ _) fX M10 rfl rfl rfl)) dU), ?_⟩)
     refine dT [true] rfl (by kernel_rfl) (dJ 1 [aF x] dH M10 rfl rfl rfl rfl rfl hs.row rfl (by simpa using ⟨iA x, iB x⟩) (dW.ofMem 4 M10 rfl) (by omega) (fun A11 c11 e11 w11 M11 hR11 => ?_))
     refine aB (aC ⟨dU, ?_⟩)
     refine aV rfl rfl rfl (fun _ => bE rfl) (aV rfl rfl rfl (fun _ => aD 0 gY rfl) (dT [] rfl (by kernel_rfl) (dD 0 (.slice _ _ _) fX M11 rfl rfl rfl rfl rfl rfl (fun w12 M12 => ?_))))
     refine aB (aC ⟨dU, ?_⟩)
     refine bX (aC (aE (aA (bI rfl rfl (aB (aC (aO (cD (.int _ _) rfl ?_))))))))
     have ha : nT m x = (m ++ [x], 0) := by unfold nT; rw [if_neg h13, if_neg hf, if_neg (by omega)]
     have hall := aKp (x := x) ⟨hs.keys, hs.cap, hs.ok⟩
     rw [ha] at hall
     obtain ⟨hk', hc', ho'⟩ := hall
     have hix := aLi hs.keys (x := x) (by omega)
     rw [hlen] at hix
     exact ⟨by rw [ha], _, _, _, _, _, _, by rw [ha]; exact ⟨(by simpa using hR11), (hm8.congr hix), hk', hc', ho'⟩, M12.keep [true, true, true, false, false]⟩
    ·have hps : p.isSome = true := by cases p <;> simp_all
     refine aL (aC (aE (bQ [(0, 0), (1, 0), (2, 0), (3, 1), (4, 0), (5, 1), (6, 0), (7, 0), (8, 0), (9, 1), (10, 0), (11, 2)] mixed rfl (by kernel_rfl) (fun w13 hb13 hh13 => ?_))))
     have M13 := M3.drew hb13 hh13
     refine aV rfl rfl rfl (fun _ => aH (.pointer _) rfl) (aV rfl rfl rfl (fun _ => bE rfl) (aV rfl rfl rfl (fun _ => aD 1 lE rfl) (bS rfl rfl rfl (aM 0 (.map _) qE M13 rfl rfl rfl) (aV rfl rfl rfl (fun _ => aD 0 dL rfl) (bS rfl rfl rfl (aM 3 (.int _ _) bW M13 rfl rfl rfl) ?_)))))
     refine aV rfl rfl rfl (fun _ => aH (.pointer _) rfl) (aV rfl rfl rfl (fun _ => bE rfl) (aV rfl rfl rfl (fun _ => aD 0 gY rfl) (bS rfl rfl rfl (aM 0 (.slice _ _ _) fX M13 rfl rfl rfl) (aV rfl rfl rfl (fun _ => dC Tryz.underlying29 rfl) (dT [true, true, true] rfl (by kernel_rfl) ?_)))))
     refine kN (enc := (Value.int .i64)) 2 sQ M13 rfl rfl hs.map hps rfl rfl rfl (fun e14 w14 hm14 M14 => ?_)
     refine aB (aC ⟨dU, ?_⟩)
     refine bX (aC (aE (bQ [(0, 0), (1, 0), (2, 0), (3, 0), (4, 1), (5, 1), (6, 2), (7, 2), (8, 0), (9, 0), (10, 2)] mixed rfl (by kernel_rfl) (fun w15 hb15 hh15 => ?_))))
     have M15 := M14.drew hb15 hh15
     refine aV rfl rfl rfl (fun _ => aH (.pointer _) rfl) (aV rfl rfl rfl (fun _ => aH (.pointer _) rfl) (aV rfl rfl rfl (fun _ => bE rfl) (aV rfl rfl rfl (fun _ => aD 0 gY rfl) (bS rfl rfl rfl (aM 0 (.slice _ _ _) fX M15 rfl rfl rfl) (bS rfl rfl rfl (aX 3 bO M15 rfl rfl rfl) ?_)))))
     refine dT [true, false] rfl (by kernel_rfl) (cT [.agg (List.toArray _)] _ rfl dH M15 rfl rfl rfl rfl (dG rfl) (by decide) (fun b16 w16 M16 => ?_))
     refine aB (aC ⟨(dZ (bM rfl (aM 0 (.slice _ _ _) fX M16 rfl rfl rfl)) dU), ?_⟩)
     refine dT [true] rfl (by kernel_rfl) (dJ 1 [aF x] dH M16 rfl rfl rfl rfl rfl hs.row rfl (by simpa using ⟨iA x, iB x⟩) (dW.ofMem 4 M16 rfl) (by omega) (fun A17 c17 e17 w17 M17 hR17 => ?_))
     refine aB (aC ⟨dU, ?_⟩)
     refine aV rfl rfl rfl (fun _ => bE rfl) (aV rfl rfl rfl (fun _ => aD 0 gY rfl) (dT [] rfl (by kernel_rfl) (dD 0 (.slice _ _ _) fX M17 rfl rfl rfl rfl rfl rfl (fun w18 M18 => ?_))))
     refine aB (aC ⟨dU, ?_⟩)
     refine bX (aC (aE (aA (bI rfl rfl (aB (aC (aO (cD (.int _ _) rfl ?_))))))))
     have ha : nT m x = (m ++ [x], 0) := by unfold nT; rw [if_neg h13, if_neg hf, if_neg (by omega)]
     have hall := aKp (x := x) ⟨hs.keys, hs.cap, hs.ok⟩
     rw [ha] at hall
     obtain ⟨hk', hc', ho'⟩ := hall
     have hix := aLi hs.keys (x := x) (by omega)
     rw [hlen] at hix
     exact ⟨by rw [ha], _, _, _, _, _, _, by rw [ha]; exact ⟨(by simpa using hR17), (hm14.congr hix), hk', hc', ho'⟩, M18.keep [true, true, true, false, false]⟩
set_option maxHeartbeats 4000000 in
theorem bHv (w : World) (b : Nat) (A : Option Addr) (n c : Nat) (p : Option Nat) (er em : eZ) (m : List Body) (hs : StoreIs 39 A n c p er em m) (hO : Own [(some b, bc [.slice A n c, .map p] 107), er, em] w) (key : Int) :
  Calls Tryz.prog 117 #[.pointer (some ⟨b, 0, none⟩), .int .u32 key] w (fun ex w' => ∃ v, ex = .returned v ∧ (fun v w' => (∃ x, v = .tuple #[.agg (aF x).toArray, .int .i64 (aDb m key).2] ∧ x = (aDb m key).1) ∧ Mem w (cE [(some b, bc [.slice A n c, .map p] 107), er, em]) [(some b, bc [.slice A n c, .map p] 107), er, em] w') v w') := by
 have hlen : m.length = n := by simpa using hs.row.1
 have hcap := hs.cap
 refine aI #[.cell 4 39, .tmp 5] 30 Tryz.func117 rfl Tryz.results117 Tryz.ntmps117 rfl ?_
 have M0 := hO.mem
 refine aE (aA (aS fN M0 rfl rfl (fun b1 w1 M1 => (bI rfl rfl (aB (aC (aE (aE (aA (wq (aH (.pointer _) rfl) rfl (wq (gD false Tryz.underlying162 rfl rfl) rfl ?_)))))))))))
 refine aB (aC (cJ rfl (aL (aC (aE (aA (wq (aH (.pointer _) rfl) rfl (wq (bE rfl) rfl (wq (aD 1 lE rfl) rfl ?_)))))))))
 refine wq (aM 0 (.map _) qE M1 rfl rfl rfl) rfl (aP rfl rfl (wq (kE (enc := (Value.int .i64)) 0 2 sQ zv3 M1 rfl hs.map rfl rfl) rfl (wq (aH (.tuple (List.toArray _)) rfl) rfl (wq (bN (.int _ _) rfl rfl) rfl (wq (bN (.bool _) rfl rfl) rfl ?_)))))
 refine bI rfl rfl (wq (aJ (.bool _) rfl) rfl (aB (aC (aE (aE (aA (wq (aH (.bool _) rfl) rfl (wq (gG _ rfl rfl) rfl (aB (aC ?_))))))))))
 refine iG _ rfl (fun h21 => ?_) (fun h21 => ?_)
 ·have hi : wH m key = none := by cases h : wH m key <;> simp_all
  refine aE (aA (wq (cC [] _ sT rfl rfl) rfl (bG 3 _ bO M1 rfl rfl rfl rfl rfl (aR rfl) rfl (fun w2 M2 => (bI rfl rfl (aB (aC (aO (cM (tR (v2 := .int _ _) 3 bO M2 rfl rfl rfl rfl ?_))))))))))
  exact ⟨⟨⟨0, 0, 0, 0, 0, 0, 0, 0, 0, 0⟩, by rw [aHf hi]; rfl, by rw [aHf hi]⟩, M2.keep [true, true, true, false]⟩
 ·rcases mX key m with ⟨hi, _⟩ | ⟨i, bi, hbi, hbk, hi⟩
  ·simp [hi] at h21
  refine aL (aC (aE (aA (wq (aH (.pointer _) rfl) rfl (wq (bE rfl) rfl (wq (aD 0 gY rfl) rfl (wq (aM 0 (.slice _ _ _) fX M1 rfl rfl rfl) rfl (aP rfl rfl ?_))))))))
  refine wq (bP (i) dH rfl rfl (by rw [hi]; rfl) ((hs.row.rd M1 (bH (i := 1) rfl)).below_len (aG aF hbi)) ((hs.row.rd M1 (bH (i := 1) rfl)).someK (aG aF hbi))) rfl (wq (dN _ bO (hs.row.rd M1 (bH (i := 1) rfl)) (aG aF hbi) rfl) rfl (bG 3 _ bO M1 rfl rfl rfl rfl rfl (aR rfl) rfl (fun w3 M3 => ?_)))
  refine bI rfl rfl (aB (aC (aO (tR (v2 := .int _ _) 3 bO M3 rfl rfl rfl rfl ?_))))
  exact ⟨⟨bi, by rw [yS hi hbi], by rw [yS hi hbi]⟩, M3.keep [true, true, true, false]⟩
set_option maxHeartbeats 4000000 in
theorem bId (w : World) (b : Nat) (A : Option Addr) (n c : Nat) (p : Option Nat) (er em : eZ) (m : List Body) (hs : StoreIs 39 A n c p er em m) (hO : Own [(some b, bc [.slice A n c, .map p] 107), er, em] w) (x : Body) :
  Calls Tryz.prog 125 #[.pointer (some ⟨b, 0, none⟩), (.agg (aF x).toArray)] w (fun ex w' => ∃ v, ex = .returned v ∧ (fun v w' => v = .int .i64 (sL m x).2 ∧ ∃ A' n' c' p' er' em', StoreIs 39 A' n' c' p' er' em' (sL m x).1 ∧ Mem w (cE [(some b, bc [.slice A n c, .map p] 107), er, em]) [(some b, bc [.slice A' n' c', .map p'] 107), er', em'] w') v w') := by
 have hlen : m.length = n := by simpa using hs.row.1
 have hcap := hs.cap
 refine aI #[.tmp 4] 34 Tryz.func125 rfl Tryz.results125 Tryz.ntmps125 rfl ?_
 have M0 := hO.mem
 refine aE (aA (bK (.agg (List.toArray _)) M0 rfl rfl rfl (fun b1 w1 M1 => (bI rfl rfl (aB (aC (aE (aE (aA (wq (aH (.pointer _) rfl) rfl (wq (gD false Tryz.underlying162 rfl rfl) rfl ?_)))))))))))
 refine aB (aC (cJ rfl (aL (aC (aE (aE (aA (wq (aX 3 bO M1 rfl rfl rfl) rfl (bY aQq rfl rfl (vY _ x) ?_)))))))))
 rintro v2 w2 ⟨rfl, hb2⟩
 have M2 := M1.callB hb2
 refine bI rfl rfl (aB (aC (aE (aA (aP rfl rfl (cZ rfl rfl rfl rfl (aB (aC ?_))))))))
 refine aW rfl (fun h13 => ?_) (fun h13 => ?_)
 ·refine aE (aA (aP rfl rfl (bI rfl rfl (aB (aC (aO (cM (cD (.int _ _) rfl ?_))))))))
  have ha : sL m x = (m, check x) := by unfold sL; rw [if_pos h13]
  exact ⟨by rw [ha], A, n, c, p, er, em, by rw [ha]; exact hs, M2.keep [true, true, true, false]⟩
 ·refine aL (aC (aE (bQ [(0, 0), (1, 0), (2, 0), (3, 1), (4, 0), (5, 1), (6, 1), (7, 0), (8, 0), (9, 0), (10, 0), (11, 0)] mixed rfl (by kernel_rfl) (fun w3 hb3 hh3 => ?_))))
  have M3 := M2.drew hb3 hh3
  refine aV rfl rfl rfl (fun _ => aH (.pointer _) rfl) (aV rfl rfl rfl (fun _ => bE rfl) (aV rfl rfl rfl (fun _ => aD 1 lE rfl) (bS rfl rfl rfl (aM 0 (.map _) qE M3 rfl rfl rfl) (aV rfl rfl rfl (fun _ => aD 0 dL rfl) (bS rfl rfl rfl (aM 3 (.int _ _) bW M3 rfl rfl rfl) ?_)))))
  refine bS rfl rfl rfl (kE (enc := (Value.int .i64)) 0 2 sQ zv3 M3 rfl hs.map rfl rfl) (aV rfl rfl rfl (fun _ => aH (.tuple (List.toArray _)) rfl) (aV rfl rfl rfl (fun _ => bN (.int _ _) rfl rfl) (aV rfl rfl rfl (fun _ => bN (.bool _) rfl rfl) (mA rfl rfl rfl (aV rfl rfl rfl (fun _ => aJ (.bool _) rfl) ?_)))))
  refine bX (aC (aE (aE (aA (wq (aH (.bool _) rfl) rfl (wq (gG _ rfl rfl) rfl (aB (aC ?_))))))))
  refine iG _ rfl (fun h26 => ?_) (fun h26 => ?_)
  ·have hi : wH m x.key = none := by cases h : wH m x.key <;> simp_all
   refine aE (aA (bI rfl rfl (aB (aC (aO (cM (cD (.int _ _) rfl ?_)))))))
   have ha : sL m x = (m, 11) := by unfold sL; rw [if_neg h13, if_pos (by rw [kS, hi]; decide)]
   exact ⟨by rw [ha], A, n, c, p, er, em, by rw [ha]; exact hs, M3.keep [true, true, true, false]⟩
  ·rcases mX x.key m with ⟨hi, _⟩ | ⟨i, bi, hbi, hbk, hi⟩
   ·simp [hi] at h26
   refine aL (aC (aE (bQ [(0, 0), (1, 0), (2, 0), (3, 1), (4, 0), (5, 1), (6, 1), (7, 2)] mixed rfl (by kernel_rfl) (fun w4 hb4 hh4 => ?_))))
   have M4 := M3.drew hb4 hh4
   refine aV rfl rfl rfl (fun _ => aH (.pointer _) rfl) (aV rfl rfl rfl (fun _ => bE rfl) (aV rfl rfl rfl (fun _ => aD 0 gY rfl) (bS rfl rfl rfl (aM 0 (.slice _ _ _) fX M4 rfl rfl rfl) (eF rfl rfl rfl (bS rfl rfl rfl (aX 3 bO M4 rfl rfl rfl) ?_)))))
   refine bS rfl rfl rfl (bP (i) dH rfl rfl (by rw [hi]; rfl) ((hs.row.rd M4 (bH (i := 1) rfl)).below_len (aG aF hbi)) ((hs.row.rd M4 (bH (i := 1) rfl)).someK (aG aF hbi))) (dT [true, true, true] rfl (by kernel_rfl) (aIz 1 _ bO M4 rfl hs.row (aG aF hbi) rfl rfl rfl rfl (aR rfl) (fun e5 w5 hR5 M5 => ?_)))
   have hQ5 := hR5.mapSet (f := aF) (x := x) rfl
   refine aB (aC ⟨dU, ?_⟩)
   refine bX (aC (aE (aA (bI rfl rfl (aB (aC (aO (cD (.int _ _) rfl ?_))))))))
   have ha : sL m x = (m.set i x, 0) := by unfold sL; rw [if_neg h13, kS, hi]; simp only []; rw [if_neg (by omega), Int.toNat_natCast]
   exact ⟨by rw [ha], _, _, _, _, _, _, by rw [ha]; exact hs.put hbi hbk.symm (by omega) hQ5, M5.keep [true, true, true, false]⟩
set_option maxHeartbeats 4000000 in
theorem aRi (w : World) (b : Nat) (A : Option Addr) (n c : Nat) (p : Option Nat) (er em : eZ) (m : List Body) (hs : StoreIs 39 A n c p er em m) (hO : Own [(some b, bc [.slice A n c, .map p] 107), er, em] w) (key : Int) :
  Calls Tryz.prog 122 #[.pointer (some ⟨b, 0, none⟩), .int .u32 key] w (fun ex w' => ∃ v, ex = .returned v ∧ (fun v w' => v = .int .i64 (lG m key).2 ∧ ∃ A' n' c' p' er' em', StoreIs 39 A' n' c' p' er' em' (lG m key).1 ∧ Mem w (cE [(some b, bc [.slice A n c, .map p] 107), er, em]) [(some b, bc [.slice A' n' c', .map p'] 107), er', em'] w') v w') := by
 have hlen : m.length = n := by simpa using hs.row.1
 have hcap := hs.cap
 refine aI #[.tmp 4] 67 Tryz.func122 rfl Tryz.results122 Tryz.ntmps122 rfl ?_
 have M0 := hO.mem
 refine aE (aA (bI rfl rfl (aB (aC (aE (aE (aA (wq (aH (.pointer _) rfl) rfl (wq (gD false Tryz.underlying162 rfl rfl) rfl (aB (aC ?_)))))))))))
 refine cJ rfl (aL (aC (aE (aA (wq (aH (.pointer _) rfl) rfl (wq (bE rfl) rfl (wq (aD 1 lE rfl) rfl (wq (aM 0 (.map _) qE M0 rfl rfl rfl) rfl ?_))))))))
 refine aP rfl rfl (wq (kE (enc := (Value.int .i64)) 0 2 sQ zv3 M0 rfl hs.map rfl rfl) rfl (wq (aH (.tuple (List.toArray _)) rfl) rfl (wq (bN (.int _ _) rfl rfl) rfl (wq (bN (.bool _) rfl rfl) rfl (bI rfl rfl ?_)))))
 refine wq (aJ (.bool _) rfl) rfl (aB (aC (aE (aE (aA (wq (aH (.bool _) rfl) rfl (wq (gG _ rfl rfl) rfl (aB (aC ?_)))))))))
 refine iG _ rfl (fun h20 => ?_) (fun h20 => ?_)
 ·have hi : wH m key = none := by cases h : wH m key <;> simp_all
  refine aE (aA (bI rfl rfl (aB (aC (aO (cM (cD (.int _ _) rfl ?_)))))))
  have ha : lG m key = (m, 11) := by unfold lG; rw [if_pos (by rw [kS, hi]; decide)]
  exact ⟨by rw [ha], A, n, c, p, er, em, by rw [ha]; exact hs, M0.keep [true, true, true]⟩
 ·rcases mX key m with ⟨hi, _⟩ | ⟨i, bi, hbi, hbk, hi⟩
  ·simp [hi] at h20
  have hilt : i < m.length := (List.getElem?_eq_some_iff.1 hbi).1
  obtain ⟨bl, hbl⟩ := cS (xs := m) (k := n - 1) rfl (by omega)
  have hps : p.isSome = true := hs.map.isSome hi
  refine aL (aC (aE (aA (wq (aH (.pointer _) rfl) rfl (wq (bE rfl) rfl (wq (aD 0 gY rfl) rfl (wq (aM 0 (.slice _ _ _) fX M0 rfl rfl rfl) rfl (wq (dC Tryz.underlying29 rfl) rfl ?_))))))))
  refine wq (fU rfl rfl (by omega) (by omega)) rfl (bI rfl rfl (aB (aC (aE (bQ [(0, 0), (1, 0), (2, 0), (3, 1), (4, 0), (5, 0), (6, 0), (7, 0), (8, 1), (9, 0), (10, 1), (11, 1), (12, 1), (13, 2)] mixed rfl (by kernel_rfl) (fun w1 hb1 hh1 => ?_))))))
  have M1 := M0.drew hb1 hh1
  refine aV rfl rfl rfl (fun _ => aH (.pointer _) rfl) (aV rfl rfl rfl (fun _ => bE rfl) (aV rfl rfl rfl (fun _ => aD 0 gY rfl) (bS rfl rfl rfl (aM 0 (.slice _ _ _) fX M1 rfl rfl rfl) (eF rfl rfl rfl (aV rfl rfl rfl (fun _ => aH (.pointer _) rfl) ?_)))))
  refine aV rfl rfl rfl (fun _ => bE rfl) (aV rfl rfl rfl (fun _ => aD 0 gY rfl) (bS rfl rfl rfl (aM 0 (.slice _ _ _) fX M1 rfl rfl rfl) (eF rfl rfl rfl (bS rfl rfl rfl (bP (n - 1) dH rfl rfl (by omega) ((hs.row.rd M1 (bH (i := 1) rfl)).below_len (aG aF hbl)) ((hs.row.rd M1 (bH (i := 1) rfl)).someK (aG aF hbl))) ?_))))
  refine bS rfl rfl rfl (dN _ bO (hs.row.rd M1 (bH (i := 1) rfl)) (aG aF hbl) rfl) (bS rfl rfl rfl (bP (i) dH rfl rfl (by rw [hi]; rfl) ((hs.row.rd M1 (bH (i := 1) rfl)).below_len (aG aF hbi)) ((hs.row.rd M1 (bH (i := 1) rfl)).someK (aG aF hbi))) (dT [true, true, true, true, true] rfl (by kernel_rfl) ?_))
  refine aIz 1 _ bO M1 rfl hs.row (aG aF hbi) rfl rfl rfl rfl (aR rfl) (fun e2 w2 hR2 M2 => ?_)
  have hQ2 := hR2.mapSet (f := aF) (x := bl) rfl
  refine aB (aC ⟨dU, ?_⟩)
  refine bX (aC (aE (bQ [(0, 0), (1, 0), (2, 0), (3, 1), (4, 0), (5, 0), (6, 0), (7, 1), (8, 0), (9, 1), (10, 1), (11, 1), (12, 0), (13, 2)] mixed rfl (by kernel_rfl) (fun w3 hb3 hh3 => ?_))))
  have M3 := M2.drew hb3 hh3
  refine aV rfl rfl rfl (fun _ => aH (.pointer _) rfl) (aV rfl rfl rfl (fun _ => bE rfl) (aV rfl rfl rfl (fun _ => aD 1 lE rfl) (bS rfl rfl rfl (aM 0 (.map _) qE M3 rfl rfl rfl) (aV rfl rfl rfl (fun _ => aH (.pointer _) rfl) (aV rfl rfl rfl (fun _ => bE rfl) ?_)))))
  refine aV rfl rfl rfl (fun _ => aD 0 gY rfl) (bS rfl rfl rfl (aM 0 (.slice _ _ _) fX M3 rfl rfl rfl) (eF rfl rfl rfl ?_))
  refine bS rfl rfl rfl (bP (i) dH rfl rfl (by rw [hi]; rfl) ((hQ2.rd M3 (bH (i := 1) rfl)).below_len (aG aF (by rw [List.getElem?_set_self hilt] : (m.set i bl)[i]? = some bl))) ((hQ2.rd M3 (bH (i := 1) rfl)).someK (aG aF (by rw [List.getElem?_set_self hilt] : (m.set i bl)[i]? = some bl)))) ?_
  refine bS rfl rfl rfl (bB 0 dL (hQ2.rd M3 (bH (i := 1) rfl)) (Nat.lt_of_le_of_lt (Nat.zero_le _) ((hQ2.rd M3 (bH (i := 1) rfl)).below_len (aG aF (by rw [List.getElem?_set_self hilt] : (m.set i bl)[i]? = some bl)))) rfl) ?_
  refine bS rfl rfl rfl (dY (o := 0) (.int _ _) bW (hQ2.rd M3 (bH (i := 1) rfl)) (aG aF (by rw [List.getElem?_set_self hilt] : (m.set i bl)[i]? = some bl)) rfl rfl) ?_
  refine eF rfl rfl rfl (dT [true, true, true, true, true] rfl (by kernel_rfl) (kN (enc := (Value.int .i64)) 2 sQ M3 rfl rfl hs.map hps rfl rfl rfl (fun e4 w4 hm4 M4 => ?_)))
  refine aB (aC ⟨dU, ?_⟩)
  refine bX (aC (aE (aA (wq (aH (.pointer _) rfl) rfl (wq (aH (.pointer _) rfl) rfl (wq (bE rfl) rfl (wq (aD 0 gY rfl) rfl ?_)))))))
  refine wq (aM 0 (.slice _ _ _) fX M4 rfl rfl rfl) rfl (aP rfl rfl (wq (fE (0) (((n : Int) - 1)) dH rfl rfl ⟨_, rfl⟩ (by decide) (by omega) (by have := hs.row.slice; omega)) rfl (wq (bE rfl) rfl (wq (aD 0 gY rfl) rfl (dD 0 (.slice _ _ _) fX M4 rfl rfl rfl rfl rfl rfl (fun w5 M5 => ?_))))))
  refine aB (aC (aE (aA (wq (aH (.pointer _) rfl) rfl (wq (bE rfl) rfl (wq (aD 1 lE rfl) rfl (wq (aM 0 (.map _) qE M5 rfl rfl rfl) rfl (aP rfl rfl ?_))))))))
  refine aYm (enc := (Value.int .i64)) 2 sQ M5 rfl rfl hm4 hps rfl rfl (fun e6 w6 hm6 M6 => (aB (aC (aE (aA (bI rfl rfl (aB (aC (aO (cD (.int _ _) rfl ?_))))))))))
  have ha : lG m key = (zN m i, 0) := by unfold lG; rw [kS, hi]; simp only []; rw [if_neg (by omega), Int.toNat_natCast]
  have hn1 : ((n : Int) - 1).toNat = n - 1 := by omega
  exact ⟨by rw [ha], _, _, _, _, _, _, by rw [ha]; exact hs.cut hbi hbk (by rw [hlen]; exact hbl) (by rw [hi]; rfl) (by omega) hQ2 hm6, M6.keep [true, true, true]⟩
set_option maxHeartbeats 4000000 in
theorem aRx (w : World) (b : Nat) (A : Option Addr) (n c : Nat) (p : Option Nat) (er em : eZ) (m : List Body) (hs : StoreIs 39 A n c p er em m) (hO : Own [(some b, bc [.slice A n c, .map p] 107), er, em] w) :
  Calls Tryz.prog 68 #[.pointer (some ⟨b, 0, none⟩)] w (fun ex w' => ∃ v, ex = .returned v ∧ (fun v w' => ∃ A' n' c' e', v = .slice A' n' c' ∧ bC 39 10 A' n' c' ((aAp m).map aF) e' ∧ Mem w (cE [(some b, bc [.slice A n c, .map p] 107), er, em]) [(some b, bc [.slice A n c, .map p] 107), er, em, e'] w') v w') := by
 have hlen : m.length = n := by simpa using hs.row.1
 have hcap := hs.cap
 refine aI #[.tmp 2] 14 Tryz.func68 rfl Tryz.results68 Tryz.ntmps68 rfl ?_
 have M0 := hO.mem
 refine aE (aA (eM rfl rfl (aB (aC (aE (aE (aA (wq (aH (.pointer _) rfl) rfl (wq (gD false Tryz.underlying162 rfl rfl) rfl (aB (aC ?_)))))))))))
 refine cJ rfl (aL (aC (aE (aA (wq (aH (.pointer _) rfl) rfl (wq (bE rfl) rfl (wq (aD 0 gY rfl) rfl (wq (aM 0 (.slice _ _ _) fX M0 rfl rfl rfl) rfl ?_))))))))
 refine bY bQh rfl rfl (aFs _ _ _ _ _ (hs.row.rd M0 (bH (i := 1) rfl)) (aPg m) (by omega)) ?_
 rintro v1 w1 ⟨A1, n1, c1, e1, rfl, hR1, hM1, _⟩
 have M1 : Mem _ _ [_, _, _, _] _ := M0.call0 hM1
 have hn1 : n1 = m.length := by simpa using hR1.1.symm
 refine eM rfl rfl (aB (aC (aE (aA (dO rfl rfl (bY bOj rfl rfl (aBi 115 bPd aBg _ _ _ _ m _ hR1 (M1.ownAt (i := 3) rfl) (by omega)) ?_))))))
 rintro v2 w2 ⟨rfl, ys2, e2, hp2, hu2, hR2, hM2⟩
 have M2 : Mem _ _ [_, _, _, _] _ := M1.seg 3 1 hM2
 have hys : ys2 = aAp m := aVl hu2 (aDp m) (hp2.trans (oZ m).symm) (hs.keys.perm hp2)
 rw [hys] at hR2
 refine aB (aC (aE (aA (dO rfl rfl (eM rfl rfl (aB (aC (aO (cD (.slice _ _ _) rfl ?_)))))))))
 exact ⟨_, _, _, _, rfl, hR2, M2⟩
theorem kR {x : Int} (h : 0 ≤ x ∧ x ≤ 4294967295) : IntKind.wrap .i32 x = kA x := by
 unfold kA
 simp [IntKind.wrap, IntKind.bits, IntKind.signed]
 split <;> split <;> omega
theorem qR {n k : Int} (h : 0 ≤ n ∧ n ≤ 4294967296) (hk : 0 < k) : IntKind.i64.wrap (n.tdiv k) = n / k := by
 rw [Int.tdiv_eq_ediv_of_nonneg h.1]
 have h1 := Int.ediv_nonneg h.1 (Int.le_of_lt hk)
 have h2 : n / k ≤ n := Int.ediv_le_self k h.1
 exact fH _ (by omega) (by omega)
set_option maxHeartbeats 4000000 in
theorem aHc (w : World) (r : Row) (xs : List Int) (hr : bC 5 1 r.A r.n r.c ((xs).map bJ) r.e) (n : Int) (hn : 0 ≤ n ∧ n ≤ 4294967295) (hl : r.n ≤ 1048576) (hO : Own [r.e] w) :
  Calls Tryz.prog 100 #[.slice r.A r.n r.c, .int .u32 n] w (fun ex w' => ∃ v, ex = .returned v ∧ (fun v w' => ∃ q : Row, v = .slice q.A q.n q.c ∧ q.n = r.n + 4 ∧ bC 5 1 q.A q.n q.c ((xs ++ cU n).map bJ) q.e ∧ Mem w (cE [r.e]) [q.e] w') v w') := by
 refine aI #[.tmp 4] 19 Tryz.func100 rfl Tryz.results100 Tryz.ntmps100 rfl ?_
 have M0 := hO.mem
 refine aE (aA (eM rfl rfl (aB (aC (aE (aA (dO rfl rfl (aP rfl rfl (wq (jQ rfl rfl (by decide)) rfl ?_)))))))))
 refine aK 7 (.int .u32 (n / 16777216)) (iE (bHn n)) (wq (dA uV Tryz.underlying5 rfl) rfl (aK 8 (.int .u8 (n / 16777216 % 256)) (iE (wr8 _)) (aP rfl rfl (wq (jQ rfl rfl (by decide)) rfl (aK 10 (.int .u32 (n / 65536)) (iE (bHh n)) ?_)))))
 refine wq (dA uV Tryz.underlying5 rfl) rfl (aK 11 (.int .u8 (n / 65536 % 256)) (iE (wr8 _)) (aP rfl rfl (wq (jQ rfl rfl (by decide)) rfl (aK 13 (.int .u32 (n / 256)) (iE (bPj n)) (wq (dA uV Tryz.underlying5 rfl) rfl ?_)))))
 refine aK 14 (.int .u8 (n / 256 % 256)) (iE (wr8 _)) (aP rfl rfl (wq (dA uV Tryz.underlying5 rfl) rfl (aK 16 (.int .u8 (n % 256)) (iE (wr8 _)) (cT [.int _ _, .int _ _, .int _ _, .int _ _] ((cU n).map bJ) rfl gL M0 rfl rfl rfl rfl (dG rfl) (by decide) (fun b1 w1 M1 => (dJ 0 ((cU n).map bJ) gL M1 rfl rfl rfl rfl rfl hr rfl (by simp [cU, bJ, Go.Bil.one]) (dW.ofMem 1 M1 rfl) (by omega) (fun A2 c2 e2 w2 M2 hR2 => ?_)))))))
 refine eM rfl rfl (aB (aC (aO (cD (.slice _ _ _) rfl ?_))))
 exact ⟨⟨A2, _, c2, e2⟩, rfl, rfl, by rw [List.map_append]; exact hR2, M2.keep [true, false]⟩
set_option maxHeartbeats 4000000 in
theorem iQ (w : World) (x : Int) :
  Calls Tryz.prog 136 #[.int .i32 x] w (fun ex w' => ∃ v, ex = .returned v ∧ (fun v w' => v = .int .u32 (x % 4294967296) ∧ Below w.heap.size w w') v w') := by
 refine aI #[.tmp 2] 5 Tryz.func136 rfl Tryz.results136 Tryz.ntmps136 rfl ?_
 have M0 := Mem.refl w
 refine aE (aA (bI rfl rfl (aB (aC (aE (aA (aP rfl rfl (wq (dA dQ Tryz.underlying35 rfl) rfl (aK 4 (.int .u32 (x % 4294967296)) (iE (aZa _)) ?_)))))))))
 refine bI rfl rfl (aB (aC (aO (cD (.int _ _) rfl ?_))))
 exact ⟨rfl, M0.below⟩
set_option maxHeartbeats 4000000 in
theorem aRp (w : World) (b : Body) :
  Calls Tryz.prog 101 #[(.agg (aF b).toArray)] w (fun ex w' => ∃ v, ex = .returned v ∧ (fun v w' => v = .agg ((aAr b).map (Value.int .u32)).toArray ∧ Below w.heap.size w w') v w') := by
 refine aI #[.cell 2 139] 49 Tryz.func101 rfl Tryz.results101 Tryz.ntmps101 rfl ?_
 have M0 := Mem.refl w
 refine aE (aA (bK (.agg (List.toArray _)) M0 rfl rfl rfl (fun b1 w1 M1 => (aS aJf M1 rfl rfl (fun b2 w2 M2 => (aB (aC (aE (aA (wq (aJ (.func _ _ _) rfl) rfl (aB (aC (aE ?_)))))))))))))
 refine bQ [(0, 0), (1, 1), (2, 0), (3, 0), (4, 1), (6, 0), (7, 0), (8, 0), (9, 1), (11, 0), (12, 0), (13, 0), (14, 1), (16, 0), (17, 0), (18, 1), (20, 0), (21, 0), (22, 1), (24, 0), (25, 0), (26, 0), (27, 1), (29, 0), (30, 0), (31, 0), (32, 1), (34, 0), (35, 0), (36, 0), (37, 1), (39, 0), (40, 0), (41, 0), (42, 1), (5, 2), (10, 2), (15, 2), (19, 2), (23, 2), (28, 2), (33, 2), (38, 2), (43, 2), (44, 0), (45, 2)] mixed rfl (by kernel_rfl) (fun w3 hb3 hh3 => ?_)
 have M3 := M2.drew hb3 hh3
 refine aV rfl rfl rfl (fun _ => aD 0 dL rfl) (bS rfl rfl rfl (aM 0 (.int _ _) bW M3 rfl rfl rfl) (aV rfl rfl rfl (fun _ => aH (.func _ _ _) rfl) (aV rfl rfl rfl (fun _ => aD 1 lH rfl) (bS rfl rfl rfl (aM 0 (.int _ _) aT M3 rfl rfl rfl) (aV rfl rfl rfl (fun _ => aH (.func _ _ _) rfl) ?_)))))
 refine aV rfl rfl rfl (fun _ => aD 2 iP rfl) (aV rfl rfl rfl (fun _ => aD 0 cR rfl) (bS rfl rfl rfl (aM 0 (.int _ _) aT M3 rfl rfl rfl) (aV rfl rfl rfl (fun _ => aH (.func _ _ _) rfl) (aV rfl rfl rfl (fun _ => aD 2 iP rfl) (aV rfl rfl rfl (fun _ => aD 1 cO rfl) ?_)))))
 refine bS rfl rfl rfl (aM 0 (.int _ _) aT M3 rfl rfl rfl) (aV rfl rfl rfl (fun _ => aH (.func _ _ _) rfl) (aV rfl rfl rfl (fun _ => aD 4 eH rfl) (bS rfl rfl rfl (aM 0 (.int _ _) aT M3 rfl rfl rfl) (aV rfl rfl rfl (fun _ => aH (.func _ _ _) rfl) (aV rfl rfl rfl (fun _ => aD 5 mY rfl) ?_)))))
 refine bS rfl rfl rfl (aM 0 (.int _ _) aT M3 rfl rfl rfl) (aV rfl rfl rfl (fun _ => aH (.func _ _ _) rfl) (aV rfl rfl rfl (fun _ => aD 6 fI rfl) (aV rfl rfl rfl (fun _ => aD 0 cR rfl) (bS rfl rfl rfl (aM 0 (.int _ _) aT M3 rfl rfl rfl) (aV rfl rfl rfl (fun _ => aH (.func _ _ _) rfl) ?_)))))
 refine aV rfl rfl rfl (fun _ => aD 6 fI rfl) (aV rfl rfl rfl (fun _ => aD 1 cO rfl) (bS rfl rfl rfl (aM 0 (.int _ _) aT M3 rfl rfl rfl) (aV rfl rfl rfl (fun _ => aH (.func _ _ _) rfl) (aV rfl rfl rfl (fun _ => aD 8 dV rfl) (aV rfl rfl rfl (fun _ => aD 0 cR rfl) ?_)))))
 refine bS rfl rfl rfl (aM 0 (.int _ _) aT M3 rfl rfl rfl) (aV rfl rfl rfl (fun _ => aH (.func _ _ _) rfl) (aV rfl rfl rfl (fun _ => aD 8 dV rfl) (aV rfl rfl rfl (fun _ => aD 1 cO rfl) (bS rfl rfl rfl (aM 0 (.int _ _) aT M3 rfl rfl rfl) (dT [false, false, false, false, false, false, false, false, true, false] rfl (by kernel_rfl) ?_)))))
 refine bY rY rfl rfl (iQ _ b.radius) ?_
 rintro v4 w4 ⟨rfl, hb4⟩
 have M4 := M3.callB hb4
 refine aB (aC ⟨(dZ (bM rfl (aM 0 (.int _ _) aT M4 rfl rfl rfl)) (dZ (bM rfl (aM 0 (.int _ _) aT M4 rfl rfl rfl)) (dZ (bM rfl (aM 0 (.int _ _) aT M4 rfl rfl rfl)) (dZ (bM rfl (aM 0 (.int _ _) aT M4 rfl rfl rfl)) (dZ (bM rfl (aM 0 (.int _ _) aT M4 rfl rfl rfl)) (dZ (bM rfl (aM 0 (.int _ _) aT M4 rfl rfl rfl)) (dZ (bM rfl (aM 0 (.int _ _) aT M4 rfl rfl rfl)) (dZ (bM rfl (aM 0 (.int _ _) aT M4 rfl rfl rfl)) (dZ (bM rfl (aM 0 (.int _ _) bW M4 rfl rfl rfl)) dU))))))))), ?_⟩)
 refine dT [false, false, false, false, false, false, false, true, false] rfl (by kernel_rfl) (bY rY rfl rfl (iQ _ b.ax) ?_)
 rintro v5 w5 ⟨rfl, hb5⟩
 have M5 := M4.callB hb5
 refine aB (aC ⟨(dZ (bM rfl (aM 0 (.int _ _) aT M5 rfl rfl rfl)) (dZ (bM rfl (aM 0 (.int _ _) aT M5 rfl rfl rfl)) (dZ (bM rfl (aM 0 (.int _ _) aT M5 rfl rfl rfl)) (dZ (bM rfl (aM 0 (.int _ _) aT M5 rfl rfl rfl)) (dZ (bM rfl (aM 0 (.int _ _) aT M5 rfl rfl rfl)) (dZ (bM rfl (aM 0 (.int _ _) aT M5 rfl rfl rfl)) (dZ (bM rfl (aM 0 (.int _ _) aT M5 rfl rfl rfl)) (dZ (bM rfl (aM 0 (.int _ _) bW M5 rfl rfl rfl)) dU)))))))), ?_⟩)
 refine dT [false, false, false, false, false, false, true, false] rfl (by kernel_rfl) (bY rY rfl rfl (iQ _ b.ay) ?_)
 rintro v6 w6 ⟨rfl, hb6⟩
 have M6 := M5.callB hb6
 refine aB (aC ⟨(dZ (bM rfl (aM 0 (.int _ _) aT M6 rfl rfl rfl)) (dZ (bM rfl (aM 0 (.int _ _) aT M6 rfl rfl rfl)) (dZ (bM rfl (aM 0 (.int _ _) aT M6 rfl rfl rfl)) (dZ (bM rfl (aM 0 (.int _ _) aT M6 rfl rfl rfl)) (dZ (bM rfl (aM 0 (.int _ _) aT M6 rfl rfl rfl)) (dZ (bM rfl (aM 0 (.int _ _) aT M6 rfl rfl rfl)) (dZ (bM rfl (aM 0 (.int _ _) bW M6 rfl rfl rfl)) dU))))))), ?_⟩)
 refine dT [false, false, false, false, false, true, false] rfl (by kernel_rfl) (bY rY rfl rfl (iQ _ b.mass) ?_)
 rintro v7 w7 ⟨rfl, hb7⟩
 have M7 := M6.callB hb7
 refine aB (aC ⟨(dZ (bM rfl (aM 0 (.int _ _) aT M7 rfl rfl rfl)) (dZ (bM rfl (aM 0 (.int _ _) aT M7 rfl rfl rfl)) (dZ (bM rfl (aM 0 (.int _ _) aT M7 rfl rfl rfl)) (dZ (bM rfl (aM 0 (.int _ _) aT M7 rfl rfl rfl)) (dZ (bM rfl (aM 0 (.int _ _) aT M7 rfl rfl rfl)) (dZ (bM rfl (aM 0 (.int _ _) bW M7 rfl rfl rfl)) dU)))))), ?_⟩)
 refine dT [false, false, false, false, true, false] rfl (by kernel_rfl) (bY rY rfl rfl (iQ _ b.bounce) ?_)
 rintro v8 w8 ⟨rfl, hb8⟩
 have M8 := M7.callB hb8
 refine aB (aC ⟨(dZ (bM rfl (aM 0 (.int _ _) aT M8 rfl rfl rfl)) (dZ (bM rfl (aM 0 (.int _ _) aT M8 rfl rfl rfl)) (dZ (bM rfl (aM 0 (.int _ _) aT M8 rfl rfl rfl)) (dZ (bM rfl (aM 0 (.int _ _) aT M8 rfl rfl rfl)) (dZ (bM rfl (aM 0 (.int _ _) bW M8 rfl rfl rfl)) dU))))), ?_⟩)
 refine dT [false, false, false, true, false] rfl (by kernel_rfl) (bY rY rfl rfl (iQ _ b.px) ?_)
 rintro v9 w9 ⟨rfl, hb9⟩
 have M9 := M8.callB hb9
 refine aB (aC ⟨(dZ (bM rfl (aM 0 (.int _ _) aT M9 rfl rfl rfl)) (dZ (bM rfl (aM 0 (.int _ _) aT M9 rfl rfl rfl)) (dZ (bM rfl (aM 0 (.int _ _) aT M9 rfl rfl rfl)) (dZ (bM rfl (aM 0 (.int _ _) bW M9 rfl rfl rfl)) dU)))), ?_⟩)
 refine dT [false, false, true, false] rfl (by kernel_rfl) (bY rY rfl rfl (iQ _ b.py) ?_)
 rintro v10 w10 ⟨rfl, hb10⟩
 have M10 := M9.callB hb10
 refine aB (aC ⟨(dZ (bM rfl (aM 0 (.int _ _) aT M10 rfl rfl rfl)) (dZ (bM rfl (aM 0 (.int _ _) aT M10 rfl rfl rfl)) (dZ (bM rfl (aM 0 (.int _ _) bW M10 rfl rfl rfl)) dU))), ?_⟩)
 refine dT [false, true, false] rfl (by kernel_rfl) (bY rY rfl rfl (iQ _ b.vx) ?_)
 rintro v11 w11 ⟨rfl, hb11⟩
 have M11 := M10.callB hb11
 refine aB (aC ⟨(dZ (bM rfl (aM 0 (.int _ _) aT M11 rfl rfl rfl)) (dZ (bM rfl (aM 0 (.int _ _) bW M11 rfl rfl rfl)) dU)), ?_⟩)
 refine dT [true, false] rfl (by kernel_rfl) (bY rY rfl rfl (iQ _ b.vy) ?_)
 rintro v12 w12 ⟨rfl, hb12⟩
 have M12 := M11.callB hb12
 refine aB (aC ⟨(dZ (bM rfl (aM 0 (.int _ _) bW M12 rfl rfl rfl)) dU), ?_⟩)
 refine aV rfl rfl rfl (fun _ => tA [.int _ _, .int _ _, .int _ _, .int _ _, .int _ _, .int _ _, .int _ _, .int _ _, .int _ _, .int _ _] iL aJf rfl rfl (dG rfl)) (dT [true] rfl (by kernel_rfl) (bG 1 _ aQc M12 rfl rfl rfl rfl rfl (aR rfl) rfl (fun w13 M13 => ?_)))
 refine aB (aC ⟨dU, ?_⟩)
 refine bX (aC (aO (eL 1 aQc M13 rfl rfl rfl ?_)))
 exact ⟨rfl, M13.below⟩
set_option maxHeartbeats 4000000 in
theorem jD (w : World) (A : Option Addr) (n c : Nat) (ls : List Int) (R : Rd w 1 A n (ls.map bJ)) (hB : jH ls) (h4 : 4 ≤ n) :
  Calls Tryz.prog 79 #[.slice A n c] w (fun ex w' => ∃ v, ex = .returned v ∧ (fun v w' => v = .int .u32 (eG ls 0) ∧ Below w.heap.size w w') v w') := by
 have hlen : ls.length = n := by simpa using R.len
 have hbd := R.bound
 obtain ⟨x0, hx0⟩ := cS (xs := ls) (k := 0) hlen (by omega)
 obtain ⟨x1, hx1⟩ := cS (xs := ls) (k := 1) hlen (by omega)
 obtain ⟨x2, hx2⟩ := cS (xs := ls) (k := 2) hlen (by omega)
 obtain ⟨x3, hx3⟩ := cS (xs := ls) (k := 3) hlen (by omega)
 obtain ⟨g0, g1⟩ := hB x0 (List.mem_of_getElem? hx0)
 obtain ⟨g2, g3⟩ := hB x1 (List.mem_of_getElem? hx1)
 obtain ⟨g4, g5⟩ := hB x2 (List.mem_of_getElem? hx2)
 obtain ⟨g6, g7⟩ := hB x3 (List.mem_of_getElem? hx3)
 have hnum : eG ls 0 = ((x0 * 256 + x1) * 256 + x2) * 256 + x3 := by unfold eG; simp only [List.getD_eq_getElem?_getD, Nat.zero_add, hx0, hx1, hx2, hx3, Option.getD_some]
 obtain ⟨b0, rfl⟩ := Int.eq_ofNat_of_zero_le g0
 obtain ⟨b1, rfl⟩ := Int.eq_ofNat_of_zero_le g2
 obtain ⟨b2, rfl⟩ := Int.eq_ofNat_of_zero_le g4
 obtain ⟨b3, rfl⟩ := Int.eq_ofNat_of_zero_le g6
 refine aI #[.tmp 2] 25 Tryz.func79 rfl Tryz.results79 Tryz.ntmps79 rfl ?_
 have M0 := Mem.refl w
 refine aE (aA (bI rfl rfl (aB (aC (aE (bQ [(0, 0), (1, 1), (2, 1), (3, 0), (4, 0), (5, 0), (6, 1), (7, 1), (8, 0), (9, 0), (10, 0), (11, 0), (12, 1), (13, 1), (14, 0), (15, 0), (16, 0), (17, 0), (18, 1), (19, 1), (20, 0), (21, 0), (22, 0)] mixed rfl (by kernel_rfl) (fun w1 hb1 hh1 => ?_)))))))
 have M1 := M0.drew hb1 hh1
 refine jP rfl rfl rfl (bS rfl rfl rfl (bP (0) gL rfl rfl rfl ((R.mem M1).below_len (aG bJ hx0)) ((R.mem M1).someK (aG bJ hx0))) (bS rfl rfl rfl (iV (.int _ _) aGg (R.mem M1) (aG bJ hx0) rfl) (aV rfl rfl rfl (fun _ => aZ us5 Tryz.underlying35 rfl (aFb _ (by omega) (by omega))) ?_)))
 refine aV rfl rfl rfl (fun _ => xJ rfl rfl (by decide)) (dX 7 (.int .u32 ((b0 * 16777216 : Nat) : Int)) (iE (bIw b0 (by omega))) (jP rfl rfl rfl (bS rfl rfl rfl (bP (1) gL rfl rfl rfl ((R.mem M1).below_len (aG bJ hx1)) ((R.mem M1).someK (aG bJ hx1))) (bS rfl rfl rfl (iV (.int _ _) aGg (R.mem M1) (aG bJ hx1) rfl) ?_))))
 refine aV rfl rfl rfl (fun _ => aZ us5 Tryz.underlying35 rfl (aFb _ (by omega) (by omega))) (aV rfl rfl rfl (fun _ => xJ rfl rfl (by decide)) (dX 12 (.int .u32 ((b1 * 65536 : Nat) : Int)) (iE (bIo b1 (by omega))) (aV rfl rfl rfl (fun _ => bZ (.int _ _) rfl rfl rfl) (dX 13 (.int .u32 ((b0 * 16777216 + b1 * 65536 : Nat) : Int)) (iE (bOm b0 (b0 * 16777216) (b1 * 65536) 24 rfl (show b1 * 65536 < 16777216 by omega) (by omega))) ?_))))
 refine jP rfl rfl rfl (bS rfl rfl rfl (bP (2) gL rfl rfl rfl ((R.mem M1).below_len (aG bJ hx2)) ((R.mem M1).someK (aG bJ hx2))) (bS rfl rfl rfl (iV (.int _ _) aGg (R.mem M1) (aG bJ hx2) rfl) (aV rfl rfl rfl (fun _ => aZ us5 Tryz.underlying35 rfl (aFb _ (by omega) (by omega))) ?_)))
 refine aV rfl rfl rfl (fun _ => xJ rfl rfl (by decide)) (dX 18 (.int .u32 ((b2 * 256 : Nat) : Int)) (iE (bLb b2 (by omega))) (aV rfl rfl rfl (fun _ => bZ (.int _ _) rfl rfl rfl) (dX 19 (.int .u32 ((b0 * 16777216 + b1 * 65536 + b2 * 256 : Nat) : Int)) (iE (bOm (b0 * 256 + b1) (b0 * 16777216 + b1 * 65536) (b2 * 256) 16 (show (b0 * 256 + b1) * 65536 = _ by omega) (show b2 * 256 < 65536 by omega) (by omega))) ?_)))
 refine jP rfl rfl rfl (bS rfl rfl rfl (bP (3) gL rfl rfl rfl ((R.mem M1).below_len (aG bJ hx3)) ((R.mem M1).someK (aG bJ hx3))) (bS rfl rfl rfl (iV (.int _ _) aGg (R.mem M1) (aG bJ hx3) rfl) (aV rfl rfl rfl (fun _ => aZ us5 Tryz.underlying35 rfl (aFb _ (by omega) (by omega))) ?_)))
 refine aV rfl rfl rfl (fun _ => bZ (.int _ _) rfl rfl rfl) (dX 24 (.int .u32 ((b0 * 16777216 + b1 * 65536 + b2 * 256 + b3 : Nat) : Int)) (iE (bOm (b0 * 65536 + b1 * 256 + b2) (b0 * 16777216 + b1 * 65536 + b2 * 256) b3 8 (show (b0 * 65536 + b1 * 256 + b2) * 256 = _ by omega) (show b3 < 256 by omega) (by omega))) ?_)
 refine mA rfl rfl rfl (bX (aC (aO (cD (.int _ _) rfl ?_))))
 exact ⟨iE (by rw [hnum]; omega), M1.below⟩
set_option maxHeartbeats 4000000 in
theorem iH (w : World) (n : Int) (hn : 0 ≤ n ∧ n ≤ 4294967295) :
  Calls Tryz.prog 80 #[.int .i64 n] w (fun ex w' => ∃ v, ex = .returned v ∧ (fun v w' => v = .int .i64 (8 + 40 * n) ∧ Below w.heap.size w w') v w') := by
 refine aI #[.tmp 2] 6 Tryz.func80 rfl Tryz.results80 Tryz.ntmps80 rfl ?_
 have M0 := Mem.refl w
 refine aE (aA (bI rfl rfl (aB (aC (aE (aA (aP rfl rfl (wq (fB rfl rfl (by omega) (by omega)) rfl (wq (aY rfl rfl (by omega) (by omega)) rfl ?_)))))))))
 refine bI rfl rfl (aB (aC (aO (cD (.int _ _) rfl ?_))))
 exact ⟨iE (by omega), M0.below⟩
set_option maxHeartbeats 4000000 in
theorem aBh (w : World) (b : Nat) (x0 x1 x2 x3 x4 x5 x6 x7 x8 x9 : Int) (h0 : 0 ≤ x2 ∧ x2 ≤ 4294967295) (h1 : 0 ≤ x3 ∧ x3 ≤ 4294967295) (hO : Own [(some b, bc [.int .u32 x0, .int .u32 x1, .int .u32 x2, .int .u32 x3, .int .u32 x4, .int .u32 x5, .int .u32 x6, .int .u32 x7, .int .u32 x8, .int .u32 x9] 139)] w) :
  Calls Tryz.prog 118 #[.int .i64 2, .pointer (some ⟨b, 0, none⟩)] w (fun ex w' => ∃ v, ex = .returned v ∧ (fun v w' => v = .agg [.int .i32 (kA x2), .int .i32 (kA x3)].toArray ∧ Mem w (cE [(some b, bc [.int .u32 x0, .int .u32 x1, .int .u32 x2, .int .u32 x3, .int .u32 x4, .int .u32 x5, .int .u32 x6, .int .u32 x7, .int .u32 x8, .int .u32 x9] 139)]) [(some b, bc [.int .u32 x0, .int .u32 x1, .int .u32 x2, .int .u32 x3, .int .u32 x4, .int .u32 x5, .int .u32 x6, .int .u32 x7, .int .u32 x8, .int .u32 x9] 139)] w') v w') := by
 refine aI #[.cell 3 37] 14 Tryz.func118 rfl Tryz.results118 Tryz.ntmps118 rfl ?_
 have M0 := hO.mem
 refine aE (aA (aS iD M0 rfl rfl (fun b1 w1 M1 => (aB (aC (aE (bQ [(0, 0), (1, 0), (2, 1), (3, 0), (4, 0), (5, 0), (6, 0), (7, 1), (8, 0), (9, 0), (10, 2)] mixed rfl (by kernel_rfl) (fun w2 hb2 hh2 => ?_))))))))
 have M2 := M1.drew hb2 hh2
 refine eF rfl rfl rfl (aV rfl rfl rfl (fun _ => cA (2) iL rfl rfl rfl (by decide)) (bS rfl rfl rfl (aM 0 (.int _ _) bW M2 rfl rfl rfl) (aV rfl rfl rfl (fun _ => dA uV Tryz.underlying21 rfl) (dX 7 (.int .i32 (kA x2)) (iE (kR h0)) (eF rfl rfl rfl ?_)))))
 refine aV rfl rfl rfl (fun _ => aY rfl rfl (by first | decide | omega) (by first | decide | omega)) (aV rfl rfl rfl (fun _ => cA (3) iL rfl rfl rfl (by decide)) (bS rfl rfl rfl (aM 0 (.int _ _) bW M2 rfl rfl rfl) (aV rfl rfl rfl (fun _ => dA uV Tryz.underlying21 rfl) (dX 12 (.int .i32 (kA x3)) (iE (kR h1)) ?_))))
 refine aV rfl rfl rfl (fun _ => cC [(0, .int _ _), (1, .int _ _)] _ eK rfl rfl) (dT [true, true] rfl (by kernel_rfl) (bG 1 _ bL M2 rfl rfl rfl rfl rfl (aR rfl) rfl (fun w3 M3 => ?_)))
 refine aB (aC ⟨dU, ?_⟩)
 refine bX (aC (aO (eL 1 bL M3 rfl rfl rfl ?_)))
 exact ⟨rfl, M3.keep [true, false]⟩
set_option maxHeartbeats 4000000 in
theorem aBk (w : World) (b : Nat) (x0 x1 x2 x3 x4 x5 x6 x7 x8 x9 : Int) (h0 : 0 ≤ x6 ∧ x6 ≤ 4294967295) (h1 : 0 ≤ x7 ∧ x7 ≤ 4294967295) (hO : Own [(some b, bc [.int .u32 x0, .int .u32 x1, .int .u32 x2, .int .u32 x3, .int .u32 x4, .int .u32 x5, .int .u32 x6, .int .u32 x7, .int .u32 x8, .int .u32 x9] 139)] w) :
  Calls Tryz.prog 118 #[.int .i64 6, .pointer (some ⟨b, 0, none⟩)] w (fun ex w' => ∃ v, ex = .returned v ∧ (fun v w' => v = .agg [.int .i32 (kA x6), .int .i32 (kA x7)].toArray ∧ Mem w (cE [(some b, bc [.int .u32 x0, .int .u32 x1, .int .u32 x2, .int .u32 x3, .int .u32 x4, .int .u32 x5, .int .u32 x6, .int .u32 x7, .int .u32 x8, .int .u32 x9] 139)]) [(some b, bc [.int .u32 x0, .int .u32 x1, .int .u32 x2, .int .u32 x3, .int .u32 x4, .int .u32 x5, .int .u32 x6, .int .u32 x7, .int .u32 x8, .int .u32 x9] 139)] w') v w') := by
 refine aI #[.cell 3 37] 14 Tryz.func118 rfl Tryz.results118 Tryz.ntmps118 rfl ?_
 have M0 := hO.mem
 refine aE (aA (aS iD M0 rfl rfl (fun b1 w1 M1 => (aB (aC (aE (bQ [(0, 0), (1, 0), (2, 1), (3, 0), (4, 0), (5, 0), (6, 0), (7, 1), (8, 0), (9, 0), (10, 2)] mixed rfl (by kernel_rfl) (fun w2 hb2 hh2 => ?_))))))))
 have M2 := M1.drew hb2 hh2
 refine eF rfl rfl rfl (aV rfl rfl rfl (fun _ => cA (6) iL rfl rfl rfl (by decide)) (bS rfl rfl rfl (aM 0 (.int _ _) bW M2 rfl rfl rfl) (aV rfl rfl rfl (fun _ => dA uV Tryz.underlying21 rfl) (dX 7 (.int .i32 (kA x6)) (iE (kR h0)) (eF rfl rfl rfl ?_)))))
 refine aV rfl rfl rfl (fun _ => aY rfl rfl (by first | decide | omega) (by first | decide | omega)) (aV rfl rfl rfl (fun _ => cA (7) iL rfl rfl rfl (by decide)) (bS rfl rfl rfl (aM 0 (.int _ _) bW M2 rfl rfl rfl) (aV rfl rfl rfl (fun _ => dA uV Tryz.underlying21 rfl) (dX 12 (.int .i32 (kA x7)) (iE (kR h1)) ?_))))
 refine aV rfl rfl rfl (fun _ => cC [(0, .int _ _), (1, .int _ _)] _ eK rfl rfl) (dT [true, true] rfl (by kernel_rfl) (bG 1 _ bL M2 rfl rfl rfl rfl rfl (aR rfl) rfl (fun w3 M3 => ?_)))
 refine aB (aC ⟨dU, ?_⟩)
 refine bX (aC (aO (eL 1 bL M3 rfl rfl rfl ?_)))
 exact ⟨rfl, M3.keep [true, false]⟩
set_option maxHeartbeats 4000000 in
theorem aBl (w : World) (b : Nat) (x0 x1 x2 x3 x4 x5 x6 x7 x8 x9 : Int) (h0 : 0 ≤ x8 ∧ x8 ≤ 4294967295) (h1 : 0 ≤ x9 ∧ x9 ≤ 4294967295) (hO : Own [(some b, bc [.int .u32 x0, .int .u32 x1, .int .u32 x2, .int .u32 x3, .int .u32 x4, .int .u32 x5, .int .u32 x6, .int .u32 x7, .int .u32 x8, .int .u32 x9] 139)] w) :
  Calls Tryz.prog 118 #[.int .i64 8, .pointer (some ⟨b, 0, none⟩)] w (fun ex w' => ∃ v, ex = .returned v ∧ (fun v w' => v = .agg [.int .i32 (kA x8), .int .i32 (kA x9)].toArray ∧ Mem w (cE [(some b, bc [.int .u32 x0, .int .u32 x1, .int .u32 x2, .int .u32 x3, .int .u32 x4, .int .u32 x5, .int .u32 x6, .int .u32 x7, .int .u32 x8, .int .u32 x9] 139)]) [(some b, bc [.int .u32 x0, .int .u32 x1, .int .u32 x2, .int .u32 x3, .int .u32 x4, .int .u32 x5, .int .u32 x6, .int .u32 x7, .int .u32 x8, .int .u32 x9] 139)] w') v w') := by
 refine aI #[.cell 3 37] 14 Tryz.func118 rfl Tryz.results118 Tryz.ntmps118 rfl ?_
 have M0 := hO.mem
 refine aE (aA (aS iD M0 rfl rfl (fun b1 w1 M1 => (aB (aC (aE (bQ [(0, 0), (1, 0), (2, 1), (3, 0), (4, 0), (5, 0), (6, 0), (7, 1), (8, 0), (9, 0), (10, 2)] mixed rfl (by kernel_rfl) (fun w2 hb2 hh2 => ?_))))))))
 have M2 := M1.drew hb2 hh2
 refine eF rfl rfl rfl (aV rfl rfl rfl (fun _ => cA (8) iL rfl rfl rfl (by decide)) (bS rfl rfl rfl (aM 0 (.int _ _) bW M2 rfl rfl rfl) (aV rfl rfl rfl (fun _ => dA uV Tryz.underlying21 rfl) (dX 7 (.int .i32 (kA x8)) (iE (kR h0)) (eF rfl rfl rfl ?_)))))
 refine aV rfl rfl rfl (fun _ => aY rfl rfl (by first | decide | omega) (by first | decide | omega)) (aV rfl rfl rfl (fun _ => cA (9) iL rfl rfl rfl (by decide)) (bS rfl rfl rfl (aM 0 (.int _ _) bW M2 rfl rfl rfl) (aV rfl rfl rfl (fun _ => dA uV Tryz.underlying21 rfl) (dX 12 (.int .i32 (kA x9)) (iE (kR h1)) ?_))))
 refine aV rfl rfl rfl (fun _ => cC [(0, .int _ _), (1, .int _ _)] _ eK rfl rfl) (dT [true, true] rfl (by kernel_rfl) (bG 1 _ bL M2 rfl rfl rfl rfl rfl (aR rfl) rfl (fun w3 M3 => ?_)))
 refine aB (aC ⟨dU, ?_⟩)
 refine bX (aC (aO (eL 1 bL M3 rfl rfl rfl ?_)))
 exact ⟨rfl, M3.keep [true, false]⟩
set_option maxHeartbeats 4000000 in
theorem aKy (w : World) (x0 x1 x2 x3 x4 x5 x6 x7 x8 x9 : Int) (hx : ∀ x ∈ ([x0, x1, x2, x3, x4, x5, x6, x7, x8, x9] : List Int), 0 ≤ x ∧ x ≤ 4294967295) :
  Calls Tryz.prog 81 #[.agg [.int .u32 x0, .int .u32 x1, .int .u32 x2, .int .u32 x3, .int .u32 x4, .int .u32 x5, .int .u32 x6, .int .u32 x7, .int .u32 x8, .int .u32 x9].toArray] w (fun ex w' => ∃ v, ex = .returned v ∧ (fun v w' => v = (.agg (aF (⟨x0, kA x1, kA x2, kA x3, kA x4, kA x5, kA x6, kA x7, kA x8, kA x9⟩ : Body)).toArray) ∧ Below w.heap.size w w') v w') := by
 refine aI #[.cell 2 39] 23 Tryz.func81 rfl Tryz.results81 Tryz.ntmps81 rfl ?_
 have M0 := Mem.refl w
 refine aE (aA (bK (.agg (List.toArray _)) M0 rfl rfl rfl (fun b1 w1 M1 => (aS fN M1 rfl rfl (fun b2 w2 M2 => (aB (aC (aE (aA (wq (dR [] [.pointer _] rfl rfl) rfl (wq (aJ (.func _ _ _) rfl) rfl ?_)))))))))))
 refine aB (aC (aE (bQ [(0, 0), (1, 1), (2, 0), (3, 1), (4, 0), (5, 0), (7, 0), (8, 1), (9, 0), (10, 0), (11, 1), (12, 0), (13, 0), (15, 0), (6, 2), (14, 2), (16, 2), (17, 0), (18, 2)] mixed rfl (by kernel_rfl) (fun w3 hb3 hh3 => ?_))))
 have M3 := M2.drew hb3 hh3
 refine aV rfl rfl rfl (fun _ => cA (0) iL rfl rfl rfl (by decide)) (bS rfl rfl rfl (aM 0 (.int _ _) bW M3 rfl rfl rfl) (aV rfl rfl rfl (fun _ => cA (1) iL rfl rfl rfl (by decide)) (bS rfl rfl rfl (aM 0 (.int _ _) bW M3 rfl rfl rfl) (aV rfl rfl rfl (fun _ => dA uV Tryz.underlying21 rfl) ?_))))
 refine dX 9 (.int .i32 (kA x1)) (iE (kR (hx _ (by simp)))) (aV rfl rfl rfl (fun _ => aH (.func _ _ _) rfl) (aV rfl rfl rfl (fun _ => cA (4) iL rfl rfl rfl (by decide)) (bS rfl rfl rfl (aM 0 (.int _ _) bW M3 rfl rfl rfl) (aV rfl rfl rfl (fun _ => dA uV Tryz.underlying21 rfl) ?_))))
 refine dX 14 (.int .i32 (kA x4)) (iE (kR (hx _ (by simp)))) (aV rfl rfl rfl (fun _ => cA (5) iL rfl rfl rfl (by decide)) (bS rfl rfl rfl (aM 0 (.int _ _) bW M3 rfl rfl rfl) (aV rfl rfl rfl (fun _ => dA uV Tryz.underlying21 rfl) (dX 17 (.int .i32 (kA x5)) (iE (kR (hx _ (by simp)))) ?_))))
 refine aV rfl rfl rfl (fun _ => aH (.func _ _ _) rfl) (aV rfl rfl rfl (fun _ => aH (.func _ _ _) rfl) (dT [false, false, false, false] rfl (by kernel_rfl) (bY aPd rfl rfl (aBh _ b1 x0 x1 x2 x3 x4 x5 x6 x7 x8 x9 (hx _ (by simp)) (hx _ (by simp)) (M3.ownSeg 0 1)) ?_)))
 rintro v4 w4 ⟨rfl, hM4⟩
 have M4 : Mem _ _ [_, _] _ := M3.seg 0 1 hM4
 refine aB (aC ⟨(dZ (bM rfl (aM 0 (.int _ _) bW M4 rfl rfl rfl)) (dZ (bM rfl (aM 0 (.int _ _) bW M4 rfl rfl rfl)) (dZ (bM rfl (aM 0 (.int _ _) bW M4 rfl rfl rfl)) (dZ (bM rfl (aM 0 (.int _ _) bW M4 rfl rfl rfl)) dU)))), ?_⟩)
 refine dT [false, false, false, false] rfl (by kernel_rfl) (bY aPd rfl rfl (aBk _ b1 x0 x1 x2 x3 x4 x5 x6 x7 x8 x9 (hx _ (by simp)) (hx _ (by simp)) (M4.ownSeg 0 1)) ?_)
 rintro v5 w5 ⟨rfl, hM5⟩
 have M5 : Mem _ _ [_, _] _ := M4.seg 0 1 hM5
 refine aB (aC ⟨(dZ (bM rfl (aM 0 (.int _ _) bW M5 rfl rfl rfl)) (dZ (bM rfl (aM 0 (.int _ _) bW M5 rfl rfl rfl)) (dZ (bM rfl (aM 0 (.int _ _) bW M5 rfl rfl rfl)) (dZ (bM rfl (aM 0 (.int _ _) bW M5 rfl rfl rfl)) dU)))), ?_⟩)
 refine dT [false, false, false, false] rfl (by kernel_rfl) (bY aPd rfl rfl (aBl _ b1 x0 x1 x2 x3 x4 x5 x6 x7 x8 x9 (hx _ (by simp)) (hx _ (by simp)) (M5.ownSeg 0 1)) ?_)
 rintro v6 w6 ⟨rfl, hM6⟩
 have M6 : Mem _ _ [_, _] _ := M5.seg 0 1 hM6
 refine aB (aC ⟨(dZ (bM rfl (aM 0 (.int _ _) bW M6 rfl rfl rfl)) (dZ (bM rfl (aM 0 (.int _ _) bW M6 rfl rfl rfl)) (dZ (bM rfl (aM 0 (.int _ _) bW M6 rfl rfl rfl)) (dZ (bM rfl (aM 0 (.int _ _) bW M6 rfl rfl rfl)) dU)))), ?_⟩)
 refine aV rfl rfl rfl (fun _ => cC [(0, .int _ _), (1, .int _ _), (2, .agg (List.toArray _)), (3, .int _ _), (4, .int _ _), (5, .agg (List.toArray _)), (6, .agg (List.toArray _))] _ sT rfl rfl) (dT [true, true, true, true] rfl (by kernel_rfl) (bG 1 _ bO M6 rfl rfl rfl rfl rfl (aR rfl) rfl (fun w7 M7 => ?_)))
 refine aB (aC ⟨dU, ?_⟩)
 refine bX (aC (aO (eL 1 bO M7 rfl rfl rfl ?_)))
 exact ⟨rfl, M7.below⟩
set_option maxHeartbeats 8000000 in
theorem aKv (w : World) (A : Option Addr) (n c : Nat) (xs : List Body) (R : Rd w 10 A n (xs.map aF)) (hn : n ≤ 4096) (hc : iK xs = 0) (hb : ∀ b ∈ xs, InB b) :
  Calls Tryz.prog 58 #[.slice A n c] w (fun ex w' => ∃ v, ex = .returned v ∧ (fun v w' => ∃ q : Row, v = .tuple #[.slice q.A q.n q.c, .int .i64 0] ∧ bC 5 1 q.A q.n q.c ((oG xs).map bJ) q.e ∧ Mem w [] [q.e] w') v w') := by
 have hlen : xs.length = n := by simpa using R.len
 have hbd := R.bound
 refine aI #[.tmp 2, .tmp 3] 38 Tryz.func58 rfl Tryz.results58 Tryz.ntmps58 rfl ?_
 have M0 := Mem.refl w
 refine aE (aA (eM rfl rfl (bI rfl rfl (aB (aC (aE (aE (aA (dO rfl rfl (bY bJi rfl rfl (aEa _ _ _ _ xs (R.mem M0)) ?_))))))))))
 rintro v1 w1 ⟨rfl, hb1⟩
 have M1 := M0.callB hb1
 refine bI rfl rfl (aB (aC (aE (aA (aP rfl rfl (cZ rfl rfl rfl rfl (pE 13 rfl (fun h => h hc) (aB (aC ?_)))))))))
 refine cJ rfl (aL (aC (aE (aA (cT [.int _ _, .int _ _, .int _ _, .int _ _] (lL.map bJ) rfl gL M1 rfl rfl rfl rfl (dG rfl) (by decide) (fun b2 w2 M2 => ?_))))))
 have hlit15 := kH (T := 5) (b := b2) (lL.map bJ) (rH _) rfl (by decide)
 refine aUh 0 Tryz.underlying31 Tryz.underlying5 M2 rfl rfl rfl rfl hlit15 (by decide) (fun e3 w3 M3 hR3 => (dO rfl rfl (wq (dC Tryz.underlying29 rfl) rfl (wq (aZ us3 Tryz.underlying35 rfl (aFb _ (by omega) (by omega))) rfl (bY aZk rfl rfl (aHc _ ⟨(some ⟨b2, 0, none⟩), 4, 4, e3⟩ lL hR3 (n : Int) (by omega) (by first | omega | exact (show 4 ≤ 1048576 by decide)) (M3.ownSeg 0 1)) ?_)))))
 rintro v4 w4 ⟨q0, rfl, hnq0, hq0, hM4⟩
 have M4 : Mem _ _ [_] _ := M3.seg 0 1 hM4
 refine eM rfl rfl (aB (aC (aE (aE (aA (dO rfl rfl (wq (dC Tryz.underlying29 rfl) rfl (aP rfl rfl (aB (aC (aQ ?_)))))))))))
 refine dS (σ := Nat × Row) [2, 3, 21, 22] (fun (k, q) => [(5, .slice q.A q.n q.c), (23, .int .i64 (k : Int))]) (fun (k, q) w' => (k ≤ n ∧ q.n = 8 + 40 * k ∧ bC 5 1 q.A q.n q.c (((lL ++ cU (n : Int)) ++ (xs.take k).flatMap mM).map bJ) q.e) ∧ Mem w [] [q.e] w') (fun (k, q) => n - k) (0, q0) (bA rfl (bA rfl eB)) (⟨⟨by omega, hnq0, by rw [List.take_zero, List.flatMap_nil, List.append_nil]; exact hq0⟩, M4⟩) ?_
 rintro ⟨k, q⟩ ρ5 w5 ⟨⟨hk, hqn, hq⟩, hM5⟩
 refine aE (aA (cZ rfl rfl rfl rfl (aB (aC (aE ?_)))))
 refine aW rfl (fun h24 => ?_) (fun h24 => ?_)
 ·obtain ⟨xb, hxb⟩ := cS (xs := xs) (k := k) hlen (by omega)
  have hxi := aVj (hb xb (List.mem_of_getElem? hxb))
  refine aL (aC (aE (aQ (aE (aA (wq (bP (k) dH rfl rfl rfl ((R.mem hM5).below_len (aG aF hxb)) ((R.mem hM5).someK (aG aF hxb))) rfl (wq (dN _ bO (R.mem hM5) (aG aF hxb) rfl) rfl (aS fN hM5 rfl rfl (fun b6 w6 M6 => (bG 1 _ bO M6 rfl rfl rfl rfl rfl (aR rfl) rfl (fun w7 M7 => ?_)))))))))))
  refine aB (aC (aE (aA (wq (aX 1 bO M7 rfl rfl rfl) rfl (bY bLo rfl rfl (aRp _ xb) ?_)))))
  rintro v8 w8 ⟨rfl, hb8⟩
  have M8 := M7.callB hb8
  refine aP rfl rfl (aB (aC (aQ (dS (σ := Nat × Row) [2, 3, 21, 22, 23, 28] (fun (j, p) => [(5, .slice p.A p.n p.c), (29, .int .i64 (j : Int))]) (fun (j, p) w' => (j ≤ 10 ∧ p.n = q.n + 4 * j ∧ bC 5 1 p.A p.n p.c (((lL ++ cU (n : Int)) ++ (xs.take k).flatMap mM ++ ((aAr xb).take j).flatMap cU).map bJ) p.e) ∧ Mem w [] [p.e, (some b6, bc (aF xb) 39)] w') (fun (j, p) => 10 - j) (0, q) (bA rfl (bA rfl eB)) (⟨⟨by omega, by omega, by rw [List.take_zero, List.flatMap_nil, List.append_nil]; exact hq⟩, M8⟩) ?_))))
  rintro ⟨j, p⟩ ρ9 w9 ⟨⟨hj, hpn, hp⟩, hM9⟩
  refine aE (aA (cZ rfl rfl rfl rfl (aB (aC (aE ?_)))))
  refine aW rfl (fun h30 => ?_) (fun h30 => ?_)
  ·obtain ⟨x, hx⟩ := cS (xs := aAr xb) (k := j) (n := 10) rfl (by omega)
   have hxr := hxi x (List.mem_of_getElem? hx)
   refine aL (aC (aE (aQ (aE (aA ?_)))))
   refine wq (zT (j) (.int .u32 x) iL bW rfl rfl (by omega) (by omega) rfl (by rw [mW, List.getElem?_map, hx]; rfl)) rfl ?_
   refine bI rfl rfl (aB (aC (aA (dO rfl rfl (aP rfl rfl (bY aZk rfl rfl (aHc _ p _ hp x hxr (by first | omega | exact (show 4 ≤ 1048576 by decide)) (hM9.ownSeg 0 1)) ?_))))))
   rintro v10 w10 ⟨p2, rfl, hnp2, hp2, hM10⟩
   have M10 : Mem _ _ [_, _] _ := hM9.seg 0 1 hM10
   refine eM rfl rfl (aB (cV (aC (aA (wq (aY rfl rfl (by omega) (by omega)) rfl (aP rfl rfl ?_))))))
   refine aB ?_
   refine cG (j + 1, p2) (bA rfl (bA rfl eB)) (cN rfl (cN rfl (cN rfl (cN rfl (cN rfl (cN rfl gV)))))) ?_ ?_
   ·exact ⟨⟨by omega, by omega, by rw [aXc hx, ← List.append_assoc]; exact hp2⟩, M10⟩
   ·(show 10 - (j + 1) < 10 - j; omega)
  ·obtain rfl : j = 10 := by omega
   rw [List.take_of_length_le (show (aAr xb).length ≤ 10 from Nat.le_refl _)] at hp
   refine cX (dF (dK (eS (cV (aC (aA ?_))))))
   refine wq (aY rfl rfl (by omega) (by omega)) rfl (aP rfl rfl (aB ?_))
   refine cG (k + 1, p) (bA rfl (bA rfl eB)) (cN rfl (cN rfl (cN rfl (cN rfl gV)))) ?_ ?_
   ·exact ⟨⟨by omega, by omega, by rw [aIh hxb, ← aWf, ← List.append_assoc]; exact hp⟩, hM9.keep [true, false]⟩
   ·(show n - (k + 1) < n - k; omega)
 ·obtain rfl : k = n := by omega
  rw [List.take_of_length_le (by omega), ← hlen] at hq
  refine cX (dF (dK (eS (aC (aE (aA (dO rfl rfl ?_)))))))
  refine eM rfl rfl (bI rfl rfl (aB (aC (aO (gA (.slice _ _ _) (.int _ _) rfl rfl ?_)))))
  exact ⟨q, rfl, hq, hM5⟩
set_option maxHeartbeats 16000000 in
theorem xH (w : World) (A : Option Addr) (n c : Nat) (ls : List Int) (R : Rd w 1 A n (ls.map bJ)) (hB : jH ls) (hcap : n ≤ c) (hn : n ≤ 1048576) :
  Calls Tryz.prog 54 #[.slice A n c] w (fun ex w' => ∃ v, ex = .returned v ∧ (fun v w' => ∃ r : Row, v = .tuple #[.slice r.A r.n r.c, .int .i64 (mN ls).2] ∧ bC 39 10 r.A r.n r.c (((mN ls).1).map aF) r.e ∧ Mem w [] [r.e] w') v w') := by
 have hlen : ls.length = n := by simpa using R.len
 have hbd := R.bound
 refine aI #[.tmp 2, .tmp 3] 58 Tryz.func54 rfl Tryz.results54 Tryz.ntmps54 rfl ?_
 have M0 := Mem.refl w
 refine aE (aA (eM rfl rfl (bI rfl rfl (aB (aC (aE (aE (aA (dO rfl rfl (wq (dC Tryz.underlying31 rfl) rfl ?_))))))))))
 refine cZ rfl rfl rfl rfl (wq (aH (.bool (decide _)) rfl) rfl ?_)
 refine dM 13 rfl (fun g13 => ?_) (fun g13 => ?_)
 ·refine aN rfl rfl (aN rfl rfl (aN rfl rfl (aN rfl rfl (wq (bR true (.bool true) rfl rfl) rfl (aB (aC ?_))))))
  refine cF rfl (aE (aA (eM rfl rfl (bI rfl rfl (aB (aC (aO (cM (gA (.slice _ _ _) (.int _ _) rfl rfl ?_)))))))))
  have hd := uL (l := ls) (fun h => by have := h.1; omega)
  exact ⟨⟨none, 0, 0, (none, default)⟩, by rw [hd], by rw [hd]; exact bC.nil _ _ _, (M0.keep []).dummy default⟩
 ·refine dO rfl rfl (wq (fE (0) (4) gL rfl rfl ⟨_, rfl⟩ (by omega) (by omega) (by omega)) rfl (wq (bBe Tryz.underlying31 Tryz.underlying5 Tryz.underlying9 (Rd.subB (R.mem M0) (0) (4) (by omega) (by omega) hcap) rfl) rfl (wq (aNm rfl rfl) rfl (wq (bR false (.bool (decide _)) rfl rfl) rfl (aB (aC ?_))))))
  refine aW rfl (fun h18 => ?_) (fun h18 => ?_)
  ·refine aE (aA (eM rfl rfl (bI rfl rfl (aB (aC (aO (cM (gA (.slice _ _ _) (.int _ _) rfl rfl ?_))))))))
   have hd := uL (l := ls) (fun h => ((aCd ((ls.drop 0).take (4 - 0)) (hB.sub 0 4) [66, 73, 76, 49]).1 h18) (by rw [← pR]; simpa using h.2.1))
   exact ⟨⟨none, 0, 0, (none, default)⟩, by rw [hd], by rw [hd]; exact bC.nil _ _ _, (M0.keep []).dummy default⟩
  ·refine aL (aC (aE (aA (dO rfl rfl (wq (fE (4) (((n : Nat) : Int)) gL rfl ⟨_, rfl⟩ rfl (by omega) (by omega) (by omega)) rfl (bY tH rfl rfl (jD _ _ _ _ ((ls.drop (4)).take (n - (4))) (Rd.subB (R.mem M0) (4) (n) (by omega) (by omega) hcap) (hB.sub _ _) (by omega)) ?_))))))
   rintro v1 w1 ⟨rfl, hb1⟩
   have M1 := M0.callB hb1
   have hr4 := mD hB (a := 4) (by omega)
   obtain ⟨N, hN⟩ : ∃ N : Nat, eG ls 4 = (N : Int) := ⟨(eG ls 4).toNat, by omega⟩
   have hNl : N ≤ 4294967295 := by omega
   refine aK 21 (.int .u32 (N : Int)) (iE ((fM (by omega)).trans hN)) (wq (aZ uV Tryz.underlying3 rfl (fH _ (by omega) (by omega))) rfl (bI rfl rfl (aB (aC (aE (aE (aA (dO rfl rfl (wq (dC Tryz.underlying31 rfl) rfl ?_)))))))))
   refine aP rfl rfl (bY sN rfl rfl (iH _ (N : Int) (by omega)) ?_)
   rintro v2 w2 ⟨rfl, hb2⟩
   have M2 := M1.callB hb2
   refine cZ rfl rfl rfl rfl (aB (aC ?_))
   refine aW rfl (fun h27 => ?_) (fun h27 => ?_)
   ·refine aE (aA (eM rfl rfl (bI rfl rfl (aB (aC (aO (cM (gA (.slice _ _ _) (.int _ _) rfl rfl ?_))))))))
    have hd := uL (l := ls) (fun h => h27 (by have := h.2.2; rw [hN] at this; omega))
    exact ⟨⟨none, 0, 0, (none, default)⟩, by rw [hd], by rw [hd]; exact bC.nil _ _ _, (M2.keep []).dummy default⟩
   ·have hfm : zX ls := ⟨by omega, by have h := Decidable.not_not.1 (mt ((aCd ((ls.drop 0).take (4 - 0)) (hB.sub 0 4) [66, 73, 76, 49]).2) h18); rw [← pR] at h; simpa using h, by rw [hN]; omega⟩
    refine aL (aC (aE (aA (eM rfl rfl ?_))))
    have M3 := M2.dummy default
    refine aB (aC (aE (aE (aA (aP rfl rfl (aP rfl rfl (aB (aC (aQ (dS (σ := Nat × Row) [0, 2, 3, 28] (fun (i, q) => [(5, .slice q.A q.n q.c), (29, .int .i64 (i : Int))]) (fun (i, q) w' => (i ≤ N ∧ bC 39 10 q.A q.n q.c ((nZ ls i).map aF) q.e) ∧ Mem w [] [q.e] w') (fun (i, q) => N - i) (0, gT) (bA rfl (bA rfl eB)) (⟨⟨by omega, bC.nil _ _ _⟩, M3⟩) ?_))))))))))
    rintro ⟨i, q⟩ ρ4 w4 ⟨⟨hi, hq⟩, hM4⟩
    have hqn : (nZ ls i).length = q.n := by simpa using hq.1
    rw [wK] at hqn
    refine aE (aA (cZ rfl rfl rfl rfl (aB (aC (aE ?_)))))
    refine aW rfl (fun h30 => ?_) (fun h30 => ?_)
    ·refine aL (aC (aE (aQ (aE (aA (aP rfl rfl (bI rfl rfl (aB (aC (aE (aA (aS aJf hM4 rfl rfl (fun b5 w5 M5 => (aB (aC (aE (aE (aA ?_))))))))))))))))))
     refine aP rfl rfl (aB (aC (aQ (iR 11 (fK (aE (aA (cZ rfl rfl rfl rfl (kZ 33 rfl (by first | decide | omega) ?_)))))))))
     refine aB (aC (aE (cF rfl (aL (aC (aE (aQ (aE (aA (aP rfl rfl (bI rfl rfl (aB (aC (aA ?_))))))))))))))
     refine aP rfl rfl (dO rfl rfl (aP rfl rfl (bY sN rfl rfl (iH _ (i : Int) (by omega)) ?_)))
     rintro v6 w6 ⟨rfl, hb6⟩
     have M6 := M5.callB hb6
     refine aP rfl rfl (wq (fB rfl rfl (by omega) (by omega)) rfl (wq (aY rfl rfl (by omega) (by omega)) rfl (aK 41 (.int .i64 ((8 + 40 * i : Nat) : Int)) (iE (by omega)) (wq (fE (((8 + 40 * i : Nat) : Int)) (((n : Nat) : Int)) gL rfl ⟨_, rfl⟩ rfl (by omega) (by omega) (by omega)) rfl (bY tH rfl rfl (jD _ _ _ _ ((ls.drop (8 + 40 * i)).take (n - (8 + 40 * i))) (Rd.subB (R.mem M6) (8 + 40 * i) (n) (by omega) (by omega) hcap) (hB.sub _ _) (by omega)) ?_)))))
     rintro v7 w7 ⟨rfl, hb7⟩
     have M7 := M6.callB hb7
     refine aK 43 (.int .u32 (eG ls (8 + 40 * i))) (iE (fM (by omega))) (wq (cA (0) iL rfl rfl rfl (by decide)) rfl (dD 1 (.int _ _) bW M7 rfl rfl rfl rfl rfl rfl (fun w8 M8 => (aB (cV (aC (aA ?_)))))))
     refine wq (aY rfl rfl (by first | decide | omega) (by first | decide | omega)) rfl (aK 45 (.int .i64 1) (iE (by first | decide | omega)) (aP rfl rfl (aB (aC (fK (eC (fr := [(0, .slice _ _ _), (2, .slice _ _ _), (3, .int .i64 0), (5, .slice _ _ _), (6, .int _ _), (7, .pointer _), (8, .int .i64 0), (28, .int _ _), (29, .int _ _), (32, .int .i64 1)]) (bA rfl (bA rfl (bA rfl (bA rfl (bA rfl (bA rfl (bA rfl (bA rfl (bA rfl (bA rfl eB)))))))))) (fun ρ9 => ?_)))))))
     refine aE (aA (cZ rfl rfl rfl rfl (kZ 33 rfl (by first | decide | omega) (aB (aC (aE (cF rfl (aL (aC (aE (aQ (aE (aA ?_)))))))))))))
     refine aP rfl rfl (bI rfl rfl (aB (aC (aA (aP rfl rfl (dO rfl rfl (aP rfl rfl ?_)))))))
     refine bY sN rfl rfl (iH _ (i : Int) (by omega)) ?_
     rintro v10 w10 ⟨rfl, hb10⟩
     have M10 := M8.callB hb10
     refine aP rfl rfl (wq (fB rfl rfl (by omega) (by omega)) rfl (wq (aY rfl rfl (by omega) (by omega)) rfl (aK 41 (.int .i64 ((8 + 40 * i + 4 : Nat) : Int)) (iE (by omega)) (wq (fE (((8 + 40 * i + 4 : Nat) : Int)) (((n : Nat) : Int)) gL rfl ⟨_, rfl⟩ rfl (by omega) (by omega) (by omega)) rfl (bY tH rfl rfl (jD _ _ _ _ ((ls.drop (8 + 40 * i + 4)).take (n - (8 + 40 * i + 4))) (Rd.subB (R.mem M10) (8 + 40 * i + 4) (n) (by omega) (by omega) hcap) (hB.sub _ _) (by omega)) ?_)))))
     rintro v11 w11 ⟨rfl, hb11⟩
     have M11 := M10.callB hb11
     refine aK 43 (.int .u32 (eG ls (8 + 40 * i + 4))) (iE (fM (by omega))) (wq (cA (1) iL rfl rfl rfl (by decide)) rfl (dD 1 (.int _ _) bW M11 rfl rfl rfl rfl rfl rfl (fun w12 M12 => (aB (cV (aC (aA ?_)))))))
     refine wq (aY rfl rfl (by first | decide | omega) (by first | decide | omega)) rfl (aK 45 (.int .i64 2) (iE (by first | decide | omega)) (aP rfl rfl (aB (aC (fK (eC (fr := [(0, .slice _ _ _), (2, .slice _ _ _), (3, .int .i64 0), (5, .slice _ _ _), (6, .int _ _), (7, .pointer _), (8, .int .i64 1), (28, .int _ _), (29, .int _ _), (32, .int .i64 2)]) (bA rfl (bA rfl (bA rfl (bA rfl (bA rfl (bA rfl (bA rfl (bA rfl (bA rfl (bA rfl eB)))))))))) (fun ρ13 => ?_)))))))
     refine aE (aA (cZ rfl rfl rfl rfl (kZ 33 rfl (by first | decide | omega) (aB (aC (aE (cF rfl (aL (aC (aE (aQ (aE (aA ?_)))))))))))))
     refine aP rfl rfl (bI rfl rfl (aB (aC (aA (aP rfl rfl (dO rfl rfl (aP rfl rfl ?_)))))))
     refine bY sN rfl rfl (iH _ (i : Int) (by omega)) ?_
     rintro v14 w14 ⟨rfl, hb14⟩
     have M14 := M12.callB hb14
     refine aP rfl rfl (wq (fB rfl rfl (by omega) (by omega)) rfl (wq (aY rfl rfl (by omega) (by omega)) rfl (aK 41 (.int .i64 ((8 + 40 * i + 8 : Nat) : Int)) (iE (by omega)) (wq (fE (((8 + 40 * i + 8 : Nat) : Int)) (((n : Nat) : Int)) gL rfl ⟨_, rfl⟩ rfl (by omega) (by omega) (by omega)) rfl (bY tH rfl rfl (jD _ _ _ _ ((ls.drop (8 + 40 * i + 8)).take (n - (8 + 40 * i + 8))) (Rd.subB (R.mem M14) (8 + 40 * i + 8) (n) (by omega) (by omega) hcap) (hB.sub _ _) (by omega)) ?_)))))
     rintro v15 w15 ⟨rfl, hb15⟩
     have M15 := M14.callB hb15
     refine aK 43 (.int .u32 (eG ls (8 + 40 * i + 8))) (iE (fM (by omega))) (wq (cA (2) iL rfl rfl rfl (by decide)) rfl (dD 1 (.int _ _) bW M15 rfl rfl rfl rfl rfl rfl (fun w16 M16 => (aB (cV (aC (aA ?_)))))))
     refine wq (aY rfl rfl (by first | decide | omega) (by first | decide | omega)) rfl (aK 45 (.int .i64 3) (iE (by first | decide | omega)) (aP rfl rfl (aB (aC (fK (eC (fr := [(0, .slice _ _ _), (2, .slice _ _ _), (3, .int .i64 0), (5, .slice _ _ _), (6, .int _ _), (7, .pointer _), (8, .int .i64 2), (28, .int _ _), (29, .int _ _), (32, .int .i64 3)]) (bA rfl (bA rfl (bA rfl (bA rfl (bA rfl (bA rfl (bA rfl (bA rfl (bA rfl (bA rfl eB)))))))))) (fun ρ17 => ?_)))))))
     refine aE (aA (cZ rfl rfl rfl rfl (kZ 33 rfl (by first | decide | omega) (aB (aC (aE (cF rfl (aL (aC (aE (aQ (aE (aA ?_)))))))))))))
     refine aP rfl rfl (bI rfl rfl (aB (aC (aA (aP rfl rfl (dO rfl rfl (aP rfl rfl ?_)))))))
     refine bY sN rfl rfl (iH _ (i : Int) (by omega)) ?_
     rintro v18 w18 ⟨rfl, hb18⟩
     have M18 := M16.callB hb18
     refine aP rfl rfl (wq (fB rfl rfl (by omega) (by omega)) rfl (wq (aY rfl rfl (by omega) (by omega)) rfl (aK 41 (.int .i64 ((8 + 40 * i + 12 : Nat) : Int)) (iE (by omega)) (wq (fE (((8 + 40 * i + 12 : Nat) : Int)) (((n : Nat) : Int)) gL rfl ⟨_, rfl⟩ rfl (by omega) (by omega) (by omega)) rfl ?_))))
     refine bY tH rfl rfl (jD _ _ _ _ ((ls.drop (8 + 40 * i + 12)).take (n - (8 + 40 * i + 12))) (Rd.subB (R.mem M18) (8 + 40 * i + 12) (n) (by omega) (by omega) hcap) (hB.sub _ _) (by omega)) ?_
     rintro v19 w19 ⟨rfl, hb19⟩
     have M19 := M18.callB hb19
     refine aK 43 (.int .u32 (eG ls (8 + 40 * i + 12))) (iE (fM (by omega))) (wq (cA (3) iL rfl rfl rfl (by decide)) rfl (dD 1 (.int _ _) bW M19 rfl rfl rfl rfl rfl rfl (fun w20 M20 => (aB (cV (aC (aA ?_)))))))
     refine wq (aY rfl rfl (by first | decide | omega) (by first | decide | omega)) rfl (aK 45 (.int .i64 4) (iE (by first | decide | omega)) (aP rfl rfl (aB (aC (fK (eC (fr := [(0, .slice _ _ _), (2, .slice _ _ _), (3, .int .i64 0), (5, .slice _ _ _), (6, .int _ _), (7, .pointer _), (8, .int .i64 3), (28, .int _ _), (29, .int _ _), (32, .int .i64 4)]) (bA rfl (bA rfl (bA rfl (bA rfl (bA rfl (bA rfl (bA rfl (bA rfl (bA rfl (bA rfl eB)))))))))) (fun ρ21 => ?_)))))))
     refine aE (aA (cZ rfl rfl rfl rfl (kZ 33 rfl (by first | decide | omega) (aB (aC (aE (cF rfl (aL (aC (aE (aQ (aE (aA ?_)))))))))))))
     refine aP rfl rfl (bI rfl rfl (aB (aC (aA (aP rfl rfl (dO rfl rfl (aP rfl rfl ?_)))))))
     refine bY sN rfl rfl (iH _ (i : Int) (by omega)) ?_
     rintro v22 w22 ⟨rfl, hb22⟩
     have M22 := M20.callB hb22
     refine aP rfl rfl (wq (fB rfl rfl (by omega) (by omega)) rfl (wq (aY rfl rfl (by omega) (by omega)) rfl (aK 41 (.int .i64 ((8 + 40 * i + 16 : Nat) : Int)) (iE (by omega)) (wq (fE (((8 + 40 * i + 16 : Nat) : Int)) (((n : Nat) : Int)) gL rfl ⟨_, rfl⟩ rfl (by omega) (by omega) (by omega)) rfl ?_))))
     refine bY tH rfl rfl (jD _ _ _ _ ((ls.drop (8 + 40 * i + 16)).take (n - (8 + 40 * i + 16))) (Rd.subB (R.mem M22) (8 + 40 * i + 16) (n) (by omega) (by omega) hcap) (hB.sub _ _) (by omega)) ?_
     rintro v23 w23 ⟨rfl, hb23⟩
     have M23 := M22.callB hb23
     refine aK 43 (.int .u32 (eG ls (8 + 40 * i + 16))) (iE (fM (by omega))) (wq (cA (4) iL rfl rfl rfl (by decide)) rfl (dD 1 (.int _ _) bW M23 rfl rfl rfl rfl rfl rfl (fun w24 M24 => (aB (cV (aC (aA ?_)))))))
     refine wq (aY rfl rfl (by first | decide | omega) (by first | decide | omega)) rfl (aK 45 (.int .i64 5) (iE (by first | decide | omega)) (aP rfl rfl (aB (aC (fK (eC (fr := [(0, .slice _ _ _), (2, .slice _ _ _), (3, .int .i64 0), (5, .slice _ _ _), (6, .int _ _), (7, .pointer _), (8, .int .i64 4), (28, .int _ _), (29, .int _ _), (32, .int .i64 5)]) (bA rfl (bA rfl (bA rfl (bA rfl (bA rfl (bA rfl (bA rfl (bA rfl (bA rfl (bA rfl eB)))))))))) (fun ρ25 => ?_)))))))
     refine aE (aA (cZ rfl rfl rfl rfl (kZ 33 rfl (by first | decide | omega) (aB (aC (aE (cF rfl (aL (aC (aE (aQ (aE (aA ?_)))))))))))))
     refine aP rfl rfl (bI rfl rfl (aB (aC (aA (aP rfl rfl (dO rfl rfl (aP rfl rfl ?_)))))))
     refine bY sN rfl rfl (iH _ (i : Int) (by omega)) ?_
     rintro v26 w26 ⟨rfl, hb26⟩
     have M26 := M24.callB hb26
     refine aP rfl rfl (wq (fB rfl rfl (by omega) (by omega)) rfl (wq (aY rfl rfl (by omega) (by omega)) rfl (aK 41 (.int .i64 ((8 + 40 * i + 20 : Nat) : Int)) (iE (by omega)) (wq (fE (((8 + 40 * i + 20 : Nat) : Int)) (((n : Nat) : Int)) gL rfl ⟨_, rfl⟩ rfl (by omega) (by omega) (by omega)) rfl ?_))))
     refine bY tH rfl rfl (jD _ _ _ _ ((ls.drop (8 + 40 * i + 20)).take (n - (8 + 40 * i + 20))) (Rd.subB (R.mem M26) (8 + 40 * i + 20) (n) (by omega) (by omega) hcap) (hB.sub _ _) (by omega)) ?_
     rintro v27 w27 ⟨rfl, hb27⟩
     have M27 := M26.callB hb27
     refine aK 43 (.int .u32 (eG ls (8 + 40 * i + 20))) (iE (fM (by omega))) (wq (cA (5) iL rfl rfl rfl (by decide)) rfl (dD 1 (.int _ _) bW M27 rfl rfl rfl rfl rfl rfl (fun w28 M28 => (aB (cV (aC (aA ?_)))))))
     refine wq (aY rfl rfl (by first | decide | omega) (by first | decide | omega)) rfl (aK 45 (.int .i64 6) (iE (by first | decide | omega)) (aP rfl rfl (aB (aC (fK (eC (fr := [(0, .slice _ _ _), (2, .slice _ _ _), (3, .int .i64 0), (5, .slice _ _ _), (6, .int _ _), (7, .pointer _), (8, .int .i64 5), (28, .int _ _), (29, .int _ _), (32, .int .i64 6)]) (bA rfl (bA rfl (bA rfl (bA rfl (bA rfl (bA rfl (bA rfl (bA rfl (bA rfl (bA rfl eB)))))))))) (fun ρ29 => ?_)))))))
     refine aE (aA (cZ rfl rfl rfl rfl (kZ 33 rfl (by first | decide | omega) (aB (aC (aE (cF rfl (aL (aC (aE (aQ (aE (aA ?_)))))))))))))
     refine aP rfl rfl (bI rfl rfl (aB (aC (aA (aP rfl rfl (dO rfl rfl (aP rfl rfl ?_)))))))
     refine bY sN rfl rfl (iH _ (i : Int) (by omega)) ?_
     rintro v30 w30 ⟨rfl, hb30⟩
     have M30 := M28.callB hb30
     refine aP rfl rfl (wq (fB rfl rfl (by omega) (by omega)) rfl (wq (aY rfl rfl (by omega) (by omega)) rfl (aK 41 (.int .i64 ((8 + 40 * i + 24 : Nat) : Int)) (iE (by omega)) (wq (fE (((8 + 40 * i + 24 : Nat) : Int)) (((n : Nat) : Int)) gL rfl ⟨_, rfl⟩ rfl (by omega) (by omega) (by omega)) rfl ?_))))
     refine bY tH rfl rfl (jD _ _ _ _ ((ls.drop (8 + 40 * i + 24)).take (n - (8 + 40 * i + 24))) (Rd.subB (R.mem M30) (8 + 40 * i + 24) (n) (by omega) (by omega) hcap) (hB.sub _ _) (by omega)) ?_
     rintro v31 w31 ⟨rfl, hb31⟩
     have M31 := M30.callB hb31
     refine aK 43 (.int .u32 (eG ls (8 + 40 * i + 24))) (iE (fM (by omega))) (wq (cA (6) iL rfl rfl rfl (by decide)) rfl (dD 1 (.int _ _) bW M31 rfl rfl rfl rfl rfl rfl (fun w32 M32 => (aB (cV (aC (aA ?_)))))))
     refine wq (aY rfl rfl (by first | decide | omega) (by first | decide | omega)) rfl (aK 45 (.int .i64 7) (iE (by first | decide | omega)) (aP rfl rfl (aB (aC (fK (eC (fr := [(0, .slice _ _ _), (2, .slice _ _ _), (3, .int .i64 0), (5, .slice _ _ _), (6, .int _ _), (7, .pointer _), (8, .int .i64 6), (28, .int _ _), (29, .int _ _), (32, .int .i64 7)]) (bA rfl (bA rfl (bA rfl (bA rfl (bA rfl (bA rfl (bA rfl (bA rfl (bA rfl (bA rfl eB)))))))))) (fun ρ33 => ?_)))))))
     refine aE (aA (cZ rfl rfl rfl rfl (kZ 33 rfl (by first | decide | omega) (aB (aC (aE (cF rfl (aL (aC (aE (aQ (aE (aA ?_)))))))))))))
     refine aP rfl rfl (bI rfl rfl (aB (aC (aA (aP rfl rfl (dO rfl rfl (aP rfl rfl ?_)))))))
     refine bY sN rfl rfl (iH _ (i : Int) (by omega)) ?_
     rintro v34 w34 ⟨rfl, hb34⟩
     have M34 := M32.callB hb34
     refine aP rfl rfl (wq (fB rfl rfl (by omega) (by omega)) rfl (wq (aY rfl rfl (by omega) (by omega)) rfl (aK 41 (.int .i64 ((8 + 40 * i + 28 : Nat) : Int)) (iE (by omega)) (wq (fE (((8 + 40 * i + 28 : Nat) : Int)) (((n : Nat) : Int)) gL rfl ⟨_, rfl⟩ rfl (by omega) (by omega) (by omega)) rfl ?_))))
     refine bY tH rfl rfl (jD _ _ _ _ ((ls.drop (8 + 40 * i + 28)).take (n - (8 + 40 * i + 28))) (Rd.subB (R.mem M34) (8 + 40 * i + 28) (n) (by omega) (by omega) hcap) (hB.sub _ _) (by omega)) ?_
     rintro v35 w35 ⟨rfl, hb35⟩
     have M35 := M34.callB hb35
     refine aK 43 (.int .u32 (eG ls (8 + 40 * i + 28))) (iE (fM (by omega))) (wq (cA (7) iL rfl rfl rfl (by decide)) rfl (dD 1 (.int _ _) bW M35 rfl rfl rfl rfl rfl rfl (fun w36 M36 => (aB (cV (aC (aA ?_)))))))
     refine wq (aY rfl rfl (by first | decide | omega) (by first | decide | omega)) rfl (aK 45 (.int .i64 8) (iE (by first | decide | omega)) (aP rfl rfl (aB (aC (fK (eC (fr := [(0, .slice _ _ _), (2, .slice _ _ _), (3, .int .i64 0), (5, .slice _ _ _), (6, .int _ _), (7, .pointer _), (8, .int .i64 7), (28, .int _ _), (29, .int _ _), (32, .int .i64 8)]) (bA rfl (bA rfl (bA rfl (bA rfl (bA rfl (bA rfl (bA rfl (bA rfl (bA rfl (bA rfl eB)))))))))) (fun ρ37 => ?_)))))))
     refine aE (aA (cZ rfl rfl rfl rfl (kZ 33 rfl (by first | decide | omega) (aB (aC (aE (cF rfl (aL (aC (aE (aQ (aE (aA ?_)))))))))))))
     refine aP rfl rfl (bI rfl rfl (aB (aC (aA (aP rfl rfl (dO rfl rfl (aP rfl rfl ?_)))))))
     refine bY sN rfl rfl (iH _ (i : Int) (by omega)) ?_
     rintro v38 w38 ⟨rfl, hb38⟩
     have M38 := M36.callB hb38
     refine aP rfl rfl (wq (fB rfl rfl (by omega) (by omega)) rfl (wq (aY rfl rfl (by omega) (by omega)) rfl (aK 41 (.int .i64 ((8 + 40 * i + 32 : Nat) : Int)) (iE (by omega)) (wq (fE (((8 + 40 * i + 32 : Nat) : Int)) (((n : Nat) : Int)) gL rfl ⟨_, rfl⟩ rfl (by omega) (by omega) (by omega)) rfl ?_))))
     refine bY tH rfl rfl (jD _ _ _ _ ((ls.drop (8 + 40 * i + 32)).take (n - (8 + 40 * i + 32))) (Rd.subB (R.mem M38) (8 + 40 * i + 32) (n) (by omega) (by omega) hcap) (hB.sub _ _) (by omega)) ?_
     rintro v39 w39 ⟨rfl, hb39⟩
     have M39 := M38.callB hb39
     refine aK 43 (.int .u32 (eG ls (8 + 40 * i + 32))) (iE (fM (by omega))) (wq (cA (8) iL rfl rfl rfl (by decide)) rfl (dD 1 (.int _ _) bW M39 rfl rfl rfl rfl rfl rfl (fun w40 M40 => (aB (cV (aC (aA ?_)))))))
     refine wq (aY rfl rfl (by first | decide | omega) (by first | decide | omega)) rfl (aK 45 (.int .i64 9) (iE (by first | decide | omega)) (aP rfl rfl (aB (aC (fK (eC (fr := [(0, .slice _ _ _), (2, .slice _ _ _), (3, .int .i64 0), (5, .slice _ _ _), (6, .int _ _), (7, .pointer _), (8, .int .i64 8), (28, .int _ _), (29, .int _ _), (32, .int .i64 9)]) (bA rfl (bA rfl (bA rfl (bA rfl (bA rfl (bA rfl (bA rfl (bA rfl (bA rfl (bA rfl eB)))))))))) (fun ρ41 => ?_)))))))
     refine aE (aA (cZ rfl rfl rfl rfl (kZ 33 rfl (by first | decide | omega) (aB (aC (aE (cF rfl (aL (aC (aE (aQ (aE (aA ?_)))))))))))))
     refine aP rfl rfl (bI rfl rfl (aB (aC (aA (aP rfl rfl (dO rfl rfl (aP rfl rfl ?_)))))))
     refine bY sN rfl rfl (iH _ (i : Int) (by omega)) ?_
     rintro v42 w42 ⟨rfl, hb42⟩
     have M42 := M40.callB hb42
     refine aP rfl rfl (wq (fB rfl rfl (by omega) (by omega)) rfl (wq (aY rfl rfl (by omega) (by omega)) rfl (aK 41 (.int .i64 ((8 + 40 * i + 36 : Nat) : Int)) (iE (by omega)) (wq (fE (((8 + 40 * i + 36 : Nat) : Int)) (((n : Nat) : Int)) gL rfl ⟨_, rfl⟩ rfl (by omega) (by omega) (by omega)) rfl ?_))))
     refine bY tH rfl rfl (jD _ _ _ _ ((ls.drop (8 + 40 * i + 36)).take (n - (8 + 40 * i + 36))) (Rd.subB (R.mem M42) (8 + 40 * i + 36) (n) (by omega) (by omega) hcap) (hB.sub _ _) (by omega)) ?_
     rintro v43 w43 ⟨rfl, hb43⟩
     have M43 := M42.callB hb43
     refine aK 43 (.int .u32 (eG ls (8 + 40 * i + 36))) (iE (fM (by omega))) (wq (cA (9) iL rfl rfl rfl (by decide)) rfl (dD 1 (.int _ _) bW M43 rfl rfl rfl rfl rfl rfl (fun w44 M44 => (aB (cV (aC (aA ?_)))))))
     refine wq (aY rfl rfl (by first | decide | omega) (by first | decide | omega)) rfl (aK 45 (.int .i64 10) (iE (by first | decide | omega)) (aP rfl rfl (aB (aC (fK (eC (fr := [(0, .slice _ _ _), (2, .slice _ _ _), (3, .int .i64 0), (5, .slice _ _ _), (6, .int _ _), (7, .pointer _), (8, .int .i64 9), (28, .int _ _), (29, .int _ _), (32, .int .i64 10)]) (bA rfl (bA rfl (bA rfl (bA rfl (bA rfl (bA rfl (bA rfl (bA rfl (bA rfl (bA rfl eB)))))))))) (fun ρ45 => ?_)))))))
     refine aE (aA (cZ rfl rfl rfl rfl (pE 33 rfl (by first | decide | omega) (aB (aC (aE (cJ rfl (cX ?_))))))))
     refine dF (dF (eS (aC (aA (dO rfl rfl (wq (aX 1 aQc M44 rfl rfl rfl) rfl (bY bRx rfl rfl (aKy _ _ _ _ _ _ _ _ _ _ _ (bQc hB (a := 8 + 40 * i) (by omega))) ?_)))))))
     rintro v46 w46 ⟨rfl, hb46⟩
     have M46 := M44.callB hb46
     refine aK 48 ((.agg (aF (lK ls (8 + 40 * i))).toArray)) rfl (cT [.agg (List.toArray _)] [aF (lK ls (8 + 40 * i))] rfl dH M46 rfl rfl rfl rfl (dG rfl) (by decide) (fun b47 w47 M47 => (dJ 0 [aF (lK ls (8 + 40 * i))] dH M47 rfl rfl rfl rfl rfl hq rfl (by simp [aF, Go.Bil.one]) (dW.ofMem 2 M47 rfl) (by omega) (fun A48 c48 e48 w48 M48 hR48 => ?_))))
     refine eM rfl rfl (aB (cV (aC (aA (wq (aY rfl rfl (by omega) (by omega)) rfl (aP rfl rfl ?_))))))
     refine aB ?_
     refine cG (i + 1, ⟨A48, q.n + 1, c48, e48⟩) (bA rfl (bA rfl eB)) (cN rfl (cN rfl (cN rfl (cN rfl gV)))) ?_ ?_
     ·exact ⟨⟨by omega, by rw [aHk, List.map_append]; exact hR48⟩, M48.keep [true, false, false]⟩
     ·(show N - (i + 1) < N - i; omega)
    ·obtain rfl : i = N := by omega
     refine cX (dF (dK (eS (aC (aE (aE (aA (dO rfl rfl ?_))))))))
     refine bY bJi rfl rfl (aEa _ _ _ _ (nZ ls i) (hq.rd hM4 (bH (i := 0) rfl))) ?_
     rintro v49 w49 ⟨rfl, hb49⟩
     have M49 := hM4.callB hb49
     refine bI rfl rfl (aB (aC (aE (aA (aP rfl rfl (cZ rfl rfl rfl rfl (aB (aC ?_))))))))
     refine aW rfl (fun h55 => ?_) (fun h55 => ?_)
     ·refine aE (aA (aP rfl rfl (eM rfl rfl (bI rfl rfl (aB (aC (aO (cM (gA (.slice _ _ _) (.int _ _) rfl rfl ?_)))))))))
      have hd := aSw hfm hN h55
      exact ⟨⟨none, 0, 0, (none, default)⟩, by rw [hd], by rw [hd]; exact bC.nil _ _ _, (M49.keep [false]).dummy default⟩
     ·refine aL (aC (aE (aA (dO rfl rfl (eM rfl rfl (bI rfl rfl (aB (aC (aO (gA (.slice _ _ _) (.int _ _) rfl rfl ?_))))))))))
      have hd := aLt hfm hN (Decidable.not_not.1 h55)
      exact ⟨q, by rw [hd], by rw [hd]; exact hq, M49⟩
set_option maxHeartbeats 4000000 in
theorem iC (w : World) (n : Int) (hn : -2147483648 ≤ n ∧ n ≤ 4294967295) :
  Calls Tryz.prog 59 #[.int .i64 n] w (fun ex w' => ∃ v, ex = .returned v ∧ (fun v w' => ∃ q : Row, v = .slice q.A q.n q.c ∧ q.n = 4 ∧ bC 5 1 q.A q.n q.c ((cU n).map bJ) q.e ∧ Mem w [] [q.e] w') v w') := by
 obtain ⟨m, hm⟩ : ∃ m, m = n % 4294967296 := ⟨_, rfl⟩
 have hmr : 0 ≤ m ∧ m ≤ 4294967296 := by omega
 have hwm : cU m = cU n := by rw [hm]; exact uM n
 refine aI #[.tmp 2] 19 Tryz.func59 rfl Tryz.results59 Tryz.ntmps59 rfl ?_
 have M0 := Mem.refl w
 refine aE (aA (eM rfl rfl (aB (aC (aE (aE (aA (aP rfl rfl (cZ rfl rfl rfl rfl (aB (aC ?_)))))))))))
 refine aW rfl (fun h4 => ?_) (fun h4 => ?_)
 ·refine aA (aP rfl rfl (wq (aY rfl rfl (by omega) (by omega)) rfl (aK 6 (.int .i64 m) (iE (by omega)) (bI rfl rfl (aB (aC (aE (aA ?_))))))))
  refine aP rfl rfl (aK 7 (.int .i64 m) (iE (by omega)) (wq (fZ rfl rfl (by decide)) rfl (aK 8 (.int .i64 (m / 16777216)) (iE (qR (by omega) (by omega))) (wq (dA lW Tryz.underlying5 rfl) rfl (aK 9 (.int .u8 (m / 16777216 % 256)) (iE (wr8 _)) ?_)))))
  refine aP rfl rfl (aK 10 (.int .i64 m) (iE (by omega)) (wq (fZ rfl rfl (by decide)) rfl (aK 11 (.int .i64 (m / 65536)) (iE (qR (by omega) (by omega))) (wq (dA lW Tryz.underlying5 rfl) rfl (aK 12 (.int .u8 (m / 65536 % 256)) (iE (wr8 _)) ?_)))))
  refine aP rfl rfl (aK 13 (.int .i64 m) (iE (by omega)) (wq (fZ rfl rfl (by decide)) rfl (aK 14 (.int .i64 (m / 256)) (iE (qR (by omega) (by omega))) (wq (dA lW Tryz.underlying5 rfl) rfl (aK 15 (.int .u8 (m / 256 % 256)) (iE (wr8 _)) ?_)))))
  refine aP rfl rfl (aK 16 (.int .i64 m) (iE (by omega)) (wq (dA lW Tryz.underlying5 rfl) rfl (aK 17 (.int .u8 (m % 256)) (iE (wr8 _)) (cT [.int _ _, .int _ _, .int _ _, .int _ _] ((cU m).map bJ) rfl gL M0 rfl rfl rfl rfl (dG rfl) (by decide) (fun b1 w1 M1 => ?_)))))
  have hlit18 := kH (T := 5) (b := b1) ((cU m).map bJ) (rH _) rfl (show 4 ≤ 281474976710656 by decide)
  refine eM rfl rfl (aB (aC (aO (cD (.slice _ _ _) rfl ?_))))
  exact ⟨⟨some ⟨b1, 0, none⟩, 4, 4, _⟩, rfl, rfl, by rw [← hwm]; exact hlit18, M1⟩
 ·refine aL (aC (aE (aA (aP rfl rfl (aK 7 (.int .i64 m) (iE (by omega)) (wq (fZ rfl rfl (by decide)) rfl (aK 8 (.int .i64 (m / 16777216)) (iE (qR (by omega) (by omega))) (wq (dA lW Tryz.underlying5 rfl) rfl ?_))))))))
  refine aK 9 (.int .u8 (m / 16777216 % 256)) (iE (wr8 _)) (aP rfl rfl (aK 10 (.int .i64 m) (iE (by omega)) (wq (fZ rfl rfl (by decide)) rfl (aK 11 (.int .i64 (m / 65536)) (iE (qR (by omega) (by omega))) (wq (dA lW Tryz.underlying5 rfl) rfl ?_)))))
  refine aK 12 (.int .u8 (m / 65536 % 256)) (iE (wr8 _)) (aP rfl rfl (aK 13 (.int .i64 m) (iE (by omega)) (wq (fZ rfl rfl (by decide)) rfl (aK 14 (.int .i64 (m / 256)) (iE (qR (by omega) (by omega))) (wq (dA lW Tryz.underlying5 rfl) rfl ?_)))))
  refine aK 15 (.int .u8 (m / 256 % 256)) (iE (wr8 _)) (aP rfl rfl (aK 16 (.int .i64 m) (iE (by omega)) (wq (dA lW Tryz.underlying5 rfl) rfl (aK 17 (.int .u8 (m % 256)) (iE (wr8 _)) (cT [.int _ _, .int _ _, .int _ _, .int _ _] ((cU m).map bJ) rfl gL M0 rfl rfl rfl rfl (dG rfl) (by decide) (fun b2 w2 M2 => ?_))))))
  have hlit18 := kH (T := 5) (b := b2) ((cU m).map bJ) (rH _) rfl (show 4 ≤ 281474976710656 by decide)
  refine eM rfl rfl (aB (aC (aO (cD (.slice _ _ _) rfl ?_))))
  exact ⟨⟨some ⟨b2, 0, none⟩, 4, 4, _⟩, rfl, rfl, by rw [← hwm]; exact hlit18, M2⟩
set_option maxHeartbeats 4000000 in
theorem sC (w : World) (A : Option Addr) (n c : Nat) (ls : List Int) (R : Rd w 1 A n (ls.map bJ)) (hB : jH ls) (h4 : 4 ≤ n) :
  Calls Tryz.prog 133 #[.slice A n c] w (fun ex w' => ∃ v, ex = .returned v ∧ (fun v w' => v = .int .i64 (eG ls 0) ∧ Below w.heap.size w w') v w') := by
 have hlen : ls.length = n := by simpa using R.len
 have hbd := R.bound
 obtain ⟨x0, hx0⟩ := cS (xs := ls) (k := 0) hlen (by omega)
 obtain ⟨x1, hx1⟩ := cS (xs := ls) (k := 1) hlen (by omega)
 obtain ⟨x2, hx2⟩ := cS (xs := ls) (k := 2) hlen (by omega)
 obtain ⟨x3, hx3⟩ := cS (xs := ls) (k := 3) hlen (by omega)
 obtain ⟨g0, g1⟩ := hB x0 (List.mem_of_getElem? hx0)
 obtain ⟨g2, g3⟩ := hB x1 (List.mem_of_getElem? hx1)
 obtain ⟨g4, g5⟩ := hB x2 (List.mem_of_getElem? hx2)
 obtain ⟨g6, g7⟩ := hB x3 (List.mem_of_getElem? hx3)
 have hnum : eG ls 0 = ((x0 * 256 + x1) * 256 + x2) * 256 + x3 := by unfold eG; simp only [List.getD_eq_getElem?_getD, Nat.zero_add, hx0, hx1, hx2, hx3, Option.getD_some]
 refine aI #[.tmp 2] 25 Tryz.func133 rfl Tryz.results133 Tryz.ntmps133 rfl ?_
 have M0 := Mem.refl w
 refine aE (aA (bI rfl rfl (aB (aC (aE (bQ [(0, 0), (1, 1), (2, 1), (3, 0), (4, 0), (5, 0), (6, 1), (7, 1), (8, 0), (9, 0), (10, 0), (11, 0), (12, 1), (13, 1), (14, 0), (15, 0), (16, 0), (17, 0), (18, 1), (19, 1), (20, 0), (21, 0), (22, 0)] mixed rfl (by kernel_rfl) (fun w1 hb1 hh1 => ?_)))))))
 have M1 := M0.drew hb1 hh1
 refine jP rfl rfl rfl (bS rfl rfl rfl (bP (0) gL rfl rfl rfl ((R.mem M1).below_len (aG bJ hx0)) ((R.mem M1).someK (aG bJ hx0))) (bS rfl rfl rfl (iV (.int _ _) aGg (R.mem M1) (aG bJ hx0) rfl) (aV rfl rfl rfl (fun _ => aZ us5 Tryz.underlying2 rfl (fH _ (by omega) (by omega))) ?_)))
 refine aV rfl rfl rfl (fun _ => fB rfl rfl (by omega) (by omega)) (jP rfl rfl rfl (bS rfl rfl rfl (bP (1) gL rfl rfl rfl ((R.mem M1).below_len (aG bJ hx1)) ((R.mem M1).someK (aG bJ hx1))) (bS rfl rfl rfl (iV (.int _ _) aGg (R.mem M1) (aG bJ hx1) rfl) (aV rfl rfl rfl (fun _ => aZ us5 Tryz.underlying2 rfl (fH _ (by omega) (by omega))) ?_))))
 refine aV rfl rfl rfl (fun _ => aY rfl rfl (by omega) (by omega)) (aV rfl rfl rfl (fun _ => fB rfl rfl (by omega) (by omega)) (jP rfl rfl rfl (bS rfl rfl rfl (bP (2) gL rfl rfl rfl ((R.mem M1).below_len (aG bJ hx2)) ((R.mem M1).someK (aG bJ hx2))) (bS rfl rfl rfl (iV (.int _ _) aGg (R.mem M1) (aG bJ hx2) rfl) ?_))))
 refine aV rfl rfl rfl (fun _ => aZ us5 Tryz.underlying2 rfl (fH _ (by omega) (by omega))) (aV rfl rfl rfl (fun _ => aY rfl rfl (by omega) (by omega)) (aV rfl rfl rfl (fun _ => fB rfl rfl (by omega) (by omega)) (jP rfl rfl rfl (bS rfl rfl rfl (bP (3) gL rfl rfl rfl ((R.mem M1).below_len (aG bJ hx3)) ((R.mem M1).someK (aG bJ hx3))) ?_))))
 refine bS rfl rfl rfl (iV (.int _ _) aGg (R.mem M1) (aG bJ hx3) rfl) (aV rfl rfl rfl (fun _ => aZ us5 Tryz.underlying2 rfl (fH _ (by omega) (by omega))) (aV rfl rfl rfl (fun _ => aY rfl rfl (by omega) (by omega)) (mA rfl rfl rfl (bX (aC (aO ?_))))))
 refine cD (.int _ _) rfl ?_
 exact ⟨iE (by rw [hnum]), M1.below⟩
set_option maxHeartbeats 4000000 in
theorem gZ (w : World) (A : Option Addr) (n c : Nat) (ls : List Int) (R : Rd w 1 A n (ls.map bJ)) (hB : jH ls) (h4 : 4 ≤ n) :
  Calls Tryz.prog 134 #[.slice A n c] w (fun ex w' => ∃ v, ex = .returned v ∧ (fun v w' => v = .int .i32 (kA (eG ls 0)) ∧ Below w.heap.size w w') v w') := by
 have hlen : ls.length = n := by simpa using R.len
 have hbd := R.bound
 obtain ⟨hr1, hr2, _⟩ := mD hB (a := 0) (by omega)
 have hsg := nF ⟨hr1, hr2⟩
 refine aI #[.tmp 2] 12 Tryz.func134 rfl Tryz.results134 Tryz.ntmps134 rfl ?_
 have M0 := Mem.refl w
 refine aE (aA (bI rfl rfl (aB (aC (aE (aA (dO rfl rfl (bY aQo rfl rfl (sC _ A n c ls (R.mem M0) hB h4) ?_))))))))
 rintro v1 w1 ⟨rfl, hb1⟩
 have M1 := M0.callB hb1
 refine bI rfl rfl (aB (aC (aE (aE (aA (aP rfl rfl (cZ rfl rfl rfl rfl (aB (aC ?_)))))))))
 refine aW rfl (fun h7 => ?_) (fun h7 => ?_)
 ·refine aA (aP rfl rfl (wq (fU rfl rfl (by omega) (by omega)) rfl (bI rfl rfl (aB (aC (aE (aA (aP rfl rfl ?_))))))))
  refine wq (dA lW Tryz.underlying21 rfl) rfl (aK 11 (.int .i32 (kA (eG ls 0))) (iE (by first | (rw [show eG ls 0 - 4294967296 = kA (eG ls 0) by unfold kA; rw [if_pos (by omega)]]; exact iW _ (by omega) (by omega)) | (rw [show kA (eG ls 0) = eG ls 0 by unfold kA; rw [if_neg (by omega)]]; exact iW _ (by omega) (by omega)))) ?_)
  refine bI rfl rfl (aB (aC (aO (cD (.int _ _) rfl ?_))))
  exact ⟨rfl, M1.below⟩
 ·refine aL (aC (aE (aA (aP rfl rfl (wq (dA lW Tryz.underlying21 rfl) rfl (aK 11 (.int .i32 (kA (eG ls 0))) (iE (by first | (rw [show eG ls 0 - 4294967296 = kA (eG ls 0) by unfold kA; rw [if_pos (by omega)]]; exact iW _ (by omega) (by omega)) | (rw [show kA (eG ls 0) = eG ls 0 by unfold kA; rw [if_neg (by omega)]]; exact iW _ (by omega) (by omega)))) ?_))))))
  refine bI rfl rfl (aB (aC (aO (cD (.int _ _) rfl ?_))))
  exact ⟨rfl, M1.below⟩
set_option maxHeartbeats 4000000 in
theorem aEi (w : World) (A : Option Addr) (n c : Nat) (xs : List Int) (R : Rd w 1 A n (xs.map bJ)) (B : Option Addr) (m c' : Nat) (ys : List Int) (R' : Rd w 1 B m (ys.map bJ)) :
  Calls Tryz.prog 23 #[.slice A n c, .slice B m c'] w (fun ex w' => ∃ v, ex = .returned v ∧ (fun v w' => v = .bool (decide (xs = ys)) ∧ Below w.heap.size w w') v w') := by
 have hlen : xs.length = n := by simpa using R.len
 have hlen' : ys.length = m := by simpa using R'.len
 have hbd := R.bound
 have hbd' := R'.bound
 refine aI #[.tmp 4] 26 Tryz.func23 rfl Tryz.results23 Tryz.ntmps23 rfl ?_
 have M0 := Mem.refl w
 refine aE (aA (wq (aJ (.bool false) rfl) rfl (aB (aC (aE (aE (aA (dO rfl rfl (wq (dC Tryz.underlying31 rfl) rfl (dO rfl rfl ?_))))))))))
 refine wq (dC Tryz.underlying31 rfl) rfl (cZ rfl rfl rfl rfl (aB (aC ?_)))
 refine aW rfl (fun h10 => ?_) (fun h10 => ?_)
 ·refine aE (aA (wq (aJ (.bool false) rfl) rfl (aB (aC (aO (cM (cD (.bool false) rfl ?_)))))))
  exact ⟨bF (fun e => h10 (by rw [← hlen, ← hlen', e])), M0.below⟩
 ·have hnm : n = m := by omega
  refine aL (aC (aE (aE (aA (bI rfl rfl (aB (aC (aQ (dS (σ := Nat) [0, 1] (fun k => [(5, .int .i64 (k : Int))]) (fun k w' => (k ≤ n ∧ ∀ (j : Nat) (x : Int), j < k → xs[j]? = some x → ys[j]? = some x) ∧ Mem w [] [] w') (fun k => n - k) 0 (bA rfl eB) (⟨⟨by omega, fun j c hj => by omega⟩, M0⟩) ?_)))))))))
  rintro k ρ1 w1 ⟨⟨hk, hne⟩, hM1⟩
  refine aE (aE (aA (aP rfl rfl (dO rfl rfl (wq (dC Tryz.underlying31 rfl) rfl (cZ rfl rfl rfl rfl (aB (aC ?_))))))))
  refine aW rfl (fun h14 => ?_) (fun h14 => ?_)
  ·obtain ⟨xb, hxb⟩ := cS (xs := xs) (k := k) hlen (by omega)
   obtain ⟨yb, hyb⟩ := cS (xs := ys) (k := k) hlen' (by omega)
   refine aL (aC (aE (aQ (aE (bQ [(0, 0), (1, 0), (2, 1), (3, 1), (4, 0), (5, 0), (6, 1), (7, 1), (8, 0)] mixed rfl (by kernel_rfl) (fun w2 hb2 hh2 => ?_))))))
   have M2 := hM1.drew hb2 hh2
   refine jP rfl rfl rfl (eF rfl rfl rfl (bS rfl rfl rfl (bP (k) gL rfl rfl rfl ((R.mem M2).below_len (aG bJ hxb)) ((R.mem M2).someK (aG bJ hxb))) (bS rfl rfl rfl (iV (.int _ _) aGg (R.mem M2) (aG bJ hxb) rfl) (jP rfl rfl rfl (eF rfl rfl rfl ?_)))))
   refine bS rfl rfl rfl (bP (k) gL rfl rfl rfl ((R'.mem M2).below_len (aG bJ hyb)) ((R'.mem M2).someK (aG bJ hyb))) (bS rfl rfl rfl (iV (.int _ _) aGg (R'.mem M2) (aG bJ hyb) rfl) (aV rfl rfl rfl (fun _ => bZ (.bool (decide _)) rfl rfl rfl) (bX (aC ?_))))
   refine aW rfl (fun h25 => ?_) (fun h25 => ?_)
   ·refine aE (aA (wq (aJ (.bool false) rfl) rfl (aB (aC (aO (kO (cM (rS ?_))))))))
    refine kO (cM (cD (.bool false) rfl ?_))
    exact ⟨bF (fun e => h25 (by rw [e] at hxb; rw [hxb] at hyb; injection hyb)), M2.below⟩
   ·refine aL (cV (aC (aA (aP rfl rfl (wq (aY rfl rfl (by omega) (by omega)) rfl (bI rfl rfl ?_))))))
    refine aB ?_
    refine cG (k + 1) (bA rfl eB) (cN rfl (cN rfl gV)) ?_ ?_
    ·exact ⟨⟨by omega, pI (p := fun j x => ys[j]? = some x) hne hxb (by rw [hyb, Decidable.not_not.1 h25])⟩, M2⟩
    ·omega
  ·refine cX (dF (dK (eS (aC (aE (aA (wq (aJ (.bool true) rfl) rfl ?_)))))))
   refine aB (aC (aO (cD (.bool true) rfl ?_)))
   exact ⟨bT (aZv hlen hlen' hnm (fun j x hj hx => hne j x (by omega) hx)), hM1.below⟩
set_option maxHeartbeats 16000000 in
theorem aAb (w : World) (A : Option Addr) (n c : Nat) (xs : List Body) (R : Rd w 10 A n (xs.map aF)) (hn : n ≤ 4096) (hb : ∀ b ∈ xs, InB b) :
  Calls Tryz.prog 25 #[.slice A n c] w (fun ex w' => ∃ v, ex = .returned v ∧ (fun v w' => ∃ q : Row, v = .slice q.A q.n q.c ∧ bC 5 1 q.A q.n q.c ((oG xs).map bJ) q.e ∧ Mem w [] [q.e] w') v w') := by
 have hlen : xs.length = n := by simpa using R.len
 have hbd := R.bound
 refine aI #[.tmp 2] 84 Tryz.func25 rfl Tryz.results25 Tryz.ntmps25 rfl ?_
 have M0 := Mem.refl w
 refine aE (aA (eM rfl rfl (aB (aC (aE (aA (cT [.int _ _, .int _ _, .int _ _, .int _ _] (lL.map bJ) rfl gL M0 rfl rfl rfl rfl (dG rfl) (by decide) (fun b1 w1 M1 => ?_))))))))
 have hlit6 := kH (T := 5) (b := b1) (lL.map bJ) (rH _) rfl (by decide)
 refine aUh 0 Tryz.underlying31 Tryz.underlying5 M1 rfl rfl rfl rfl hlit6 (by decide) (fun e2 w2 M2 hR2 => (dO rfl rfl (wq (dC Tryz.underlying29 rfl) rfl (bY tW rfl rfl (iC _ (n : Int) (by omega)) ?_))))
 rintro v3 w3 ⟨q0, rfl, hn0, hw0, hM3⟩
 have M3 : Mem _ _ [_, _] _ := M2.call0 hM3
 refine gU 0 ((cU (n : Int)).map bJ) gL M3 rfl rfl rfl rfl rfl hR2 (hw0.rd M3 (bH (i := 1) rfl)) (iI _) (by omega) (fun A4 c4 e4 w4 M4 hR4 hA4 => (eM rfl rfl (aB (aC (aE (aE (aA (bI rfl rfl (aB (aC (aQ (dS (σ := Nat × Row) [0, 2] (fun (k, q) => [(3, .slice q.A q.n q.c), (4, .int .i64 (k : Int))]) (fun (k, q) w' => (k ≤ n ∧ q.n = 8 + 40 * k ∧ bC 5 1 q.A q.n q.c (((lL ++ cU (n : Int)) ++ (xs.take k).flatMap mM).map bJ) q.e) ∧ Mem w [] [q.e] w') (fun (k, q) => n - k) (0, ⟨A4, 4 + q0.n, c4, e4⟩) (bA rfl (bA rfl eB)) (⟨⟨by omega, (show 4 + q0.n = 8 by omega), by rw [List.take_zero, List.flatMap_nil, List.append_nil, List.map_append]; exact hR4⟩, M4.keep [true, false]⟩) ?_))))))))))))
 rintro ⟨k, q⟩ ρ5 w5 ⟨⟨hk, hqn, hq⟩, hM5⟩
 refine aE (aE (aA (aP rfl rfl (dO rfl rfl (wq (dC Tryz.underlying29 rfl) rfl (cZ rfl rfl rfl rfl (aB (aC ?_))))))))
 refine aW rfl (fun h15 => ?_) (fun h15 => ?_)
 ·obtain ⟨xb, hxb⟩ := cS (xs := xs) (k := k) hlen (by omega)
  obtain ⟨i0, i1, i2, i3, i4, i5, i6, i7, i8, i9⟩ := hb xb (List.mem_of_getElem? hxb)
  refine aL (aC (aE (aQ (aE (aA (dO rfl rfl (aP rfl rfl (wq (bP (k) dH rfl rfl rfl ((R.mem hM5).below_len (aG aF hxb)) ((R.mem hM5).someK (aG aF hxb))) rfl (wq (dN _ bO (R.mem hM5) (aG aF hxb) rfl) rfl (aS fN hM5 rfl rfl (fun b6 w6 M6 => ?_)))))))))))
  refine bG 1 _ bO M6 rfl rfl rfl rfl rfl (aR rfl) rfl (fun w7 M7 => (aB (aC (aE (bQ [(0, 0), (1, 0), (2, 1), (3, 0), (6, 0), (7, 1), (8, 0), (4, 2), (5, 2), (9, 2), (10, 2), (11, 0)] mixed rfl (by kernel_rfl) (fun w8 hb8 hh8 => ?_))))))
  have M8 := M7.drew hb8 hh8
  refine jP rfl rfl rfl (aV rfl rfl rfl (fun _ => aD 0 dL rfl) (bS rfl rfl rfl (aM 1 (.int _ _) bW M8 rfl rfl rfl) (aV rfl rfl rfl (fun _ => aZ uV Tryz.underlying2 rfl (fH _ (by omega) (by omega))) (aV rfl rfl rfl (fun _ => aD 1 lH rfl) (bS rfl rfl rfl (aM 1 (.int _ _) aT M8 rfl rfl rfl) ?_)))))
  refine aV rfl rfl rfl (fun _ => aZ dQ Tryz.underlying2 rfl (fH _ (by omega) (by omega))) (dT [false, true] rfl (by kernel_rfl) (bY tW rfl rfl (iC _ xb.key (by omega)) ?_))
  rintro v9 w9 ⟨q9, rfl, hn9, hw9, hM9⟩
  have M9 : Mem _ _ [_, _, _] _ := M8.call0 hM9
  refine aB (aC ⟨(dZ (bM rfl (aM 1 (.int _ _) aT M9 rfl rfl rfl)) dU), ?_⟩)
  refine dT [false] rfl (by kernel_rfl) (gU 0 ((cU xb.key).map bJ) gL M9 rfl rfl rfl rfl rfl hq (hw9.rd M9 (bH (i := 2) rfl)) (iI _) (by omega) (fun A10 c10 e10 w10 M10 hR10 hA10 => ?_))
  refine aB (aC ⟨(dZ (bM rfl (aM 1 (.int _ _) aT M10 rfl rfl rfl)) dU), ?_⟩)
  refine dT [true] rfl (by kernel_rfl) (bY tW rfl rfl (iC _ xb.radius (by omega)) ?_)
  rintro v11 w11 ⟨q11, rfl, hn11, hw11, hM11⟩
  have M11 : Mem _ _ [_, _, _, _] _ := M10.call0 hM11
  refine aB (aC ⟨dU, ?_⟩)
  refine dT [] rfl (by kernel_rfl) (gU 0 ((cU xb.radius).map bJ) gL M11 rfl rfl rfl rfl rfl hR10 (hw11.rd M11 (bH (i := 3) rfl)) (iI _) (by omega) (fun A12 c12 e12 w12 M12 hR12 hA12 => ?_))
  refine aB (aC ⟨dU, ?_⟩)
  refine aV rfl rfl rfl (fun _ => aJ (.slice _ _ _) rfl) (bX (aC (aE (bQ [(0, 0), (1, 0), (2, 0), (3, 1), (4, 0), (7, 0), (8, 0), (9, 1), (10, 0), (5, 2), (6, 2), (11, 2), (12, 2), (13, 0)] mixed rfl (by kernel_rfl) (fun w13 hb13 hh13 => ?_)))))
  have M13 := M12.drew hb13 hh13
  refine jP rfl rfl rfl (aV rfl rfl rfl (fun _ => aD 2 iP rfl) (aV rfl rfl rfl (fun _ => aD 0 cR rfl) (bS rfl rfl rfl (aM 1 (.int _ _) aT M13 rfl rfl rfl) (aV rfl rfl rfl (fun _ => aZ dQ Tryz.underlying2 rfl (fH _ (by omega) (by omega))) (aV rfl rfl rfl (fun _ => aD 2 iP rfl) ?_)))))
  refine aV rfl rfl rfl (fun _ => aD 1 cO rfl) (bS rfl rfl rfl (aM 1 (.int _ _) aT M13 rfl rfl rfl) (aV rfl rfl rfl (fun _ => aZ dQ Tryz.underlying2 rfl (fH _ (by omega) (by omega))) (dT [false, true] rfl (by kernel_rfl) (bY tW rfl rfl (iC _ xb.ax (by omega)) ?_))))
  rintro v14 w14 ⟨q14, rfl, hn14, hw14, hM14⟩
  have M14 : Mem _ _ [_, _, _, _, _] _ := M13.call0 hM14
  refine aB (aC ⟨(dZ (bM rfl (aM 1 (.int _ _) aT M14 rfl rfl rfl)) dU), ?_⟩)
  refine dT [false] rfl (by kernel_rfl) (gU 0 ((cU xb.ax).map bJ) gL M14 rfl rfl rfl rfl rfl hR12 (hw14.rd M14 (bH (i := 4) rfl)) (iI _) (by omega) (fun A15 c15 e15 w15 M15 hR15 hA15 => ?_))
  refine aB (aC ⟨(dZ (bM rfl (aM 1 (.int _ _) aT M15 rfl rfl rfl)) dU), ?_⟩)
  refine dT [true] rfl (by kernel_rfl) (bY tW rfl rfl (iC _ xb.ay (by omega)) ?_)
  rintro v16 w16 ⟨q16, rfl, hn16, hw16, hM16⟩
  have M16 : Mem _ _ [_, _, _, _, _, _] _ := M15.call0 hM16
  refine aB (aC ⟨dU, ?_⟩)
  refine dT [] rfl (by kernel_rfl) (gU 0 ((cU xb.ay).map bJ) gL M16 rfl rfl rfl rfl rfl hR15 (hw16.rd M16 (bH (i := 5) rfl)) (iI _) (by omega) (fun A17 c17 e17 w17 M17 hR17 hA17 => ?_))
  refine aB (aC ⟨dU, ?_⟩)
  refine aV rfl rfl rfl (fun _ => aJ (.slice _ _ _) rfl) (bX (aC (aE (bQ [(0, 0), (1, 0), (2, 1), (3, 0), (6, 0), (7, 1), (8, 0), (4, 2), (5, 2), (9, 2), (10, 2), (11, 0)] mixed rfl (by kernel_rfl) (fun w18 hb18 hh18 => ?_)))))
  have M18 := M17.drew hb18 hh18
  refine jP rfl rfl rfl (aV rfl rfl rfl (fun _ => aD 4 eH rfl) (bS rfl rfl rfl (aM 1 (.int _ _) aT M18 rfl rfl rfl) (aV rfl rfl rfl (fun _ => aZ dQ Tryz.underlying2 rfl (fH _ (by omega) (by omega))) (aV rfl rfl rfl (fun _ => aD 5 mY rfl) (bS rfl rfl rfl (aM 1 (.int _ _) aT M18 rfl rfl rfl) ?_)))))
  refine aV rfl rfl rfl (fun _ => aZ dQ Tryz.underlying2 rfl (fH _ (by omega) (by omega))) (dT [false, true] rfl (by kernel_rfl) (bY tW rfl rfl (iC _ xb.mass (by omega)) ?_))
  rintro v19 w19 ⟨q19, rfl, hn19, hw19, hM19⟩
  have M19 : Mem _ _ [_, _, _, _, _, _, _] _ := M18.call0 hM19
  refine aB (aC ⟨(dZ (bM rfl (aM 1 (.int _ _) aT M19 rfl rfl rfl)) dU), ?_⟩)
  refine dT [false] rfl (by kernel_rfl) (gU 0 ((cU xb.mass).map bJ) gL M19 rfl rfl rfl rfl rfl hR17 (hw19.rd M19 (bH (i := 6) rfl)) (iI _) (by omega) (fun A20 c20 e20 w20 M20 hR20 hA20 => ?_))
  refine aB (aC ⟨(dZ (bM rfl (aM 1 (.int _ _) aT M20 rfl rfl rfl)) dU), ?_⟩)
  refine dT [true] rfl (by kernel_rfl) (bY tW rfl rfl (iC _ xb.bounce (by omega)) ?_)
  rintro v21 w21 ⟨q21, rfl, hn21, hw21, hM21⟩
  have M21 : Mem _ _ [_, _, _, _, _, _, _, _] _ := M20.call0 hM21
  refine aB (aC ⟨dU, ?_⟩)
  refine dT [] rfl (by kernel_rfl) (gU 0 ((cU xb.bounce).map bJ) gL M21 rfl rfl rfl rfl rfl hR20 (hw21.rd M21 (bH (i := 7) rfl)) (iI _) (by omega) (fun A22 c22 e22 w22 M22 hR22 hA22 => ?_))
  refine aB (aC ⟨dU, ?_⟩)
  refine aV rfl rfl rfl (fun _ => aJ (.slice _ _ _) rfl) (bX (aC (aE (bQ [(0, 0), (1, 0), (2, 0), (3, 1), (4, 0), (7, 0), (8, 0), (9, 1), (10, 0), (5, 2), (6, 2), (11, 2), (12, 2), (13, 0)] mixed rfl (by kernel_rfl) (fun w23 hb23 hh23 => ?_)))))
  have M23 := M22.drew hb23 hh23
  refine jP rfl rfl rfl (aV rfl rfl rfl (fun _ => aD 6 fI rfl) (aV rfl rfl rfl (fun _ => aD 0 cR rfl) (bS rfl rfl rfl (aM 1 (.int _ _) aT M23 rfl rfl rfl) (aV rfl rfl rfl (fun _ => aZ dQ Tryz.underlying2 rfl (fH _ (by omega) (by omega))) (aV rfl rfl rfl (fun _ => aD 6 fI rfl) ?_)))))
  refine aV rfl rfl rfl (fun _ => aD 1 cO rfl) (bS rfl rfl rfl (aM 1 (.int _ _) aT M23 rfl rfl rfl) (aV rfl rfl rfl (fun _ => aZ dQ Tryz.underlying2 rfl (fH _ (by omega) (by omega))) (dT [false, true] rfl (by kernel_rfl) (bY tW rfl rfl (iC _ xb.px (by omega)) ?_))))
  rintro v24 w24 ⟨q24, rfl, hn24, hw24, hM24⟩
  have M24 : Mem _ _ [_, _, _, _, _, _, _, _, _] _ := M23.call0 hM24
  refine aB (aC ⟨(dZ (bM rfl (aM 1 (.int _ _) aT M24 rfl rfl rfl)) dU), ?_⟩)
  refine dT [false] rfl (by kernel_rfl) (gU 0 ((cU xb.px).map bJ) gL M24 rfl rfl rfl rfl rfl hR22 (hw24.rd M24 (bH (i := 8) rfl)) (iI _) (by omega) (fun A25 c25 e25 w25 M25 hR25 hA25 => ?_))
  refine aB (aC ⟨(dZ (bM rfl (aM 1 (.int _ _) aT M25 rfl rfl rfl)) dU), ?_⟩)
  refine dT [true] rfl (by kernel_rfl) (bY tW rfl rfl (iC _ xb.py (by omega)) ?_)
  rintro v26 w26 ⟨q26, rfl, hn26, hw26, hM26⟩
  have M26 : Mem _ _ [_, _, _, _, _, _, _, _, _, _] _ := M25.call0 hM26
  refine aB (aC ⟨dU, ?_⟩)
  refine dT [] rfl (by kernel_rfl) (gU 0 ((cU xb.py).map bJ) gL M26 rfl rfl rfl rfl rfl hR25 (hw26.rd M26 (bH (i := 9) rfl)) (iI _) (by omega) (fun A27 c27 e27 w27 M27 hR27 hA27 => ?_))
  refine aB (aC ⟨dU, ?_⟩)
  refine aV rfl rfl rfl (fun _ => aJ (.slice _ _ _) rfl) (bX (aC (bQ [(0, 0), (1, 0), (2, 0), (3, 1), (4, 0), (7, 0), (8, 0), (9, 1), (10, 0), (5, 2), (6, 2), (11, 2), (12, 2), (13, 0)] mixed rfl (by kernel_rfl) (fun w28 hb28 hh28 => ?_))))
  have M28 := M27.drew hb28 hh28
  refine jP rfl rfl rfl (aV rfl rfl rfl (fun _ => aD 8 dV rfl) (aV rfl rfl rfl (fun _ => aD 0 cR rfl) (bS rfl rfl rfl (aM 1 (.int _ _) aT M28 rfl rfl rfl) (aV rfl rfl rfl (fun _ => aZ dQ Tryz.underlying2 rfl (fH _ (by omega) (by omega))) (aV rfl rfl rfl (fun _ => aD 8 dV rfl) ?_)))))
  refine aV rfl rfl rfl (fun _ => aD 1 cO rfl) (bS rfl rfl rfl (aM 1 (.int _ _) aT M28 rfl rfl rfl) (aV rfl rfl rfl (fun _ => aZ dQ Tryz.underlying2 rfl (fH _ (by omega) (by omega))) (dT [false, true] rfl (by kernel_rfl) (bY tW rfl rfl (iC _ xb.vx (by omega)) ?_))))
  rintro v29 w29 ⟨q29, rfl, hn29, hw29, hM29⟩
  have M29 : Mem _ _ [_, _, _, _, _, _, _, _, _, _, _] _ := M28.call0 hM29
  refine aB (aC ⟨(dZ (bM rfl (aM 1 (.int _ _) aT M29 rfl rfl rfl)) dU), ?_⟩)
  refine dT [false] rfl (by kernel_rfl) (gU 0 ((cU xb.vx).map bJ) gL M29 rfl rfl rfl rfl rfl hR27 (hw29.rd M29 (bH (i := 10) rfl)) (iI _) (by omega) (fun A30 c30 e30 w30 M30 hR30 hA30 => ?_))
  refine aB (aC ⟨(dZ (bM rfl (aM 1 (.int _ _) aT M30 rfl rfl rfl)) dU), ?_⟩)
  refine dT [true] rfl (by kernel_rfl) (bY tW rfl rfl (iC _ xb.vy (by omega)) ?_)
  rintro v31 w31 ⟨q31, rfl, hn31, hw31, hM31⟩
  have M31 : Mem _ _ [_, _, _, _, _, _, _, _, _, _, _, _] _ := M30.call0 hM31
  refine aB (aC ⟨dU, ?_⟩)
  refine dT [] rfl (by kernel_rfl) (gU 0 ((cU xb.vy).map bJ) gL M31 rfl rfl rfl rfl rfl hR30 (hw31.rd M31 (bH (i := 11) rfl)) (iI _) (by omega) (fun A32 c32 e32 w32 M32 hR32 hA32 => ?_))
  refine aB (aC ⟨dU, ?_⟩)
  refine aV rfl rfl rfl (fun _ => aJ (.slice _ _ _) rfl) (bX (cV (aC (aA (aP rfl rfl (wq (aY rfl rfl (by omega) (by omega)) rfl ?_))))))
  refine bI rfl rfl (aB ?_)
  refine cG (k + 1, ⟨A32, q.n + q9.n + q11.n + q14.n + q16.n + q19.n + q21.n + q24.n + q26.n + q29.n + q31.n, c32, e32⟩) (bA rfl (bA rfl eB)) (cN rfl (cN rfl gV)) ?_ ?_
  ·exact ⟨⟨by omega, (show q.n + q9.n + q11.n + q14.n + q16.n + q19.n + q21.n + q24.n + q26.n + q29.n + q31.n = 8 + 40 * (k + 1) by omega), by rw [aIh hxb, ← List.append_assoc, List.map_append]; simpa only [mM, aTj, List.flatMap_cons, List.flatMap_nil, List.append_nil, List.map_append, List.append_assoc] using hR32⟩, M32.keep [true, false, false, false, false, false, false, false, false, false, false, false]⟩
  ·(show n - (k + 1) < n - k; omega)
 ·obtain rfl : k = n := by omega
  rw [List.take_of_length_le (by omega), ← hlen] at hq
  refine cX (dF (dK (eS (aC (aE (aA (dO rfl rfl ?_)))))))
  refine eM rfl rfl (aB (aC (aO (cD (.slice _ _ _) rfl ?_))))
  exact ⟨q, rfl, hq, hM5⟩
theorem lC (l : List Int) (a b : Nat) {m : Nat} (h : b + 4 ≤ m) : eG ((l.drop a).take m) b = eG l (a + b) := by
 have g (j : Nat) (hj : j < m) : ((l.drop a).take m).getD j 0 = l.getD (a + j) 0 := by
  rw [List.getD_eq_getElem?_getD, List.getD_eq_getElem?_getD, List.getElem?_take_of_lt hj, List.getElem?_drop]
 unfold eG
 rw [g b (by omega), g (b + 1) (by omega), g (b + 2) (by omega), g (b + 3) (by omega)]
 rfl
set_option maxHeartbeats 32000000 in
theorem aJv (w : World) (A : Option Addr) (n c : Nat) (ls : List Int) (R : Rd w 1 A n (ls.map bJ)) (hB : jH ls) (hcap : n ≤ c) (hn : n ≤ 1048576) :
  Calls Tryz.prog 98 #[.slice A n c] w (fun ex w' => ∃ v, ex = .returned v ∧ (fun v w' => ∃ r : Row, v = .tuple #[.slice r.A r.n r.c, .int .i64 (mN ls).2] ∧ bC 39 10 r.A r.n r.c (((mN ls).1).map aF) r.e ∧ Mem w [] [r.e] w') v w') := by
 have hlen : ls.length = n := by simpa using R.len
 have hbd := R.bound
 refine aI #[.tmp 2, .tmp 3] 82 Tryz.func98 rfl Tryz.results98 Tryz.ntmps98 rfl ?_
 have M0 := Mem.refl w
 refine aE (aA (eM rfl rfl (bI rfl rfl (aB (aC (aE (aE (aA (dO rfl rfl (wq (dC Tryz.underlying31 rfl) rfl ?_))))))))))
 refine cZ rfl rfl rfl rfl (wq (aH (.bool (decide _)) rfl) rfl ?_)
 refine dM 11 rfl (fun g11 => ?_) (fun g11 => ?_)
 ·refine aN rfl rfl (aN rfl rfl (aN rfl rfl (aN rfl rfl (wq (bR true (.bool true) rfl rfl) rfl (wq (aH (.bool true) rfl) rfl ?_)))))
  refine aN rfl rfl (aN rfl rfl (aN rfl rfl (aN rfl rfl (aN rfl rfl (aN rfl rfl ?_)))))
  refine aN rfl rfl (aN rfl rfl (wq (bR true (.bool true) rfl rfl) rfl (aB (aC (cF rfl (aE (aA ?_)))))))
  refine eM rfl rfl (bI rfl rfl (aB (aC (aO (cM (gA (.slice _ _ _) (.int _ _) rfl rfl ?_))))))
  have hd := uL (l := ls) (fun h => by have := h.1; omega)
  exact ⟨⟨none, 0, 0, (none, default)⟩, by rw [hd], by rw [hd]; exact bC.nil _ _ _, (M0.keep []).dummy default⟩
 ·refine dO rfl rfl (wq (fE (0) (4) gL rfl rfl ⟨_, rfl⟩ (by omega) (by omega) (by omega)) rfl (wq (bBe Tryz.underlying31 Tryz.underlying5 Tryz.underlying9 (Rd.subB (R.mem M0) (0) (4) (by omega) (by omega) hcap) rfl) rfl (wq (aNm rfl rfl) rfl (wq (bR false (.bool (decide _)) rfl rfl) rfl (wq (aH (.bool (decide _)) rfl) rfl ?_)))))
  refine dM 17 rfl (fun g17 => ?_) (fun g17 => ?_)
  ·refine aN rfl rfl (aN rfl rfl (aN rfl rfl (aN rfl rfl (aN rfl rfl (aN rfl rfl ?_)))))
   refine aN rfl rfl (aN rfl rfl (wq (bR true (.bool true) rfl rfl) rfl (aB (aC (cF rfl (aE (aA ?_)))))))
   refine eM rfl rfl (bI rfl rfl (aB (aC (aO (cM (gA (.slice _ _ _) (.int _ _) rfl rfl ?_))))))
   have hd := uL (l := ls) (fun h => ((aCd ((ls.drop 0).take (4 - 0)) (hB.sub 0 4) [66, 73, 76, 49]).1 g17) (by rw [← pR]; simpa using h.2.1))
   exact ⟨⟨none, 0, 0, (none, default)⟩, by rw [hd], by rw [hd]; exact bC.nil _ _ _, (M0.keep []).dummy default⟩
  ·refine dO rfl rfl (wq (dC Tryz.underlying31 rfl) rfl (dO rfl rfl (wq (fE (4) (8) gL rfl ⟨_, rfl⟩ ⟨_, rfl⟩ (by omega) (by omega) (by omega)) rfl (bY aQo rfl rfl (sC _ _ _ _ ((ls.drop (4)).take (8 - (4))) (Rd.subB (R.mem M0) (4) (8) (by omega) (by omega) hcap) (hB.sub _ _) (by omega)) ?_))))
   rintro v1 w1 ⟨rfl, hb1⟩
   have M1 := M0.callB hb1
   have hr4 := mD hB (a := 4) (by omega)
   obtain ⟨N, hN⟩ : ∃ N : Nat, eG ls 4 = (N : Int) := ⟨(eG ls 4).toNat, by omega⟩
   have hNl : N ≤ 4294967295 := by omega
   refine aK 22 (.int .i64 (N : Int)) (iE ((fM (by omega)).trans hN)) (wq (fB rfl rfl (by omega) (by omega)) rfl (wq (aY rfl rfl (by omega) (by omega)) rfl (cZ rfl rfl rfl rfl (wq (bR false (.bool (decide _)) rfl rfl) rfl (aB (aC ?_))))))
   refine aW rfl (fun h26 => ?_) (fun h26 => ?_)
   ·refine aE (aA (eM rfl rfl (bI rfl rfl (aB (aC (aO (cM (gA (.slice _ _ _) (.int _ _) rfl rfl ?_))))))))
    have hd := uL (l := ls) (fun h => h26 (by have := h.2.2; rw [hN] at this; omega))
    exact ⟨⟨none, 0, 0, (none, default)⟩, by rw [hd], by rw [hd]; exact bC.nil _ _ _, (M1.keep []).dummy default⟩
   ·have hm4 := Decidable.not_not.1 (mt ((aCd ((ls.drop 0).take (4 - 0)) (hB.sub 0 4) [66, 73, 76, 49]).2) g17)
    rw [← pR] at hm4
    have hfm : zX ls := ⟨by omega, by simpa using hm4, by rw [hN]; omega⟩
    have hnN : n = 8 + 40 * N := by omega
    refine aL (aC (aE (aA (eM rfl rfl ?_))))
    have M2 := M1.dummy default
    refine aB (aC (aE (aE (aA (bI rfl rfl (aB (aC (aQ (dS (σ := Nat × Row) [0, 2, 3] (fun (i, q) => [(4, .slice q.A q.n q.c), (5, .int .i64 ((8 + 40 * i : Nat) : Int))]) (fun (i, q) w' => (i ≤ N ∧ bC 39 10 q.A q.n q.c ((nZ ls i).map aF) q.e) ∧ Mem w [] [q.e] w') (fun (i, q) => N - i) (0, gT) (bA rfl (bA rfl eB)) (⟨⟨by omega, bC.nil _ _ _⟩, M2⟩) ?_)))))))))
    rintro ⟨i, q⟩ ρ3 w3 ⟨⟨hi, hq⟩, hM3⟩
    have hqn : (nZ ls i).length = q.n := by simpa using hq.1
    rw [wK] at hqn
    refine aE (aE (aA (aP rfl rfl (dO rfl rfl (wq (dC Tryz.underlying31 rfl) rfl (cZ rfl rfl rfl rfl (aB (aC ?_))))))))
    refine aW rfl (fun h30 => ?_) (fun h30 => ?_)
    ·refine aL (aC (aE (aQ (aE (aA (dO rfl rfl (aP rfl rfl (aP rfl rfl (wq (aY rfl rfl (by omega) (by omega)) rfl (aK 36 (.int .i64 ((8 + 40 * i + 40 : Nat) : Int)) (iE (by omega)) ?_))))))))))
     refine wq (fE (((8 + 40 * i : Nat) : Int)) (((8 + 40 * i + 40 : Nat) : Int)) gL rfl ⟨_, rfl⟩ ⟨_, rfl⟩ (by omega) (by omega) (by omega)) rfl (eM rfl rfl (aB (aC (bQ [(0, 0), (1, 0), (2, 0), (5, 0), (6, 0), (8, 0), (9, 0), (11, 0), (12, 0), (15, 0), (16, 0), (18, 0), (19, 0), (21, 0), (22, 0), (24, 0), (25, 0), (28, 0), (29, 0), (31, 0), (32, 0), (3, 2), (4, 0), (7, 2), (10, 2), (13, 2), (14, 0), (17, 2), (20, 2), (23, 2), (26, 2), (27, 0), (30, 2), (33, 2), (34, 0), (35, 0), (36, 2), (37, 2), (38, 0)] mixed rfl (by kernel_rfl) (fun w4 hb4 hh4 => ?_)))))
     have M4 := hM3.drew hb4 hh4
     refine jP rfl rfl rfl (jP rfl rfl rfl (aV rfl rfl rfl (fun _ => fE (0) (4) gL rfl rfl ⟨_, rfl⟩ (by omega) (by omega) (by omega)) (jP rfl rfl rfl (aV rfl rfl rfl (fun _ => fE (4) (8) gL rfl ⟨_, rfl⟩ ⟨_, rfl⟩ (by omega) (by omega) (by omega)) (jP rfl rfl rfl ?_)))))
     refine aV rfl rfl rfl (fun _ => fE (8) (12) gL rfl ⟨_, rfl⟩ ⟨_, rfl⟩ (by omega) (by omega) (by omega)) (jP rfl rfl rfl (aV rfl rfl rfl (fun _ => fE (12) (16) gL rfl ⟨_, rfl⟩ ⟨_, rfl⟩ (by omega) (by omega) (by omega)) (jP rfl rfl rfl (aV rfl rfl rfl (fun _ => fE (16) (20) gL rfl ⟨_, rfl⟩ ⟨_, rfl⟩ (by omega) (by omega) (by omega)) ?_))))
     refine jP rfl rfl rfl (aV rfl rfl rfl (fun _ => fE (20) (24) gL rfl ⟨_, rfl⟩ ⟨_, rfl⟩ (by omega) (by omega) (by omega)) (jP rfl rfl rfl (aV rfl rfl rfl (fun _ => fE (24) (28) gL rfl ⟨_, rfl⟩ ⟨_, rfl⟩ (by omega) (by omega) (by omega)) (jP rfl rfl rfl (aV rfl rfl rfl (fun _ => fE (28) (32) gL rfl ⟨_, rfl⟩ ⟨_, rfl⟩ (by omega) (by omega) (by omega)) ?_)))))
     refine jP rfl rfl rfl (aV rfl rfl rfl (fun _ => fE (32) (36) gL rfl ⟨_, rfl⟩ ⟨_, rfl⟩ (by omega) (by omega) (by omega)) (jP rfl rfl rfl (aV rfl rfl rfl (fun _ => fE (36) (40) gL rfl ⟨_, rfl⟩ ⟨_, rfl⟩ (by omega) (by omega) (by omega)) (dT [] rfl (by kernel_rfl) (bY aQo rfl rfl (sC _ _ _ _ ((((ls.drop (8 + 40 * i)).take ((8 + 40 * i) + 40 - (8 + 40 * i))).drop 0).take (4 - 0)) (Rd.subB (Rd.subB (R.mem M4) ((8 + 40 * i)) ((8 + 40 * i) + 40) (by omega) (by omega) hcap) 0 4 (by omega) (by omega) (by omega)) ((hB.sub _ _).sub _ _) (by omega)) ?_)))))
     rintro v5 w5 ⟨rfl, hb5⟩
     have M5 := M4.callB hb5
     refine aB (aC ⟨dU, ?_⟩)
     refine dX 41 (.int .i64 (eG ls (8 + 40 * i))) (iE ((fM (by omega)).trans (lC ls (8 + 40 * i) 0 (by omega)))) (aV rfl rfl rfl (fun _ => dA lW Tryz.underlying35 rfl) (dX 42 (.int .u32 (eG ls (8 + 40 * i))) (iE (aFb _ (mD hB (a := 8 + 40 * i) (by omega)).1 (mD hB (a := 8 + 40 * i) (by omega)).2.1)) ?_))
     refine dT [] rfl (by kernel_rfl) (bY rK rfl rfl (gZ _ _ _ _ ((((ls.drop (8 + 40 * i)).take ((8 + 40 * i) + 40 - (8 + 40 * i))).drop 4).take (8 - 4)) (Rd.subB (Rd.subB (R.mem M5) ((8 + 40 * i)) ((8 + 40 * i) + 40) (by omega) (by omega) hcap) 4 8 (by omega) (by omega) (by omega)) ((hB.sub _ _).sub _ _) (by omega)) ?_)
     rintro v6 w6 ⟨rfl, hb6⟩
     have M6 := M5.callB hb6
     refine aB (aC ⟨dU, ?_⟩)
     refine dX 45 (.int .i32 (kA (eG ls (8 + 40 * i + 4)))) (iE (congrArg kA ((fM (by omega)).trans (lC ls (8 + 40 * i) 4 (by omega))))) (dT [] rfl (by kernel_rfl) (bY rK rfl rfl (gZ _ _ _ _ ((((ls.drop (8 + 40 * i)).take ((8 + 40 * i) + 40 - (8 + 40 * i))).drop 8).take (12 - 8)) (Rd.subB (Rd.subB (R.mem M6) ((8 + 40 * i)) ((8 + 40 * i) + 40) (by omega) (by omega) hcap) 8 12 (by omega) (by omega) (by omega)) ((hB.sub _ _).sub _ _) (by omega)) ?_))
     rintro v7 w7 ⟨rfl, hb7⟩
     have M7 := M6.callB hb7
     refine aB (aC ⟨dU, ?_⟩)
     refine dX 48 (.int .i32 (kA (eG ls (8 + 40 * i + 8)))) (iE (congrArg kA ((fM (by omega)).trans (lC ls (8 + 40 * i) 8 (by omega))))) (dT [] rfl (by kernel_rfl) (bY rK rfl rfl (gZ _ _ _ _ ((((ls.drop (8 + 40 * i)).take ((8 + 40 * i) + 40 - (8 + 40 * i))).drop 12).take (16 - 12)) (Rd.subB (Rd.subB (R.mem M7) ((8 + 40 * i)) ((8 + 40 * i) + 40) (by omega) (by omega) hcap) 12 16 (by omega) (by omega) (by omega)) ((hB.sub _ _).sub _ _) (by omega)) ?_))
     rintro v8 w8 ⟨rfl, hb8⟩
     have M8 := M7.callB hb8
     refine aB (aC ⟨dU, ?_⟩)
     refine dX 51 (.int .i32 (kA (eG ls (8 + 40 * i + 12)))) (iE (congrArg kA ((fM (by omega)).trans (lC ls (8 + 40 * i) 12 (by omega))))) (aV rfl rfl rfl (fun _ => cC [(0, .int _ _), (1, .int _ _)] _ eK rfl rfl) (dT [] rfl (by kernel_rfl) (bY rK rfl rfl (gZ _ _ _ _ ((((ls.drop (8 + 40 * i)).take ((8 + 40 * i) + 40 - (8 + 40 * i))).drop 16).take (20 - 16)) (Rd.subB (Rd.subB (R.mem M8) ((8 + 40 * i)) ((8 + 40 * i) + 40) (by omega) (by omega) hcap) 16 20 (by omega) (by omega) (by omega)) ((hB.sub _ _).sub _ _) (by omega)) ?_)))
     rintro v9 w9 ⟨rfl, hb9⟩
     have M9 := M8.callB hb9
     refine aB (aC ⟨dU, ?_⟩)
     refine dX 55 (.int .i32 (kA (eG ls (8 + 40 * i + 16)))) (iE (congrArg kA ((fM (by omega)).trans (lC ls (8 + 40 * i) 16 (by omega))))) (dT [] rfl (by kernel_rfl) (bY rK rfl rfl (gZ _ _ _ _ ((((ls.drop (8 + 40 * i)).take ((8 + 40 * i) + 40 - (8 + 40 * i))).drop 20).take (24 - 20)) (Rd.subB (Rd.subB (R.mem M9) ((8 + 40 * i)) ((8 + 40 * i) + 40) (by omega) (by omega) hcap) 20 24 (by omega) (by omega) (by omega)) ((hB.sub _ _).sub _ _) (by omega)) ?_))
     rintro v10 w10 ⟨rfl, hb10⟩
     have M10 := M9.callB hb10
     refine aB (aC ⟨dU, ?_⟩)
     refine dX 58 (.int .i32 (kA (eG ls (8 + 40 * i + 20)))) (iE (congrArg kA ((fM (by omega)).trans (lC ls (8 + 40 * i) 20 (by omega))))) (dT [] rfl (by kernel_rfl) (bY rK rfl rfl (gZ _ _ _ _ ((((ls.drop (8 + 40 * i)).take ((8 + 40 * i) + 40 - (8 + 40 * i))).drop 24).take (28 - 24)) (Rd.subB (Rd.subB (R.mem M10) ((8 + 40 * i)) ((8 + 40 * i) + 40) (by omega) (by omega) hcap) 24 28 (by omega) (by omega) (by omega)) ((hB.sub _ _).sub _ _) (by omega)) ?_))
     rintro v11 w11 ⟨rfl, hb11⟩
     have M11 := M10.callB hb11
     refine aB (aC ⟨dU, ?_⟩)
     refine dX 61 (.int .i32 (kA (eG ls (8 + 40 * i + 24)))) (iE (congrArg kA ((fM (by omega)).trans (lC ls (8 + 40 * i) 24 (by omega))))) (dT [] rfl (by kernel_rfl) (bY rK rfl rfl (gZ _ _ _ _ ((((ls.drop (8 + 40 * i)).take ((8 + 40 * i) + 40 - (8 + 40 * i))).drop 28).take (32 - 28)) (Rd.subB (Rd.subB (R.mem M11) ((8 + 40 * i)) ((8 + 40 * i) + 40) (by omega) (by omega) hcap) 28 32 (by omega) (by omega) (by omega)) ((hB.sub _ _).sub _ _) (by omega)) ?_))
     rintro v12 w12 ⟨rfl, hb12⟩
     have M12 := M11.callB hb12
     refine aB (aC ⟨dU, ?_⟩)
     refine dX 64 (.int .i32 (kA (eG ls (8 + 40 * i + 28)))) (iE (congrArg kA ((fM (by omega)).trans (lC ls (8 + 40 * i) 28 (by omega))))) (aV rfl rfl rfl (fun _ => cC [(0, .int _ _), (1, .int _ _)] _ eK rfl rfl) (dT [] rfl (by kernel_rfl) (bY rK rfl rfl (gZ _ _ _ _ ((((ls.drop (8 + 40 * i)).take ((8 + 40 * i) + 40 - (8 + 40 * i))).drop 32).take (36 - 32)) (Rd.subB (Rd.subB (R.mem M12) ((8 + 40 * i)) ((8 + 40 * i) + 40) (by omega) (by omega) hcap) 32 36 (by omega) (by omega) (by omega)) ((hB.sub _ _).sub _ _) (by omega)) ?_)))
     rintro v13 w13 ⟨rfl, hb13⟩
     have M13 := M12.callB hb13
     refine aB (aC ⟨dU, ?_⟩)
     refine dX 68 (.int .i32 (kA (eG ls (8 + 40 * i + 32)))) (iE (congrArg kA ((fM (by omega)).trans (lC ls (8 + 40 * i) 32 (by omega))))) (dT [] rfl (by kernel_rfl) (bY rK rfl rfl (gZ _ _ _ _ ((((ls.drop (8 + 40 * i)).take ((8 + 40 * i) + 40 - (8 + 40 * i))).drop 36).take (40 - 36)) (Rd.subB (Rd.subB (R.mem M13) ((8 + 40 * i)) ((8 + 40 * i) + 40) (by omega) (by omega) hcap) 36 40 (by omega) (by omega) (by omega)) ((hB.sub _ _).sub _ _) (by omega)) ?_))
     rintro v14 w14 ⟨rfl, hb14⟩
     have M14 := M13.callB hb14
     refine aB (aC ⟨dU, ?_⟩)
     refine dX 71 (.int .i32 (kA (eG ls (8 + 40 * i + 36)))) (iE (congrArg kA ((fM (by omega)).trans (lC ls (8 + 40 * i) 36 (by omega))))) (aV rfl rfl rfl (fun _ => cC [(0, .int _ _), (1, .int _ _)] _ eK rfl rfl) (aV rfl rfl rfl (fun _ => cC [(0, .int _ _), (1, .int _ _), (2, .agg (List.toArray _)), (3, .int _ _), (4, .int _ _), (5, .agg (List.toArray _)), (6, .agg (List.toArray _))] _ sT rfl rfl) ?_))
     refine dX 73 ((.agg (aF (lK ls (8 + 40 * i))).toArray)) rfl (dT [] rfl (by kernel_rfl) (cT [.agg (List.toArray _)] [aF (lK ls (8 + 40 * i))] rfl dH M14 rfl rfl rfl rfl (dG rfl) (by decide) (fun b15 w15 M15 => ?_)))
     refine aB (aC ⟨dU, ?_⟩)
     refine dT [] rfl (by kernel_rfl) (dJ 0 [aF (lK ls (8 + 40 * i))] dH M15 rfl rfl rfl rfl rfl hq rfl (by simp [aF, Go.Bil.one]) (dW.ofMem 1 M15 rfl) (by omega) (fun A16 c16 e16 w16 M16 hR16 => ?_))
     refine aB (aC ⟨dU, ?_⟩)
     refine aV rfl rfl rfl (fun _ => aJ (.slice _ _ _) rfl) (bX (cV (aC (aA (aP rfl rfl (wq (aY rfl rfl (by omega) (by omega)) rfl ?_))))))
     refine bI rfl rfl (aB ?_)
     refine cG (i + 1, ⟨A16, q.n + 1, c16, e16⟩) (bA rfl (bA (iv rfl (by omega)) eB)) (cN rfl (cN rfl (cN rfl gV))) ?_ ?_
     ·exact ⟨⟨by omega, by rw [aHk, List.map_append]; exact hR16⟩, M16.keep [true, false]⟩
     ·(show N - (i + 1) < N - i; omega)
    ·obtain rfl : i = N := by omega
     refine cX (dF (dK (eS (aC (aE (aA (dO rfl rfl ?_)))))))
     refine bY bKn rfl rfl (aLs _ _ _ _ (nZ ls i) (hq.rd hM3 (bH (i := 0) rfl))) ?_
     rintro v17 w17 ⟨rfl, hb17⟩
     have M17 := hM3.callB hb17
     refine bI rfl rfl (aB (aC (aE (aE (aA (aP rfl rfl (cZ rfl rfl rfl rfl (aB (aC ?_)))))))))
     refine aW rfl (fun h79 => ?_) (fun h79 => ?_)
     ·refine aE (aA (aP rfl rfl (eM rfl rfl (bI rfl rfl (aB (aC (aO (cM (gA (.slice _ _ _) (.int _ _) rfl rfl ?_)))))))))
      have hd := aSw hfm hN h79
      exact ⟨⟨none, 0, 0, (none, default)⟩, by rw [hd], by rw [hd]; exact bC.nil _ _ _, (M17.keep [false]).dummy default⟩
     ·refine aL (aC (aE (aA (dO rfl rfl (eM rfl rfl (bI rfl rfl (aB (aC (aO (gA (.slice _ _ _) (.int _ _) rfl rfl ?_))))))))))
      have hd := aLt hfm hN (Decidable.not_not.1 h79)
      exact ⟨q, by rw [hd], by rw [hd]; exact hq, M17⟩
end Go.Proofs.YtaoaknafiegfoaaGreatDoor
