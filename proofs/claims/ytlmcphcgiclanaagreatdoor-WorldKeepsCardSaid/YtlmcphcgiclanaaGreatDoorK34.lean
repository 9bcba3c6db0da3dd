/- Part of the proof of the laws of this seat: SW, C21a, C21b, R21a, R21b, R21c. No conditions. -/
import Derived.Test.YtlmcphcgiclanaaGreatDoorK5
import Derived.Test.YtlmcphcgiclanaaGreatDoorK22
import Derived.Test.YtlmcphcgiclanaaGreatDoorK33
import Derived.Test.YtlmcphcgiclanaaGreatDoorK32
import Derived.Test.YtlmcphcgiclanaaGreatDoorK6
import Derived.Test.YtlmcphcgiclanaaGreatDoorK24
import Derived.Test.YtlmcphcgiclanaaGreatDoorK13
import Derived.Test.YtlmcphcgiclanaaGreatDoorK17
import Derived.Test.YtlmcphcgiclanaaGreatDoorK11
set_option linter.unusedVariables false
set_option linter.unusedSimpArgs false
set_option linter.unnecessarySimpa false
namespace Go.Proofs.YtlmcphcgiclanaaGreatDoor
open Go.Bil
open Go.RowKit (Below)
open Go.Proofs
set_option maxHeartbeats 4000000 in
theorem aJy (w : World) (b : Nat) (A : Option Addr) (n c : Nat) (p : Option Nat) (er em : dP) (m : List Body) (hs : StoreIs 40 A n c p er em m) (hO : Own [(some b, bc [.slice A n c, .map p] 56), er, em] w) (x : Body) :
    Calls Tryz.prog 66 #[.pointer (some ⟨b, 0, none⟩), (.agg (aI x).toArray)] w (fun ex w' => ∃ v, ex = .returned v ∧ (fun v w' => v = .int .i64 (kD m x).2 ∧ ∃ A' n' c' p' er' em', StoreIs 40 A' n' c' p' er' em' (kD m x).1 ∧ Mem w (bX [(some b, bc [.slice A n c, .map p] 56), er, em]) [(some b, bc [.slice A' n' c', .map p'] 56), er', em'] w') v w') := by
  have hlen : m.length = n := by simpa using hs.row.1
  have hcap := hs.cap
  refine aJ #[.tmp 4] 62 Tryz.func66 rfl Tryz.results66 Tryz.ntmps66 rfl ?_
  have M0 := hO.mem
  refine aG (aB ?_)
  refine bL (.agg (List.toArray _)) M0 rfl rfl rfl (fun b1 w1 M1 => ?_)
  refine aA (aE (.int _ _) rfl) rfl rfl ?_
  refine aC (aF (aG (aG (aB ?_))))
  refine aA (aD (.pointer _) rfl) rfl rfl ?_
  refine aA (eC false Tryz.underlying143 rfl rfl) rfl rfl ?_
  refine aC (aF ?_)
  refine cH rfl ?_
  refine aN (aF (aG (aG (aB ?_))))
  refine aA (bE 3 bO M1 rfl rfl rfl) rfl rfl ?_
  refine aK aQs rfl rfl rfl ?_
  refine (qK _ x).mono ?_
  rintro _ w2 ⟨v2, rfl, ⟨rfl, hb2⟩⟩
  refine ⟨_, rfl, ?_⟩
  have M2 := M1.callB hb2
  refine aA (aE (.int _ _) rfl) rfl rfl ?_
  refine aC (aF (aG (aB ?_)))
  refine aA (aD (.int _ _) rfl) rfl rfl ?_
  refine aA (aP (.bool (decide _)) rfl rfl rfl) rfl rfl ?_
  refine aC (aF ?_)
  refine aZ rfl (fun h13 => ?_) (fun h13 => ?_)
  · refine aG (aB ?_)
    refine aA (aD (.int _ _) rfl) rfl rfl ?_
    refine aA (aE (.int _ _) rfl) rfl rfl ?_
    refine aC (aF (aR (cC ?_)))
    refine bY (.int _ _) rfl ?_
    have ha : kD m x = (m, check x) := by unfold kD; rw [if_pos h13]
    exact ⟨by rw [ha], A, n, c, p, er, em, by rw [ha]; exact hs, M2.keep [true, true, true, false]⟩
  · refine aN (aF (aG (aG ?_)))
    refine bS [(0, 0), (1, 0), (2, 0), (3, 1), (4, 0), (5, 1), (6, 1), (7, 0), (8, 0), (9, 0), (10, 0), (11, 0)] mixed rfl (by kernel_rfl) (fun w3 hb3 hh3 => ?_)
    have M3 := M2.drew hb3 hh3
    refine aU rfl rfl rfl (fun _ => aD (.pointer _) rfl) ?_
    refine aU rfl rfl rfl (fun _ => aO rfl) ?_
    refine aU rfl rfl rfl (fun _ => aH 1 jR rfl) ?_
    refine cB rfl rfl rfl (aQ 0 (.map _) pX M3 rfl rfl rfl) ?_
    refine aU rfl rfl rfl (fun _ => aH 0 dJ rfl) ?_
    refine cB rfl rfl rfl (aQ 3 (.int _ _) bR M3 rfl rfl rfl) ?_
    refine cB rfl rfl rfl (rA (enc := (Value.int .i64)) 0 2 tT zv3 M3 rfl hs.map rfl rfl) ?_
    refine aU rfl rfl rfl (fun _ => aD (.tuple (List.toArray _)) rfl) ?_
    refine aU rfl rfl rfl (fun _ => bG (.int _ _) rfl rfl) ?_
    refine aU rfl rfl rfl (fun _ => bG (.bool _) rfl rfl) ?_
    refine aU rfl rfl rfl (fun _ => aE (.int _ _) rfl) ?_
    refine aU rfl rfl rfl (fun _ => aE (.bool _) rfl) ?_
    refine cF ?_
    refine aF (aG (aB ?_))
    refine aA (aD (.bool _) rfl) rfl rfl ?_
    refine aC (aF ?_)
    refine gK _ rfl (fun h25 => ?_) (fun h25 => ?_)
    · have hf : 0 ≤ cE x.key m := by rw [xS] at h25; exact of_decide_eq_true h25
      refine aG (aB ?_)
      refine aA (aE (.int _ _) rfl) rfl rfl ?_
      refine aC (aF (aR (cC ?_)))
      refine bY (.int _ _) rfl ?_
      have ha : kD m x = (m, 10) := by unfold kD; rw [if_neg h13, if_pos hf]
      exact ⟨by rw [ha], A, n, c, p, er, em, by rw [ha]; exact hs, M3.keep [true, true, true, false]⟩
    · have hf : ¬ (0 ≤ cE x.key m) := fun h => by rw [xS, decide_eq_true h] at h25; simp at h25
      refine aN (aF (aG (aG (aB ?_))))
      refine aA (aD (.pointer _) rfl) rfl rfl ?_
      refine aA (aO rfl) rfl rfl ?_
      refine aA (aH 0 fN rfl) rfl rfl ?_
      refine aA (aQ 0 (.slice _ _ _) eX M3 rfl rfl rfl) rfl rfl ?_
      refine aA (cT Tryz.underlying22 rfl) rfl rfl ?_
      refine aA (aP (.bool (decide _)) rfl rfl rfl) rfl rfl ?_
      refine aC (aF ?_)
      refine aZ rfl (fun h31 => ?_) (fun h31 => ?_)
      · refine aG (aB ?_)
        refine aA (aE (.int _ _) rfl) rfl rfl ?_
        refine aC (aF (aR (cC ?_)))
        refine bY (.int _ _) rfl ?_
        have ha : kD m x = (m, 12) := by unfold kD; rw [if_neg h13, if_neg hf, if_pos (by omega)]
        exact ⟨by rw [ha], A, n, c, p, er, em, by rw [ha]; exact hs, M3.keep [true, true, true, false]⟩
      · refine aN (aF (aG (aG (aB ?_))))
        refine aA (aD (.pointer _) rfl) rfl rfl ?_
        refine aA (aO rfl) rfl rfl ?_
        refine aA (aH 1 jR rfl) rfl rfl ?_
        refine aA (aQ 0 (.map _) pX M3 rfl rfl rfl) rfl rfl ?_
        refine aA (aHr _ Tryz.underlying50 rfl rfl) rfl rfl ?_
        refine aC (aF ?_)
        refine gK _ rfl (fun h36 => ?_) (fun h36 => ?_)
        · have hpn : p = none := by cases p <;> simp_all
          have hnone : ∀ k, qO m k = (fun _ => none) k := fun k => by subst hpn; rcases hs.map with ⟨_, _, h⟩ | ⟨_, _, h, _⟩; exact h k; cases h
          refine aB ?_
          refine aA (aD (.pointer _) rfl) rfl rfl ?_
          refine kZ M3 rfl rfl (fun b4 w4 M4 => ?_)
          have M5 := M4.replace (i := 2) (Nat.le_of_ble_eq_true rfl)
          refine aA (aO rfl) rfl rfl ?_
          refine aA (aH 1 jR rfl) rfl rfl ?_
          refine dX 0 (.map _) pX M5 rfl rfl rfl rfl rfl rfl (fun w6 M6 => ?_)
          refine aC (aF (aG ?_))
          refine bS [(0, 0), (1, 0), (2, 0), (3, 1), (4, 0), (5, 1), (6, 0), (7, 0), (8, 0), (9, 1), (10, 0), (11, 2)] mixed rfl (by kernel_rfl) (fun w7 hb7 hh7 => ?_)
          have M7 := M6.drew hb7 hh7
          refine aU rfl rfl rfl (fun _ => aD (.pointer _) rfl) ?_
          refine aU rfl rfl rfl (fun _ => aO rfl) ?_
          refine aU rfl rfl rfl (fun _ => aH 1 jR rfl) ?_
          refine cB rfl rfl rfl (aQ 0 (.map _) pX M7 rfl rfl rfl) ?_
          refine aU rfl rfl rfl (fun _ => aH 0 dJ rfl) ?_
          refine cB rfl rfl rfl (aQ 3 (.int _ _) bR M7 rfl rfl rfl) ?_
          refine aU rfl rfl rfl (fun _ => aD (.pointer _) rfl) ?_
          refine aU rfl rfl rfl (fun _ => aO rfl) ?_
          refine aU rfl rfl rfl (fun _ => aH 0 fN rfl) ?_
          refine cB rfl rfl rfl (aQ 0 (.slice _ _ _) eX M7 rfl rfl rfl) ?_
          refine aU rfl rfl rfl (fun _ => cT Tryz.underlying22 rfl) ?_
          refine dU [true, true, true] rfl (by kernel_rfl) ?_
          refine gV (enc := (Value.int .i64)) 2 tT M7 rfl rfl ((iM.empty _ _ b4).congr hnone) rfl rfl rfl rfl (fun e8 w8 hm8 M8 => ?_)
          refine aC (aF ⟨dV, ?_⟩)
          refine cF ?_
          refine aF (aG ?_)
          refine bS [(0, 0), (1, 0), (2, 0), (3, 0), (4, 1), (5, 1), (6, 2), (7, 2), (8, 0), (9, 0), (10, 2)] mixed rfl (by kernel_rfl) (fun w9 hb9 hh9 => ?_)
          have M9 := M8.drew hb9 hh9
          refine aU rfl rfl rfl (fun _ => aD (.pointer _) rfl) ?_
          refine aU rfl rfl rfl (fun _ => aD (.pointer _) rfl) ?_
          refine aU rfl rfl rfl (fun _ => aO rfl) ?_
          refine aU rfl rfl rfl (fun _ => aH 0 fN rfl) ?_
          refine cB rfl rfl rfl (aQ 0 (.slice _ _ _) eX M9 rfl rfl rfl) ?_
          refine cB rfl rfl rfl (bE 3 bO M9 rfl rfl rfl) ?_
          refine dU [true, false] rfl (by kernel_rfl) ?_
          refine cR [.agg (List.toArray _)] _ rfl dO M9 rfl rfl rfl rfl (cW rfl) (by decide) (fun b10 w10 M10 => ?_)
          refine aC (aF ⟨(eS (bQ rfl (aQ 0 (.slice _ _ _) eX M10 rfl rfl rfl)) dV), ?_⟩)
          refine dU [true] rfl (by kernel_rfl) ?_
          refine dL 1 [aI x] dO M10 rfl rfl rfl rfl rfl hs.row rfl (by simpa using ⟨fA x, eZ x⟩) (cX.ofMem 4 M10 rfl) (by omega) (fun A11 c11 e11 w11 M11 hR11 => ?_)
          refine aC (aF ⟨dV, ?_⟩)
          refine aU rfl rfl rfl (fun _ => aO rfl) ?_
          refine aU rfl rfl rfl (fun _ => aH 0 fN rfl) ?_
          refine dU [] rfl (by kernel_rfl) ?_
          refine dX 0 (.slice _ _ _) eX M11 rfl rfl rfl rfl rfl rfl (fun w12 M12 => ?_)
          refine aC (aF ⟨dV, ?_⟩)
          refine cF ?_
          refine aF (aG (aB ?_))
          refine aA (aE (.int _ _) rfl) rfl rfl ?_
          refine aC (aF (aR ?_))
          refine bY (.int _ _) rfl ?_
          have ha : kD m x = (m ++ [x], 0) := by unfold kD; rw [if_neg h13, if_neg hf, if_neg (by omega)]
          have hall := aJo (x := x) ⟨hs.keys, hs.cap, hs.ok⟩
          rw [ha] at hall
          obtain ⟨hk', hc', ho'⟩ := hall
          have hix := aFs hs.keys (x := x) (by omega)
          rw [hlen] at hix
          exact ⟨by rw [ha], _, _, _, _, _, _, by rw [ha]; exact ⟨(by simpa using hR11), (hm8.congr hix), hk', hc', ho'⟩, M12.keep [true, true, true, false, false]⟩
        · have hps : p.isSome = true := by cases p <;> simp_all
          refine aN (aF (aG ?_))
          refine bS [(0, 0), (1, 0), (2, 0), (3, 1), (4, 0), (5, 1), (6, 0), (7, 0), (8, 0), (9, 1), (10, 0), (11, 2)] mixed rfl (by kernel_rfl) (fun w13 hb13 hh13 => ?_)
          have M13 := M3.drew hb13 hh13
          refine aU rfl rfl rfl (fun _ => aD (.pointer _) rfl) ?_
          refine aU rfl rfl rfl (fun _ => aO rfl) ?_
          refine aU rfl rfl rfl (fun _ => aH 1 jR rfl) ?_
          refine cB rfl rfl rfl (aQ 0 (.map _) pX M13 rfl rfl rfl) ?_
          refine aU rfl rfl rfl (fun _ => aH 0 dJ rfl) ?_
          refine cB rfl rfl rfl (aQ 3 (.int _ _) bR M13 rfl rfl rfl) ?_
          refine aU rfl rfl rfl (fun _ => aD (.pointer _) rfl) ?_
          refine aU rfl rfl rfl (fun _ => aO rfl) ?_
          refine aU rfl rfl rfl (fun _ => aH 0 fN rfl) ?_
          refine cB rfl rfl rfl (aQ 0 (.slice _ _ _) eX M13 rfl rfl rfl) ?_
          refine aU rfl rfl rfl (fun _ => cT Tryz.underlying22 rfl) ?_
          refine dU [true, true, true] rfl (by kernel_rfl) ?_
          refine gV (enc := (Value.int .i64)) 2 tT M13 rfl rfl hs.map hps rfl rfl rfl (fun e14 w14 hm14 M14 => ?_)
          refine aC (aF ⟨dV, ?_⟩)
          refine cF ?_
          refine aF (aG ?_)
          refine bS [(0, 0), (1, 0), (2, 0), (3, 0), (4, 1), (5, 1), (6, 2), (7, 2), (8, 0), (9, 0), (10, 2)] mixed rfl (by kernel_rfl) (fun w15 hb15 hh15 => ?_)
          have M15 := M14.drew hb15 hh15
          refine aU rfl rfl rfl (fun _ => aD (.pointer _) rfl) ?_
          refine aU rfl rfl rfl (fun _ => aD (.pointer _) rfl) ?_
          refine aU rfl rfl rfl (fun _ => aO rfl) ?_
          refine aU rfl rfl rfl (fun _ => aH 0 fN rfl) ?_
          refine cB rfl rfl rfl (aQ 0 (.slice _ _ _) eX M15 rfl rfl rfl) ?_
          refine cB rfl rfl rfl (bE 3 bO M15 rfl rfl rfl) ?_
          refine dU [true, false] rfl (by kernel_rfl) ?_
          refine cR [.agg (List.toArray _)] _ rfl dO M15 rfl rfl rfl rfl (cW rfl) (by decide) (fun b16 w16 M16 => ?_)
          refine aC (aF ⟨(eS (bQ rfl (aQ 0 (.slice _ _ _) eX M16 rfl rfl rfl)) dV), ?_⟩)
          refine dU [true] rfl (by kernel_rfl) ?_
          refine dL 1 [aI x] dO M16 rfl rfl rfl rfl rfl hs.row rfl (by simpa using ⟨fA x, eZ x⟩) (cX.ofMem 4 M16 rfl) (by omega) (fun A17 c17 e17 w17 M17 hR17 => ?_)
          refine aC (aF ⟨dV, ?_⟩)
          refine aU rfl rfl rfl (fun _ => aO rfl) ?_
          refine aU rfl rfl rfl (fun _ => aH 0 fN rfl) ?_
          refine dU [] rfl (by kernel_rfl) ?_
          refine dX 0 (.slice _ _ _) eX M17 rfl rfl rfl rfl rfl rfl (fun w18 M18 => ?_)
          refine aC (aF ⟨dV, ?_⟩)
          refine cF ?_
          refine aF (aG (aB ?_))
          refine aA (aE (.int _ _) rfl) rfl rfl ?_
          refine aC (aF (aR ?_))
          refine bY (.int _ _) rfl ?_
          have ha : kD m x = (m ++ [x], 0) := by unfold kD; rw [if_neg h13, if_neg hf, if_neg (by omega)]
          have hall := aJo (x := x) ⟨hs.keys, hs.cap, hs.ok⟩
          rw [ha] at hall
          obtain ⟨hk', hc', ho'⟩ := hall
          have hix := aFs hs.keys (x := x) (by omega)
          rw [hlen] at hix
          exact ⟨by rw [ha], _, _, _, _, _, _, by rw [ha]; exact ⟨(by simpa using hR17), (hm14.congr hix), hk', hc', ho'⟩, M18.keep [true, true, true, false, false]⟩
set_option maxHeartbeats 4000000 in
theorem aUa (w : World) (b : Nat) (A : Option Addr) (n c : Nat) (p : Option Nat) (er em : dP) (m : List Body) (hs : StoreIs 40 A n c p er em m) (hO : Own [(some b, bc [.slice A n c, .map p] 56), er, em] w) (key : Int) :
    Calls Tryz.prog 70 #[.pointer (some ⟨b, 0, none⟩), .int .u32 key] w (fun ex w' => ∃ v, ex = .returned v ∧ (fun v w' => (∃ x, v = .tuple #[.agg (aI x).toArray, .int .i64 (wL m key).2] ∧ x = (wL m key).1) ∧ Mem w (bX [(some b, bc [.slice A n c, .map p] 56), er, em]) [(some b, bc [.slice A n c, .map p] 56), er, em] w') v w') := by
  have hlen : m.length = n := by simpa using hs.row.1
  have hcap := hs.cap
  refine aJ #[.cell 4 40, .tmp 5] 30 Tryz.func70 rfl Tryz.results70 Tryz.ntmps70 rfl ?_
  have M0 := hO.mem
  refine aG (aB ?_)
  refine aW gL M0 rfl rfl (fun b1 w1 M1 => ?_)
  refine aA (aE (.int _ _) rfl) rfl rfl ?_
  refine aC (aF (aG (aG (aB ?_))))
  refine aA (aD (.pointer _) rfl) rfl rfl ?_
  refine aA (eC false Tryz.underlying143 rfl rfl) rfl rfl ?_
  refine aC (aF ?_)
  refine cH rfl ?_
  refine aN (aF (aG (aB ?_)))
  refine aA (aD (.pointer _) rfl) rfl rfl ?_
  refine aA (aO rfl) rfl rfl ?_
  refine aA (aH 1 jR rfl) rfl rfl ?_
  refine aA (aQ 0 (.map _) pX M1 rfl rfl rfl) rfl rfl ?_
  refine aA (aD (.int _ _) rfl) rfl rfl ?_
  refine aA (rA (enc := (Value.int .i64)) 0 2 tT zv3 M1 rfl hs.map rfl rfl) rfl rfl ?_
  refine aA (aD (.tuple (List.toArray _)) rfl) rfl rfl ?_
  refine aA (bG (.int _ _) rfl rfl) rfl rfl ?_
  refine aA (bG (.bool _) rfl rfl) rfl rfl ?_
  refine aA (aE (.int _ _) rfl) rfl rfl ?_
  refine aA (aE (.bool _) rfl) rfl rfl ?_
  refine aC (aF (aG (aG (aB ?_))))
  refine aA (aD (.bool _) rfl) rfl rfl ?_
  refine aA (iZ _ rfl rfl) rfl rfl ?_
  refine aC (aF ?_)
  refine gK _ rfl (fun h21 => ?_) (fun h21 => ?_)
  · have hi : qO m key = none := by cases h : qO m key <;> simp_all
    refine aG (aB ?_)
    refine aA (cN [] _ oJ rfl rfl) rfl rfl ?_
    refine bH 3 _ bO M1 rfl rfl rfl rfl rfl (aY rfl) rfl (fun w2 M2 => ?_)
    refine aA (aE (.int _ _) rfl) rfl rfl ?_
    refine aC (aF (aR (cC ?_)))
    refine zO (v2 := .int _ _) 3 bO M2 rfl rfl rfl rfl ?_
    exact ⟨⟨⟨0, 0, 0, 0, 0, 0, 0, 0, 0, 0⟩, by rw [aBi hi]; rfl, by rw [aBi hi]⟩, M2.keep [true, true, true, false]⟩
  · rcases jH key m with ⟨hi, _⟩ | ⟨i, bi, hbi, hbk, hi⟩
    · simp [hi] at h21
    refine aN (aF (aG (aB ?_)))
    refine aA (aD (.pointer _) rfl) rfl rfl ?_
    refine aA (aO rfl) rfl rfl ?_
    refine aA (aH 0 fN rfl) rfl rfl ?_
    refine aA (aQ 0 (.slice _ _ _) eX M1 rfl rfl rfl) rfl rfl ?_
    refine aA (aD (.int _ _) rfl) rfl rfl ?_
    refine aA (bU (i) dO rfl rfl (by rw [hi]; rfl) ((hs.row.rd M1 (bB (i := 1) rfl)).below_len (aL aI hbi)) ((hs.row.rd M1 (bB (i := 1) rfl)).someK (aL aI hbi))) rfl rfl ?_
    refine aA (dS _ bO (hs.row.rd M1 (bB (i := 1) rfl)) (aL aI hbi) rfl) rfl rfl ?_
    refine bH 3 _ bO M1 rfl rfl rfl rfl rfl (aY rfl) rfl (fun w3 M3 => ?_)
    refine aA (aE (.int _ _) rfl) rfl rfl ?_
    refine aC (aF (aR ?_))
    refine zO (v2 := .int _ _) 3 bO M3 rfl rfl rfl rfl ?_
    exact ⟨⟨bi, by rw [sN hi hbi], by rw [sN hi hbi]⟩, M3.keep [true, true, true, false]⟩
set_option maxHeartbeats 4000000 in
theorem aUv (w : World) (b : Nat) (A : Option Addr) (n c : Nat) (p : Option Nat) (er em : dP) (m : List Body) (hs : StoreIs 40 A n c p er em m) (hO : Own [(some b, bc [.slice A n c, .map p] 56), er, em] w) (x : Body) :
    Calls Tryz.prog 88 #[.pointer (some ⟨b, 0, none⟩), (.agg (aI x).toArray)] w (fun ex w' => ∃ v, ex = .returned v ∧ (fun v w' => v = .int .i64 (qG m x).2 ∧ ∃ A' n' c' p' er' em', StoreIs 40 A' n' c' p' er' em' (qG m x).1 ∧ Mem w (bX [(some b, bc [.slice A n c, .map p] 56), er, em]) [(some b, bc [.slice A' n' c', .map p'] 56), er', em'] w') v w') := by
  have hlen : m.length = n := by simpa using hs.row.1
  have hcap := hs.cap
  refine aJ #[.tmp 4] 34 Tryz.func88 rfl Tryz.results88 Tryz.ntmps88 rfl ?_
  have M0 := hO.mem
  refine aG (aB ?_)
  refine bL (.agg (List.toArray _)) M0 rfl rfl rfl (fun b1 w1 M1 => ?_)
  refine aA (aE (.int _ _) rfl) rfl rfl ?_
  refine aC (aF (aG (aG (aB ?_))))
  refine aA (aD (.pointer _) rfl) rfl rfl ?_
  refine aA (eC false Tryz.underlying143 rfl rfl) rfl rfl ?_
  refine aC (aF ?_)
  refine cH rfl ?_
  refine aN (aF (aG (aG (aB ?_))))
  refine aA (bE 3 bO M1 rfl rfl rfl) rfl rfl ?_
  refine aK aQs rfl rfl rfl ?_
  refine (qK _ x).mono ?_
  rintro _ w2 ⟨v2, rfl, ⟨rfl, hb2⟩⟩
  refine ⟨_, rfl, ?_⟩
  have M2 := M1.callB hb2
  refine aA (aE (.int _ _) rfl) rfl rfl ?_
  refine aC (aF (aG (aB ?_)))
  refine aA (aD (.int _ _) rfl) rfl rfl ?_
  refine aA (aP (.bool (decide _)) rfl rfl rfl) rfl rfl ?_
  refine aC (aF ?_)
  refine aZ rfl (fun h13 => ?_) (fun h13 => ?_)
  · refine aG (aB ?_)
    refine aA (aD (.int _ _) rfl) rfl rfl ?_
    refine aA (aE (.int _ _) rfl) rfl rfl ?_
    refine aC (aF (aR (cC ?_)))
    refine bY (.int _ _) rfl ?_
    have ha : qG m x = (m, check x) := by unfold qG; rw [if_pos h13]
    exact ⟨by rw [ha], A, n, c, p, er, em, by rw [ha]; exact hs, M2.keep [true, true, true, false]⟩
  · refine aN (aF (aG ?_))
    refine bS [(0, 0), (1, 0), (2, 0), (3, 1), (4, 0), (5, 1), (6, 1), (7, 0), (8, 0), (9, 0), (10, 0), (11, 0)] mixed rfl (by kernel_rfl) (fun w3 hb3 hh3 => ?_)
    have M3 := M2.drew hb3 hh3
    refine aU rfl rfl rfl (fun _ => aD (.pointer _) rfl) ?_
    refine aU rfl rfl rfl (fun _ => aO rfl) ?_
    refine aU rfl rfl rfl (fun _ => aH 1 jR rfl) ?_
    refine cB rfl rfl rfl (aQ 0 (.map _) pX M3 rfl rfl rfl) ?_
    refine aU rfl rfl rfl (fun _ => aH 0 dJ rfl) ?_
    refine cB rfl rfl rfl (aQ 3 (.int _ _) bR M3 rfl rfl rfl) ?_
    refine cB rfl rfl rfl (rA (enc := (Value.int .i64)) 0 2 tT zv3 M3 rfl hs.map rfl rfl) ?_
    refine aU rfl rfl rfl (fun _ => aD (.tuple (List.toArray _)) rfl) ?_
    refine aU rfl rfl rfl (fun _ => bG (.int _ _) rfl rfl) ?_
    refine aU rfl rfl rfl (fun _ => bG (.bool _) rfl rfl) ?_
    refine aU rfl rfl rfl (fun _ => aE (.int _ _) rfl) ?_
    refine aU rfl rfl rfl (fun _ => aE (.bool _) rfl) ?_
    refine cF ?_
    refine aF (aG (aG (aB ?_)))
    refine aA (aD (.bool _) rfl) rfl rfl ?_
    refine aA (iZ _ rfl rfl) rfl rfl ?_
    refine aC (aF ?_)
    refine gK _ rfl (fun h26 => ?_) (fun h26 => ?_)
    · have hi : qO m x.key = none := by cases h : qO m x.key <;> simp_all
      refine aG (aB ?_)
      refine aA (aE (.int _ _) rfl) rfl rfl ?_
      refine aC (aF (aR (cC ?_)))
      refine bY (.int _ _) rfl ?_
      have ha : qG m x = (m, 11) := by unfold qG; rw [if_neg h13, if_pos (by rw [gX, hi]; decide)]
      exact ⟨by rw [ha], A, n, c, p, er, em, by rw [ha]; exact hs, M3.keep [true, true, true, false]⟩
    · rcases jH x.key m with ⟨hi, _⟩ | ⟨i, bi, hbi, hbk, hi⟩
      · simp [hi] at h26
      refine aN (aF (aG ?_))
      refine bS [(0, 0), (1, 0), (2, 0), (3, 1), (4, 0), (5, 1), (6, 1), (7, 2)] mixed rfl (by kernel_rfl) (fun w4 hb4 hh4 => ?_)
      have M4 := M3.drew hb4 hh4
      refine aU rfl rfl rfl (fun _ => aD (.pointer _) rfl) ?_
      refine aU rfl rfl rfl (fun _ => aO rfl) ?_
      refine aU rfl rfl rfl (fun _ => aH 0 fN rfl) ?_
      refine cB rfl rfl rfl (aQ 0 (.slice _ _ _) eX M4 rfl rfl rfl) ?_
      refine aU rfl rfl rfl (fun _ => aD (.int _ _) rfl) ?_
      refine cB rfl rfl rfl (bE 3 bO M4 rfl rfl rfl) ?_
      refine cB rfl rfl rfl (bU (i) dO rfl rfl (by rw [hi]; rfl) ((hs.row.rd M4 (bB (i := 1) rfl)).below_len (aL aI hbi)) ((hs.row.rd M4 (bB (i := 1) rfl)).someK (aL aI hbi))) ?_
      refine dU [true, true, true] rfl (by kernel_rfl) ?_
      refine aCh 1 _ bO M4 rfl hs.row (aL aI hbi) rfl rfl rfl rfl (aY rfl) (fun e5 w5 hR5 M5 => ?_)
      have hQ5 := hR5.mapSet (f := aI) (x := x) rfl
      refine aC (aF ⟨dV, ?_⟩)
      refine cF ?_
      refine aF (aG (aB ?_))
      refine aA (aE (.int _ _) rfl) rfl rfl ?_
      refine aC (aF (aR ?_))
      refine bY (.int _ _) rfl ?_
      have ha : qG m x = (m.set i x, 0) := by unfold qG; rw [if_neg h13, gX, hi]; simp only []; rw [if_neg (by omega), Int.toNat_natCast]
      exact ⟨by rw [ha], _, _, _, _, _, _, by rw [ha]; exact hs.put hbi hbk.symm (by omega) hQ5, M5.keep [true, true, true, false]⟩
set_option maxHeartbeats 4000000 in
theorem aHa (w : World) (b : Nat) (A : Option Addr) (n c : Nat) (p : Option Nat) (er em : dP) (m : List Body) (hs : StoreIs 40 A n c p er em m) (hO : Own [(some b, bc [.slice A n c, .map p] 56), er, em] w) (key : Int) :
    Calls Tryz.prog 89 #[.pointer (some ⟨b, 0, none⟩), .int .u32 key] w (fun ex w' => ∃ v, ex = .returned v ∧ (fun v w' => v = .int .i64 (iI m key).2 ∧ ∃ A' n' c' p' er' em', StoreIs 40 A' n' c' p' er' em' (iI m key).1 ∧ Mem w (bX [(some b, bc [.slice A n c, .map p] 56), er, em]) [(some b, bc [.slice A' n' c', .map p'] 56), er', em'] w') v w') := by
  have hlen : m.length = n := by simpa using hs.row.1
  have hcap := hs.cap
  refine aJ #[.tmp 4] 67 Tryz.func89 rfl Tryz.results89 Tryz.ntmps89 rfl ?_
  have M0 := hO.mem
  refine aG (aB ?_)
  refine aA (aE (.int _ _) rfl) rfl rfl ?_
  refine aC (aF (aG (aG (aB ?_))))
  refine aA (aD (.pointer _) rfl) rfl rfl ?_
  refine aA (eC false Tryz.underlying143 rfl rfl) rfl rfl ?_
  refine aC (aF ?_)
  refine cH rfl ?_
  refine aN (aF (aG (aB ?_)))
  refine aA (aD (.pointer _) rfl) rfl rfl ?_
  refine aA (aO rfl) rfl rfl ?_
  refine aA (aH 1 jR rfl) rfl rfl ?_
  refine aA (aQ 0 (.map _) pX M0 rfl rfl rfl) rfl rfl ?_
  refine aA (aD (.int _ _) rfl) rfl rfl ?_
  refine aA (rA (enc := (Value.int .i64)) 0 2 tT zv3 M0 rfl hs.map rfl rfl) rfl rfl ?_
  refine aA (aD (.tuple (List.toArray _)) rfl) rfl rfl ?_
  refine aA (bG (.int _ _) rfl rfl) rfl rfl ?_
  refine aA (bG (.bool _) rfl rfl) rfl rfl ?_
  refine aA (aE (.int _ _) rfl) rfl rfl ?_
  refine aA (aE (.bool _) rfl) rfl rfl ?_
  refine aC (aF (aG (aG (aB ?_))))
  refine aA (aD (.bool _) rfl) rfl rfl ?_
  refine aA (iZ _ rfl rfl) rfl rfl ?_
  refine aC (aF ?_)
  refine gK _ rfl (fun h20 => ?_) (fun h20 => ?_)
  · have hi : qO m key = none := by cases h : qO m key <;> simp_all
    refine aG (aB ?_)
    refine aA (aE (.int _ _) rfl) rfl rfl ?_
    refine aC (aF (aR (cC ?_)))
    refine bY (.int _ _) rfl ?_
    have ha : iI m key = (m, 11) := by unfold iI; rw [if_pos (by rw [gX, hi]; decide)]
    exact ⟨by rw [ha], A, n, c, p, er, em, by rw [ha]; exact hs, M0.keep [true, true, true]⟩
  · rcases jH key m with ⟨hi, _⟩ | ⟨i, bi, hbi, hbk, hi⟩
    · simp [hi] at h20
    have hilt : i < m.length := (List.getElem?_eq_some_iff.1 hbi).1
    obtain ⟨bl, hbl⟩ := cL (xs := m) (k := n - 1) rfl (by omega)
    have hps : p.isSome = true := hs.map.isSome hi
    refine aN (aF (aG (aB ?_)))
    refine aA (aD (.pointer _) rfl) rfl rfl ?_
    refine aA (aO rfl) rfl rfl ?_
    refine aA (aH 0 fN rfl) rfl rfl ?_
    refine aA (aQ 0 (.slice _ _ _) eX M0 rfl rfl rfl) rfl rfl ?_
    refine aA (cT Tryz.underlying22 rfl) rfl rfl ?_
    refine aA (mL rfl rfl (by omega) (by omega)) rfl rfl ?_
    refine aA (aE (.int _ _) rfl) rfl rfl ?_
    refine aC (aF (aG ?_))
    refine bS [(0, 0), (1, 0), (2, 0), (3, 1), (4, 0), (5, 0), (6, 0), (7, 0), (8, 1), (9, 0), (10, 1), (11, 1), (12, 1), (13, 2)] mixed rfl (by kernel_rfl) (fun w1 hb1 hh1 => ?_)
    have M1 := M0.drew hb1 hh1
    refine aU rfl rfl rfl (fun _ => aD (.pointer _) rfl) ?_
    refine aU rfl rfl rfl (fun _ => aO rfl) ?_
    refine aU rfl rfl rfl (fun _ => aH 0 fN rfl) ?_
    refine cB rfl rfl rfl (aQ 0 (.slice _ _ _) eX M1 rfl rfl rfl) ?_
    refine aU rfl rfl rfl (fun _ => aD (.int _ _) rfl) ?_
    refine aU rfl rfl rfl (fun _ => aD (.pointer _) rfl) ?_
    refine aU rfl rfl rfl (fun _ => aO rfl) ?_
    refine aU rfl rfl rfl (fun _ => aH 0 fN rfl) ?_
    refine cB rfl rfl rfl (aQ 0 (.slice _ _ _) eX M1 rfl rfl rfl) ?_
    refine aU rfl rfl rfl (fun _ => aD (.int _ _) rfl) ?_
    refine cB rfl rfl rfl (bU (n - 1) dO rfl rfl (by omega) ((hs.row.rd M1 (bB (i := 1) rfl)).below_len (aL aI hbl)) ((hs.row.rd M1 (bB (i := 1) rfl)).someK (aL aI hbl))) ?_
    refine cB rfl rfl rfl (dS _ bO (hs.row.rd M1 (bB (i := 1) rfl)) (aL aI hbl) rfl) ?_
    refine cB rfl rfl rfl (bU (i) dO rfl rfl (by rw [hi]; rfl) ((hs.row.rd M1 (bB (i := 1) rfl)).below_len (aL aI hbi)) ((hs.row.rd M1 (bB (i := 1) rfl)).someK (aL aI hbi))) ?_
    refine dU [true, true, true, true, true] rfl (by kernel_rfl) ?_
    refine aCh 1 _ bO M1 rfl hs.row (aL aI hbi) rfl rfl rfl rfl (aY rfl) (fun e2 w2 hR2 M2 => ?_)
    have hQ2 := hR2.mapSet (f := aI) (x := bl) rfl
    refine aC (aF ⟨dV, ?_⟩)
    refine cF ?_
    refine aF (aG ?_)
    refine bS [(0, 0), (1, 0), (2, 0), (3, 1), (4, 0), (5, 0), (6, 0), (7, 1), (8, 0), (9, 1), (10, 1), (11, 1), (12, 0), (13, 2)] mixed rfl (by kernel_rfl) (fun w3 hb3 hh3 => ?_)
    have M3 := M2.drew hb3 hh3
    refine aU rfl rfl rfl (fun _ => aD (.pointer _) rfl) ?_
    refine aU rfl rfl rfl (fun _ => aO rfl) ?_
    refine aU rfl rfl rfl (fun _ => aH 1 jR rfl) ?_
    refine cB rfl rfl rfl (aQ 0 (.map _) pX M3 rfl rfl rfl) ?_
    refine aU rfl rfl rfl (fun _ => aD (.pointer _) rfl) ?_
    refine aU rfl rfl rfl (fun _ => aO rfl) ?_
    refine aU rfl rfl rfl (fun _ => aH 0 fN rfl) ?_
    refine cB rfl rfl rfl (aQ 0 (.slice _ _ _) eX M3 rfl rfl rfl) ?_
    refine aU rfl rfl rfl (fun _ => aD (.int _ _) rfl) ?_
    refine cB rfl rfl rfl (bU (i) dO rfl rfl (by rw [hi]; rfl) ((hQ2.rd M3 (bB (i := 1) rfl)).below_len (aL aI (by rw [List.getElem?_set_self hilt] : (m.set i bl)[i]? = some bl))) ((hQ2.rd M3 (bB (i := 1) rfl)).someK (aL aI (by rw [List.getElem?_set_self hilt] : (m.set i bl)[i]? = some bl)))) ?_
    refine cB rfl rfl rfl (bP 0 dJ (hQ2.rd M3 (bB (i := 1) rfl)) (Nat.lt_of_le_of_lt (Nat.zero_le _) ((hQ2.rd M3 (bB (i := 1) rfl)).below_len (aL aI (by rw [List.getElem?_set_self hilt] : (m.set i bl)[i]? = some bl)))) rfl) ?_
    refine cB rfl rfl rfl (eH (o := 0) (.int _ _) bR (hQ2.rd M3 (bB (i := 1) rfl)) (aL aI (by rw [List.getElem?_set_self hilt] : (m.set i bl)[i]? = some bl)) rfl rfl) ?_
    refine aU rfl rfl rfl (fun _ => aD (.int _ _) rfl) ?_
    refine dU [true, true, true, true, true] rfl (by kernel_rfl) ?_
    refine gV (enc := (Value.int .i64)) 2 tT M3 rfl rfl hs.map hps rfl rfl rfl (fun e4 w4 hm4 M4 => ?_)
    refine aC (aF ⟨dV, ?_⟩)
    refine cF ?_
    refine aF (aG (aB ?_))
    refine aA (aD (.pointer _) rfl) rfl rfl ?_
    refine aA (aD (.pointer _) rfl) rfl rfl ?_
    refine aA (aO rfl) rfl rfl ?_
    refine aA (aH 0 fN rfl) rfl rfl ?_
    refine aA (aQ 0 (.slice _ _ _) eX M4 rfl rfl rfl) rfl rfl ?_
    refine aA (aD (.int _ _) rfl) rfl rfl ?_
    refine aA (fM (0) (((n : Int) - 1)) dO rfl rfl ⟨_, rfl⟩ (by decide) (by omega) (by have := hs.row.slice; omega)) rfl rfl ?_
    refine aA (aO rfl) rfl rfl ?_
    refine aA (aH 0 fN rfl) rfl rfl ?_
    refine dX 0 (.slice _ _ _) eX M4 rfl rfl rfl rfl rfl rfl (fun w5 M5 => ?_)
    refine aC (aF (aG (aB ?_)))
    refine aA (aD (.pointer _) rfl) rfl rfl ?_
    refine aA (aO rfl) rfl rfl ?_
    refine aA (aH 1 jR rfl) rfl rfl ?_
    refine aA (aQ 0 (.map _) pX M5 rfl rfl rfl) rfl rfl ?_
    refine aA (aD (.int _ _) rfl) rfl rfl ?_
    refine aLx (enc := (Value.int .i64)) 2 tT M5 rfl rfl hm4 hps rfl rfl (fun e6 w6 hm6 M6 => ?_)
    refine aC (aF (aG (aB ?_)))
    refine aA (aE (.int _ _) rfl) rfl rfl ?_
    refine aC (aF (aR ?_))
    refine bY (.int _ _) rfl ?_
    have ha : iI m key = (sO m i, 0) := by unfold iI; rw [gX, hi]; simp only []; rw [if_neg (by omega), Int.toNat_natCast]
    have hn1 : ((n : Int) - 1).toNat = n - 1 := by omega
    exact ⟨by rw [ha], _, _, _, _, _, _, by rw [ha]; exact hs.cut hbi hbk (by rw [hlen]; exact hbl) (by rw [hi]; rfl) (by omega) hQ2 hm6, M6.keep [true, true, true]⟩
set_option maxHeartbeats 4000000 in
theorem aJa (w : World) (b : Nat) (A : Option Addr) (n c : Nat) (p : Option Nat) (er em : dP) (m : List Body) (hs : StoreIs 40 A n c p er em m) (hO : Own [(some b, bc [.slice A n c, .map p] 56), er, em] w) :
    Calls Tryz.prog 64 #[.pointer (some ⟨b, 0, none⟩)] w (fun ex w' => ∃ v, ex = .returned v ∧ (fun v w' => ∃ A' n' c' e', v = .slice A' n' c' ∧ bA 40 10 A' n' c' ((tY m).map aI) e' ∧ Mem w (bX [(some b, bc [.slice A n c, .map p] 56), er, em]) [(some b, bc [.slice A n c, .map p] 56), er, em, e'] w') v w') := by
  have hlen : m.length = n := by simpa using hs.row.1
  have hcap := hs.cap
  refine aJ #[.tmp 2] 14 Tryz.func64 rfl Tryz.results64 Tryz.ntmps64 rfl ?_
  have M0 := hO.mem
  refine aG (aB ?_)
  refine aA (aE (.slice _ _ _) rfl) rfl rfl ?_
  refine aC (aF (aG (aG (aB ?_))))
  refine aA (aD (.pointer _) rfl) rfl rfl ?_
  refine aA (eC false Tryz.underlying143 rfl rfl) rfl rfl ?_
  refine aC (aF ?_)
  refine cH rfl ?_
  refine aN (aF (aG (aB ?_)))
  refine aA (aD (.pointer _) rfl) rfl rfl ?_
  refine aA (aO rfl) rfl rfl ?_
  refine aA (aH 0 fN rfl) rfl rfl ?_
  refine aA (aQ 0 (.slice _ _ _) eX M0 rfl rfl rfl) rfl rfl ?_
  refine aK bDb rfl rfl rfl ?_
  refine (yS _ _ _ _ _ (hs.row.rd M0 (bB (i := 1) rfl)) (aIc m) (by omega)).mono ?_
  rintro _ w1 ⟨v1, rfl, ⟨A1, n1, c1, e1, rfl, hR1, hM1, _⟩⟩
  refine ⟨_, rfl, ?_⟩
  have M1 : Mem _ _ [_, _, _, _] _ := M0.call0 hM1
  have hn1 : n1 = m.length := by simpa using hR1.1.symm
  refine aA (aE (.slice _ _ _) rfl) rfl rfl ?_
  refine aC (aF (aG (aB ?_)))
  refine aA (aD (.slice _ _ _) rfl) rfl rfl ?_
  refine aK bCz rfl rfl rfl ?_
  refine (uG 96 bEh uE _ _ _ _ m _ hR1 (M1.ownAt (i := 3) rfl) (by omega)).mono ?_
  rintro _ w2 ⟨v2, rfl, ⟨rfl, ys2, e2, hp2, hu2, hR2, hM2⟩⟩
  refine ⟨_, rfl, ?_⟩
  have M2 : Mem _ _ [_, _, _, _] _ := M1.seg 3 1 hM2
  have hys : ys2 = tY m := aNf hu2 (yG m) (hp2.trans (lI m).symm) (hs.keys.perm hp2)
  rw [hys] at hR2
  refine aC (aF (aG (aB ?_)))
  refine aA (aD (.slice _ _ _) rfl) rfl rfl ?_
  refine aA (aE (.slice _ _ _) rfl) rfl rfl ?_
  refine aC (aF (aR ?_))
  refine bY (.slice _ _ _) rfl ?_
  exact ⟨_, _, _, _, rfl, hR2, M2⟩
end Go.Proofs.YtlmcphcgiclanaaGreatDoor

namespace Go.Proofs.YtlmcphcgiclanaaGreatDoor
open Go.Bil
open Go.RowKit (Below)
open Go.Proofs
theorem gS {x : Int} (h : 0 ≤ x ∧ x ≤ 4294967295) : IntKind.wrap .i32 x = mC x := by
  unfold mC
  simp [IntKind.wrap, IntKind.bits, IntKind.signed]
  split <;> split <;> omega
set_option maxHeartbeats 4000000 in
theorem aAj (w : World) (r : Row) (xs : List Int) (hr : bA 5 1 r.A r.n r.c ((xs).map cD) r.e) (n : Int) (hn : 0 ≤ n ∧ n ≤ 4294967295) (hl : r.n ≤ 1048576) (hO : Own [r.e] w) :
    Calls Tryz.prog 100 #[.slice r.A r.n r.c, .int .u32 n] w (fun ex w' => ∃ v, ex = .returned v ∧ (fun v w' => ∃ q : Row, v = .slice q.A q.n q.c ∧ q.n = r.n + 4 ∧ bA 5 1 q.A q.n q.c ((xs ++ cA n).map cD) q.e ∧ Mem w (bX [r.e]) [q.e] w') v w') := by
  refine aJ #[.tmp 4] 19 Tryz.func100 rfl Tryz.results100 Tryz.ntmps100 rfl ?_
  have M0 := hO.mem
  refine aG (aB ?_)
  refine aA (aE (.slice _ _ _) rfl) rfl rfl ?_
  refine aC (aF (aG (aB ?_)))
  refine aA (aD (.slice _ _ _) rfl) rfl rfl ?_
  refine aA (aD (.int _ _) rfl) rfl rfl ?_
  refine aA (gA rfl rfl (by decide)) rfl rfl ?_
  refine aM 7 (.int .u32 (n / 16777216)) (iE (aWm n)) ?_
  refine aA (dR qC Tryz.underlying5 rfl) rfl rfl ?_
  refine aM 8 (.int .u8 (n / 16777216 % 256)) (iE (wr8 _)) ?_
  refine aA (aD (.int _ _) rfl) rfl rfl ?_
  refine aA (gA rfl rfl (by decide)) rfl rfl ?_
  refine aM 10 (.int .u32 (n / 65536)) (iE (aXa n)) ?_
  refine aA (dR qC Tryz.underlying5 rfl) rfl rfl ?_
  refine aM 11 (.int .u8 (n / 65536 % 256)) (iE (wr8 _)) ?_
  refine aA (aD (.int _ _) rfl) rfl rfl ?_
  refine aA (gA rfl rfl (by decide)) rfl rfl ?_
  refine aM 13 (.int .u32 (n / 256)) (iE (bAk n)) ?_
  refine aA (dR qC Tryz.underlying5 rfl) rfl rfl ?_
  refine aM 14 (.int .u8 (n / 256 % 256)) (iE (wr8 _)) ?_
  refine aA (aD (.int _ _) rfl) rfl rfl ?_
  refine aA (dR qC Tryz.underlying5 rfl) rfl rfl ?_
  refine aM 16 (.int .u8 (n % 256)) (iE (wr8 _)) ?_
  refine cR [.int _ _, .int _ _, .int _ _, .int _ _] ((cA n).map cD) rfl lN M0 rfl rfl rfl rfl (cW rfl) (by decide) (fun b1 w1 M1 => ?_)
  refine dL 0 ((cA n).map cD) lN M1 rfl rfl rfl rfl rfl hr rfl (by simp [cA, cD, Go.Bil.one]) (cX.ofMem 1 M1 rfl) (by omega) (fun A2 c2 e2 w2 M2 hR2 => ?_)
  refine aA (aE (.slice _ _ _) rfl) rfl rfl ?_
  refine aC (aF (aR ?_))
  refine bY (.slice _ _ _) rfl ?_
  exact ⟨⟨A2, _, c2, e2⟩, rfl, rfl, by rw [List.map_append]; exact hR2, M2.keep [true, false]⟩
set_option maxHeartbeats 4000000 in
theorem fF (w : World) (x : Int) :
    Calls Tryz.prog 130 #[.int .i32 x] w (fun ex w' => ∃ v, ex = .returned v ∧ (fun v w' => v = .int .u32 (x % 4294967296) ∧ Below w.heap.size w w') v w') := by
  refine aJ #[.tmp 2] 5 Tryz.func130 rfl Tryz.results130 Tryz.ntmps130 rfl ?_
  have M0 := Mem.refl w
  refine aG (aB ?_)
  refine aA (aE (.int _ _) rfl) rfl rfl ?_
  refine aC (aF (aG (aB ?_)))
  refine aA (aD (.int _ _) rfl) rfl rfl ?_
  refine aA (dR fL Tryz.underlying36 rfl) rfl rfl ?_
  refine aM 4 (.int .u32 (x % 4294967296)) (iE (aSe _)) ?_
  refine aA (aE (.int _ _) rfl) rfl rfl ?_
  refine aC (aF (aR ?_))
  refine bY (.int _ _) rfl ?_
  exact ⟨rfl, M0.below⟩
set_option maxHeartbeats 4000000 in
theorem aHf (w : World) (b : Body) :
    Calls Tryz.prog 101 #[(.agg (aI b).toArray)] w (fun ex w' => ∃ v, ex = .returned v ∧ (fun v w' => v = .agg ((tD b).map (Value.int .u32)).toArray ∧ Below w.heap.size w w') v w') := by
  refine aJ #[.cell 2 150] 49 Tryz.func101 rfl Tryz.results101 Tryz.ntmps101 rfl ?_
  have M0 := Mem.refl w
  refine aG (aB ?_)
  refine bL (.agg (List.toArray _)) M0 rfl rfl rfl (fun b1 w1 M1 => ?_)
  refine aW aCn M1 rfl rfl (fun b2 w2 M2 => ?_)
  refine aC (aF (aG (aB ?_)))
  refine aA (aE (.func _ _ _) rfl) rfl rfl ?_
  refine aC (aF (aG ?_))
  refine bS [(0, 0), (1, 1), (2, 0), (3, 0), (4, 1), (6, 0), (7, 0), (8, 0), (9, 1), (11, 0), (12, 0), (13, 0), (14, 1), (16, 0), (17, 0), (18, 1), (20, 0), (21, 0), (22, 1), (24, 0), (25, 0), (26, 0), (27, 1), (29, 0), (30, 0), (31, 0), (32, 1), (34, 0), (35, 0), (36, 0), (37, 1), (39, 0), (40, 0), (41, 0), (42, 1), (5, 2), (10, 2), (15, 2), (19, 2), (23, 2), (28, 2), (33, 2), (38, 2), (43, 2), (44, 0), (45, 2)] mixed rfl (by kernel_rfl) (fun w3 hb3 hh3 => ?_)
  have M3 := M2.drew hb3 hh3
  refine aU rfl rfl rfl (fun _ => aH 0 dJ rfl) ?_
  refine cB rfl rfl rfl (aQ 0 (.int _ _) bR M3 rfl rfl rfl) ?_
  refine aU rfl rfl rfl (fun _ => aD (.func _ _ _) rfl) ?_
  refine aU rfl rfl rfl (fun _ => aH 1 jM rfl) ?_
  refine cB rfl rfl rfl (aQ 0 (.int _ _) aX M3 rfl rfl rfl) ?_
  refine aU rfl rfl rfl (fun _ => aD (.func _ _ _) rfl) ?_
  refine aU rfl rfl rfl (fun _ => aH 2 iU rfl) ?_
  refine aU rfl rfl rfl (fun _ => aH 0 dG rfl) ?_
  refine cB rfl rfl rfl (aQ 0 (.int _ _) aX M3 rfl rfl rfl) ?_
  refine aU rfl rfl rfl (fun _ => aD (.func _ _ _) rfl) ?_
  refine aU rfl rfl rfl (fun _ => aH 2 iU rfl) ?_
  refine aU rfl rfl rfl (fun _ => aH 1 dC rfl) ?_
  refine cB rfl rfl rfl (aQ 0 (.int _ _) aX M3 rfl rfl rfl) ?_
  refine aU rfl rfl rfl (fun _ => aD (.func _ _ _) rfl) ?_
  refine aU rfl rfl rfl (fun _ => aH 4 eM rfl) ?_
  refine cB rfl rfl rfl (aQ 0 (.int _ _) aX M3 rfl rfl rfl) ?_
  refine aU rfl rfl rfl (fun _ => aD (.func _ _ _) rfl) ?_
  refine aU rfl rfl rfl (fun _ => aH 5 nC rfl) ?_
  refine cB rfl rfl rfl (aQ 0 (.int _ _) aX M3 rfl rfl rfl) ?_
  refine aU rfl rfl rfl (fun _ => aD (.func _ _ _) rfl) ?_
  refine aU rfl rfl rfl (fun _ => aH 6 fG rfl) ?_
  refine aU rfl rfl rfl (fun _ => aH 0 dG rfl) ?_
  refine cB rfl rfl rfl (aQ 0 (.int _ _) aX M3 rfl rfl rfl) ?_
  refine aU rfl rfl rfl (fun _ => aD (.func _ _ _) rfl) ?_
  refine aU rfl rfl rfl (fun _ => aH 6 fG rfl) ?_
  refine aU rfl rfl rfl (fun _ => aH 1 dC rfl) ?_
  refine cB rfl rfl rfl (aQ 0 (.int _ _) aX M3 rfl rfl rfl) ?_
  refine aU rfl rfl rfl (fun _ => aD (.func _ _ _) rfl) ?_
  refine aU rfl rfl rfl (fun _ => aH 8 eN rfl) ?_
  refine aU rfl rfl rfl (fun _ => aH 0 dG rfl) ?_
  refine cB rfl rfl rfl (aQ 0 (.int _ _) aX M3 rfl rfl rfl) ?_
  refine aU rfl rfl rfl (fun _ => aD (.func _ _ _) rfl) ?_
  refine aU rfl rfl rfl (fun _ => aH 8 eN rfl) ?_
  refine aU rfl rfl rfl (fun _ => aH 1 dC rfl) ?_
  refine cB rfl rfl rfl (aQ 0 (.int _ _) aX M3 rfl rfl rfl) ?_
  refine dU [false, false, false, false, false, false, false, false, true, false] rfl (by kernel_rfl) ?_
  refine aK nG rfl rfl rfl ?_
  refine (fF _ b.radius).mono ?_
  rintro _ w4 ⟨v4, rfl, ⟨rfl, hb4⟩⟩
  refine ⟨_, rfl, ?_⟩
  have M4 := M3.callB hb4
  refine aC (aF ⟨(eS (bQ rfl (aQ 0 (.int _ _) aX M4 rfl rfl rfl)) (eS (bQ rfl (aQ 0 (.int _ _) aX M4 rfl rfl rfl)) (eS (bQ rfl (aQ 0 (.int _ _) aX M4 rfl rfl rfl)) (eS (bQ rfl (aQ 0 (.int _ _) aX M4 rfl rfl rfl)) (eS (bQ rfl (aQ 0 (.int _ _) aX M4 rfl rfl rfl)) (eS (bQ rfl (aQ 0 (.int _ _) aX M4 rfl rfl rfl)) (eS (bQ rfl (aQ 0 (.int _ _) aX M4 rfl rfl rfl)) (eS (bQ rfl (aQ 0 (.int _ _) aX M4 rfl rfl rfl)) (eS (bQ rfl (aQ 0 (.int _ _) bR M4 rfl rfl rfl)) dV))))))))), ?_⟩)
  refine dU [false, false, false, false, false, false, false, true, false] rfl (by kernel_rfl) ?_
  refine aK nG rfl rfl rfl ?_
  refine (fF _ b.ax).mono ?_
  rintro _ w5 ⟨v5, rfl, ⟨rfl, hb5⟩⟩
  refine ⟨_, rfl, ?_⟩
  have M5 := M4.callB hb5
  refine aC (aF ⟨(eS (bQ rfl (aQ 0 (.int _ _) aX M5 rfl rfl rfl)) (eS (bQ rfl (aQ 0 (.int _ _) aX M5 rfl rfl rfl)) (eS (bQ rfl (aQ 0 (.int _ _) aX M5 rfl rfl rfl)) (eS (bQ rfl (aQ 0 (.int _ _) aX M5 rfl rfl rfl)) (eS (bQ rfl (aQ 0 (.int _ _) aX M5 rfl rfl rfl)) (eS (bQ rfl (aQ 0 (.int _ _) aX M5 rfl rfl rfl)) (eS (bQ rfl (aQ 0 (.int _ _) aX M5 rfl rfl rfl)) (eS (bQ rfl (aQ 0 (.int _ _) bR M5 rfl rfl rfl)) dV)))))))), ?_⟩)
  refine dU [false, false, false, false, false, false, true, false] rfl (by kernel_rfl) ?_
  refine aK nG rfl rfl rfl ?_
  refine (fF _ b.ay).mono ?_
  rintro _ w6 ⟨v6, rfl, ⟨rfl, hb6⟩⟩
  refine ⟨_, rfl, ?_⟩
  have M6 := M5.callB hb6
  refine aC (aF ⟨(eS (bQ rfl (aQ 0 (.int _ _) aX M6 rfl rfl rfl)) (eS (bQ rfl (aQ 0 (.int _ _) aX M6 rfl rfl rfl)) (eS (bQ rfl (aQ 0 (.int _ _) aX M6 rfl rfl rfl)) (eS (bQ rfl (aQ 0 (.int _ _) aX M6 rfl rfl rfl)) (eS (bQ rfl (aQ 0 (.int _ _) aX M6 rfl rfl rfl)) (eS (bQ rfl (aQ 0 (.int _ _) aX M6 rfl rfl rfl)) (eS (bQ rfl (aQ 0 (.int _ _) bR M6 rfl rfl rfl)) dV))))))), ?_⟩)
  refine dU [false, false, false, false, false, true, false] rfl (by kernel_rfl) ?_
  refine aK nG rfl rfl rfl ?_
  refine (fF _ b.mass).mono ?_
  rintro _ w7 ⟨v7, rfl, ⟨rfl, hb7⟩⟩
  refine ⟨_, rfl, ?_⟩
  have M7 := M6.callB hb7
  refine aC (aF ⟨(eS (bQ rfl (aQ 0 (.int _ _) aX M7 rfl rfl rfl)) (eS (bQ rfl (aQ 0 (.int _ _) aX M7 rfl rfl rfl)) (eS (bQ rfl (aQ 0 (.int _ _) aX M7 rfl rfl rfl)) (eS (bQ rfl (aQ 0 (.int _ _) aX M7 rfl rfl rfl)) (eS (bQ rfl (aQ 0 (.int _ _) aX M7 rfl rfl rfl)) (eS (bQ rfl (aQ 0 (.int _ _) bR M7 rfl rfl rfl)) dV)))))), ?_⟩)
  refine dU [false, false, false, false, true, false] rfl (by kernel_rfl) ?_
  refine aK nG rfl rfl rfl ?_
  refine (fF _ b.bounce).mono ?_
  rintro _ w8 ⟨v8, rfl, ⟨rfl, hb8⟩⟩
  refine ⟨_, rfl, ?_⟩
  have M8 := M7.callB hb8
  refine aC (aF ⟨(eS (bQ rfl (aQ 0 (.int _ _) aX M8 rfl rfl rfl)) (eS (bQ rfl (aQ 0 (.int _ _) aX M8 rfl rfl rfl)) (eS (bQ rfl (aQ 0 (.int _ _) aX M8 rfl rfl rfl)) (eS (bQ rfl (aQ 0 (.int _ _) aX M8 rfl rfl rfl)) (eS (bQ rfl (aQ 0 (.int _ _) bR M8 rfl rfl rfl)) dV))))), ?_⟩)
  refine dU [false, false, false, true, false] rfl (by kernel_rfl) ?_
  refine aK nG rfl rfl rfl ?_
  refine (fF _ b.px).mono ?_
  rintro _ w9 ⟨v9, rfl, ⟨rfl, hb9⟩⟩
  refine ⟨_, rfl, ?_⟩
  have M9 := M8.callB hb9
  refine aC (aF ⟨(eS (bQ rfl (aQ 0 (.int _ _) aX M9 rfl rfl rfl)) (eS (bQ rfl (aQ 0 (.int _ _) aX M9 rfl rfl rfl)) (eS (bQ rfl (aQ 0 (.int _ _) aX M9 rfl rfl rfl)) (eS (bQ rfl (aQ 0 (.int _ _) bR M9 rfl rfl rfl)) dV)))), ?_⟩)
  refine dU [false, false, true, false] rfl (by kernel_rfl) ?_
  refine aK nG rfl rfl rfl ?_
  refine (fF _ b.py).mono ?_
  rintro _ w10 ⟨v10, rfl, ⟨rfl, hb10⟩⟩
  refine ⟨_, rfl, ?_⟩
  have M10 := M9.callB hb10
  refine aC (aF ⟨(eS (bQ rfl (aQ 0 (.int _ _) aX M10 rfl rfl rfl)) (eS (bQ rfl (aQ 0 (.int _ _) aX M10 rfl rfl rfl)) (eS (bQ rfl (aQ 0 (.int _ _) bR M10 rfl rfl rfl)) dV))), ?_⟩)
  refine dU [false, true, false] rfl (by kernel_rfl) ?_
  refine aK nG rfl rfl rfl ?_
  refine (fF _ b.vx).mono ?_
  rintro _ w11 ⟨v11, rfl, ⟨rfl, hb11⟩⟩
  refine ⟨_, rfl, ?_⟩
  have M11 := M10.callB hb11
  refine aC (aF ⟨(eS (bQ rfl (aQ 0 (.int _ _) aX M11 rfl rfl rfl)) (eS (bQ rfl (aQ 0 (.int _ _) bR M11 rfl rfl rfl)) dV)), ?_⟩)
  refine dU [true, false] rfl (by kernel_rfl) ?_
  refine aK nG rfl rfl rfl ?_
  refine (fF _ b.vy).mono ?_
  rintro _ w12 ⟨v12, rfl, ⟨rfl, hb12⟩⟩
  refine ⟨_, rfl, ?_⟩
  have M12 := M11.callB hb12
  refine aC (aF ⟨(eS (bQ rfl (aQ 0 (.int _ _) bR M12 rfl rfl rfl)) dV), ?_⟩)
  refine aU rfl rfl rfl (fun _ => oK [.int _ _, .int _ _, .int _ _, .int _ _, .int _ _, .int _ _, .int _ _, .int _ _, .int _ _, .int _ _] fE aCn rfl rfl (cW rfl)) ?_
  refine dU [true] rfl (by kernel_rfl) ?_
  refine bH 1 _ aHy M12 rfl rfl rfl rfl rfl (aY rfl) rfl (fun w13 M13 => ?_)
  refine aC (aF ⟨dV, ?_⟩)
  refine cF ?_
  refine aF (aR ?_)
  refine iX 1 aHy M13 rfl rfl rfl ?_
  exact ⟨rfl, M13.below⟩
set_option maxHeartbeats 4000000 in
theorem fS (w : World) (A : Option Addr) (n c : Nat) (ls : List Int) (R : Rd w 1 A n (ls.map cD)) (hB : jD ls) (h4 : 4 ≤ n) :
    Calls Tryz.prog 102 #[.slice A n c] w (fun ex w' => ∃ v, ex = .returned v ∧ (fun v w' => v = .int .u32 (dY ls 0) ∧ Below w.heap.size w w') v w') := by
  have hlen : ls.length = n := by simpa using R.len
  have hbd := R.bound
  obtain ⟨x0, hx0⟩ := cL (xs := ls) (k := 0) hlen (by omega)
  obtain ⟨x1, hx1⟩ := cL (xs := ls) (k := 1) hlen (by omega)
  obtain ⟨x2, hx2⟩ := cL (xs := ls) (k := 2) hlen (by omega)
  obtain ⟨x3, hx3⟩ := cL (xs := ls) (k := 3) hlen (by omega)
  obtain ⟨g0, g1⟩ := hB x0 (List.mem_of_getElem? hx0)
  obtain ⟨g2, g3⟩ := hB x1 (List.mem_of_getElem? hx1)
  obtain ⟨g4, g5⟩ := hB x2 (List.mem_of_getElem? hx2)
  obtain ⟨g6, g7⟩ := hB x3 (List.mem_of_getElem? hx3)
  have hnum : dY ls 0 = ((x0 * 256 + x1) * 256 + x2) * 256 + x3 := by unfold dY; simp only [List.getD_eq_getElem?_getD, Nat.zero_add, hx0, hx1, hx2, hx3, Option.getD_some]
  obtain ⟨b0, rfl⟩ := Int.eq_ofNat_of_zero_le g0
  obtain ⟨b1, rfl⟩ := Int.eq_ofNat_of_zero_le g2
  obtain ⟨b2, rfl⟩ := Int.eq_ofNat_of_zero_le g4
  obtain ⟨b3, rfl⟩ := Int.eq_ofNat_of_zero_le g6
  refine aJ #[.tmp 2] 25 Tryz.func102 rfl Tryz.results102 Tryz.ntmps102 rfl ?_
  have M0 := Mem.refl w
  refine aG (aB ?_)
  refine aA (aE (.int _ _) rfl) rfl rfl ?_
  refine aC (aF (aG ?_))
  refine bS [(0, 0), (1, 1), (2, 1), (3, 0), (4, 0), (5, 0), (6, 1), (7, 1), (8, 0), (9, 0), (10, 0), (11, 0), (12, 1), (13, 1), (14, 0), (15, 0), (16, 0), (17, 0), (18, 1), (19, 1), (20, 0), (21, 0), (22, 0)] mixed rfl (by kernel_rfl) (fun w1 hb1 hh1 => ?_)
  have M1 := M0.drew hb1 hh1
  refine aU rfl rfl rfl (fun _ => aD (.slice _ _ _) rfl) ?_
  refine cB rfl rfl rfl (bU (0) lN rfl rfl rfl ((R.mem M1).below_len (aL cD hx0)) ((R.mem M1).someK (aL cD hx0))) ?_
  refine cB rfl rfl rfl (iB (.int _ _) aLi (R.mem M1) (aL cD hx0) rfl) ?_
  refine aU rfl rfl rfl (fun _ => bV us5 Tryz.underlying36 rfl (aAa _ (by omega) (by omega))) ?_
  refine aU rfl rfl rfl (fun _ => rP rfl rfl (by decide)) ?_
  refine iL 7 (.int .u32 ((b0 * 16777216 : Nat) : Int)) (iE (aTz b0 (by omega))) ?_
  refine aU rfl rfl rfl (fun _ => aD (.slice _ _ _) rfl) ?_
  refine cB rfl rfl rfl (bU (1) lN rfl rfl rfl ((R.mem M1).below_len (aL cD hx1)) ((R.mem M1).someK (aL cD hx1))) ?_
  refine cB rfl rfl rfl (iB (.int _ _) aLi (R.mem M1) (aL cD hx1) rfl) ?_
  refine aU rfl rfl rfl (fun _ => bV us5 Tryz.underlying36 rfl (aAa _ (by omega) (by omega))) ?_
  refine aU rfl rfl rfl (fun _ => rP rfl rfl (by decide)) ?_
  refine iL 12 (.int .u32 ((b1 * 65536 : Nat) : Int)) (iE (aUc b1 (by omega))) ?_
  refine aU rfl rfl rfl (fun _ => aP (.int _ _) rfl rfl rfl) ?_
  refine iL 13 (.int .u32 ((b0 * 16777216 + b1 * 65536 : Nat) : Int)) (iE (bBf b0 (b0 * 16777216) (b1 * 65536) 24 rfl (show b1 * 65536 < 16777216 by omega) (by omega))) ?_
  refine aU rfl rfl rfl (fun _ => aD (.slice _ _ _) rfl) ?_
  refine cB rfl rfl rfl (bU (2) lN rfl rfl rfl ((R.mem M1).below_len (aL cD hx2)) ((R.mem M1).someK (aL cD hx2))) ?_
  refine cB rfl rfl rfl (iB (.int _ _) aLi (R.mem M1) (aL cD hx2) rfl) ?_
  refine aU rfl rfl rfl (fun _ => bV us5 Tryz.underlying36 rfl (aAa _ (by omega) (by omega))) ?_
  refine aU rfl rfl rfl (fun _ => rP rfl rfl (by decide)) ?_
  refine iL 18 (.int .u32 ((b2 * 256 : Nat) : Int)) (iE (bAq b2 (by omega))) ?_
  refine aU rfl rfl rfl (fun _ => aP (.int _ _) rfl rfl rfl) ?_
  refine iL 19 (.int .u32 ((b0 * 16777216 + b1 * 65536 + b2 * 256 : Nat) : Int)) (iE (bBf (b0 * 256 + b1) (b0 * 16777216 + b1 * 65536) (b2 * 256) 16 (show (b0 * 256 + b1) * 65536 = _ by omega) (show b2 * 256 < 65536 by omega) (by omega))) ?_
  refine aU rfl rfl rfl (fun _ => aD (.slice _ _ _) rfl) ?_
  refine cB rfl rfl rfl (bU (3) lN rfl rfl rfl ((R.mem M1).below_len (aL cD hx3)) ((R.mem M1).someK (aL cD hx3))) ?_
  refine cB rfl rfl rfl (iB (.int _ _) aLi (R.mem M1) (aL cD hx3) rfl) ?_
  refine aU rfl rfl rfl (fun _ => bV us5 Tryz.underlying36 rfl (aAa _ (by omega) (by omega))) ?_
  refine aU rfl rfl rfl (fun _ => aP (.int _ _) rfl rfl rfl) ?_
  refine iL 24 (.int .u32 ((b0 * 16777216 + b1 * 65536 + b2 * 256 + b3 : Nat) : Int)) (iE (bBf (b0 * 65536 + b1 * 256 + b2) (b0 * 16777216 + b1 * 65536 + b2 * 256) b3 8 (show (b0 * 65536 + b1 * 256 + b2) * 256 = _ by omega) (show b3 < 256 by omega) (by omega))) ?_
  refine aU rfl rfl rfl (fun _ => aE (.int _ _) rfl) ?_
  refine cF ?_
  refine aF (aR ?_)
  refine bY (.int _ _) rfl ?_
  exact ⟨iE (by rw [hnum]; omega), M1.below⟩
set_option maxHeartbeats 4000000 in
theorem fD (w : World) (n : Int) (hn : 0 ≤ n ∧ n ≤ 4294967295) :
    Calls Tryz.prog 103 #[.int .i64 n] w (fun ex w' => ∃ v, ex = .returned v ∧ (fun v w' => v = .int .i64 (8 + 40 * n) ∧ Below w.heap.size w w') v w') := by
  refine aJ #[.tmp 2] 6 Tryz.func103 rfl Tryz.results103 Tryz.ntmps103 rfl ?_
  have M0 := Mem.refl w
  refine aG (aB ?_)
  refine aA (aE (.int _ _) rfl) rfl rfl ?_
  refine aC (aF (aG (aB ?_)))
  refine aA (aD (.int _ _) rfl) rfl rfl ?_
  refine aA (fR rfl rfl (by omega) (by omega)) rfl rfl ?_
  refine aA (bM rfl rfl (by omega) (by omega)) rfl rfl ?_
  refine aA (aE (.int _ _) rfl) rfl rfl ?_
  refine aC (aF (aR ?_))
  refine bY (.int _ _) rfl ?_
  exact ⟨iE (by omega), M0.below⟩
set_option maxHeartbeats 4000000 in
theorem uM (w : World) (b : Nat) (x0 x1 x2 x3 x4 x5 x6 x7 x8 x9 : Int) (h0 : 0 ≤ x2 ∧ x2 ≤ 4294967295) (h1 : 0 ≤ x3 ∧ x3 ≤ 4294967295) (hO : Own [(some b, bc [.int .u32 x0, .int .u32 x1, .int .u32 x2, .int .u32 x3, .int .u32 x4, .int .u32 x5, .int .u32 x6, .int .u32 x7, .int .u32 x8, .int .u32 x9] 150)] w) :
    Calls Tryz.prog 131 #[.int .i64 2, .pointer (some ⟨b, 0, none⟩)] w (fun ex w' => ∃ v, ex = .returned v ∧ (fun v w' => v = .agg [.int .i32 (mC x2), .int .i32 (mC x3)].toArray ∧ Mem w (bX [(some b, bc [.int .u32 x0, .int .u32 x1, .int .u32 x2, .int .u32 x3, .int .u32 x4, .int .u32 x5, .int .u32 x6, .int .u32 x7, .int .u32 x8, .int .u32 x9] 150)]) [(some b, bc [.int .u32 x0, .int .u32 x1, .int .u32 x2, .int .u32 x3, .int .u32 x4, .int .u32 x5, .int .u32 x6, .int .u32 x7, .int .u32 x8, .int .u32 x9] 150)] w') v w') := by
  refine aJ #[.cell 3 38] 14 Tryz.func131 rfl Tryz.results131 Tryz.ntmps131 rfl ?_
  have M0 := hO.mem
  refine aG (aB ?_)
  refine aW fY M0 rfl rfl (fun b1 w1 M1 => ?_)
  refine aC (aF (aG ?_))
  refine bS [(0, 0), (1, 0), (2, 1), (3, 0), (4, 0), (5, 0), (6, 0), (7, 1), (8, 0), (9, 0), (10, 2)] mixed rfl (by kernel_rfl) (fun w2 hb2 hh2 => ?_)
  have M2 := M1.drew hb2 hh2
  refine aU rfl rfl rfl (fun _ => aD (.int _ _) rfl) ?_
  refine aU rfl rfl rfl (fun _ => eT (2) fE rfl rfl rfl (by decide)) ?_
  refine cB rfl rfl rfl (aQ 0 (.int _ _) bR M2 rfl rfl rfl) ?_
  refine aU rfl rfl rfl (fun _ => dR qC Tryz.underlying21 rfl) ?_
  refine iL 7 (.int .i32 (mC x2)) (iE (gS h0)) ?_
  refine aU rfl rfl rfl (fun _ => aD (.int _ _) rfl) ?_
  refine aU rfl rfl rfl (fun _ => bM rfl rfl (by first | decide | omega) (by first | decide | omega)) ?_
  refine aU rfl rfl rfl (fun _ => eT (3) fE rfl rfl rfl (by decide)) ?_
  refine cB rfl rfl rfl (aQ 0 (.int _ _) bR M2 rfl rfl rfl) ?_
  refine aU rfl rfl rfl (fun _ => dR qC Tryz.underlying21 rfl) ?_
  refine iL 12 (.int .i32 (mC x3)) (iE (gS h1)) ?_
  refine aU rfl rfl rfl (fun _ => cN [(0, .int _ _), (1, .int _ _)] _ eJ rfl rfl) ?_
  refine dU [true, true] rfl (by kernel_rfl) ?_
  refine bH 1 _ bJ M2 rfl rfl rfl rfl rfl (aY rfl) rfl (fun w3 M3 => ?_)
  refine aC (aF ⟨dV, ?_⟩)
  refine cF ?_
  refine aF (aR ?_)
  refine iX 1 bJ M3 rfl rfl rfl ?_
  exact ⟨rfl, M3.keep [true, false]⟩
set_option maxHeartbeats 4000000 in
theorem uJ (w : World) (b : Nat) (x0 x1 x2 x3 x4 x5 x6 x7 x8 x9 : Int) (h0 : 0 ≤ x6 ∧ x6 ≤ 4294967295) (h1 : 0 ≤ x7 ∧ x7 ≤ 4294967295) (hO : Own [(some b, bc [.int .u32 x0, .int .u32 x1, .int .u32 x2, .int .u32 x3, .int .u32 x4, .int .u32 x5, .int .u32 x6, .int .u32 x7, .int .u32 x8, .int .u32 x9] 150)] w) :
    Calls Tryz.prog 131 #[.int .i64 6, .pointer (some ⟨b, 0, none⟩)] w (fun ex w' => ∃ v, ex = .returned v ∧ (fun v w' => v = .agg [.int .i32 (mC x6), .int .i32 (mC x7)].toArray ∧ Mem w (bX [(some b, bc [.int .u32 x0, .int .u32 x1, .int .u32 x2, .int .u32 x3, .int .u32 x4, .int .u32 x5, .int .u32 x6, .int .u32 x7, .int .u32 x8, .int .u32 x9] 150)]) [(some b, bc [.int .u32 x0, .int .u32 x1, .int .u32 x2, .int .u32 x3, .int .u32 x4, .int .u32 x5, .int .u32 x6, .int .u32 x7, .int .u32 x8, .int .u32 x9] 150)] w') v w') := by
  refine aJ #[.cell 3 38] 14 Tryz.func131 rfl Tryz.results131 Tryz.ntmps131 rfl ?_
  have M0 := hO.mem
  refine aG (aB ?_)
  refine aW fY M0 rfl rfl (fun b1 w1 M1 => ?_)
  refine aC (aF (aG ?_))
  refine bS [(0, 0), (1, 0), (2, 1), (3, 0), (4, 0), (5, 0), (6, 0), (7, 1), (8, 0), (9, 0), (10, 2)] mixed rfl (by kernel_rfl) (fun w2 hb2 hh2 => ?_)
  have M2 := M1.drew hb2 hh2
  refine aU rfl rfl rfl (fun _ => aD (.int _ _) rfl) ?_
  refine aU rfl rfl rfl (fun _ => eT (6) fE rfl rfl rfl (by decide)) ?_
  refine cB rfl rfl rfl (aQ 0 (.int _ _) bR M2 rfl rfl rfl) ?_
  refine aU rfl rfl rfl (fun _ => dR qC Tryz.underlying21 rfl) ?_
  refine iL 7 (.int .i32 (mC x6)) (iE (gS h0)) ?_
  refine aU rfl rfl rfl (fun _ => aD (.int _ _) rfl) ?_
  refine aU rfl rfl rfl (fun _ => bM rfl rfl (by first | decide | omega) (by first | decide | omega)) ?_
  refine aU rfl rfl rfl (fun _ => eT (7) fE rfl rfl rfl (by decide)) ?_
  refine cB rfl rfl rfl (aQ 0 (.int _ _) bR M2 rfl rfl rfl) ?_
  refine aU rfl rfl rfl (fun _ => dR qC Tryz.underlying21 rfl) ?_
  refine iL 12 (.int .i32 (mC x7)) (iE (gS h1)) ?_
  refine aU rfl rfl rfl (fun _ => cN [(0, .int _ _), (1, .int _ _)] _ eJ rfl rfl) ?_
  refine dU [true, true] rfl (by kernel_rfl) ?_
  refine bH 1 _ bJ M2 rfl rfl rfl rfl rfl (aY rfl) rfl (fun w3 M3 => ?_)
  refine aC (aF ⟨dV, ?_⟩)
  refine cF ?_
  refine aF (aR ?_)
  refine iX 1 bJ M3 rfl rfl rfl ?_
  exact ⟨rfl, M3.keep [true, false]⟩
set_option maxHeartbeats 4000000 in
theorem uH (w : World) (b : Nat) (x0 x1 x2 x3 x4 x5 x6 x7 x8 x9 : Int) (h0 : 0 ≤ x8 ∧ x8 ≤ 4294967295) (h1 : 0 ≤ x9 ∧ x9 ≤ 4294967295) (hO : Own [(some b, bc [.int .u32 x0, .int .u32 x1, .int .u32 x2, .int .u32 x3, .int .u32 x4, .int .u32 x5, .int .u32 x6, .int .u32 x7, .int .u32 x8, .int .u32 x9] 150)] w) :
    Calls Tryz.prog 131 #[.int .i64 8, .pointer (some ⟨b, 0, none⟩)] w (fun ex w' => ∃ v, ex = .returned v ∧ (fun v w' => v = .agg [.int .i32 (mC x8), .int .i32 (mC x9)].toArray ∧ Mem w (bX [(some b, bc [.int .u32 x0, .int .u32 x1, .int .u32 x2, .int .u32 x3, .int .u32 x4, .int .u32 x5, .int .u32 x6, .int .u32 x7, .int .u32 x8, .int .u32 x9] 150)]) [(some b, bc [.int .u32 x0, .int .u32 x1, .int .u32 x2, .int .u32 x3, .int .u32 x4, .int .u32 x5, .int .u32 x6, .int .u32 x7, .int .u32 x8, .int .u32 x9] 150)] w') v w') := by
  refine aJ #[.cell 3 38] 14 Tryz.func131 rfl Tryz.results131 Tryz.ntmps131 rfl ?_
  have M0 := hO.mem
  refine aG (aB ?_)
  refine aW fY M0 rfl rfl (fun b1 w1 M1 => ?_)
  refine aC (aF (aG ?_))
  refine bS [(0, 0), (1, 0), (2, 1), (3, 0), (4, 0), (5, 0), (6, 0), (7, 1), (8, 0), (9, 0), (10, 2)] mixed rfl (by kernel_rfl) (fun w2 hb2 hh2 => ?_)
  have M2 := M1.drew hb2 hh2
  refine aU rfl rfl rfl (fun _ => aD (.int _ _) rfl) ?_
  refine aU rfl rfl rfl (fun _ => eT (8) fE rfl rfl rfl (by decide)) ?_
  refine cB rfl rfl rfl (aQ 0 (.int _ _) bR M2 rfl rfl rfl) ?_
  refine aU rfl rfl rfl (fun _ => dR qC Tryz.underlying21 rfl) ?_
  refine iL 7 (.int .i32 (mC x8)) (iE (gS h0)) ?_
  refine aU rfl rfl rfl (fun _ => aD (.int _ _) rfl) ?_
  refine aU rfl rfl rfl (fun _ => bM rfl rfl (by first | decide | omega) (by first | decide | omega)) ?_
  refine aU rfl rfl rfl (fun _ => eT (9) fE rfl rfl rfl (by decide)) ?_
  refine cB rfl rfl rfl (aQ 0 (.int _ _) bR M2 rfl rfl rfl) ?_
  refine aU rfl rfl rfl (fun _ => dR qC Tryz.underlying21 rfl) ?_
  refine iL 12 (.int .i32 (mC x9)) (iE (gS h1)) ?_
  refine aU rfl rfl rfl (fun _ => cN [(0, .int _ _), (1, .int _ _)] _ eJ rfl rfl) ?_
  refine dU [true, true] rfl (by kernel_rfl) ?_
  refine bH 1 _ bJ M2 rfl rfl rfl rfl rfl (aY rfl) rfl (fun w3 M3 => ?_)
  refine aC (aF ⟨dV, ?_⟩)
  refine cF ?_
  refine aF (aR ?_)
  refine iX 1 bJ M3 rfl rfl rfl ?_
  exact ⟨rfl, M3.keep [true, false]⟩
set_option maxHeartbeats 4000000 in
theorem aCp (w : World) (x0 x1 x2 x3 x4 x5 x6 x7 x8 x9 : Int) (hx : ∀ x ∈ ([x0, x1, x2, x3, x4, x5, x6, x7, x8, x9] : List Int), 0 ≤ x ∧ x ≤ 4294967295) :
    Calls Tryz.prog 104 #[.agg [.int .u32 x0, .int .u32 x1, .int .u32 x2, .int .u32 x3, .int .u32 x4, .int .u32 x5, .int .u32 x6, .int .u32 x7, .int .u32 x8, .int .u32 x9].toArray] w (fun ex w' => ∃ v, ex = .returned v ∧ (fun v w' => v = (.agg (aI (⟨x0, mC x1, mC x2, mC x3, mC x4, mC x5, mC x6, mC x7, mC x8, mC x9⟩ : Body)).toArray) ∧ Below w.heap.size w w') v w') := by
  refine aJ #[.cell 2 40] 23 Tryz.func104 rfl Tryz.results104 Tryz.ntmps104 rfl ?_
  have M0 := Mem.refl w
  refine aG (aB ?_)
  refine bL (.agg (List.toArray _)) M0 rfl rfl rfl (fun b1 w1 M1 => ?_)
  refine aW gL M1 rfl rfl (fun b2 w2 M2 => ?_)
  refine aC (aF (aG (aB ?_)))
  refine aA (cQ [] [.pointer _] rfl rfl) rfl rfl ?_
  refine aA (aE (.func _ _ _) rfl) rfl rfl ?_
  refine aC (aF (aG ?_))
  refine bS [(0, 0), (1, 1), (2, 0), (3, 1), (4, 0), (5, 0), (7, 0), (8, 1), (9, 0), (10, 0), (11, 1), (12, 0), (13, 0), (15, 0), (6, 2), (14, 2), (16, 2), (17, 0), (18, 2)] mixed rfl (by kernel_rfl) (fun w3 hb3 hh3 => ?_)
  have M3 := M2.drew hb3 hh3
  refine aU rfl rfl rfl (fun _ => eT (0) fE rfl rfl rfl (by decide)) ?_
  refine cB rfl rfl rfl (aQ 0 (.int _ _) bR M3 rfl rfl rfl) ?_
  refine aU rfl rfl rfl (fun _ => eT (1) fE rfl rfl rfl (by decide)) ?_
  refine cB rfl rfl rfl (aQ 0 (.int _ _) bR M3 rfl rfl rfl) ?_
  refine aU rfl rfl rfl (fun _ => dR qC Tryz.underlying21 rfl) ?_
  refine iL 9 (.int .i32 (mC x1)) (iE (gS (hx _ (by simp)))) ?_
  refine aU rfl rfl rfl (fun _ => aD (.func _ _ _) rfl) ?_
  refine aU rfl rfl rfl (fun _ => eT (4) fE rfl rfl rfl (by decide)) ?_
  refine cB rfl rfl rfl (aQ 0 (.int _ _) bR M3 rfl rfl rfl) ?_
  refine aU rfl rfl rfl (fun _ => dR qC Tryz.underlying21 rfl) ?_
  refine iL 14 (.int .i32 (mC x4)) (iE (gS (hx _ (by simp)))) ?_
  refine aU rfl rfl rfl (fun _ => eT (5) fE rfl rfl rfl (by decide)) ?_
  refine cB rfl rfl rfl (aQ 0 (.int _ _) bR M3 rfl rfl rfl) ?_
  refine aU rfl rfl rfl (fun _ => dR qC Tryz.underlying21 rfl) ?_
  refine iL 17 (.int .i32 (mC x5)) (iE (gS (hx _ (by simp)))) ?_
  refine aU rfl rfl rfl (fun _ => aD (.func _ _ _) rfl) ?_
  refine aU rfl rfl rfl (fun _ => aD (.func _ _ _) rfl) ?_
  refine dU [false, false, false, false] rfl (by kernel_rfl) ?_
  refine aK aHg rfl rfl rfl ?_
  refine (uM _ b1 x0 x1 x2 x3 x4 x5 x6 x7 x8 x9 (hx _ (by simp)) (hx _ (by simp)) (M3.ownSeg 0 1)).mono ?_
  rintro _ w4 ⟨v4, rfl, ⟨rfl, hM4⟩⟩
  refine ⟨_, rfl, ?_⟩
  have M4 : Mem _ _ [_, _] _ := M3.seg 0 1 hM4
  refine aC (aF ⟨(eS (bQ rfl (aQ 0 (.int _ _) bR M4 rfl rfl rfl)) (eS (bQ rfl (aQ 0 (.int _ _) bR M4 rfl rfl rfl)) (eS (bQ rfl (aQ 0 (.int _ _) bR M4 rfl rfl rfl)) (eS (bQ rfl (aQ 0 (.int _ _) bR M4 rfl rfl rfl)) dV)))), ?_⟩)
  refine dU [false, false, false, false] rfl (by kernel_rfl) ?_
  refine aK aHg rfl rfl rfl ?_
  refine (uJ _ b1 x0 x1 x2 x3 x4 x5 x6 x7 x8 x9 (hx _ (by simp)) (hx _ (by simp)) (M4.ownSeg 0 1)).mono ?_
  rintro _ w5 ⟨v5, rfl, ⟨rfl, hM5⟩⟩
  refine ⟨_, rfl, ?_⟩
  have M5 : Mem _ _ [_, _] _ := M4.seg 0 1 hM5
  refine aC (aF ⟨(eS (bQ rfl (aQ 0 (.int _ _) bR M5 rfl rfl rfl)) (eS (bQ rfl (aQ 0 (.int _ _) bR M5 rfl rfl rfl)) (eS (bQ rfl (aQ 0 (.int _ _) bR M5 rfl rfl rfl)) (eS (bQ rfl (aQ 0 (.int _ _) bR M5 rfl rfl rfl)) dV)))), ?_⟩)
  refine dU [false, false, false, false] rfl (by kernel_rfl) ?_
  refine aK aHg rfl rfl rfl ?_
  refine (uH _ b1 x0 x1 x2 x3 x4 x5 x6 x7 x8 x9 (hx _ (by simp)) (hx _ (by simp)) (M5.ownSeg 0 1)).mono ?_
  rintro _ w6 ⟨v6, rfl, ⟨rfl, hM6⟩⟩
  refine ⟨_, rfl, ?_⟩
  have M6 : Mem _ _ [_, _] _ := M5.seg 0 1 hM6
  refine aC (aF ⟨(eS (bQ rfl (aQ 0 (.int _ _) bR M6 rfl rfl rfl)) (eS (bQ rfl (aQ 0 (.int _ _) bR M6 rfl rfl rfl)) (eS (bQ rfl (aQ 0 (.int _ _) bR M6 rfl rfl rfl)) (eS (bQ rfl (aQ 0 (.int _ _) bR M6 rfl rfl rfl)) dV)))), ?_⟩)
  refine aU rfl rfl rfl (fun _ => cN [(0, .int _ _), (1, .int _ _), (2, .agg (List.toArray _)), (3, .int _ _), (4, .int _ _), (5, .agg (List.toArray _)), (6, .agg (List.toArray _))] _ oJ rfl rfl) ?_
  refine dU [true, true, true, true] rfl (by kernel_rfl) ?_
  refine bH 1 _ bO M6 rfl rfl rfl rfl rfl (aY rfl) rfl (fun w7 M7 => ?_)
  refine aC (aF ⟨dV, ?_⟩)
  refine cF ?_
  refine aF (aR ?_)
  refine iX 1 bO M7 rfl rfl rfl ?_
  exact ⟨rfl, M7.below⟩
end Go.Proofs.YtlmcphcgiclanaaGreatDoor

namespace Go.Proofs.YtlmcphcgiclanaaGreatDoor
open Go.Bil
open Go.RowKit (Below)
open Go.Proofs
set_option maxHeartbeats 8000000 in
theorem aDe (w : World) (A : Option Addr) (n c : Nat) (xs : List Body) (R : Rd w 10 A n (xs.map aI)) (hn : n ≤ 4096) (hc : gG xs = 0) (hb : ∀ b ∈ xs, InB b) :
    Calls Tryz.prog 67 #[.slice A n c] w (fun ex w' => ∃ v, ex = .returned v ∧ (fun v w' => ∃ q : Row, v = .tuple #[.slice q.A q.n q.c, .int .i64 0] ∧ bA 5 1 q.A q.n q.c ((kR xs).map cD) q.e ∧ Mem w [] [q.e] w') v w') := by
  have hlen : xs.length = n := by simpa using R.len
  have hbd := R.bound
  refine aJ #[.tmp 2, .tmp 3] 38 Tryz.func67 rfl Tryz.results67 Tryz.ntmps67 rfl ?_
  have M0 := Mem.refl w
  refine aG (aB ?_)
  refine aA (aE (.slice _ _ _) rfl) rfl rfl ?_
  refine aA (aE (.int _ _) rfl) rfl rfl ?_
  refine aC (aF (aG (aG (aB ?_))))
  refine aA (aD (.slice _ _ _) rfl) rfl rfl ?_
  refine aK aYk rfl rfl rfl ?_
  refine (xH _ _ _ _ xs (R.mem M0)).mono ?_
  rintro _ w1 ⟨v1, rfl, ⟨rfl, hb1⟩⟩
  refine ⟨_, rfl, ?_⟩
  have M1 := M0.callB hb1
  refine aA (aE (.int _ _) rfl) rfl rfl ?_
  refine aC (aF (aG (aB ?_)))
  refine aA (aD (.int _ _) rfl) rfl rfl ?_
  refine aA (aP (.bool (decide _)) rfl rfl rfl) rfl rfl ?_
  refine aM 13 (.bool false) (bF (fun h => h hc)).symm ?_
  refine aC (aF ?_)
  refine cH rfl ?_
  refine aN (aF (aG (aB ?_)))
  refine cR [.int _ _, .int _ _, .int _ _, .int _ _] (gE.map cD) rfl lN M1 rfl rfl rfl rfl (cW rfl) (by decide) (fun b2 w2 M2 => ?_)
  have hlit15 := jK (T := 5) (b := b2) (gE.map cD) (vU _) rfl (by decide)
  refine aJu 0 Tryz.underlying57 Tryz.underlying5 M2 rfl rfl rfl rfl hlit15 (by decide) (fun e3 w3 M3 hR3 => ?_)
  refine aA (aD (.slice _ _ _) rfl) rfl rfl ?_
  refine aA (cT Tryz.underlying22 rfl) rfl rfl ?_
  refine aA (bV us3 Tryz.underlying36 rfl (aAa _ (by omega) (by omega))) rfl rfl ?_
  refine aK aRq rfl rfl rfl ?_
  refine (aAj _ ⟨(some ⟨b2, 0, none⟩), 4, 4, e3⟩ gE hR3 (n : Int) (by omega) (by first | omega | exact (show 4 ≤ 1048576 by decide)) (M3.ownSeg 0 1)).mono ?_
  rintro _ w4 ⟨v4, rfl, ⟨q0, rfl, hnq0, hq0, hM4⟩⟩
  refine ⟨_, rfl, ?_⟩
  have M4 : Mem _ _ [_] _ := M3.seg 0 1 hM4
  refine aA (aE (.slice _ _ _) rfl) rfl rfl ?_
  refine aC (aF (aG (aG (aB ?_))))
  refine aA (aD (.slice _ _ _) rfl) rfl rfl ?_
  refine aA (cT Tryz.underlying22 rfl) rfl rfl ?_
  refine aA (aD (.int _ _) rfl) rfl rfl ?_
  refine aC (aF (aV ?_))
  refine dK (σ := Nat × Row) [2, 3, 21, 22] (fun (k, q) => [(5, .slice q.A q.n q.c), (23, .int .i64 (k : Int))]) (fun (k, q) w' => (k ≤ n ∧ q.n = 8 + 40 * k ∧ bA 5 1 q.A q.n q.c (((gE ++ cA (n : Int)) ++ (xs.take k).flatMap jU).map cD) q.e) ∧ Mem w [] [q.e] w') (fun (k, q) => n - k) (0, q0) (bK rfl (bK rfl eO)) (⟨⟨by omega, hnq0, by rw [List.take_zero, List.flatMap_nil, List.append_nil]; exact hq0⟩, M4⟩) ?_
  rintro ⟨k, q⟩ ρ5 w5 ⟨⟨hk, hqn, hq⟩, hM5⟩
  refine aG (aB ?_)
  refine aA (aP (.bool (decide _)) rfl rfl rfl) rfl rfl ?_
  refine aC (aF (aG ?_))
  refine aZ rfl (fun h24 => ?_) (fun h24 => ?_)
  · obtain ⟨xb, hxb⟩ := cL (xs := xs) (k := k) hlen (by omega)
    have hxi := aMh (hb xb (List.mem_of_getElem? hxb))
    refine aN (aF (aG (aV (aG (aB ?_)))))
    refine aA (bU (k) dO rfl rfl rfl ((R.mem hM5).below_len (aL aI hxb)) ((R.mem hM5).someK (aL aI hxb))) rfl rfl ?_
    refine aA (dS _ bO (R.mem hM5) (aL aI hxb) rfl) rfl rfl ?_
    refine aW gL hM5 rfl rfl (fun b6 w6 M6 => ?_)
    refine bH 1 _ bO M6 rfl rfl rfl rfl rfl (aY rfl) rfl (fun w7 M7 => ?_)
    refine aC (aF (aG (aB ?_)))
    refine aA (bE 1 bO M7 rfl rfl rfl) rfl rfl ?_
    refine aK bAi rfl rfl rfl ?_
    refine (aHf _ xb).mono ?_
    rintro _ w8 ⟨v8, rfl, ⟨rfl, hb8⟩⟩
    refine ⟨_, rfl, ?_⟩
    have M8 := M7.callB hb8
    refine aA (aD (.int _ _) rfl) rfl rfl ?_
    refine aC (aF (aV ?_))
    refine dK (σ := Nat × Row) [2, 3, 21, 22, 23, 28] (fun (j, p) => [(5, .slice p.A p.n p.c), (29, .int .i64 (j : Int))]) (fun (j, p) w' => (j ≤ 10 ∧ p.n = q.n + 4 * j ∧ bA 5 1 p.A p.n p.c (((gE ++ cA (n : Int)) ++ (xs.take k).flatMap jU ++ ((tD xb).take j).flatMap cA).map cD) p.e) ∧ Mem w [] [p.e, (some b6, bc (aI xb) 40)] w') (fun (j, p) => 10 - j) (0, q) (bK rfl (bK rfl eO)) (⟨⟨by omega, by omega, by rw [List.take_zero, List.flatMap_nil, List.append_nil]; exact hq⟩, M8⟩) ?_
    rintro ⟨j, p⟩ ρ9 w9 ⟨⟨hj, hpn, hp⟩, hM9⟩
    refine aG (aB ?_)
    refine aA (aP (.bool (decide _)) rfl rfl rfl) rfl rfl ?_
    refine aC (aF (aG ?_))
    refine aZ rfl (fun h30 => ?_) (fun h30 => ?_)
    · obtain ⟨x, hx⟩ := cL (xs := tD xb) (k := j) (n := 10) rfl (by omega)
      have hxr := hxi x (List.mem_of_getElem? hx)
      refine aN (aF (aG (aV (aG (aB ?_)))))
      refine aA (sQ (j) (.int .u32 x) fE bR rfl rfl (by omega) (by omega) rfl (by rw [kC, List.getElem?_map, hx]; rfl)) rfl rfl ?_
      refine aA (aE (.int _ _) rfl) rfl rfl ?_
      refine aC (aF (aB ?_))
      refine aA (aD (.slice _ _ _) rfl) rfl rfl ?_
      refine aA (aD (.int _ _) rfl) rfl rfl ?_
      refine aK aRq rfl rfl rfl ?_
      refine (aAj _ p _ hp x hxr (by first | omega | exact (show 4 ≤ 1048576 by decide)) (hM9.ownSeg 0 1)).mono ?_
      rintro _ w10 ⟨v10, rfl, ⟨p2, rfl, hnp2, hp2, hM10⟩⟩
      refine ⟨_, rfl, ?_⟩
      have M10 : Mem _ _ [_, _] _ := hM9.seg 0 1 hM10
      refine aA (aE (.slice _ _ _) rfl) rfl rfl ?_
      refine aC ?_
      refine dB ?_
      refine aF (aB ?_)
      refine aA (bM rfl rfl (by omega) (by omega)) rfl rfl ?_
      refine aA (aD (.int _ _) rfl) rfl rfl ?_
      refine aC ?_
      refine cO (j + 1, p2) (bK rfl (bK rfl eO)) (cS rfl (cS rfl (cS rfl (cS rfl (cS rfl (cS rfl jB)))))) ?_ ?_
      · exact ⟨⟨by omega, by omega, by rw [aLm hx, ← List.append_assoc]; exact hp2⟩, M10⟩
      · (show 10 - (j + 1) < 10 - j; omega)
    · obtain rfl : j = 10 := by omega
      rw [List.take_of_length_le (show (tD xb).length ≤ 10 from Nat.le_refl _)] at hp
      refine cP ?_
      refine dA ?_
      refine cZ ?_
      refine eQ ?_
      refine dB ?_
      refine aF (aB ?_)
      refine aA (bM rfl rfl (by omega) (by omega)) rfl rfl ?_
      refine aA (aD (.int _ _) rfl) rfl rfl ?_
      refine aC ?_
      refine cO (k + 1, p) (bK rfl (bK rfl eO)) (cS rfl (cS rfl (cS rfl (cS rfl jB)))) ?_ ?_
      · exact ⟨⟨by omega, by omega, by rw [aOg hxb, ← aOi, ← List.append_assoc]; exact hp⟩, hM9.keep [true, false]⟩
      · (show n - (k + 1) < n - k; omega)
  · obtain rfl : k = n := by omega
    rw [List.take_of_length_le (by omega), ← hlen] at hq
    refine cP ?_
    refine dA ?_
    refine cZ ?_
    refine eQ ?_
    refine aF (aG (aB ?_))
    refine aA (aD (.slice _ _ _) rfl) rfl rfl ?_
    refine aA (aE (.slice _ _ _) rfl) rfl rfl ?_
    refine aA (aE (.int _ _) rfl) rfl rfl ?_
    refine aC (aF (aR ?_))
    refine fZ (.slice _ _ _) (.int _ _) rfl rfl ?_
    exact ⟨q, rfl, hq, hM5⟩
set_option maxHeartbeats 16000000 in
theorem aDj (w : World) (A : Option Addr) (n c : Nat) (ls : List Int) (R : Rd w 1 A n (ls.map cD)) (hB : jD ls) (hcap : n ≤ c) (hn : n ≤ 1048576) :
    Calls Tryz.prog 68 #[.slice A n c] w (fun ex w' => ∃ v, ex = .returned v ∧ (fun v w' => ∃ r : Row, v = .tuple #[.slice r.A r.n r.c, .int .i64 (kU ls).2] ∧ bA 40 10 r.A r.n r.c (((kU ls).1).map aI) r.e ∧ Mem w [] [r.e] w') v w') := by
  have hlen : ls.length = n := by simpa using R.len
  have hbd := R.bound
  refine aJ #[.tmp 2, .tmp 3] 58 Tryz.func68 rfl Tryz.results68 Tryz.ntmps68 rfl ?_
  have M0 := Mem.refl w
  refine aG (aB ?_)
  refine aA (aE (.slice _ _ _) rfl) rfl rfl ?_
  refine aA (aE (.int _ _) rfl) rfl rfl ?_
  refine aC (aF (aG (aG (aB ?_))))
  refine aA (aD (.slice _ _ _) rfl) rfl rfl ?_
  refine aA (cT Tryz.underlying57 rfl) rfl rfl ?_
  refine aA (aP (.bool (decide _)) rfl rfl rfl) rfl rfl ?_
  refine aA (aD (.bool (decide _)) rfl) rfl rfl ?_
  refine cY 13 rfl (fun g13 => ?_) (fun g13 => ?_)
  · refine aS rfl rfl ?_
    refine aS rfl rfl ?_
    refine aS rfl rfl ?_
    refine aS rfl rfl ?_
    refine aA (bN true (.bool true) rfl rfl) rfl rfl ?_
    refine aC (aF ?_)
    refine cK rfl ?_
    refine aG (aB ?_)
    refine aA (aE (.slice _ _ _) rfl) rfl rfl ?_
    refine aA (aE (.int _ _) rfl) rfl rfl ?_
    refine aC (aF (aR (cC ?_)))
    refine fZ (.slice _ _ _) (.int _ _) rfl rfl ?_
    have hd := uO (l := ls) (fun h => by have := h.1; omega)
    exact ⟨⟨none, 0, 0, (none, default)⟩, by rw [hd], by rw [hd]; exact bA.nil _ _ _, (M0.keep []).dummy default⟩
  · refine aA (aD (.slice _ _ _) rfl) rfl rfl ?_
    refine aA (fM (0) (4) lN rfl rfl ⟨_, rfl⟩ (by omega) (by omega) (by omega)) rfl rfl ?_
    refine aA (aYz Tryz.underlying57 Tryz.underlying5 Tryz.underlying9 (Rd.subB (R.mem M0) (0) (4) (by omega) (by omega) hcap) rfl) rfl rfl ?_
    refine aA (aSb rfl rfl) rfl rfl ?_
    refine aA (bN false (.bool (decide _)) rfl rfl) rfl rfl ?_
    refine aC (aF ?_)
    refine aZ rfl (fun h18 => ?_) (fun h18 => ?_)
    · refine aG (aB ?_)
      refine aA (aE (.slice _ _ _) rfl) rfl rfl ?_
      refine aA (aE (.int _ _) rfl) rfl rfl ?_
      refine aC (aF (aR (cC ?_)))
      refine fZ (.slice _ _ _) (.int _ _) rfl rfl ?_
      have hd := uO (l := ls) (fun h => ((aKn ((ls.drop 0).take (4 - 0)) (hB.sub 0 4) [66, 73, 76, 49]).1 h18) (by rw [← tU]; simpa using h.2.1))
      exact ⟨⟨none, 0, 0, (none, default)⟩, by rw [hd], by rw [hd]; exact bA.nil _ _ _, (M0.keep []).dummy default⟩
    · refine aN (aF (aG (aB ?_)))
      refine aA (aD (.slice _ _ _) rfl) rfl rfl ?_
      refine aA (fM (4) (((n : Nat) : Int)) lN rfl ⟨_, rfl⟩ rfl (by omega) (by omega) (by omega)) rfl rfl ?_
      refine aK kN rfl rfl rfl ?_
      refine (fS _ _ _ _ ((ls.drop (4)).take (n - (4))) (Rd.subB (R.mem M0) (4) (n) (by omega) (by omega) hcap) (hB.sub _ _) (by omega)).mono ?_
      rintro _ w1 ⟨v1, rfl, ⟨rfl, hb1⟩⟩
      refine ⟨_, rfl, ?_⟩
      have M1 := M0.callB hb1
      have hr4 := nZ hB (a := 4) (by omega)
      obtain ⟨N, hN⟩ : ∃ N : Nat, dY ls 4 = (N : Int) := ⟨(dY ls 4).toNat, by omega⟩
      have hNl : N ≤ 4294967295 := by omega
      refine aM 21 (.int .u32 (N : Int)) (iE ((gQ (by omega)).trans hN)) ?_
      refine aA (bV qC Tryz.underlying3 rfl (jY _ (by omega) (by omega))) rfl rfl ?_
      refine aA (aE (.int _ _) rfl) rfl rfl ?_
      refine aC (aF (aG (aG (aB ?_))))
      refine aA (aD (.slice _ _ _) rfl) rfl rfl ?_
      refine aA (cT Tryz.underlying57 rfl) rfl rfl ?_
      refine aA (aD (.int _ _) rfl) rfl rfl ?_
      refine aK kT rfl rfl rfl ?_
      refine (fD _ (N : Int) (by omega)).mono ?_
      rintro _ w2 ⟨v2, rfl, ⟨rfl, hb2⟩⟩
      refine ⟨_, rfl, ?_⟩
      have M2 := M1.callB hb2
      refine aA (aP (.bool (decide _)) rfl rfl rfl) rfl rfl ?_
      refine aC (aF ?_)
      refine aZ rfl (fun h27 => ?_) (fun h27 => ?_)
      · refine aG (aB ?_)
        refine aA (aE (.slice _ _ _) rfl) rfl rfl ?_
        refine aA (aE (.int _ _) rfl) rfl rfl ?_
        refine aC (aF (aR (cC ?_)))
        refine fZ (.slice _ _ _) (.int _ _) rfl rfl ?_
        have hd := uO (l := ls) (fun h => h27 (by have := h.2.2; rw [hN] at this; omega))
        exact ⟨⟨none, 0, 0, (none, default)⟩, by rw [hd], by rw [hd]; exact bA.nil _ _ _, (M2.keep []).dummy default⟩
      · have hfm : wW ls := ⟨by omega, by have h := Decidable.not_not.1 (mt ((aKn ((ls.drop 0).take (4 - 0)) (hB.sub 0 4) [66, 73, 76, 49]).2) h18); rw [← tU] at h; simpa using h, by rw [hN]; omega⟩
        refine aN (aF (aG (aB ?_)))
        refine aA (aE (.slice _ _ _) rfl) rfl rfl ?_
        have M3 := M2.dummy default
        refine aC (aF (aG (aG (aB ?_))))
        refine aA (aD (.int _ _) rfl) rfl rfl ?_
        refine aA (aD (.int _ _) rfl) rfl rfl ?_
        refine aC (aF (aV ?_))
        refine dK (σ := Nat × Row) [0, 2, 3, 28] (fun (i, q) => [(5, .slice q.A q.n q.c), (29, .int .i64 (i : Int))]) (fun (i, q) w' => (i ≤ N ∧ bA 40 10 q.A q.n q.c ((lM ls i).map aI) q.e) ∧ Mem w [] [q.e] w') (fun (i, q) => N - i) (0, iK) (bK rfl (bK rfl eO)) (⟨⟨by omega, bA.nil _ _ _⟩, M3⟩) ?_
        rintro ⟨i, q⟩ ρ4 w4 ⟨⟨hi, hq⟩, hM4⟩
        have hqn : (lM ls i).length = q.n := by simpa using hq.1
        rw [xU] at hqn
        refine aG (aB ?_)
        refine aA (aP (.bool (decide _)) rfl rfl rfl) rfl rfl ?_
        refine aC (aF (aG ?_))
        refine aZ rfl (fun h30 => ?_) (fun h30 => ?_)
        · refine aN (aF (aG (aV (aG (aB ?_)))))
          refine aA (aD (.int _ _) rfl) rfl rfl ?_
          refine aA (aE (.int _ _) rfl) rfl rfl ?_
          refine aC (aF (aG (aB ?_)))
          refine aW aCn hM4 rfl rfl (fun b5 w5 M5 => ?_)
          refine aC (aF (aG (aG (aB ?_))))
          refine aA (aD (.int _ _) rfl) rfl rfl ?_
          refine aC (aF (aV ?_))
          refine lA 11 (gJ ?_)
          refine aG (aB ?_)
          refine aA (aP (.bool (decide _)) rfl rfl rfl) rfl rfl ?_
          refine aM 33 (.bool true) (bT (by first | decide | omega)).symm ?_
          refine aC (aF (aG ?_))
          refine cK rfl ?_
          refine aN (aF (aG (aV (aG (aB ?_)))))
          refine aA (aD (.int _ _) rfl) rfl rfl ?_
          refine aA (aE (.int _ _) rfl) rfl rfl ?_
          refine aC (aF (aB ?_))
          refine aA (aD (.int _ _) rfl) rfl rfl ?_
          refine aA (aD (.slice _ _ _) rfl) rfl rfl ?_
          refine aA (aD (.int _ _) rfl) rfl rfl ?_
          refine aK kT rfl rfl rfl ?_
          refine (fD _ (i : Int) (by omega)).mono ?_
          rintro _ w6 ⟨v6, rfl, ⟨rfl, hb6⟩⟩
          refine ⟨_, rfl, ?_⟩
          have M6 := M5.callB hb6
          refine aA (aD (.int _ _) rfl) rfl rfl ?_
          refine aA (fR rfl rfl (by omega) (by omega)) rfl rfl ?_
          refine aA (bM rfl rfl (by omega) (by omega)) rfl rfl ?_
          refine aM 41 (.int .i64 ((8 + 40 * i : Nat) : Int)) (iE (by omega)) ?_
          refine aA (fM (((8 + 40 * i : Nat) : Int)) (((n : Nat) : Int)) lN rfl ⟨_, rfl⟩ rfl (by omega) (by omega) (by omega)) rfl rfl ?_
          refine aK kN rfl rfl rfl ?_
          refine (fS _ _ _ _ ((ls.drop (8 + 40 * i)).take (n - (8 + 40 * i))) (Rd.subB (R.mem M6) (8 + 40 * i) (n) (by omega) (by omega) hcap) (hB.sub _ _) (by omega)).mono ?_
          rintro _ w7 ⟨v7, rfl, ⟨rfl, hb7⟩⟩
          refine ⟨_, rfl, ?_⟩
          have M7 := M6.callB hb7
          refine aM 43 (.int .u32 (dY ls (8 + 40 * i))) (iE (gQ (by omega))) ?_
          refine aA (eT (0) fE rfl rfl rfl (by decide)) rfl rfl ?_
          refine dX 1 (.int _ _) bR M7 rfl rfl rfl rfl rfl rfl (fun w8 M8 => ?_)
          refine aC ?_
          refine dB ?_
          refine aF (aB ?_)
          refine aA (bM rfl rfl (by first | decide | omega) (by first | decide | omega)) rfl rfl ?_
          refine aM 45 (.int .i64 1) (iE (by first | decide | omega)) ?_
          refine aA (aD (.int _ _) rfl) rfl rfl ?_
          refine aC ?_
          refine aF (gJ ?_)
          refine jO (fr := [(0, .slice _ _ _), (2, .slice _ _ _), (3, .int .i64 0), (5, .slice _ _ _), (6, .int _ _), (7, .pointer _), (8, .int .i64 0), (28, .int _ _), (29, .int _ _), (32, .int .i64 1)]) (bK rfl (bK rfl (bK rfl (bK rfl (bK rfl (bK rfl (bK rfl (bK rfl (bK rfl (bK rfl eO)))))))))) (fun ρ9 => ?_)
          refine aG (aB ?_)
          refine aA (aP (.bool (decide _)) rfl rfl rfl) rfl rfl ?_
          refine aM 33 (.bool true) (bT (by first | decide | omega)).symm ?_
          refine aC (aF (aG ?_))
          refine cK rfl ?_
          refine aN (aF (aG (aV (aG (aB ?_)))))
          refine aA (aD (.int _ _) rfl) rfl rfl ?_
          refine aA (aE (.int _ _) rfl) rfl rfl ?_
          refine aC (aF (aB ?_))
          refine aA (aD (.int _ _) rfl) rfl rfl ?_
          refine aA (aD (.slice _ _ _) rfl) rfl rfl ?_
          refine aA (aD (.int _ _) rfl) rfl rfl ?_
          refine aK kT rfl rfl rfl ?_
          refine (fD _ (i : Int) (by omega)).mono ?_
          rintro _ w10 ⟨v10, rfl, ⟨rfl, hb10⟩⟩
          refine ⟨_, rfl, ?_⟩
          have M10 := M8.callB hb10
          refine aA (aD (.int _ _) rfl) rfl rfl ?_
          refine aA (fR rfl rfl (by omega) (by omega)) rfl rfl ?_
          refine aA (bM rfl rfl (by omega) (by omega)) rfl rfl ?_
          refine aM 41 (.int .i64 ((8 + 40 * i + 4 : Nat) : Int)) (iE (by omega)) ?_
          refine aA (fM (((8 + 40 * i + 4 : Nat) : Int)) (((n : Nat) : Int)) lN rfl ⟨_, rfl⟩ rfl (by omega) (by omega) (by omega)) rfl rfl ?_
          refine aK kN rfl rfl rfl ?_
          refine (fS _ _ _ _ ((ls.drop (8 + 40 * i + 4)).take (n - (8 + 40 * i + 4))) (Rd.subB (R.mem M10) (8 + 40 * i + 4) (n) (by omega) (by omega) hcap) (hB.sub _ _) (by omega)).mono ?_
          rintro _ w11 ⟨v11, rfl, ⟨rfl, hb11⟩⟩
          refine ⟨_, rfl, ?_⟩
          have M11 := M10.callB hb11
          refine aM 43 (.int .u32 (dY ls (8 + 40 * i + 4))) (iE (gQ (by omega))) ?_
          refine aA (eT (1) fE rfl rfl rfl (by decide)) rfl rfl ?_
          refine dX 1 (.int _ _) bR M11 rfl rfl rfl rfl rfl rfl (fun w12 M12 => ?_)
          refine aC ?_
          refine dB ?_
          refine aF (aB ?_)
          refine aA (bM rfl rfl (by first | decide | omega) (by first | decide | omega)) rfl rfl ?_
          refine aM 45 (.int .i64 2) (iE (by first | decide | omega)) ?_
          refine aA (aD (.int _ _) rfl) rfl rfl ?_
          refine aC ?_
          refine aF (gJ ?_)
          refine jO (fr := [(0, .slice _ _ _), (2, .slice _ _ _), (3, .int .i64 0), (5, .slice _ _ _), (6, .int _ _), (7, .pointer _), (8, .int .i64 1), (28, .int _ _), (29, .int _ _), (32, .int .i64 2)]) (bK rfl (bK rfl (bK rfl (bK rfl (bK rfl (bK rfl (bK rfl (bK rfl (bK rfl (bK rfl eO)))))))))) (fun ρ13 => ?_)
          refine aG (aB ?_)
          refine aA (aP (.bool (decide _)) rfl rfl rfl) rfl rfl ?_
          refine aM 33 (.bool true) (bT (by first | decide | omega)).symm ?_
          refine aC (aF (aG ?_))
          refine cK rfl ?_
          refine aN (aF (aG (aV (aG (aB ?_)))))
          refine aA (aD (.int _ _) rfl) rfl rfl ?_
          refine aA (aE (.int _ _) rfl) rfl rfl ?_
          refine aC (aF (aB ?_))
          refine aA (aD (.int _ _) rfl) rfl rfl ?_
          refine aA (aD (.slice _ _ _) rfl) rfl rfl ?_
          refine aA (aD (.int _ _) rfl) rfl rfl ?_
          refine aK kT rfl rfl rfl ?_
          refine (fD _ (i : Int) (by omega)).mono ?_
          rintro _ w14 ⟨v14, rfl, ⟨rfl, hb14⟩⟩
          refine ⟨_, rfl, ?_⟩
          have M14 := M12.callB hb14
          refine aA (aD (.int _ _) rfl) rfl rfl ?_
          refine aA (fR rfl rfl (by omega) (by omega)) rfl rfl ?_
          refine aA (bM rfl rfl (by omega) (by omega)) rfl rfl ?_
          refine aM 41 (.int .i64 ((8 + 40 * i + 8 : Nat) : Int)) (iE (by omega)) ?_
          refine aA (fM (((8 + 40 * i + 8 : Nat) : Int)) (((n : Nat) : Int)) lN rfl ⟨_, rfl⟩ rfl (by omega) (by omega) (by omega)) rfl rfl ?_
          refine aK kN rfl rfl rfl ?_
          refine (fS _ _ _ _ ((ls.drop (8 + 40 * i + 8)).take (n - (8 + 40 * i + 8))) (Rd.subB (R.mem M14) (8 + 40 * i + 8) (n) (by omega) (by omega) hcap) (hB.sub _ _) (by omega)).mono ?_
          rintro _ w15 ⟨v15, rfl, ⟨rfl, hb15⟩⟩
          refine ⟨_, rfl, ?_⟩
          have M15 := M14.callB hb15
          refine aM 43 (.int .u32 (dY ls (8 + 40 * i + 8))) (iE (gQ (by omega))) ?_
          refine aA (eT (2) fE rfl rfl rfl (by decide)) rfl rfl ?_
          refine dX 1 (.int _ _) bR M15 rfl rfl rfl rfl rfl rfl (fun w16 M16 => ?_)
          refine aC ?_
          refine dB ?_
          refine aF (aB ?_)
          refine aA (bM rfl rfl (by first | decide | omega) (by first | decide | omega)) rfl rfl ?_
          refine aM 45 (.int .i64 3) (iE (by first | decide | omega)) ?_
          refine aA (aD (.int _ _) rfl) rfl rfl ?_
          refine aC ?_
          refine aF (gJ ?_)
          refine jO (fr := [(0, .slice _ _ _), (2, .slice _ _ _), (3, .int .i64 0), (5, .slice _ _ _), (6, .int _ _), (7, .pointer _), (8, .int .i64 2), (28, .int _ _), (29, .int _ _), (32, .int .i64 3)]) (bK rfl (bK rfl (bK rfl (bK rfl (bK rfl (bK rfl (bK rfl (bK rfl (bK rfl (bK rfl eO)))))))))) (fun ρ17 => ?_)
          refine aG (aB ?_)
          refine aA (aP (.bool (decide _)) rfl rfl rfl) rfl rfl ?_
          refine aM 33 (.bool true) (bT (by first | decide | omega)).symm ?_
          refine aC (aF (aG ?_))
          refine cK rfl ?_
          refine aN (aF (aG (aV (aG (aB ?_)))))
          refine aA (aD (.int _ _) rfl) rfl rfl ?_
          refine aA (aE (.int _ _) rfl) rfl rfl ?_
          refine aC (aF (aB ?_))
          refine aA (aD (.int _ _) rfl) rfl rfl ?_
          refine aA (aD (.slice _ _ _) rfl) rfl rfl ?_
          refine aA (aD (.int _ _) rfl) rfl rfl ?_
          refine aK kT rfl rfl rfl ?_
          refine (fD _ (i : Int) (by omega)).mono ?_
          rintro _ w18 ⟨v18, rfl, ⟨rfl, hb18⟩⟩
          refine ⟨_, rfl, ?_⟩
          have M18 := M16.callB hb18
          refine aA (aD (.int _ _) rfl) rfl rfl ?_
          refine aA (fR rfl rfl (by omega) (by omega)) rfl rfl ?_
          refine aA (bM rfl rfl (by omega) (by omega)) rfl rfl ?_
          refine aM 41 (.int .i64 ((8 + 40 * i + 12 : Nat) : Int)) (iE (by omega)) ?_
          refine aA (fM (((8 + 40 * i + 12 : Nat) : Int)) (((n : Nat) : Int)) lN rfl ⟨_, rfl⟩ rfl (by omega) (by omega) (by omega)) rfl rfl ?_
          refine aK kN rfl rfl rfl ?_
          refine (fS _ _ _ _ ((ls.drop (8 + 40 * i + 12)).take (n - (8 + 40 * i + 12))) (Rd.subB (R.mem M18) (8 + 40 * i + 12) (n) (by omega) (by omega) hcap) (hB.sub _ _) (by omega)).mono ?_
          rintro _ w19 ⟨v19, rfl, ⟨rfl, hb19⟩⟩
          refine ⟨_, rfl, ?_⟩
          have M19 := M18.callB hb19
          refine aM 43 (.int .u32 (dY ls (8 + 40 * i + 12))) (iE (gQ (by omega))) ?_
          refine aA (eT (3) fE rfl rfl rfl (by decide)) rfl rfl ?_
          refine dX 1 (.int _ _) bR M19 rfl rfl rfl rfl rfl rfl (fun w20 M20 => ?_)
          refine aC ?_
          refine dB ?_
          refine aF (aB ?_)
          refine aA (bM rfl rfl (by first | decide | omega) (by first | decide | omega)) rfl rfl ?_
          refine aM 45 (.int .i64 4) (iE (by first | decide | omega)) ?_
          refine aA (aD (.int _ _) rfl) rfl rfl ?_
          refine aC ?_
          refine aF (gJ ?_)
          refine jO (fr := [(0, .slice _ _ _), (2, .slice _ _ _), (3, .int .i64 0), (5, .slice _ _ _), (6, .int _ _), (7, .pointer _), (8, .int .i64 3), (28, .int _ _), (29, .int _ _), (32, .int .i64 4)]) (bK rfl (bK rfl (bK rfl (bK rfl (bK rfl (bK rfl (bK rfl (bK rfl (bK rfl (bK rfl eO)))))))))) (fun ρ21 => ?_)
          refine aG (aB ?_)
          refine aA (aP (.bool (decide _)) rfl rfl rfl) rfl rfl ?_
          refine aM 33 (.bool true) (bT (by first | decide | omega)).symm ?_
          refine aC (aF (aG ?_))
          refine cK rfl ?_
          refine aN (aF (aG (aV (aG (aB ?_)))))
          refine aA (aD (.int _ _) rfl) rfl rfl ?_
          refine aA (aE (.int _ _) rfl) rfl rfl ?_
          refine aC (aF (aB ?_))
          refine aA (aD (.int _ _) rfl) rfl rfl ?_
          refine aA (aD (.slice _ _ _) rfl) rfl rfl ?_
          refine aA (aD (.int _ _) rfl) rfl rfl ?_
          refine aK kT rfl rfl rfl ?_
          refine (fD _ (i : Int) (by omega)).mono ?_
          rintro _ w22 ⟨v22, rfl, ⟨rfl, hb22⟩⟩
          refine ⟨_, rfl, ?_⟩
          have M22 := M20.callB hb22
          refine aA (aD (.int _ _) rfl) rfl rfl ?_
          refine aA (fR rfl rfl (by omega) (by omega)) rfl rfl ?_
          refine aA (bM rfl rfl (by omega) (by omega)) rfl rfl ?_
          refine aM 41 (.int .i64 ((8 + 40 * i + 16 : Nat) : Int)) (iE (by omega)) ?_
          refine aA (fM (((8 + 40 * i + 16 : Nat) : Int)) (((n : Nat) : Int)) lN rfl ⟨_, rfl⟩ rfl (by omega) (by omega) (by omega)) rfl rfl ?_
          refine aK kN rfl rfl rfl ?_
          refine (fS _ _ _ _ ((ls.drop (8 + 40 * i + 16)).take (n - (8 + 40 * i + 16))) (Rd.subB (R.mem M22) (8 + 40 * i + 16) (n) (by omega) (by omega) hcap) (hB.sub _ _) (by omega)).mono ?_
          rintro _ w23 ⟨v23, rfl, ⟨rfl, hb23⟩⟩
          refine ⟨_, rfl, ?_⟩
          have M23 := M22.callB hb23
          refine aM 43 (.int .u32 (dY ls (8 + 40 * i + 16))) (iE (gQ (by omega))) ?_
          refine aA (eT (4) fE rfl rfl rfl (by decide)) rfl rfl ?_
          refine dX 1 (.int _ _) bR M23 rfl rfl rfl rfl rfl rfl (fun w24 M24 => ?_)
          refine aC ?_
          refine dB ?_
          refine aF (aB ?_)
          refine aA (bM rfl rfl (by first | decide | omega) (by first | decide | omega)) rfl rfl ?_
          refine aM 45 (.int .i64 5) (iE (by first | decide | omega)) ?_
          refine aA (aD (.int _ _) rfl) rfl rfl ?_
          refine aC ?_
          refine aF (gJ ?_)
          refine jO (fr := [(0, .slice _ _ _), (2, .slice _ _ _), (3, .int .i64 0), (5, .slice _ _ _), (6, .int _ _), (7, .pointer _), (8, .int .i64 4), (28, .int _ _), (29, .int _ _), (32, .int .i64 5)]) (bK rfl (bK rfl (bK rfl (bK rfl (bK rfl (bK rfl (bK rfl (bK rfl (bK rfl (bK rfl eO)))))))))) (fun ρ25 => ?_)
          refine aG (aB ?_)
          refine aA (aP (.bool (decide _)) rfl rfl rfl) rfl rfl ?_
          refine aM 33 (.bool true) (bT (by first | decide | omega)).symm ?_
          refine aC (aF (aG ?_))
          refine cK rfl ?_
          refine aN (aF (aG (aV (aG (aB ?_)))))
          refine aA (aD (.int _ _) rfl) rfl rfl ?_
          refine aA (aE (.int _ _) rfl) rfl rfl ?_
          refine aC (aF (aB ?_))
          refine aA (aD (.int _ _) rfl) rfl rfl ?_
          refine aA (aD (.slice _ _ _) rfl) rfl rfl ?_
          refine aA (aD (.int _ _) rfl) rfl rfl ?_
          refine aK kT rfl rfl rfl ?_
          refine (fD _ (i : Int) (by omega)).mono ?_
          rintro _ w26 ⟨v26, rfl, ⟨rfl, hb26⟩⟩
          refine ⟨_, rfl, ?_⟩
          have M26 := M24.callB hb26
          refine aA (aD (.int _ _) rfl) rfl rfl ?_
          refine aA (fR rfl rfl (by omega) (by omega)) rfl rfl ?_
          refine aA (bM rfl rfl (by omega) (by omega)) rfl rfl ?_
          refine aM 41 (.int .i64 ((8 + 40 * i + 20 : Nat) : Int)) (iE (by omega)) ?_
          refine aA (fM (((8 + 40 * i + 20 : Nat) : Int)) (((n : Nat) : Int)) lN rfl ⟨_, rfl⟩ rfl (by omega) (by omega) (by omega)) rfl rfl ?_
          refine aK kN rfl rfl rfl ?_
          refine (fS _ _ _ _ ((ls.drop (8 + 40 * i + 20)).take (n - (8 + 40 * i + 20))) (Rd.subB (R.mem M26) (8 + 40 * i + 20) (n) (by omega) (by omega) hcap) (hB.sub _ _) (by omega)).mono ?_
          rintro _ w27 ⟨v27, rfl, ⟨rfl, hb27⟩⟩
          refine ⟨_, rfl, ?_⟩
          have M27 := M26.callB hb27
          refine aM 43 (.int .u32 (dY ls (8 + 40 * i + 20))) (iE (gQ (by omega))) ?_
          refine aA (eT (5) fE rfl rfl rfl (by decide)) rfl rfl ?_
          refine dX 1 (.int _ _) bR M27 rfl rfl rfl rfl rfl rfl (fun w28 M28 => ?_)
          refine aC ?_
          refine dB ?_
          refine aF (aB ?_)
          refine aA (bM rfl rfl (by first | decide | omega) (by first | decide | omega)) rfl rfl ?_
          refine aM 45 (.int .i64 6) (iE (by first | decide | omega)) ?_
          refine aA (aD (.int _ _) rfl) rfl rfl ?_
          refine aC ?_
          refine aF (gJ ?_)
          refine jO (fr := [(0, .slice _ _ _), (2, .slice _ _ _), (3, .int .i64 0), (5, .slice _ _ _), (6, .int _ _), (7, .pointer _), (8, .int .i64 5), (28, .int _ _), (29, .int _ _), (32, .int .i64 6)]) (bK rfl (bK rfl (bK rfl (bK rfl (bK rfl (bK rfl (bK rfl (bK rfl (bK rfl (bK rfl eO)))))))))) (fun ρ29 => ?_)
          refine aG (aB ?_)
          refine aA (aP (.bool (decide _)) rfl rfl rfl) rfl rfl ?_
          refine aM 33 (.bool true) (bT (by first | decide | omega)).symm ?_
          refine aC (aF (aG ?_))
          refine cK rfl ?_
          refine aN (aF (aG (aV (aG (aB ?_)))))
          refine aA (aD (.int _ _) rfl) rfl rfl ?_
          refine aA (aE (.int _ _) rfl) rfl rfl ?_
          refine aC (aF (aB ?_))
          refine aA (aD (.int _ _) rfl) rfl rfl ?_
          refine aA (aD (.slice _ _ _) rfl) rfl rfl ?_
          refine aA (aD (.int _ _) rfl) rfl rfl ?_
          refine aK kT rfl rfl rfl ?_
          refine (fD _ (i : Int) (by omega)).mono ?_
          rintro _ w30 ⟨v30, rfl, ⟨rfl, hb30⟩⟩
          refine ⟨_, rfl, ?_⟩
          have M30 := M28.callB hb30
          refine aA (aD (.int _ _) rfl) rfl rfl ?_
          refine aA (fR rfl rfl (by omega) (by omega)) rfl rfl ?_
          refine aA (bM rfl rfl (by omega) (by omega)) rfl rfl ?_
          refine aM 41 (.int .i64 ((8 + 40 * i + 24 : Nat) : Int)) (iE (by omega)) ?_
          refine aA (fM (((8 + 40 * i + 24 : Nat) : Int)) (((n : Nat) : Int)) lN rfl ⟨_, rfl⟩ rfl (by omega) (by omega) (by omega)) rfl rfl ?_
          refine aK kN rfl rfl rfl ?_
          refine (fS _ _ _ _ ((ls.drop (8 + 40 * i + 24)).take (n - (8 + 40 * i + 24))) (Rd.subB (R.mem M30) (8 + 40 * i + 24) (n) (by omega) (by omega) hcap) (hB.sub _ _) (by omega)).mono ?_
          rintro _ w31 ⟨v31, rfl, ⟨rfl, hb31⟩⟩
          refine ⟨_, rfl, ?_⟩
          have M31 := M30.callB hb31
          refine aM 43 (.int .u32 (dY ls (8 + 40 * i + 24))) (iE (gQ (by omega))) ?_
          refine aA (eT (6) fE rfl rfl rfl (by decide)) rfl rfl ?_
          refine dX 1 (.int _ _) bR M31 rfl rfl rfl rfl rfl rfl (fun w32 M32 => ?_)
          refine aC ?_
          refine dB ?_
          refine aF (aB ?_)
          refine aA (bM rfl rfl (by first | decide | omega) (by first | decide | omega)) rfl rfl ?_
          refine aM 45 (.int .i64 7) (iE (by first | decide | omega)) ?_
          refine aA (aD (.int _ _) rfl) rfl rfl ?_
          refine aC ?_
          refine aF (gJ ?_)
          refine jO (fr := [(0, .slice _ _ _), (2, .slice _ _ _), (3, .int .i64 0), (5, .slice _ _ _), (6, .int _ _), (7, .pointer _), (8, .int .i64 6), (28, .int _ _), (29, .int _ _), (32, .int .i64 7)]) (bK rfl (bK rfl (bK rfl (bK rfl (bK rfl (bK rfl (bK rfl (bK rfl (bK rfl (bK rfl eO)))))))))) (fun ρ33 => ?_)
          refine aG (aB ?_)
          refine aA (aP (.bool (decide _)) rfl rfl rfl) rfl rfl ?_
          refine aM 33 (.bool true) (bT (by first | decide | omega)).symm ?_
          refine aC (aF (aG ?_))
          refine cK rfl ?_
          refine aN (aF (aG (aV (aG (aB ?_)))))
          refine aA (aD (.int _ _) rfl) rfl rfl ?_
          refine aA (aE (.int _ _) rfl) rfl rfl ?_
          refine aC (aF (aB ?_))
          refine aA (aD (.int _ _) rfl) rfl rfl ?_
          refine aA (aD (.slice _ _ _) rfl) rfl rfl ?_
          refine aA (aD (.int _ _) rfl) rfl rfl ?_
          refine aK kT rfl rfl rfl ?_
          refine (fD _ (i : Int) (by omega)).mono ?_
          rintro _ w34 ⟨v34, rfl, ⟨rfl, hb34⟩⟩
          refine ⟨_, rfl, ?_⟩
          have M34 := M32.callB hb34
          refine aA (aD (.int _ _) rfl) rfl rfl ?_
          refine aA (fR rfl rfl (by omega) (by omega)) rfl rfl ?_
          refine aA (bM rfl rfl (by omega) (by omega)) rfl rfl ?_
          refine aM 41 (.int .i64 ((8 + 40 * i + 28 : Nat) : Int)) (iE (by omega)) ?_
          refine aA (fM (((8 + 40 * i + 28 : Nat) : Int)) (((n : Nat) : Int)) lN rfl ⟨_, rfl⟩ rfl (by omega) (by omega) (by omega)) rfl rfl ?_
          refine aK kN rfl rfl rfl ?_
          refine (fS _ _ _ _ ((ls.drop (8 + 40 * i + 28)).take (n - (8 + 40 * i + 28))) (Rd.subB (R.mem M34) (8 + 40 * i + 28) (n) (by omega) (by omega) hcap) (hB.sub _ _) (by omega)).mono ?_
          rintro _ w35 ⟨v35, rfl, ⟨rfl, hb35⟩⟩
          refine ⟨_, rfl, ?_⟩
          have M35 := M34.callB hb35
          refine aM 43 (.int .u32 (dY ls (8 + 40 * i + 28))) (iE (gQ (by omega))) ?_
          refine aA (eT (7) fE rfl rfl rfl (by decide)) rfl rfl ?_
          refine dX 1 (.int _ _) bR M35 rfl rfl rfl rfl rfl rfl (fun w36 M36 => ?_)
          refine aC ?_
          refine dB ?_
          refine aF (aB ?_)
          refine aA (bM rfl rfl (by first | decide | omega) (by first | decide | omega)) rfl rfl ?_
          refine aM 45 (.int .i64 8) (iE (by first | decide | omega)) ?_
          refine aA (aD (.int _ _) rfl) rfl rfl ?_
          refine aC ?_
          refine aF (gJ ?_)
          refine jO (fr := [(0, .slice _ _ _), (2, .slice _ _ _), (3, .int .i64 0), (5, .slice _ _ _), (6, .int _ _), (7, .pointer _), (8, .int .i64 7), (28, .int _ _), (29, .int _ _), (32, .int .i64 8)]) (bK rfl (bK rfl (bK rfl (bK rfl (bK rfl (bK rfl (bK rfl (bK rfl (bK rfl (bK rfl eO)))))))))) (fun ρ37 => ?_)
          refine aG (aB ?_)
          refine aA (aP (.bool (decide _)) rfl rfl rfl) rfl rfl ?_
          refine aM 33 (.bool true) (bT (by first | decide | omega)).symm ?_
          refine aC (aF (aG ?_))
          refine cK rfl ?_
          refine aN (aF (aG (aV (aG (aB ?_)))))
          refine aA (aD (.int _ _) rfl) rfl rfl ?_
          refine aA (aE (.int _ _) rfl) rfl rfl ?_
          refine aC (aF (aB ?_))
          refine aA (aD (.int _ _) rfl) rfl rfl ?_
          refine aA (aD (.slice _ _ _) rfl) rfl rfl ?_
          refine aA (aD (.int _ _) rfl) rfl rfl ?_
          refine aK kT rfl rfl rfl ?_
          refine (fD _ (i : Int) (by omega)).mono ?_
          rintro _ w38 ⟨v38, rfl, ⟨rfl, hb38⟩⟩
          refine ⟨_, rfl, ?_⟩
          have M38 := M36.callB hb38
          refine aA (aD (.int _ _) rfl) rfl rfl ?_
          refine aA (fR rfl rfl (by omega) (by omega)) rfl rfl ?_
          refine aA (bM rfl rfl (by omega) (by omega)) rfl rfl ?_
          refine aM 41 (.int .i64 ((8 + 40 * i + 32 : Nat) : Int)) (iE (by omega)) ?_
          refine aA (fM (((8 + 40 * i + 32 : Nat) : Int)) (((n : Nat) : Int)) lN rfl ⟨_, rfl⟩ rfl (by omega) (by omega) (by omega)) rfl rfl ?_
          refine aK kN rfl rfl rfl ?_
          refine (fS _ _ _ _ ((ls.drop (8 + 40 * i + 32)).take (n - (8 + 40 * i + 32))) (Rd.subB (R.mem M38) (8 + 40 * i + 32) (n) (by omega) (by omega) hcap) (hB.sub _ _) (by omega)).mono ?_
          rintro _ w39 ⟨v39, rfl, ⟨rfl, hb39⟩⟩
          refine ⟨_, rfl, ?_⟩
          have M39 := M38.callB hb39
          refine aM 43 (.int .u32 (dY ls (8 + 40 * i + 32))) (iE (gQ (by omega))) ?_
          refine aA (eT (8) fE rfl rfl rfl (by decide)) rfl rfl ?_
          refine dX 1 (.int _ _) bR M39 rfl rfl rfl rfl rfl rfl (fun w40 M40 => ?_)
          refine aC ?_
          refine dB ?_
          refine aF (aB ?_)
          refine aA (bM rfl rfl (by first | decide | omega) (by first | decide | omega)) rfl rfl ?_
          refine aM 45 (.int .i64 9) (iE (by first | decide | omega)) ?_
          refine aA (aD (.int _ _) rfl) rfl rfl ?_
          refine aC ?_
          refine aF (gJ ?_)
          refine jO (fr := [(0, .slice _ _ _), (2, .slice _ _ _), (3, .int .i64 0), (5, .slice _ _ _), (6, .int _ _), (7, .pointer _), (8, .int .i64 8), (28, .int _ _), (29, .int _ _), (32, .int .i64 9)]) (bK rfl (bK rfl (bK rfl (bK rfl (bK rfl (bK rfl (bK rfl (bK rfl (bK rfl (bK rfl eO)))))))))) (fun ρ41 => ?_)
          refine aG (aB ?_)
          refine aA (aP (.bool (decide _)) rfl rfl rfl) rfl rfl ?_
          refine aM 33 (.bool true) (bT (by first | decide | omega)).symm ?_
          refine aC (aF (aG ?_))
          refine cK rfl ?_
          refine aN (aF (aG (aV (aG (aB ?_)))))
          refine aA (aD (.int _ _) rfl) rfl rfl ?_
          refine aA (aE (.int _ _) rfl) rfl rfl ?_
          refine aC (aF (aB ?_))
          refine aA (aD (.int _ _) rfl) rfl rfl ?_
          refine aA (aD (.slice _ _ _) rfl) rfl rfl ?_
          refine aA (aD (.int _ _) rfl) rfl rfl ?_
          refine aK kT rfl rfl rfl ?_
          refine (fD _ (i : Int) (by omega)).mono ?_
          rintro _ w42 ⟨v42, rfl, ⟨rfl, hb42⟩⟩
          refine ⟨_, rfl, ?_⟩
          have M42 := M40.callB hb42
          refine aA (aD (.int _ _) rfl) rfl rfl ?_
          refine aA (fR rfl rfl (by omega) (by omega)) rfl rfl ?_
          refine aA (bM rfl rfl (by omega) (by omega)) rfl rfl ?_
          refine aM 41 (.int .i64 ((8 + 40 * i + 36 : Nat) : Int)) (iE (by omega)) ?_
          refine aA (fM (((8 + 40 * i + 36 : Nat) : Int)) (((n : Nat) : Int)) lN rfl ⟨_, rfl⟩ rfl (by omega) (by omega) (by omega)) rfl rfl ?_
          refine aK kN rfl rfl rfl ?_
          refine (fS _ _ _ _ ((ls.drop (8 + 40 * i + 36)).take (n - (8 + 40 * i + 36))) (Rd.subB (R.mem M42) (8 + 40 * i + 36) (n) (by omega) (by omega) hcap) (hB.sub _ _) (by omega)).mono ?_
          rintro _ w43 ⟨v43, rfl, ⟨rfl, hb43⟩⟩
          refine ⟨_, rfl, ?_⟩
          have M43 := M42.callB hb43
          refine aM 43 (.int .u32 (dY ls (8 + 40 * i + 36))) (iE (gQ (by omega))) ?_
          refine aA (eT (9) fE rfl rfl rfl (by decide)) rfl rfl ?_
          refine dX 1 (.int _ _) bR M43 rfl rfl rfl rfl rfl rfl (fun w44 M44 => ?_)
          refine aC ?_
          refine dB ?_
          refine aF (aB ?_)
          refine aA (bM rfl rfl (by first | decide | omega) (by first | decide | omega)) rfl rfl ?_
          refine aM 45 (.int .i64 10) (iE (by first | decide | omega)) ?_
          refine aA (aD (.int _ _) rfl) rfl rfl ?_
          refine aC ?_
          refine aF (gJ ?_)
          refine jO (fr := [(0, .slice _ _ _), (2, .slice _ _ _), (3, .int .i64 0), (5, .slice _ _ _), (6, .int _ _), (7, .pointer _), (8, .int .i64 9), (28, .int _ _), (29, .int _ _), (32, .int .i64 10)]) (bK rfl (bK rfl (bK rfl (bK rfl (bK rfl (bK rfl (bK rfl (bK rfl (bK rfl (bK rfl eO)))))))))) (fun ρ45 => ?_)
          refine aG (aB ?_)
          refine aA (aP (.bool (decide _)) rfl rfl rfl) rfl rfl ?_
          refine aM 33 (.bool false) (bF (by first | decide | omega)).symm ?_
          refine aC (aF (aG ?_))
          refine cH rfl ?_
          refine cP ?_
          refine dA (dA ?_)
          refine eQ ?_
          refine aF (aB ?_)
          refine aA (aD (.slice _ _ _) rfl) rfl rfl ?_
          refine aA (bE 1 aHy M44 rfl rfl rfl) rfl rfl ?_
          refine aK bAo rfl rfl rfl ?_
          refine (aCp _ _ _ _ _ _ _ _ _ _ _ (bDk hB (a := 8 + 40 * i) (by omega))).mono ?_
          rintro _ w46 ⟨v46, rfl, ⟨rfl, hb46⟩⟩
          refine ⟨_, rfl, ?_⟩
          have M46 := M44.callB hb46
          refine aM 48 ((.agg (aI (kA ls (8 + 40 * i))).toArray)) rfl ?_
          refine cR [.agg (List.toArray _)] [aI (kA ls (8 + 40 * i))] rfl dO M46 rfl rfl rfl rfl (cW rfl) (by decide) (fun b47 w47 M47 => ?_)
          refine dL 0 [aI (kA ls (8 + 40 * i))] dO M47 rfl rfl rfl rfl rfl hq rfl (by simp [aI, Go.Bil.one]) (cX.ofMem 2 M47 rfl) (by omega) (fun A48 c48 e48 w48 M48 hR48 => ?_)
          refine aA (aE (.slice _ _ _) rfl) rfl rfl ?_
          refine aC ?_
          refine dB ?_
          refine aF (aB ?_)
          refine aA (bM rfl rfl (by omega) (by omega)) rfl rfl ?_
          refine aA (aD (.int _ _) rfl) rfl rfl ?_
          refine aC ?_
          refine cO (i + 1, ⟨A48, q.n + 1, c48, e48⟩) (bK rfl (bK rfl eO)) (cS rfl (cS rfl (cS rfl (cS rfl jB)))) ?_ ?_
          · exact ⟨⟨by omega, by rw [aMe, List.map_append]; exact hR48⟩, M48.keep [true, false, false]⟩
          · (show N - (i + 1) < N - i; omega)
        · obtain rfl : i = N := by omega
          refine cP ?_
          refine dA ?_
          refine cZ ?_
          refine eQ ?_
          refine aF (aG (aG (aB ?_)))
          refine aA (aD (.slice _ _ _) rfl) rfl rfl ?_
          refine aK aYk rfl rfl rfl ?_
          refine (xH _ _ _ _ (lM ls i) (hq.rd hM4 (bB (i := 0) rfl))).mono ?_
          rintro _ w49 ⟨v49, rfl, ⟨rfl, hb49⟩⟩
          refine ⟨_, rfl, ?_⟩
          have M49 := hM4.callB hb49
          refine aA (aE (.int _ _) rfl) rfl rfl ?_
          refine aC (aF (aG (aB ?_)))
          refine aA (aD (.int _ _) rfl) rfl rfl ?_
          refine aA (aP (.bool (decide _)) rfl rfl rfl) rfl rfl ?_
          refine aC (aF ?_)
          refine aZ rfl (fun h55 => ?_) (fun h55 => ?_)
          · refine aG (aB ?_)
            refine aA (aD (.int _ _) rfl) rfl rfl ?_
            refine aA (aE (.slice _ _ _) rfl) rfl rfl ?_
            refine aA (aE (.int _ _) rfl) rfl rfl ?_
            refine aC (aF (aR (cC ?_)))
            refine fZ (.slice _ _ _) (.int _ _) rfl rfl ?_
            have hd := aUn hfm hN h55
            exact ⟨⟨none, 0, 0, (none, default)⟩, by rw [hd], by rw [hd]; exact bA.nil _ _ _, (M49.keep [false]).dummy default⟩
          · refine aN (aF (aG (aB ?_)))
            refine aA (aD (.slice _ _ _) rfl) rfl rfl ?_
            refine aA (aE (.slice _ _ _) rfl) rfl rfl ?_
            refine aA (aE (.int _ _) rfl) rfl rfl ?_
            refine aC (aF (aR ?_))
            refine fZ (.slice _ _ _) (.int _ _) rfl rfl ?_
            have hd := aSn hfm hN (Decidable.not_not.1 h55)
            exact ⟨q, by rw [hd], by rw [hd]; exact hq, M49⟩
end Go.Proofs.YtlmcphcgiclanaaGreatDoor

namespace Go.Proofs.YtlmcphcgiclanaaGreatDoor
open Go.Bil
open Go.RowKit (Below)
open Go.Proofs
end Go.Proofs.YtlmcphcgiclanaaGreatDoor

namespace Go.Proofs.YtlmcphcgiclanaaGreatDoor
open Go.Bil
open Go.RowKit (Below)
open Go.Proofs
end Go.Proofs.YtlmcphcgiclanaaGreatDoor

namespace Go.Proofs.YtlmcphcgiclanaaGreatDoor
open Go.Bil
open Go.RowKit (Below)
open Go.Proofs
end Go.Proofs.YtlmcphcgiclanaaGreatDoor
