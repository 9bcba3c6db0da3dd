/- Part of the proof of the laws of this seat: SW, C21a, C21b, R21a, R21b, R21c. No conditions. -/
import Derived.Test.YtlmcphcgiclanaaGreatDoorK2
import Derived.Test.YtlmcphcgiclanaaGreatDoorK5
import Derived.Test.YtlmcphcgiclanaaGreatDoorK22
import Derived.Test.YtlmcphcgiclanaaGreatDoorK33
import Derived.Test.YtlmcphcgiclanaaGreatDoorK32
import Derived.Test.YtlmcphcgiclanaaGreatDoorK6
import Derived.Test.YtlmcphcgiclanaaGreatDoorK24
import Derived.Test.YtlmcphcgiclanaaGreatDoorK13
import Derived.Test.YtlmcphcgiclanaaGreatDoorK17
import Derived.Test.YtlmcphcgiclanaaGreatDoorK11
set_option linter.unusedVariables false
set_option linter.unusedSimpArgs false
set_option linter.unnecessarySimpa false
namespace Go.Proofs.YtlmcphcgiclanaaGreatDoor
open Go.Bil
open Go.RowKit (Below)
open Go.Proofs
set_option maxHeartbeats 4000000 in
theorem aLd (w : World) (b : Nat) (A : Option Addr) (n c : Nat) (p : Option Nat) (er em : dP) (m : List Body) (hs : StoreIs 40 A n c p er em m) (hO : Own [(some b, bc [.slice A n c, .map p] 56), er, em] w) (x : Body) :
  Calls Tryz.prog 66 #[.pointer (some ⟨b, 0, none⟩), (.agg (aF x).toArray)] w (fun ex w' => ∃ v, ex = .returned v ∧ (fun v w' => v = .int .i64 (jY m x).2 ∧ ∃ A' n' c' p' er' em', StoreIs 40 A' n' c' p' er' em' (jY m x).1 ∧ Mem w (bU [(some b, bc [.slice A n c, .map p] 56), er, em]) [(some b, bc [.slice A' n' c', .map p'] 56), er', em'] w') v w') := by
 have hlen : m.length = n := by simpa using hs.row.1
 have hcap := hs.cap
 refine aH #[.tmp 4] 62 Tryz.func66 rfl Tryz.results66 Tryz.ntmps66 rfl ?_
 have M0 := hO.mem
 refine aD (aA (bJ (.agg (List.toArray _)) M0 rfl rfl rfl (fun b1 w1 M1 => (bI rfl rfl (aB (aC (aD (aD (aA (wq (aG (.pointer _) rfl) rfl (wq (dY false Tryz.underlying143 rfl rfl) rfl ?_)))))))))))
 refine aB (aC (cD rfl (aL (aC (aD (aD (aA (wq (aZ 3 bN M1 rfl rfl rfl) rfl (bX aRa rfl rfl (qT _ x) ?_)))))))))
 rintro v2 w2 ⟨rfl, hb2⟩
 have M2 := M1.callB hb2
 refine bI rfl rfl (aB (aC (aD (aA (aV rfl rfl (cS rfl rfl rfl rfl (aB (aC ?_))))))))
 refine aW rfl (fun h13 => ?_) (fun h13 => ?_)
 ·refine aD (aA (aV rfl rfl (bI rfl rfl (aB (aC (aN (cC (cA (.int _ _) rfl ?_))))))))
  have ha : jY m x = (m, check x) := by unfold jY; rw [if_pos h13]
  exact ⟨by rw [ha], A, n, c, p, er, em, by rw [ha]; exact hs, M2.keep [true, true, true, false]⟩
 ·refine aL (aC (aD (aD (bS [(0, 0), (1, 0), (2, 0), (3, 1), (4, 0), (5, 1), (6, 1), (7, 0), (8, 0), (9, 0), (10, 0), (11, 0)] mixed rfl (by kernel_rfl) (fun w3 hb3 hh3 => ?_)))))
  have M3 := M2.drew hb3 hh3
  refine aY rfl rfl rfl (fun _ => aG (.pointer _) rfl) (aY rfl rfl rfl (fun _ => aK rfl) (aY rfl rfl rfl (fun _ => aE 1 jS rfl) (cB rfl rfl rfl (aM 0 (.map _) qH M3 rfl rfl rfl) (aY rfl rfl rfl (fun _ => aE 0 eK rfl) (cB rfl rfl rfl (aM 3 (.int _ _) bW M3 rfl rfl rfl) ?_)))))
  refine cB rfl rfl rfl (sT (enc := (Value.int .i64)) 0 2 uG zv3 M3 rfl hs.map rfl rfl) (aY rfl rfl rfl (fun _ => aG (.tuple (List.toArray _)) rfl) (aY rfl rfl rfl (fun _ => bE (.int _ _) rfl rfl) (aY rfl rfl rfl (fun _ => bE (.bool _) rfl rfl) (pW rfl rfl rfl (aY rfl rfl rfl (fun _ => aI (.bool _) rfl) ?_)))))
  refine cF (aC (aD (aA (wq (aG (.bool _) rfl) rfl (aB (aC ?_))))))
  refine gP _ rfl (fun h25 => ?_) (fun h25 => ?_)
  ·have hf : 0 ≤ cH x.key m := by rw [wP] at h25; exact of_decide_eq_true h25
   refine aD (aA (bI rfl rfl (aB (aC (aN (cC (cA (.int _ _) rfl ?_)))))))
   have ha : jY m x = (m, 10) := by unfold jY; rw [if_neg h13, if_pos hf]
   exact ⟨by rw [ha], A, n, c, p, er, em, by rw [ha]; exact hs, M3.keep [true, true, true, false]⟩
  ·have hf : ¬ (0 ≤ cH x.key m) := fun h => by rw [wP, decide_eq_true h] at h25; simp at h25
   refine aL (aC (aD (aD (aA (wq (aG (.pointer _) rfl) rfl (wq (aK rfl) rfl (wq (aE 0 fN rfl) rfl (wq (aM 0 (.slice _ _ _) fA M3 rfl rfl rfl) rfl (wq (cK Tryz.underlying22 rfl) rfl ?_)))))))))
   refine cS rfl rfl rfl rfl (aB (aC ?_))
   refine aW rfl (fun h31 => ?_) (fun h31 => ?_)
   ·refine aD (aA (bI rfl rfl (aB (aC (aN (cC (cA (.int _ _) rfl ?_)))))))
    have ha : jY m x = (m, 12) := by unfold jY; rw [if_neg h13, if_neg hf, if_pos (by omega)]
    exact ⟨by rw [ha], A, n, c, p, er, em, by rw [ha]; exact hs, M3.keep [true, true, true, false]⟩
   ·refine aL (aC (aD (aD (aA (wq (aG (.pointer _) rfl) rfl (wq (aK rfl) rfl (wq (aE 1 jS rfl) rfl (wq (aM 0 (.map _) qH M3 rfl rfl rfl) rfl (wq (aJw _ Tryz.underlying50 rfl rfl) rfl ?_)))))))))
    refine aB (aC ?_)
    refine gP _ rfl (fun h36 => ?_) (fun h36 => ?_)
    ·have hpn : p = none := by cases p <;> simp_all
     have hnone : ∀ k, rG m k = (fun _ => none) k := fun k => by subst hpn; rcases hs.map with ⟨_, _, h⟩ | ⟨_, _, h, _⟩; exact h k; cases h
     refine aA (wq (aG (.pointer _) rfl) rfl (lF M3 rfl rfl (fun b4 w4 M4 => ?_)))
     have M5 := M4.replace (i := 2) (Nat.le_of_ble_eq_true rfl)
     refine wq (aK rfl) rfl (wq (aE 1 jS rfl) rfl (dE 0 (.map _) qH M5 rfl rfl rfl rfl rfl rfl (fun w6 M6 => (aB (aC (aD (bS [(0, 0), (1, 0), (2, 0), (3, 1), (4, 0), (5, 1), (6, 0), (7, 0), (8, 0), (9, 1), (10, 0), (11, 2)] mixed rfl (by kernel_rfl) (fun w7 hb7 hh7 => ?_))))))))
     have M7 := M6.drew hb7 hh7
     refine aY rfl rfl rfl (fun _ => aG (.pointer _) rfl) (aY rfl rfl rfl (fun _ => aK rfl) (aY rfl rfl rfl (fun _ => aE 1 jS rfl) (cB rfl rfl rfl (aM 0 (.map _) qH M7 rfl rfl rfl) (aY rfl rfl rfl (fun _ => aE 0 eK rfl) (cB rfl rfl rfl (aM 3 (.int _ _) bW M7 rfl rfl rfl) ?_)))))
     refine aY rfl rfl rfl (fun _ => aG (.pointer _) rfl) (aY rfl rfl rfl (fun _ => aK rfl) (aY rfl rfl rfl (fun _ => aE 0 fN rfl) (cB rfl rfl rfl (aM 0 (.slice _ _ _) fA M7 rfl rfl rfl) (aY rfl rfl rfl (fun _ => cK Tryz.underlying22 rfl) (dO [true, true, true] rfl (by kernel_rfl) ?_)))))
     refine hJ (enc := (Value.int .i64)) 2 uG M7 rfl rfl ((iS.empty _ _ b4).congr hnone) rfl rfl rfl rfl (fun e8 w8 hm8 M8 => ?_)
     refine aB (aC ⟨dN, ?_⟩)
     refine cF (aC (aD (bS [(0, 0), (1, 0), (2, 0), (3, 0), (4, 1), (5, 1), (6, 2), (7, 2), (8, 0), (9, 0), (10, 2)] mixed rfl (by kernel_rfl) (fun w9 hb9 hh9 => ?_))))
     have M9 := M8.drew hb9 hh9
     refine aY rfl rfl rfl (fun _ => aG (.pointer _) rfl) (aY rfl rfl rfl (fun _ => aG (.pointer _) rfl) (aY rfl rfl rfl (fun _ => aK rfl) (aY rfl rfl rfl (fun _ => aE 0 fN rfl) (cB rfl rfl rfl (aM 0 (.slice _ _ _) fA M9 rfl rfl rfl) (cB rfl rfl rfl (aZ 3 bN M9 rfl rfl rfl) ?_)))))
     refine dO [true, false] rfl (by kernel_rfl) (cZ [.agg (List.toArray _)] _ rfl eM M9 rfl rfl rfl rfl (dH rfl) (by decide) (fun b10 w10 M10 => ?_))
     refine aB (aC ⟨(eQ (bO rfl (aM 0 (.slice _ _ _) fA M10 rfl rfl rfl)) dN), ?_⟩)
     refine dO [true] rfl (by kernel_rfl) (eG 1 [aF x] eM M10 rfl rfl rfl rfl rfl hs.row rfl (by simpa using ⟨mA x, mB x⟩) (dB.ofMem 4 M10 rfl) (by omega) (fun A11 c11 e11 w11 M11 hR11 => ?_))
     refine aB (aC ⟨dN, ?_⟩)
     refine aY rfl rfl rfl (fun _ => aK rfl) (aY rfl rfl rfl (fun _ => aE 0 fN rfl) (dO [] rfl (by kernel_rfl) (dE 0 (.slice _ _ _) fA M11 rfl rfl rfl rfl rfl rfl (fun w12 M12 => ?_))))
     refine aB (aC ⟨dN, ?_⟩)
     refine cF (aC (aD (aA (bI rfl rfl (aB (aC (aN (cA (.int _ _) rfl ?_))))))))
     have ha : jY m x = (m ++ [x], 0) := by unfold jY; rw [if_neg h13, if_neg hf, if_neg (by omega)]
     have hall := aKz (x := x) ⟨hs.keys, hs.cap, hs.ok⟩
     rw [ha] at hall
     obtain ⟨hk', hc', ho'⟩ := hall
     have hix := aHh hs.keys (x := x) (by omega)
     rw [hlen] at hix
     exact ⟨by rw [ha], _, _, _, _, _, _, by rw [ha]; exact ⟨(by simpa using hR11), (hm8.congr hix), hk', hc', ho'⟩, M12.keep [true, true, true, false, false]⟩
    ·have hps : p.isSome = true := by cases p <;> simp_all
     refine aL (aC (aD (bS [(0, 0), (1, 0), (2, 0), (3, 1), (4, 0), (5, 1), (6, 0), (7, 0), (8, 0), (9, 1), (10, 0), (11, 2)] mixed rfl (by kernel_rfl) (fun w13 hb13 hh13 => ?_))))
     have M13 := M3.drew hb13 hh13
     refine aY rfl rfl rfl (fun _ => aG (.pointer _) rfl) (aY rfl rfl rfl (fun _ => aK rfl) (aY rfl rfl rfl (fun _ => aE 1 jS rfl) (cB rfl rfl rfl (aM 0 (.map _) qH M13 rfl rfl rfl) (aY rfl rfl rfl (fun _ => aE 0 eK rfl) (cB rfl rfl rfl (aM 3 (.int _ _) bW M13 rfl rfl rfl) ?_)))))
     refine aY rfl rfl rfl (fun _ => aG (.pointer _) rfl) (aY rfl rfl rfl (fun _ => aK rfl) (aY rfl rfl rfl (fun _ => aE 0 fN rfl) (cB rfl rfl rfl (aM 0 (.slice _ _ _) fA M13 rfl rfl rfl) (aY rfl rfl rfl (fun _ => cK Tryz.underlying22 rfl) (dO [true, true, true] rfl (by kernel_rfl) ?_)))))
     refine hJ (enc := (Value.int .i64)) 2 uG M13 rfl rfl hs.map hps rfl rfl rfl (fun e14 w14 hm14 M14 => ?_)
     refine aB (aC ⟨dN, ?_⟩)
     refine cF (aC (aD (bS [(0, 0), (1, 0), (2, 0), (3, 0), (4, 1), (5, 1), (6, 2), (7, 2), (8, 0), (9, 0), (10, 2)] mixed rfl (by kernel_rfl) (fun w15 hb15 hh15 => ?_))))
     have M15 := M14.drew hb15 hh15
     refine aY rfl rfl rfl (fun _ => aG (.pointer _) rfl) (aY rfl rfl rfl (fun _ => aG (.pointer _) rfl) (aY rfl rfl rfl (fun _ => aK rfl) (aY rfl rfl rfl (fun _ => aE 0 fN rfl) (cB rfl rfl rfl (aM 0 (.slice _ _ _) fA M15 rfl rfl rfl) (cB rfl rfl rfl (aZ 3 bN M15 rfl rfl rfl) ?_)))))
     refine dO [true, false] rfl (by kernel_rfl) (cZ [.agg (List.toArray _)] _ rfl eM M15 rfl rfl rfl rfl (dH rfl) (by decide) (fun b16 w16 M16 => ?_))
     refine aB (aC ⟨(eQ (bO rfl (aM 0 (.slice _ _ _) fA M16 rfl rfl rfl)) dN), ?_⟩)
     refine dO [true] rfl (by kernel_rfl) (eG 1 [aF x] eM M16 rfl rfl rfl rfl rfl hs.row rfl (by simpa using ⟨mA x, mB x⟩) (dB.ofMem 4 M16 rfl) (by omega) (fun A17 c17 e17 w17 M17 hR17 => ?_))
     refine aB (aC ⟨dN, ?_⟩)
     refine aY rfl rfl rfl (fun _ => aK rfl) (aY rfl rfl rfl (fun _ => aE 0 fN rfl) (dO [] rfl (by kernel_rfl) (dE 0 (.slice _ _ _) fA M17 rfl rfl rfl rfl rfl rfl (fun w18 M18 => ?_))))
     refine aB (aC ⟨dN, ?_⟩)
     refine cF (aC (aD (aA (bI rfl rfl (aB (aC (aN (cA (.int _ _) rfl ?_))))))))
     have ha : jY m x = (m ++ [x], 0) := by unfold jY; rw [if_neg h13, if_neg hf, if_neg (by omega)]
     have hall := aKz (x := x) ⟨hs.keys, hs.cap, hs.ok⟩
     rw [ha] at hall
     obtain ⟨hk', hc', ho'⟩ := hall
     have hix := aHh hs.keys (x := x) (by omega)
     rw [hlen] at hix
     exact ⟨by rw [ha], _, _, _, _, _, _, by rw [ha]; exact ⟨(by simpa using hR17), (hm14.congr hix), hk', hc', ho'⟩, M18.keep [true, true, true, false, false]⟩
set_option maxHeartbeats 4000000 in
theorem aVr (w : World) (b : Nat) (A : Option Addr) (n c : Nat) (p : Option Nat) (er em : dP) (m : List Body) (hs : StoreIs 40 A n c p er em m) (hO : Own [(some b, bc [.slice A n c, .map p] 56), er, em] w) (key : Int) :
  Calls Tryz.prog 70 #[.pointer (some ⟨b, 0, none⟩), .int .u32 key] w (fun ex w' => ∃ v, ex = .returned v ∧ (fun v w' => (∃ x, v = .tuple #[.agg (aF x).toArray, .int .i64 (wG m key).2] ∧ x = (wG m key).1) ∧ Mem w (bU [(some b, bc [.slice A n c, .map p] 56), er, em]) [(some b, bc [.slice A n c, .map p] 56), er, em] w') v w') := by
 have hlen : m.length = n := by simpa using hs.row.1
 have hcap := hs.cap
 refine aH #[.cell 4 40, .tmp 5] 30 Tryz.func70 rfl Tryz.results70 Tryz.ntmps70 rfl ?_
 have M0 := hO.mem
 refine aD (aA (aR gG M0 rfl rfl (fun b1 w1 M1 => (bI rfl rfl (aB (aC (aD (aD (aA (wq (aG (.pointer _) rfl) rfl (wq (dY false Tryz.underlying143 rfl rfl) rfl ?_)))))))))))
 refine aB (aC (cD rfl (aL (aC (aD (aA (wq (aG (.pointer _) rfl) rfl (wq (aK rfl) rfl (wq (aE 1 jS rfl) rfl ?_)))))))))
 refine wq (aM 0 (.map _) qH M1 rfl rfl rfl) rfl (aV rfl rfl (wq (sT (enc := (Value.int .i64)) 0 2 uG zv3 M1 rfl hs.map rfl rfl) rfl (wq (aG (.tuple (List.toArray _)) rfl) rfl (wq (bE (.int _ _) rfl rfl) rfl (wq (bE (.bool _) rfl rfl) rfl ?_)))))
 refine bI rfl rfl (wq (aI (.bool _) rfl) rfl (aB (aC (aD (aD (aA (wq (aG (.bool _) rfl) rfl (wq (gS _ rfl rfl) rfl (aB (aC ?_))))))))))
 refine gP _ rfl (fun h21 => ?_) (fun h21 => ?_)
 ·have hi : rG m key = none := by cases h : rG m key <;> simp_all
  refine aD (aA (wq (cM [] _ oH rfl rfl) rfl (bB 3 _ bN M1 rfl rfl rfl rfl rfl (aQ rfl) rfl (fun w2 M2 => (bI rfl rfl (aB (aC (aN (cC (aAu (v2 := .int _ _) 3 bN M2 rfl rfl rfl rfl ?_))))))))))
  exact ⟨⟨⟨0, 0, 0, 0, 0, 0, 0, 0, 0, 0⟩, by rw [aAk hi]; rfl, by rw [aAk hi]⟩, M2.keep [true, true, true, false]⟩
 ·rcases jJ key m with ⟨hi, _⟩ | ⟨i, bi, hbi, hbk, hi⟩
  ·simp [hi] at h21
  refine aL (aC (aD (aA (wq (aG (.pointer _) rfl) rfl (wq (aK rfl) rfl (wq (aE 0 fN rfl) rfl (wq (aM 0 (.slice _ _ _) fA M1 rfl rfl rfl) rfl (aV rfl rfl ?_))))))))
  refine wq (bQ (i) eM rfl rfl (by rw [hi]; rfl) ((hs.row.rd M1 (bC (i := 1) rfl)).below_len (aJ aF hbi)) ((hs.row.rd M1 (bC (i := 1) rfl)).someK (aJ aF hbi))) rfl (wq (dL _ bN (hs.row.rd M1 (bC (i := 1) rfl)) (aJ aF hbi) rfl) rfl (bB 3 _ bN M1 rfl rfl rfl rfl rfl (aQ rfl) rfl (fun w3 M3 => ?_)))
  refine bI rfl rfl (aB (aC (aN (aAu (v2 := .int _ _) 3 bN M3 rfl rfl rfl rfl ?_))))
  exact ⟨⟨bi, by rw [tU hi hbi], by rw [tU hi hbi]⟩, M3.keep [true, true, true, false]⟩
set_option maxHeartbeats 4000000 in
theorem aXl (w : World) (b : Nat) (A : Option Addr) (n c : Nat) (p : Option Nat) (er em : dP) (m : List Body) (hs : StoreIs 40 A n c p er em m) (hO : Own [(some b, bc [.slice A n c, .map p] 56), er, em] w) (x : Body) :
  Calls Tryz.prog 88 #[.pointer (some ⟨b, 0, none⟩), (.agg (aF x).toArray)] w (fun ex w' => ∃ v, ex = .returned v ∧ (fun v w' => v = .int .i64 (rF m x).2 ∧ ∃ A' n' c' p' er' em', StoreIs 40 A' n' c' p' er' em' (rF m x).1 ∧ Mem w (bU [(some b, bc [.slice A n c, .map p] 56), er, em]) [(some b, bc [.slice A' n' c', .map p'] 56), er', em'] w') v w') := by
 have hlen : m.length = n := by simpa using hs.row.1
 have hcap := hs.cap
 refine aH #[.tmp 4] 34 Tryz.func88 rfl Tryz.results88 Tryz.ntmps88 rfl ?_
 have M0 := hO.mem
 refine aD (aA (bJ (.agg (List.toArray _)) M0 rfl rfl rfl (fun b1 w1 M1 => (bI rfl rfl (aB (aC (aD (aD (aA (wq (aG (.pointer _) rfl) rfl (wq (dY false Tryz.underlying143 rfl rfl) rfl ?_)))))))))))
 refine aB (aC (cD rfl (aL (aC (aD (aD (aA (wq (aZ 3 bN M1 rfl rfl rfl) rfl (bX aRa rfl rfl (qT _ x) ?_)))))))))
 rintro v2 w2 ⟨rfl, hb2⟩
 have M2 := M1.callB hb2
 refine bI rfl rfl (aB (aC (aD (aA (aV rfl rfl (cS rfl rfl rfl rfl (aB (aC ?_))))))))
 refine aW rfl (fun h13 => ?_) (fun h13 => ?_)
 ·refine aD (aA (aV rfl rfl (bI rfl rfl (aB (aC (aN (cC (cA (.int _ _) rfl ?_))))))))
  have ha : rF m x = (m, check x) := by unfold rF; rw [if_pos h13]
  exact ⟨by rw [ha], A, n, c, p, er, em, by rw [ha]; exact hs, M2.keep [true, true, true, false]⟩
 ·refine aL (aC (aD (bS [(0, 0), (1, 0), (2, 0), (3, 1), (4, 0), (5, 1), (6, 1), (7, 0), (8, 0), (9, 0), (10, 0), (11, 0)] mixed rfl (by kernel_rfl) (fun w3 hb3 hh3 => ?_))))
  have M3 := M2.drew hb3 hh3
  refine aY rfl rfl rfl (fun _ => aG (.pointer _) rfl) (aY rfl rfl rfl (fun _ => aK rfl) (aY rfl rfl rfl (fun _ => aE 1 jS rfl) (cB rfl rfl rfl (aM 0 (.map _) qH M3 rfl rfl rfl) (aY rfl rfl rfl (fun _ => aE 0 eK rfl) (cB rfl rfl rfl (aM 3 (.int _ _) bW M3 rfl rfl rfl) ?_)))))
  refine cB rfl rfl rfl (sT (enc := (Value.int .i64)) 0 2 uG zv3 M3 rfl hs.map rfl rfl) (aY rfl rfl rfl (fun _ => aG (.tuple (List.toArray _)) rfl) (aY rfl rfl rfl (fun _ => bE (.int _ _) rfl rfl) (aY rfl rfl rfl (fun _ => bE (.bool _) rfl rfl) (pW rfl rfl rfl (aY rfl rfl rfl (fun _ => aI (.bool _) rfl) ?_)))))
  refine cF (aC (aD (aD (aA (wq (aG (.bool _) rfl) rfl (wq (gS _ rfl rfl) rfl (aB (aC ?_))))))))
  refine gP _ rfl (fun h26 => ?_) (fun h26 => ?_)
  ·have hi : rG m x.key = none := by cases h : rG m x.key <;> simp_all
   refine aD (aA (bI rfl rfl (aB (aC (aN (cC (cA (.int _ _) rfl ?_)))))))
   have ha : rF m x = (m, 11) := by unfold rF; rw [if_neg h13, if_pos (by rw [iC, hi]; decide)]
   exact ⟨by rw [ha], A, n, c, p, er, em, by rw [ha]; exact hs, M3.keep [true, true, true, false]⟩
  ·rcases jJ x.key m with ⟨hi, _⟩ | ⟨i, bi, hbi, hbk, hi⟩
   ·simp [hi] at h26
   refine aL (aC (aD (bS [(0, 0), (1, 0), (2, 0), (3, 1), (4, 0), (5, 1), (6, 1), (7, 2)] mixed rfl (by kernel_rfl) (fun w4 hb4 hh4 => ?_))))
   have M4 := M3.drew hb4 hh4
   refine aY rfl rfl rfl (fun _ => aG (.pointer _) rfl) (aY rfl rfl rfl (fun _ => aK rfl) (aY rfl rfl rfl (fun _ => aE 0 fN rfl) (cB rfl rfl rfl (aM 0 (.slice _ _ _) fA M4 rfl rfl rfl) (gD rfl rfl rfl (cB rfl rfl rfl (aZ 3 bN M4 rfl rfl rfl) ?_)))))
   refine cB rfl rfl rfl (bQ (i) eM rfl rfl (by rw [hi]; rfl) ((hs.row.rd M4 (bC (i := 1) rfl)).below_len (aJ aF hbi)) ((hs.row.rd M4 (bC (i := 1) rfl)).someK (aJ aF hbi))) (dO [true, true, true] rfl (by kernel_rfl) (aCh 1 _ bN M4 rfl hs.row (aJ aF hbi) rfl rfl rfl rfl (aQ rfl) (fun e5 w5 hR5 M5 => ?_)))
   have hQ5 := hR5.mapSet (f := aF) (x := x) rfl
   refine aB (aC ⟨dN, ?_⟩)
   refine cF (aC (aD (aA (bI rfl rfl (aB (aC (aN (cA (.int _ _) rfl ?_))))))))
   have ha : rF m x = (m.set i x, 0) := by unfold rF; rw [if_neg h13, iC, hi]; simp only []; rw [if_neg (by omega), Int.toNat_natCast]
   exact ⟨by rw [ha], _, _, _, _, _, _, by rw [ha]; exact hs.put hbi hbk.symm (by omega) hQ5, M5.keep [true, true, true, false]⟩
set_option maxHeartbeats 4000000 in
theorem aKn (w : World) (b : Nat) (A : Option Addr) (n c : Nat) (p : Option Nat) (er em : dP) (m : List Body) (hs : StoreIs 40 A n c p er em m) (hO : Own [(some b, bc [.slice A n c, .map p] 56), er, em] w) (key : Int) :
  Calls Tryz.prog 89 #[.pointer (some ⟨b, 0, none⟩), .int .u32 key] w (fun ex w' => ∃ v, ex = .returned v ∧ (fun v w' => v = .int .i64 (iQ m key).2 ∧ ∃ A' n' c' p' er' em', StoreIs 40 A' n' c' p' er' em' (iQ m key).1 ∧ Mem w (bU [(some b, bc [.slice A n c, .map p] 56), er, em]) [(some b, bc [.slice A' n' c', .map p'] 56), er', em'] w') v w') := by
 have hlen : m.length = n := by simpa using hs.row.1
 have hcap := hs.cap
 refine aH #[.tmp 4] 67 Tryz.func89 rfl Tryz.results89 Tryz.ntmps89 rfl ?_
 have M0 := hO.mem
 refine aD (aA (bI rfl rfl (aB (aC (aD (aD (aA (wq (aG (.pointer _) rfl) rfl (wq (dY false Tryz.underlying143 rfl rfl) rfl (aB (aC ?_)))))))))))
 refine cD rfl (aL (aC (aD (aA (wq (aG (.pointer _) rfl) rfl (wq (aK rfl) rfl (wq (aE 1 jS rfl) rfl (wq (aM 0 (.map _) qH M0 rfl rfl rfl) rfl ?_))))))))
 refine aV rfl rfl (wq (sT (enc := (Value.int .i64)) 0 2 uG zv3 M0 rfl hs.map rfl rfl) rfl (wq (aG (.tuple (List.toArray _)) rfl) rfl (wq (bE (.int _ _) rfl rfl) rfl (wq (bE (.bool _) rfl rfl) rfl (bI rfl rfl ?_)))))
 refine wq (aI (.bool _) rfl) rfl (aB (aC (aD (aD (aA (wq (aG (.bool _) rfl) rfl (wq (gS _ rfl rfl) rfl (aB (aC ?_)))))))))
 refine gP _ rfl (fun h20 => ?_) (fun h20 => ?_)
 ·have hi : rG m key = none := by cases h : rG m key <;> simp_all
  refine aD (aA (bI rfl rfl (aB (aC (aN (cC (cA (.int _ _) rfl ?_)))))))
  have ha : iQ m key = (m, 11) := by unfold iQ; rw [if_pos (by rw [iC, hi]; decide)]
  exact ⟨by rw [ha], A, n, c, p, er, em, by rw [ha]; exact hs, M0.keep [true, true, true]⟩
 ·rcases jJ key m with ⟨hi, _⟩ | ⟨i, bi, hbi, hbk, hi⟩
  ·simp [hi] at h20
  have hilt : i < m.length := (List.getElem?_eq_some_iff.1 hbi).1
  obtain ⟨bl, hbl⟩ := cE (xs := m) (k := n - 1) rfl (by omega)
  have hps : p.isSome = true := hs.map.isSome hi
  refine aL (aC (aD (aA (wq (aG (.pointer _) rfl) rfl (wq (aK rfl) rfl (wq (aE 0 fN rfl) rfl (wq (aM 0 (.slice _ _ _) fA M0 rfl rfl rfl) rfl (wq (cK Tryz.underlying22 rfl) rfl ?_))))))))
  refine wq (lA rfl rfl (by omega) (by omega)) rfl (bI rfl rfl (aB (aC (aD (bS [(0, 0), (1, 0), (2, 0), (3, 1), (4, 0), (5, 0), (6, 0), (7, 0), (8, 1), (9, 0), (10, 1), (11, 1), (12, 1), (13, 2)] mixed rfl (by kernel_rfl) (fun w1 hb1 hh1 => ?_))))))
  have M1 := M0.drew hb1 hh1
  refine aY rfl rfl rfl (fun _ => aG (.pointer _) rfl) (aY rfl rfl rfl (fun _ => aK rfl) (aY rfl rfl rfl (fun _ => aE 0 fN rfl) (cB rfl rfl rfl (aM 0 (.slice _ _ _) fA M1 rfl rfl rfl) (gD rfl rfl rfl (aY rfl rfl rfl (fun _ => aG (.pointer _) rfl) ?_)))))
  refine aY rfl rfl rfl (fun _ => aK rfl) (aY rfl rfl rfl (fun _ => aE 0 fN rfl) (cB rfl rfl rfl (aM 0 (.slice _ _ _) fA M1 rfl rfl rfl) (gD rfl rfl rfl (cB rfl rfl rfl (bQ (n - 1) eM rfl rfl (by omega) ((hs.row.rd M1 (bC (i := 1) rfl)).below_len (aJ aF hbl)) ((hs.row.rd M1 (bC (i := 1) rfl)).someK (aJ aF hbl))) ?_))))
  refine cB rfl rfl rfl (dL _ bN (hs.row.rd M1 (bC (i := 1) rfl)) (aJ aF hbl) rfl) (cB rfl rfl rfl (bQ (i) eM rfl rfl (by rw [hi]; rfl) ((hs.row.rd M1 (bC (i := 1) rfl)).below_len (aJ aF hbi)) ((hs.row.rd M1 (bC (i := 1) rfl)).someK (aJ aF hbi))) (dO [true, true, true, true, true] rfl (by kernel_rfl) ?_))
  refine aCh 1 _ bN M1 rfl hs.row (aJ aF hbi) rfl rfl rfl rfl (aQ rfl) (fun e2 w2 hR2 M2 => ?_)
  have hQ2 := hR2.mapSet (f := aF) (x := bl) rfl
  refine aB (aC ⟨dN, ?_⟩)
  refine cF (aC (aD (bS [(0, 0), (1, 0), (2, 0), (3, 1), (4, 0), (5, 0), (6, 0), (7, 1), (8, 0), (9, 1), (10, 1), (11, 1), (12, 0), (13, 2)] mixed rfl (by kernel_rfl) (fun w3 hb3 hh3 => ?_))))
  have M3 := M2.drew hb3 hh3
  refine aY rfl rfl rfl (fun _ => aG (.pointer _) rfl) (aY rfl rfl rfl (fun _ => aK rfl) (aY rfl rfl rfl (fun _ => aE 1 jS rfl) (cB rfl rfl rfl (aM 0 (.map _) qH M3 rfl rfl rfl) (aY rfl rfl rfl (fun _ => aG (.pointer _) rfl) (aY rfl rfl rfl (fun _ => aK rfl) ?_)))))
  refine aY rfl rfl rfl (fun _ => aE 0 fN rfl) (cB rfl rfl rfl (aM 0 (.slice _ _ _) fA M3 rfl rfl rfl) (gD rfl rfl rfl ?_))
  refine cB rfl rfl rfl (bQ (i) eM rfl rfl (by rw [hi]; rfl) ((hQ2.rd M3 (bC (i := 1) rfl)).below_len (aJ aF (by rw [List.getElem?_set_self hilt] : (m.set i bl)[i]? = some bl))) ((hQ2.rd M3 (bC (i := 1) rfl)).someK (aJ aF (by rw [List.getElem?_set_self hilt] : (m.set i bl)[i]? = some bl)))) ?_
  refine cB rfl rfl rfl (bP 0 eK (hQ2.rd M3 (bC (i := 1) rfl)) (Nat.lt_of_le_of_lt (Nat.zero_le _) ((hQ2.rd M3 (bC (i := 1) rfl)).below_len (aJ aF (by rw [List.getElem?_set_self hilt] : (m.set i bl)[i]? = some bl)))) rfl) ?_
  refine cB rfl rfl rfl (eJ (o := 0) (.int _ _) bW (hQ2.rd M3 (bC (i := 1) rfl)) (aJ aF (by rw [List.getElem?_set_self hilt] : (m.set i bl)[i]? = some bl)) rfl rfl) ?_
  refine gD rfl rfl rfl (dO [true, true, true, true, true] rfl (by kernel_rfl) (hJ (enc := (Value.int .i64)) 2 uG M3 rfl rfl hs.map hps rfl rfl rfl (fun e4 w4 hm4 M4 => ?_)))
  refine aB (aC ⟨dN, ?_⟩)
  refine cF (aC (aD (aA (wq (aG (.pointer _) rfl) rfl (wq (aG (.pointer _) rfl) rfl (wq (aK rfl) rfl (wq (aE 0 fN rfl) rfl ?_)))))))
  refine wq (aM 0 (.slice _ _ _) fA M4 rfl rfl rfl) rfl (aV rfl rfl (wq (fM (0) (((n : Int) - 1)) eM rfl rfl ⟨_, rfl⟩ (by decide) (by omega) (by have := hs.row.slice; omega)) rfl (wq (aK rfl) rfl (wq (aE 0 fN rfl) rfl (dE 0 (.slice _ _ _) fA M4 rfl rfl rfl rfl rfl rfl (fun w5 M5 => ?_))))))
  refine aB (aC (aD (aA (wq (aG (.pointer _) rfl) rfl (wq (aK rfl) rfl (wq (aE 1 jS rfl) rfl (wq (aM 0 (.map _) qH M5 rfl rfl rfl) rfl (aV rfl rfl ?_))))))))
  refine aPk (enc := (Value.int .i64)) 2 uG M5 rfl rfl hm4 hps rfl rfl (fun e6 w6 hm6 M6 => (aB (aC (aD (aA (bI rfl rfl (aB (aC (aN (cA (.int _ _) rfl ?_))))))))))
  have ha : iQ m key = (tN m i, 0) := by unfold iQ; rw [iC, hi]; simp only []; rw [if_neg (by omega), Int.toNat_natCast]
  have hn1 : ((n : Int) - 1).toNat = n - 1 := by omega
  exact ⟨by rw [ha], _, _, _, _, _, _, by rw [ha]; exact hs.cut hbi hbk (by rw [hlen]; exact hbl) (by rw [hi]; rfl) (by omega) hQ2 hm6, M6.keep [true, true, true]⟩
set_option maxHeartbeats 4000000 in
theorem aJv (w : World) (b : Nat) (A : Option Addr) (n c : Nat) (p : Option Nat) (er em : dP) (m : List Body) (hs : StoreIs 40 A n c p er em m) (hO : Own [(some b, bc [.slice A n c, .map p] 56), er, em] w) :
  Calls Tryz.prog 64 #[.pointer (some ⟨b, 0, none⟩)] w (fun ex w' => ∃ v, ex = .returned v ∧ (fun v w' => ∃ A' n' c' e', v = .slice A' n' c' ∧ aX 40 10 A' n' c' ((qL m).map aF) e' ∧ Mem w (bU [(some b, bc [.slice A n c, .map p] 56), er, em]) [(some b, bc [.slice A n c, .map p] 56), er, em, e'] w') v w') := by
 have hlen : m.length = n := by simpa using hs.row.1
 have hcap := hs.cap
 refine aH #[.tmp 2] 14 Tryz.func64 rfl Tryz.results64 Tryz.ntmps64 rfl ?_
 have M0 := hO.mem
 refine aD (aA (gB rfl rfl (aB (aC (aD (aD (aA (wq (aG (.pointer _) rfl) rfl (wq (dY false Tryz.underlying143 rfl rfl) rfl (aB (aC ?_)))))))))))
 refine cD rfl (aL (aC (aD (aA (wq (aG (.pointer _) rfl) rfl (wq (aK rfl) rfl (wq (aE 0 fN rfl) rfl (wq (aM 0 (.slice _ _ _) fA M0 rfl rfl rfl) rfl ?_))))))))
 refine bX bEh rfl rfl (zY _ _ _ _ _ (hs.row.rd M0 (bC (i := 1) rfl)) (aHv m) (by omega)) ?_
 rintro v1 w1 ⟨A1, n1, c1, e1, rfl, hR1, hM1, _⟩
 have M1 : Mem _ _ [_, _, _, _] _ := M0.call0 hM1
 have hn1 : n1 = m.length := by simpa using hR1.1.symm
 refine gB rfl rfl (aB (aC (aD (aA (eF rfl rfl (bX bDz rfl rfl (vC 96 bEo vH _ _ _ _ m _ hR1 (M1.ownAt (i := 3) rfl) (by omega)) ?_))))))
 rintro v2 w2 ⟨rfl, ys2, e2, hp2, hu2, hR2, hM2⟩
 have M2 : Mem _ _ [_, _, _, _] _ := M1.seg 3 1 hM2
 have hys : ys2 = qL m := aBp hu2 (oO m) (hp2.trans (gW m).symm) (hs.keys.perm hp2)
 rw [hys] at hR2
 refine aB (aC (aD (aA (eF rfl rfl (gB rfl rfl (aB (aC (aN (cA (.slice _ _ _) rfl ?_)))))))))
 exact ⟨_, _, _, _, rfl, hR2, M2⟩
theorem gY {x : Int} (h : 0 ≤ x ∧ x ≤ 4294967295) : IntKind.wrap .i32 x = mY x := by
 unfold mY
 simp [IntKind.wrap, IntKind.bits, IntKind.signed]
 split <;> split <;> omega
set_option maxHeartbeats 4000000 in
theorem aAw (w : World) (r : Row) (xs : List Int) (hr : aX 5 1 r.A r.n r.c ((xs).map bY) r.e) (n : Int) (hn : 0 ≤ n ∧ n ≤ 4294967295) (hl : r.n ≤ 1048576) (hO : Own [r.e] w) :
  Calls Tryz.prog 100 #[.slice r.A r.n r.c, .int .u32 n] w (fun ex w' => ∃ v, ex = .returned v ∧ (fun v w' => ∃ q : Row, v = .slice q.A q.n q.c ∧ q.n = r.n + 4 ∧ aX 5 1 q.A q.n q.c ((xs ++ iI n).map bY) q.e ∧ Mem w (bU [r.e]) [q.e] w') v w') := by
 refine aH #[.tmp 4] 19 Tryz.func100 rfl Tryz.results100 Tryz.ntmps100 rfl ?_
 have M0 := hO.mem
 refine aD (aA (gB rfl rfl (aB (aC (aD (aA (eF rfl rfl (aV rfl rfl (wq (gC rfl rfl (by decide)) rfl ?_)))))))))
 refine aS 7 (.int .u32 (n / 16777216)) (iE (aXh n)) (wq (dS qZ Tryz.underlying5 rfl) rfl (aS 8 (.int .u8 (n / 16777216 % 256)) (iE (wr8 _)) (aV rfl rfl (wq (gC rfl rfl (by decide)) rfl (aS 10 (.int .u32 (n / 65536)) (iE (aWo n)) ?_)))))
 refine wq (dS qZ Tryz.underlying5 rfl) rfl (aS 11 (.int .u8 (n / 65536 % 256)) (iE (wr8 _)) (aV rfl rfl (wq (gC rfl rfl (by decide)) rfl (aS 13 (.int .u32 (n / 256)) (iE (bAh n)) (wq (dS qZ Tryz.underlying5 rfl) rfl ?_)))))
 refine aS 14 (.int .u8 (n / 256 % 256)) (iE (wr8 _)) (aV rfl rfl (wq (dS qZ Tryz.underlying5 rfl) rfl (aS 16 (.int .u8 (n % 256)) (iE (wr8 _)) (cZ [.int _ _, .int _ _, .int _ _, .int _ _] ((iI n).map bY) rfl kS M0 rfl rfl rfl rfl (dH rfl) (by decide) (fun b1 w1 M1 => (eG 0 ((iI n).map bY) kS M1 rfl rfl rfl rfl rfl hr rfl (by simp [iI, bY, Go.Bil.one]) (dB.ofMem 1 M1 rfl) (by omega) (fun A2 c2 e2 w2 M2 hR2 => ?_)))))))
 refine gB rfl rfl (aB (aC (aN (cA (.slice _ _ _) rfl ?_))))
 exact ⟨⟨A2, _, c2, e2⟩, rfl, rfl, by rw [List.map_append]; exact hR2, M2.keep [true, false]⟩
set_option maxHeartbeats 4000000 in
theorem fH (w : World) (x : Int) :
  Calls Tryz.prog 130 #[.int .i32 x] w (fun ex w' => ∃ v, ex = .returned v ∧ (fun v w' => v = .int .u32 (x % 4294967296) ∧ Below w.heap.size w w') v w') := by
 refine aH #[.tmp 2] 5 Tryz.func130 rfl Tryz.results130 Tryz.ntmps130 rfl ?_
 have M0 := Mem.refl w
 refine aD (aA (bI rfl rfl (aB (aC (aD (aA (aV rfl rfl (wq (dS fL Tryz.underlying36 rfl) rfl (aS 4 (.int .u32 (x % 4294967296)) (iE (aSl _)) ?_)))))))))
 refine bI rfl rfl (aB (aC (aN (cA (.int _ _) rfl ?_))))
 exact ⟨rfl, M0.below⟩
set_option maxHeartbeats 4000000 in
theorem aJh (w : World) (b : Body) :
  Calls Tryz.prog 101 #[(.agg (aF b).toArray)] w (fun ex w' => ∃ v, ex = .returned v ∧ (fun v w' => v = .agg ((uR b).map (Value.int .u32)).toArray ∧ Below w.heap.size w w') v w') := by
 refine aH #[.cell 2 150] 49 Tryz.func101 rfl Tryz.results101 Tryz.ntmps101 rfl ?_
 have M0 := Mem.refl w
 refine aD (aA (bJ (.agg (List.toArray _)) M0 rfl rfl rfl (fun b1 w1 M1 => (aR aDt M1 rfl rfl (fun b2 w2 M2 => (aB (aC (aD (aA (wq (aI (.func _ _ _) rfl) rfl (aB (aC (aD ?_)))))))))))))
 refine bS [(0, 0), (1, 1), (2, 0), (3, 0), (4, 1), (6, 0), (7, 0), (8, 0), (9, 1), (11, 0), (12, 0), (13, 0), (14, 1), (16, 0), (17, 0), (18, 1), (20, 0), (21, 0), (22, 1), (24, 0), (25, 0), (26, 0), (27, 1), (29, 0), (30, 0), (31, 0), (32, 1), (34, 0), (35, 0), (36, 0), (37, 1), (39, 0), (40, 0), (41, 0), (42, 1), (5, 2), (10, 2), (15, 2), (19, 2), (23, 2), (28, 2), (33, 2), (38, 2), (43, 2), (44, 0), (45, 2)] mixed rfl (by kernel_rfl) (fun w3 hb3 hh3 => ?_)
 have M3 := M2.drew hb3 hh3
 refine aY rfl rfl rfl (fun _ => aE 0 eK rfl) (cB rfl rfl rfl (aM 0 (.int _ _) bW M3 rfl rfl rfl) (aY rfl rfl rfl (fun _ => aG (.func _ _ _) rfl) (aY rfl rfl rfl (fun _ => aE 1 nB rfl) (cB rfl rfl rfl (aM 0 (.int _ _) aU M3 rfl rfl rfl) (aY rfl rfl rfl (fun _ => aG (.func _ _ _) rfl) ?_)))))
 refine aY rfl rfl rfl (fun _ => aE 2 kK rfl) (aY rfl rfl rfl (fun _ => aE 0 dT rfl) (cB rfl rfl rfl (aM 0 (.int _ _) aU M3 rfl rfl rfl) (aY rfl rfl rfl (fun _ => aG (.func _ _ _) rfl) (aY rfl rfl rfl (fun _ => aE 2 kK rfl) (aY rfl rfl rfl (fun _ => aE 1 dK rfl) ?_)))))
 refine cB rfl rfl rfl (aM 0 (.int _ _) aU M3 rfl rfl rfl) (aY rfl rfl rfl (fun _ => aG (.func _ _ _) rfl) (aY rfl rfl rfl (fun _ => aE 4 fE rfl) (cB rfl rfl rfl (aM 0 (.int _ _) aU M3 rfl rfl rfl) (aY rfl rfl rfl (fun _ => aG (.func _ _ _) rfl) (aY rfl rfl rfl (fun _ => aE 5 sF rfl) ?_)))))
 refine cB rfl rfl rfl (aM 0 (.int _ _) aU M3 rfl rfl rfl) (aY rfl rfl rfl (fun _ => aG (.func _ _ _) rfl) (aY rfl rfl rfl (fun _ => aE 6 fX rfl) (aY rfl rfl rfl (fun _ => aE 0 dT rfl) (cB rfl rfl rfl (aM 0 (.int _ _) aU M3 rfl rfl rfl) (aY rfl rfl rfl (fun _ => aG (.func _ _ _) rfl) ?_)))))
 refine aY rfl rfl rfl (fun _ => aE 6 fX rfl) (aY rfl rfl rfl (fun _ => aE 1 dK rfl) (cB rfl rfl rfl (aM 0 (.int _ _) aU M3 rfl rfl rfl) (aY rfl rfl rfl (fun _ => aG (.func _ _ _) rfl) (aY rfl rfl rfl (fun _ => aE 8 fD rfl) (aY rfl rfl rfl (fun _ => aE 0 dT rfl) ?_)))))
 refine cB rfl rfl rfl (aM 0 (.int _ _) aU M3 rfl rfl rfl) (aY rfl rfl rfl (fun _ => aG (.func _ _ _) rfl) (aY rfl rfl rfl (fun _ => aE 8 fD rfl) (aY rfl rfl rfl (fun _ => aE 1 dK rfl) (cB rfl rfl rfl (aM 0 (.int _ _) aU M3 rfl rfl rfl) (dO [false, false, false, false, false, false, false, false, true, false] rfl (by kernel_rfl) ?_)))))
 refine bX nG rfl rfl (fH _ b.radius) ?_
 rintro v4 w4 ⟨rfl, hb4⟩
 have M4 := M3.callB hb4
 refine aB (aC ⟨(eQ (bO rfl (aM 0 (.int _ _) aU M4 rfl rfl rfl)) (eQ (bO rfl (aM 0 (.int _ _) aU M4 rfl rfl rfl)) (eQ (bO rfl (aM 0 (.int _ _) aU M4 rfl rfl rfl)) (eQ (bO rfl (aM 0 (.int _ _) aU M4 rfl rfl rfl)) (eQ (bO rfl (aM 0 (.int _ _) aU M4 rfl rfl rfl)) (eQ (bO rfl (aM 0 (.int _ _) aU M4 rfl rfl rfl)) (eQ (bO rfl (aM 0 (.int _ _) aU M4 rfl rfl rfl)) (eQ (bO rfl (aM 0 (.int _ _) aU M4 rfl rfl rfl)) (eQ (bO rfl (aM 0 (.int _ _) bW M4 rfl rfl rfl)) dN))))))))), ?_⟩)
 refine dO [false, false, false, false, false, false, false, true, false] rfl (by kernel_rfl) (bX nG rfl rfl (fH _ b.ax) ?_)
 rintro v5 w5 ⟨rfl, hb5⟩
 have M5 := M4.callB hb5
 refine aB (aC ⟨(eQ (bO rfl (aM 0 (.int _ _) aU M5 rfl rfl rfl)) (eQ (bO rfl (aM 0 (.int _ _) aU M5 rfl rfl rfl)) (eQ (bO rfl (aM 0 (.int _ _) aU M5 rfl rfl rfl)) (eQ (bO rfl (aM 0 (.int _ _) aU M5 rfl rfl rfl)) (eQ (bO rfl (aM 0 (.int _ _) aU M5 rfl rfl rfl)) (eQ (bO rfl (aM 0 (.int _ _) aU M5 rfl rfl rfl)) (eQ (bO rfl (aM 0 (.int _ _) aU M5 rfl rfl rfl)) (eQ (bO rfl (aM 0 (.int _ _) bW M5 rfl rfl rfl)) dN)))))))), ?_⟩)
 refine dO [false, false, false, false, false, false, true, false] rfl (by kernel_rfl) (bX nG rfl rfl (fH _ b.ay) ?_)
 rintro v6 w6 ⟨rfl, hb6⟩
 have M6 := M5.callB hb6
 refine aB (aC ⟨(eQ (bO rfl (aM 0 (.int _ _) aU M6 rfl rfl rfl)) (eQ (bO rfl (aM 0 (.int _ _) aU M6 rfl rfl rfl)) (eQ (bO rfl (aM 0 (.int _ _) aU M6 rfl rfl rfl)) (eQ (bO rfl (aM 0 (.int _ _) aU M6 rfl rfl rfl)) (eQ (bO rfl (aM 0 (.int _ _) aU M6 rfl rfl rfl)) (eQ (bO rfl (aM 0 (.int _ _) aU M6 rfl rfl rfl)) (eQ (bO rfl (aM 0 (.int _ _) bW M6 rfl rfl rfl)) dN))))))), ?_⟩)
 refine dO [false, false, false, false, false, true, false] rfl (by kernel_rfl) (bX nG rfl rfl (fH _ b.mass) ?_)
 rintro v7 w7 ⟨rfl, hb7⟩
 have M7 := M6.callB hb7
 refine aB (aC ⟨(eQ (bO rfl (aM 0 (.int _ _) aU M7 rfl rfl rfl)) (eQ (bO rfl (aM 0 (.int _ _) aU M7 rfl rfl rfl)) (eQ (bO rfl (aM 0 (.int _ _) aU M7 rfl rfl rfl)) (eQ (bO rfl (aM 0 (.int _ _) aU M7 rfl rfl rfl)) (eQ (bO rfl (aM 0 (.int _ _) aU M7 rfl rfl rfl)) (eQ (bO rfl (aM 0 (.int _ _) bW M7 rfl rfl rfl)) dN)))))), ?_⟩)
 refine dO [false, false, false, false, true, false] rfl (by kernel_rfl) (bX nG rfl rfl (fH _ b.bounce) ?_)
 rintro v8 w8 ⟨rfl, hb8⟩
 have M8 := M7.callB hb8
 refine aB (aC ⟨(eQ (bO rfl (aM 0 (.int _ _) aU M8 rfl rfl rfl)) (eQ (bO rfl (aM 0 (.int _ _) aU M8 rfl rfl rfl)) (eQ (bO rfl (aM 0 (.int _ _) aU M8 rfl rfl rfl)) (eQ (bO rfl (aM 0 (.int _ _) aU M8 rfl rfl rfl)) (eQ (bO rfl (aM 0 (.int _ _) bW M8 rfl rfl rfl)) dN))))), ?_⟩)
 refine dO [false, false, false, true, false] rfl (by kernel_rfl) (bX nG rfl rfl (fH _ b.px) ?_)
 rintro v9 w9 ⟨rfl, hb9⟩
 have M9 := M8.callB hb9
 refine aB (aC ⟨(eQ (bO rfl (aM 0 (.int _ _) aU M9 rfl rfl rfl)) (eQ (bO rfl (aM 0 (.int _ _) aU M9 rfl rfl rfl)) (eQ (bO rfl (aM 0 (.int _ _) aU M9 rfl rfl rfl)) (eQ (bO rfl (aM 0 (.int _ _) bW M9 rfl rfl rfl)) dN)))), ?_⟩)
 refine dO [false, false, true, false] rfl (by kernel_rfl) (bX nG rfl rfl (fH _ b.py) ?_)
 rintro v10 w10 ⟨rfl, hb10⟩
 have M10 := M9.callB hb10
 refine aB (aC ⟨(eQ (bO rfl (aM 0 (.int _ _) aU M10 rfl rfl rfl)) (eQ (bO rfl (aM 0 (.int _ _) aU M10 rfl rfl rfl)) (eQ (bO rfl (aM 0 (.int _ _) bW M10 rfl rfl rfl)) dN))), ?_⟩)
 refine dO [false, true, false] rfl (by kernel_rfl) (bX nG rfl rfl (fH _ b.vx) ?_)
 rintro v11 w11 ⟨rfl, hb11⟩
 have M11 := M10.callB hb11
 refine aB (aC ⟨(eQ (bO rfl (aM 0 (.int _ _) aU M11 rfl rfl rfl)) (eQ (bO rfl (aM 0 (.int _ _) bW M11 rfl rfl rfl)) dN)), ?_⟩)
 refine dO [true, false] rfl (by kernel_rfl) (bX nG rfl rfl (fH _ b.vy) ?_)
 rintro v12 w12 ⟨rfl, hb12⟩
 have M12 := M11.callB hb12
 refine aB (aC ⟨(eQ (bO rfl (aM 0 (.int _ _) bW M12 rfl rfl rfl)) dN), ?_⟩)
 refine aY rfl rfl rfl (fun _ => oD [.int _ _, .int _ _, .int _ _, .int _ _, .int _ _, .int _ _, .int _ _, .int _ _, .int _ _, .int _ _] fF aDt rfl rfl (dH rfl)) (dO [true] rfl (by kernel_rfl) (bB 1 _ aIs M12 rfl rfl rfl rfl rfl (aQ rfl) rfl (fun w13 M13 => ?_)))
 refine aB (aC ⟨dN, ?_⟩)
 refine cF (aC (aN (fT 1 aIs M13 rfl rfl rfl ?_)))
 exact ⟨rfl, M13.below⟩
set_option maxHeartbeats 4000000 in
theorem fQ (w : World) (A : Option Addr) (n c : Nat) (ls : List Int) (R : Rd w 1 A n (ls.map bY)) (hB : kP ls) (h4 : 4 ≤ n) :
  Calls Tryz.prog 102 #[.slice A n c] w (fun ex w' => ∃ v, ex = .returned v ∧ (fun v w' => v = .int .u32 (dZ ls 0) ∧ Below w.heap.size w w') v w') := by
 have hlen : ls.length = n := by simpa using R.len
 have hbd := R.bound
 obtain ⟨x0, hx0⟩ := cE (xs := ls) (k := 0) hlen (by omega)
 obtain ⟨x1, hx1⟩ := cE (xs := ls) (k := 1) hlen (by omega)
 obtain ⟨x2, hx2⟩ := cE (xs := ls) (k := 2) hlen (by omega)
 obtain ⟨x3, hx3⟩ := cE (xs := ls) (k := 3) hlen (by omega)
 obtain ⟨g0, g1⟩ := hB x0 (List.mem_of_getElem? hx0)
 obtain ⟨g2, g3⟩ := hB x1 (List.mem_of_getElem? hx1)
 obtain ⟨g4, g5⟩ := hB x2 (List.mem_of_getElem? hx2)
 obtain ⟨g6, g7⟩ := hB x3 (List.mem_of_getElem? hx3)
 have hnum : dZ ls 0 = ((x0 * 256 + x1) * 256 + x2) * 256 + x3 := by unfold dZ; simp only [List.getD_eq_getElem?_getD, Nat.zero_add, hx0, hx1, hx2, hx3, Option.getD_some]
 obtain ⟨b0, rfl⟩ := Int.eq_ofNat_of_zero_le g0
 obtain ⟨b1, rfl⟩ := Int.eq_ofNat_of_zero_le g2
 obtain ⟨b2, rfl⟩ := Int.eq_ofNat_of_zero_le g4
 obtain ⟨b3, rfl⟩ := Int.eq_ofNat_of_zero_le g6
 refine aH #[.tmp 2] 25 Tryz.func102 rfl Tryz.results102 Tryz.ntmps102 rfl ?_
 have M0 := Mem.refl w
 refine aD (aA (bI rfl rfl (aB (aC (aD (bS [(0, 0), (1, 1), (2, 1), (3, 0), (4, 0), (5, 0), (6, 1), (7, 1), (8, 0), (9, 0), (10, 0), (11, 0), (12, 1), (13, 1), (14, 0), (15, 0), (16, 0), (17, 0), (18, 1), (19, 1), (20, 0), (21, 0), (22, 0)] mixed rfl (by kernel_rfl) (fun w1 hb1 hh1 => ?_)))))))
 have M1 := M0.drew hb1 hh1
 refine vY rfl rfl rfl (cB rfl rfl rfl (bQ (0) kS rfl rfl rfl ((R.mem M1).below_len (aJ bY hx0)) ((R.mem M1).someK (aJ bY hx0))) (cB rfl rfl rfl (gU (.int _ _) aNw (R.mem M1) (aJ bY hx0) rfl) (aY rfl rfl rfl (fun _ => bR us5 Tryz.underlying36 rfl (aBg _ (by omega) (by omega))) ?_)))
 refine aY rfl rfl rfl (fun _ => rV rfl rfl (by decide)) (gJ 7 (.int .u32 ((b0 * 16777216 : Nat) : Int)) (iE (aWi b0 (by omega))) (vY rfl rfl rfl (cB rfl rfl rfl (bQ (1) kS rfl rfl rfl ((R.mem M1).below_len (aJ bY hx1)) ((R.mem M1).someK (aJ bY hx1))) (cB rfl rfl rfl (gU (.int _ _) aNw (R.mem M1) (aJ bY hx1) rfl) ?_))))
 refine aY rfl rfl rfl (fun _ => bR us5 Tryz.underlying36 rfl (aBg _ (by omega) (by omega))) (aY rfl rfl rfl (fun _ => rV rfl rfl (by decide)) (gJ 12 (.int .u32 ((b1 * 65536 : Nat) : Int)) (iE (aXi b1 (by omega))) (aY rfl rfl rfl (fun _ => dV (.int _ _) rfl rfl rfl) (gJ 13 (.int .u32 ((b0 * 16777216 + b1 * 65536 : Nat) : Int)) (iE (bAo b0 (b0 * 16777216) (b1 * 65536) 24 rfl (show b1 * 65536 < 16777216 by omega) (by omega))) ?_))))
 refine vY rfl rfl rfl (cB rfl rfl rfl (bQ (2) kS rfl rfl rfl ((R.mem M1).below_len (aJ bY hx2)) ((R.mem M1).someK (aJ bY hx2))) (cB rfl rfl rfl (gU (.int _ _) aNw (R.mem M1) (aJ bY hx2) rfl) (aY rfl rfl rfl (fun _ => bR us5 Tryz.underlying36 rfl (aBg _ (by omega) (by omega))) ?_)))
 refine aY rfl rfl rfl (fun _ => rV rfl rfl (by decide)) (gJ 18 (.int .u32 ((b2 * 256 : Nat) : Int)) (iE (aZr b2 (by omega))) (aY rfl rfl rfl (fun _ => dV (.int _ _) rfl rfl rfl) (gJ 19 (.int .u32 ((b0 * 16777216 + b1 * 65536 + b2 * 256 : Nat) : Int)) (iE (bAo (b0 * 256 + b1) (b0 * 16777216 + b1 * 65536) (b2 * 256) 16 (show (b0 * 256 + b1) * 65536 = _ by omega) (show b2 * 256 < 65536 by omega) (by omega))) ?_)))
 refine vY rfl rfl rfl (cB rfl rfl rfl (bQ (3) kS rfl rfl rfl ((R.mem M1).below_len (aJ bY hx3)) ((R.mem M1).someK (aJ bY hx3))) (cB rfl rfl rfl (gU (.int _ _) aNw (R.mem M1) (aJ bY hx3) rfl) (aY rfl rfl rfl (fun _ => bR us5 Tryz.underlying36 rfl (aBg _ (by omega) (by omega))) ?_)))
 refine aY rfl rfl rfl (fun _ => dV (.int _ _) rfl rfl rfl) (gJ 24 (.int .u32 ((b0 * 16777216 + b1 * 65536 + b2 * 256 + b3 : Nat) : Int)) (iE (bAo (b0 * 65536 + b1 * 256 + b2) (b0 * 16777216 + b1 * 65536 + b2 * 256) b3 8 (show (b0 * 65536 + b1 * 256 + b2) * 256 = _ by omega) (show b3 < 256 by omega) (by omega))) ?_)
 refine pW rfl rfl rfl (cF (aC (aN (cA (.int _ _) rfl ?_))))
 exact ⟨iE (by rw [hnum]; omega), M1.below⟩
set_option maxHeartbeats 4000000 in
theorem fC (w : World) (n : Int) (hn : 0 ≤ n ∧ n ≤ 4294967295) :
  Calls Tryz.prog 103 #[.int .i64 n] w (fun ex w' => ∃ v, ex = .returned v ∧ (fun v w' => v = .int .i64 (8 + 40 * n) ∧ Below w.heap.size w w') v w') := by
 refine aH #[.tmp 2] 6 Tryz.func103 rfl Tryz.results103 Tryz.ntmps103 rfl ?_
 have M0 := Mem.refl w
 refine aD (aA (bI rfl rfl (aB (aC (aD (aA (aV rfl rfl (wq (fS rfl rfl (by omega) (by omega)) rfl (wq (bM rfl rfl (by omega) (by omega)) rfl ?_)))))))))
 refine bI rfl rfl (aB (aC (aN (cA (.int _ _) rfl ?_))))
 exact ⟨iE (by omega), M0.below⟩
set_option maxHeartbeats 4000000 in
theorem vG (w : World) (b : Nat) (x0 x1 x2 x3 x4 x5 x6 x7 x8 x9 : Int) (h0 : 0 ≤ x2 ∧ x2 ≤ 4294967295) (h1 : 0 ≤ x3 ∧ x3 ≤ 4294967295) (hO : Own [(some b, bc [.int .u32 x0, .int .u32 x1, .int .u32 x2, .int .u32 x3, .int .u32 x4, .int .u32 x5, .int .u32 x6, .int .u32 x7, .int .u32 x8, .int .u32 x9] 150)] w) :
  Calls Tryz.prog 131 #[.int .i64 2, .pointer (some ⟨b, 0, none⟩)] w (fun ex w' => ∃ v, ex = .returned v ∧ (fun v w' => v = .agg [.int .i32 (mY x2), .int .i32 (mY x3)].toArray ∧ Mem w (bU [(some b, bc [.int .u32 x0, .int .u32 x1, .int .u32 x2, .int .u32 x3, .int .u32 x4, .int .u32 x5, .int .u32 x6, .int .u32 x7, .int .u32 x8, .int .u32 x9] 150)]) [(some b, bc [.int .u32 x0, .int .u32 x1, .int .u32 x2, .int .u32 x3, .int .u32 x4, .int .u32 x5, .int .u32 x6, .int .u32 x7, .int .u32 x8, .int .u32 x9] 150)] w') v w') := by
 refine aH #[.cell 3 38] 14 Tryz.func131 rfl Tryz.results131 Tryz.ntmps131 rfl ?_
 have M0 := hO.mem
 refine aD (aA (aR fY M0 rfl rfl (fun b1 w1 M1 => (aB (aC (aD (bS [(0, 0), (1, 0), (2, 1), (3, 0), (4, 0), (5, 0), (6, 0), (7, 1), (8, 0), (9, 0), (10, 2)] mixed rfl (by kernel_rfl) (fun w2 hb2 hh2 => ?_))))))))
 have M2 := M1.drew hb2 hh2
 refine gD rfl rfl rfl (aY rfl rfl rfl (fun _ => eX (2) fF rfl rfl rfl (by decide)) (cB rfl rfl rfl (aM 0 (.int _ _) bW M2 rfl rfl rfl) (aY rfl rfl rfl (fun _ => dS qZ Tryz.underlying21 rfl) (gJ 7 (.int .i32 (mY x2)) (iE (gY h0)) (gD rfl rfl rfl ?_)))))
 refine aY rfl rfl rfl (fun _ => bM rfl rfl (by first | decide | omega) (by first | decide | omega)) (aY rfl rfl rfl (fun _ => eX (3) fF rfl rfl rfl (by decide)) (cB rfl rfl rfl (aM 0 (.int _ _) bW M2 rfl rfl rfl) (aY rfl rfl rfl (fun _ => dS qZ Tryz.underlying21 rfl) (gJ 12 (.int .i32 (mY x3)) (iE (gY h1)) ?_))))
 refine aY rfl rfl rfl (fun _ => cM [(0, .int _ _), (1, .int _ _)] _ eP rfl rfl) (dO [true, true] rfl (by kernel_rfl) (bB 1 _ bH M2 rfl rfl rfl rfl rfl (aQ rfl) rfl (fun w3 M3 => ?_)))
 refine aB (aC ⟨dN, ?_⟩)
 refine cF (aC (aN (fT 1 bH M3 rfl rfl rfl ?_)))
 exact ⟨rfl, M3.keep [true, false]⟩
set_option maxHeartbeats 4000000 in
theorem vF (w : World) (b : Nat) (x0 x1 x2 x3 x4 x5 x6 x7 x8 x9 : Int) (h0 : 0 ≤ x6 ∧ x6 ≤ 4294967295) (h1 : 0 ≤ x7 ∧ x7 ≤ 4294967295) (hO : Own [(some b, bc [.int .u32 x0, .int .u32 x1, .int .u32 x2, .int .u32 x3, .int .u32 x4, .int .u32 x5, .int .u32 x6, .int .u32 x7, .int .u32 x8, .int .u32 x9] 150)] w) :
  Calls Tryz.prog 131 #[.int .i64 6, .pointer (some ⟨b, 0, none⟩)] w (fun ex w' => ∃ v, ex = .returned v ∧ (fun v w' => v = .agg [.int .i32 (mY x6), .int .i32 (mY x7)].toArray ∧ Mem w (bU [(some b, bc [.int .u32 x0, .int .u32 x1, .int .u32 x2, .int .u32 x3, .int .u32 x4, .int .u32 x5, .int .u32 x6, .int .u32 x7, .int .u32 x8, .int .u32 x9] 150)]) [(some b, bc [.int .u32 x0, .int .u32 x1, .int .u32 x2, .int .u32 x3, .int .u32 x4, .int .u32 x5, .int .u32 x6, .int .u32 x7, .int .u32 x8, .int .u32 x9] 150)] w') v w') := by
 refine aH #[.cell 3 38] 14 Tryz.func131 rfl Tryz.results131 Tryz.ntmps131 rfl ?_
 have M0 := hO.mem
 refine aD (aA (aR fY M0 rfl rfl (fun b1 w1 M1 => (aB (aC (aD (bS [(0, 0), (1, 0), (2, 1), (3, 0), (4, 0), (5, 0), (6, 0), (7, 1), (8, 0), (9, 0), (10, 2)] mixed rfl (by kernel_rfl) (fun w2 hb2 hh2 => ?_))))))))
 have M2 := M1.drew hb2 hh2
 refine gD rfl rfl rfl (aY rfl rfl rfl (fun _ => eX (6) fF rfl rfl rfl (by decide)) (cB rfl rfl rfl (aM 0 (.int _ _) bW M2 rfl rfl rfl) (aY rfl rfl rfl (fun _ => dS qZ Tryz.underlying21 rfl) (gJ 7 (.int .i32 (mY x6)) (iE (gY h0)) (gD rfl rfl rfl ?_)))))
 refine aY rfl rfl rfl (fun _ => bM rfl rfl (by first | decide | omega) (by first | decide | omega)) (aY rfl rfl rfl (fun _ => eX (7) fF rfl rfl rfl (by decide)) (cB rfl rfl rfl (aM 0 (.int _ _) bW M2 rfl rfl rfl) (aY rfl rfl rfl (fun _ => dS qZ Tryz.underlying21 rfl) (gJ 12 (.int .i32 (mY x7)) (iE (gY h1)) ?_))))
 refine aY rfl rfl rfl (fun _ => cM [(0, .int _ _), (1, .int _ _)] _ eP rfl rfl) (dO [true, true] rfl (by kernel_rfl) (bB 1 _ bH M2 rfl rfl rfl rfl rfl (aQ rfl) rfl (fun w3 M3 => ?_)))
 refine aB (aC ⟨dN, ?_⟩)
 refine cF (aC (aN (fT 1 bH M3 rfl rfl rfl ?_)))
 exact ⟨rfl, M3.keep [true, false]⟩
set_option maxHeartbeats 4000000 in
theorem vD (w : World) (b : Nat) (x0 x1 x2 x3 x4 x5 x6 x7 x8 x9 : Int) (h0 : 0 ≤ x8 ∧ x8 ≤ 4294967295) (h1 : 0 ≤ x9 ∧ x9 ≤ 4294967295) (hO : Own [(some b, bc [.int .u32 x0, .int .u32 x1, .int .u32 x2, .int .u32 x3, .int .u32 x4, .int .u32 x5, .int .u32 x6, .int .u32 x7, .int .u32 x8, .int .u32 x9] 150)] w) :
  Calls Tryz.prog 131 #[.int .i64 8, .pointer (some ⟨b, 0, none⟩)] w (fun ex w' => ∃ v, ex = .returned v ∧ (fun v w' => v = .agg [.int .i32 (mY x8), .int .i32 (mY x9)].toArray ∧ Mem w (bU [(some b, bc [.int .u32 x0, .int .u32 x1, .int .u32 x2, .int .u32 x3, .int .u32 x4, .int .u32 x5, .int .u32 x6, .int .u32 x7, .int .u32 x8, .int .u32 x9] 150)]) [(some b, bc [.int .u32 x0, .int .u32 x1, .int .u32 x2, .int .u32 x3, .int .u32 x4, .int .u32 x5, .int .u32 x6, .int .u32 x7, .int .u32 x8, .int .u32 x9] 150)] w') v w') := by
 refine aH #[.cell 3 38] 14 Tryz.func131 rfl Tryz.results131 Tryz.ntmps131 rfl ?_
 have M0 := hO.mem
 refine aD (aA (aR fY M0 rfl rfl (fun b1 w1 M1 => (aB (aC (aD (bS [(0, 0), (1, 0), (2, 1), (3, 0), (4, 0), (5, 0), (6, 0), (7, 1), (8, 0), (9, 0), (10, 2)] mixed rfl (by kernel_rfl) (fun w2 hb2 hh2 => ?_))))))))
 have M2 := M1.drew hb2 hh2
 refine gD rfl rfl rfl (aY rfl rfl rfl (fun _ => eX (8) fF rfl rfl rfl (by decide)) (cB rfl rfl rfl (aM 0 (.int _ _) bW M2 rfl rfl rfl) (aY rfl rfl rfl (fun _ => dS qZ Tryz.underlying21 rfl) (gJ 7 (.int .i32 (mY x8)) (iE (gY h0)) (gD rfl rfl rfl ?_)))))
 refine aY rfl rfl rfl (fun _ => bM rfl rfl (by first | decide | omega) (by first | decide | omega)) (aY rfl rfl rfl (fun _ => eX (9) fF rfl rfl rfl (by decide)) (cB rfl rfl rfl (aM 0 (.int _ _) bW M2 rfl rfl rfl) (aY rfl rfl rfl (fun _ => dS qZ Tryz.underlying21 rfl) (gJ 12 (.int .i32 (mY x9)) (iE (gY h1)) ?_))))
 refine aY rfl rfl rfl (fun _ => cM [(0, .int _ _), (1, .int _ _)] _ eP rfl rfl) (dO [true, true] rfl (by kernel_rfl) (bB 1 _ bH M2 rfl rfl rfl rfl rfl (aQ rfl) rfl (fun w3 M3 => ?_)))
 refine aB (aC ⟨dN, ?_⟩)
 refine cF (aC (aN (fT 1 bH M3 rfl rfl rfl ?_)))
 exact ⟨rfl, M3.keep [true, false]⟩
set_option maxHeartbeats 4000000 in
theorem aDq (w : World) (x0 x1 x2 x3 x4 x5 x6 x7 x8 x9 : Int) (hx : ∀ x ∈ ([x0, x1, x2, x3, x4, x5, x6, x7, x8, x9] : List Int), 0 ≤ x ∧ x ≤ 4294967295) :
  Calls Tryz.prog 104 #[.agg [.int .u32 x0, .int .u32 x1, .int .u32 x2, .int .u32 x3, .int .u32 x4, .int .u32 x5, .int .u32 x6, .int .u32 x7, .int .u32 x8, .int .u32 x9].toArray] w (fun ex w' => ∃ v, ex = .returned v ∧ (fun v w' => v = (.agg (aF (⟨x0, mY x1, mY x2, mY x3, mY x4, mY x5, mY x6, mY x7, mY x8, mY x9⟩ : Body)).toArray) ∧ Below w.heap.size w w') v w') := by
 refine aH #[.cell 2 40] 23 Tryz.func104 rfl Tryz.results104 Tryz.ntmps104 rfl ?_
 have M0 := Mem.refl w
 refine aD (aA (bJ (.agg (List.toArray _)) M0 rfl rfl rfl (fun b1 w1 M1 => (aR gG M1 rfl rfl (fun b2 w2 M2 => (aB (aC (aD (aA (wq (cP [] [.pointer _] rfl rfl) rfl (wq (aI (.func _ _ _) rfl) rfl ?_)))))))))))
 refine aB (aC (aD (bS [(0, 0), (1, 1), (2, 0), (3, 1), (4, 0), (5, 0), (7, 0), (8, 1), (9, 0), (10, 0), (11, 1), (12, 0), (13, 0), (15, 0), (6, 2), (14, 2), (16, 2), (17, 0), (18, 2)] mixed rfl (by kernel_rfl) (fun w3 hb3 hh3 => ?_))))
 have M3 := M2.drew hb3 hh3
 refine aY rfl rfl rfl (fun _ => eX (0) fF rfl rfl rfl (by decide)) (cB rfl rfl rfl (aM 0 (.int _ _) bW M3 rfl rfl rfl) (aY rfl rfl rfl (fun _ => eX (1) fF rfl rfl rfl (by decide)) (cB rfl rfl rfl (aM 0 (.int _ _) bW M3 rfl rfl rfl) (aY rfl rfl rfl (fun _ => dS qZ Tryz.underlying21 rfl) ?_))))
 refine gJ 9 (.int .i32 (mY x1)) (iE (gY (hx _ (by simp)))) (aY rfl rfl rfl (fun _ => aG (.func _ _ _) rfl) (aY rfl rfl rfl (fun _ => eX (4) fF rfl rfl rfl (by decide)) (cB rfl rfl rfl (aM 0 (.int _ _) bW M3 rfl rfl rfl) (aY rfl rfl rfl (fun _ => dS qZ Tryz.underlying21 rfl) ?_))))
 refine gJ 14 (.int .i32 (mY x4)) (iE (gY (hx _ (by simp)))) (aY rfl rfl rfl (fun _ => eX (5) fF rfl rfl rfl (by decide)) (cB rfl rfl rfl (aM 0 (.int _ _) bW M3 rfl rfl rfl) (aY rfl rfl rfl (fun _ => dS qZ Tryz.underlying21 rfl) (gJ 17 (.int .i32 (mY x5)) (iE (gY (hx _ (by simp)))) ?_))))
 refine aY rfl rfl rfl (fun _ => aG (.func _ _ _) rfl) (aY rfl rfl rfl (fun _ => aG (.func _ _ _) rfl) (dO [false, false, false, false] rfl (by kernel_rfl) (bX aIi rfl rfl (vG _ b1 x0 x1 x2 x3 x4 x5 x6 x7 x8 x9 (hx _ (by simp)) (hx _ (by simp)) (M3.ownSeg 0 1)) ?_)))
 rintro v4 w4 ⟨rfl, hM4⟩
 have M4 : Mem _ _ [_, _] _ := M3.seg 0 1 hM4
 refine aB (aC ⟨(eQ (bO rfl (aM 0 (.int _ _) bW M4 rfl rfl rfl)) (eQ (bO rfl (aM 0 (.int _ _) bW M4 rfl rfl rfl)) (eQ (bO rfl (aM 0 (.int _ _) bW M4 rfl rfl rfl)) (eQ (bO rfl (aM 0 (.int _ _) bW M4 rfl rfl rfl)) dN)))), ?_⟩)
 refine dO [false, false, false, false] rfl (by kernel_rfl) (bX aIi rfl rfl (vF _ b1 x0 x1 x2 x3 x4 x5 x6 x7 x8 x9 (hx _ (by simp)) (hx _ (by simp)) (M4.ownSeg 0 1)) ?_)
 rintro v5 w5 ⟨rfl, hM5⟩
 have M5 : Mem _ _ [_, _] _ := M4.seg 0 1 hM5
 refine aB (aC ⟨(eQ (bO rfl (aM 0 (.int _ _) bW M5 rfl rfl rfl)) (eQ (bO rfl (aM 0 (.int _ _) bW M5 rfl rfl rfl)) (eQ (bO rfl (aM 0 (.int _ _) bW M5 rfl rfl rfl)) (eQ (bO rfl (aM 0 (.int _ _) bW M5 rfl rfl rfl)) dN)))), ?_⟩)
 refine dO [false, false, false, false] rfl (by kernel_rfl) (bX aIi rfl rfl (vD _ b1 x0 x1 x2 x3 x4 x5 x6 x7 x8 x9 (hx _ (by simp)) (hx _ (by simp)) (M5.ownSeg 0 1)) ?_)
 rintro v6 w6 ⟨rfl, hM6⟩
 have M6 : Mem _ _ [_, _] _ := M5.seg 0 1 hM6
 refine aB (aC ⟨(eQ (bO rfl (aM 0 (.int _ _) bW M6 rfl rfl rfl)) (eQ (bO rfl (aM 0 (.int _ _) bW M6 rfl rfl rfl)) (eQ (bO rfl (aM 0 (.int _ _) bW M6 rfl rfl rfl)) (eQ (bO rfl (aM 0 (.int _ _) bW M6 rfl rfl rfl)) dN)))), ?_⟩)
 refine aY rfl rfl rfl (fun _ => cM [(0, .int _ _), (1, .int _ _), (2, .agg (List.toArray _)), (3, .int _ _), (4, .int _ _), (5, .agg (List.toArray _)), (6, .agg (List.toArray _))] _ oH rfl rfl) (dO [true, true, true, true] rfl (by kernel_rfl) (bB 1 _ bN M6 rfl rfl rfl rfl rfl (aQ rfl) rfl (fun w7 M7 => ?_)))
 refine aB (aC ⟨dN, ?_⟩)
 refine cF (aC (aN (fT 1 bN M7 rfl rfl rfl ?_)))
 exact ⟨rfl, M7.below⟩
set_option maxHeartbeats 8000000 in
theorem aDh (w : World) (A : Option Addr) (n c : Nat) (xs : List Body) (R : Rd w 10 A n (xs.map aF)) (hn : n ≤ 4096) (hc : gQ xs = 0) (hb : ∀ b ∈ xs, InB b) :
  Calls Tryz.prog 67 #[.slice A n c] w (fun ex w' => ∃ v, ex = .returned v ∧ (fun v w' => ∃ q : Row, v = .tuple #[.slice q.A q.n q.c, .int .i64 0] ∧ aX 5 1 q.A q.n q.c ((aFm xs).map bY) q.e ∧ Mem w [] [q.e] w') v w') := by
 have hlen : xs.length = n := by simpa using R.len
 have hbd := R.bound
 refine aH #[.tmp 2, .tmp 3] 38 Tryz.func67 rfl Tryz.results67 Tryz.ntmps67 rfl ?_
 have M0 := Mem.refl w
 refine aD (aA (gB rfl rfl (bI rfl rfl (aB (aC (aD (aD (aA (eF rfl rfl (bX aZf rfl rfl (yS _ _ _ _ xs (R.mem M0)) ?_))))))))))
 rintro v1 w1 ⟨rfl, hb1⟩
 have M1 := M0.callB hb1
 refine bI rfl rfl (aB (aC (aD (aA (aV rfl rfl (cS rfl rfl rfl rfl (uQ 13 rfl (fun h => h hc) (aB (aC ?_)))))))))
 refine cD rfl (aL (aC (aD (aA (cZ [.int _ _, .int _ _, .int _ _, .int _ _] (jE.map bY) rfl kS M1 rfl rfl rfl rfl (dH rfl) (by decide) (fun b2 w2 M2 => ?_))))))
 have hlit15 := jI (T := 5) (b := b2) (jE.map bY) (wZ _) rfl (by decide)
 refine aMe 0 Tryz.underlying57 Tryz.underlying5 M2 rfl rfl rfl rfl hlit15 (by decide) (fun e3 w3 M3 hR3 => (eF rfl rfl (wq (cK Tryz.underlying22 rfl) rfl (wq (bR us3 Tryz.underlying36 rfl (aBg _ (by omega) (by omega))) rfl (bX aRi rfl rfl (aAw _ ⟨(some ⟨b2, 0, none⟩), 4, 4, e3⟩ jE hR3 (n : Int) (by omega) (by first | omega | exact (show 4 ≤ 1048576 by decide)) (M3.ownSeg 0 1)) ?_)))))
 rintro v4 w4 ⟨q0, rfl, hnq0, hq0, hM4⟩
 have M4 : Mem _ _ [_] _ := M3.seg 0 1 hM4
 refine gB rfl rfl (aB (aC (aD (aD (aA (eF rfl rfl (wq (cK Tryz.underlying22 rfl) rfl (aV rfl rfl (aB (aC (aT ?_)))))))))))
 refine dI (σ := Nat × Row) [2, 3, 21, 22] (fun (k, q) => [(5, .slice q.A q.n q.c), (23, .int .i64 (k : Int))]) (fun (k, q) w' => (k ≤ n ∧ q.n = 8 + 40 * k ∧ aX 5 1 q.A q.n q.c (((jE ++ iI (n : Int)) ++ (xs.take k).flatMap sX).map bY) q.e) ∧ Mem w [] [q.e] w') (fun (k, q) => n - k) (0, q0) (bK rfl (bK rfl eV)) (⟨⟨by omega, hnq0, by rw [List.take_zero, List.flatMap_nil, List.append_nil]; exact hq0⟩, M4⟩) ?_
 rintro ⟨k, q⟩ ρ5 w5 ⟨⟨hk, hqn, hq⟩, hM5⟩
 refine aD (aA (cS rfl rfl rfl rfl (aB (aC (aD ?_)))))
 refine aW rfl (fun h24 => ?_) (fun h24 => ?_)
 ·obtain ⟨xb, hxb⟩ := cE (xs := xs) (k := k) hlen (by omega)
  have hxi := aNb (hb xb (List.mem_of_getElem? hxb))
  refine aL (aC (aD (aT (aD (aA (wq (bQ (k) eM rfl rfl rfl ((R.mem hM5).below_len (aJ aF hxb)) ((R.mem hM5).someK (aJ aF hxb))) rfl (wq (dL _ bN (R.mem hM5) (aJ aF hxb) rfl) rfl (aR gG hM5 rfl rfl (fun b6 w6 M6 => (bB 1 _ bN M6 rfl rfl rfl rfl rfl (aQ rfl) rfl (fun w7 M7 => ?_)))))))))))
  refine aB (aC (aD (aA (wq (aZ 1 bN M7 rfl rfl rfl) rfl (bX bBd rfl rfl (aJh _ xb) ?_)))))
  rintro v8 w8 ⟨rfl, hb8⟩
  have M8 := M7.callB hb8
  refine aV rfl rfl (aB (aC (aT (dI (σ := Nat × Row) [2, 3, 21, 22, 23, 28] (fun (j, p) => [(5, .slice p.A p.n p.c), (29, .int .i64 (j : Int))]) (fun (j, p) w' => (j ≤ 10 ∧ p.n = q.n + 4 * j ∧ aX 5 1 p.A p.n p.c (((jE ++ iI (n : Int)) ++ (xs.take k).flatMap sX ++ ((uR xb).take j).flatMap iI).map bY) p.e) ∧ Mem w [] [p.e, (some b6, bc (aF xb) 40)] w') (fun (j, p) => 10 - j) (0, q) (bK rfl (bK rfl eV)) (⟨⟨by omega, by omega, by rw [List.take_zero, List.flatMap_nil, List.append_nil]; exact hq⟩, M8⟩) ?_))))
  rintro ⟨j, p⟩ ρ9 w9 ⟨⟨hj, hpn, hp⟩, hM9⟩
  refine aD (aA (cS rfl rfl rfl rfl (aB (aC (aD ?_)))))
  refine aW rfl (fun h30 => ?_) (fun h30 => ?_)
  ·obtain ⟨x, hx⟩ := cE (xs := uR xb) (k := j) (n := 10) rfl (by omega)
   have hxr := hxi x (List.mem_of_getElem? hx)
   refine aL (aC (aD (aT (aD (aA ?_)))))
   refine wq (tH (j) (.int .u32 x) fF bW rfl rfl (by omega) (by omega) rfl (by rw [kD, List.getElem?_map, hx]; rfl)) rfl ?_
   refine bI rfl rfl (aB (aC (aA (eF rfl rfl (aV rfl rfl (bX aRi rfl rfl (aAw _ p _ hp x hxr (by first | omega | exact (show 4 ≤ 1048576 by decide)) (hM9.ownSeg 0 1)) ?_))))))
   rintro v10 w10 ⟨p2, rfl, hnp2, hp2, hM10⟩
   have M10 : Mem _ _ [_, _] _ := hM9.seg 0 1 hM10
   refine gB rfl rfl (aB (cV (aC (aA (wq (bM rfl rfl (by omega) (by omega)) rfl (aV rfl rfl ?_))))))
   refine aB ?_
   refine cQ (j + 1, p2) (bK rfl (bK rfl eV)) (cU rfl (cU rfl (cU rfl (cU rfl (cU rfl (cU rfl jW)))))) ?_ ?_
   ·exact ⟨⟨by omega, by omega, by rw [aOs hx, ← List.append_assoc]; exact hp2⟩, M10⟩
   ·(show 10 - (j + 1) < 10 - j; omega)
  ·obtain rfl : j = 10 := by omega
   rw [List.take_of_length_le (show (uR xb).length ≤ 10 from Nat.le_refl _)] at hp
   refine cN (cX (cW (eT (cV (aC (aA ?_))))))
   refine wq (bM rfl rfl (by omega) (by omega)) rfl (aV rfl rfl (aB ?_))
   refine cQ (k + 1, p) (bK rfl (bK rfl eV)) (cU rfl (cU rfl (cU rfl (cU rfl jW)))) ?_ ?_
   ·exact ⟨⟨by omega, by omega, by rw [aPp hxb, ← aNc, ← List.append_assoc]; exact hp⟩, hM9.keep [true, false]⟩
   ·(show n - (k + 1) < n - k; omega)
 ·obtain rfl : k = n := by omega
  rw [List.take_of_length_le (by omega), ← hlen] at hq
  refine cN (cX (cW (eT (aC (aD (aA (eF rfl rfl ?_)))))))
  refine gB rfl rfl (bI rfl rfl (aB (aC (aN (iA (.slice _ _ _) (.int _ _) rfl rfl ?_)))))
  exact ⟨q, rfl, hq, hM5⟩
set_option maxHeartbeats 16000000 in
theorem aDe (w : World) (A : Option Addr) (n c : Nat) (ls : List Int) (R : Rd w 1 A n (ls.map bY)) (hB : kP ls) (hcap : n ≤ c) (hn : n ≤ 1048576) :
  Calls Tryz.prog 68 #[.slice A n c] w (fun ex w' => ∃ v, ex = .returned v ∧ (fun v w' => ∃ r : Row, v = .tuple #[.slice r.A r.n r.c, .int .i64 (lN ls).2] ∧ aX 40 10 r.A r.n r.c (((lN ls).1).map aF) r.e ∧ Mem w [] [r.e] w') v w') := by
 have hlen : ls.length = n := by simpa using R.len
 have hbd := R.bound
 refine aH #[.tmp 2, .tmp 3] 58 Tryz.func68 rfl Tryz.results68 Tryz.ntmps68 rfl ?_
 have M0 := Mem.refl w
 refine aD (aA (gB rfl rfl (bI rfl rfl (aB (aC (aD (aD (aA (eF rfl rfl (wq (cK Tryz.underlying57 rfl) rfl ?_))))))))))
 refine cS rfl rfl rfl rfl (wq (aG (.bool (decide _)) rfl) rfl ?_)
 refine dA 13 rfl (fun g13 => ?_) (fun g13 => ?_)
 ·refine aP rfl rfl (aP rfl rfl (aP rfl rfl (aP rfl rfl (wq (bL true (.bool true) rfl rfl) rfl (aB (aC ?_))))))
  refine cO rfl (aD (aA (gB rfl rfl (bI rfl rfl (aB (aC (aN (cC (iA (.slice _ _ _) (.int _ _) rfl rfl ?_)))))))))
  have hd := vZ (l := ls) (fun h => by have := h.1; omega)
  exact ⟨⟨none, 0, 0, (none, default)⟩, by rw [hd], by rw [hd]; exact aX.nil _ _ _, (M0.keep []).dummy default⟩
 ·refine eF rfl rfl (wq (fM (0) (4) kS rfl rfl ⟨_, rfl⟩ (by omega) (by omega) (by omega)) rfl (wq (bAy Tryz.underlying57 Tryz.underlying5 Tryz.underlying9 (Rd.subB (R.mem M0) (0) (4) (by omega) (by omega) hcap) rfl) rfl (wq (aUp rfl rfl) rfl (wq (bL false (.bool (decide _)) rfl rfl) rfl (aB (aC ?_))))))
  refine aW rfl (fun h18 => ?_) (fun h18 => ?_)
  ·refine aD (aA (gB rfl rfl (bI rfl rfl (aB (aC (aN (cC (iA (.slice _ _ _) (.int _ _) rfl rfl ?_))))))))
   have hd := vZ (l := ls) (fun h => ((aLv ((ls.drop 0).take (4 - 0)) (hB.sub 0 4) [66, 73, 76, 49]).1 h18) (by rw [← uA]; simpa using h.2.1))
   exact ⟨⟨none, 0, 0, (none, default)⟩, by rw [hd], by rw [hd]; exact aX.nil _ _ _, (M0.keep []).dummy default⟩
  ·refine aL (aC (aD (aA (eF rfl rfl (wq (fM (4) (((n : Nat) : Int)) kS rfl ⟨_, rfl⟩ rfl (by omega) (by omega) (by omega)) rfl (bX kR rfl rfl (fQ _ _ _ _ ((ls.drop (4)).take (n - (4))) (Rd.subB (R.mem M0) (4) (n) (by omega) (by omega) hcap) (hB.sub _ _) (by omega)) ?_))))))
   rintro v1 w1 ⟨rfl, hb1⟩
   have M1 := M0.callB hb1
   have hr4 := oX hB (a := 4) (by omega)
   obtain ⟨N, hN⟩ : ∃ N : Nat, dZ ls 4 = (N : Int) := ⟨(dZ ls 4).toNat, by omega⟩
   have hNl : N ≤ 4294967295 := by omega
   refine aS 21 (.int .u32 (N : Int)) (iE ((gM (by omega)).trans hN)) (wq (bR qZ Tryz.underlying3 rfl (kC _ (by omega) (by omega))) rfl (bI rfl rfl (aB (aC (aD (aD (aA (eF rfl rfl (wq (cK Tryz.underlying57 rfl) rfl ?_)))))))))
   refine aV rfl rfl (bX lH rfl rfl (fC _ (N : Int) (by omega)) ?_)
   rintro v2 w2 ⟨rfl, hb2⟩
   have M2 := M1.callB hb2
   refine cS rfl rfl rfl rfl (aB (aC ?_))
   refine aW rfl (fun h27 => ?_) (fun h27 => ?_)
   ·refine aD (aA (gB rfl rfl (bI rfl rfl (aB (aC (aN (cC (iA (.slice _ _ _) (.int _ _) rfl rfl ?_))))))))
    have hd := vZ (l := ls) (fun h => h27 (by have := h.2.2; rw [hN] at this; omega))
    exact ⟨⟨none, 0, 0, (none, default)⟩, by rw [hd], by rw [hd]; exact aX.nil _ _ _, (M2.keep []).dummy default⟩
   ·have hfm : aBj ls := ⟨by omega, by have h := Decidable.not_not.1 (mt ((aLv ((ls.drop 0).take (4 - 0)) (hB.sub 0 4) [66, 73, 76, 49]).2) h18); rw [← uA] at h; simpa using h, by rw [hN]; omega⟩
    refine aL (aC (aD (aA (gB rfl rfl ?_))))
    have M3 := M2.dummy default
    refine aB (aC (aD (aD (aA (aV rfl rfl (aV rfl rfl (aB (aC (aT (dI (σ := Nat × Row) [0, 2, 3, 28] (fun (i, q) => [(5, .slice q.A q.n q.c), (29, .int .i64 (i : Int))]) (fun (i, q) w' => (i ≤ N ∧ aX 40 10 q.A q.n q.c ((mH ls i).map aF) q.e) ∧ Mem w [] [q.e] w') (fun (i, q) => N - i) (0, iM) (bK rfl (bK rfl eV)) (⟨⟨by omega, aX.nil _ _ _⟩, M3⟩) ?_))))))))))
    rintro ⟨i, q⟩ ρ4 w4 ⟨⟨hi, hq⟩, hM4⟩
    have hqn : (mH ls i).length = q.n := by simpa using hq.1
    rw [xW] at hqn
    refine aD (aA (cS rfl rfl rfl rfl (aB (aC (aD ?_)))))
    refine aW rfl (fun h30 => ?_) (fun h30 => ?_)
    ·refine aL (aC (aD (aT (aD (aA (aV rfl rfl (bI rfl rfl (aB (aC (aD (aA (aR aDt hM4 rfl rfl (fun b5 w5 M5 => (aB (aC (aD (aD (aA ?_))))))))))))))))))
     refine aV rfl rfl (aB (aC (aT (lE 11 (gX (aD (aA (cS rfl rfl rfl rfl (lC 33 rfl (by first | decide | omega) ?_)))))))))
     refine aB (aC (aD (cO rfl (aL (aC (aD (aT (aD (aA (aV rfl rfl (bI rfl rfl (aB (aC (aA ?_))))))))))))))
     refine aV rfl rfl (eF rfl rfl (aV rfl rfl (bX lH rfl rfl (fC _ (i : Int) (by omega)) ?_)))
     rintro v6 w6 ⟨rfl, hb6⟩
     have M6 := M5.callB hb6
     refine aV rfl rfl (wq (fS rfl rfl (by omega) (by omega)) rfl (wq (bM rfl rfl (by omega) (by omega)) rfl (aS 41 (.int .i64 ((8 + 40 * i : Nat) : Int)) (iE (by omega)) (wq (fM (((8 + 40 * i : Nat) : Int)) (((n : Nat) : Int)) kS rfl ⟨_, rfl⟩ rfl (by omega) (by omega) (by omega)) rfl (bX kR rfl rfl (fQ _ _ _ _ ((ls.drop (8 + 40 * i)).take (n - (8 + 40 * i))) (Rd.subB (R.mem M6) (8 + 40 * i) (n) (by omega) (by omega) hcap) (hB.sub _ _) (by omega)) ?_)))))
     rintro v7 w7 ⟨rfl, hb7⟩
     have M7 := M6.callB hb7
     refine aS 43 (.int .u32 (dZ ls (8 + 40 * i))) (iE (gM (by omega))) (wq (eX (0) fF rfl rfl rfl (by decide)) rfl (dE 1 (.int _ _) bW M7 rfl rfl rfl rfl rfl rfl (fun w8 M8 => (aB (cV (aC (aA ?_)))))))
     refine wq (bM rfl rfl (by first | decide | omega) (by first | decide | omega)) rfl (aS 45 (.int .i64 1) (iE (by first | decide | omega)) (aV rfl rfl (aB (aC (gX (jR (fr := [(0, .slice _ _ _), (2, .slice _ _ _), (3, .int .i64 0), (5, .slice _ _ _), (6, .int _ _), (7, .pointer _), (8, .int .i64 0), (28, .int _ _), (29, .int _ _), (32, .int .i64 1)]) (bK rfl (bK rfl (bK rfl (bK rfl (bK rfl (bK rfl (bK rfl (bK rfl (bK rfl (bK rfl eV)))))))))) (fun ρ9 => ?_)))))))
     refine aD (aA (cS rfl rfl rfl rfl (lC 33 rfl (by first | decide | omega) (aB (aC (aD (cO rfl (aL (aC (aD (aT (aD (aA ?_)))))))))))))
     refine aV rfl rfl (bI rfl rfl (aB (aC (aA (aV rfl rfl (eF rfl rfl (aV rfl rfl ?_)))))))
     refine bX lH rfl rfl (fC _ (i : Int) (by omega)) ?_
     rintro v10 w10 ⟨rfl, hb10⟩
     have M10 := M8.callB hb10
     refine aV rfl rfl (wq (fS rfl rfl (by omega) (by omega)) rfl (wq (bM rfl rfl (by omega) (by omega)) rfl (aS 41 (.int .i64 ((8 + 40 * i + 4 : Nat) : Int)) (iE (by omega)) (wq (fM (((8 + 40 * i + 4 : Nat) : Int)) (((n : Nat) : Int)) kS rfl ⟨_, rfl⟩ rfl (by omega) (by omega) (by omega)) rfl (bX kR rfl rfl (fQ _ _ _ _ ((ls.drop (8 + 40 * i + 4)).take (n - (8 + 40 * i + 4))) (Rd.subB (R.mem M10) (8 + 40 * i + 4) (n) (by omega) (by omega) hcap) (hB.sub _ _) (by omega)) ?_)))))
     rintro v11 w11 ⟨rfl, hb11⟩
     have M11 := M10.callB hb11
     refine aS 43 (.int .u32 (dZ ls (8 + 40 * i + 4))) (iE (gM (by omega))) (wq (eX (1) fF rfl rfl rfl (by decide)) rfl (dE 1 (.int _ _) bW M11 rfl rfl rfl rfl rfl rfl (fun w12 M12 => (aB (cV (aC (aA ?_)))))))
     refine wq (bM rfl rfl (by first | decide | omega) (by first | decide | omega)) rfl (aS 45 (.int .i64 2) (iE (by first | decide | omega)) (aV rfl rfl (aB (aC (gX (jR (fr := [(0, .slice _ _ _), (2, .slice _ _ _), (3, .int .i64 0), (5, .slice _ _ _), (6, .int _ _), (7, .pointer _), (8, .int .i64 1), (28, .int _ _), (29, .int _ _), (32, .int .i64 2)]) (bK rfl (bK rfl (bK rfl (bK rfl (bK rfl (bK rfl (bK rfl (bK rfl (bK rfl (bK rfl eV)))))))))) (fun ρ13 => ?_)))))))
     refine aD (aA (cS rfl rfl rfl rfl (lC 33 rfl (by first | decide | omega) (aB (aC (aD (cO rfl (aL (aC (aD (aT (aD (aA ?_)))))))))))))
     refine aV rfl rfl (bI rfl rfl (aB (aC (aA (aV rfl rfl (eF rfl rfl (aV rfl rfl ?_)))))))
     refine bX lH rfl rfl (fC _ (i : Int) (by omega)) ?_
     rintro v14 w14 ⟨rfl, hb14⟩
     have M14 := M12.callB hb14
     refine aV rfl rfl (wq (fS rfl rfl (by omega) (by omega)) rfl (wq (bM rfl rfl (by omega) (by omega)) rfl (aS 41 (.int .i64 ((8 + 40 * i + 8 : Nat) : Int)) (iE (by omega)) (wq (fM (((8 + 40 * i + 8 : Nat) : Int)) (((n : Nat) : Int)) kS rfl ⟨_, rfl⟩ rfl (by omega) (by omega) (by omega)) rfl (bX kR rfl rfl (fQ _ _ _ _ ((ls.drop (8 + 40 * i + 8)).take (n - (8 + 40 * i + 8))) (Rd.subB (R.mem M14) (8 + 40 * i + 8) (n) (by omega) (by omega) hcap) (hB.sub _ _) (by omega)) ?_)))))
     rintro v15 w15 ⟨rfl, hb15⟩
     have M15 := M14.callB hb15
     refine aS 43 (.int .u32 (dZ ls (8 + 40 * i + 8))) (iE (gM (by omega))) (wq (eX (2) fF rfl rfl rfl (by decide)) rfl (dE 1 (.int _ _) bW M15 rfl rfl rfl rfl rfl rfl (fun w16 M16 => (aB (cV (aC (aA ?_)))))))
     refine wq (bM rfl rfl (by first | decide | omega) (by first | decide | omega)) rfl (aS 45 (.int .i64 3) (iE (by first | decide | omega)) (aV rfl rfl (aB (aC (gX (jR (fr := [(0, .slice _ _ _), (2, .slice _ _ _), (3, .int .i64 0), (5, .slice _ _ _), (6, .int _ _), (7, .pointer _), (8, .int .i64 2), (28, .int _ _), (29, .int _ _), (32, .int .i64 3)]) (bK rfl (bK rfl (bK rfl (bK rfl (bK rfl (bK rfl (bK rfl (bK rfl (bK rfl (bK rfl eV)))))))))) (fun ρ17 => ?_)))))))
     refine aD (aA (cS rfl rfl rfl rfl (lC 33 rfl (by first | decide | omega) (aB (aC (aD (cO rfl (aL (aC (aD (aT (aD (aA ?_)))))))))))))
     refine aV rfl rfl (bI rfl rfl (aB (aC (aA (aV rfl rfl (eF rfl rfl (aV rfl rfl ?_)))))))
     refine bX lH rfl rfl (fC _ (i : Int) (by omega)) ?_
     rintro v18 w18 ⟨rfl, hb18⟩
     have M18 := M16.callB hb18
     refine aV rfl rfl (wq (fS rfl rfl (by omega) (by omega)) rfl (wq (bM rfl rfl (by omega) (by omega)) rfl (aS 41 (.int .i64 ((8 + 40 * i + 12 : Nat) : Int)) (iE (by omega)) (wq (fM (((8 + 40 * i + 12 : Nat) : Int)) (((n : Nat) : Int)) kS rfl ⟨_, rfl⟩ rfl (by omega) (by omega) (by omega)) rfl ?_))))
     refine bX kR rfl rfl (fQ _ _ _ _ ((ls.drop (8 + 40 * i + 12)).take (n - (8 + 40 * i + 12))) (Rd.subB (R.mem M18) (8 + 40 * i + 12) (n) (by omega) (by omega) hcap) (hB.sub _ _) (by omega)) ?_
     rintro v19 w19 ⟨rfl, hb19⟩
     have M19 := M18.callB hb19
     refine aS 43 (.int .u32 (dZ ls (8 + 40 * i + 12))) (iE (gM (by omega))) (wq (eX (3) fF rfl rfl rfl (by decide)) rfl (dE 1 (.int _ _) bW M19 rfl rfl rfl rfl rfl rfl (fun w20 M20 => (aB (cV (aC (aA ?_)))))))
     refine wq (bM rfl rfl (by first | decide | omega) (by first | decide | omega)) rfl (aS 45 (.int .i64 4) (iE (by first | decide | omega)) (aV rfl rfl (aB (aC (gX (jR (fr := [(0, .slice _ _ _), (2, .slice _ _ _), (3, .int .i64 0), (5, .slice _ _ _), (6, .int _ _), (7, .pointer _), (8, .int .i64 3), (28, .int _ _), (29, .int _ _), (32, .int .i64 4)]) (bK rfl (bK rfl (bK rfl (bK rfl (bK rfl (bK rfl (bK rfl (bK rfl (bK rfl (bK rfl eV)))))))))) (fun ρ21 => ?_)))))))
     refine aD (aA (cS rfl rfl rfl rfl (lC 33 rfl (by first | decide | omega) (aB (aC (aD (cO rfl (aL (aC (aD (aT (aD (aA ?_)))))))))))))
     refine aV rfl rfl (bI rfl rfl (aB (aC (aA (aV rfl rfl (eF rfl rfl (aV rfl rfl ?_)))))))
     refine bX lH rfl rfl (fC _ (i : Int) (by omega)) ?_
     rintro v22 w22 ⟨rfl, hb22⟩
     have M22 := M20.callB hb22
     refine aV rfl rfl (wq (fS rfl rfl (by omega) (by omega)) rfl (wq (bM rfl rfl (by omega) (by omega)) rfl (aS 41 (.int .i64 ((8 + 40 * i + 16 : Nat) : Int)) (iE (by omega)) (wq (fM (((8 + 40 * i + 16 : Nat) : Int)) (((n : Nat) : Int)) kS rfl ⟨_, rfl⟩ rfl (by omega) (by omega) (by omega)) rfl ?_))))
     refine bX kR rfl rfl (fQ _ _ _ _ ((ls.drop (8 + 40 * i + 16)).take (n - (8 + 40 * i + 16))) (Rd.subB (R.mem M22) (8 + 40 * i + 16) (n) (by omega) (by omega) hcap) (hB.sub _ _) (by omega)) ?_
     rintro v23 w23 ⟨rfl, hb23⟩
     have M23 := M22.callB hb23
     refine aS 43 (.int .u32 (dZ ls (8 + 40 * i + 16))) (iE (gM (by omega))) (wq (eX (4) fF rfl rfl rfl (by decide)) rfl (dE 1 (.int _ _) bW M23 rfl rfl rfl rfl rfl rfl (fun w24 M24 => (aB (cV (aC (aA ?_)))))))
     refine wq (bM rfl rfl (by first | decide | omega) (by first | decide | omega)) rfl (aS 45 (.int .i64 5) (iE (by first | decide | omega)) (aV rfl rfl (aB (aC (gX (jR (fr := [(0, .slice _ _ _), (2, .slice _ _ _), (3, .int .i64 0), (5, .slice _ _ _), (6, .int _ _), (7, .pointer _), (8, .int .i64 4), (28, .int _ _), (29, .int _ _), (32, .int .i64 5)]) (bK rfl (bK rfl (bK rfl (bK rfl (bK rfl (bK rfl (bK rfl (bK rfl (bK rfl (bK rfl eV)))))))))) (fun ρ25 => ?_)))))))
     refine aD (aA (cS rfl rfl rfl rfl (lC 33 rfl (by first | decide | omega) (aB (aC (aD (cO rfl (aL (aC (aD (aT (aD (aA ?_)))))))))))))
     refine aV rfl rfl (bI rfl rfl (aB (aC (aA (aV rfl rfl (eF rfl rfl (aV rfl rfl ?_)))))))
     refine bX lH rfl rfl (fC _ (i : Int) (by omega)) ?_
     rintro v26 w26 ⟨rfl, hb26⟩
     have M26 := M24.callB hb26
     refine aV rfl rfl (wq (fS rfl rfl (by omega) (by omega)) rfl (wq (bM rfl rfl (by omega) (by omega)) rfl (aS 41 (.int .i64 ((8 + 40 * i + 20 : Nat) : Int)) (iE (by omega)) (wq (fM (((8 + 40 * i + 20 : Nat) : Int)) (((n : Nat) : Int)) kS rfl ⟨_, rfl⟩ rfl (by omega) (by omega) (by omega)) rfl ?_))))
     refine bX kR rfl rfl (fQ _ _ _ _ ((ls.drop (8 + 40 * i + 20)).take (n - (8 + 40 * i + 20))) (Rd.subB (R.mem M26) (8 + 40 * i + 20) (n) (by omega) (by omega) hcap) (hB.sub _ _) (by omega)) ?_
     rintro v27 w27 ⟨rfl, hb27⟩
     have M27 := M26.callB hb27
     refine aS 43 (.int .u32 (dZ ls (8 + 40 * i + 20))) (iE (gM (by omega))) (wq (eX (5) fF rfl rfl rfl (by decide)) rfl (dE 1 (.int _ _) bW M27 rfl rfl rfl rfl rfl rfl (fun w28 M28 => (aB (cV (aC (aA ?_)))))))
     refine wq (bM rfl rfl (by first | decide | omega) (by first | decide | omega)) rfl (aS 45 (.int .i64 6) (iE (by first | decide | omega)) (aV rfl rfl (aB (aC (gX (jR (fr := [(0, .slice _ _ _), (2, .slice _ _ _), (3, .int .i64 0), (5, .slice _ _ _), (6, .int _ _), (7, .pointer _), (8, .int .i64 5), (28, .int _ _), (29, .int _ _), (32, .int .i64 6)]) (bK rfl (bK rfl (bK rfl (bK rfl (bK rfl (bK rfl (bK rfl (bK rfl (bK rfl (bK rfl eV)))))))))) (fun ρ29 => ?_)))))))
     refine aD (aA (cS rfl rfl rfl rfl (lC 33 rfl (by first | decide | omega) (aB (aC (aD (cO rfl (aL (aC (aD (aT (aD (aA ?_)))))))))))))
     refine aV rfl rfl (bI rfl rfl (aB (aC (aA (aV rfl rfl (eF rfl rfl (aV rfl rfl ?_)))))))
     refine bX lH rfl rfl (fC _ (i : Int) (by omega)) ?_
     rintro v30 w30 ⟨rfl, hb30⟩
     have M30 := M28.callB hb30
     refine aV rfl rfl (wq (fS rfl rfl (by omega) (by omega)) rfl (wq (bM rfl rfl (by omega) (by omega)) rfl (aS 41 (.int .i64 ((8 + 40 * i + 24 : Nat) : Int)) (iE (by omega)) (wq (fM (((8 + 40 * i + 24 : Nat) : Int)) (((n : Nat) : Int)) kS rfl ⟨_, rfl⟩ rfl (by omega) (by omega) (by omega)) rfl ?_))))
     refine bX kR rfl rfl (fQ _ _ _ _ ((ls.drop (8 + 40 * i + 24)).take (n - (8 + 40 * i + 24))) (Rd.subB (R.mem M30) (8 + 40 * i + 24) (n) (by omega) (by omega) hcap) (hB.sub _ _) (by omega)) ?_
     rintro v31 w31 ⟨rfl, hb31⟩
     have M31 := M30.callB hb31
     refine aS 43 (.int .u32 (dZ ls (8 + 40 * i + 24))) (iE (gM (by omega))) (wq (eX (6) fF rfl rfl rfl (by decide)) rfl (dE 1 (.int _ _) bW M31 rfl rfl rfl rfl rfl rfl (fun w32 M32 => (aB (cV (aC (aA ?_)))))))
     refine wq (bM rfl rfl (by first | decide | omega) (by first | decide | omega)) rfl (aS 45 (.int .i64 7) (iE (by first | decide | omega)) (aV rfl rfl (aB (aC (gX (jR (fr := [(0, .slice _ _ _), (2, .slice _ _ _), (3, .int .i64 0), (5, .slice _ _ _), (6, .int _ _), (7, .pointer _), (8, .int .i64 6), (28, .int _ _), (29, .int _ _), (32, .int .i64 7)]) (bK rfl (bK rfl (bK rfl (bK rfl (bK rfl (bK rfl (bK rfl (bK rfl (bK rfl (bK rfl eV)))))))))) (fun ρ33 => ?_)))))))
     refine aD (aA (cS rfl rfl rfl rfl (lC 33 rfl (by first | decide | omega) (aB (aC (aD (cO rfl (aL (aC (aD (aT (aD (aA ?_)))))))))))))
     refine aV rfl rfl (bI rfl rfl (aB (aC (aA (aV rfl rfl (eF rfl rfl (aV rfl rfl ?_)))))))
     refine bX lH rfl rfl (fC _ (i : Int) (by omega)) ?_
     rintro v34 w34 ⟨rfl, hb34⟩
     have M34 := M32.callB hb34
     refine aV rfl rfl (wq (fS rfl rfl (by omega) (by omega)) rfl (wq (bM rfl rfl (by omega) (by omega)) rfl (aS 41 (.int .i64 ((8 + 40 * i + 28 : Nat) : Int)) (iE (by omega)) (wq (fM (((8 + 40 * i + 28 : Nat) : Int)) (((n : Nat) : Int)) kS rfl ⟨_, rfl⟩ rfl (by omega) (by omega) (by omega)) rfl ?_))))
     refine bX kR rfl rfl (fQ _ _ _ _ ((ls.drop (8 + 40 * i + 28)).take (n - (8 + 40 * i + 28))) (Rd.subB (R.mem M34) (8 + 40 * i + 28) (n) (by omega) (by omega) hcap) (hB.sub _ _) (by omega)) ?_
     rintro v35 w35 ⟨rfl, hb35⟩
     have M35 := M34.callB hb35
     refine aS 43 (.int .u32 (dZ ls (8 + 40 * i + 28))) (iE (gM (by omega))) (wq (eX (7) fF rfl rfl rfl (by decide)) rfl (dE 1 (.int _ _) bW M35 rfl rfl rfl rfl rfl rfl (fun w36 M36 => (aB (cV (aC (aA ?_)))))))
     refine wq (bM rfl rfl (by first | decide | omega) (by first | decide | omega)) rfl (aS 45 (.int .i64 8) (iE (by first | decide | omega)) (aV rfl rfl (aB (aC (gX (jR (fr := [(0, .slice _ _ _), (2, .slice _ _ _), (3, .int .i64 0), (5, .slice _ _ _), (6, .int _ _), (7, .pointer _), (8, .int .i64 7), (28, .int _ _), (29, .int _ _), (32, .int .i64 8)]) (bK rfl (bK rfl (bK rfl (bK rfl (bK rfl (bK rfl (bK rfl (bK rfl (bK rfl (bK rfl eV)))))))))) (fun ρ37 => ?_)))))))
     refine aD (aA (cS rfl rfl rfl rfl (lC 33 rfl (by first | decide | omega) (aB (aC (aD (cO rfl (aL (aC (aD (aT (aD (aA ?_)))))))))))))
     refine aV rfl rfl (bI rfl rfl (aB (aC (aA (aV rfl rfl (eF rfl rfl (aV rfl rfl ?_)))))))
     refine bX lH rfl rfl (fC _ (i : Int) (by omega)) ?_
     rintro v38 w38 ⟨rfl, hb38⟩
     have M38 := M36.callB hb38
     refine aV rfl rfl (wq (fS rfl rfl (by omega) (by omega)) rfl (wq (bM rfl rfl (by omega) (by omega)) rfl (aS 41 (.int .i64 ((8 + 40 * i + 32 : Nat) : Int)) (iE (by omega)) (wq (fM (((8 + 40 * i + 32 : Nat) : Int)) (((n : Nat) : Int)) kS rfl ⟨_, rfl⟩ rfl (by omega) (by omega) (by omega)) rfl ?_))))
     refine bX kR rfl rfl (fQ _ _ _ _ ((ls.drop (8 + 40 * i + 32)).take (n - (8 + 40 * i + 32))) (Rd.subB (R.mem M38) (8 + 40 * i + 32) (n) (by omega) (by omega) hcap) (hB.sub _ _) (by omega)) ?_
     rintro v39 w39 ⟨rfl, hb39⟩
     have M39 := M38.callB hb39
     refine aS 43 (.int .u32 (dZ ls (8 + 40 * i + 32))) (iE (gM (by omega))) (wq (eX (8) fF rfl rfl rfl (by decide)) rfl (dE 1 (.int _ _) bW M39 rfl rfl rfl rfl rfl rfl (fun w40 M40 => (aB (cV (aC (aA ?_)))))))
     refine wq (bM rfl rfl (by first | decide | omega) (by first | decide | omega)) rfl (aS 45 (.int .i64 9) (iE (by first | decide | omega)) (aV rfl rfl (aB (aC (gX (jR (fr := [(0, .slice _ _ _), (2, .slice _ _ _), (3, .int .i64 0), (5, .slice _ _ _), (6, .int _ _), (7, .pointer _), (8, .int .i64 8), (28, .int _ _), (29, .int _ _), (32, .int .i64 9)]) (bK rfl (bK rfl (bK rfl (bK rfl (bK rfl (bK rfl (bK rfl (bK rfl (bK rfl (bK rfl eV)))))))))) (fun ρ41 => ?_)))))))
     refine aD (aA (cS rfl rfl rfl rfl (lC 33 rfl (by first | decide | omega) (aB (aC (aD (cO rfl (aL (aC (aD (aT (aD (aA ?_)))))))))))))
     refine aV rfl rfl (bI rfl rfl (aB (aC (aA (aV rfl rfl (eF rfl rfl (aV rfl rfl ?_)))))))
     refine bX lH rfl rfl (fC _ (i : Int) (by omega)) ?_
     rintro v42 w42 ⟨rfl, hb42⟩
     have M42 := M40.callB hb42
     refine aV rfl rfl (wq (fS rfl rfl (by omega) (by omega)) rfl (wq (bM rfl rfl (by omega) (by omega)) rfl (aS 41 (.int .i64 ((8 + 40 * i + 36 : Nat) : Int)) (iE (by omega)) (wq (fM (((8 + 40 * i + 36 : Nat) : Int)) (((n : Nat) : Int)) kS rfl ⟨_, rfl⟩ rfl (by omega) (by omega) (by omega)) rfl ?_))))
     refine bX kR rfl rfl (fQ _ _ _ _ ((ls.drop (8 + 40 * i + 36)).take (n - (8 + 40 * i + 36))) (Rd.subB (R.mem M42) (8 + 40 * i + 36) (n) (by omega) (by omega) hcap) (hB.sub _ _) (by omega)) ?_
     rintro v43 w43 ⟨rfl, hb43⟩
     have M43 := M42.callB hb43
     refine aS 43 (.int .u32 (dZ ls (8 + 40 * i + 36))) (iE (gM (by omega))) (wq (eX (9) fF rfl rfl rfl (by decide)) rfl (dE 1 (.int _ _) bW M43 rfl rfl rfl rfl rfl rfl (fun w44 M44 => (aB (cV (aC (aA ?_)))))))
     refine wq (bM rfl rfl (by first | decide | omega) (by first | decide | omega)) rfl (aS 45 (.int .i64 10) (iE (by first | decide | omega)) (aV rfl rfl (aB (aC (gX (jR (fr := [(0, .slice _ _ _), (2, .slice _ _ _), (3, .int .i64 0), (5, .slice _ _ _), (6, .int _ _), (7, .pointer _), (8, .int .i64 9), (28, .int _ _), (29, .int _ _), (32, .int .i64 10)]) (bK rfl (bK rfl (bK rfl (bK rfl (bK rfl (bK rfl (bK rfl (bK rfl (bK rfl (bK rfl eV)))))))))) (fun ρ45 => ?_)))))))
     refine aD (aA (cS rfl rfl rfl rfl (uQ 33 rfl (by first | decide | omega) (aB (aC (aD (cD rfl (cN ?_))))))))
     refine cX (cX (eT (aC (aA (eF rfl rfl (wq (aZ 1 aIs M44 rfl rfl rfl) rfl (bX bAd rfl rfl (aDq _ _ _ _ _ _ _ _ _ _ _ (bDv hB (a := 8 + 40 * i) (by omega))) ?_)))))))
     rintro v46 w46 ⟨rfl, hb46⟩
     have M46 := M44.callB hb46
     refine aS 48 ((.agg (aF (oW ls (8 + 40 * i))).toArray)) rfl (cZ [.agg (List.toArray _)] [aF (oW ls (8 + 40 * i))] rfl eM M46 rfl rfl rfl rfl (dH rfl) (by decide) (fun b47 w47 M47 => (eG 0 [aF (oW ls (8 + 40 * i))] eM M47 rfl rfl rfl rfl rfl hq rfl (by simp [aF, Go.Bil.one]) (dB.ofMem 2 M47 rfl) (by omega) (fun A48 c48 e48 w48 M48 hR48 => ?_))))
     refine gB rfl rfl (aB (cV (aC (aA (wq (bM rfl rfl (by omega) (by omega)) rfl (aV rfl rfl ?_))))))
     refine aB ?_
     refine cQ (i + 1, ⟨A48, q.n + 1, c48, e48⟩) (bK rfl (bK rfl eV)) (cU rfl (cU rfl (cU rfl (cU rfl jW)))) ?_ ?_
     ·exact ⟨⟨by omega, by rw [aMk, List.map_append]; exact hR48⟩, M48.keep [true, false, false]⟩
     ·(show N - (i + 1) < N - i; omega)
    ·obtain rfl : i = N := by omega
     refine cN (cX (cW (eT (aC (aD (aD (aA (eF rfl rfl ?_))))))))
     refine bX aZf rfl rfl (yS _ _ _ _ (mH ls i) (hq.rd hM4 (bC (i := 0) rfl))) ?_
     rintro v49 w49 ⟨rfl, hb49⟩
     have M49 := hM4.callB hb49
     refine bI rfl rfl (aB (aC (aD (aA (aV rfl rfl (cS rfl rfl rfl rfl (aB (aC ?_))))))))
     refine aW rfl (fun h55 => ?_) (fun h55 => ?_)
     ·refine aD (aA (aV rfl rfl (gB rfl rfl (bI rfl rfl (aB (aC (aN (cC (iA (.slice _ _ _) (.int _ _) rfl rfl ?_)))))))))
      have hd := aWy hfm hN h55
      exact ⟨⟨none, 0, 0, (none, default)⟩, by rw [hd], by rw [hd]; exact aX.nil _ _ _, (M49.keep [false]).dummy default⟩
     ·refine aL (aC (aD (aA (eF rfl rfl (gB rfl rfl (bI rfl rfl (aB (aC (aN (iA (.slice _ _ _) (.int _ _) rfl rfl ?_))))))))))
      have hd := aRf hfm hN (Decidable.not_not.1 h55)
      exact ⟨q, by rw [hd], by rw [hd]; exact hq, M49⟩
set_option maxHeartbeats 4000000 in
theorem qU (w : World) (A : Option Addr) (n c : Nat) (xs : List Int) (R : Rd w 1 A n (xs.map bY)) (B : Option Addr) (m c' : Nat) (ys : List Int) (R' : Rd w 1 B m (ys.map bY)) :
  Calls Tryz.prog 33 #[.slice A n c, .slice B m c'] w (fun ex w' => ∃ v, ex = .returned v ∧ (fun v w' => v = .bool (decide (xs = ys)) ∧ Below w.heap.size w w') v w') := by
 have hlen : xs.length = n := by simpa using R.len
 have hlen' : ys.length = m := by simpa using R'.len
 have hbd := R.bound
 have hbd' := R'.bound
 refine aH #[.tmp 4] 26 Tryz.func33 rfl Tryz.results33 Tryz.ntmps33 rfl ?_
 have M0 := Mem.refl w
 refine aD (aA (wq (aI (.bool false) rfl) rfl (aB (aC (aD (aD (aA (eF rfl rfl (wq (cK Tryz.underlying57 rfl) rfl (eF rfl rfl ?_))))))))))
 refine wq (cK Tryz.underlying57 rfl) rfl (cS rfl rfl rfl rfl (aB (aC ?_)))
 refine aW rfl (fun h10 => ?_) (fun h10 => ?_)
 ·refine aD (aA (wq (aI (.bool false) rfl) rfl (aB (aC (aN (cC (cA (.bool false) rfl ?_)))))))
  exact ⟨bF (fun e => h10 (by rw [← hlen, ← hlen', e])), M0.below⟩
 ·have hnm : n = m := by omega
  refine aL (aC (aD (aD (aA (bI rfl rfl (aB (aC (aT (dI (σ := Nat) [0, 1] (fun k => [(5, .int .i64 (k : Int))]) (fun k w' => (k ≤ n ∧ ∀ (j : Nat) (x : Int), j < k → xs[j]? = some x → ys[j]? = some x) ∧ Mem w [] [] w') (fun k => n - k) 0 (bK rfl eV) (⟨⟨by omega, fun j c hj => by omega⟩, M0⟩) ?_)))))))))
  rintro k ρ1 w1 ⟨⟨hk, hne⟩, hM1⟩
  refine aD (aD (aA (aV rfl rfl (eF rfl rfl (wq (cK Tryz.underlying57 rfl) rfl (cS rfl rfl rfl rfl (aB (aC ?_))))))))
  refine aW rfl (fun h14 => ?_) (fun h14 => ?_)
  ·obtain ⟨xb, hxb⟩ := cE (xs := xs) (k := k) hlen (by omega)
   obtain ⟨yb, hyb⟩ := cE (xs := ys) (k := k) hlen' (by omega)
   refine aL (aC (aD (aT (aD (bS [(0, 0), (1, 0), (2, 1), (3, 1), (4, 0), (5, 0), (6, 1), (7, 1), (8, 0)] mixed rfl (by kernel_rfl) (fun w2 hb2 hh2 => ?_))))))
   have M2 := hM1.drew hb2 hh2
   refine vY rfl rfl rfl (gD rfl rfl rfl (cB rfl rfl rfl (bQ (k) kS rfl rfl rfl ((R.mem M2).below_len (aJ bY hxb)) ((R.mem M2).someK (aJ bY hxb))) (cB rfl rfl rfl (gU (.int _ _) aNw (R.mem M2) (aJ bY hxb) rfl) (vY rfl rfl rfl (gD rfl rfl rfl ?_)))))
   refine cB rfl rfl rfl (bQ (k) kS rfl rfl rfl ((R'.mem M2).below_len (aJ bY hyb)) ((R'.mem M2).someK (aJ bY hyb))) (cB rfl rfl rfl (gU (.int _ _) aNw (R'.mem M2) (aJ bY hyb) rfl) (aY rfl rfl rfl (fun _ => dV (.bool (decide _)) rfl rfl rfl) (cF (aC ?_))))
   refine aW rfl (fun h25 => ?_) (fun h25 => ?_)
   ·refine aD (aA (wq (aI (.bool false) rfl) rfl (aB (aC (aN (gZ (cC (nL ?_))))))))
    refine gZ (cC (cA (.bool false) rfl ?_))
    exact ⟨bF (fun e => h25 (by rw [e] at hxb; rw [hxb] at hyb; injection hyb)), M2.below⟩
   ·refine aL (cV (aC (aA (aV rfl rfl (wq (bM rfl rfl (by omega) (by omega)) rfl (bI rfl rfl ?_))))))
    refine aB ?_
    refine cQ (k + 1) (bK rfl eV) (cU rfl (cU rfl jW)) ?_ ?_
    ·exact ⟨⟨by omega, nI (p := fun j x => ys[j]? = some x) hne hxb (by rw [hyb, Decidable.not_not.1 h25])⟩, M2⟩
    ·omega
  ·refine cN (cX (cW (eT (aC (aD (aA (wq (aI (.bool true) rfl) rfl ?_)))))))
   refine aB (aC (aN (cA (.bool true) rfl ?_)))
   exact ⟨bT (aUh hlen hlen' hnm (fun j x hj hx => hne j x (by omega) hx)), hM1.below⟩
end Go.Proofs.YtlmcphcgiclanaaGreatDoor
