/- Part of the proof of the laws of this seat: R6b. No conditions. -/
import Derived.Test.YtlmcphcgiclanaaGreatDoorK2
import Derived.Test.YtlmcphcgiclanaaGreatDoorK5
import Derived.Test.YtlmcphcgiclanaaGreatDoorK6
set_option linter.unusedVariables false
set_option linter.unusedSimpArgs false
set_option linter.unnecessarySimpa false
namespace Go.Proofs.YtlmcphcgiclanaaGreatDoor
open Go.Bil
open Go.RowKit (Below)
open Go.Proofs
set_option maxHeartbeats 4000000 in
theorem aTk (w : World) (A : Option Addr) (n c : Nat) (er : fF) (s : List Body) (hr : bH 40 10 A n c (s.map aF) er) (hO : Own [er] w) (b : Body) (hn : s.length ≤ 1048576) :
  Calls Tryz.prog 59 #[.slice A n c, (.agg (aF b).toArray)] w (fun ex w' => ∃ v, ex = .returned v ∧ (fun v w' => ∃ A' n' c' e', v = .tuple #[.slice A' n' c', .int .i64 (pH s b).2] ∧ bH 40 10 A' n' c' ((pH s b).1.map aF) e' ∧ Mem w (cY [er]) [e'] w') v w') := by
 have hlen : s.length = n := by simpa using hr.1
 refine aI #[.tmp 4, .tmp 5] 26 Tryz.func59 rfl Tryz.results59 Tryz.ntmps59 rfl ?_
 have M0 := hO.mem
 refine aE (aA (bP (.agg (List.toArray _)) M0 rfl rfl rfl (fun b1 w1 M1 => (eN rfl rfl (bC rfl rfl (aB (aC (aE (aA (wq (aU 1 bK M1 rfl rfl rfl) rfl ?_))))))))))
 refine bZ bFu rfl rfl (yU _ b) ?_
 rintro v2 w2 ⟨rfl, hb2⟩
 have M2 := M1.callB hb2
 refine bC rfl rfl (aB (aC (aE (aE (aA (aO rfl rfl (cX rfl rfl rfl rfl (aB (aC ?_)))))))))
 refine aS rfl (fun h10 => ?_) (fun h10 => ?_)
 ·refine aE (aA (dN rfl rfl (aO rfl rfl (eN rfl rfl (bC rfl rfl (aB (aC (aP (cH ?_)))))))))
  refine gA (.slice _ _ _) (.int _ _) rfl rfl ?_
  have ha : pH s b = (s, check b) := by unfold pH; rw [if_pos h10]
  exact ⟨_, _, _, _, by rw [ha], by rw [ha]; exact hr, M2.keep [true, false]⟩
 ·refine aL (aC (aE (aE (aA (dN rfl rfl (wq (aD 0 dH rfl) rfl (wq (aM 1 (.int _ _) bU M2 rfl rfl rfl) rfl (bZ rA rfl rfl (gM _ b.key _ _ _ s (hr.rd M2 (bJ (i := 0) rfl))) ?_))))))))
  rintro v3 w3 ⟨rfl, hb3⟩
  have M3 := M2.callB hb3
  refine cX rfl rfl rfl rfl (aB (aC ?_))
  refine aS rfl (fun h17 => ?_) (fun h17 => ?_)
  ·refine aE (aA (dN rfl rfl (eN rfl rfl (bC rfl rfl (aB (aC (aP (cH (gA (.slice _ _ _) (.int _ _) rfl rfl ?_)))))))))
   have ha : pH s b = (s, 10) := by unfold pH; rw [if_neg h10, if_pos (by omega)]
   exact ⟨_, _, _, _, by rw [ha], by rw [ha]; exact hr, M3.keep [true, false]⟩
  ·refine aL (aC (aE (aE (aA (dN rfl rfl (wq (dB Tryz.underlying22 rfl) rfl (cX rfl rfl rfl rfl (aB (aC ?_)))))))))
   refine aS rfl (fun h21 => ?_) (fun h21 => ?_)
   ·refine aE (aA (dN rfl rfl (eN rfl rfl (bC rfl rfl (aB (aC (aP (cH (gA (.slice _ _ _) (.int _ _) rfl rfl ?_)))))))))
    have ha : pH s b = (s, 12) := by unfold pH; rw [if_neg h10, if_neg (by omega), if_pos (by omega)]
    exact ⟨_, _, _, _, by rw [ha], by rw [ha]; exact hr, M3.keep [true, false]⟩
   ·refine aL (aC (aE (aA (dN rfl rfl (wq (aU 1 bK M3 rfl rfl rfl) rfl (bZ aQg rfl rfl (tG _ b false _ _ _ s (hr.rd M3 (bJ (i := 0) rfl)) (by omega)) ?_))))))
    rintro v4 w4 ⟨A4, n4, c4, e4, rfl, hR4, hM4⟩
    have M4 : Mem _ _ [_, _, _] _ := M3.call0 hM4
    refine eN rfl rfl (bC rfl rfl (aB (aC (aP (gA (.slice _ _ _) (.int _ _) rfl rfl ?_)))))
    have ha : pH s b = (uL s b false, 0) := by unfold pH; rw [if_neg h10, if_neg (by omega), if_neg (by omega)]
    exact ⟨_, _, _, _, by rw [ha], by rw [ha]; exact hR4, M4.keep [false, false, true]⟩
set_option maxHeartbeats 4000000 in
theorem aIt (w : World) (A : Option Addr) (n c : Nat) (er : fF) (s : List Body) (hr : bH 40 10 A n c (s.map aF) er) (hO : Own [er] w) (key : Int) (hn : s.length ≤ 1048576) :
  Calls Tryz.prog 60 #[.slice A n c, .int .u32 key] w (fun ex w' => ∃ v, ex = .returned v ∧ (fun v w' => ∃ A' n' c' e', v = .tuple #[.slice A' n' c', .int .i64 (iV s key).2] ∧ bH 40 10 A' n' c' ((iV s key).1.map aF) e' ∧ Mem w (cY [er]) [e'] w') v w') := by
 have hlen : s.length = n := by simpa using hr.1
 refine aI #[.tmp 4, .tmp 5] 15 Tryz.func60 rfl Tryz.results60 Tryz.ntmps60 rfl ?_
 have M0 := hO.mem
 refine aE (aA (eN rfl rfl (bC rfl rfl (aB (aC (aE (aE (aA (dN rfl rfl (aO rfl rfl ?_))))))))))
 refine bZ rA rfl rfl (gM _ key _ _ _ s (hr.rd M0 (bJ (i := 0) rfl))) ?_
 rintro v1 w1 ⟨rfl, hb1⟩
 have M1 := M0.callB hb1
 refine cX rfl rfl rfl rfl (aB (aC ?_))
 refine aS rfl (fun h9 => ?_) (fun h9 => ?_)
 ·refine aE (aA (dN rfl rfl (eN rfl rfl (bC rfl rfl (aB (aC (aP (cH (gA (.slice _ _ _) (.int _ _) rfl rfl ?_)))))))))
  have ha : iV s key = (s, 11) := by unfold iV; rw [if_pos h9]
  exact ⟨_, _, _, _, by rw [ha], by rw [ha]; exact hr, M1.keep [true]⟩
 ·refine aL (aC (aE (aA (dN rfl rfl (aO rfl rfl (wq (cP [(0, .int _ _)] _ nT rfl rfl) rfl (bZ aQg rfl rfl (tG _ (oP key) true _ _ _ s (hr.rd M1 (bJ (i := 0) rfl)) (by omega)) ?_)))))))
  rintro v2 w2 ⟨A2, n2, c2, e2, rfl, hR2, hM2⟩
  have M2 : Mem _ _ [_, _] _ := M1.call0 hM2
  refine eN rfl rfl (bC rfl rfl (aB (aC (aP (gA (.slice _ _ _) (.int _ _) rfl rfl ?_)))))
  have ha : iV s key = (uL s (oP key) true, 0) := by unfold iV; rw [if_neg h9]
  exact ⟨_, _, _, _, by rw [ha], by rw [ha]; exact hR2, M2.keep [false, true]⟩
end Go.Proofs.YtlmcphcgiclanaaGreatDoor
