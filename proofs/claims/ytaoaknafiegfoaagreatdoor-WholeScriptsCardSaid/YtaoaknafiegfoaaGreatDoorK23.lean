/- Part of the proof of the laws of this seat: R6b. No conditions. -/
import Derived.Test.YtaoaknafiegfoaaGreatDoorK2
import Derived.Test.YtaoaknafiegfoaaGreatDoorK5
import Derived.Test.YtaoaknafiegfoaaGreatDoorK6
set_option linter.unusedVariables false
set_option linter.unusedSimpArgs false
set_option linter.unnecessarySimpa false
namespace Go.Proofs.YtaoaknafiegfoaaGreatDoor
open Go.Bil
open Go.RowKit (Below)
open Go.Proofs
set_option maxHeartbeats 4000000 in
theorem aWi (w : World) (A : Option Addr) (n c : Nat) (er : eZ) (s : List Body) (hr : bC 39 10 A n c (s.map aF) er) (hO : Own [er] w) (b : Body) (hn : s.length ≤ 1048576) :
  Calls Tryz.prog 94 #[.slice A n c, (.agg (aF b).toArray)] w (fun ex w' => ∃ v, ex = .returned v ∧ (fun v w' => ∃ A' n' c' e', v = .tuple #[.slice A' n' c', .int .i64 (mP s b).2] ∧ bC 39 10 A' n' c' ((mP s b).1.map aF) e' ∧ Mem w (cE [er]) [e'] w') v w') := by
 have hlen : s.length = n := by simpa using hr.1
 refine aI #[.tmp 4, .tmp 5] 26 Tryz.func94 rfl Tryz.results94 Tryz.ntmps94 rfl ?_
 have M0 := hO.mem
 refine aE (aA (bK (.agg (List.toArray _)) M0 rfl rfl rfl (fun b1 w1 M1 => (eM rfl rfl (bI rfl rfl (aB (aC (aE (aA (wq (aX 1 bO M1 rfl rfl rfl) rfl ?_))))))))))
 refine bY bKi rfl rfl (aAd _ b) ?_
 rintro v2 w2 ⟨rfl, hb2⟩
 have M2 := M1.callB hb2
 refine bI rfl rfl (aB (aC (aE (aE (aA (aP rfl rfl (cZ rfl rfl rfl rfl (aB (aC ?_)))))))))
 refine aW rfl (fun h10 => ?_) (fun h10 => ?_)
 ·refine aE (aA (dO rfl rfl (aP rfl rfl (eM rfl rfl (bI rfl rfl (aB (aC (aO (cM ?_)))))))))
  refine gA (.slice _ _ _) (.int _ _) rfl rfl ?_
  have ha : mP s b = (s, check b) := by unfold mP; rw [if_pos h10]
  exact ⟨_, _, _, _, by rw [ha], by rw [ha]; exact hr, M2.keep [true, false]⟩
 ·refine aL (aC (aE (aE (aA (dO rfl rfl (wq (aD 0 dL rfl) rfl (wq (aM 1 (.int _ _) bW M2 rfl rfl rfl) rfl (bY sI rfl rfl (gS _ b.key _ _ _ s (hr.rd M2 (bH (i := 0) rfl))) ?_))))))))
  rintro v3 w3 ⟨rfl, hb3⟩
  have M3 := M2.callB hb3
  refine cZ rfl rfl rfl rfl (aB (aC ?_))
  refine aW rfl (fun h17 => ?_) (fun h17 => ?_)
  ·refine aE (aA (dO rfl rfl (eM rfl rfl (bI rfl rfl (aB (aC (aO (cM (gA (.slice _ _ _) (.int _ _) rfl rfl ?_)))))))))
   have ha : mP s b = (s, 10) := by unfold mP; rw [if_neg h10, if_pos (by omega)]
   exact ⟨_, _, _, _, by rw [ha], by rw [ha]; exact hr, M3.keep [true, false]⟩
  ·refine aL (aC (aE (aE (aA (dO rfl rfl (wq (dC Tryz.underlying29 rfl) rfl (cZ rfl rfl rfl rfl (aB (aC ?_)))))))))
   refine aW rfl (fun h21 => ?_) (fun h21 => ?_)
   ·refine aE (aA (dO rfl rfl (eM rfl rfl (bI rfl rfl (aB (aC (aO (cM (gA (.slice _ _ _) (.int _ _) rfl rfl ?_)))))))))
    have ha : mP s b = (s, 12) := by unfold mP; rw [if_neg h10, if_neg (by omega), if_pos (by omega)]
    exact ⟨_, _, _, _, by rw [ha], by rw [ha]; exact hr, M3.keep [true, false]⟩
   ·refine aL (aC (aE (aA (dO rfl rfl (wq (aX 1 bO M3 rfl rfl rfl) rfl (bY aJi rfl rfl (uC _ b false _ _ _ s (hr.rd M3 (bH (i := 0) rfl)) (by omega)) ?_))))))
    rintro v4 w4 ⟨A4, n4, c4, e4, rfl, hR4, hM4⟩
    have M4 : Mem _ _ [_, _, _] _ := M3.call0 hM4
    refine eM rfl rfl (bI rfl rfl (aB (aC (aO (gA (.slice _ _ _) (.int _ _) rfl rfl ?_)))))
    have ha : mP s b = (vT s b false, 0) := by unfold mP; rw [if_neg h10, if_neg (by omega), if_neg (by omega)]
    exact ⟨_, _, _, _, by rw [ha], by rw [ha]; exact hR4, M4.keep [false, false, true]⟩
set_option maxHeartbeats 4000000 in
theorem aKx (w : World) (A : Option Addr) (n c : Nat) (er : eZ) (s : List Body) (hr : bC 39 10 A n c (s.map aF) er) (hO : Own [er] w) (key : Int) (hn : s.length ≤ 1048576) :
  Calls Tryz.prog 95 #[.slice A n c, .int .u32 key] w (fun ex w' => ∃ v, ex = .returned v ∧ (fun v w' => ∃ A' n' c' e', v = .tuple #[.slice A' n' c', .int .i64 (gQ s key).2] ∧ bC 39 10 A' n' c' ((gQ s key).1.map aF) e' ∧ Mem w (cE [er]) [e'] w') v w') := by
 have hlen : s.length = n := by simpa using hr.1
 refine aI #[.tmp 4, .tmp 5] 15 Tryz.func95 rfl Tryz.results95 Tryz.ntmps95 rfl ?_
 have M0 := hO.mem
 refine aE (aA (eM rfl rfl (bI rfl rfl (aB (aC (aE (aE (aA (dO rfl rfl (aP rfl rfl ?_))))))))))
 refine bY sI rfl rfl (gS _ key _ _ _ s (hr.rd M0 (bH (i := 0) rfl))) ?_
 rintro v1 w1 ⟨rfl, hb1⟩
 have M1 := M0.callB hb1
 refine cZ rfl rfl rfl rfl (aB (aC ?_))
 refine aW rfl (fun h9 => ?_) (fun h9 => ?_)
 ·refine aE (aA (dO rfl rfl (eM rfl rfl (bI rfl rfl (aB (aC (aO (cM (gA (.slice _ _ _) (.int _ _) rfl rfl ?_)))))))))
  have ha : gQ s key = (s, 11) := by unfold gQ; rw [if_pos h9]
  exact ⟨_, _, _, _, by rw [ha], by rw [ha]; exact hr, M1.keep [true]⟩
 ·refine aL (aC (aE (aA (dO rfl rfl (aP rfl rfl (wq (cC [(0, .int _ _)] _ sT rfl rfl) rfl (bY aJi rfl rfl (uC _ (pV key) true _ _ _ s (hr.rd M1 (bH (i := 0) rfl)) (by omega)) ?_)))))))
  rintro v2 w2 ⟨A2, n2, c2, e2, rfl, hR2, hM2⟩
  have M2 : Mem _ _ [_, _] _ := M1.call0 hM2
  refine eM rfl rfl (bI rfl rfl (aB (aC (aO (gA (.slice _ _ _) (.int _ _) rfl rfl ?_)))))
  have ha : gQ s key = (vT s (pV key) true, 0) := by unfold gQ; rw [if_neg h9]
  exact ⟨_, _, _, _, by rw [ha], by rw [ha]; exact hR2, M2.keep [false, true]⟩
end Go.Proofs.YtaoaknafiegfoaaGreatDoor
