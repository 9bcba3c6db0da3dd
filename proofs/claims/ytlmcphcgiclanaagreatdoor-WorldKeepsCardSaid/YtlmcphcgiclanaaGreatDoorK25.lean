/- Part of the proof of the laws of this seat: B8, C9, G10. No conditions. -/
import Derived.Test.YtlmcphcgiclanaaGreatDoorK5
import Derived.Test.YtlmcphcgiclanaaGreatDoorK6
import Derived.Test.YtlmcphcgiclanaaGreatDoorK11
import Derived.Test.YtlmcphcgiclanaaGreatDoorK15
set_option linter.unusedVariables false
set_option linter.unusedSimpArgs false
set_option linter.unnecessarySimpa false
namespace Go.Proofs.YtlmcphcgiclanaaGreatDoor
open Go.Bil
open Go.RowKit (Below)
open Go.Proofs
set_option maxHeartbeats 4000000 in
theorem aFg (w : World) (x : Int) (h0 : -2147483647 ≤ x) (h1 : x ≤ 2147483647) :
    Calls Tryz.prog 215 #[.int .i32 x] w (fun ex w' => ∃ v, ex = .returned v ∧ (fun v w' => v = .int .i32 (max x (-x)) ∧ Below w.heap.size w w') v w') := by
  refine aJ #[.tmp 2] 7 Tryz.func215 rfl Tryz.results215 Tryz.ntmps215 rfl ?_
  have M0 := Mem.refl w
  refine aG (aB ?_)
  refine aA (aE (.int _ _) rfl) rfl rfl ?_
  refine aC (aF (aG (aB ?_)))
  refine aA (aD (.int _ _) rfl) rfl rfl ?_
  refine aA (aD (.int _ _) rfl) rfl rfl ?_
  refine aA (aHp rfl (kY _ (by omega) (by omega))) rfl rfl ?_
  refine aA (nE rfl rfl ) rfl rfl ?_
  refine aA (aE (.int _ _) rfl) rfl rfl ?_
  refine aC (aF (aR ?_))
  refine bY (.int _ _) rfl ?_
  exact ⟨iE (by omega), M0.below⟩
set_option maxHeartbeats 4000000 in
theorem aFz (w : World) (b : Body) (hb : Okb b) :
    Calls Tryz.prog 190 #[(.agg (aI b).toArray)] w (fun ex w' => ∃ v, ex = .returned v ∧ (fun v w' => v = .tuple #[.int .i32 (aMn b), .int .i32 (aNu b)] ∧ Below w.heap.size w w') v w') := by
  have hr := hb.r
  have ha := hb.a
  have hp := hb.p
  refine aJ #[.tmp 2, .tmp 3] 18 Tryz.func190 rfl Tryz.results190 Tryz.ntmps190 rfl ?_
  have M0 := Mem.refl w
  refine aG (aB ?_)
  refine bL (.agg (List.toArray _)) M0 rfl rfl rfl (fun b1 w1 M1 => ?_)
  refine aA (aE (.int _ _) rfl) rfl rfl ?_
  refine aA (aE (.int _ _) rfl) rfl rfl ?_
  refine aC (aF (aG ?_))
  refine bS [(0, 0), (1, 0), (2, 1), (4, 0), (5, 1), (7, 0), (8, 0), (9, 1), (11, 0), (12, 1), (3, 2), (6, 0), (10, 2), (13, 0), (14, 0), (15, 0)] mixed rfl (by kernel_rfl) (fun w2 hb2 hh2 => ?_)
  have M2 := M1.drew hb2 hh2
  refine aU rfl rfl rfl (fun _ => aH 2 iU rfl) ?_
  refine aU rfl rfl rfl (fun _ => aH 0 dG rfl) ?_
  refine cB rfl rfl rfl (aQ 0 (.int _ _) aX M2 rfl rfl rfl) ?_
  refine aU rfl rfl rfl (fun _ => aH 1 jM rfl) ?_
  refine cB rfl rfl rfl (aQ 0 (.int _ _) aX M2 rfl rfl rfl) ?_
  refine aU rfl rfl rfl (fun _ => aH 2 iU rfl) ?_
  refine aU rfl rfl rfl (fun _ => aH 1 dC rfl) ?_
  refine cB rfl rfl rfl (aQ 0 (.int _ _) aX M2 rfl rfl rfl) ?_
  refine aU rfl rfl rfl (fun _ => aH 1 jM rfl) ?_
  refine cB rfl rfl rfl (aQ 0 (.int _ _) aX M2 rfl rfl rfl) ?_
  refine dU [false, false, false, true] rfl (by kernel_rfl) ?_
  refine aK aSp rfl rfl rfl ?_
  refine (aFg _ _ (by omega) (by omega)).mono ?_
  rintro _ w3 ⟨v3, rfl, ⟨rfl, hb3⟩⟩
  refine ⟨_, rfl, ?_⟩
  have M3 := M2.callB hb3
  refine aC (aF ⟨(eS (bQ rfl (aQ 0 (.int _ _) aX M3 rfl rfl rfl)) (eS (bQ rfl (aQ 0 (.int _ _) aX M3 rfl rfl rfl)) (eS (bQ rfl (aQ 0 (.int _ _) aX M3 rfl rfl rfl)) dV))), ?_⟩)
  refine aU rfl rfl rfl (fun _ => iA rfl rfl (kY _ (by omega) (by omega))) ?_
  refine dU [false, true, false] rfl (by kernel_rfl) ?_
  refine aK aSp rfl rfl rfl ?_
  refine (aFg _ _ (by omega) (by omega)).mono ?_
  rintro _ w4 ⟨v4, rfl, ⟨rfl, hb4⟩⟩
  refine ⟨_, rfl, ?_⟩
  have M4 := M3.callB hb4
  refine aC (aF ⟨(eS (bQ rfl (aQ 0 (.int _ _) aX M4 rfl rfl rfl)) (eS (bQ rfl (aQ 0 (.int _ _) aX M4 rfl rfl rfl)) dV)), ?_⟩)
  refine aU rfl rfl rfl (fun _ => iA rfl rfl (kY _ (by omega) (by omega))) ?_
  refine aU rfl rfl rfl (fun _ => aE (.int _ _) rfl) ?_
  refine aU rfl rfl rfl (fun _ => aE (.int _ _) rfl) ?_
  refine cF ?_
  refine aF (aR ?_)
  refine fZ (.int _ _) (.int _ _) rfl rfl ?_
  exact ⟨rfl, M4.below⟩
set_option maxHeartbeats 4000000 in
theorem bBu (w : World) (b : Body) (hb : Okb b) :
    Calls Tryz.prog 160 #[(.agg (aI b).toArray)] w (fun ex w' => ∃ v, ex = .returned v ∧ (fun v w' => v = (.agg (dI (gY b)).toArray) ∧ Below w.heap.size w w') v w') := by
  have hr := hb.r
  have ha := hb.a
  have hp := hb.p
  have he := aSj hb
  refine aJ #[.cell 2 193] 31 Tryz.func160 rfl Tryz.results160 Tryz.ntmps160 rfl ?_
  have M0 := Mem.refl w
  refine aG (aB ?_)
  refine bL (.agg (List.toArray _)) M0 rfl rfl rfl (fun b1 w1 M1 => ?_)
  refine aW aDg M1 rfl rfl (fun b2 w2 M2 => ?_)
  refine aC (aF (aG (aB ?_)))
  refine aA (bE 0 bO M2 rfl rfl rfl) rfl rfl ?_
  refine aK bAn rfl rfl rfl ?_
  refine (aFz _ b hb).mono ?_
  rintro _ w3 ⟨v3, rfl, ⟨rfl, hb3⟩⟩
  refine ⟨_, rfl, ?_⟩
  have M3 := M2.callB hb3
  refine aA (aD (.tuple (List.toArray _)) rfl) rfl rfl ?_
  refine aA (bG (.int _ _) rfl rfl) rfl rfl ?_
  refine aA (bG (.int _ _) rfl rfl) rfl rfl ?_
  refine aA (aE (.int _ _) rfl) rfl rfl ?_
  refine aA (aE (.int _ _) rfl) rfl rfl ?_
  refine aC (aF (aG (aB ?_)))
  refine aA (aH 6 fG rfl) rfl rfl ?_
  refine aA (aH 0 dG rfl) rfl rfl ?_
  refine aA (aQ 0 (.int _ _) aX M3 rfl rfl rfl) rfl rfl ?_
  refine aA (aD (.int _ _) rfl) rfl rfl ?_
  refine aA (lD rfl rfl (kY _ (by omega) (by omega))) rfl rfl ?_
  refine aA (aH 6 fG rfl) rfl rfl ?_
  refine aA (aH 1 dC rfl) rfl rfl ?_
  refine aA (aQ 0 (.int _ _) aX M3 rfl rfl rfl) rfl rfl ?_
  refine aA (aD (.int _ _) rfl) rfl rfl ?_
  refine aA (lD rfl rfl (kY _ (by omega) (by omega))) rfl rfl ?_
  refine aA (aH 6 fG rfl) rfl rfl ?_
  refine aA (aH 0 dG rfl) rfl rfl ?_
  refine aA (aQ 0 (.int _ _) aX M3 rfl rfl rfl) rfl rfl ?_
  refine aA (aD (.int _ _) rfl) rfl rfl ?_
  refine aA (iA rfl rfl (kY _ (by omega) (by omega))) rfl rfl ?_
  refine aA (aH 6 fG rfl) rfl rfl ?_
  refine aA (aH 1 dC rfl) rfl rfl ?_
  refine aA (aQ 0 (.int _ _) aX M3 rfl rfl rfl) rfl rfl ?_
  refine aA (aD (.int _ _) rfl) rfl rfl ?_
  refine aA (iA rfl rfl (kY _ (by omega) (by omega))) rfl rfl ?_
  refine aA (cN [(0, .int _ _), (1, .int _ _), (2, .int _ _), (3, .int _ _)] _ aAf rfl rfl) rfl rfl ?_
  refine bH 1 _ iC M3 rfl rfl rfl rfl rfl (aY rfl) rfl (fun w4 M4 => ?_)
  refine aC (aF (aR ?_))
  refine iX 1 iC M4 rfl rfl rfl ?_
  exact ⟨rfl, M4.below⟩
set_option maxHeartbeats 4000000 in
theorem sE (w : World) (a : Bx) :
    Calls Tryz.prog 192 #[(.agg (dI a).toArray)] w (fun ex w' => ∃ v, ex = .returned v ∧ (fun v w' => v = .bool (decide (gD a)) ∧ Below w.heap.size w w') v w') := by
  refine aJ #[.tmp 2] 15 Tryz.func192 rfl Tryz.results192 Tryz.ntmps192 rfl ?_
  have M0 := Mem.refl w
  refine aG (aB ?_)
  refine bL (.agg (List.toArray _)) M0 rfl rfl rfl (fun b1 w1 M1 => ?_)
  refine aA (aE (.bool false) rfl) rfl rfl ?_
  refine aC (aF (aG (aB ?_)))
  refine aA (aH 0 rS rfl) rfl rfl ?_
  refine aA (aQ 0 (.int _ _) aX M1 rfl rfl rfl) rfl rfl ?_
  refine aA (aH 2 rG rfl) rfl rfl ?_
  refine aA (aQ 0 (.int _ _) aX M1 rfl rfl rfl) rfl rfl ?_
  refine aA (aP (.bool (decide _)) rfl rfl rfl) rfl rfl ?_
  refine aA (aD (.bool (decide _)) rfl) rfl rfl ?_
  refine cY 8 rfl (fun g8 => ?_) (fun g8 => ?_)
  · refine aS rfl rfl ?_
    refine aS rfl rfl ?_
    refine aS rfl rfl ?_
    refine aS rfl rfl ?_
    refine aS rfl rfl ?_
    refine aA (bN true (.bool true) rfl rfl) rfl rfl ?_
    refine aA (aE (.bool true) rfl) rfl rfl ?_
    refine aC (aF (aR ?_))
    refine bY (.bool true) rfl ?_
    exact ⟨by unfold gD; first | exact bT (by omega) | exact bD (by omega), M1.below⟩
  · refine aA (aH 1 rJ rfl) rfl rfl ?_
    refine aA (aQ 0 (.int _ _) aX M1 rfl rfl rfl) rfl rfl ?_
    refine aA (aH 3 rV rfl) rfl rfl ?_
    refine aA (aQ 0 (.int _ _) aX M1 rfl rfl rfl) rfl rfl ?_
    refine aA (aP (.bool (decide _)) rfl rfl rfl) rfl rfl ?_
    refine aA (bN false (.bool (decide _)) rfl rfl) rfl rfl ?_
    refine aA (aE (.bool (decide _)) rfl) rfl rfl ?_
    refine aC (aF (aR ?_))
    refine bY (.bool (decide _)) rfl ?_
    exact ⟨by unfold gD; first | exact bT (by omega) | exact bD (by omega), M1.below⟩
set_option maxHeartbeats 4000000 in
theorem aSv (w : World) (N : Rd w 4 (some ⟨3, 0, none⟩) 1 [dI jA]) (a b : Bx) :
    Calls Tryz.prog 193 #[(.agg (dI a).toArray), (.agg (dI b).toArray)] w (fun ex w' => ∃ v, ex = .returned v ∧ (fun v w' => v = (.agg (dI (aAr a b)).toArray) ∧ Below w.heap.size w w') v w') := by
  refine aJ #[.cell 4 193] 31 Tryz.func193 rfl Tryz.results193 Tryz.ntmps193 rfl ?_
  have M0 := Mem.refl w
  refine aG (aB ?_)
  refine bL (.agg (List.toArray _)) M0 rfl rfl rfl (fun b1 w1 M1 => ?_)
  refine bL (.agg (List.toArray _)) M1 rfl rfl rfl (fun b2 w2 M2 => ?_)
  refine aW aDg M2 rfl rfl (fun b3 w3 M3 => ?_)
  refine aC (aF (aG (aB ?_)))
  refine aA (aH 0 rS rfl) rfl rfl ?_
  refine aA (aQ 0 (.int _ _) aX M3 rfl rfl rfl) rfl rfl ?_
  refine aA (aH 0 rS rfl) rfl rfl ?_
  refine aA (aQ 1 (.int _ _) aX M3 rfl rfl rfl) rfl rfl ?_
  refine aA (nE rfl rfl ) rfl rfl ?_
  refine aA (aH 1 rJ rfl) rfl rfl ?_
  refine aA (aQ 0 (.int _ _) aX M3 rfl rfl rfl) rfl rfl ?_
  refine aA (aH 1 rJ rfl) rfl rfl ?_
  refine aA (aQ 1 (.int _ _) aX M3 rfl rfl rfl) rfl rfl ?_
  refine aA (nE rfl rfl ) rfl rfl ?_
  refine aA (aH 2 rG rfl) rfl rfl ?_
  refine aA (aQ 0 (.int _ _) aX M3 rfl rfl rfl) rfl rfl ?_
  refine aA (aH 2 rG rfl) rfl rfl ?_
  refine aA (aQ 1 (.int _ _) aX M3 rfl rfl rfl) rfl rfl ?_
  refine aA (wY rfl rfl ) rfl rfl ?_
  refine aA (aH 3 rV rfl) rfl rfl ?_
  refine aA (aQ 0 (.int _ _) aX M3 rfl rfl rfl) rfl rfl ?_
  refine aA (aH 3 rV rfl) rfl rfl ?_
  refine aA (aQ 1 (.int _ _) aX M3 rfl rfl rfl) rfl rfl ?_
  refine aA (wY rfl rfl ) rfl rfl ?_
  refine aA (cN [(0, .int _ _), (1, .int _ _), (2, .int _ _), (3, .int _ _)] _ aAf rfl rfl) rfl rfl ?_
  refine aW aDg M3 rfl rfl (fun b4 w4 M4 => ?_)
  refine bH 3 _ iC M4 rfl rfl rfl rfl rfl (aY rfl) rfl (fun w5 M5 => ?_)
  refine aC (aF (aG (aG (aB ?_))))
  refine aA (bE 3 iC M5 rfl rfl rfl) rfl rfl ?_
  refine aK aJg rfl rfl rfl ?_
  refine (sE _ ⟨max a.x0 b.x0, max a.y0 b.y0, min a.x1 b.x1, min a.y1 b.y1⟩).mono ?_
  rintro _ w6 ⟨v6, rfl, ⟨rfl, hb6⟩⟩
  refine ⟨_, rfl, ?_⟩
  have M6 := M5.callB hb6
  refine aC (aF ?_)
  refine aZ rfl (fun h28 => ?_) (fun h28 => ?_)
  · refine aG (aB ?_)
    refine aA (vR (k := 0) (o := 0) _ iC (N.mem M6) (show ([dI jA] : List (List Value))[0]? = some (dI jA) from rfl) rfl rfl rfl) rfl rfl ?_
    refine bH 2 _ iC M6 rfl rfl rfl rfl rfl (aY rfl) rfl (fun w7 M7 => ?_)
    refine aC (aF (aR (cC ?_)))
    refine iX 2 iC M7 rfl rfl rfl ?_
    exact ⟨by unfold aAr; rw [if_pos h28]; rfl, M7.below⟩
  · refine aN (aF (aG (aB ?_)))
    refine aA (bE 3 iC M6 rfl rfl rfl) rfl rfl ?_
    refine bH 2 _ iC M6 rfl rfl rfl rfl rfl (aY rfl) rfl (fun w8 M8 => ?_)
    refine aC (aF (aR ?_))
    refine iX 2 iC M8 rfl rfl rfl ?_
    exact ⟨by unfold aAr; rw [if_neg h28]; rfl, M8.below⟩
set_option maxHeartbeats 4000000 in
theorem aEv (w : World) (N : Rd w 4 (some ⟨3, 0, none⟩) 1 [dI jA]) (a b : Bx) :
    Calls Tryz.prog 164 #[(.agg (dI a).toArray), (.agg (dI b).toArray)] w (fun ex w' => ∃ v, ex = .returned v ∧ (fun v w' => v = .bool (decide (ovl a b)) ∧ Below w.heap.size w w') v w') := by
  refine aJ #[.tmp 4] 10 Tryz.func164 rfl Tryz.results164 Tryz.ntmps164 rfl ?_
  have M0 := Mem.refl w
  refine aG (aB ?_)
  refine bL (.agg (List.toArray _)) M0 rfl rfl rfl (fun b1 w1 M1 => ?_)
  refine bL (.agg (List.toArray _)) M1 rfl rfl rfl (fun b2 w2 M2 => ?_)
  refine aA (aE (.bool false) rfl) rfl rfl ?_
  refine aC (aF (aG (aB ?_)))
  refine aA (bE 0 iC M2 rfl rfl rfl) rfl rfl ?_
  refine aA (bE 1 iC M2 rfl rfl rfl) rfl rfl ?_
  refine aK bBg rfl rfl rfl ?_
  refine (aSv _ (N.mem M2) a b).mono ?_
  rintro _ w3 ⟨v3, rfl, ⟨rfl, hb3⟩⟩
  refine ⟨_, rfl, ?_⟩
  have M3 := M2.callB hb3
  refine aK aJg rfl rfl rfl ?_
  refine (sE _ (aAr a b)).mono ?_
  rintro _ w4 ⟨v4, rfl, ⟨rfl, hb4⟩⟩
  refine ⟨_, rfl, ?_⟩
  have M4 := M3.callB hb4
  refine aA (lC rfl) rfl rfl ?_
  refine aA (aE (.bool (decide _)) rfl) rfl rfl ?_
  refine aC (aF (aR ?_))
  refine bY (.bool (decide _)) rfl ?_
  exact ⟨bD (aSy a b), M4.below⟩
end Go.Proofs.YtlmcphcgiclanaaGreatDoor

namespace Go.Proofs.YtlmcphcgiclanaaGreatDoor
open Go.Bil
open Go.RowKit (Below)
open Go.Proofs
set_option maxHeartbeats 4000000 in
theorem aKe (w : World) (x y : Int) :
    Calls Tryz.prog 229 #[.agg [.int .i32 x, .int .i32 y].toArray] w (fun ex w' => ∃ v, ex = .returned v ∧ (fun v w' => v = (.agg (cG (lG x, lG y)).toArray) ∧ Below w.heap.size w w') v w') := by
  refine aJ #[.cell 2 226] 10 Tryz.func229 rfl Tryz.results229 Tryz.ntmps229 rfl ?_
  have M0 := Mem.refl w
  refine aG (aB ?_)
  refine bL (.agg (List.toArray _)) M0 rfl rfl rfl (fun b1 w1 M1 => ?_)
  refine aW nD M1 rfl rfl (fun b2 w2 M2 => ?_)
  refine aC (aF (aG (aB ?_)))
  refine aA (aH 0 dG rfl) rfl rfl ?_
  refine aA (aQ 0 (.int _ _) aX M2 rfl rfl rfl) rfl rfl ?_
  refine aA (gA rfl rfl (by decide)) rfl rfl ?_
  refine aM 5 (.int .i32 (lG x)) (iE (aYd x)) ?_
  refine aA (aH 1 dC rfl) rfl rfl ?_
  refine aA (aQ 0 (.int _ _) aX M2 rfl rfl rfl) rfl rfl ?_
  refine aA (gA rfl rfl (by decide)) rfl rfl ?_
  refine aM 8 (.int .i32 (lG y)) (iE (aYd y)) ?_
  refine aA (cN [(0, .int _ _), (1, .int _ _)] _ aBe rfl rfl) rfl rfl ?_
  refine bH 1 _ gC M2 rfl rfl rfl rfl rfl (aY rfl) rfl (fun w3 M3 => ?_)
  refine aC (aF (aR ?_))
  refine iX 1 gC M3 rfl rfl rfl ?_
  exact ⟨rfl, M3.below⟩
set_option maxHeartbeats 4000000 in
theorem aNy (w : World) (a : Bx) :
    Calls Tryz.prog 216 #[(.agg (dI a).toArray)] w (fun ex w' => ∃ v, ex = .returned v ∧ (fun v w' => v = .tuple #[(.agg (cG (loC a)).toArray), (.agg (cG (hiC a)).toArray), .bool (decide (¬ gD a))] ∧ Below w.heap.size w w') v w') := by
  refine aJ #[.cell 2 226, .cell 3 226, .tmp 4] 21 Tryz.func216 rfl Tryz.results216 Tryz.ntmps216 rfl ?_
  have M0 := Mem.refl w
  refine aG (aB ?_)
  refine bL (.agg (List.toArray _)) M0 rfl rfl rfl (fun b1 w1 M1 => ?_)
  refine aW nD M1 rfl rfl (fun b2 w2 M2 => ?_)
  refine aW nD M2 rfl rfl (fun b3 w3 M3 => ?_)
  refine aA (aE (.bool false) rfl) rfl rfl ?_
  refine aC (aF (aG (aG (aB ?_))))
  refine aA (bE 0 iC M3 rfl rfl rfl) rfl rfl ?_
  refine aK aJg rfl rfl rfl ?_
  refine (sE _ a).mono ?_
  rintro _ w4 ⟨v4, rfl, ⟨rfl, hb4⟩⟩
  refine ⟨_, rfl, ?_⟩
  have M4 := M3.callB hb4
  refine aC (aF ?_)
  refine aZ rfl (fun h6 => ?_) (fun h6 => ?_)
  · refine aG ?_
    refine bS [(0, 1), (1, 1), (2, 2), (3, 2), (4, 0)] mixed rfl (by kernel_rfl) (fun w5 hb5 hh5 => ?_)
    have M5 := M4.drew hb5 hh5
    refine cB rfl rfl rfl (bE 1 gC M5 rfl rfl rfl) ?_
    refine cB rfl rfl rfl (bE 2 gC M5 rfl rfl rfl) ?_
    refine dU [false, true] rfl (by kernel_rfl) ?_
    refine bH 1 _ gC M5 rfl rfl rfl rfl rfl (aY rfl) rfl (fun w6 M6 => ?_)
    refine aC (aF ⟨(eS (bQ rfl (bE 2 gC M6 rfl rfl rfl)) dV), ?_⟩)
    refine dU [true] rfl (by kernel_rfl) ?_
    refine bH 2 _ gC M6 rfl rfl rfl rfl rfl (aY rfl) rfl (fun w7 M7 => ?_)
    refine aC (aF ⟨dV, ?_⟩)
    refine aU rfl rfl rfl (fun _ => aE (.bool false) rfl) ?_
    refine cF ?_
    refine aF (aR (cC ?_))
    refine aYg (v3 := .bool false) 1 2 gC M7 rfl rfl rfl rfl rfl rfl rfl ?_
    exact ⟨by unfold loC hiC; rw [if_pos h6, if_pos h6, decide_eq_false (fun h => h h6)]; rfl, M7.below⟩
  · refine aN (aF (aG ?_))
    refine bS [(0, 0), (1, 1), (2, 0), (3, 1), (4, 0), (6, 0), (7, 1), (8, 0), (9, 1), (10, 0), (5, 2), (11, 2), (12, 2), (13, 2), (14, 0)] mixed rfl (by kernel_rfl) (fun w8 hb8 hh8 => ?_)
    have M8 := M4.drew hb8 hh8
    refine aU rfl rfl rfl (fun _ => aH 0 rS rfl) ?_
    refine cB rfl rfl rfl (aQ 0 (.int _ _) aX M8 rfl rfl rfl) ?_
    refine aU rfl rfl rfl (fun _ => aH 1 rJ rfl) ?_
    refine cB rfl rfl rfl (aQ 0 (.int _ _) aX M8 rfl rfl rfl) ?_
    refine aU rfl rfl rfl (fun _ => cN [(0, .int _ _), (1, .int _ _)] _ eJ rfl rfl) ?_
    refine aU rfl rfl rfl (fun _ => aH 2 rG rfl) ?_
    refine cB rfl rfl rfl (aQ 0 (.int _ _) aX M8 rfl rfl rfl) ?_
    refine aU rfl rfl rfl (fun _ => aH 3 rV rfl) ?_
    refine cB rfl rfl rfl (aQ 0 (.int _ _) aX M8 rfl rfl rfl) ?_
    refine aU rfl rfl rfl (fun _ => cN [(0, .int _ _), (1, .int _ _)] _ eJ rfl rfl) ?_
    refine dU [false, false, true, true] rfl (by kernel_rfl) ?_
    refine aK aTr rfl rfl rfl ?_
    refine (aKe _ a.x0 a.y0).mono ?_
    rintro _ w9 ⟨v9, rfl, ⟨rfl, hb9⟩⟩
    refine ⟨_, rfl, ?_⟩
    have M9 := M8.callB hb9
    refine aC (aF ⟨(eS (bQ rfl (aQ 0 (.int _ _) aX M9 rfl rfl rfl)) (eS (bQ rfl (aQ 0 (.int _ _) aX M9 rfl rfl rfl)) dV)), ?_⟩)
    refine dU [true, true] rfl (by kernel_rfl) ?_
    refine aK aTr rfl rfl rfl ?_
    refine (aKe _ a.x1 a.y1).mono ?_
    rintro _ w10 ⟨v10, rfl, ⟨rfl, hb10⟩⟩
    refine ⟨_, rfl, ?_⟩
    have M10 := M9.callB hb10
    refine aC (aF ⟨dV, ?_⟩)
    refine dU [] rfl (by kernel_rfl) ?_
    refine bH 1 _ gC M10 rfl rfl rfl rfl rfl (aY rfl) rfl (fun w11 M11 => ?_)
    refine aC (aF ⟨dV, ?_⟩)
    refine dU [] rfl (by kernel_rfl) ?_
    refine bH 2 _ gC M11 rfl rfl rfl rfl rfl (aY rfl) rfl (fun w12 M12 => ?_)
    refine aC (aF ⟨dV, ?_⟩)
    refine aU rfl rfl rfl (fun _ => aE (.bool true) rfl) ?_
    refine cF ?_
    refine aF (aR ?_)
    refine aYg (v3 := .bool true) 1 2 gC M12 rfl rfl rfl rfl rfl rfl rfl ?_
    exact ⟨by unfold loC hiC; rw [if_neg h6, if_neg h6, decide_eq_true h6], M12.below⟩
set_option maxHeartbeats 4000000 in
theorem aId (w : World) (a : Bx) :
    Calls Tryz.prog 191 #[(.agg (dI a).toArray)] w (fun ex w' => ∃ v, ex = .returned v ∧ (fun v w' => ∃ b1 b2 b3, v = .func (.func 217) #[] #[.pointer (some ⟨b1, 0, none⟩), .pointer (some ⟨b2, 0, none⟩), .pointer (some ⟨b3, 0, none⟩)] ∧ Mem w [] [(some b1, bc (cG (loC a)) 226), (some b3, bc (cG (hiC a)) 226), (some b2, bc [.bool (decide (¬ gD a))] 4)] w') v w') := by
  refine aJ #[.tmp 2] 13 Tryz.func191 rfl Tryz.results191 Tryz.ntmps191 rfl ?_
  have M0 := Mem.refl w
  refine aG (aB ?_)
  refine bL (.agg (List.toArray _)) M0 rfl rfl rfl (fun b1 w1 M1 => ?_)
  refine aA (aE (_) rfl) rfl rfl ?_
  refine aC (aF (aG (aB ?_)))
  refine aA (bE 0 iC M1 rfl rfl rfl) rfl rfl ?_
  refine aK aZt rfl rfl rfl ?_
  refine (aNy _ a).mono ?_
  rintro _ w2 ⟨v2, rfl, ⟨rfl, hb2⟩⟩
  refine ⟨_, rfl, ?_⟩
  have M2 := M1.callB hb2
  refine aA (aD (.tuple (List.toArray _)) rfl) rfl rfl ?_
  refine aA (bG (.agg (List.toArray _)) rfl rfl) rfl rfl ?_
  refine aA (bG (.agg (List.toArray _)) rfl rfl) rfl rfl ?_
  refine aA (bG (.bool (decide _)) rfl rfl) rfl rfl ?_
  refine aW nD M2 rfl rfl (fun b3 w3 M3 => ?_)
  refine aW nD M3 rfl rfl (fun b4 w4 M4 => ?_)
  refine aW aLa M4 rfl rfl (fun b5 w5 M5 => ?_)
  refine bH 1 _ gC M5 rfl rfl rfl rfl rfl (aY rfl) rfl (fun w6 M6 => ?_)
  refine bH 2 _ gC M6 rfl rfl rfl rfl rfl (aY rfl) rfl (fun w7 M7 => ?_)
  refine dX 3 (.bool (decide _)) oE M7 rfl rfl rfl rfl rfl rfl (fun w8 M8 => ?_)
  refine aC (aF (aG (aB ?_)))
  refine aA (cQ [] [.pointer _, .pointer _, .pointer _] rfl rfl) rfl rfl ?_
  refine aA (aE (.func _ _ _) rfl) rfl rfl ?_
  refine aC (aF (aR ?_))
  refine bY (.func _ _ _) rfl ?_
  exact ⟨b3, b5, b4, rfl, M8.keep [false, true, true, true]⟩
set_option maxHeartbeats 4000000 in
theorem aGh (w : World) (lo hi : Int × Int) (ok : Bool) (b1 b2 b3 : Nat) (L1 : Rd w 2 (some ⟨b1, 0, none⟩) 1 [cG lo]) (L2 : Rd w 1 (some ⟨b2, 0, none⟩) 1 [[.bool ok]]) (L3 : Rd w 2 (some ⟨b3, 0, none⟩) 1 [cG hi]) (hlo : Okc lo) (hhi : Okc hi) (lp ob : Nat) (rec : Loop) (hY : rX Tryz.prog lp ob rec 224 226 2 1048576 (fun x => ∃ a b, x = [.int .i32 a, .int .i32 b])) (r0 : Row) (hr0 : bA 226 2 r0.A r0.n r0.c [] r0.e) (hO : Own [(some lp, .loop rec), (some ob, bc [.slice r0.A r0.n r0.c] 224), r0.e] w) (hd1 : 0 < 1 → ∀ q off, (some ⟨b1, 0, none⟩ : Option Addr) = some ⟨q, off, none⟩ → q ∉ bX [(some lp, .loop rec), (some ob, bc [.slice r0.A r0.n r0.c] 224), r0.e]) (hd2 : 0 < 1 → ∀ q off, (some ⟨b2, 0, none⟩ : Option Addr) = some ⟨q, off, none⟩ → q ∉ bX [(some lp, .loop rec), (some ob, bc [.slice r0.A r0.n r0.c] 224), r0.e]) (hd3 : 0 < 1 → ∀ q off, (some ⟨b3, 0, none⟩ : Option Addr) = some ⟨q, off, none⟩ → q ∉ bX [(some lp, .loop rec), (some ob, bc [.slice r0.A r0.n r0.c] 224), r0.e]) :
    Calls Tryz.prog 217 #[.func (.yield lp) #[] #[], .pointer (some ⟨b1, 0, none⟩), .pointer (some ⟨b2, 0, none⟩), .pointer (some ⟨b3, 0, none⟩)] w (fun ex w' => ∃ v, ex = .returned v ∧ (fun v w' => v = .tuple #[] ∧ ∃ r : Row, bA 226 2 r.A r.n r.c ((sR ok lo hi).map cG) r.e ∧ Mem w (bX [(some lp, .loop rec), (some ob, bc [.slice r0.A r0.n r0.c] 224), r0.e]) [(some lp, .loop rec), (some ob, bc [.slice r.A r.n r.c] 224), r.e] w') v w') := by
  rw [← eK b1, ← eK b2, ← eK b3]
  have hxd : nX lo hi = (hi.1 - lo.1 + 1).toNat := rfl
  have hyd : nY lo hi = (hi.2 - lo.2 + 1).toNat := rfl
  have hlx := hlo.x
  have hly := hlo.y
  have hhx := hhi.x
  have hhy := hhi.y
  have hnx := aYa hlo hhi
  have hny := aYh hlo hhi
  refine aJ #[] 32 Tryz.func217 rfl Tryz.results217 Tryz.ntmps217 rfl ?_
  have M0 := hO.mem
  refine aG (aB ?_)
  refine aA (bP 1 vY (L1.memY M0 hd1) (Nat.lt_of_le_of_lt (Nat.zero_le _) ((L1.memY M0 hd1).below_len (show ([cG lo] : List (List Value))[0]? = some (cG lo) from rfl))) rfl) rfl rfl ?_
  refine aA (eH (o := 1) (.int _ _) aX (L1.memY M0 hd1) (show ([cG lo] : List (List Value))[0]? = some (cG lo) from rfl) rfl rfl) rfl rfl ?_
  refine aA (aE (.int _ _) rfl) rfl rfl ?_
  refine aC (aF (aV ?_))
  refine dK (σ := Nat × Row) [0, 1, 2, 3] (fun (j, r) => [(5, .int .i32 (lo.2 + (j : Int)))]) (fun (j, r) w' => (j ≤ nY lo hi ∧ (ok = false → j = 0) ∧ bA 226 2 r.A r.n r.c ((lQ lo hi j).map cG) r.e) ∧ Mem w (bX [(some lp, .loop rec), (some ob, bc [.slice r0.A r0.n r0.c] 224), r0.e]) [(some lp, .loop rec), (some ob, bc [.slice r.A r.n r.c] 224), r.e] w') (fun (j, r) => nY lo hi - j) (0, r0) (bK (iv rfl (by simp)) eO) (⟨⟨by omega, fun _ => rfl, hr0⟩, M0⟩) ?_
  rintro ⟨j, r⟩ ρ1 w1 ⟨⟨hj, hjz, hr⟩, hM1⟩
  refine aG (aG (aB ?_))
  refine aA (eH (o := 0) (.bool _) oE (L2.memY hM1 hd2) (show ([[.bool ok]] : List (List Value))[0]? = some ([.bool ok]) from rfl) rfl rfl) rfl rfl ?_
  refine aA (aD (.bool _) rfl) rfl rfl ?_
  refine mF 10 _ rfl (fun g10 => ?_) (fun g10 => ?_)
  · refine aA (aD (.int _ _) rfl) rfl rfl ?_
    refine aA (bP 1 vY (L3.memY hM1 hd3) (Nat.lt_of_le_of_lt (Nat.zero_le _) ((L3.memY hM1 hd3).below_len (show ([cG hi] : List (List Value))[0]? = some (cG hi) from rfl))) rfl) rfl rfl ?_
    refine aA (eH (o := 1) (.int _ _) aX (L3.memY hM1 hd3) (show ([cG hi] : List (List Value))[0]? = some (cG hi) from rfl) rfl rfl) rfl rfl ?_
    refine aA (aP (.bool (decide _)) rfl rfl rfl) rfl rfl ?_
    refine aA (bN true (.bool (decide _)) rfl rfl) rfl rfl ?_
    refine aC (aF ?_)
    refine aZ rfl (fun h15 => ?_) (fun h15 => ?_)
    · refine aN (aF (aG (aV (aG (aB ?_)))))
      refine aA (bP 0 vV (L1.memY hM1 hd1) (Nat.lt_of_le_of_lt (Nat.zero_le _) ((L1.memY hM1 hd1).below_len (show ([cG lo] : List (List Value))[0]? = some (cG lo) from rfl))) rfl) rfl rfl ?_
      refine aA (eH (o := 0) (.int _ _) aX (L1.memY hM1 hd1) (show ([cG lo] : List (List Value))[0]? = some (cG lo) from rfl) rfl rfl) rfl rfl ?_
      refine aA (aE (.int _ _) rfl) rfl rfl ?_
      refine aC (aF (aV ?_))
      refine dK (σ := Nat × Row) [0, 1, 2, 3, 5] (fun (i, q0) => [(6, .int .i32 (lo.1 + (i : Int)))]) (fun (i, q0) w' => (i ≤ nX lo hi ∧ bA 226 2 q0.A q0.n q0.c ((lQ lo hi j ++ vN lo i j).map cG) q0.e) ∧ Mem w (bX [(some lp, .loop rec), (some ob, bc [.slice r0.A r0.n r0.c] 224), r0.e]) [(some lp, .loop rec), (some ob, bc [.slice q0.A q0.n q0.c] 224), q0.e] w') (fun (i, q0) => nX lo hi - i) (0, r) (bK (iv rfl (by simp)) eO) (⟨⟨by omega, by simpa [vN] using hr⟩, hM1⟩) ?_
      rintro ⟨i, q0⟩ ρ2 w2 ⟨⟨hi2, hq0⟩, hM2⟩
      have hql : (lQ lo hi j).length + i = q0.n := by simpa [aGf] using hq0.1
      refine aG (aG (aB ?_))
      refine aA (aD (.int _ _) rfl) rfl rfl ?_
      refine aA (bP 0 vV (L3.memY hM2 hd3) (Nat.lt_of_le_of_lt (Nat.zero_le _) ((L3.memY hM2 hd3).below_len (show ([cG hi] : List (List Value))[0]? = some (cG hi) from rfl))) rfl) rfl rfl ?_
      refine aA (eH (o := 0) (.int _ _) aX (L3.memY hM2 hd3) (show ([cG hi] : List (List Value))[0]? = some (cG hi) from rfl) rfl rfl) rfl rfl ?_
      refine aA (aP (.bool (decide _)) rfl rfl rfl) rfl rfl ?_
      refine aC (aF ?_)
      refine aZ rfl (fun h23 => ?_) (fun h23 => ?_)
      · have hlt6 := aPn (lo := lo) (hi := hi) (i := i) (j := j) hnx (by omega) (by omega)
        refine aN (aF (aG (aV (aG ?_))))
        refine aAz ?_
        refine aAd (aD (.func _ _ _) rfl) rfl rfl ?_
        refine aAd (aD (.int _ _) rfl) rfl rfl ?_
        refine aAd (aD (.int _ _) rfl) rfl rfl ?_
        refine aAd (cN [(0, .int _ _), (1, .int _ _)] _ aBe rfl rfl) rfl rfl ?_
        obtain ⟨fy, ty, ay, by1, hy1, hy2⟩ := hY _ q0 ((lQ lo hi j ++ vN lo i j).map cG) (cG (lo.1 + (i : Int), lo.2 + (j : Int))) ⟨_, _, rfl⟩ (by omega) hq0 (hM2.ownSeg 0 3)
        refine aBa rfl rfl rfl rfl hy1 (hy2.mono ?_)
        rintro _ w3 ⟨rfl, q3, hqn3, hq3, hM3⟩
        have M3 : Mem _ _ [_, _, _] _ := hM2.seg 0 3 hM3
        refine ⟨_, rfl, ?_⟩
        refine aQb rfl (fun _ _ h => h) ?_
        refine aA (iZ false rfl rfl) rfl rfl ?_
        refine aC (aF ?_)
        refine cH rfl ?_
        refine aN ?_
        refine dB ?_
        refine aF (aB ?_)
        refine aA (aD (.int _ _) rfl) rfl rfl ?_
        refine aA (iA rfl rfl (kY _ (by omega) (by omega))) rfl rfl ?_
        refine aA (aE (.int _ _) rfl) rfl rfl ?_
        refine aC ?_
        refine cO (i + 1, q3) (bK (iv rfl (by omega)) eO) (cS rfl (cS rfl (cS rfl (cS rfl (cS rfl jB))))) ?_ ?_
        · exact ⟨⟨by omega, by rw [aOh, ← List.append_assoc, List.map_append]; exact hq3⟩, M3⟩
        · (show nX lo hi - (i + 1) < nX lo hi - i; omega)
      · have hix : i = nX lo hi := by omega
        refine cP ?_
        refine dA ?_
        refine cZ ?_
        refine eQ ?_
        refine dB ?_
        refine aF (aB ?_)
        refine aA (aD (.int _ _) rfl) rfl rfl ?_
        refine aA (iA rfl rfl (kY _ (by omega) (by omega))) rfl rfl ?_
        refine aA (aE (.int _ _) rfl) rfl rfl ?_
        refine aC ?_
        refine cO (j + 1, q0) (bK (iv rfl (by omega)) eO) (cS rfl (cS rfl (cS rfl (cS rfl jB)))) ?_ ?_
        · exact ⟨⟨by omega, fun h => (by rw [g10] at h; cases h), by rw [yJ, ← hix]; exact hq0⟩, hM2⟩
        · (show nY lo hi - (j + 1) < nY lo hi - j; omega)
    · refine cP ?_
      refine dA ?_
      refine cZ ?_
      refine eQ ?_
      refine iD ?_
      exact ⟨rfl, r, by unfold sR; first | (rw [if_pos g10, show nY lo hi = j by omega]; exact hr) | (rw [if_neg (by rw [g10]; decide)]; rw [hjz g10] at hr; exact hr), hM1⟩
  · refine aS rfl rfl ?_
    refine aS rfl rfl ?_
    refine aS rfl rfl ?_
    refine aS rfl rfl ?_
    refine aA (bN false (.bool false) rfl rfl) rfl rfl ?_
    refine aC (aF ?_)
    refine cH rfl ?_
    refine cP ?_
    refine dA ?_
    refine cZ ?_
    refine eQ ?_
    refine iD ?_
    exact ⟨rfl, r, by unfold sR; first | (rw [if_pos g10, show nY lo hi = j by omega]; exact hr) | (rw [if_neg (by rw [g10]; decide)]; rw [hjz g10] at hr; exact hr), hM1⟩
set_option maxHeartbeats 4000000 in
theorem aSf (w : World) (a : Bx) (ha : Okx a) :
    Calls Tryz.prog 161 #[(.agg (dI a).toArray)] w (fun ex w' => ∃ v, ex = .returned v ∧ (fun v w' => ∃ r : Row, v = .slice r.A r.n r.c ∧ bA 226 2 r.A r.n r.c ((fP a).map cG) r.e ∧ Mem w [] [r.e] w') v w') := by
  refine tR #[.tmp 2] 13 Tryz.func161 rfl Tryz.results161 Tryz.ntmps161 rfl ?_
  have M0 := Mem.refl w
  refine nJ ?_
  refine lJ ?_
  refine bL (.agg (List.toArray _)) M0 rfl rfl rfl (fun b1 w1 M1 => ?_)
  refine aA (aE (.slice _ _ _) rfl) rfl rfl ?_
  refine aC ?_
  refine mU ?_
  refine nJ ?_
  refine lJ ?_
  refine aW aUw M1 rfl rfl (fun b2 w2 M2 => ?_)
  refine aC ?_
  refine mU ?_
  refine nJ ?_
  refine nJ ?_
  refine lJ ?_
  refine aA (bE 0 iC M2 rfl rfl rfl) rfl rfl ?_
  refine aK aZr rfl rfl rfl ?_
  refine (aId _ a).mono ?_
  rintro _ w3 ⟨v3, rfl, ⟨bl, bk, bh, rfl, hM3⟩⟩
  refine ⟨_, rfl, ?_⟩
  have M3 : Mem _ _ [_, _, _, _, _] _ := M2.call0 hM3
  refine aC ?_
  refine mU ?_
  refine aFt ?_
  have M4 : Mem _ _ [_, _, _, _, _] _ := ((M3.keep [false, true, true, true, true]).dummy default).perm (List.Perm.cons _ (List.perm_append_comm (l₁ := [_, _, _]) (l₂ := [_])))
  refine aFc aZn M4 rfl (fun fnn B lp tmps w1 hρ hn M1 => ?_)
  refine xE (P := Tryz.prog) (ob := b2) (Tsl := 224) (Te := 226) (sz := 2) (N := 1048576) (ok := (fun x => ∃ a b, x = [.int .i32 a, .int .i32 b])) M1 ?_ (fun hY => ?_)
  · intro wr r ls x hok hlt hrow hO
    obtain ⟨xa, xb, rfl⟩ := hok
    refine ⟨_, _, _, _, aEb hO rfl rfl rfl hn (by decide) hρ ?_⟩
    have MR0 := hO.mem
    refine oY rfl (fun _ _ h => nomatch h.1) ?_
    refine aW nD MR0 rfl rfl (fun b5 w5 M5 => ?_)
    refine bH 3 _ gC M5 rfl rfl rfl rfl rfl (aY rfl) rfl (fun w6 M6 => ?_)
    refine aC ?_
    refine ⟨rfl, _, M6, rfl, fun w7 M7 => ?_⟩
    refine aEu ?_
    refine oY rfl (fun _ _ h => nomatch h.1) ?_
    refine aA (aQ 1 (.slice _ _ _) aHe M7 rfl rfl rfl) rfl rfl ?_
    refine aA (bE 3 gC M7 rfl rfl rfl) rfl rfl ?_
    refine cR [.agg (List.toArray _)] [[.int .i32 xa, .int .i32 xb]] rfl aRo M7 rfl rfl rfl rfl (cW rfl) (by decide) (fun b8 w8 M8 => ?_)
    refine dL 2 [[.int .i32 xa, .int .i32 xb]] aRo M8 rfl rfl rfl rfl rfl hrow rfl (by simp [Go.Bil.one]) (cX.ofMem 4 M8 rfl) (by omega) (fun A9 c9 e9 w9 M9 hR9 => ?_)
    refine dX 1 (.slice _ _ _) aHe M9 rfl rfl rfl rfl rfl rfl (fun w10 M10 => ?_)
    refine aC ?_
    refine dB ?_
    refine ⟨rfl, _, M10, rfl, fun w11 M11 => ?_⟩
    exact ⟨⟨A9, r.n + 1, c9, e9⟩, rfl, hR9, M11.keep [true, true, true, false, false]⟩
  · refine (aGh _ (loC a) (hiC a) _ bl bk bh (lL 3 M1 rfl rfl) (lL 5 M1 rfl rfl) (lL 4 M1 rfl rfl) (aIt ha) (aIr ha) lp b2 _ hY ⟨none, 0, 0, (none, default)⟩ (bA.nil _ _ _) (M1.ownSeg 0 3) (M1.apartTake 3 3 rfl rfl) (M1.apartTake 3 5 rfl rfl) (M1.apartTake 3 4 rfl rfl)).mono ?_
    rintro _ w5 ⟨v5, rfl, rfl, r, hr, hM⟩
    have M5 : Mem _ _ (_ :: [_, _, _, _, _, _]) _ := M1.seg 0 3 hM
    refine ⟨_, rfl, _, M5, fun w6 M6 => ?_⟩
    refine aXz ?_
    refine mU ?_
    refine nJ ?_
    refine aAl ?_
    refine aJw (aQ 1 (.slice _ _ _) aHe M6 rfl rfl rfl) rfl rfl ?_
    refine aJw (aE (.slice _ _ _) rfl) rfl rfl ?_
    refine aKd ?_
    refine mU ?_
    refine aTi ?_
    refine aXo (i := 6) (.slice _ _ _) rfl M6 rfl (fun w9 M9 => ?_)
    exact ⟨r, rfl, hr, M9.keep [false, false, true, false, false, false, false]⟩
set_option maxHeartbeats 4000000 in
theorem aEz (w : World) (F : Rd w 2 (some ⟨0, 0, none⟩) 1 [[.int .u32 73856093, .int .u32 19349663]]) (c : Int × Int) :
    Calls Tryz.prog 162 #[(.agg (cG c).toArray)] w (fun ex w' => ∃ v, ex = .returned v ∧ (fun v w' => v = .int .i64 (dH c : Int) ∧ Below w.heap.size w w') v w') := by
  refine aJ #[.tmp 2] 20 Tryz.func162 rfl Tryz.results162 Tryz.ntmps162 rfl ?_
  have M0 := Mem.refl w
  refine aG (aB ?_)
  refine bL (.agg (List.toArray _)) M0 rfl rfl rfl (fun b1 w1 M1 => ?_)
  refine aA (aE (.int _ _) rfl) rfl rfl ?_
  refine aC (aF (aG (aB ?_)))
  refine aA (aH 0 vV rfl) rfl rfl ?_
  refine aA (aQ 0 (.int _ _) aX M1 rfl rfl rfl) rfl rfl ?_
  refine aA (dR fL Tryz.underlying36 rfl) rfl rfl ?_
  refine aA (eT (0) aRd rfl rfl rfl (by decide)) rfl rfl ?_
  refine aA (eH (k := 0) (o := 0) (.int _ _) bR (F.mem M1) (show ([[.int .u32 73856093, .int .u32 19349663]] : List (List Value))[0]? = some [.int .u32 73856093, .int .u32 19349663] from rfl) rfl rfl) rfl rfl ?_
  refine aA (aP (.int _ _) rfl rfl rfl) rfl rfl ?_
  refine aA (aH 1 vY rfl) rfl rfl ?_
  refine aA (aQ 0 (.int _ _) aX M1 rfl rfl rfl) rfl rfl ?_
  refine aA (dR fL Tryz.underlying36 rfl) rfl rfl ?_
  refine aA (eT (1) aRd rfl rfl rfl (by decide)) rfl rfl ?_
  refine aA (eH (k := 0) (o := 1) (.int _ _) bR (F.mem M1) (show ([[.int .u32 73856093, .int .u32 19349663]] : List (List Value))[0]? = some [.int .u32 73856093, .int .u32 19349663] from rfl) rfl rfl) rfl rfl ?_
  refine aA (aP (.int _ _) rfl rfl rfl) rfl rfl ?_
  refine aA (aP (.int _ _) rfl rfl rfl) rfl rfl ?_
  refine aA (aE (.int _ _) rfl) rfl rfl ?_
  refine aC (aF (aG (aB ?_)))
  refine aA (aD (.int _ _) rfl) rfl rfl ?_
  refine aA (aP (.int _ _) rfl rfl rfl) rfl rfl ?_
  refine aM 18 (.int .u32 (pD c)) rfl ?_
  refine aA (bV qC Tryz.underlying3 rfl (jY _ (by have := jN c; omega) (by have := jN c; omega))) rfl rfl ?_
  refine aA (aE (.int _ _) rfl) rfl rfl ?_
  refine aC (aF (aR ?_))
  refine bY (.int _ _) rfl ?_
  exact ⟨iE (aMw c), M1.below⟩
end Go.Proofs.YtlmcphcgiclanaaGreatDoor

namespace Go.Proofs.YtlmcphcgiclanaaGreatDoor
open Go.Bil
open Go.RowKit (Below)
open Go.Proofs
set_option maxHeartbeats 16000000 in
theorem aEy (w : World) (F : Rd w 2 (some ⟨0, 0, none⟩) 1 [[.int .u32 73856093, .int .u32 19349663]]) (b : Nat) (rs : List Row) (cnt : Int) (g : Nat → List Int) (hG : GridRows 36 rs g) (hcnt : 0 ≤ cnt ∧ cnt ≤ 1048576) (hgl : ∀ j, j < 1024 → (g j).length ≤ 1048576) (key : Int) (a : Bx) (ha : Okx a) (hO : Own ((some b, bc (dD rs cnt) 191) :: rs.map Row.e) w) (hdF : 0 < 1 → ∀ q off, (some ⟨0, 0, none⟩ : Option Addr) = some ⟨q, off, none⟩ → q ∉ bX ((some b, bc (dD rs cnt) 191) :: rs.map Row.e)) :
    Calls Tryz.prog 133 #[.pointer (some ⟨b, 0, none⟩), .int .u32 key, (.agg (dI a).toArray)] w (fun ex w' => ∃ v, ex = .returned v ∧ (fun v w' => v = .tuple #[] ∧ ∃ rs' : List Row, GridRows 36 rs' (pO g key ((fP a).map dH)) ∧ Mem w (bX ((some b, bc (dD rs cnt) 191) :: rs.map Row.e)) ((some b, bc (dD rs' (cnt + 1)) 191) :: rs'.map Row.e) w') v w') := by
  refine aJ #[] 49 Tryz.func133 rfl Tryz.results133 Tryz.ntmps133 rfl ?_
  have M0 := hO.mem
  refine aG (aB ?_)
  refine bL (.agg (List.toArray _)) M0 rfl rfl rfl (fun b1 w1 M1 => ?_)
  have M2 : Mem _ _ ([_, _] ++ _) _ := Mem.front (L := [_]) M1
  refine aC (aF (aG (aG (aB ?_))))
  refine aA (aD (.pointer _) rfl) rfl rfl ?_
  refine aA (eC false Tryz.underlying222 rfl rfl) rfl rfl ?_
  refine aC (aF ?_)
  refine cH rfl ?_
  refine aN (aF (aG (aB ?_)))
  refine aA (aD (.pointer _) rfl) rfl rfl ?_
  refine aA (aO rfl) rfl rfl ?_
  refine aA (aH 1024 aFd rfl) rfl rfl ?_
  refine aA (aQ 0 (.int .i64 cnt) yB M2 rfl rfl (wS hG.len)) rfl rfl ?_
  refine aA (bM rfl rfl (by omega) (by omega)) rfl rfl ?_
  refine aA (aO rfl) rfl rfl ?_
  refine aA (aH 1024 aFd rfl) rfl rfl ?_
  refine dX 0 (.int _ _) yB M2 rfl rfl rfl rfl rfl (by rw [wS hG.len]; rfl) (fun w3 M3 => ?_)
  have M3b : Mem _ _ ([(some b, bc (dD rs (cnt + 1)) 191), _] ++ rs.map Row.e) _ := Mem.cells0 M3 (yU hG.len)
  refine aC (aF (aG (aB ?_)))
  refine kZ M3b rfl rfl (fun b4 w4 M4 => ?_)
  have M5 : Mem _ _ ([_, _, _] ++ _) _ := Mem.front (L := [_, _]) M4
  refine aA (aE (.map _) rfl) rfl rfl ?_
  refine aC (aF (aG (aB ?_)))
  refine aA (bE 1 iC M5 rfl rfl rfl) rfl rfl ?_
  refine aK bAy rfl rfl rfl ?_
  refine (aSf _ a ha).mono ?_
  rintro _ w6 ⟨v6, rfl, ⟨r0, rfl, hR0, hM6⟩⟩
  refine ⟨_, rfl, ?_⟩
  have M6 : Mem _ _ ([_, _, _, _] ++ _) _ := Mem.front (L := [_, _, _]) (M5.call0 hM6)
  have hcl : (fP a).length = r0.n := by simpa using hR0.1
  have hcb := aHc ha
  refine aA (cT Tryz.underlying224 rfl) rfl rfl ?_
  refine aA (aD (.int _ _) rfl) rfl rfl ?_
  refine aC (aF (aV ?_))
  refine dK (σ := Nat × List Row × dP) [0, 1, 6, 21, 22] (fun (i, rs1, em) => [(23, .int .i64 (i : Int))]) (fun (i, rs1, em) w' => (i ≤ r0.n ∧ GridRows 36 rs1 (pO g key (((fP a).map dH).take i)) ∧ iM .i64 Value.bool (oN (((fP a).map dH).take i)) (some b4) em) ∧ Mem w (bX ((some b, bc (dD rs cnt) 191) :: rs.map Row.e)) ([(some b, bc (dD rs1 (cnt + 1)) 191), (some b1, bc (dI a) 193), em, r0.e] ++ rs1.map Row.e) w') (fun (i, rs1, em) => r0.n - i) (0, rs, (some b4, .map #[] 0)) (bK rfl eO) (⟨⟨by omega, by rw [List.take_zero, aSc]; exact hG, (iM.empty _ _ b4).congr (fun q => by rw [List.take_zero]; exact aMz q)⟩, M6⟩) ?_
  rintro ⟨i, rs1, em⟩ ρ7 w7 ⟨⟨hi, hrs, hme⟩, hM7⟩
  refine aG (aB ?_)
  refine aA (aP (.bool (decide _)) rfl rfl rfl) rfl rfl ?_
  refine aC (aF (aG ?_))
  refine aZ rfl (fun h24 => ?_) (fun h24 => ?_)
  · obtain ⟨xc, hxc⟩ := cL (xs := fP a) (k := i) hcl (by omega)
    have hbb : ((fP a).map dH)[i]? = some (dH xc) := by rw [List.getElem?_map, hxc]; rfl
    refine aN (aF (aG (aV (aG (aB ?_)))))
    refine aA (bU (i) aRo rfl rfl rfl ((hR0.rd hM7 (bB (i := 3) rfl)).below_len (aL cG hxc)) ((hR0.rd hM7 (bB (i := 3) rfl)).someK (aL cG hxc))) rfl rfl ?_
    refine aA (dS _ gC (hR0.rd hM7 (bB (i := 3) rfl)) (aL cG hxc) rfl) rfl rfl ?_
    refine aW nD hM7 rfl rfl (fun b8 w8 M8 => ?_)
    have M9 : Mem _ _ ([_, _, _, _, _] ++ _) _ := Mem.front (L := [_, _, _, _]) M8
    refine bH 4 _ gC M9 rfl rfl rfl rfl rfl (aY rfl) rfl (fun w10 M10 => ?_)
    refine aC (aF (aG (aB ?_)))
    refine aA (bE 4 gC M10 rfl rfl rfl) rfl rfl ?_
    refine aK aZb rfl rfl rfl ?_
    refine (aEz _ (F.memY M10 hdF) xc).mono ?_
    rintro _ w11 ⟨v11, rfl, ⟨rfl, hb11⟩⟩
    refine ⟨_, rfl, ?_⟩
    have M11 := M10.callB hb11
    refine aA (aE (.int _ _) rfl) rfl rfl ?_
    refine aC (aF (aG (aG (aB ?_))))
    refine aA (aD (.map _) rfl) rfl rfl ?_
    refine aA (aD (.int _ _) rfl) rfl rfl ?_
    refine aA (iR (enc := Value.bool) false 2 aRa zv4 M11 rfl hme rfl rfl) rfl rfl ?_
    refine aC (aF ?_)
    refine gK _ rfl (fun h31 => ?_) (fun h31 => ?_)
    · refine cP ?_
      refine dA ?_
      refine eQ ?_
      refine aF (aB ?_)
      refine aA (bM rfl rfl (by omega) (by omega)) rfl rfl ?_
      refine aA (aD (.int _ _) rfl) rfl rfl ?_
      refine aC ?_
      refine cO (i + 1, rs1, em) (bK rfl eO) (cS rfl (cS rfl (cS rfl (cS rfl (cS rfl jB))))) ?_ ?_
      · exact ⟨⟨by omega, by rw [aSh hbb (sT.1 h31)]; exact hrs, by rw [aOm hbb (sT.1 h31)]; exact hme⟩, Mem.keepL (L := [_, _, _, _, _]) [true, true, true, true, false] M11⟩
      · (show r0.n - (i + 1) < r0.n - i; omega)
    · have hnb : dH xc ∉ ((fP a).map dH).take i := fun h => by have h2 := sT.2 h; rw [h2] at h31; cases h31
      refine aN (aF (aG (aB ?_)))
      refine aA (aD (.map _) rfl) rfl rfl ?_
      refine aA (aD (.int _ _) rfl) rfl rfl ?_
      refine gV (enc := Value.bool) 2 aRa M11 rfl rfl hme rfl rfl rfl rfl (fun e12 w12 hm12 M12 => ?_)
      refine aC (aF ?_)
      refine bS [(0, 0), (1, 0), (2, 0), (3, 0), (4, 0), (5, 0), (6, 0), (7, 1), (8, 0), (11, 0), (12, 0), (9, 2), (10, 2), (13, 0), (14, 2)] mixed rfl (by kernel_rfl) (fun w13 hb13 hh13 => ?_)
      have M13 := M12.drew hb13 hh13
      refine aU rfl rfl rfl (fun _ => aD (.pointer _) rfl) ?_
      refine aU rfl rfl rfl (fun _ => aD (.int _ _) rfl) ?_
      refine aU rfl rfl rfl (fun _ => aD (.pointer _) rfl) ?_
      refine aU rfl rfl rfl (fun _ => aD (.int _ _) rfl) ?_
      refine aU rfl rfl rfl (fun _ => aO rfl) ?_
      refine aU rfl rfl rfl (fun _ => aH 0 xL rfl) ?_
      refine aU rfl rfl rfl (fun _ => eT (dH xc) aGr rfl rfl rfl (iN xc)) ?_
      obtain ⟨rb, hrb⟩ := hrs.get (iN xc)
      have hrowb := hrs.row _ _ hrb
      have hgb : pO g key (((fP a).map dH).take i) (dH xc) = g (dH xc) := by unfold pO; rw [if_neg hnb]
      have hrn : (pO g key (((fP a).map dH).take i) (dH xc)).length = rb.n := by simpa using hrowb.1
      have hgl := hgl (dH xc) (iN xc)
      rw [hgb] at hrn
      have M14 : Mem _ _ ([_, _, _, _, _, _] ++ (rs1.eraseIdx (dH xc)).map Row.e) _ := Mem.pull (L := [_, _, _, _, _]) (rs := rs1) M13 hrb
      refine cB rfl rfl rfl (aQ 0 (.slice _ _ _) aCa M14 rfl rfl (qJ hrb)) ?_
      refine aU rfl rfl rfl (fun _ => aD (.int _ _) rfl) ?_
      refine aU rfl rfl rfl (fun _ => aO rfl) ?_
      refine aU rfl rfl rfl (fun _ => aH 0 xL rfl) ?_
      refine dU [false] rfl (by kernel_rfl) ?_
      refine cR [.int _ _] [iH key] rfl aGa M14 rfl rfl rfl rfl (cW rfl) (by decide) (fun b15 w15 M15 => ?_)
      have M16 : Mem _ _ ([_, _, _, _, _, _, _] ++ _) _ := Mem.front (L := [_, _, _, _, _, _]) M15
      refine aC (aF ⟨(eS (bQ rfl (aQ 0 (.slice _ _ _) aCa M16 rfl rfl (qJ hrb))) dV), ?_⟩)
      refine dU [true] rfl (by kernel_rfl) ?_
      refine dL 5 [iH key] aGa M16 rfl rfl rfl rfl rfl hrowb rfl (aHi _) (cX.ofMem 6 M16 rfl) (by omega) (fun A17 c17 e17 w17 M17 hR17 => ?_)
      refine aC (aF ⟨dV, ?_⟩)
      refine aU rfl rfl rfl (fun _ => eT (dH xc) aGr rfl rfl rfl (iN xc)) ?_
      refine dU [] rfl (by kernel_rfl) ?_
      refine dX 0 (.slice _ _ _) aCa M17 rfl rfl rfl rfl rfl (by rw [qJ hrb]; rfl) (fun w18 M18 => ?_)
      have M18b : Mem _ _ ([(some b, bc (dD (rs1.set (dH xc) (⟨A17, rb.n + 1, c17, e17⟩ : Row)) (cnt + 1)) 191), _, _, _, _, _, _] ++ (rs1.eraseIdx (dH xc)).map Row.e) _ := Mem.cells0 M18 (zF (⟨A17, rb.n + 1, c17, e17⟩ : Row) (by rw [hrs.len]; exact iN xc))
      refine aC (aF ⟨dV, ?_⟩)
      refine cF ?_
      refine dB ?_
      refine aF (aB ?_)
      refine aA (bM rfl rfl (by omega) (by omega)) rfl rfl ?_
      refine aA (aD (.int _ _) rfl) rfl rfl ?_
      refine aC ?_
      refine cO (i + 1, rs1.set (dH xc) (⟨A17, rb.n + 1, c17, e17⟩ : Row), e12) (bK rfl eO) (cS rfl (cS rfl (cS rfl (cS rfl (cS rfl jB))))) ?_ ?_
      · exact ⟨⟨by omega, by rw [aRi hbb hnb]; exact hrs.put (r := (⟨A17, rb.n + 1, c17, e17⟩ : Row)) (iN xc) (by simpa using hR17), hm12.congr (fun q => zW hbb q)⟩, Mem.push (L := [_, _, _, _]) (rs := rs1) (⟨A17, rb.n + 1, c17, e17⟩ : Row) (Mem.keepL (L := [_, _, _, _, _, _, _]) [true, true, true, true, false, true, false] M18b) (by rw [hrs.len]; exact iN xc)⟩
      · (show r0.n - (i + 1) < r0.n - i; omega)
  · have hin : i = r0.n := by omega
    rw [List.take_of_length_le (by simp; omega)] at hrs
    refine cP ?_
    refine dA ?_
    refine cZ ?_
    refine eQ ?_
    refine iD ?_
    exact ⟨rfl, rs1, hrs, Mem.keepL (L := [_, _, _, _]) [true, false, false, false] hM7⟩
end Go.Proofs.YtlmcphcgiclanaaGreatDoor
