/- Part of the proof of the laws of this seat: B8, C9, G10. No conditions. -/
import Derived.Test.YtlmcphcgiclanaaGreatDoorK5
import Derived.Test.YtlmcphcgiclanaaGreatDoorK6
import Derived.Test.YtlmcphcgiclanaaGreatDoorK11
import Derived.Test.YtlmcphcgiclanaaGreatDoorK15
set_option linter.unusedVariables false
set_option linter.unusedSimpArgs false
set_option linter.unnecessarySimpa false
namespace Go.Proofs.YtlmcphcgiclanaaGreatDoor
open Go.Bil
open Go.RowKit (Below)
open Go.Proofs
set_option maxHeartbeats 4000000 in
theorem aFv (w : World) (x : Int) (h0 : -2147483647 ≤ x) (h1 : x ≤ 2147483647) :
    Calls Tryz.prog 215 #[.int .i32 x] w (fun ex w' => ∃ v, ex = .returned v ∧ (fun v w' => v = .int .i32 (max x (-x)) ∧ Below w.heap.size w w') v w') := by
  refine aL #[.tmp 2] 7 Tryz.func215 rfl Tryz.results215 Tryz.ntmps215 rfl ?_
  have M0 := Mem.refl w
  refine aH (aB ?_)
  refine aA (aD (.int _ _) rfl) rfl rfl ?_
  refine aE (aF (aH (aB ?_)))
  refine aA (aC (.int _ _) rfl) rfl rfl ?_
  refine aA (aC (.int _ _) rfl) rfl rfl ?_
  refine aA (mQ rfl (iF _ (by omega) (by omega))) rfl rfl ?_
  refine aA (lJ rfl rfl ) rfl rfl ?_
  refine aA (aD (.int _ _) rfl) rfl rfl ?_
  refine aE (aF (aU ?_))
  refine cU (.int _ _) rfl ?_
  exact ⟨iE (by omega), M0.below⟩
set_option maxHeartbeats 4000000 in
theorem aFa (w : World) (b : Body) (hb : Okb b) :
    Calls Tryz.prog 190 #[(.agg (aI b).toArray)] w (fun ex w' => ∃ v, ex = .returned v ∧ (fun v w' => v = .tuple #[.int .i32 (aIm b), .int .i32 (aHu b)] ∧ Below w.heap.size w w') v w') := by
  have hr := hb.r
  have ha := hb.a
  have hp := hb.p
  refine aL #[.tmp 2, .tmp 3] 18 Tryz.func190 rfl Tryz.results190 Tryz.ntmps190 rfl ?_
  have M0 := Mem.refl w
  refine aH (aB ?_)
  refine bM (.agg (List.toArray _)) M0 rfl rfl rfl (fun b1 w1 M1 => ?_)
  refine aA (aD (.int _ _) rfl) rfl rfl ?_
  refine aA (aD (.int _ _) rfl) rfl rfl ?_
  refine aE (aF (aH ?_))
  refine bY [(0, 0), (1, 0), (2, 1), (4, 0), (5, 1), (7, 0), (8, 0), (9, 1), (11, 0), (12, 1), (3, 2), (6, 0), (10, 2), (13, 0), (14, 0), (15, 0)] mixed rfl (by kernel_rfl) (fun w2 hb2 hh2 => ?_)
  have M2 := M1.drew hb2 hh2
  refine aP rfl rfl rfl (fun _ => aG 2 jA rfl) ?_
  refine aP rfl rfl rfl (fun _ => aG 0 cN rfl) ?_
  refine cB rfl rfl rfl (aQ 0 (.int _ _) aW M2 rfl rfl rfl) ?_
  refine aP rfl rfl rfl (fun _ => aG 1 mB rfl) ?_
  refine cB rfl rfl rfl (aQ 0 (.int _ _) aW M2 rfl rfl rfl) ?_
  refine aP rfl rfl rfl (fun _ => aG 2 jA rfl) ?_
  refine aP rfl rfl rfl (fun _ => aG 1 cJ rfl) ?_
  refine cB rfl rfl rfl (aQ 0 (.int _ _) aW M2 rfl rfl rfl) ?_
  refine aP rfl rfl rfl (fun _ => aG 1 mB rfl) ?_
  refine cB rfl rfl rfl (aQ 0 (.int _ _) aW M2 rfl rfl rfl) ?_
  refine eN [false, false, false, true] rfl (by kernel_rfl) ?_
  refine aM aSj rfl rfl rfl ?_
  refine (aFv _ _ (by omega) (by omega)).mono ?_
  rintro _ w3 ⟨v3, rfl, ⟨rfl, hb3⟩⟩
  refine ⟨_, rfl, ?_⟩
  have M3 := M2.callB hb3
  refine aE (aF ⟨(fH (cF rfl (aQ 0 (.int _ _) aW M3 rfl rfl rfl)) (fH (cF rfl (aQ 0 (.int _ _) aW M3 rfl rfl rfl)) (fH (cF rfl (aQ 0 (.int _ _) aW M3 rfl rfl rfl)) eM))), ?_⟩)
  refine aP rfl rfl rfl (fun _ => fZ rfl rfl (iF _ (by omega) (by omega))) ?_
  refine eN [false, true, false] rfl (by kernel_rfl) ?_
  refine aM aSj rfl rfl rfl ?_
  refine (aFv _ _ (by omega) (by omega)).mono ?_
  rintro _ w4 ⟨v4, rfl, ⟨rfl, hb4⟩⟩
  refine ⟨_, rfl, ?_⟩
  have M4 := M3.callB hb4
  refine aE (aF ⟨(fH (cF rfl (aQ 0 (.int _ _) aW M4 rfl rfl rfl)) (fH (cF rfl (aQ 0 (.int _ _) aW M4 rfl rfl rfl)) eM)), ?_⟩)
  refine aP rfl rfl rfl (fun _ => fZ rfl rfl (iF _ (by omega) (by omega))) ?_
  refine aP rfl rfl rfl (fun _ => aD (.int _ _) rfl) ?_
  refine aP rfl rfl rfl (fun _ => aD (.int _ _) rfl) ?_
  refine cI ?_
  refine aF (aU ?_)
  refine fR (.int _ _) (.int _ _) rfl rfl ?_
  exact ⟨rfl, M4.below⟩
set_option maxHeartbeats 4000000 in
theorem aXm (w : World) (b : Body) (hb : Okb b) :
    Calls Tryz.prog 160 #[(.agg (aI b).toArray)] w (fun ex w' => ∃ v, ex = .returned v ∧ (fun v w' => v = (.agg (dV (fE b)).toArray) ∧ Below w.heap.size w w') v w') := by
  have hr := hb.r
  have ha := hb.a
  have hp := hb.p
  have he := aSi hb
  refine aL #[.cell 2 193] 31 Tryz.func160 rfl Tryz.results160 Tryz.ntmps160 rfl ?_
  have M0 := Mem.refl w
  refine aH (aB ?_)
  refine bM (.agg (List.toArray _)) M0 rfl rfl rfl (fun b1 w1 M1 => ?_)
  refine aV aBl M1 rfl rfl (fun b2 w2 M2 => ?_)
  refine aE (aF (aH (aB ?_)))
  refine aA (aR 0 bP M2 rfl rfl rfl) rfl rfl ?_
  refine aM bAm rfl rfl rfl ?_
  refine (aFa _ b hb).mono ?_
  rintro _ w3 ⟨v3, rfl, ⟨rfl, hb3⟩⟩
  refine ⟨_, rfl, ?_⟩
  have M3 := M2.callB hb3
  refine aA (aC (.tuple (List.toArray _)) rfl) rfl rfl ?_
  refine aA (bI (.int _ _) rfl rfl) rfl rfl ?_
  refine aA (bI (.int _ _) rfl rfl) rfl rfl ?_
  refine aA (aD (.int _ _) rfl) rfl rfl ?_
  refine aA (aD (.int _ _) rfl) rfl rfl ?_
  refine aE (aF (aH (aB ?_)))
  refine aA (aG 6 eO rfl) rfl rfl ?_
  refine aA (aG 0 cN rfl) rfl rfl ?_
  refine aA (aQ 0 (.int _ _) aW M3 rfl rfl rfl) rfl rfl ?_
  refine aA (aC (.int _ _) rfl) rfl rfl ?_
  refine aA (kC rfl rfl (iF _ (by omega) (by omega))) rfl rfl ?_
  refine aA (aG 6 eO rfl) rfl rfl ?_
  refine aA (aG 1 cJ rfl) rfl rfl ?_
  refine aA (aQ 0 (.int _ _) aW M3 rfl rfl rfl) rfl rfl ?_
  refine aA (aC (.int _ _) rfl) rfl rfl ?_
  refine aA (kC rfl rfl (iF _ (by omega) (by omega))) rfl rfl ?_
  refine aA (aG 6 eO rfl) rfl rfl ?_
  refine aA (aG 0 cN rfl) rfl rfl ?_
  refine aA (aQ 0 (.int _ _) aW M3 rfl rfl rfl) rfl rfl ?_
  refine aA (aC (.int _ _) rfl) rfl rfl ?_
  refine aA (fZ rfl rfl (iF _ (by omega) (by omega))) rfl rfl ?_
  refine aA (aG 6 eO rfl) rfl rfl ?_
  refine aA (aG 1 cJ rfl) rfl rfl ?_
  refine aA (aQ 0 (.int _ _) aW M3 rfl rfl rfl) rfl rfl ?_
  refine aA (aC (.int _ _) rfl) rfl rfl ?_
  refine aA (fZ rfl rfl (iF _ (by omega) (by omega))) rfl rfl ?_
  refine aA (cL [(0, .int _ _), (1, .int _ _), (2, .int _ _), (3, .int _ _)] _ aAl rfl rfl) rfl rfl ?_
  refine bL 1 _ iT M3 rfl rfl rfl rfl rfl (bA rfl) rfl (fun w4 M4 => ?_)
  refine aE (aF (aU ?_))
  refine gM 1 iT M4 rfl rfl rfl ?_
  exact ⟨rfl, M4.below⟩
set_option maxHeartbeats 4000000 in
theorem tD (w : World) (a : Bx) :
    Calls Tryz.prog 192 #[(.agg (dV a).toArray)] w (fun ex w' => ∃ v, ex = .returned v ∧ (fun v w' => v = .bool (decide (gP a)) ∧ Below w.heap.size w w') v w') := by
  refine aL #[.tmp 2] 15 Tryz.func192 rfl Tryz.results192 Tryz.ntmps192 rfl ?_
  have M0 := Mem.refl w
  refine aH (aB ?_)
  refine bM (.agg (List.toArray _)) M0 rfl rfl rfl (fun b1 w1 M1 => ?_)
  refine aA (aD (.bool false) rfl) rfl rfl ?_
  refine aE (aF (aH (aB ?_)))
  refine aA (aG 0 sG rfl) rfl rfl ?_
  refine aA (aQ 0 (.int _ _) aW M1 rfl rfl rfl) rfl rfl ?_
  refine aA (aG 2 sI rfl) rfl rfl ?_
  refine aA (aQ 0 (.int _ _) aW M1 rfl rfl rfl) rfl rfl ?_
  refine aA (aN (.bool (decide _)) rfl rfl rfl) rfl rfl ?_
  refine aA (aC (.bool (decide _)) rfl) rfl rfl ?_
  refine dT 8 rfl (fun g8 => ?_) (fun g8 => ?_)
  · refine aS rfl rfl ?_
    refine aS rfl rfl ?_
    refine aS rfl rfl ?_
    refine aS rfl rfl ?_
    refine aS rfl rfl ?_
    refine aA (bQ true (.bool true) rfl rfl) rfl rfl ?_
    refine aA (aD (.bool true) rfl) rfl rfl ?_
    refine aE (aF (aU ?_))
    refine cU (.bool true) rfl ?_
    exact ⟨by unfold gP; first | exact bT (by omega) | exact bD (by omega), M1.below⟩
  · refine aA (aG 1 rT rfl) rfl rfl ?_
    refine aA (aQ 0 (.int _ _) aW M1 rfl rfl rfl) rfl rfl ?_
    refine aA (aG 3 rN rfl) rfl rfl ?_
    refine aA (aQ 0 (.int _ _) aW M1 rfl rfl rfl) rfl rfl ?_
    refine aA (aN (.bool (decide _)) rfl rfl rfl) rfl rfl ?_
    refine aA (bQ false (.bool (decide _)) rfl rfl) rfl rfl ?_
    refine aA (aD (.bool (decide _)) rfl) rfl rfl ?_
    refine aE (aF (aU ?_))
    refine cU (.bool (decide _)) rfl ?_
    exact ⟨by unfold gP; first | exact bT (by omega) | exact bD (by omega), M1.below⟩
set_option maxHeartbeats 4000000 in
theorem aOa (w : World) (N : Rd w 4 (some ⟨3, 0, none⟩) 1 [dV kA]) (a b : Bx) :
    Calls Tryz.prog 193 #[(.agg (dV a).toArray), (.agg (dV b).toArray)] w (fun ex w' => ∃ v, ex = .returned v ∧ (fun v w' => v = (.agg (dV (aAw a b)).toArray) ∧ Below w.heap.size w w') v w') := by
  refine aL #[.cell 4 193] 31 Tryz.func193 rfl Tryz.results193 Tryz.ntmps193 rfl ?_
  have M0 := Mem.refl w
  refine aH (aB ?_)
  refine bM (.agg (List.toArray _)) M0 rfl rfl rfl (fun b1 w1 M1 => ?_)
  refine bM (.agg (List.toArray _)) M1 rfl rfl rfl (fun b2 w2 M2 => ?_)
  refine aV aBl M2 rfl rfl (fun b3 w3 M3 => ?_)
  refine aE (aF (aH (aB ?_)))
  refine aA (aG 0 sG rfl) rfl rfl ?_
  refine aA (aQ 0 (.int _ _) aW M3 rfl rfl rfl) rfl rfl ?_
  refine aA (aG 0 sG rfl) rfl rfl ?_
  refine aA (aQ 1 (.int _ _) aW M3 rfl rfl rfl) rfl rfl ?_
  refine aA (lJ rfl rfl ) rfl rfl ?_
  refine aA (aG 1 rT rfl) rfl rfl ?_
  refine aA (aQ 0 (.int _ _) aW M3 rfl rfl rfl) rfl rfl ?_
  refine aA (aG 1 rT rfl) rfl rfl ?_
  refine aA (aQ 1 (.int _ _) aW M3 rfl rfl rfl) rfl rfl ?_
  refine aA (lJ rfl rfl ) rfl rfl ?_
  refine aA (aG 2 sI rfl) rfl rfl ?_
  refine aA (aQ 0 (.int _ _) aW M3 rfl rfl rfl) rfl rfl ?_
  refine aA (aG 2 sI rfl) rfl rfl ?_
  refine aA (aQ 1 (.int _ _) aW M3 rfl rfl rfl) rfl rfl ?_
  refine aA (wM rfl rfl ) rfl rfl ?_
  refine aA (aG 3 rN rfl) rfl rfl ?_
  refine aA (aQ 0 (.int _ _) aW M3 rfl rfl rfl) rfl rfl ?_
  refine aA (aG 3 rN rfl) rfl rfl ?_
  refine aA (aQ 1 (.int _ _) aW M3 rfl rfl rfl) rfl rfl ?_
  refine aA (wM rfl rfl ) rfl rfl ?_
  refine aA (cL [(0, .int _ _), (1, .int _ _), (2, .int _ _), (3, .int _ _)] _ aAl rfl rfl) rfl rfl ?_
  refine aV aBl M3 rfl rfl (fun b4 w4 M4 => ?_)
  refine bL 3 _ iT M4 rfl rfl rfl rfl rfl (bA rfl) rfl (fun w5 M5 => ?_)
  refine aE (aF (aH (aH (aB ?_))))
  refine aA (aR 3 iT M5 rfl rfl rfl) rfl rfl ?_
  refine aM aIn rfl rfl rfl ?_
  refine (tD _ ⟨max a.x0 b.x0, max a.y0 b.y0, min a.x1 b.x1, min a.y1 b.y1⟩).mono ?_
  rintro _ w6 ⟨v6, rfl, ⟨rfl, hb6⟩⟩
  refine ⟨_, rfl, ?_⟩
  have M6 := M5.callB hb6
  refine aE (aF ?_)
  refine aX rfl (fun h28 => ?_) (fun h28 => ?_)
  · refine aH (aB ?_)
    refine aA (rF (k := 0) (o := 0) _ iT (N.mem M6) (show ([dV kA] : List (List Value))[0]? = some (dV kA) from rfl) rfl rfl rfl) rfl rfl ?_
    refine bL 2 _ iT M6 rfl rfl rfl rfl rfl (bA rfl) rfl (fun w7 M7 => ?_)
    refine aE (aF (aU (dC ?_)))
    refine gM 2 iT M7 rfl rfl rfl ?_
    exact ⟨by unfold aAw; rw [if_pos h28]; rfl, M7.below⟩
  · refine aO (aF (aH (aB ?_)))
    refine aA (aR 3 iT M6 rfl rfl rfl) rfl rfl ?_
    refine bL 2 _ iT M6 rfl rfl rfl rfl rfl (bA rfl) rfl (fun w8 M8 => ?_)
    refine aE (aF (aU ?_))
    refine gM 2 iT M8 rfl rfl rfl ?_
    exact ⟨by unfold aAw; rw [if_neg h28]; rfl, M8.below⟩
set_option maxHeartbeats 4000000 in
theorem aFl (w : World) (N : Rd w 4 (some ⟨3, 0, none⟩) 1 [dV kA]) (a b : Bx) :
    Calls Tryz.prog 164 #[(.agg (dV a).toArray), (.agg (dV b).toArray)] w (fun ex w' => ∃ v, ex = .returned v ∧ (fun v w' => v = .bool (decide (ovl a b)) ∧ Below w.heap.size w w') v w') := by
  refine aL #[.tmp 4] 10 Tryz.func164 rfl Tryz.results164 Tryz.ntmps164 rfl ?_
  have M0 := Mem.refl w
  refine aH (aB ?_)
  refine bM (.agg (List.toArray _)) M0 rfl rfl rfl (fun b1 w1 M1 => ?_)
  refine bM (.agg (List.toArray _)) M1 rfl rfl rfl (fun b2 w2 M2 => ?_)
  refine aA (aD (.bool false) rfl) rfl rfl ?_
  refine aE (aF (aH (aB ?_)))
  refine aA (aR 0 iT M2 rfl rfl rfl) rfl rfl ?_
  refine aA (aR 1 iT M2 rfl rfl rfl) rfl rfl ?_
  refine aM aZh rfl rfl rfl ?_
  refine (aOa _ (N.mem M2) a b).mono ?_
  rintro _ w3 ⟨v3, rfl, ⟨rfl, hb3⟩⟩
  refine ⟨_, rfl, ?_⟩
  have M3 := M2.callB hb3
  refine aM aIn rfl rfl rfl ?_
  refine (tD _ (aAw a b)).mono ?_
  rintro _ w4 ⟨v4, rfl, ⟨rfl, hb4⟩⟩
  refine ⟨_, rfl, ?_⟩
  have M4 := M3.callB hb4
  refine aA (qS rfl) rfl rfl ?_
  refine aA (aD (.bool (decide _)) rfl) rfl rfl ?_
  refine aE (aF (aU ?_))
  refine cU (.bool (decide _)) rfl ?_
  exact ⟨bD (aPp a b), M4.below⟩
end Go.Proofs.YtlmcphcgiclanaaGreatDoor

namespace Go.Proofs.YtlmcphcgiclanaaGreatDoor
open Go.Bil
open Go.RowKit (Below)
open Go.Proofs
set_option maxHeartbeats 4000000 in
theorem aKg (w : World) (x y : Int) :
    Calls Tryz.prog 229 #[.agg [.int .i32 x, .int .i32 y].toArray] w (fun ex w' => ∃ v, ex = .returned v ∧ (fun v w' => v = (.agg (cV (lT x, lT y)).toArray) ∧ Below w.heap.size w w') v w') := by
  refine aL #[.cell 2 226] 10 Tryz.func229 rfl Tryz.results229 Tryz.ntmps229 rfl ?_
  have M0 := Mem.refl w
  refine aH (aB ?_)
  refine bM (.agg (List.toArray _)) M0 rfl rfl rfl (fun b1 w1 M1 => ?_)
  refine aV oE M1 rfl rfl (fun b2 w2 M2 => ?_)
  refine aE (aF (aH (aB ?_)))
  refine aA (aG 0 cN rfl) rfl rfl ?_
  refine aA (aQ 0 (.int _ _) aW M2 rfl rfl rfl) rfl rfl ?_
  refine aA (jN rfl rfl (by decide)) rfl rfl ?_
  refine aK 5 (.int .i32 (lT x)) (iE (aVz x)) ?_
  refine aA (aG 1 cJ rfl) rfl rfl ?_
  refine aA (aQ 0 (.int _ _) aW M2 rfl rfl rfl) rfl rfl ?_
  refine aA (jN rfl rfl (by decide)) rfl rfl ?_
  refine aK 8 (.int .i32 (lT y)) (iE (aVz y)) ?_
  refine aA (cL [(0, .int _ _), (1, .int _ _)] _ aBc rfl rfl) rfl rfl ?_
  refine bL 1 _ iB M2 rfl rfl rfl rfl rfl (bA rfl) rfl (fun w3 M3 => ?_)
  refine aE (aF (aU ?_))
  refine gM 1 iB M3 rfl rfl rfl ?_
  exact ⟨rfl, M3.below⟩
set_option maxHeartbeats 4000000 in
theorem aLm (w : World) (a : Bx) :
    Calls Tryz.prog 216 #[(.agg (dV a).toArray)] w (fun ex w' => ∃ v, ex = .returned v ∧ (fun v w' => v = .tuple #[(.agg (cV (loC a)).toArray), (.agg (cV (hiC a)).toArray), .bool (decide (¬ gP a))] ∧ Below w.heap.size w w') v w') := by
  refine aL #[.cell 2 226, .cell 3 226, .tmp 4] 21 Tryz.func216 rfl Tryz.results216 Tryz.ntmps216 rfl ?_
  have M0 := Mem.refl w
  refine aH (aB ?_)
  refine bM (.agg (List.toArray _)) M0 rfl rfl rfl (fun b1 w1 M1 => ?_)
  refine aV oE M1 rfl rfl (fun b2 w2 M2 => ?_)
  refine aV oE M2 rfl rfl (fun b3 w3 M3 => ?_)
  refine aA (aD (.bool false) rfl) rfl rfl ?_
  refine aE (aF (aH (aH (aB ?_))))
  refine aA (aR 0 iT M3 rfl rfl rfl) rfl rfl ?_
  refine aM aIn rfl rfl rfl ?_
  refine (tD _ a).mono ?_
  rintro _ w4 ⟨v4, rfl, ⟨rfl, hb4⟩⟩
  refine ⟨_, rfl, ?_⟩
  have M4 := M3.callB hb4
  refine aE (aF ?_)
  refine aX rfl (fun h6 => ?_) (fun h6 => ?_)
  · refine aH ?_
    refine bY [(0, 1), (1, 1), (2, 2), (3, 2), (4, 0)] mixed rfl (by kernel_rfl) (fun w5 hb5 hh5 => ?_)
    have M5 := M4.drew hb5 hh5
    refine cB rfl rfl rfl (aR 1 iB M5 rfl rfl rfl) ?_
    refine cB rfl rfl rfl (aR 2 iB M5 rfl rfl rfl) ?_
    refine eN [false, true] rfl (by kernel_rfl) ?_
    refine bL 1 _ iB M5 rfl rfl rfl rfl rfl (bA rfl) rfl (fun w6 M6 => ?_)
    refine aE (aF ⟨(fH (cF rfl (aR 2 iB M6 rfl rfl rfl)) eM), ?_⟩)
    refine eN [true] rfl (by kernel_rfl) ?_
    refine bL 2 _ iB M6 rfl rfl rfl rfl rfl (bA rfl) rfl (fun w7 M7 => ?_)
    refine aE (aF ⟨eM, ?_⟩)
    refine aP rfl rfl rfl (fun _ => aD (.bool false) rfl) ?_
    refine cI ?_
    refine aF (aU (dC ?_))
    refine aWg (v3 := .bool false) 1 2 iB M7 rfl rfl rfl rfl rfl rfl rfl ?_
    exact ⟨by unfold loC hiC; rw [if_pos h6, if_pos h6, decide_eq_false (fun h => h h6)]; rfl, M7.below⟩
  · refine aO (aF (aH ?_))
    refine bY [(0, 0), (1, 1), (2, 0), (3, 1), (4, 0), (6, 0), (7, 1), (8, 0), (9, 1), (10, 0), (5, 2), (11, 2), (12, 2), (13, 2), (14, 0)] mixed rfl (by kernel_rfl) (fun w8 hb8 hh8 => ?_)
    have M8 := M4.drew hb8 hh8
    refine aP rfl rfl rfl (fun _ => aG 0 sG rfl) ?_
    refine cB rfl rfl rfl (aQ 0 (.int _ _) aW M8 rfl rfl rfl) ?_
    refine aP rfl rfl rfl (fun _ => aG 1 rT rfl) ?_
    refine cB rfl rfl rfl (aQ 0 (.int _ _) aW M8 rfl rfl rfl) ?_
    refine aP rfl rfl rfl (fun _ => cL [(0, .int _ _), (1, .int _ _)] _ dW rfl rfl) ?_
    refine aP rfl rfl rfl (fun _ => aG 2 sI rfl) ?_
    refine cB rfl rfl rfl (aQ 0 (.int _ _) aW M8 rfl rfl rfl) ?_
    refine aP rfl rfl rfl (fun _ => aG 3 rN rfl) ?_
    refine cB rfl rfl rfl (aQ 0 (.int _ _) aW M8 rfl rfl rfl) ?_
    refine aP rfl rfl rfl (fun _ => cL [(0, .int _ _), (1, .int _ _)] _ dW rfl rfl) ?_
    refine eN [false, false, true, true] rfl (by kernel_rfl) ?_
    refine aM aSm rfl rfl rfl ?_
    refine (aKg _ a.x0 a.y0).mono ?_
    rintro _ w9 ⟨v9, rfl, ⟨rfl, hb9⟩⟩
    refine ⟨_, rfl, ?_⟩
    have M9 := M8.callB hb9
    refine aE (aF ⟨(fH (cF rfl (aQ 0 (.int _ _) aW M9 rfl rfl rfl)) (fH (cF rfl (aQ 0 (.int _ _) aW M9 rfl rfl rfl)) eM)), ?_⟩)
    refine eN [true, true] rfl (by kernel_rfl) ?_
    refine aM aSm rfl rfl rfl ?_
    refine (aKg _ a.x1 a.y1).mono ?_
    rintro _ w10 ⟨v10, rfl, ⟨rfl, hb10⟩⟩
    refine ⟨_, rfl, ?_⟩
    have M10 := M9.callB hb10
    refine aE (aF ⟨eM, ?_⟩)
    refine eN [] rfl (by kernel_rfl) ?_
    refine bL 1 _ iB M10 rfl rfl rfl rfl rfl (bA rfl) rfl (fun w11 M11 => ?_)
    refine aE (aF ⟨eM, ?_⟩)
    refine eN [] rfl (by kernel_rfl) ?_
    refine bL 2 _ iB M11 rfl rfl rfl rfl rfl (bA rfl) rfl (fun w12 M12 => ?_)
    refine aE (aF ⟨eM, ?_⟩)
    refine aP rfl rfl rfl (fun _ => aD (.bool true) rfl) ?_
    refine cI ?_
    refine aF (aU ?_)
    refine aWg (v3 := .bool true) 1 2 iB M12 rfl rfl rfl rfl rfl rfl rfl ?_
    exact ⟨by unfold loC hiC; rw [if_neg h6, if_neg h6, decide_eq_true h6], M12.below⟩
set_option maxHeartbeats 4000000 in
theorem aJa (w : World) (a : Bx) :
    Calls Tryz.prog 191 #[(.agg (dV a).toArray)] w (fun ex w' => ∃ v, ex = .returned v ∧ (fun v w' => ∃ b1 b2 b3, v = .func (.func 217) #[] #[.pointer (some ⟨b1, 0, none⟩), .pointer (some ⟨b2, 0, none⟩), .pointer (some ⟨b3, 0, none⟩)] ∧ Mem w [] [(some b1, bc (cV (loC a)) 226), (some b3, bc (cV (hiC a)) 226), (some b2, bc [.bool (decide (¬ gP a))] 4)] w') v w') := by
  refine aL #[.tmp 2] 13 Tryz.func191 rfl Tryz.results191 Tryz.ntmps191 rfl ?_
  have M0 := Mem.refl w
  refine aH (aB ?_)
  refine bM (.agg (List.toArray _)) M0 rfl rfl rfl (fun b1 w1 M1 => ?_)
  refine aA (aD (_) rfl) rfl rfl ?_
  refine aE (aF (aH (aB ?_)))
  refine aA (aR 0 iT M1 rfl rfl rfl) rfl rfl ?_
  refine aM aXe rfl rfl rfl ?_
  refine (aLm _ a).mono ?_
  rintro _ w2 ⟨v2, rfl, ⟨rfl, hb2⟩⟩
  refine ⟨_, rfl, ?_⟩
  have M2 := M1.callB hb2
  refine aA (aC (.tuple (List.toArray _)) rfl) rfl rfl ?_
  refine aA (bI (.agg (List.toArray _)) rfl rfl) rfl rfl ?_
  refine aA (bI (.agg (List.toArray _)) rfl rfl) rfl rfl ?_
  refine aA (bI (.bool (decide _)) rfl rfl) rfl rfl ?_
  refine aV oE M2 rfl rfl (fun b3 w3 M3 => ?_)
  refine aV oE M3 rfl rfl (fun b4 w4 M4 => ?_)
  refine aV aPg M4 rfl rfl (fun b5 w5 M5 => ?_)
  refine bL 1 _ iB M5 rfl rfl rfl rfl rfl (bA rfl) rfl (fun w6 M6 => ?_)
  refine bL 2 _ iB M6 rfl rfl rfl rfl rfl (bA rfl) rfl (fun w7 M7 => ?_)
  refine cY 3 (.bool (decide _)) nE M7 rfl rfl rfl rfl rfl rfl (fun w8 M8 => ?_)
  refine aE (aF (aH (aB ?_)))
  refine aA (eH [] [.pointer _, .pointer _, .pointer _] rfl rfl) rfl rfl ?_
  refine aA (aD (.func _ _ _) rfl) rfl rfl ?_
  refine aE (aF (aU ?_))
  refine cU (.func _ _ _) rfl ?_
  exact ⟨b3, b5, b4, rfl, M8.keep [false, true, true, true]⟩
set_option maxHeartbeats 4000000 in
theorem aEs (w : World) (lo hi : Int × Int) (ok : Bool) (b1 b2 b3 : Nat) (L1 : Rd w 2 (some ⟨b1, 0, none⟩) 1 [cV lo]) (L2 : Rd w 1 (some ⟨b2, 0, none⟩) 1 [[.bool ok]]) (L3 : Rd w 2 (some ⟨b3, 0, none⟩) 1 [cV hi]) (hlo : Okc lo) (hhi : Okc hi) (lp ob : Nat) (rec : Loop) (hY : sH Tryz.prog lp ob rec 224 226 2 1048576 (fun x => ∃ a b, x = [.int .i32 a, .int .i32 b])) (r0 : Row) (hr0 : bK 226 2 r0.A r0.n r0.c [] r0.e) (hO : Own [(some lp, .loop rec), (some ob, bc [.slice r0.A r0.n r0.c] 224), r0.e] w) (hd1 : 0 < 1 → ∀ q off, (some ⟨b1, 0, none⟩ : Option Addr) = some ⟨q, off, none⟩ → q ∉ cT [(some lp, .loop rec), (some ob, bc [.slice r0.A r0.n r0.c] 224), r0.e]) (hd2 : 0 < 1 → ∀ q off, (some ⟨b2, 0, none⟩ : Option Addr) = some ⟨q, off, none⟩ → q ∉ cT [(some lp, .loop rec), (some ob, bc [.slice r0.A r0.n r0.c] 224), r0.e]) (hd3 : 0 < 1 → ∀ q off, (some ⟨b3, 0, none⟩ : Option Addr) = some ⟨q, off, none⟩ → q ∉ cT [(some lp, .loop rec), (some ob, bc [.slice r0.A r0.n r0.c] 224), r0.e]) :
    Calls Tryz.prog 217 #[.func (.yield lp) #[] #[], .pointer (some ⟨b1, 0, none⟩), .pointer (some ⟨b2, 0, none⟩), .pointer (some ⟨b3, 0, none⟩)] w (fun ex w' => ∃ v, ex = .returned v ∧ (fun v w' => v = .tuple #[] ∧ ∃ r : Row, bK 226 2 r.A r.n r.c ((tP ok lo hi).map cV) r.e ∧ Mem w (cT [(some lp, .loop rec), (some ob, bc [.slice r0.A r0.n r0.c] 224), r0.e]) [(some lp, .loop rec), (some ob, bc [.slice r.A r.n r.c] 224), r.e] w') v w') := by
  rw [← iJ b1, ← iJ b2, ← iJ b3]
  have hxd : nX lo hi = (hi.1 - lo.1 + 1).toNat := rfl
  have hyd : nY lo hi = (hi.2 - lo.2 + 1).toNat := rfl
  have hlx := hlo.x
  have hly := hlo.y
  have hhx := hhi.x
  have hhy := hhi.y
  have hnx := aWc hlo hhi
  have hny := aXd hlo hhi
  refine aL #[] 32 Tryz.func217 rfl Tryz.results217 Tryz.ntmps217 rfl ?_
  have M0 := hO.mem
  refine aH (aB ?_)
  refine aA (bG 1 yA (L1.memY M0 hd1) (Nat.lt_of_le_of_lt (Nat.zero_le _) ((L1.memY M0 hd1).below_len (show ([cV lo] : List (List Value))[0]? = some (cV lo) from rfl))) rfl) rfl rfl ?_
  refine aA (dR (o := 1) (.int _ _) aW (L1.memY M0 hd1) (show ([cV lo] : List (List Value))[0]? = some (cV lo) from rfl) rfl rfl) rfl rfl ?_
  refine aA (aD (.int _ _) rfl) rfl rfl ?_
  refine aE (aF (aT ?_))
  refine dM (σ := Nat × Row) [0, 1, 2, 3] (fun (j, r) => [(5, .int .i32 (lo.2 + (j : Int)))]) (fun (j, r) w' => (j ≤ nY lo hi ∧ (ok = false → j = 0) ∧ bK 226 2 r.A r.n r.c ((lV lo hi j).map cV) r.e) ∧ Mem w (cT [(some lp, .loop rec), (some ob, bc [.slice r0.A r0.n r0.c] 224), r0.e]) [(some lp, .loop rec), (some ob, bc [.slice r.A r.n r.c] 224), r.e] w') (fun (j, r) => nY lo hi - j) (0, r0) (bB (iv rfl (by simp)) dO) (⟨⟨by omega, fun _ => rfl, hr0⟩, M0⟩) ?_
  rintro ⟨j, r⟩ ρ1 w1 ⟨⟨hj, hjz, hr⟩, hM1⟩
  refine aH (aH (aB ?_))
  refine aA (dR (o := 0) (.bool _) nE (L2.memY hM1 hd2) (show ([[.bool ok]] : List (List Value))[0]? = some ([.bool ok]) from rfl) rfl rfl) rfl rfl ?_
  refine aA (aC (.bool _) rfl) rfl rfl ?_
  refine gK 10 _ rfl (fun g10 => ?_) (fun g10 => ?_)
  · refine aA (aC (.int _ _) rfl) rfl rfl ?_
    refine aA (bG 1 yA (L3.memY hM1 hd3) (Nat.lt_of_le_of_lt (Nat.zero_le _) ((L3.memY hM1 hd3).below_len (show ([cV hi] : List (List Value))[0]? = some (cV hi) from rfl))) rfl) rfl rfl ?_
    refine aA (dR (o := 1) (.int _ _) aW (L3.memY hM1 hd3) (show ([cV hi] : List (List Value))[0]? = some (cV hi) from rfl) rfl rfl) rfl rfl ?_
    refine aA (aN (.bool (decide _)) rfl rfl rfl) rfl rfl ?_
    refine aA (bQ true (.bool (decide _)) rfl rfl) rfl rfl ?_
    refine aE (aF ?_)
    refine aX rfl (fun h15 => ?_) (fun h15 => ?_)
    · refine aO (aF (aH (aT (aH (aB ?_)))))
      refine aA (bG 0 xU (L1.memY hM1 hd1) (Nat.lt_of_le_of_lt (Nat.zero_le _) ((L1.memY hM1 hd1).below_len (show ([cV lo] : List (List Value))[0]? = some (cV lo) from rfl))) rfl) rfl rfl ?_
      refine aA (dR (o := 0) (.int _ _) aW (L1.memY hM1 hd1) (show ([cV lo] : List (List Value))[0]? = some (cV lo) from rfl) rfl rfl) rfl rfl ?_
      refine aA (aD (.int _ _) rfl) rfl rfl ?_
      refine aE (aF (aT ?_))
      refine dM (σ := Nat × Row) [0, 1, 2, 3, 5] (fun (i, q0) => [(6, .int .i32 (lo.1 + (i : Int)))]) (fun (i, q0) w' => (i ≤ nX lo hi ∧ bK 226 2 q0.A q0.n q0.c ((lV lo hi j ++ xL lo i j).map cV) q0.e) ∧ Mem w (cT [(some lp, .loop rec), (some ob, bc [.slice r0.A r0.n r0.c] 224), r0.e]) [(some lp, .loop rec), (some ob, bc [.slice q0.A q0.n q0.c] 224), q0.e] w') (fun (i, q0) => nX lo hi - i) (0, r) (bB (iv rfl (by simp)) dO) (⟨⟨by omega, by simpa [xL] using hr⟩, hM1⟩) ?_
      rintro ⟨i, q0⟩ ρ2 w2 ⟨⟨hi2, hq0⟩, hM2⟩
      have hql : (lV lo hi j).length + i = q0.n := by simpa [aEk] using hq0.1
      refine aH (aH (aB ?_))
      refine aA (aC (.int _ _) rfl) rfl rfl ?_
      refine aA (bG 0 xU (L3.memY hM2 hd3) (Nat.lt_of_le_of_lt (Nat.zero_le _) ((L3.memY hM2 hd3).below_len (show ([cV hi] : List (List Value))[0]? = some (cV hi) from rfl))) rfl) rfl rfl ?_
      refine aA (dR (o := 0) (.int _ _) aW (L3.memY hM2 hd3) (show ([cV hi] : List (List Value))[0]? = some (cV hi) from rfl) rfl rfl) rfl rfl ?_
      refine aA (aN (.bool (decide _)) rfl rfl rfl) rfl rfl ?_
      refine aE (aF ?_)
      refine aX rfl (fun h23 => ?_) (fun h23 => ?_)
      · have hlt6 := aOi (lo := lo) (hi := hi) (i := i) (j := j) hnx (by omega) (by omega)
        refine aO (aF (aH (aT (aH ?_))))
        refine aAj ?_
        refine aAa (aC (.func _ _ _) rfl) rfl rfl ?_
        refine aAa (aC (.int _ _) rfl) rfl rfl ?_
        refine aAa (aC (.int _ _) rfl) rfl rfl ?_
        refine aAa (cL [(0, .int _ _), (1, .int _ _)] _ aBc rfl rfl) rfl rfl ?_
        obtain ⟨fy, ty, ay, by1, hy1, hy2⟩ := hY _ q0 ((lV lo hi j ++ xL lo i j).map cV) (cV (lo.1 + (i : Int), lo.2 + (j : Int))) ⟨_, _, rfl⟩ (by omega) hq0 (hM2.ownSeg 0 3)
        refine zT rfl rfl rfl rfl hy1 (hy2.mono ?_)
        rintro _ w3 ⟨rfl, q3, hqn3, hq3, hM3⟩
        have M3 : Mem _ _ [_, _, _] _ := hM2.seg 0 3 hM3
        refine ⟨_, rfl, ?_⟩
        refine aQo rfl (fun _ _ h => h) ?_
        refine aA (kF false rfl rfl) rfl rfl ?_
        refine aE (aF ?_)
        refine cP rfl ?_
        refine aO ?_
        refine cS ?_
        refine aF (aB ?_)
        refine aA (aC (.int _ _) rfl) rfl rfl ?_
        refine aA (fZ rfl rfl (iF _ (by omega) (by omega))) rfl rfl ?_
        refine aA (aD (.int _ _) rfl) rfl rfl ?_
        refine aE ?_
        refine cA (i + 1, q3) (bB (iv rfl (by omega)) dO) (cD rfl (cD rfl (cD rfl (cD rfl (cD rfl fS))))) ?_ ?_
        · exact ⟨⟨by omega, by rw [aMe, ← List.append_assoc, List.map_append]; exact hq3⟩, M3⟩
        · (show nX lo hi - (i + 1) < nX lo hi - i; omega)
      · have hix : i = nX lo hi := by omega
        refine cQ ?_
        refine cX ?_
        refine dF ?_
        refine eJ ?_
        refine cS ?_
        refine aF (aB ?_)
        refine aA (aC (.int _ _) rfl) rfl rfl ?_
        refine aA (fZ rfl rfl (iF _ (by omega) (by omega))) rfl rfl ?_
        refine aA (aD (.int _ _) rfl) rfl rfl ?_
        refine aE ?_
        refine cA (j + 1, q0) (bB (iv rfl (by omega)) dO) (cD rfl (cD rfl (cD rfl (cD rfl fS)))) ?_ ?_
        · exact ⟨⟨by omega, fun h => (by rw [g10] at h; cases h), by rw [xA, ← hix]; exact hq0⟩, hM2⟩
        · (show nY lo hi - (j + 1) < nY lo hi - j; omega)
    · refine cQ ?_
      refine cX ?_
      refine dF ?_
      refine eJ ?_
      refine jQ ?_
      exact ⟨rfl, r, by unfold tP; first | (rw [if_pos g10, show nY lo hi = j by omega]; exact hr) | (rw [if_neg (by rw [g10]; decide)]; rw [hjz g10] at hr; exact hr), hM1⟩
  · refine aS rfl rfl ?_
    refine aS rfl rfl ?_
    refine aS rfl rfl ?_
    refine aS rfl rfl ?_
    refine aA (bQ false (.bool false) rfl rfl) rfl rfl ?_
    refine aE (aF ?_)
    refine cP rfl ?_
    refine cQ ?_
    refine cX ?_
    refine dF ?_
    refine eJ ?_
    refine jQ ?_
    exact ⟨rfl, r, by unfold tP; first | (rw [if_pos g10, show nY lo hi = j by omega]; exact hr) | (rw [if_neg (by rw [g10]; decide)]; rw [hjz g10] at hr; exact hr), hM1⟩
set_option maxHeartbeats 4000000 in
theorem aQd (w : World) (a : Bx) (ha : Okx a) :
    Calls Tryz.prog 161 #[(.agg (dV a).toArray)] w (fun ex w' => ∃ v, ex = .returned v ∧ (fun v w' => ∃ r : Row, v = .slice r.A r.n r.c ∧ bK 226 2 r.A r.n r.c ((gL a).map cV) r.e ∧ Mem w [] [r.e] w') v w') := by
  refine uH #[.tmp 2] 13 Tryz.func161 rfl Tryz.results161 Tryz.ntmps161 rfl ?_
  have M0 := Mem.refl w
  refine nL ?_
  refine lK ?_
  refine bM (.agg (List.toArray _)) M0 rfl rfl rfl (fun b1 w1 M1 => ?_)
  refine aA (aD (.slice _ _ _) rfl) rfl rfl ?_
  refine aE ?_
  refine oC ?_
  refine nL ?_
  refine lK ?_
  refine aV aUm M1 rfl rfl (fun b2 w2 M2 => ?_)
  refine aE ?_
  refine oC ?_
  refine nL ?_
  refine nL ?_
  refine lK ?_
  refine aA (aR 0 iT M2 rfl rfl rfl) rfl rfl ?_
  refine aM aYe rfl rfl rfl ?_
  refine (aJa _ a).mono ?_
  rintro _ w3 ⟨v3, rfl, ⟨bl, bk, bh, rfl, hM3⟩⟩
  refine ⟨_, rfl, ?_⟩
  have M3 : Mem _ _ [_, _, _, _, _] _ := M2.call0 hM3
  refine aE ?_
  refine oC ?_
  refine aDx ?_
  have M4 : Mem _ _ [_, _, _, _, _] _ := ((M3.keep [false, true, true, true, true]).dummy default).perm (List.Perm.cons _ (List.perm_append_comm (l₁ := [_, _, _]) (l₂ := [_])))
  refine aDl aZn M4 rfl (fun fnn B lp tmps w1 hρ hn M1 => ?_)
  refine wU (P := Tryz.prog) (ob := b2) (Tsl := 224) (Te := 226) (sz := 2) (N := 1048576) (ok := (fun x => ∃ a b, x = [.int .i32 a, .int .i32 b])) M1 ?_ (fun hY => ?_)
  · intro wr r ls x hok hlt hrow hO
    obtain ⟨xa, xb, rfl⟩ := hok
    refine ⟨_, _, _, _, aDf hO rfl rfl rfl hn (by decide) hρ ?_⟩
    have MR0 := hO.mem
    refine pT rfl (fun _ _ h => nomatch h.1) ?_
    refine aV oE MR0 rfl rfl (fun b5 w5 M5 => ?_)
    refine bL 3 _ iB M5 rfl rfl rfl rfl rfl (bA rfl) rfl (fun w6 M6 => ?_)
    refine aE ?_
    refine ⟨rfl, _, M6, rfl, fun w7 M7 => ?_⟩
    refine aFh ?_
    refine pT rfl (fun _ _ h => nomatch h.1) ?_
    refine aA (aQ 1 (.slice _ _ _) aJd M7 rfl rfl rfl) rfl rfl ?_
    refine aA (aR 3 iB M7 rfl rfl rfl) rfl rfl ?_
    refine cR [.agg (List.toArray _)] [[.int .i32 xa, .int .i32 xb]] rfl aPw M7 rfl rfl rfl rfl (cZ rfl) (by decide) (fun b8 w8 M8 => ?_)
    refine dB 2 [[.int .i32 xa, .int .i32 xb]] aPw M8 rfl rfl rfl rfl rfl hrow rfl (by simp [Go.Bil.one]) (dD.ofMem 4 M8 rfl) (by omega) (fun A9 c9 e9 w9 M9 hR9 => ?_)
    refine cY 1 (.slice _ _ _) aJd M9 rfl rfl rfl rfl rfl rfl (fun w10 M10 => ?_)
    refine aE ?_
    refine cS ?_
    refine ⟨rfl, _, M10, rfl, fun w11 M11 => ?_⟩
    exact ⟨⟨A9, r.n + 1, c9, e9⟩, rfl, hR9, M11.keep [true, true, true, false, false]⟩
  · refine (aEs _ (loC a) (hiC a) _ bl bk bh (qI 3 M1 rfl rfl) (qI 5 M1 rfl rfl) (qI 4 M1 rfl rfl) (aGt ha) (aIj ha) lp b2 _ hY ⟨none, 0, 0, (none, default)⟩ (bK.nil _ _ _) (M1.ownSeg 0 3) (M1.apartTake 3 3 rfl rfl) (M1.apartTake 3 5 rfl rfl) (M1.apartTake 3 4 rfl rfl)).mono ?_
    rintro _ w5 ⟨v5, rfl, rfl, r, hr, hM⟩
    have M5 : Mem _ _ (_ :: [_, _, _, _, _, _]) _ := M1.seg 0 3 hM
    refine ⟨_, rfl, _, M5, fun w6 M6 => ?_⟩
    refine aWd ?_
    refine oC ?_
    refine nL ?_
    refine aAd ?_
    refine aJy (aQ 1 (.slice _ _ _) aJd M6 rfl rfl rfl) rfl rfl ?_
    refine aJy (aD (.slice _ _ _) rfl) rfl rfl ?_
    refine aJi ?_
    refine oC ?_
    refine aPs ?_
    refine aWz (i := 6) (.slice _ _ _) rfl M6 rfl (fun w9 M9 => ?_)
    exact ⟨r, rfl, hr, M9.keep [false, false, true, false, false, false, false]⟩
set_option maxHeartbeats 4000000 in
theorem aFg (w : World) (F : Rd w 2 (some ⟨0, 0, none⟩) 1 [[.int .u32 73856093, .int .u32 19349663]]) (c : Int × Int) :
    Calls Tryz.prog 162 #[(.agg (cV c).toArray)] w (fun ex w' => ∃ v, ex = .returned v ∧ (fun v w' => v = .int .i64 (dU c : Int) ∧ Below w.heap.size w w') v w') := by
  refine aL #[.tmp 2] 20 Tryz.func162 rfl Tryz.results162 Tryz.ntmps162 rfl ?_
  have M0 := Mem.refl w
  refine aH (aB ?_)
  refine bM (.agg (List.toArray _)) M0 rfl rfl rfl (fun b1 w1 M1 => ?_)
  refine aA (aD (.int _ _) rfl) rfl rfl ?_
  refine aE (aF (aH (aB ?_)))
  refine aA (aG 0 xU rfl) rfl rfl ?_
  refine aA (aQ 0 (.int _ _) aW M1 rfl rfl rfl) rfl rfl ?_
  refine aA (dH dJ Tryz.underlying36 rfl) rfl rfl ?_
  refine aA (cC (0) aPi rfl rfl rfl (by decide)) rfl rfl ?_
  refine aA (dR (k := 0) (o := 0) (.int _ _) cO (F.mem M1) (show ([[.int .u32 73856093, .int .u32 19349663]] : List (List Value))[0]? = some [.int .u32 73856093, .int .u32 19349663] from rfl) rfl rfl) rfl rfl ?_
  refine aA (aN (.int _ _) rfl rfl rfl) rfl rfl ?_
  refine aA (aG 1 yA rfl) rfl rfl ?_
  refine aA (aQ 0 (.int _ _) aW M1 rfl rfl rfl) rfl rfl ?_
  refine aA (dH dJ Tryz.underlying36 rfl) rfl rfl ?_
  refine aA (cC (1) aPi rfl rfl rfl (by decide)) rfl rfl ?_
  refine aA (dR (k := 0) (o := 1) (.int _ _) cO (F.mem M1) (show ([[.int .u32 73856093, .int .u32 19349663]] : List (List Value))[0]? = some [.int .u32 73856093, .int .u32 19349663] from rfl) rfl rfl) rfl rfl ?_
  refine aA (aN (.int _ _) rfl rfl rfl) rfl rfl ?_
  refine aA (aN (.int _ _) rfl rfl rfl) rfl rfl ?_
  refine aA (aD (.int _ _) rfl) rfl rfl ?_
  refine aE (aF (aH (aB ?_)))
  refine aA (aC (.int _ _) rfl) rfl rfl ?_
  refine aA (aN (.int _ _) rfl rfl rfl) rfl rfl ?_
  refine aK 18 (.int .u32 (pX c)) rfl ?_
  refine aA (bC bCy Tryz.underlying3 rfl (eT _ (by have := kJ c; omega) (by have := kJ c; omega))) rfl rfl ?_
  refine aA (aD (.int _ _) rfl) rfl rfl ?_
  refine aE (aF (aU ?_))
  refine cU (.int _ _) rfl ?_
  exact ⟨iE (aNh c), M1.below⟩
end Go.Proofs.YtlmcphcgiclanaaGreatDoor

namespace Go.Proofs.YtlmcphcgiclanaaGreatDoor
open Go.Bil
open Go.RowKit (Below)
open Go.Proofs
set_option maxHeartbeats 16000000 in
theorem aEb (w : World) (F : Rd w 2 (some ⟨0, 0, none⟩) 1 [[.int .u32 73856093, .int .u32 19349663]]) (b : Nat) (rs : List Row) (cnt : Int) (g : Nat → List Int) (hG : GridRows 36 rs g) (hcnt : 0 ≤ cnt ∧ cnt ≤ 1048576) (hgl : ∀ j, j < 1024 → (g j).length ≤ 1048576) (key : Int) (a : Bx) (ha : Okx a) (hO : Own ((some b, bc (dS rs cnt) 191) :: rs.map Row.e) w) (hdF : 0 < 1 → ∀ q off, (some ⟨0, 0, none⟩ : Option Addr) = some ⟨q, off, none⟩ → q ∉ cT ((some b, bc (dS rs cnt) 191) :: rs.map Row.e)) :
    Calls Tryz.prog 133 #[.pointer (some ⟨b, 0, none⟩), .int .u32 key, (.agg (dV a).toArray)] w (fun ex w' => ∃ v, ex = .returned v ∧ (fun v w' => v = .tuple #[] ∧ ∃ rs' : List Row, GridRows 36 rs' (qM g key ((gL a).map dU)) ∧ Mem w (cT ((some b, bc (dS rs cnt) 191) :: rs.map Row.e)) ((some b, bc (dS rs' (cnt + 1)) 191) :: rs'.map Row.e) w') v w') := by
  refine aL #[] 49 Tryz.func133 rfl Tryz.results133 Tryz.ntmps133 rfl ?_
  have M0 := hO.mem
  refine aH (aB ?_)
  refine bM (.agg (List.toArray _)) M0 rfl rfl rfl (fun b1 w1 M1 => ?_)
  have M2 : Mem _ _ ([_, _] ++ _) _ := Mem.front (L := [_]) M1
  refine aE (aF (aH (aH (aB ?_))))
  refine aA (aC (.pointer _) rfl) rfl rfl ?_
  refine aA (xK false Tryz.underlying222 rfl rfl) rfl rfl ?_
  refine aE (aF ?_)
  refine cP rfl ?_
  refine aO (aF (aH (aB ?_)))
  refine aA (aC (.pointer _) rfl) rfl rfl ?_
  refine aA (bO rfl) rfl rfl ?_
  refine aA (aG 1024 aFi rfl) rfl rfl ?_
  refine aA (aQ 0 (.int .i64 cnt) lM M2 rfl rfl (yI hG.len)) rfl rfl ?_
  refine aA (aZ rfl rfl (by omega) (by omega)) rfl rfl ?_
  refine aA (bO rfl) rfl rfl ?_
  refine aA (aG 1024 aFi rfl) rfl rfl ?_
  refine cY 0 (.int _ _) lM M2 rfl rfl rfl rfl rfl (by rw [yI hG.len]; rfl) (fun w3 M3 => ?_)
  have M3b : Mem _ _ ([(some b, bc (dS rs (cnt + 1)) 191), _] ++ rs.map Row.e) _ := Mem.cells0 M3 (zP hG.len)
  refine aE (aF (aH (aB ?_)))
  refine nV M3b rfl rfl (fun b4 w4 M4 => ?_)
  have M5 : Mem _ _ ([_, _, _] ++ _) _ := Mem.front (L := [_, _]) M4
  refine aA (aD (.map _) rfl) rfl rfl ?_
  refine aE (aF (aH (aB ?_)))
  refine aA (aR 1 iT M5 rfl rfl rfl) rfl rfl ?_
  refine aM aYy rfl rfl rfl ?_
  refine (aQd _ a ha).mono ?_
  rintro _ w6 ⟨v6, rfl, ⟨r0, rfl, hR0, hM6⟩⟩
  refine ⟨_, rfl, ?_⟩
  have M6 : Mem _ _ ([_, _, _, _] ++ _) _ := Mem.front (L := [_, _, _]) (M5.call0 hM6)
  have hcl : (gL a).length = r0.n := by simpa using hR0.1
  have hcb := aHr ha
  refine aA (dE Tryz.underlying224 rfl) rfl rfl ?_
  refine aA (aC (.int _ _) rfl) rfl rfl ?_
  refine aE (aF (aT ?_))
  refine dM (σ := Nat × List Row × eQ) [0, 1, 6, 21, 22] (fun (i, rs1, em) => [(23, .int .i64 (i : Int))]) (fun (i, rs1, em) w' => (i ≤ r0.n ∧ GridRows 36 rs1 (qM g key (((gL a).map dU).take i)) ∧ kH .i64 Value.bool (oK (((gL a).map dU).take i)) (some b4) em) ∧ Mem w (cT ((some b, bc (dS rs cnt) 191) :: rs.map Row.e)) ([(some b, bc (dS rs1 (cnt + 1)) 191), (some b1, bc (dV a) 193), em, r0.e] ++ rs1.map Row.e) w') (fun (i, rs1, em) => r0.n - i) (0, rs, (some b4, .map #[] 0)) (bB rfl dO) (⟨⟨by omega, by rw [List.take_zero, aQf]; exact hG, (kH.empty _ _ b4).congr (fun q => by rw [List.take_zero]; exact aNj q)⟩, M6⟩) ?_
  rintro ⟨i, rs1, em⟩ ρ7 w7 ⟨⟨hi, hrs, hme⟩, hM7⟩
  refine aH (aB ?_)
  refine aA (aN (.bool (decide _)) rfl rfl rfl) rfl rfl ?_
  refine aE (aF (aH ?_))
  refine aX rfl (fun h24 => ?_) (fun h24 => ?_)
  · obtain ⟨xc, hxc⟩ := dA (xs := gL a) (k := i) hcl (by omega)
    have hbb : ((gL a).map dU)[i]? = some (dU xc) := by rw [List.getElem?_map, hxc]; rfl
    refine aO (aF (aH (aT (aH (aB ?_)))))
    refine aA (bN (i) aPw rfl rfl rfl ((hR0.rd hM7 (bH (i := 3) rfl)).below_len (aJ cV hxc)) ((hR0.rd hM7 (bH (i := 3) rfl)).someK (aJ cV hxc))) rfl rfl ?_
    refine aA (dG _ iB (hR0.rd hM7 (bH (i := 3) rfl)) (aJ cV hxc) rfl) rfl rfl ?_
    refine aV oE hM7 rfl rfl (fun b8 w8 M8 => ?_)
    have M9 : Mem _ _ ([_, _, _, _, _] ++ _) _ := Mem.front (L := [_, _, _, _]) M8
    refine bL 4 _ iB M9 rfl rfl rfl rfl rfl (bA rfl) rfl (fun w10 M10 => ?_)
    refine aE (aF (aH (aB ?_)))
    refine aA (aR 4 iB M10 rfl rfl rfl) rfl rfl ?_
    refine aM aZu rfl rfl rfl ?_
    refine (aFg _ (F.memY M10 hdF) xc).mono ?_
    rintro _ w11 ⟨v11, rfl, ⟨rfl, hb11⟩⟩
    refine ⟨_, rfl, ?_⟩
    have M11 := M10.callB hb11
    refine aA (aD (.int _ _) rfl) rfl rfl ?_
    refine aE (aF (aH (aH (aB ?_))))
    refine aA (aC (.map _) rfl) rfl rfl ?_
    refine aA (aC (.int _ _) rfl) rfl rfl ?_
    refine aA (jM (enc := Value.bool) false 2 aRo zv4 M11 rfl hme rfl rfl) rfl rfl ?_
    refine aE (aF ?_)
    refine iG _ rfl (fun h31 => ?_) (fun h31 => ?_)
    · refine cQ ?_
      refine cX ?_
      refine eJ ?_
      refine aF (aB ?_)
      refine aA (aZ rfl rfl (by omega) (by omega)) rfl rfl ?_
      refine aA (aC (.int _ _) rfl) rfl rfl ?_
      refine aE ?_
      refine cA (i + 1, rs1, em) (bB rfl dO) (cD rfl (cD rfl (cD rfl (cD rfl (cD rfl fS))))) ?_ ?_
      · exact ⟨⟨by omega, by rw [aRt hbb (tG.1 h31)]; exact hrs, by rw [aMj hbb (tG.1 h31)]; exact hme⟩, Mem.keepL (L := [_, _, _, _, _]) [true, true, true, true, false] M11⟩
      · (show r0.n - (i + 1) < r0.n - i; omega)
    · have hnb : dU xc ∉ ((gL a).map dU).take i := fun h => by have h2 := tG.2 h; rw [h2] at h31; cases h31
      refine aO (aF (aH (aB ?_)))
      refine aA (aC (.map _) rfl) rfl rfl ?_
      refine aA (aC (.int _ _) rfl) rfl rfl ?_
      refine nO (enc := Value.bool) 2 aRo M11 rfl rfl hme rfl rfl rfl rfl (fun e12 w12 hm12 M12 => ?_)
      refine aE (aF ?_)
      refine bY [(0, 0), (1, 0), (2, 0), (3, 0), (4, 0), (5, 0), (6, 0), (7, 1), (8, 0), (11, 0), (12, 0), (9, 2), (10, 2), (13, 0), (14, 2)] mixed rfl (by kernel_rfl) (fun w13 hb13 hh13 => ?_)
      have M13 := M12.drew hb13 hh13
      refine aP rfl rfl rfl (fun _ => aC (.pointer _) rfl) ?_
      refine aP rfl rfl rfl (fun _ => aC (.int _ _) rfl) ?_
      refine aP rfl rfl rfl (fun _ => aC (.pointer _) rfl) ?_
      refine aP rfl rfl rfl (fun _ => aC (.int _ _) rfl) ?_
      refine aP rfl rfl rfl (fun _ => bO rfl) ?_
      refine aP rfl rfl rfl (fun _ => aG 0 wN rfl) ?_
      refine aP rfl rfl rfl (fun _ => cC (dU xc) aGo rfl rfl rfl (jR xc)) ?_
      obtain ⟨rb, hrb⟩ := hrs.get (jR xc)
      have hrowb := hrs.row _ _ hrb
      have hgb : qM g key (((gL a).map dU).take i) (dU xc) = g (dU xc) := by unfold qM; rw [if_neg hnb]
      have hrn : (qM g key (((gL a).map dU).take i) (dU xc)).length = rb.n := by simpa using hrowb.1
      have hgl := hgl (dU xc) (jR xc)
      rw [hgb] at hrn
      have M14 : Mem _ _ ([_, _, _, _, _, _] ++ (rs1.eraseIdx (dU xc)).map Row.e) _ := Mem.pull (L := [_, _, _, _, _]) (rs := rs1) M13 hrb
      refine cB rfl rfl rfl (aQ 0 (.slice _ _ _) aBs M14 rfl rfl (rL hrb)) ?_
      refine aP rfl rfl rfl (fun _ => aC (.int _ _) rfl) ?_
      refine aP rfl rfl rfl (fun _ => bO rfl) ?_
      refine aP rfl rfl rfl (fun _ => aG 0 wN rfl) ?_
      refine eN [false] rfl (by kernel_rfl) ?_
      refine cR [.int _ _] [jD key] rfl aEg M14 rfl rfl rfl rfl (cZ rfl) (by decide) (fun b15 w15 M15 => ?_)
      have M16 : Mem _ _ ([_, _, _, _, _, _, _] ++ _) _ := Mem.front (L := [_, _, _, _, _, _]) M15
      refine aE (aF ⟨(fH (cF rfl (aQ 0 (.slice _ _ _) aBs M16 rfl rfl (rL hrb))) eM), ?_⟩)
      refine eN [true] rfl (by kernel_rfl) ?_
      refine dB 5 [jD key] aEg M16 rfl rfl rfl rfl rfl hrowb rfl (aGy _) (dD.ofMem 6 M16 rfl) (by omega) (fun A17 c17 e17 w17 M17 hR17 => ?_)
      refine aE (aF ⟨eM, ?_⟩)
      refine aP rfl rfl rfl (fun _ => cC (dU xc) aGo rfl rfl rfl (jR xc)) ?_
      refine eN [] rfl (by kernel_rfl) ?_
      refine cY 0 (.slice _ _ _) aBs M17 rfl rfl rfl rfl rfl (by rw [rL hrb]; rfl) (fun w18 M18 => ?_)
      have M18b : Mem _ _ ([(some b, bc (dS (rs1.set (dU xc) (⟨A17, rb.n + 1, c17, e17⟩ : Row)) (cnt + 1)) 191), _, _, _, _, _, _] ++ (rs1.eraseIdx (dU xc)).map Row.e) _ := Mem.cells0 M18 (yU (⟨A17, rb.n + 1, c17, e17⟩ : Row) (by rw [hrs.len]; exact jR xc))
      refine aE (aF ⟨eM, ?_⟩)
      refine cI ?_
      refine cS ?_
      refine aF (aB ?_)
      refine aA (aZ rfl rfl (by omega) (by omega)) rfl rfl ?_
      refine aA (aC (.int _ _) rfl) rfl rfl ?_
      refine aE ?_
      refine cA (i + 1, rs1.set (dU xc) (⟨A17, rb.n + 1, c17, e17⟩ : Row), e12) (bB rfl dO) (cD rfl (cD rfl (cD rfl (cD rfl (cD rfl fS))))) ?_ ?_
      · exact ⟨⟨by omega, by rw [aOn hbb hnb]; exact hrs.put (r := (⟨A17, rb.n + 1, c17, e17⟩ : Row)) (jR xc) (by simpa using hR17), hm12.congr (fun q => aAf hbb q)⟩, Mem.push (L := [_, _, _, _]) (rs := rs1) (⟨A17, rb.n + 1, c17, e17⟩ : Row) (Mem.keepL (L := [_, _, _, _, _, _, _]) [true, true, true, true, false, true, false] M18b) (by rw [hrs.len]; exact jR xc)⟩
      · (show r0.n - (i + 1) < r0.n - i; omega)
  · have hin : i = r0.n := by omega
    rw [List.take_of_length_le (by simp; omega)] at hrs
    refine cQ ?_
    refine cX ?_
    refine dF ?_
    refine eJ ?_
    refine jQ ?_
    exact ⟨rfl, rs1, hrs, Mem.keepL (L := [_, _, _, _]) [true, false, false, false] hM7⟩
end Go.Proofs.YtlmcphcgiclanaaGreatDoor
