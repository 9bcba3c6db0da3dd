/- Part of the proof of the laws of this seat: B8, C9, G10. No conditions. -/
import Derived.Test.YtlmcphcgiclanaaGreatDoorK5
import Derived.Test.YtlmcphcgiclanaaGreatDoorK6
import Derived.Test.YtlmcphcgiclanaaGreatDoorK11
import Derived.Test.YtlmcphcgiclanaaGreatDoorK15
set_option linter.unusedVariables false
set_option linter.unusedSimpArgs false
set_option linter.unnecessarySimpa false
namespace Go.Proofs.YtlmcphcgiclanaaGreatDoor
open Go.Bil
open Go.RowKit (Below)
open Go.Proofs
set_option maxHeartbeats 4000000 in
theorem aCd (w : World) (x : Int) (h0 : -2147483647 ≤ x) (h1 : x ≤ 2147483647) :
    Calls Tryz.prog 215 #[.int .i32 x] w (fun ex w' => ∃ v, ex = .returned v ∧ (fun v w' => v = .int .i32 (max x (-x)) ∧ Below w.heap.size w w') v w') := by
  refine aJ #[.tmp 2] 7 Tryz.func215 rfl Tryz.results215 Tryz.ntmps215 rfl ?_
  have M0 := Mem.refl w
  refine aG (aB ?_)
  refine aA (aD (.int _ _) rfl) rfl rfl ?_
  refine aE (aF (aG (aB ?_)))
  refine aA (aC (.int _ _) rfl) rfl rfl ?_
  refine aA (aC (.int _ _) rfl) rfl rfl ?_
  refine aA (aDf rfl (jM _ (by omega) (by omega))) rfl rfl ?_
  refine aA (kH rfl rfl ) rfl rfl ?_
  refine aA (aD (.int _ _) rfl) rfl rfl ?_
  refine aE (aF (aR ?_))
  refine cI (.int _ _) rfl ?_
  exact ⟨iE (by omega), M0.below⟩
set_option maxHeartbeats 4000000 in
theorem aAv (w : World) (b : Body) (hb : Okb b) :
    Calls Tryz.prog 190 #[(.agg (aI b).toArray)] w (fun ex w' => ∃ v, ex = .returned v ∧ (fun v w' => v = .tuple #[.int .i32 (aHa b), .int .i32 (aIp b)] ∧ Below w.heap.size w w') v w') := by
  have hr := hb.r
  have ha := hb.a
  have hp := hb.p
  refine aJ #[.tmp 2, .tmp 3] 18 Tryz.func190 rfl Tryz.results190 Tryz.ntmps190 rfl ?_
  have M0 := Mem.refl w
  refine aG (aB ?_)
  refine bK (.agg (List.toArray _)) M0 rfl rfl rfl (fun b1 w1 M1 => ?_)
  refine aA (aD (.int _ _) rfl) rfl rfl ?_
  refine aA (aD (.int _ _) rfl) rfl rfl ?_
  refine aE (aF (aG ?_))
  refine bZ [(0, 0), (1, 0), (2, 1), (4, 0), (5, 1), (7, 0), (8, 0), (9, 1), (11, 0), (12, 1), (3, 2), (6, 0), (10, 2), (13, 0), (14, 0), (15, 0)] mixed rfl (by kernel_rfl) (fun w2 hb2 hh2 => ?_)
  have M2 := M1.drew hb2 hh2
  refine aW rfl rfl rfl (fun _ => aH 2 jQ rfl) ?_
  refine aW rfl rfl rfl (fun _ => aH 0 dQ rfl) ?_
  refine cB rfl rfl rfl (aZ 0 (.int _ _) bH M2 rfl rfl rfl) ?_
  refine aW rfl rfl rfl (fun _ => aH 1 mY rfl) ?_
  refine cB rfl rfl rfl (aZ 0 (.int _ _) bH M2 rfl rfl rfl) ?_
  refine aW rfl rfl rfl (fun _ => aH 2 jQ rfl) ?_
  refine aW rfl rfl rfl (fun _ => aH 1 dH rfl) ?_
  refine cB rfl rfl rfl (aZ 0 (.int _ _) bH M2 rfl rfl rfl) ?_
  refine aW rfl rfl rfl (fun _ => aH 1 mY rfl) ?_
  refine cB rfl rfl rfl (aZ 0 (.int _ _) bH M2 rfl rfl rfl) ?_
  refine eB [false, false, false, true] rfl (by kernel_rfl) ?_
  refine aL aNm rfl rfl rfl ?_
  refine (aCd _ _ (by omega) (by omega)).mono ?_
  rintro _ w3 ⟨v3, rfl, ⟨rfl, hb3⟩⟩
  refine ⟨_, rfl, ?_⟩
  have M3 := M2.callB hb3
  refine aE (aF ⟨(kO (dG rfl (aZ 0 (.int _ _) bH M3 rfl rfl rfl)) (kO (dG rfl (aZ 0 (.int _ _) bH M3 rfl rfl rfl)) (kO (dG rfl (aZ 0 (.int _ _) bH M3 rfl rfl rfl)) dZ))), ?_⟩)
  refine aW rfl rfl rfl (fun _ => fZ rfl rfl (jM _ (by omega) (by omega))) ?_
  refine eB [false, true, false] rfl (by kernel_rfl) ?_
  refine aL aNm rfl rfl rfl ?_
  refine (aCd _ _ (by omega) (by omega)).mono ?_
  rintro _ w4 ⟨v4, rfl, ⟨rfl, hb4⟩⟩
  refine ⟨_, rfl, ?_⟩
  have M4 := M3.callB hb4
  refine aE (aF ⟨(kO (dG rfl (aZ 0 (.int _ _) bH M4 rfl rfl rfl)) (kO (dG rfl (aZ 0 (.int _ _) bH M4 rfl rfl rfl)) dZ)), ?_⟩)
  refine aW rfl rfl rfl (fun _ => fZ rfl rfl (jM _ (by omega) (by omega))) ?_
  refine aW rfl rfl rfl (fun _ => aD (.int _ _) rfl) ?_
  refine aW rfl rfl rfl (fun _ => aD (.int _ _) rfl) ?_
  refine cE ?_
  refine aF (aR ?_)
  refine fG (.int _ _) (.int _ _) rfl rfl ?_
  exact ⟨rfl, M4.below⟩
set_option maxHeartbeats 4000000 in
theorem aUy (w : World) (b : Body) (hb : Okb b) :
    Calls Tryz.prog 160 #[(.agg (aI b).toArray)] w (fun ex w' => ∃ v, ex = .returned v ∧ (fun v w' => v = (.agg (cT (fW b)).toArray) ∧ Below w.heap.size w w') v w') := by
  have hr := hb.r
  have ha := hb.a
  have hp := hb.p
  have he := aNp hb
  refine aJ #[.cell 2 193] 31 Tryz.func160 rfl Tryz.results160 Tryz.ntmps160 rfl ?_
  have M0 := Mem.refl w
  refine aG (aB ?_)
  refine bK (.agg (List.toArray _)) M0 rfl rfl rfl (fun b1 w1 M1 => ?_)
  refine aS zE M1 rfl rfl (fun b2 w2 M2 => ?_)
  refine aE (aF (aG (aB ?_)))
  refine aA (bB 0 bW M2 rfl rfl rfl) rfl rfl ?_
  refine aL aUz rfl rfl rfl ?_
  refine (aAv _ b hb).mono ?_
  rintro _ w3 ⟨v3, rfl, ⟨rfl, hb3⟩⟩
  refine ⟨_, rfl, ?_⟩
  have M3 := M2.callB hb3
  refine aA (aC (.tuple (List.toArray _)) rfl) rfl rfl ?_
  refine aA (bE (.int _ _) rfl rfl) rfl rfl ?_
  refine aA (bE (.int _ _) rfl rfl) rfl rfl ?_
  refine aA (aD (.int _ _) rfl) rfl rfl ?_
  refine aA (aD (.int _ _) rfl) rfl rfl ?_
  refine aE (aF (aG (aB ?_)))
  refine aA (aH 6 eK rfl) rfl rfl ?_
  refine aA (aH 0 dQ rfl) rfl rfl ?_
  refine aA (aZ 0 (.int _ _) bH M3 rfl rfl rfl) rfl rfl ?_
  refine aA (aC (.int _ _) rfl) rfl rfl ?_
  refine aA (jG rfl rfl (jM _ (by omega) (by omega))) rfl rfl ?_
  refine aA (aH 6 eK rfl) rfl rfl ?_
  refine aA (aH 1 dH rfl) rfl rfl ?_
  refine aA (aZ 0 (.int _ _) bH M3 rfl rfl rfl) rfl rfl ?_
  refine aA (aC (.int _ _) rfl) rfl rfl ?_
  refine aA (jG rfl rfl (jM _ (by omega) (by omega))) rfl rfl ?_
  refine aA (aH 6 eK rfl) rfl rfl ?_
  refine aA (aH 0 dQ rfl) rfl rfl ?_
  refine aA (aZ 0 (.int _ _) bH M3 rfl rfl rfl) rfl rfl ?_
  refine aA (aC (.int _ _) rfl) rfl rfl ?_
  refine aA (fZ rfl rfl (jM _ (by omega) (by omega))) rfl rfl ?_
  refine aA (aH 6 eK rfl) rfl rfl ?_
  refine aA (aH 1 dH rfl) rfl rfl ?_
  refine aA (aZ 0 (.int _ _) bH M3 rfl rfl rfl) rfl rfl ?_
  refine aA (aC (.int _ _) rfl) rfl rfl ?_
  refine aA (fZ rfl rfl (jM _ (by omega) (by omega))) rfl rfl ?_
  refine aA (cC [(0, .int _ _), (1, .int _ _), (2, .int _ _), (3, .int _ _)] _ xF rfl rfl) rfl rfl ?_
  refine bJ 1 _ fX M3 rfl rfl rfl rfl rfl (aU rfl) rfl (fun w4 M4 => ?_)
  refine aE (aF (aR ?_))
  refine jZ 1 fX M4 rfl rfl rfl ?_
  exact ⟨rfl, M4.below⟩
set_option maxHeartbeats 4000000 in
theorem qB (w : World) (a : Bx) :
    Calls Tryz.prog 192 #[(.agg (cT a).toArray)] w (fun ex w' => ∃ v, ex = .returned v ∧ (fun v w' => v = .bool (decide (fI a)) ∧ Below w.heap.size w w') v w') := by
  refine aJ #[.tmp 2] 15 Tryz.func192 rfl Tryz.results192 Tryz.ntmps192 rfl ?_
  have M0 := Mem.refl w
  refine aG (aB ?_)
  refine bK (.agg (List.toArray _)) M0 rfl rfl rfl (fun b1 w1 M1 => ?_)
  refine aA (aD (.bool false) rfl) rfl rfl ?_
  refine aE (aF (aG (aB ?_)))
  refine aA (aH 0 oY rfl) rfl rfl ?_
  refine aA (aZ 0 (.int _ _) bH M1 rfl rfl rfl) rfl rfl ?_
  refine aA (aH 2 pA rfl) rfl rfl ?_
  refine aA (aZ 0 (.int _ _) bH M1 rfl rfl rfl) rfl rfl ?_
  refine aA (aO (.bool (decide _)) rfl rfl rfl) rfl rfl ?_
  refine aA (aC (.bool (decide _)) rfl) rfl rfl ?_
  refine dK 8 rfl (fun g8 => ?_) (fun g8 => ?_)
  · refine aT rfl rfl ?_
    refine aT rfl rfl ?_
    refine aT rfl rfl ?_
    refine aT rfl rfl ?_
    refine aT rfl rfl ?_
    refine aA (bP true (.bool true) rfl rfl) rfl rfl ?_
    refine aA (aD (.bool true) rfl) rfl rfl ?_
    refine aE (aF (aR ?_))
    refine cI (.bool true) rfl ?_
    exact ⟨by unfold fI; first | exact bT (by omega) | exact bD (by omega), M1.below⟩
  · refine aA (aH 1 pN rfl) rfl rfl ?_
    refine aA (aZ 0 (.int _ _) bH M1 rfl rfl rfl) rfl rfl ?_
    refine aA (aH 3 pM rfl) rfl rfl ?_
    refine aA (aZ 0 (.int _ _) bH M1 rfl rfl rfl) rfl rfl ?_
    refine aA (aO (.bool (decide _)) rfl rfl rfl) rfl rfl ?_
    refine aA (bP false (.bool (decide _)) rfl rfl) rfl rfl ?_
    refine aA (aD (.bool (decide _)) rfl) rfl rfl ?_
    refine aE (aF (aR ?_))
    refine cI (.bool (decide _)) rfl ?_
    exact ⟨by unfold fI; first | exact bT (by omega) | exact bD (by omega), M1.below⟩
set_option maxHeartbeats 4000000 in
theorem aMm (w : World) (N : Rd w 4 (some ⟨3, 0, none⟩) 1 [cT gT]) (a b : Bx) :
    Calls Tryz.prog 193 #[(.agg (cT a).toArray), (.agg (cT b).toArray)] w (fun ex w' => ∃ v, ex = .returned v ∧ (fun v w' => v = (.agg (cT (wE a b)).toArray) ∧ Below w.heap.size w w') v w') := by
  refine aJ #[.cell 4 193] 31 Tryz.func193 rfl Tryz.results193 Tryz.ntmps193 rfl ?_
  have M0 := Mem.refl w
  refine aG (aB ?_)
  refine bK (.agg (List.toArray _)) M0 rfl rfl rfl (fun b1 w1 M1 => ?_)
  refine bK (.agg (List.toArray _)) M1 rfl rfl rfl (fun b2 w2 M2 => ?_)
  refine aS zE M2 rfl rfl (fun b3 w3 M3 => ?_)
  refine aE (aF (aG (aB ?_)))
  refine aA (aH 0 oY rfl) rfl rfl ?_
  refine aA (aZ 0 (.int _ _) bH M3 rfl rfl rfl) rfl rfl ?_
  refine aA (aH 0 oY rfl) rfl rfl ?_
  refine aA (aZ 1 (.int _ _) bH M3 rfl rfl rfl) rfl rfl ?_
  refine aA (kH rfl rfl ) rfl rfl ?_
  refine aA (aH 1 pN rfl) rfl rfl ?_
  refine aA (aZ 0 (.int _ _) bH M3 rfl rfl rfl) rfl rfl ?_
  refine aA (aH 1 pN rfl) rfl rfl ?_
  refine aA (aZ 1 (.int _ _) bH M3 rfl rfl rfl) rfl rfl ?_
  refine aA (kH rfl rfl ) rfl rfl ?_
  refine aA (aH 2 pA rfl) rfl rfl ?_
  refine aA (aZ 0 (.int _ _) bH M3 rfl rfl rfl) rfl rfl ?_
  refine aA (aH 2 pA rfl) rfl rfl ?_
  refine aA (aZ 1 (.int _ _) bH M3 rfl rfl rfl) rfl rfl ?_
  refine aA (uG rfl rfl ) rfl rfl ?_
  refine aA (aH 3 pM rfl) rfl rfl ?_
  refine aA (aZ 0 (.int _ _) bH M3 rfl rfl rfl) rfl rfl ?_
  refine aA (aH 3 pM rfl) rfl rfl ?_
  refine aA (aZ 1 (.int _ _) bH M3 rfl rfl rfl) rfl rfl ?_
  refine aA (uG rfl rfl ) rfl rfl ?_
  refine aA (cC [(0, .int _ _), (1, .int _ _), (2, .int _ _), (3, .int _ _)] _ xF rfl rfl) rfl rfl ?_
  refine aS zE M3 rfl rfl (fun b4 w4 M4 => ?_)
  refine bJ 3 _ fX M4 rfl rfl rfl rfl rfl (aU rfl) rfl (fun w5 M5 => ?_)
  refine aE (aF (aG (aG (aB ?_))))
  refine aA (bB 3 fX M5 rfl rfl rfl) rfl rfl ?_
  refine aL aEe rfl rfl rfl ?_
  refine (qB _ ⟨max a.x0 b.x0, max a.y0 b.y0, min a.x1 b.x1, min a.y1 b.y1⟩).mono ?_
  rintro _ w6 ⟨v6, rfl, ⟨rfl, hb6⟩⟩
  refine ⟨_, rfl, ?_⟩
  have M6 := M5.callB hb6
  refine aE (aF ?_)
  refine aY rfl (fun h28 => ?_) (fun h28 => ?_)
  · refine aG (aB ?_)
    refine aA (lU (k := 0) (o := 0) _ fX (N.mem M6) (show ([cT gT] : List (List Value))[0]? = some (cT gT) from rfl) rfl rfl rfl) rfl rfl ?_
    refine bJ 2 _ fX M6 rfl rfl rfl rfl rfl (aU rfl) rfl (fun w7 M7 => ?_)
    refine aE (aF (aR (cP ?_)))
    refine jZ 2 fX M7 rfl rfl rfl ?_
    exact ⟨by unfold wE; rw [if_pos h28]; rfl, M7.below⟩
  · refine aN (aF (aG (aB ?_)))
    refine aA (bB 3 fX M6 rfl rfl rfl) rfl rfl ?_
    refine bJ 2 _ fX M6 rfl rfl rfl rfl rfl (aU rfl) rfl (fun w8 M8 => ?_)
    refine aE (aF (aR ?_))
    refine jZ 2 fX M8 rfl rfl rfl ?_
    exact ⟨by unfold wE; rw [if_neg h28]; rfl, M8.below⟩
set_option maxHeartbeats 4000000 in
theorem aAt (w : World) (N : Rd w 4 (some ⟨3, 0, none⟩) 1 [cT gT]) (a b : Bx) :
    Calls Tryz.prog 164 #[(.agg (cT a).toArray), (.agg (cT b).toArray)] w (fun ex w' => ∃ v, ex = .returned v ∧ (fun v w' => v = .bool (decide (ovl a b)) ∧ Below w.heap.size w w') v w') := by
  refine aJ #[.tmp 4] 10 Tryz.func164 rfl Tryz.results164 Tryz.ntmps164 rfl ?_
  have M0 := Mem.refl w
  refine aG (aB ?_)
  refine bK (.agg (List.toArray _)) M0 rfl rfl rfl (fun b1 w1 M1 => ?_)
  refine bK (.agg (List.toArray _)) M1 rfl rfl rfl (fun b2 w2 M2 => ?_)
  refine aA (aD (.bool false) rfl) rfl rfl ?_
  refine aE (aF (aG (aB ?_)))
  refine aA (bB 0 fX M2 rfl rfl rfl) rfl rfl ?_
  refine aA (bB 1 fX M2 rfl rfl rfl) rfl rfl ?_
  refine aL aSx rfl rfl rfl ?_
  refine (aMm _ (N.mem M2) a b).mono ?_
  rintro _ w3 ⟨v3, rfl, ⟨rfl, hb3⟩⟩
  refine ⟨_, rfl, ?_⟩
  have M3 := M2.callB hb3
  refine aL aEe rfl rfl rfl ?_
  refine (qB _ (wE a b)).mono ?_
  rintro _ w4 ⟨v4, rfl, ⟨rfl, hb4⟩⟩
  refine ⟨_, rfl, ?_⟩
  have M4 := M3.callB hb4
  refine aA (nW rfl) rfl rfl ?_
  refine aA (aD (.bool (decide _)) rfl) rfl rfl ?_
  refine aE (aF (aR ?_))
  refine cI (.bool (decide _)) rfl ?_
  exact ⟨bD (aKf a b), M4.below⟩
end Go.Proofs.YtlmcphcgiclanaaGreatDoor

namespace Go.Proofs.YtlmcphcgiclanaaGreatDoor
open Go.Bil
open Go.RowKit (Below)
open Go.Proofs
set_option maxHeartbeats 4000000 in
theorem aFr (w : World) (x y : Int) :
    Calls Tryz.prog 229 #[.agg [.int .i32 x, .int .i32 y].toArray] w (fun ex w' => ∃ v, ex = .returned v ∧ (fun v w' => v = (.agg (bV (jH x, jH y)).toArray) ∧ Below w.heap.size w w') v w') := by
  refine aJ #[.cell 2 226] 10 Tryz.func229 rfl Tryz.results229 Tryz.ntmps229 rfl ?_
  have M0 := Mem.refl w
  refine aG (aB ?_)
  refine bK (.agg (List.toArray _)) M0 rfl rfl rfl (fun b1 w1 M1 => ?_)
  refine aS lI M1 rfl rfl (fun b2 w2 M2 => ?_)
  refine aE (aF (aG (aB ?_)))
  refine aA (aH 0 dQ rfl) rfl rfl ?_
  refine aA (aZ 0 (.int _ _) bH M2 rfl rfl rfl) rfl rfl ?_
  refine aA (gQ rfl rfl (by decide)) rfl rfl ?_
  refine aM 5 (.int .i32 (jH x)) (iE (aSj x)) ?_
  refine aA (aH 1 dH rfl) rfl rfl ?_
  refine aA (aZ 0 (.int _ _) bH M2 rfl rfl rfl) rfl rfl ?_
  refine aA (gQ rfl rfl (by decide)) rfl rfl ?_
  refine aM 8 (.int .i32 (jH y)) (iE (aSj y)) ?_
  refine aA (cC [(0, .int _ _), (1, .int _ _)] _ xC rfl rfl) rfl rfl ?_
  refine bJ 1 _ fH M2 rfl rfl rfl rfl rfl (aU rfl) rfl (fun w3 M3 => ?_)
  refine aE (aF (aR ?_))
  refine jZ 1 fH M3 rfl rfl rfl ?_
  exact ⟨rfl, M3.below⟩
set_option maxHeartbeats 4000000 in
theorem aHo (w : World) (a : Bx) :
    Calls Tryz.prog 216 #[(.agg (cT a).toArray)] w (fun ex w' => ∃ v, ex = .returned v ∧ (fun v w' => v = .tuple #[(.agg (bV (loC a)).toArray), (.agg (bV (hiC a)).toArray), .bool (decide (¬ fI a))] ∧ Below w.heap.size w w') v w') := by
  refine aJ #[.cell 2 226, .cell 3 226, .tmp 4] 21 Tryz.func216 rfl Tryz.results216 Tryz.ntmps216 rfl ?_
  have M0 := Mem.refl w
  refine aG (aB ?_)
  refine bK (.agg (List.toArray _)) M0 rfl rfl rfl (fun b1 w1 M1 => ?_)
  refine aS lI M1 rfl rfl (fun b2 w2 M2 => ?_)
  refine aS lI M2 rfl rfl (fun b3 w3 M3 => ?_)
  refine aA (aD (.bool false) rfl) rfl rfl ?_
  refine aE (aF (aG (aG (aB ?_))))
  refine aA (bB 0 fX M3 rfl rfl rfl) rfl rfl ?_
  refine aL aEe rfl rfl rfl ?_
  refine (qB _ a).mono ?_
  rintro _ w4 ⟨v4, rfl, ⟨rfl, hb4⟩⟩
  refine ⟨_, rfl, ?_⟩
  have M4 := M3.callB hb4
  refine aE (aF ?_)
  refine aY rfl (fun h6 => ?_) (fun h6 => ?_)
  · refine aG ?_
    refine bZ [(0, 1), (1, 1), (2, 2), (3, 2), (4, 0)] mixed rfl (by kernel_rfl) (fun w5 hb5 hh5 => ?_)
    have M5 := M4.drew hb5 hh5
    refine cB rfl rfl rfl (bB 1 fH M5 rfl rfl rfl) ?_
    refine cB rfl rfl rfl (bB 2 fH M5 rfl rfl rfl) ?_
    refine eB [false, true] rfl (by kernel_rfl) ?_
    refine bJ 1 _ fH M5 rfl rfl rfl rfl rfl (aU rfl) rfl (fun w6 M6 => ?_)
    refine aE (aF ⟨(kO (dG rfl (bB 2 fH M6 rfl rfl rfl)) dZ), ?_⟩)
    refine eB [true] rfl (by kernel_rfl) ?_
    refine bJ 2 _ fH M6 rfl rfl rfl rfl rfl (aU rfl) rfl (fun w7 M7 => ?_)
    refine aE (aF ⟨dZ, ?_⟩)
    refine aW rfl rfl rfl (fun _ => aD (.bool false) rfl) ?_
    refine cE ?_
    refine aF (aR (cP ?_))
    refine aRn (v3 := .bool false) 1 2 fH M7 rfl rfl rfl rfl rfl rfl rfl ?_
    exact ⟨by unfold loC hiC; rw [if_pos h6, if_pos h6, decide_eq_false (fun h => h h6)]; rfl, M7.below⟩
  · refine aN (aF (aG ?_))
    refine bZ [(0, 0), (1, 1), (2, 0), (3, 1), (4, 0), (6, 0), (7, 1), (8, 0), (9, 1), (10, 0), (5, 2), (11, 2), (12, 2), (13, 2), (14, 0)] mixed rfl (by kernel_rfl) (fun w8 hb8 hh8 => ?_)
    have M8 := M4.drew hb8 hh8
    refine aW rfl rfl rfl (fun _ => aH 0 oY rfl) ?_
    refine cB rfl rfl rfl (aZ 0 (.int _ _) bH M8 rfl rfl rfl) ?_
    refine aW rfl rfl rfl (fun _ => aH 1 pN rfl) ?_
    refine cB rfl rfl rfl (aZ 0 (.int _ _) bH M8 rfl rfl rfl) ?_
    refine aW rfl rfl rfl (fun _ => cC [(0, .int _ _), (1, .int _ _)] _ dY rfl rfl) ?_
    refine aW rfl rfl rfl (fun _ => aH 2 pA rfl) ?_
    refine cB rfl rfl rfl (aZ 0 (.int _ _) bH M8 rfl rfl rfl) ?_
    refine aW rfl rfl rfl (fun _ => aH 3 pM rfl) ?_
    refine cB rfl rfl rfl (aZ 0 (.int _ _) bH M8 rfl rfl rfl) ?_
    refine aW rfl rfl rfl (fun _ => cC [(0, .int _ _), (1, .int _ _)] _ dY rfl rfl) ?_
    refine eB [false, false, true, true] rfl (by kernel_rfl) ?_
    refine aL aNc rfl rfl rfl ?_
    refine (aFr _ a.x0 a.y0).mono ?_
    rintro _ w9 ⟨v9, rfl, ⟨rfl, hb9⟩⟩
    refine ⟨_, rfl, ?_⟩
    have M9 := M8.callB hb9
    refine aE (aF ⟨(kO (dG rfl (aZ 0 (.int _ _) bH M9 rfl rfl rfl)) (kO (dG rfl (aZ 0 (.int _ _) bH M9 rfl rfl rfl)) dZ)), ?_⟩)
    refine eB [true, true] rfl (by kernel_rfl) ?_
    refine aL aNc rfl rfl rfl ?_
    refine (aFr _ a.x1 a.y1).mono ?_
    rintro _ w10 ⟨v10, rfl, ⟨rfl, hb10⟩⟩
    refine ⟨_, rfl, ?_⟩
    have M10 := M9.callB hb10
    refine aE (aF ⟨dZ, ?_⟩)
    refine eB [] rfl (by kernel_rfl) ?_
    refine bJ 1 _ fH M10 rfl rfl rfl rfl rfl (aU rfl) rfl (fun w11 M11 => ?_)
    refine aE (aF ⟨dZ, ?_⟩)
    refine eB [] rfl (by kernel_rfl) ?_
    refine bJ 2 _ fH M11 rfl rfl rfl rfl rfl (aU rfl) rfl (fun w12 M12 => ?_)
    refine aE (aF ⟨dZ, ?_⟩)
    refine aW rfl rfl rfl (fun _ => aD (.bool true) rfl) ?_
    refine cE ?_
    refine aF (aR ?_)
    refine aRn (v3 := .bool true) 1 2 fH M12 rfl rfl rfl rfl rfl rfl rfl ?_
    exact ⟨by unfold loC hiC; rw [if_neg h6, if_neg h6, decide_eq_true h6], M12.below⟩
set_option maxHeartbeats 4000000 in
theorem aEv (w : World) (a : Bx) :
    Calls Tryz.prog 191 #[(.agg (cT a).toArray)] w (fun ex w' => ∃ v, ex = .returned v ∧ (fun v w' => ∃ b1 b2 b3, v = .func (.func 217) #[] #[.pointer (some ⟨b1, 0, none⟩), .pointer (some ⟨b2, 0, none⟩), .pointer (some ⟨b3, 0, none⟩)] ∧ Mem w [] [(some b1, bc (bV (loC a)) 226), (some b3, bc (bV (hiC a)) 226), (some b2, bc [.bool (decide (¬ fI a))] 4)] w') v w') := by
  refine aJ #[.tmp 2] 13 Tryz.func191 rfl Tryz.results191 Tryz.ntmps191 rfl ?_
  have M0 := Mem.refl w
  refine aG (aB ?_)
  refine bK (.agg (List.toArray _)) M0 rfl rfl rfl (fun b1 w1 M1 => ?_)
  refine aA (aD (_) rfl) rfl rfl ?_
  refine aE (aF (aG (aB ?_)))
  refine aA (bB 0 fX M1 rfl rfl rfl) rfl rfl ?_
  refine aL aSz rfl rfl rfl ?_
  refine (aHo _ a).mono ?_
  rintro _ w2 ⟨v2, rfl, ⟨rfl, hb2⟩⟩
  refine ⟨_, rfl, ?_⟩
  have M2 := M1.callB hb2
  refine aA (aC (.tuple (List.toArray _)) rfl) rfl rfl ?_
  refine aA (bE (.agg (List.toArray _)) rfl rfl) rfl rfl ?_
  refine aA (bE (.agg (List.toArray _)) rfl rfl) rfl rfl ?_
  refine aA (bE (.bool (decide _)) rfl rfl) rfl rfl ?_
  refine aS lI M2 rfl rfl (fun b3 w3 M3 => ?_)
  refine aS lI M3 rfl rfl (fun b4 w4 M4 => ?_)
  refine aS aLd M4 rfl rfl (fun b5 w5 M5 => ?_)
  refine bJ 1 _ fH M5 rfl rfl rfl rfl rfl (aU rfl) rfl (fun w6 M6 => ?_)
  refine bJ 2 _ fH M6 rfl rfl rfl rfl rfl (aU rfl) rfl (fun w7 M7 => ?_)
  refine eC 3 (.bool (decide _)) lV M7 rfl rfl rfl rfl rfl rfl (fun w8 M8 => ?_)
  refine aE (aF (aG (aB ?_)))
  refine aA (dC [] [.pointer _, .pointer _, .pointer _] rfl rfl) rfl rfl ?_
  refine aA (aD (.func _ _ _) rfl) rfl rfl ?_
  refine aE (aF (aR ?_))
  refine cI (.func _ _ _) rfl ?_
  exact ⟨b3, b5, b4, rfl, M8.keep [false, true, true, true]⟩
set_option maxHeartbeats 4000000 in
theorem aBj (w : World) (lo hi : Int × Int) (ok : Bool) (b1 b2 b3 : Nat) (L1 : Rd w 2 (some ⟨b1, 0, none⟩) 1 [bV lo]) (L2 : Rd w 1 (some ⟨b2, 0, none⟩) 1 [[.bool ok]]) (L3 : Rd w 2 (some ⟨b3, 0, none⟩) 1 [bV hi]) (hlo : Okc lo) (hhi : Okc hi) (lp ob : Nat) (rec : Loop) (hY : pC Tryz.prog lp ob rec 224 226 2 1048576 (fun x => ∃ a b, x = [.int .i32 a, .int .i32 b])) (r0 : Row) (hr0 : aX 226 2 r0.A r0.n r0.c [] r0.e) (hO : Own [(some lp, .loop rec), (some ob, bc [.slice r0.A r0.n r0.c] 224), r0.e] w) (hd1 : 0 < 1 → ∀ q off, (some ⟨b1, 0, none⟩ : Option Addr) = some ⟨q, off, none⟩ → q ∉ bU [(some lp, .loop rec), (some ob, bc [.slice r0.A r0.n r0.c] 224), r0.e]) (hd2 : 0 < 1 → ∀ q off, (some ⟨b2, 0, none⟩ : Option Addr) = some ⟨q, off, none⟩ → q ∉ bU [(some lp, .loop rec), (some ob, bc [.slice r0.A r0.n r0.c] 224), r0.e]) (hd3 : 0 < 1 → ∀ q off, (some ⟨b3, 0, none⟩ : Option Addr) = some ⟨q, off, none⟩ → q ∉ bU [(some lp, .loop rec), (some ob, bc [.slice r0.A r0.n r0.c] 224), r0.e]) :
    Calls Tryz.prog 217 #[.func (.yield lp) #[] #[], .pointer (some ⟨b1, 0, none⟩), .pointer (some ⟨b2, 0, none⟩), .pointer (some ⟨b3, 0, none⟩)] w (fun ex w' => ∃ v, ex = .returned v ∧ (fun v w' => v = .tuple #[] ∧ ∃ r : Row, aX 226 2 r.A r.n r.c ((qF ok lo hi).map bV) r.e ∧ Mem w (bU [(some lp, .loop rec), (some ob, bc [.slice r0.A r0.n r0.c] 224), r0.e]) [(some lp, .loop rec), (some ob, bc [.slice r.A r.n r.c] 224), r.e] w') v w') := by
  rw [← fM b1, ← fM b2, ← fM b3]
  have hxd : nX lo hi = (hi.1 - lo.1 + 1).toNat := rfl
  have hyd : nY lo hi = (hi.2 - lo.2 + 1).toNat := rfl
  have hlx := hlo.x
  have hly := hlo.y
  have hhx := hhi.x
  have hhy := hhi.y
  have hnx := aRx hlo hhi
  have hny := aSa hlo hhi
  refine aJ #[] 32 Tryz.func217 rfl Tryz.results217 Tryz.ntmps217 rfl ?_
  have M0 := hO.mem
  refine aG (aB ?_)
  refine aA (bM 1 uO (L1.memY M0 hd1) (Nat.lt_of_le_of_lt (Nat.zero_le _) ((L1.memY M0 hd1).below_len (show ([bV lo] : List (List Value))[0]? = some (bV lo) from rfl))) rfl) rfl rfl ?_
  refine aA (eI (o := 1) (.int _ _) bH (L1.memY M0 hd1) (show ([bV lo] : List (List Value))[0]? = some (bV lo) from rfl) rfl rfl) rfl rfl ?_
  refine aA (aD (.int _ _) rfl) rfl rfl ?_
  refine aE (aF (bA ?_))
  refine dI (σ := Nat × Row) [0, 1, 2, 3] (fun (j, r) => [(5, .int .i32 (lo.2 + (j : Int)))]) (fun (j, r) w' => (j ≤ nY lo hi ∧ (ok = false → j = 0) ∧ aX 226 2 r.A r.n r.c ((kC lo hi j).map bV) r.e) ∧ Mem w (bU [(some lp, .loop rec), (some ob, bc [.slice r0.A r0.n r0.c] 224), r0.e]) [(some lp, .loop rec), (some ob, bc [.slice r.A r.n r.c] 224), r.e] w') (fun (j, r) => nY lo hi - j) (0, r0) (bS (iv rfl (by simp)) eV) (⟨⟨by omega, fun _ => rfl, hr0⟩, M0⟩) ?_
  rintro ⟨j, r⟩ ρ1 w1 ⟨⟨hj, hjz, hr⟩, hM1⟩
  refine aG (aG (aB ?_))
  refine aA (eI (o := 0) (.bool _) lV (L2.memY hM1 hd2) (show ([[.bool ok]] : List (List Value))[0]? = some ([.bool ok]) from rfl) rfl rfl) rfl rfl ?_
  refine aA (aC (.bool _) rfl) rfl rfl ?_
  refine iS 10 _ rfl (fun g10 => ?_) (fun g10 => ?_)
  · refine aA (aC (.int _ _) rfl) rfl rfl ?_
    refine aA (bM 1 uO (L3.memY hM1 hd3) (Nat.lt_of_le_of_lt (Nat.zero_le _) ((L3.memY hM1 hd3).below_len (show ([bV hi] : List (List Value))[0]? = some (bV hi) from rfl))) rfl) rfl rfl ?_
    refine aA (eI (o := 1) (.int _ _) bH (L3.memY hM1 hd3) (show ([bV hi] : List (List Value))[0]? = some (bV hi) from rfl) rfl rfl) rfl rfl ?_
    refine aA (aO (.bool (decide _)) rfl rfl rfl) rfl rfl ?_
    refine aA (bP true (.bool (decide _)) rfl rfl) rfl rfl ?_
    refine aE (aF ?_)
    refine aY rfl (fun h15 => ?_) (fun h15 => ?_)
    · refine aN (aF (aG (bA (aG (aB ?_)))))
      refine aA (bM 0 tN (L1.memY hM1 hd1) (Nat.lt_of_le_of_lt (Nat.zero_le _) ((L1.memY hM1 hd1).below_len (show ([bV lo] : List (List Value))[0]? = some (bV lo) from rfl))) rfl) rfl rfl ?_
      refine aA (eI (o := 0) (.int _ _) bH (L1.memY hM1 hd1) (show ([bV lo] : List (List Value))[0]? = some (bV lo) from rfl) rfl rfl) rfl rfl ?_
      refine aA (aD (.int _ _) rfl) rfl rfl ?_
      refine aE (aF (bA ?_))
      refine dI (σ := Nat × Row) [0, 1, 2, 3, 5] (fun (i, q0) => [(6, .int .i32 (lo.1 + (i : Int)))]) (fun (i, q0) w' => (i ≤ nX lo hi ∧ aX 226 2 q0.A q0.n q0.c ((kC lo hi j ++ vA lo i j).map bV) q0.e) ∧ Mem w (bU [(some lp, .loop rec), (some ob, bc [.slice r0.A r0.n r0.c] 224), r0.e]) [(some lp, .loop rec), (some ob, bc [.slice q0.A q0.n q0.c] 224), q0.e] w') (fun (i, q0) => nX lo hi - i) (0, r) (bS (iv rfl (by simp)) eV) (⟨⟨by omega, by simpa [vA] using hr⟩, hM1⟩) ?_
      rintro ⟨i, q0⟩ ρ2 w2 ⟨⟨hi2, hq0⟩, hM2⟩
      have hql : (kC lo hi j).length + i = q0.n := by simpa [zW] using hq0.1
      refine aG (aG (aB ?_))
      refine aA (aC (.int _ _) rfl) rfl rfl ?_
      refine aA (bM 0 tN (L3.memY hM2 hd3) (Nat.lt_of_le_of_lt (Nat.zero_le _) ((L3.memY hM2 hd3).below_len (show ([bV hi] : List (List Value))[0]? = some (bV hi) from rfl))) rfl) rfl rfl ?_
      refine aA (eI (o := 0) (.int _ _) bH (L3.memY hM2 hd3) (show ([bV hi] : List (List Value))[0]? = some (bV hi) from rfl) rfl rfl) rfl rfl ?_
      refine aA (aO (.bool (decide _)) rfl rfl rfl) rfl rfl ?_
      refine aE (aF ?_)
      refine aY rfl (fun h23 => ?_) (fun h23 => ?_)
      · have hlt6 := aNg (lo := lo) (hi := hi) (i := i) (j := j) hnx (by omega) (by omega)
        refine aN (aF (aG (bA (aG ?_))))
        refine wM ?_
        refine xJ (aC (.func _ _ _) rfl) rfl rfl ?_
        refine xJ (aC (.int _ _) rfl) rfl rfl ?_
        refine xJ (aC (.int _ _) rfl) rfl rfl ?_
        refine xJ (cC [(0, .int _ _), (1, .int _ _)] _ xC rfl rfl) rfl rfl ?_
        obtain ⟨fy, ty, ay, by1, hy1, hy2⟩ := hY _ q0 ((kC lo hi j ++ vA lo i j).map bV) (bV (lo.1 + (i : Int), lo.2 + (j : Int))) ⟨_, _, rfl⟩ (by omega) hq0 (hM2.ownSeg 0 3)
        refine wI rfl rfl rfl rfl hy1 (hy2.mono ?_)
        rintro _ w3 ⟨rfl, q3, hqn3, hq3, hM3⟩
        have M3 : Mem _ _ [_, _, _] _ := hM2.seg 0 3 hM3
        refine ⟨_, rfl, ?_⟩
        refine aMi rfl (fun _ _ h => h) ?_
        refine aA (kF false rfl rfl) rfl rfl ?_
        refine aE (aF ?_)
        refine cH rfl ?_
        refine aN ?_
        refine dJ ?_
        refine aF (aB ?_)
        refine aA (aC (.int _ _) rfl) rfl rfl ?_
        refine aA (fZ rfl rfl (jM _ (by omega) (by omega))) rfl rfl ?_
        refine aA (aD (.int _ _) rfl) rfl rfl ?_
        refine aE ?_
        refine cF (i + 1, q3) (bS (iv rfl (by omega)) eV) (cL rfl (cL rfl (cL rfl (cL rfl (cL rfl iI))))) ?_ ?_
        · exact ⟨⟨by omega, by rw [aJd, ← List.append_assoc, List.map_append]; exact hq3⟩, M3⟩
        · (show nX lo hi - (i + 1) < nX lo hi - i; omega)
      · have hix : i = nX lo hi := by omega
        refine cK ?_
        refine dB ?_
        refine cY ?_
        refine eN ?_
        refine dJ ?_
        refine aF (aB ?_)
        refine aA (aC (.int _ _) rfl) rfl rfl ?_
        refine aA (fZ rfl rfl (jM _ (by omega) (by omega))) rfl rfl ?_
        refine aA (aD (.int _ _) rfl) rfl rfl ?_
        refine aE ?_
        refine cF (j + 1, q0) (bS (iv rfl (by omega)) eV) (cL rfl (cL rfl (cL rfl (cL rfl iI)))) ?_ ?_
        · exact ⟨⟨by omega, fun h => (by rw [g10] at h; cases h), by rw [uN, ← hix]; exact hq0⟩, hM2⟩
        · (show nY lo hi - (j + 1) < nY lo hi - j; omega)
    · refine cK ?_
      refine dB ?_
      refine cY ?_
      refine eN ?_
      refine gM ?_
      exact ⟨rfl, r, by unfold qF; first | (rw [if_pos g10, show nY lo hi = j by omega]; exact hr) | (rw [if_neg (by rw [g10]; decide)]; rw [hjz g10] at hr; exact hr), hM1⟩
  · refine aT rfl rfl ?_
    refine aT rfl rfl ?_
    refine aT rfl rfl ?_
    refine aT rfl rfl ?_
    refine aA (bP false (.bool false) rfl rfl) rfl rfl ?_
    refine aE (aF ?_)
    refine cH rfl ?_
    refine cK ?_
    refine dB ?_
    refine cY ?_
    refine eN ?_
    refine gM ?_
    exact ⟨rfl, r, by unfold qF; first | (rw [if_pos g10, show nY lo hi = j by omega]; exact hr) | (rw [if_neg (by rw [g10]; decide)]; rw [hjz g10] at hr; exact hr), hM1⟩
set_option maxHeartbeats 4000000 in
theorem aNu (w : World) (a : Bx) (ha : Okx a) :
    Calls Tryz.prog 161 #[(.agg (cT a).toArray)] w (fun ex w' => ∃ v, ex = .returned v ∧ (fun v w' => ∃ r : Row, v = .slice r.A r.n r.c ∧ aX 226 2 r.A r.n r.c ((eP a).map bV) r.e ∧ Mem w [] [r.e] w') v w') := by
  refine rO #[.tmp 2] 13 Tryz.func161 rfl Tryz.results161 Tryz.ntmps161 rfl ?_
  have M0 := Mem.refl w
  refine lK ?_
  refine jB ?_
  refine bK (.agg (List.toArray _)) M0 rfl rfl rfl (fun b1 w1 M1 => ?_)
  refine aA (aD (.slice _ _ _) rfl) rfl rfl ?_
  refine aE ?_
  refine lJ ?_
  refine lK ?_
  refine jB ?_
  refine aS aPj M1 rfl rfl (fun b2 w2 M2 => ?_)
  refine aE ?_
  refine lJ ?_
  refine lK ?_
  refine lK ?_
  refine jB ?_
  refine aA (bB 0 fX M2 rfl rfl rfl) rfl rfl ?_
  refine aL aTy rfl rfl rfl ?_
  refine (aEv _ a).mono ?_
  rintro _ w3 ⟨v3, rfl, ⟨bl, bk, bh, rfl, hM3⟩⟩
  refine ⟨_, rfl, ?_⟩
  have M3 : Mem _ _ [_, _, _, _, _] _ := M2.call0 hM3
  refine aE ?_
  refine lJ ?_
  refine aBm ?_
  have M4 : Mem _ _ [_, _, _, _, _] _ := ((M3.keep [false, true, true, true, true]).dummy default).perm (List.Perm.cons _ (List.perm_append_comm (l₁ := [_, _, _]) (l₂ := [_])))
  refine zR aVc M4 rfl (fun fnn B lp tmps w1 hρ hn M1 => ?_)
  refine uS (P := Tryz.prog) (ob := b2) (Tsl := 224) (Te := 226) (sz := 2) (N := 1048576) (ok := (fun x => ∃ a b, x = [.int .i32 a, .int .i32 b])) M1 ?_ (fun hY => ?_)
  · intro wr r ls x hok hlt hrow hO
    obtain ⟨xa, xb, rfl⟩ := hok
    refine ⟨_, _, _, _, aAe hO rfl rfl rfl hn (by decide) hρ ?_⟩
    have MR0 := hO.mem
    refine nK rfl (fun _ _ h => nomatch h.1) ?_
    refine aS lI MR0 rfl rfl (fun b5 w5 M5 => ?_)
    refine bJ 3 _ fH M5 rfl rfl rfl rfl rfl (aU rfl) rfl (fun w6 M6 => ?_)
    refine aE ?_
    refine ⟨rfl, _, M6, rfl, fun w7 M7 => ?_⟩
    refine aCh ?_
    refine nK rfl (fun _ _ h => nomatch h.1) ?_
    refine aA (aZ 1 (.slice _ _ _) aCz M7 rfl rfl rfl) rfl rfl ?_
    refine aA (bB 3 fH M7 rfl rfl rfl) rfl rfl ?_
    refine cM [.agg (List.toArray _)] [[.int .i32 xa, .int .i32 xb]] rfl aKn M7 rfl rfl rfl rfl (cW rfl) (by decide) (fun b8 w8 M8 => ?_)
    refine dM 2 [[.int .i32 xa, .int .i32 xb]] aKn M8 rfl rfl rfl rfl rfl hrow rfl (by simp [Go.Bil.one]) (cO.ofMem 4 M8 rfl) (by omega) (fun A9 c9 e9 w9 M9 hR9 => ?_)
    refine eC 1 (.slice _ _ _) aCz M9 rfl rfl rfl rfl rfl rfl (fun w10 M10 => ?_)
    refine aE ?_
    refine dJ ?_
    refine ⟨rfl, _, M10, rfl, fun w11 M11 => ?_⟩
    exact ⟨⟨A9, r.n + 1, c9, e9⟩, rfl, hR9, M11.keep [true, true, true, false, false]⟩
  · refine (aBj _ (loC a) (hiC a) _ bl bk bh (nS 3 M1 rfl rfl) (nS 5 M1 rfl rfl) (nS 4 M1 rfl rfl) (aDs ha) (aDk ha) lp b2 _ hY ⟨none, 0, 0, (none, default)⟩ (aX.nil _ _ _) (M1.ownSeg 0 3) (M1.apartTake 3 3 rfl rfl) (M1.apartTake 3 5 rfl rfl) (M1.apartTake 3 4 rfl rfl)).mono ?_
    rintro _ w5 ⟨v5, rfl, rfl, r, hr, hM⟩
    have M5 : Mem _ _ (_ :: [_, _, _, _, _, _]) _ := M1.seg 0 3 hM
    refine ⟨_, rfl, _, M5, fun w6 M6 => ?_⟩
    refine aRh ?_
    refine lJ ?_
    refine lK ?_
    refine wN ?_
    refine aFx (aZ 1 (.slice _ _ _) aCz M6 rfl rfl rfl) rfl rfl ?_
    refine aFx (aD (.slice _ _ _) rfl) rfl rfl ?_
    refine aFk ?_
    refine lJ ?_
    refine aJt ?_
    refine aSg (i := 6) (.slice _ _ _) rfl M6 rfl (fun w9 M9 => ?_)
    exact ⟨r, rfl, hr, M9.keep [false, false, true, false, false, false, false]⟩
set_option maxHeartbeats 4000000 in
theorem zL (w : World) (F : Rd w 2 (some ⟨0, 0, none⟩) 1 [[.int .u32 73856093, .int .u32 19349663]]) (c : Int × Int) :
    Calls Tryz.prog 162 #[(.agg (bV c).toArray)] w (fun ex w' => ∃ v, ex = .returned v ∧ (fun v w' => v = .int .i64 (cU c : Int) ∧ Below w.heap.size w w') v w') := by
  refine aJ #[.tmp 2] 20 Tryz.func162 rfl Tryz.results162 Tryz.ntmps162 rfl ?_
  have M0 := Mem.refl w
  refine aG (aB ?_)
  refine bK (.agg (List.toArray _)) M0 rfl rfl rfl (fun b1 w1 M1 => ?_)
  refine aA (aD (.int _ _) rfl) rfl rfl ?_
  refine aE (aF (aG (aB ?_)))
  refine aA (aH 0 tN rfl) rfl rfl ?_
  refine aA (aZ 0 (.int _ _) bH M1 rfl rfl rfl) rfl rfl ?_
  refine aA (eZ fQ Tryz.underlying36 rfl) rfl rfl ?_
  refine aA (zC (0) aLw rfl rfl rfl (by decide)) rfl rfl ?_
  refine aA (eI (k := 0) (o := 0) (.int _ _) cR (F.mem M1) (show ([[.int .u32 73856093, .int .u32 19349663]] : List (List Value))[0]? = some [.int .u32 73856093, .int .u32 19349663] from rfl) rfl rfl) rfl rfl ?_
  refine aA (aO (.int _ _) rfl rfl rfl) rfl rfl ?_
  refine aA (aH 1 uO rfl) rfl rfl ?_
  refine aA (aZ 0 (.int _ _) bH M1 rfl rfl rfl) rfl rfl ?_
  refine aA (eZ fQ Tryz.underlying36 rfl) rfl rfl ?_
  refine aA (zC (1) aLw rfl rfl rfl (by decide)) rfl rfl ?_
  refine aA (eI (k := 0) (o := 1) (.int _ _) cR (F.mem M1) (show ([[.int .u32 73856093, .int .u32 19349663]] : List (List Value))[0]? = some [.int .u32 73856093, .int .u32 19349663] from rfl) rfl rfl) rfl rfl ?_
  refine aA (aO (.int _ _) rfl rfl rfl) rfl rfl ?_
  refine aA (aO (.int _ _) rfl rfl rfl) rfl rfl ?_
  refine aA (aD (.int _ _) rfl) rfl rfl ?_
  refine aE (aF (aG (aB ?_)))
  refine aA (aC (.int _ _) rfl) rfl rfl ?_
  refine aA (aO (.int _ _) rfl rfl rfl) rfl rfl ?_
  refine aM 18 (.int .u32 (nI c)) rfl ?_
  refine aA (bR aXo Tryz.underlying3 rfl (jL _ (by have := iC c; omega) (by have := iC c; omega))) rfl rfl ?_
  refine aA (aD (.int _ _) rfl) rfl rfl ?_
  refine aE (aF (aR ?_))
  refine cI (.int _ _) rfl ?_
  exact ⟨iE (aHl c), M1.below⟩
end Go.Proofs.YtlmcphcgiclanaaGreatDoor

namespace Go.Proofs.YtlmcphcgiclanaaGreatDoor
open Go.Bil
open Go.RowKit (Below)
open Go.Proofs
set_option maxHeartbeats 16000000 in
theorem zS (w : World) (F : Rd w 2 (some ⟨0, 0, none⟩) 1 [[.int .u32 73856093, .int .u32 19349663]]) (b : Nat) (rs : List Row) (cnt : Int) (g : Nat → List Int) (hG : GridRows 36 rs g) (hcnt : 0 ≤ cnt ∧ cnt ≤ 1048576) (hgl : ∀ j, j < 1024 → (g j).length ≤ 1048576) (key : Int) (a : Bx) (ha : Okx a) (hO : Own ((some b, bc (cQ rs cnt) 191) :: rs.map Row.e) w) (hdF : 0 < 1 → ∀ q off, (some ⟨0, 0, none⟩ : Option Addr) = some ⟨q, off, none⟩ → q ∉ bU ((some b, bc (cQ rs cnt) 191) :: rs.map Row.e)) :
    Calls Tryz.prog 133 #[.pointer (some ⟨b, 0, none⟩), .int .u32 key, (.agg (cT a).toArray)] w (fun ex w' => ∃ v, ex = .returned v ∧ (fun v w' => v = .tuple #[] ∧ ∃ rs' : List Row, GridRows 36 rs' (nR g key ((eP a).map cU)) ∧ Mem w (bU ((some b, bc (cQ rs cnt) 191) :: rs.map Row.e)) ((some b, bc (cQ rs' (cnt + 1)) 191) :: rs'.map Row.e) w') v w') := by
  refine aJ #[] 49 Tryz.func133 rfl Tryz.results133 Tryz.ntmps133 rfl ?_
  have M0 := hO.mem
  refine aG (aB ?_)
  refine bK (.agg (List.toArray _)) M0 rfl rfl rfl (fun b1 w1 M1 => ?_)
  have M2 : Mem _ _ ([_, _] ++ _) _ := Mem.front (L := [_]) M1
  refine aE (aF (aG (aG (aB ?_))))
  refine aA (aC (.pointer _) rfl) rfl rfl ?_
  refine aA (uD false Tryz.underlying222 rfl rfl) rfl rfl ?_
  refine aE (aF ?_)
  refine cH rfl ?_
  refine aN (aF (aG (aB ?_)))
  refine aA (aC (.pointer _) rfl) rfl rfl ?_
  refine aA (aV rfl) rfl rfl ?_
  refine aA (aH 1024 aCk rfl) rfl rfl ?_
  refine aA (aZ 0 (.int .i64 cnt) kT M2 rfl rfl (uX hG.len)) rfl rfl ?_
  refine aA (bX rfl rfl (by omega) (by omega)) rfl rfl ?_
  refine aA (aV rfl) rfl rfl ?_
  refine aA (aH 1024 aCk rfl) rfl rfl ?_
  refine eC 0 (.int _ _) kT M2 rfl rfl rfl rfl rfl (by rw [uX hG.len]; rfl) (fun w3 M3 => ?_)
  have M3b : Mem _ _ ([(some b, bc (cQ rs (cnt + 1)) 191), _] ++ rs.map Row.e) _ := Mem.cells0 M3 (vS hG.len)
  refine aE (aF (aG (aB ?_)))
  refine lH M3b rfl rfl (fun b4 w4 M4 => ?_)
  have M5 : Mem _ _ ([_, _, _] ++ _) _ := Mem.front (L := [_, _]) M4
  refine aA (aD (.map _) rfl) rfl rfl ?_
  refine aE (aF (aG (aB ?_)))
  refine aA (bB 1 fX M5 rfl rfl rfl) rfl rfl ?_
  refine aL aVd rfl rfl rfl ?_
  refine (aNu _ a ha).mono ?_
  rintro _ w6 ⟨v6, rfl, ⟨r0, rfl, hR0, hM6⟩⟩
  refine ⟨_, rfl, ?_⟩
  have M6 : Mem _ _ ([_, _, _, _] ++ _) _ := Mem.front (L := [_, _, _]) (M5.call0 hM6)
  have hcl : (eP a).length = r0.n := by simpa using hR0.1
  have hcb := aEo ha
  refine aA (cS Tryz.underlying224 rfl) rfl rfl ?_
  refine aA (aC (.int _ _) rfl) rfl rfl ?_
  refine aE (aF (bA ?_))
  refine dI (σ := Nat × List Row × dL) [0, 1, 6, 21, 22] (fun (i, rs1, em) => [(23, .int .i64 (i : Int))]) (fun (i, rs1, em) w' => (i ≤ r0.n ∧ GridRows 36 rs1 (nR g key (((eP a).map cU).take i)) ∧ hJ .i64 Value.bool (mE (((eP a).map cU).take i)) (some b4) em) ∧ Mem w (bU ((some b, bc (cQ rs cnt) 191) :: rs.map Row.e)) ([(some b, bc (cQ rs1 (cnt + 1)) 191), (some b1, bc (cT a) 193), em, r0.e] ++ rs1.map Row.e) w') (fun (i, rs1, em) => r0.n - i) (0, rs, (some b4, .map #[] 0)) (bS rfl eV) (⟨⟨by omega, by rw [List.take_zero, aJq]; exact hG, (hJ.empty _ _ b4).congr (fun q => by rw [List.take_zero]; exact aJl q)⟩, M6⟩) ?_
  rintro ⟨i, rs1, em⟩ ρ7 w7 ⟨⟨hi, hrs, hme⟩, hM7⟩
  refine aG (aB ?_)
  refine aA (aO (.bool (decide _)) rfl rfl rfl) rfl rfl ?_
  refine aE (aF (aG ?_))
  refine aY rfl (fun h24 => ?_) (fun h24 => ?_)
  · obtain ⟨xc, hxc⟩ := cN (xs := eP a) (k := i) hcl (by omega)
    have hbb : ((eP a).map cU)[i]? = some (cU xc) := by rw [List.getElem?_map, hxc]; rfl
    refine aN (aF (aG (bA (aG (aB ?_)))))
    refine aA (bO (i) aKn rfl rfl rfl ((hR0.rd hM7 (aP (i := 3) rfl)).below_len (aK bV hxc)) ((hR0.rd hM7 (aP (i := 3) rfl)).someK (aK bV hxc))) rfl rfl ?_
    refine aA (dO _ fH (hR0.rd hM7 (aP (i := 3) rfl)) (aK bV hxc) rfl) rfl rfl ?_
    refine aS lI hM7 rfl rfl (fun b8 w8 M8 => ?_)
    have M9 : Mem _ _ ([_, _, _, _, _] ++ _) _ := Mem.front (L := [_, _, _, _]) M8
    refine bJ 4 _ fH M9 rfl rfl rfl rfl rfl (aU rfl) rfl (fun w10 M10 => ?_)
    refine aE (aF (aG (aB ?_)))
    refine aA (bB 4 fH M10 rfl rfl rfl) rfl rfl ?_
    refine aL aSl rfl rfl rfl ?_
    refine (zL _ (F.memY M10 hdF) xc).mono ?_
    rintro _ w11 ⟨v11, rfl, ⟨rfl, hb11⟩⟩
    refine ⟨_, rfl, ?_⟩
    have M11 := M10.callB hb11
    refine aA (aD (.int _ _) rfl) rfl rfl ?_
    refine aE (aF (aG (aG (aB ?_))))
    refine aA (aC (.map _) rfl) rfl rfl ?_
    refine aA (aC (.int _ _) rfl) rfl rfl ?_
    refine aA (gR (enc := Value.bool) false 2 aLp zv4 M11 rfl hme rfl rfl) rfl rfl ?_
    refine aE (aF ?_)
    refine iJ _ rfl (fun h31 => ?_) (fun h31 => ?_)
    · refine cK ?_
      refine dB ?_
      refine eN ?_
      refine aF (aB ?_)
      refine aA (bX rfl rfl (by omega) (by omega)) rfl rfl ?_
      refine aA (aC (.int _ _) rfl) rfl rfl ?_
      refine aE ?_
      refine cF (i + 1, rs1, em) (bS rfl eV) (cL rfl (cL rfl (cL rfl (cL rfl (cL rfl iI))))) ?_ ?_
      · exact ⟨⟨by omega, by rw [aNz hbb (qT.1 h31)]; exact hrs, by rw [aIw hbb (qT.1 h31)]; exact hme⟩, Mem.keepL (L := [_, _, _, _, _]) [true, true, true, true, false] M11⟩
      · (show r0.n - (i + 1) < r0.n - i; omega)
    · have hnb : cU xc ∉ ((eP a).map cU).take i := fun h => by have h2 := qT.2 h; rw [h2] at h31; cases h31
      refine aN (aF (aG (aB ?_)))
      refine aA (aC (.map _) rfl) rfl rfl ?_
      refine aA (aC (.int _ _) rfl) rfl rfl ?_
      refine lP (enc := Value.bool) 2 aLp M11 rfl rfl hme rfl rfl rfl rfl (fun e12 w12 hm12 M12 => ?_)
      refine aE (aF ?_)
      refine bZ [(0, 0), (1, 0), (2, 0), (3, 0), (4, 0), (5, 0), (6, 0), (7, 1), (8, 0), (11, 0), (12, 0), (9, 2), (10, 2), (13, 0), (14, 2)] mixed rfl (by kernel_rfl) (fun w13 hb13 hh13 => ?_)
      have M13 := M12.drew hb13 hh13
      refine aW rfl rfl rfl (fun _ => aC (.pointer _) rfl) ?_
      refine aW rfl rfl rfl (fun _ => aC (.int _ _) rfl) ?_
      refine aW rfl rfl rfl (fun _ => aC (.pointer _) rfl) ?_
      refine aW rfl rfl rfl (fun _ => aC (.int _ _) rfl) ?_
      refine aW rfl rfl rfl (fun _ => aV rfl) ?_
      refine aW rfl rfl rfl (fun _ => aH 0 tC rfl) ?_
      refine aW rfl rfl rfl (fun _ => zC (cU xc) aEh rfl rfl rfl (gK xc)) ?_
      obtain ⟨rb, hrb⟩ := hrs.get (gK xc)
      have hrowb := hrs.row _ _ hrb
      have hgb : nR g key (((eP a).map cU).take i) (cU xc) = g (cU xc) := by unfold nR; rw [if_neg hnb]
      have hrn : (nR g key (((eP a).map cU).take i) (cU xc)).length = rb.n := by simpa using hrowb.1
      have hgl := hgl (cU xc) (gK xc)
      rw [hgb] at hrn
      have M14 : Mem _ _ ([_, _, _, _, _, _] ++ (rs1.eraseIdx (cU xc)).map Row.e) _ := Mem.pull (L := [_, _, _, _, _]) (rs := rs1) M13 hrb
      refine cB rfl rfl rfl (aZ 0 (.slice _ _ _) yK M14 rfl rfl (oG hrb)) ?_
      refine aW rfl rfl rfl (fun _ => aC (.int _ _) rfl) ?_
      refine aW rfl rfl rfl (fun _ => aV rfl) ?_
      refine aW rfl rfl rfl (fun _ => aH 0 tC rfl) ?_
      refine eB [false] rfl (by kernel_rfl) ?_
      refine cM [.int _ _] [gD key] rfl aAr M14 rfl rfl rfl rfl (cW rfl) (by decide) (fun b15 w15 M15 => ?_)
      have M16 : Mem _ _ ([_, _, _, _, _, _, _] ++ _) _ := Mem.front (L := [_, _, _, _, _, _]) M15
      refine aE (aF ⟨(kO (dG rfl (aZ 0 (.slice _ _ _) yK M16 rfl rfl (oG hrb))) dZ), ?_⟩)
      refine eB [true] rfl (by kernel_rfl) ?_
      refine dM 5 [gD key] aAr M16 rfl rfl rfl rfl rfl hrowb rfl (aEi _) (cO.ofMem 6 M16 rfl) (by omega) (fun A17 c17 e17 w17 M17 hR17 => ?_)
      refine aE (aF ⟨dZ, ?_⟩)
      refine aW rfl rfl rfl (fun _ => zC (cU xc) aEh rfl rfl rfl (gK xc)) ?_
      refine eB [] rfl (by kernel_rfl) ?_
      refine eC 0 (.slice _ _ _) yK M17 rfl rfl rfl rfl rfl (by rw [oG hrb]; rfl) (fun w18 M18 => ?_)
      have M18b : Mem _ _ ([(some b, bc (cQ (rs1.set (cU xc) (⟨A17, rb.n + 1, c17, e17⟩ : Row)) (cnt + 1)) 191), _, _, _, _, _, _] ++ (rs1.eraseIdx (cU xc)).map Row.e) _ := Mem.cells0 M18 (vW (⟨A17, rb.n + 1, c17, e17⟩ : Row) (by rw [hrs.len]; exact gK xc))
      refine aE (aF ⟨dZ, ?_⟩)
      refine cE ?_
      refine dJ ?_
      refine aF (aB ?_)
      refine aA (bX rfl rfl (by omega) (by omega)) rfl rfl ?_
      refine aA (aC (.int _ _) rfl) rfl rfl ?_
      refine aE ?_
      refine cF (i + 1, rs1.set (cU xc) (⟨A17, rb.n + 1, c17, e17⟩ : Row), e12) (bS rfl eV) (cL rfl (cL rfl (cL rfl (cL rfl (cL rfl iI))))) ?_ ?_
      · exact ⟨⟨by omega, by rw [aNr hbb hnb]; exact hrs.put (r := (⟨A17, rb.n + 1, c17, e17⟩ : Row)) (gK xc) (by simpa using hR17), hm12.congr (fun q => wZ hbb q)⟩, Mem.push (L := [_, _, _, _]) (rs := rs1) (⟨A17, rb.n + 1, c17, e17⟩ : Row) (Mem.keepL (L := [_, _, _, _, _, _, _]) [true, true, true, true, false, true, false] M18b) (by rw [hrs.len]; exact gK xc)⟩
      · (show r0.n - (i + 1) < r0.n - i; omega)
  · have hin : i = r0.n := by omega
    rw [List.take_of_length_le (by simp; omega)] at hrs
    refine cK ?_
    refine dB ?_
    refine cY ?_
    refine eN ?_
    refine gM ?_
    exact ⟨rfl, rs1, hrs, Mem.keepL (L := [_, _, _, _]) [true, false, false, false] hM7⟩
end Go.Proofs.YtlmcphcgiclanaaGreatDoor
