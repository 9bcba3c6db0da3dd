/- Part of the proof of the laws of this seat: Z4, W6. No conditions. -/
import Derived.Test.YtlmcphcgiclanaaGreatDoorK5
import Derived.Test.YtlmcphcgiclanaaGreatDoorK28
set_option linter.unusedVariables false
set_option linter.unusedSimpArgs false
set_option linter.unnecessarySimpa false
namespace Go.Proofs.YtlmcphcgiclanaaGreatDoor
open Go.Bil
open Go.RowKit (Below)
open Go.Proofs
set_option maxHeartbeats 16000000 in
theorem aCs (w : World) (ap aq bp bq : Pt) (h1 : SgI ap aq) (h2 : SgI bp bq) :
    Calls Tryz.prog 143 #[(.agg (bV ap).toArray), (.agg (bV aq).toArray), (.agg (bV bp).toArray), (.agg (bV bq).toArray)] w (fun ex w' => ∃ v, ex = .returned v ∧ (fun v w' => v = (.agg (eP ((kE ap aq bp bq).1, (kE ap aq bp bq).2.1)).toArray) ∧ Below w.heap.size w w') v w') := by
  have hlen4 : ([(ap, bR bp bq ap), (aq, bR bp bq aq), (bR ap aq bp, bp), (bR ap aq bq, bq)] : List (Pt × Pt)).length = 4 := rfl
  have hins : ∀ z ∈ ([(ap, bR bp bq ap), (aq, bR bp bq aq), (bR ap aq bp, bp), (bR ap aq bq, bq)] : List (Pt × Pt)), PtI z.1 ∧ PtI z.2 := aHj h1 h2
  refine aL #[.cell 8 168] 59 Tryz.func143 rfl Tryz.results143 Tryz.ntmps143 rfl ?_
  have M0 := Mem.refl w
  refine aH (aB ?_)
  refine bM (.agg (List.toArray _)) M0 rfl rfl rfl (fun b1 w1 M1 => ?_)
  refine bM (.agg (List.toArray _)) M1 rfl rfl rfl (fun b2 w2 M2 => ?_)
  refine bM (.agg (List.toArray _)) M2 rfl rfl rfl (fun b3 w3 M3 => ?_)
  refine bM (.agg (List.toArray _)) M3 rfl rfl rfl (fun b4 w4 M4 => ?_)
  refine aV vY M4 rfl rfl (fun b5 w5 M5 => ?_)
  refine aE (aF (aH ?_))
  refine bY [(0, 1), (1, 1), (2, 1), (3, 1), (6, 1), (7, 1), (8, 1), (9, 1), (12, 1), (13, 1), (14, 1), (16, 1), (18, 1), (19, 1), (20, 1), (22, 1), (4, 2), (5, 0), (10, 2), (11, 0), (15, 2), (17, 0), (21, 2), (23, 0), (24, 2), (25, 0)] mixed rfl (by kernel_rfl) (fun w6 hb6 hh6 => ?_)
  have M6 := M5.drew hb6 hh6
  refine cB rfl rfl rfl (aR 0 bE M6 rfl rfl rfl) ?_
  refine cB rfl rfl rfl (aR 2 bE M6 rfl rfl rfl) ?_
  refine cB rfl rfl rfl (aR 3 bE M6 rfl rfl rfl) ?_
  refine cB rfl rfl rfl (aR 0 bE M6 rfl rfl rfl) ?_
  refine cB rfl rfl rfl (aR 1 bE M6 rfl rfl rfl) ?_
  refine cB rfl rfl rfl (aR 2 bE M6 rfl rfl rfl) ?_
  refine cB rfl rfl rfl (aR 3 bE M6 rfl rfl rfl) ?_
  refine cB rfl rfl rfl (aR 1 bE M6 rfl rfl rfl) ?_
  refine cB rfl rfl rfl (aR 0 bE M6 rfl rfl rfl) ?_
  refine cB rfl rfl rfl (aR 1 bE M6 rfl rfl rfl) ?_
  refine cB rfl rfl rfl (aR 2 bE M6 rfl rfl rfl) ?_
  refine cB rfl rfl rfl (aR 2 bE M6 rfl rfl rfl) ?_
  refine cB rfl rfl rfl (aR 0 bE M6 rfl rfl rfl) ?_
  refine cB rfl rfl rfl (aR 1 bE M6 rfl rfl rfl) ?_
  refine cB rfl rfl rfl (aR 3 bE M6 rfl rfl rfl) ?_
  refine cB rfl rfl rfl (aR 3 bE M6 rfl rfl rfl) ?_
  refine eN [false, false, false, false, false, false, false, false, false, false, false, false, true, true, true, false] rfl (by kernel_rfl) ?_
  refine aM aCa rfl rfl rfl ?_
  refine (kK _ bp bq ap h2 h1.hp).mono ?_
  rintro _ w7 ⟨v7, rfl, ⟨rfl, hb7⟩⟩
  refine ⟨_, rfl, ?_⟩
  have M7 := M6.callB hb7
  refine aE (aF ⟨(fH (cF rfl (aR 3 bE M7 rfl rfl rfl)) (fH (cF rfl (aR 3 bE M7 rfl rfl rfl)) (fH (cF rfl (aR 1 bE M7 rfl rfl rfl)) (fH (cF rfl (aR 0 bE M7 rfl rfl rfl)) (fH (cF rfl (aR 2 bE M7 rfl rfl rfl)) (fH (cF rfl (aR 2 bE M7 rfl rfl rfl)) (fH (cF rfl (aR 1 bE M7 rfl rfl rfl)) (fH (cF rfl (aR 0 bE M7 rfl rfl rfl)) (fH (cF rfl (aR 1 bE M7 rfl rfl rfl)) (fH (cF rfl (aR 3 bE M7 rfl rfl rfl)) (fH (cF rfl (aR 2 bE M7 rfl rfl rfl)) (fH (cF rfl (aR 1 bE M7 rfl rfl rfl)) (fH (cF rfl (aR 0 bE M7 rfl rfl rfl)) eM))))))))))))), ?_⟩)
  refine aP rfl rfl rfl (fun _ => cL [(0, .agg (List.toArray _)), (1, .agg (List.toArray _))] _ pI rfl rfl) ?_
  refine eN [false, false, false, false, false, false, false, false, true, true, true, false, false] rfl (by kernel_rfl) ?_
  refine aM aCa rfl rfl rfl ?_
  refine (kK _ bp bq aq h2 h1.hq).mono ?_
  rintro _ w8 ⟨v8, rfl, ⟨rfl, hb8⟩⟩
  refine ⟨_, rfl, ?_⟩
  have M8 := M7.callB hb8
  refine aE (aF ⟨(fH (cF rfl (aR 3 bE M8 rfl rfl rfl)) (fH (cF rfl (aR 3 bE M8 rfl rfl rfl)) (fH (cF rfl (aR 1 bE M8 rfl rfl rfl)) (fH (cF rfl (aR 0 bE M8 rfl rfl rfl)) (fH (cF rfl (aR 2 bE M8 rfl rfl rfl)) (fH (cF rfl (aR 2 bE M8 rfl rfl rfl)) (fH (cF rfl (aR 1 bE M8 rfl rfl rfl)) (fH (cF rfl (aR 0 bE M8 rfl rfl rfl)) (fH (cF rfl (aR 1 bE M8 rfl rfl rfl)) (fH (cF rfl (aR 0 bE M8 rfl rfl rfl)) eM)))))))))), ?_⟩)
  refine aP rfl rfl rfl (fun _ => cL [(0, .agg (List.toArray _)), (1, .agg (List.toArray _))] _ pI rfl rfl) ?_
  refine eN [false, false, false, false, false, true, true, true, false, false] rfl (by kernel_rfl) ?_
  refine aM aCa rfl rfl rfl ?_
  refine (kK _ ap aq bp h1 h2.hp).mono ?_
  rintro _ w9 ⟨v9, rfl, ⟨rfl, hb9⟩⟩
  refine ⟨_, rfl, ?_⟩
  have M9 := M8.callB hb9
  refine aE (aF ⟨(fH (cF rfl (aR 3 bE M9 rfl rfl rfl)) (fH (cF rfl (aR 3 bE M9 rfl rfl rfl)) (fH (cF rfl (aR 1 bE M9 rfl rfl rfl)) (fH (cF rfl (aR 0 bE M9 rfl rfl rfl)) (fH (cF rfl (aR 2 bE M9 rfl rfl rfl)) (fH (cF rfl (aR 1 bE M9 rfl rfl rfl)) (fH (cF rfl (aR 0 bE M9 rfl rfl rfl)) eM))))))), ?_⟩)
  refine aP rfl rfl rfl (fun _ => cL [(0, .agg (List.toArray _)), (1, .agg (List.toArray _))] _ pI rfl rfl) ?_
  refine eN [false, true, true, true, false, false, false] rfl (by kernel_rfl) ?_
  refine aM aCa rfl rfl rfl ?_
  refine (kK _ ap aq bq h1 h2.hq).mono ?_
  rintro _ w10 ⟨v10, rfl, ⟨rfl, hb10⟩⟩
  refine ⟨_, rfl, ?_⟩
  have M10 := M9.callB hb10
  refine aE (aF ⟨(fH (cF rfl (aR 3 bE M10 rfl rfl rfl)) (fH (cF rfl (aR 2 bE M10 rfl rfl rfl)) (fH (cF rfl (aR 1 bE M10 rfl rfl rfl)) (fH (cF rfl (aR 0 bE M10 rfl rfl rfl)) eM)))), ?_⟩)
  refine aP rfl rfl rfl (fun _ => cL [(0, .agg (List.toArray _)), (1, .agg (List.toArray _))] _ pI rfl rfl) ?_
  refine eN [true, true, true, true] rfl (by kernel_rfl) ?_
  refine cR [.agg (List.toArray _), .agg (List.toArray _), .agg (List.toArray _), .agg (List.toArray _)] [eP (ap, bR bp bq ap), eP (aq, bR bp bq aq), eP (bR ap aq bp, bp), eP (bR ap aq bq, bq)] rfl aKn M10 rfl rfl rfl rfl (cZ rfl) (by decide) (fun b11 w11 M11 => ?_)
  refine aE (aF ⟨eM, ?_⟩)
  have hlit36 := jI (T := 168) (b := b11) (nn := 4) (([(ap, bR bp bq ap), (aq, bR bp bq aq), (bR ap aq bp, bp), (bR ap aq bq, bq)] : List (Pt × Pt)).map eP) (aTd _) rfl (by decide)
  refine aP rfl rfl rfl (fun _ => aD (.slice _ _ _) rfl) ?_
  refine cI ?_
  refine aF (aH (aB ?_))
  refine aA (aC (.slice _ _ _) rfl) rfl rfl ?_
  refine aA (bN (0) aKn rfl rfl rfl ((hlit36.rd M11 (bH (i := 5) rfl)).below_len (aJ eP (show ([(ap, bR bp bq ap), (aq, bR bp bq aq), (bR ap aq bp, bp), (bR ap aq bq, bq)] : List (Pt × Pt))[0]? = some (ap, bR bp bq ap) from rfl))) ((hlit36.rd M11 (bH (i := 5) rfl)).someK (aJ eP (show ([(ap, bR bp bq ap), (aq, bR bp bq aq), (bR ap aq bp, bp), (bR ap aq bq, bq)] : List (Pt × Pt))[0]? = some (ap, bR bp bq ap) from rfl)))) rfl rfl ?_
  refine aA (dG _ jX (hlit36.rd M11 (bH (i := 5) rfl)) (aJ eP (show ([(ap, bR bp bq ap), (aq, bR bp bq aq), (bR ap aq bp, bp), (bR ap aq bq, bq)] : List (Pt × Pt))[0]? = some (ap, bR bp bq ap) from rfl)) rfl) rfl rfl ?_
  refine aV vY M11 rfl rfl (fun b12 w12 M12 => ?_)
  refine bL 6 _ jX M12 rfl rfl rfl rfl rfl (bA rfl) rfl (fun w13 M13 => ?_)
  refine aE (aF (aH (aH (aB ?_))))
  refine aA (aD (.int _ _) rfl) rfl rfl ?_
  refine aE (aF (aT ?_))
  refine dM (σ := Nat × Ch) [8, 9, 10] (fun (i, s) => [(11, .int .i64 (i : Int))]) (fun (i, s) w' => (1 ≤ i ∧ i ≤ 4 ∧ s = oQ (([(ap, bR bp bq ap), (aq, bR bp bq aq), (bR ap aq bp, bp), (bR ap aq bq, bq)] : List (Pt × Pt)).take i) ∧ ChL s) ∧ Mem w [] [(some b1, bc (bV ap) 38), (some b2, bc (bV aq) 38), (some b3, bc (bV bp) 38), (some b4, bc (bV bq) 38), (some b5, bc [.int .i32 0, .int .i32 0, .int .i32 0, .int .i32 0] 168), (some b11, bc ((([(ap, bR bp bq ap), (aq, bR bp bq aq), (bR ap aq bp, bp), (bR ap aq bq, bq)] : List (Pt × Pt)).map eP).flatten) 168), (some b12, bc (eP (s.1, s.2.1)) 168)] w') (fun (i, s) => 4 - i) (1, oQ [(ap, bR bp bq ap)]) (bB rfl dO) (⟨⟨by omega, by omega, rfl, (aAn h1.hp (dQ h2)).2⟩, by rw [(aAn h1.hp (dQ h2)).1]; exact M13⟩) ?_
  rintro ⟨i, s⟩ ρ14 w14 ⟨⟨hi1, hi4, hs, hL⟩, hM14⟩
  refine aH (aH (aB ?_))
  refine aA (aC (.int _ _) rfl) rfl rfl ?_
  refine aA (aC (.slice _ _ _) rfl) rfl rfl ?_
  refine aA (dE Tryz.underlying256 rfl) rfl rfl ?_
  refine aK 42 (.int .i64 4) rfl ?_
  refine aA (aN (.bool (decide _)) rfl rfl rfl) rfl rfl ?_
  refine aE (aF ?_)
  refine aX rfl (fun h43 => ?_) (fun h43 => ?_)
  · obtain ⟨z, hz⟩ := dA (xs := ([(ap, bR bp bq ap), (aq, bR bp bq aq), (bR ap aq bp, bp), (bR ap aq bq, bq)] : List (Pt × Pt))) (k := i) hlen4 (by omega)
    have hzi := hins z (List.mem_of_getElem? hz)
    refine aO (aF (aH (aT (aH ?_))))
    refine bY [(0, 0), (1, 0), (2, 1), (3, 1), (5, 1), (4, 2), (6, 2), (7, 0)] mixed rfl (by kernel_rfl) (fun w15 hb15 hh15 => ?_)
    have M15 := hM14.drew hb15 hh15
    refine aP rfl rfl rfl (fun _ => aC (.slice _ _ _) rfl) ?_
    refine aP rfl rfl rfl (fun _ => aC (.int _ _) rfl) ?_
    refine cB rfl rfl rfl (bN (i) aKn rfl rfl rfl ((hlit36.rd M15 (bH (i := 5) rfl)).below_len (aJ eP hz)) ((hlit36.rd M15 (bH (i := 5) rfl)).someK (aJ eP hz))) ?_
    refine cB rfl rfl rfl (dG _ jX (hlit36.rd M15 (bH (i := 5) rfl)) (aJ eP hz) rfl) ?_
    refine cB rfl rfl rfl (aR 6 jX M15 rfl rfl rfl) ?_
    refine eN [false, true, true] rfl (by kernel_rfl) ?_
    refine aM aIc rfl rfl rfl ?_
    refine (nR _ z.1 z.2 hzi.1 hzi.2).mono ?_
    rintro _ w16 ⟨v16, rfl, ⟨rfl, hb16⟩⟩
    refine ⟨_, rfl, ?_⟩
    have M16 := M15.callB hb16
    refine aE (aF ⟨(fH (cF rfl (aR 6 jX M16 rfl rfl rfl)) eM), ?_⟩)
    refine eN [true] rfl (by kernel_rfl) ?_
    refine aM aIc rfl rfl rfl ?_
    refine (nR _ s.1 s.2.1 hL.i.a hL.i.b).mono ?_
    rintro _ w17 ⟨v17, rfl, ⟨rfl, hb17⟩⟩
    refine ⟨_, rfl, ?_⟩
    have M17 := M16.callB hb17
    refine aE (aF ⟨eM, ?_⟩)
    refine aP rfl rfl rfl (fun _ => aN (.bool (decide _)) rfl rfl rfl) ?_
    refine cI ?_
    refine aF ?_
    refine aX rfl (fun h53 => ?_) (fun h53 => ?_)
    · refine aB ?_
      refine aA (aC (.slice _ _ _) rfl) rfl rfl ?_
      refine aA (aC (.int _ _) rfl) rfl rfl ?_
      refine aA (bN (i) aKn rfl rfl rfl ((hlit36.rd M17 (bH (i := 5) rfl)).below_len (aJ eP hz)) ((hlit36.rd M17 (bH (i := 5) rfl)).someK (aJ eP hz))) rfl rfl ?_
      refine aA (dG _ jX (hlit36.rd M17 (bH (i := 5) rfl)) (aJ eP hz) rfl) rfl rfl ?_
      refine bL 6 _ jX M17 rfl rfl rfl rfl rfl (bA rfl) rfl (fun w18 M18 => ?_)
      refine aE ?_
      refine cS ?_
      refine aF (aB ?_)
      refine aA (aC (.int _ _) rfl) rfl rfl ?_
      refine aA (aZ rfl rfl (by omega) (by omega)) rfl rfl ?_
      refine aA (aD (.int _ _) rfl) rfl rfl ?_
      refine aE ?_
      refine cA (i + 1, eL s z.1 z.2) (bB rfl dO) (cD rfl (cD rfl (cD rfl fS))) ?_ ?_
      · exact ⟨⟨by omega, by omega, by rw [uV hz, hs], hL.step hzi.1 hzi.2⟩, by unfold eL; rw [if_pos (by rw [hL.l]; omega)]; exact M18⟩
      · (show 4 - (i + 1) < 4 - i; omega)
    · refine aO ?_
      refine cS ?_
      refine aF (aB ?_)
      refine aA (aC (.int _ _) rfl) rfl rfl ?_
      refine aA (aZ rfl rfl (by omega) (by omega)) rfl rfl ?_
      refine aA (aD (.int _ _) rfl) rfl rfl ?_
      refine aE ?_
      refine cA (i + 1, eL s z.1 z.2) (bB rfl dO) (cD rfl (cD rfl (cD rfl fS))) ?_ ?_
      · exact ⟨⟨by omega, by omega, by rw [uV hz, hs], hL.step hzi.1 hzi.2⟩, by unfold eL; rw [if_neg (by rw [hL.l]; omega)]; exact M17⟩
      · (show 4 - (i + 1) < 4 - i; omega)
  · obtain rfl : i = 4 := by omega
    refine cQ ?_
    refine cX ?_
    refine dF ?_
    refine eJ ?_
    refine aF (aH (aB ?_))
    refine aA (aR 6 jX hM14 rfl rfl rfl) rfl rfl ?_
    refine bL 4 _ jX hM14 rfl rfl rfl rfl rfl (bA rfl) rfl (fun w19 M19 => ?_)
    refine aE (aF (aU ?_))
    refine gM 4 jX M19 rfl rfl rfl ?_
    exact ⟨by rw [hs]; rfl, M19.below⟩
set_option maxHeartbeats 4000000 in
theorem aBp (w : World) (a b : Body) (ha : Okb a) (hb : Okb b) :
    Calls Tryz.prog 112 #[(.agg (aI a).toArray), (.agg (aI b).toArray)] w (fun ex w' => ∃ v, ex = .returned v ∧ (fun v w' => v = (.agg (eP ((lB a b).1, (lB a b).2.1)).toArray) ∧ Below w.heap.size w w') v w') := by
  refine aL #[.cell 4 168] 14 Tryz.func112 rfl Tryz.results112 Tryz.ntmps112 rfl ?_
  have M0 := Mem.refl w
  refine aH (aB ?_)
  refine bM (.agg (List.toArray _)) M0 rfl rfl rfl (fun b1 w1 M1 => ?_)
  refine bM (.agg (List.toArray _)) M1 rfl rfl rfl (fun b2 w2 M2 => ?_)
  refine aV vY M2 rfl rfl (fun b3 w3 M3 => ?_)
  refine aE (aF (aH ?_))
  refine bY [(0, 1), (2, 1), (4, 1), (6, 1), (1, 2), (3, 2), (5, 2), (7, 2), (8, 2), (9, 2)] mixed rfl (by kernel_rfl) (fun w4 hb4 hh4 => ?_)
  have M4 := M3.drew hb4 hh4
  refine cB rfl rfl rfl (aR 0 bP M4 rfl rfl rfl) ?_
  refine cB rfl rfl rfl (aR 0 bP M4 rfl rfl rfl) ?_
  refine cB rfl rfl rfl (aR 1 bP M4 rfl rfl rfl) ?_
  refine cB rfl rfl rfl (aR 1 bP M4 rfl rfl rfl) ?_
  refine eN [false, false, false, true] rfl (by kernel_rfl) ?_
  refine aM aSb rfl rfl rfl ?_
  refine (uF _ a ha).mono ?_
  rintro _ w5 ⟨v5, rfl, ⟨rfl, hb5⟩⟩
  refine ⟨_, rfl, ?_⟩
  have M5 := M4.callB hb5
  refine aE (aF ⟨(fH (cF rfl (aR 1 bP M5 rfl rfl rfl)) (fH (cF rfl (aR 1 bP M5 rfl rfl rfl)) (fH (cF rfl (aR 0 bP M5 rfl rfl rfl)) eM))), ?_⟩)
  refine eN [false, false, true] rfl (by kernel_rfl) ?_
  refine aM aOh rfl rfl rfl ?_
  refine (sY _ a ha).mono ?_
  rintro _ w6 ⟨v6, rfl, ⟨rfl, hb6⟩⟩
  refine ⟨_, rfl, ?_⟩
  have M6 := M5.callB hb6
  refine aE (aF ⟨(fH (cF rfl (aR 1 bP M6 rfl rfl rfl)) (fH (cF rfl (aR 1 bP M6 rfl rfl rfl)) eM)), ?_⟩)
  refine eN [false, true] rfl (by kernel_rfl) ?_
  refine aM aSb rfl rfl rfl ?_
  refine (uF _ b hb).mono ?_
  rintro _ w7 ⟨v7, rfl, ⟨rfl, hb7⟩⟩
  refine ⟨_, rfl, ?_⟩
  have M7 := M6.callB hb7
  refine aE (aF ⟨(fH (cF rfl (aR 1 bP M7 rfl rfl rfl)) eM), ?_⟩)
  refine eN [true] rfl (by kernel_rfl) ?_
  refine aM aOh rfl rfl rfl ?_
  refine (sY _ b hb).mono ?_
  rintro _ w8 ⟨v8, rfl, ⟨rfl, hb8⟩⟩
  refine ⟨_, rfl, ?_⟩
  have M8 := M7.callB hb8
  refine aE (aF ⟨eM, ?_⟩)
  refine eN [] rfl (by kernel_rfl) ?_
  refine aM aZb rfl rfl rfl ?_
  refine (aCs _ (tU a) (tK a) (tU b) (tK b) (mG ha) (mG hb)).mono ?_
  rintro _ w9 ⟨v9, rfl, ⟨rfl, hb9⟩⟩
  refine ⟨_, rfl, ?_⟩
  have M9 := M8.callB hb9
  refine aE (aF ⟨eM, ?_⟩)
  refine eN [] rfl (by kernel_rfl) ?_
  refine bL 2 _ jX M9 rfl rfl rfl rfl rfl (bA rfl) rfl (fun w10 M10 => ?_)
  refine aE (aF ⟨eM, ?_⟩)
  refine cI ?_
  refine aF (aU ?_)
  refine gM 2 jX M10 rfl rfl rfl ?_
  exact ⟨rfl, M10.below⟩
set_option maxHeartbeats 8000000 in
theorem aAx (w : World) (a b : Body) (ha : Okb a) (hb : Okb b) (hk : ¬ b.key < a.key) :
    Calls Tryz.prog 75 #[(.agg (aI a).toArray), (.agg (aI b).toArray)] w (fun ex w' => ∃ v, ex = .returned v ∧ (fun v w' => v = .tuple #[.agg (aEm (gO a b)).toArray, .bool (gO a b).isSome] ∧ Below w.heap.size w w') v w') := by
  have hch := tQ ha hb
  have hd := aPv ha hb
  have hl := rI hd.1 hd.2
  have hra := ha.r
  have hrb := hb.r
  have hsn : (a.radius + b.radius).natAbs * (a.radius + b.radius).natAbs ≤ 70368744177664 := by have := aSn ha hb; rw [← Int.natAbs_mul_self] at this; omega
  have hax := hch.a.i32.x
  have hay := hch.a.i32.y
  have hbx := hch.b.i32.x
  have hby := hch.b.i32.y
  refine aL #[.cell 4 121, .tmp 5] 72 Tryz.func75 rfl Tryz.results75 Tryz.ntmps75 rfl ?_
  have M0 := Mem.refl w
  refine aH (aB ?_)
  refine bM (.agg (List.toArray _)) M0 rfl rfl rfl (fun b1 w1 M1 => ?_)
  refine bM (.agg (List.toArray _)) M1 rfl rfl rfl (fun b2 w2 M2 => ?_)
  refine aV kB M2 rfl rfl (fun b3 w3 M3 => ?_)
  refine aA (aD (.bool false) rfl) rfl rfl ?_
  refine aE (aF (aH (aH (aB ?_))))
  refine aA (aG 0 dL rfl) rfl rfl ?_
  refine aA (aQ 1 (.int _ _) cO M3 rfl rfl rfl) rfl rfl ?_
  refine aA (aG 0 dL rfl) rfl rfl ?_
  refine aA (aQ 0 (.int _ _) cO M3 rfl rfl rfl) rfl rfl ?_
  refine aA (aN (.bool (decide _)) rfl rfl rfl) rfl rfl ?_
  refine aK 14 (.bool false) (bF (by omega)).symm ?_
  refine aE (aF ?_)
  refine cP rfl ?_
  refine aO (aF (aH (aB ?_)))
  refine aA (aR 0 bP M3 rfl rfl rfl) rfl rfl ?_
  refine aA (aR 1 bP M3 rfl rfl rfl) rfl rfl ?_
  refine aM aZi rfl rfl rfl ?_
  refine (aBp _ a b ha hb).mono ?_
  rintro _ w4 ⟨v4, rfl, ⟨rfl, hb4⟩⟩
  refine ⟨_, rfl, ?_⟩
  have M4 := M3.callB hb4
  refine aK 22 (.agg (bV (lB a b).1 ++ bV (lB a b).2.1).toArray) rfl ?_
  refine aV vY M4 rfl rfl (fun b5 w5 M5 => ?_)
  refine bL 3 _ jX M5 rfl rfl rfl rfl rfl (bA rfl) rfl (fun w6 M6 => ?_)
  refine aE (aF (aH (aB ?_)))
  refine aA (aG 1 mB rfl) rfl rfl ?_
  refine aA (aQ 0 (.int _ _) aW M6 rfl rfl rfl) rfl rfl ?_
  refine aA (bC dJ Tryz.underlying2 rfl (eT _ (by omega) (by omega))) rfl rfl ?_
  refine aA (aG 1 mB rfl) rfl rfl ?_
  refine aA (aQ 1 (.int _ _) aW M6 rfl rfl rfl) rfl rfl ?_
  refine aA (bC dJ Tryz.underlying2 rfl (eT _ (by omega) (by omega))) rfl rfl ?_
  refine aA (aZ rfl rfl (by omega) (by omega)) rfl rfl ?_
  refine aA (aD (.int _ _) rfl) rfl rfl ?_
  refine aE (aF (aH (aH (aB ?_))))
  refine aA (aR 3 jX M6 rfl rfl rfl) rfl rfl ?_
  refine aM aIc rfl rfl rfl ?_
  refine (nR _ (lB a b).1 (lB a b).2.1 hch.a hch.b).mono ?_
  rintro _ w7 ⟨v7, rfl, ⟨rfl, hb7⟩⟩
  refine ⟨_, rfl, ?_⟩
  have M7 := M6.callB hb7
  refine aK 31 (.int .u64 ((mI (mP (lB a b)) (nN (lB a b)) : Nat) : Int)) rfl ?_
  refine aA (aC (.int _ _) rfl) rfl rfl ?_
  refine aA (dH lD Tryz.underlying170 rfl) rfl rfl ?_
  refine aK 33 (.int .u64 (((a.radius + b.radius).natAbs : Nat) : Int)) (iE (by rw [eX]; omega)) ?_
  refine aA (aC (.int _ _) rfl) rfl rfl ?_
  refine aA (dH lD Tryz.underlying170 rfl) rfl rfl ?_
  refine aK 35 (.int .u64 (((a.radius + b.radius).natAbs : Nat) : Int)) (iE (by rw [eX]; omega)) ?_
  refine aA (aN (.int _ _) rfl rfl rfl) rfl rfl ?_
  refine aK 36 (.int .u64 (((a.radius + b.radius).natAbs * (a.radius + b.radius).natAbs : Nat) : Int)) (iE (iY _ _ (by omega))) ?_
  refine aA (aN (.bool (decide _)) rfl rfl rfl) rfl rfl ?_
  refine aE (aF ?_)
  refine aX rfl (fun h37 => ?_) (fun h37 => ?_)
  · refine aH (aB ?_)
    refine aA (cL [] _ pV rfl rfl) rfl rfl ?_
    refine bL 2 _ dP M7 rfl rfl rfl rfl rfl (bA rfl) rfl (fun w8 M8 => ?_)
    refine aA (aD (.bool false) rfl) rfl rfl ?_
    refine aE (aF (aU (dC ?_)))
    refine aEf (v2 := .bool false) 2 dP M8 rfl rfl rfl rfl ?_
    exact ⟨by unfold gO; first | (rw [if_pos (by omega)]; rfl) | (rw [if_neg (by omega)]; rfl), M8.below⟩
  · refine aO (aF (aH (aB ?_)))
    refine aA (aG 2 rQ rfl) rfl rfl ?_
    refine aA (aG 0 cN rfl) rfl rfl ?_
    refine aA (aQ 3 (.int _ _) aW M7 rfl rfl rfl) rfl rfl ?_
    refine aA (bC dJ Tryz.underlying2 rfl (eT _ (by omega) (by omega))) rfl rfl ?_
    refine aA (aG 0 sV rfl) rfl rfl ?_
    refine aA (aG 0 cN rfl) rfl rfl ?_
    refine aA (aQ 3 (.int _ _) aW M7 rfl rfl rfl) rfl rfl ?_
    refine aA (bC dJ Tryz.underlying2 rfl (eT _ (by omega) (by omega))) rfl rfl ?_
    refine aA (fC rfl rfl (by omega) (by omega)) rfl rfl ?_
    refine aK 47 (.int .i64 (mP (lB a b))) rfl ?_
    refine aA (aD (.int _ _) rfl) rfl rfl ?_
    refine aE (aF (aH (aB ?_)))
    refine aA (aG 2 rQ rfl) rfl rfl ?_
    refine aA (aG 1 cJ rfl) rfl rfl ?_
    refine aA (aQ 3 (.int _ _) aW M7 rfl rfl rfl) rfl rfl ?_
    refine aA (bC dJ Tryz.underlying2 rfl (eT _ (by omega) (by omega))) rfl rfl ?_
    refine aA (aG 0 sV rfl) rfl rfl ?_
    refine aA (aG 1 cJ rfl) rfl rfl ?_
    refine aA (aQ 3 (.int _ _) aW M7 rfl rfl rfl) rfl rfl ?_
    refine aA (bC dJ Tryz.underlying2 rfl (eT _ (by omega) (by omega))) rfl rfl ?_
    refine aA (fC rfl rfl (by omega) (by omega)) rfl rfl ?_
    refine aK 56 (.int .i64 (nN (lB a b))) rfl ?_
    refine aA (aD (.int _ _) rfl) rfl rfl ?_
    refine aE (aF (aH ?_))
    refine bY [(0, 0), (1, 1), (2, 0), (3, 1), (4, 0), (5, 0), (6, 0), (8, 0), (9, 0), (10, 0), (7, 2), (11, 2), (12, 0), (13, 0), (14, 0), (15, 2), (16, 0)] mixed rfl (by kernel_rfl) (fun w9 hb9 hh9 => ?_)
    have M9 := M7.drew hb9 hh9
    refine aP rfl rfl rfl (fun _ => aG 0 dL rfl) ?_
    refine cB rfl rfl rfl (aQ 0 (.int _ _) cO M9 rfl rfl rfl) ?_
    refine aP rfl rfl rfl (fun _ => aG 0 dL rfl) ?_
    refine cB rfl rfl rfl (aQ 1 (.int _ _) cO M9 rfl rfl rfl) ?_
    refine aP rfl rfl rfl (fun _ => cL [(0, .int _ _), (1, .int _ _)] _ uB rfl rfl) ?_
    refine aP rfl rfl rfl (fun _ => aC (.int _ _) rfl) ?_
    refine aP rfl rfl rfl (fun _ => aC (.int _ _) rfl) ?_
    refine aP rfl rfl rfl (fun _ => aC (.int _ _) rfl) ?_
    refine aP rfl rfl rfl (fun _ => aC (.int _ _) rfl) ?_
    refine aP rfl rfl rfl (fun _ => aC (.int _ _) rfl) ?_
    refine eN [false, false] rfl (by kernel_rfl) ?_
    refine aM aZk rfl rfl rfl ?_
    refine (aJe _ (mP (lB a b)) (nN (lB a b)) hd.1 hd.2).mono ?_
    rintro _ w10 ⟨v10, rfl, ⟨rfl, hb10⟩⟩
    refine ⟨_, rfl, ?_⟩
    have M10 := M9.callB hb10
    refine aE (aF ⟨(fH (cF rfl (aQ 1 (.int _ _) cO M10 rfl rfl rfl)) (fH (cF rfl (aQ 0 (.int _ _) cO M10 rfl rfl rfl)) eM)), ?_⟩)
    refine eN [false, false] rfl (by kernel_rfl) ?_
    refine aM aHx rfl rfl rfl ?_
    refine (oH _ (mP (lB a b)) (nN (lB a b)) hd.1 hd.2).mono ?_
    rintro _ w11 ⟨v11, rfl, ⟨rfl, hb11⟩⟩
    refine ⟨_, rfl, ?_⟩
    have M11 := M10.callB hb11
    refine aE (aF ⟨(fH (cF rfl (aQ 1 (.int _ _) cO M11 rfl rfl rfl)) (fH (cF rfl (aQ 0 (.int _ _) cO M11 rfl rfl rfl)) eM)), ?_⟩)
    refine aP rfl rfl rfl (fun _ => fC rfl rfl (by omega) (by omega)) ?_
    refine aP rfl rfl rfl (fun _ => dH lD Tryz.underlying21 rfl) ?_
    refine aP rfl rfl rfl (fun _ => cL [(0, .agg (List.toArray _)), (1, .agg (List.toArray _)), (2, .int _ _)] _ pV rfl rfl) ?_
    refine eN [true, true] rfl (by kernel_rfl) ?_
    refine bL 2 _ dP M11 rfl rfl rfl rfl rfl (bA rfl) rfl (fun w12 M12 => ?_)
    refine aE (aF ⟨eM, ?_⟩)
    refine aP rfl rfl rfl (fun _ => aD (.bool true) rfl) ?_
    refine cI ?_
    refine aF (aU ?_)
    refine aEf (v2 := .bool true) 2 dP M12 rfl rfl rfl rfl ?_
    exact ⟨by unfold gO; first | (rw [if_pos (by omega)]; rfl) | (rw [if_neg (by omega)]; rfl), M12.below⟩
set_option maxHeartbeats 4000000 in
theorem aLj (w : World) (a b : Body) (ha : Okb a) (hb : Okb b) (hk : b.key < a.key) :
    Calls Tryz.prog 75 #[(.agg (aI a).toArray), (.agg (aI b).toArray)] w (fun ex w' => ∃ v, ex = .returned v ∧ (fun v w' => v = .tuple #[.agg (aEm (gO b a)).toArray, .bool (gO b a).isSome] ∧ Below w.heap.size w w') v w') := by
  refine aL #[.cell 4 121, .tmp 5] 72 Tryz.func75 rfl Tryz.results75 Tryz.ntmps75 rfl ?_
  have M0 := Mem.refl w
  refine aH (aB ?_)
  refine bM (.agg (List.toArray _)) M0 rfl rfl rfl (fun b1 w1 M1 => ?_)
  refine bM (.agg (List.toArray _)) M1 rfl rfl rfl (fun b2 w2 M2 => ?_)
  refine aV kB M2 rfl rfl (fun b3 w3 M3 => ?_)
  refine aA (aD (.bool false) rfl) rfl rfl ?_
  refine aE (aF (aH (aH (aB ?_))))
  refine aA (aG 0 dL rfl) rfl rfl ?_
  refine aA (aQ 1 (.int _ _) cO M3 rfl rfl rfl) rfl rfl ?_
  refine aA (aG 0 dL rfl) rfl rfl ?_
  refine aA (aQ 0 (.int _ _) cO M3 rfl rfl rfl) rfl rfl ?_
  refine aA (aN (.bool (decide _)) rfl rfl rfl) rfl rfl ?_
  refine aK 14 (.bool true) (bT (by omega)).symm ?_
  refine aE (aF ?_)
  refine cM rfl ?_
  refine aH (aB ?_)
  refine aA (aR 1 bP M3 rfl rfl rfl) rfl rfl ?_
  refine aA (aR 0 bP M3 rfl rfl rfl) rfl rfl ?_
  refine aM aPu rfl rfl rfl ?_
  refine (aAx _ b a hb ha (by omega)).mono ?_
  rintro _ w4 ⟨v4, rfl, ⟨rfl, hb4⟩⟩
  refine ⟨_, rfl, ?_⟩
  have M4 := M3.callB hb4
  refine aA (bI (.agg (List.toArray _)) rfl rfl) rfl rfl ?_
  refine aA (bI (.bool _) rfl rfl) rfl rfl ?_
  refine bL 2 _ dP M4 rfl rfl rfl rfl rfl (bA rfl) rfl (fun w5 M5 => ?_)
  refine aA (aD (.bool _) rfl) rfl rfl ?_
  refine aE (aF (aU (dC ?_)))
  refine aEf (v2 := .bool _) 2 dP M5 rfl rfl rfl rfl ?_
  exact ⟨rfl, M5.below⟩
theorem aDw (w : World) (a b : Body) (ha : Okb a) (hb : Okb b) : Calls Tryz.prog 75 #[(.agg (aI a).toArray), (.agg (aI b).toArray)] w (fun ex w' => ∃ v, ex = .returned v ∧ (fun v w' => v = .tuple #[.agg (aEm (iC a b)).toArray, .bool (iC a b).isSome] ∧ Below w.heap.size w w') v w') := by
  unfold iC
  by_cases hk : b.key < a.key
  · rw [if_pos hk]; exact aLj w a b ha hb hk
  · rw [if_neg hk]; exact aAx w a b ha hb hk
end Go.Proofs.YtlmcphcgiclanaaGreatDoor

namespace Go.Proofs.YtlmcphcgiclanaaGreatDoor
open Go.Bil
open Go.RowKit (Below)
open Go.Proofs
set_option maxHeartbeats 4000000 in
theorem vU (w : World) (b : Body) (hb : Okb b) :
    Calls Tryz.prog 198 #[(.agg (aI b).toArray)] w (fun ex w' => ∃ v, ex = .returned v ∧ (fun v w' => v = (.agg (lI b).toArray) ∧ Below w.heap.size w w') v w') := by
  refine aL #[.cell 2 239] 14 Tryz.func198 rfl Tryz.results198 Tryz.ntmps198 rfl ?_
  have M0 := Mem.refl w
  refine aH (aB ?_)
  refine bM (.agg (List.toArray _)) M0 rfl rfl rfl (fun b1 w1 M1 => ?_)
  refine aV sJ M1 rfl rfl (fun b2 w2 M2 => ?_)
  refine aE (aF (aH (aB ?_)))
  refine aA (aR 0 bP M2 rfl rfl rfl) rfl rfl ?_
  refine aM aZp rfl rfl rfl ?_
  refine (aNn _ b hb).mono ?_
  rintro _ w3 ⟨v3, rfl, ⟨rfl, hb3⟩⟩
  refine ⟨_, rfl, ?_⟩
  have M3 := M2.callB hb3
  refine aA (aC (.tuple (List.toArray _)) rfl) rfl rfl ?_
  refine aA (bI (.agg (List.toArray _)) rfl rfl) rfl rfl ?_
  refine aA (bI (.agg (List.toArray _)) rfl rfl) rfl rfl ?_
  refine aV gE M3 rfl rfl (fun b4 w4 M4 => ?_)
  refine aV gE M4 rfl rfl (fun b5 w5 M5 => ?_)
  refine bL 2 _ bE M5 rfl rfl rfl rfl rfl (bA rfl) rfl (fun w6 M6 => ?_)
  refine bL 3 _ bE M6 rfl rfl rfl rfl rfl (bA rfl) rfl (fun w7 M7 => ?_)
  refine aE (aF (aH (aB ?_)))
  refine aA (aR 0 bP M7 rfl rfl rfl) rfl rfl ?_
  refine aA (aR 2 bE M7 rfl rfl rfl) rfl rfl ?_
  refine aA (aR 3 bE M7 rfl rfl rfl) rfl rfl ?_
  refine aA (cL [(0, .agg (List.toArray _)), (1, .agg (List.toArray _)), (2, .agg (List.toArray _))] _ aLy rfl rfl) rfl rfl ?_
  refine bL 1 _ kT M7 rfl rfl rfl rfl rfl (bA rfl) rfl (fun w8 M8 => ?_)
  refine aE (aF (aU ?_))
  refine gM 1 kT M8 rfl rfl rfl ?_
  exact ⟨rfl, M8.below⟩
set_option maxHeartbeats 4000000 in
theorem aUs (w : World) (a b : Body) (ha : Okb a) (hb : Okb b) :
    Calls Tryz.prog 171 #[(.agg (aI a).toArray), (.agg (aI b).toArray)] w (fun ex w' => ∃ v, ex = .returned v ∧ (fun v w' => v = .tuple #[(.agg (lI (loB a b)).toArray), (.agg (lI (hiB a b)).toArray)] ∧ Below w.heap.size w w') v w') := by
  refine aL #[.cell 4 239, .cell 5 239] 17 Tryz.func171 rfl Tryz.results171 Tryz.ntmps171 rfl ?_
  have M0 := Mem.refl w
  refine aH (aB ?_)
  refine bM (.agg (List.toArray _)) M0 rfl rfl rfl (fun b1 w1 M1 => ?_)
  refine bM (.agg (List.toArray _)) M1 rfl rfl rfl (fun b2 w2 M2 => ?_)
  refine aV sJ M2 rfl rfl (fun b3 w3 M3 => ?_)
  refine aV sJ M3 rfl rfl (fun b4 w4 M4 => ?_)
  refine aE (aF (aH (aH (aB ?_))))
  refine aA (aG 0 dL rfl) rfl rfl ?_
  refine aA (aQ 0 (.int _ _) cO M4 rfl rfl rfl) rfl rfl ?_
  refine aA (aG 0 dL rfl) rfl rfl ?_
  refine aA (aQ 1 (.int _ _) cO M4 rfl rfl rfl) rfl rfl ?_
  refine aA (aN (.bool (decide _)) rfl rfl rfl) rfl rfl ?_
  refine aE (aF ?_)
  refine aX rfl (fun h10 => ?_) (fun h10 => ?_)
  · refine aB ?_
    refine aA (aR 1 bP M4 rfl rfl rfl) rfl rfl ?_
    refine aA (aR 0 bP M4 rfl rfl rfl) rfl rfl ?_
    refine bL 0 _ bP M4 rfl rfl rfl rfl rfl (bA rfl) rfl (fun w5 M5 => ?_)
    refine bL 1 _ bP M5 rfl rfl rfl rfl rfl (bA rfl) rfl (fun w6 M6 => ?_)
    refine aE (aF (aH ?_))
    refine bY [(0, 1), (2, 1), (1, 2), (3, 2), (4, 2), (5, 2)] mixed rfl (by kernel_rfl) (fun w7 hb7 hh7 => ?_)
    have M7 := M6.drew hb7 hh7
    refine cB rfl rfl rfl (aR 0 bP M7 rfl rfl rfl) ?_
    refine cB rfl rfl rfl (aR 1 bP M7 rfl rfl rfl) ?_
    refine eN [false, true] rfl (by kernel_rfl) ?_
    refine aM aDb rfl rfl rfl ?_
    refine (vU _ b hb).mono ?_
    rintro _ w8 ⟨v8, rfl, ⟨rfl, hb8⟩⟩
    refine ⟨_, rfl, ?_⟩
    have M8 := M7.callB hb8
    refine aE (aF ⟨(fH (cF rfl (aR 1 bP M8 rfl rfl rfl)) eM), ?_⟩)
    refine eN [true] rfl (by kernel_rfl) ?_
    refine aM aDb rfl rfl rfl ?_
    refine (vU _ a ha).mono ?_
    rintro _ w9 ⟨v9, rfl, ⟨rfl, hb9⟩⟩
    refine ⟨_, rfl, ?_⟩
    have M9 := M8.callB hb9
    refine aE (aF ⟨eM, ?_⟩)
    refine eN [] rfl (by kernel_rfl) ?_
    refine bL 2 _ kT M9 rfl rfl rfl rfl rfl (bA rfl) rfl (fun w10 M10 => ?_)
    refine aE (aF ⟨eM, ?_⟩)
    refine eN [] rfl (by kernel_rfl) ?_
    refine bL 3 _ kT M10 rfl rfl rfl rfl rfl (bA rfl) rfl (fun w11 M11 => ?_)
    refine aE (aF ⟨eM, ?_⟩)
    refine cI ?_
    refine aF (aU ?_)
    refine aJk 2 3 kT M11 rfl rfl rfl rfl rfl rfl ?_
    exact ⟨by unfold loB hiB; first | rw [if_pos (by omega), if_pos (by omega)] | rw [if_neg (by omega), if_neg (by omega)], M11.below⟩
  · refine aO (aF (aH ?_))
    refine bY [(0, 1), (2, 1), (1, 2), (3, 2), (4, 2), (5, 2)] mixed rfl (by kernel_rfl) (fun w12 hb12 hh12 => ?_)
    have M12 := M4.drew hb12 hh12
    refine cB rfl rfl rfl (aR 0 bP M12 rfl rfl rfl) ?_
    refine cB rfl rfl rfl (aR 1 bP M12 rfl rfl rfl) ?_
    refine eN [false, true] rfl (by kernel_rfl) ?_
    refine aM aDb rfl rfl rfl ?_
    refine (vU _ a ha).mono ?_
    rintro _ w13 ⟨v13, rfl, ⟨rfl, hb13⟩⟩
    refine ⟨_, rfl, ?_⟩
    have M13 := M12.callB hb13
    refine aE (aF ⟨(fH (cF rfl (aR 1 bP M13 rfl rfl rfl)) eM), ?_⟩)
    refine eN [true] rfl (by kernel_rfl) ?_
    refine aM aDb rfl rfl rfl ?_
    refine (vU _ b hb).mono ?_
    rintro _ w14 ⟨v14, rfl, ⟨rfl, hb14⟩⟩
    refine ⟨_, rfl, ?_⟩
    have M14 := M13.callB hb14
    refine aE (aF ⟨eM, ?_⟩)
    refine eN [] rfl (by kernel_rfl) ?_
    refine bL 2 _ kT M14 rfl rfl rfl rfl rfl (bA rfl) rfl (fun w15 M15 => ?_)
    refine aE (aF ⟨eM, ?_⟩)
    refine eN [] rfl (by kernel_rfl) ?_
    refine bL 3 _ kT M15 rfl rfl rfl rfl rfl (bA rfl) rfl (fun w16 M16 => ?_)
    refine aE (aF ⟨eM, ?_⟩)
    refine cI ?_
    refine aF (aU ?_)
    refine aJk 2 3 kT M16 rfl rfl rfl rfl rfl rfl ?_
    exact ⟨by unfold loB hiB; first | rw [if_pos (by omega), if_pos (by omega)] | rw [if_neg (by omega), if_neg (by omega)], M16.below⟩
set_option maxHeartbeats 4000000 in
theorem aUk (w : World) (a b : Body) (ha : Okb a) (hb : Okb b) :
    Calls Tryz.prog 172 #[(.agg (lI a).toArray), (.agg (lI b).toArray)] w (fun ex w' => ∃ v, ex = .returned v ∧ (fun v w' => v = .tuple #[.int .i64 (mP (lB a b)), .int .i64 (nN (lB a b)), .int .i64 (a.radius + b.radius)] ∧ Below w.heap.size w w') v w') := by
  have hra := ha.r
  have hrb := hb.r
  have hch := tQ ha hb
  refine aL #[.tmp 4, .tmp 5, .tmp 6] 38 Tryz.func172 rfl Tryz.results172 Tryz.ntmps172 rfl ?_
  have M0 := Mem.refl w
  refine aH (aB ?_)
  refine bM (.agg (List.toArray _)) M0 rfl rfl rfl (fun b1 w1 M1 => ?_)
  refine bM (.agg (List.toArray _)) M1 rfl rfl rfl (fun b2 w2 M2 => ?_)
  refine aA (aD (.int _ _) rfl) rfl rfl ?_
  refine aA (aD (.int _ _) rfl) rfl rfl ?_
  refine aA (aD (.int _ _) rfl) rfl rfl ?_
  refine aE (aF (aH (aB ?_)))
  refine aA (aG 10 aGe rfl) rfl rfl ?_
  refine aA (wS 0 _ bE M2 rfl rfl rfl rfl) rfl rfl ?_
  refine aA (aG 12 aFd rfl) rfl rfl ?_
  refine aA (wS 0 _ bE M2 rfl rfl rfl rfl) rfl rfl ?_
  refine aA (aG 10 aGe rfl) rfl rfl ?_
  refine aA (wS 1 _ bE M2 rfl rfl rfl rfl) rfl rfl ?_
  refine aA (aG 12 aFd rfl) rfl rfl ?_
  refine aA (wS 1 _ bE M2 rfl rfl rfl rfl) rfl rfl ?_
  refine aM bAs rfl rfl rfl ?_
  refine (aGw _ (tU a) (tK a) (tU b) (tK b) (mG ha) (mG hb)).mono ?_
  rintro _ w3 ⟨v3, rfl, ⟨rfl, hb3⟩⟩
  refine ⟨_, rfl, ?_⟩
  have M3 := M2.callB hb3
  refine aA (aC (.tuple (List.toArray _)) rfl) rfl rfl ?_
  refine aA (bI (.agg (List.toArray _)) rfl rfl) rfl rfl ?_
  refine aA (bI (.agg (List.toArray _)) rfl rfl) rfl rfl ?_
  refine aV gE M3 rfl rfl (fun b4 w4 M4 => ?_)
  refine aV gE M4 rfl rfl (fun b5 w5 M5 => ?_)
  refine bL 2 _ bE M5 rfl rfl rfl rfl rfl (bA rfl) rfl (fun w6 M6 => ?_)
  refine bL 3 _ bE M6 rfl rfl rfl rfl rfl (bA rfl) rfl (fun w7 M7 => ?_)
  refine aE (aF (aH (aB ?_)))
  refine aA (aR 2 bE M7 rfl rfl rfl) rfl rfl ?_
  refine aA (aR 3 bE M7 rfl rfl rfl) rfl rfl ?_
  refine aM xT rfl rfl rfl ?_
  refine (oU _ (lB a b).1 (lB a b).2.1 hch.a.i32 hch.b.i32).mono ?_
  rintro _ w8 ⟨v8, rfl, ⟨rfl, hb8⟩⟩
  refine ⟨_, rfl, ?_⟩
  have M8 := M7.callB hb8
  refine aA (aC (.tuple (List.toArray _)) rfl) rfl rfl ?_
  refine aA (bI (.int _ _) rfl rfl) rfl rfl ?_
  refine aA (bI (.int _ _) rfl rfl) rfl rfl ?_
  refine aA (aD (.int _ _) rfl) rfl rfl ?_
  refine aA (aD (.int _ _) rfl) rfl rfl ?_
  refine aE (aF (aH ?_))
  refine bY [(0, 0), (1, 0), (2, 0), (3, 0), (4, 1), (5, 0), (6, 0), (7, 0), (8, 1), (9, 0), (10, 0), (11, 0), (12, 0), (13, 0)] mixed rfl (by kernel_rfl) (fun w9 hb9 hh9 => ?_)
  have M9 := M8.drew hb9 hh9
  refine aP rfl rfl rfl (fun _ => aC (.int _ _) rfl) ?_
  refine aP rfl rfl rfl (fun _ => aC (.int _ _) rfl) ?_
  refine aP rfl rfl rfl (fun _ => aG 0 rY rfl) ?_
  refine aP rfl rfl rfl (fun _ => aG 1 mB rfl) ?_
  refine cB rfl rfl rfl (aQ 0 (.int _ _) aW M9 rfl rfl rfl) ?_
  refine aP rfl rfl rfl (fun _ => bC dJ Tryz.underlying2 rfl (eT _ (by omega) (by omega))) ?_
  refine aP rfl rfl rfl (fun _ => aG 0 rY rfl) ?_
  refine aP rfl rfl rfl (fun _ => aG 1 mB rfl) ?_
  refine cB rfl rfl rfl (aQ 1 (.int _ _) aW M9 rfl rfl rfl) ?_
  refine aP rfl rfl rfl (fun _ => bC dJ Tryz.underlying2 rfl (eT _ (by omega) (by omega))) ?_
  refine aP rfl rfl rfl (fun _ => aZ rfl rfl (by omega) (by omega)) ?_
  refine aP rfl rfl rfl (fun _ => aD (.int _ _) rfl) ?_
  refine aP rfl rfl rfl (fun _ => aD (.int _ _) rfl) ?_
  refine aP rfl rfl rfl (fun _ => aD (.int _ _) rfl) ?_
  refine cI ?_
  refine aF (aU ?_)
  refine aSu (.int _ _) (.int _ _) (.int _ _) rfl rfl rfl ?_
  exact ⟨rfl, M9.below⟩
set_option maxHeartbeats 4000000 in
theorem wT (w : World) (a b : Body) (ha : Okb a) (hb : Okb b) :
    Calls Tryz.prog 137 #[(.agg (aI a).toArray), (.agg (aI b).toArray)] w (fun ex w' => ∃ v, ex = .returned v ∧ (fun v w' => v = .tuple #[.agg (aEm (iC a b)).toArray, .bool (iC a b).isSome] ∧ Below w.heap.size w w') v w') := by
  obtain ⟨hlo, hhi⟩ := aYr ha hb
  have hd := aPv hlo hhi
  have hl := rI hd.1 hd.2
  have hss := aSn hlo hhi
  have hr1 := hlo.r
  have hr2 := hhi.r
  refine aL #[.cell 4 121, .tmp 5] 52 Tryz.func137 rfl Tryz.results137 Tryz.ntmps137 rfl ?_
  have M0 := Mem.refl w
  refine aH (aB ?_)
  refine bM (.agg (List.toArray _)) M0 rfl rfl rfl (fun b1 w1 M1 => ?_)
  refine bM (.agg (List.toArray _)) M1 rfl rfl rfl (fun b2 w2 M2 => ?_)
  refine aV kB M2 rfl rfl (fun b3 w3 M3 => ?_)
  refine aA (aD (.bool false) rfl) rfl rfl ?_
  refine aE (aF (aH (aB ?_)))
  refine aA (aR 0 bP M3 rfl rfl rfl) rfl rfl ?_
  refine aA (aR 1 bP M3 rfl rfl rfl) rfl rfl ?_
  refine aM aYt rfl rfl rfl ?_
  refine (aUs _ a b ha hb).mono ?_
  rintro _ w4 ⟨v4, rfl, ⟨rfl, hb4⟩⟩
  refine ⟨_, rfl, ?_⟩
  have M4 := M3.callB hb4
  refine aA (aC (.tuple (List.toArray _)) rfl) rfl rfl ?_
  refine aA (bI (.agg (List.toArray _)) rfl rfl) rfl rfl ?_
  refine aA (bI (.agg (List.toArray _)) rfl rfl) rfl rfl ?_
  refine aV sJ M4 rfl rfl (fun b5 w5 M5 => ?_)
  refine aV sJ M5 rfl rfl (fun b6 w6 M6 => ?_)
  refine bL 3 _ kT M6 rfl rfl rfl rfl rfl (bA rfl) rfl (fun w7 M7 => ?_)
  refine bL 4 _ kT M7 rfl rfl rfl rfl rfl (bA rfl) rfl (fun w8 M8 => ?_)
  refine aE (aF (aH (aB ?_)))
  refine aA (aR 3 kT M8 rfl rfl rfl) rfl rfl ?_
  refine aA (aR 4 kT M8 rfl rfl rfl) rfl rfl ?_
  refine aM aXs rfl rfl rfl ?_
  refine (aUk _ (loB a b) (hiB a b) hlo hhi).mono ?_
  rintro _ w9 ⟨v9, rfl, ⟨rfl, hb9⟩⟩
  refine ⟨_, rfl, ?_⟩
  have M9 := M8.callB hb9
  refine aA (aC (.tuple (List.toArray _)) rfl) rfl rfl ?_
  refine aA (bI (.int _ _) rfl rfl) rfl rfl ?_
  refine aA (bI (.int _ _) rfl rfl) rfl rfl ?_
  refine aA (bI (.int _ _) rfl rfl) rfl rfl ?_
  refine aA (aD (.int _ _) rfl) rfl rfl ?_
  refine aA (aD (.int _ _) rfl) rfl rfl ?_
  refine aA (aD (.int _ _) rfl) rfl rfl ?_
  refine aE (aF (aH (aH (aB ?_))))
  refine aA (aC (.int _ _) rfl) rfl rfl ?_
  refine aA (aC (.int _ _) rfl) rfl rfl ?_
  refine aM aHg rfl rfl rfl ?_
  refine (nQ _ (mP (lB (loB a b) (hiB a b))) (nN (lB (loB a b) (hiB a b))) hd.1 hd.2).mono ?_
  rintro _ w10 ⟨v10, rfl, ⟨rfl, hb10⟩⟩
  refine ⟨_, rfl, ?_⟩
  have M10 := M9.callB hb10
  refine aA (aC (.int _ _) rfl) rfl rfl ?_
  refine aA (aC (.int _ _) rfl) rfl rfl ?_
  refine aA (fP rfl rfl (by omega) (by omega)) rfl rfl ?_
  refine aA (dH lD Tryz.underlying170 rfl) rfl rfl ?_
  refine aK 31 (.int .u64 ((((loB a b).radius + (hiB a b).radius).natAbs * ((loB a b).radius + (hiB a b).radius).natAbs : Nat) : Int)) (iE (aUc _ hss)) ?_
  refine aA (aN (.bool (decide _)) rfl rfl rfl) rfl rfl ?_
  refine aE (aF ?_)
  refine aX rfl (fun h32 => ?_) (fun h32 => ?_)
  · refine aH (aB ?_)
    refine aA (cL [] _ pV rfl rfl) rfl rfl ?_
    refine bL 2 _ dP M10 rfl rfl rfl rfl rfl (bA rfl) rfl (fun w11 M11 => ?_)
    refine aA (aD (.bool false) rfl) rfl rfl ?_
    refine aE (aF (aU (dC ?_)))
    refine aEf (v2 := .bool false) 2 dP M11 rfl rfl rfl rfl ?_
    exact ⟨by rw [aDs]; unfold gO; first | (rw [if_pos (by omega)]; rfl) | (rw [if_neg (by omega)]; rfl), M11.below⟩
  · refine aO (aF (aH (aB ?_)))
    refine aA (aG 0 rY rfl) rfl rfl ?_
    refine aA (aG 0 dL rfl) rfl rfl ?_
    refine aA (aQ 3 (.int _ _) cO M10 rfl rfl rfl) rfl rfl ?_
    refine aA (aG 0 rY rfl) rfl rfl ?_
    refine aA (aG 0 dL rfl) rfl rfl ?_
    refine aA (aQ 4 (.int _ _) cO M10 rfl rfl rfl) rfl rfl ?_
    refine aA (cL [(0, .int _ _), (1, .int _ _)] _ uB rfl rfl) rfl rfl ?_
    refine aV pM M10 rfl rfl (fun b12 w12 M12 => ?_)
    refine bL 5 _ gI M12 rfl rfl rfl rfl rfl (bA rfl) rfl (fun w13 M13 => ?_)
    refine aE (aF (aH ?_))
    refine bY [(0, 1), (1, 0), (2, 0), (4, 0), (5, 0), (6, 0), (3, 2), (7, 2), (8, 0), (9, 0), (10, 0), (11, 2), (12, 0)] mixed rfl (by kernel_rfl) (fun w14 hb14 hh14 => ?_)
    have M14 := M13.drew hb14 hh14
    refine cB rfl rfl rfl (aR 5 gI M14 rfl rfl rfl) ?_
    refine aP rfl rfl rfl (fun _ => aC (.int _ _) rfl) ?_
    refine aP rfl rfl rfl (fun _ => aC (.int _ _) rfl) ?_
    refine aP rfl rfl rfl (fun _ => aC (.int _ _) rfl) ?_
    refine aP rfl rfl rfl (fun _ => aC (.int _ _) rfl) ?_
    refine aP rfl rfl rfl (fun _ => aC (.int _ _) rfl) ?_
    refine eN [false] rfl (by kernel_rfl) ?_
    refine aM aXy rfl rfl rfl ?_
    refine (aPz _ (mP (lB (loB a b) (hiB a b))) (nN (lB (loB a b) (hiB a b))) hd.1 hd.2).mono ?_
    rintro _ w15 ⟨v15, rfl, ⟨rfl, hb15⟩⟩
    refine ⟨_, rfl, ?_⟩
    have M15 := M14.callB hb15
    refine aE (aF ⟨(fH (cF rfl (aR 5 gI M15 rfl rfl rfl)) eM), ?_⟩)
    refine eN [false] rfl (by kernel_rfl) ?_
    refine aM aSt rfl rfl rfl ?_
    refine (xM _ (mP (lB (loB a b) (hiB a b))) (nN (lB (loB a b) (hiB a b))) hd.1 hd.2).mono ?_
    rintro _ w16 ⟨v16, rfl, ⟨rfl, hb16⟩⟩
    refine ⟨_, rfl, ?_⟩
    have M16 := M15.callB hb16
    refine aE (aF ⟨(fH (cF rfl (aR 5 gI M16 rfl rfl rfl)) eM), ?_⟩)
    refine aP rfl rfl rfl (fun _ => fC rfl rfl (by omega) (by omega)) ?_
    refine aP rfl rfl rfl (fun _ => dH lD Tryz.underlying21 rfl) ?_
    refine aP rfl rfl rfl (fun _ => cL [(0, .agg (List.toArray _)), (1, .agg (List.toArray _)), (2, .int _ _)] _ pV rfl rfl) ?_
    refine eN [true] rfl (by kernel_rfl) ?_
    refine bL 2 _ dP M16 rfl rfl rfl rfl rfl (bA rfl) rfl (fun w17 M17 => ?_)
    refine aE (aF ⟨eM, ?_⟩)
    refine aP rfl rfl rfl (fun _ => aD (.bool true) rfl) ?_
    refine cI ?_
    refine aF (aU ?_)
    refine aEf (v2 := .bool true) 2 dP M17 rfl rfl rfl rfl ?_
    exact ⟨by rw [aDs]; unfold gO; first | (rw [if_pos (by omega)]; rfl) | (rw [if_neg (by omega)]; rfl), M17.below⟩
end Go.Proofs.YtlmcphcgiclanaaGreatDoor
