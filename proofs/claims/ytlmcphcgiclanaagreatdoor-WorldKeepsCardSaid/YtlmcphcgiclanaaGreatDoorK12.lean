/- Part of the proof of the laws of this seat: W1, W2. No conditions. -/
import Derived.Test.YtlmcphcgiclanaaGreatDoorK5
import Derived.Test.YtlmcphcgiclanaaGreatDoorK7
import Derived.Test.YtlmcphcgiclanaaGreatDoorK6
import Derived.Test.YtlmcphcgiclanaaGreatDoorK8
import Derived.Test.YtlmcphcgiclanaaGreatDoorK11
import Derived.Shelf.Bits.Mul64
import Derived.Shelf.Small.Bits
set_option linter.unusedVariables false
set_option linter.unusedSimpArgs false
set_option linter.unnecessarySimpa false
namespace Go.Proofs.YtlmcphcgiclanaaGreatDoor
open Go.Bil
open Go.RowKit (Below)
open Go.Proofs
theorem aPr (w : World) (x y : Nat) (hx : x < 18446744073709551616) (hy : y < 18446744073709551616) : Calls Tryz.prog 178 #[.int .u64 (x : Int), .int .u64 (y : Int)] w (fun ex w' => ∃ v, ex = .returned v ∧ v = .tuple #[.int .u64 ((x * y / 18446744073709551616 : Nat) : Int), .int .u64 ((x * y % 18446744073709551616 : Nat) : Int)] ∧ Below w.heap.size w w') :=
  (Any.bits_Mul64 aLu x y hx hy w).mono (by rintro ex w' ⟨rfl, rfl⟩; exact ⟨_, rfl, rfl, Below.refl _ _⟩)
theorem bEq (w : World) (y s : Nat) (hy : y < 18446744073709551616) (hs : lzN y = s) : Calls Tryz.prog 206 #[.int .u64 (y : Int)] w (fun ex w' => ∃ v, ex = .returned v ∧ v = .int .i64 (s : Int) ∧ Below w.heap.size w w') :=
  (Any.bits_LeadingZeros64 aTn (y : Int) w (by omega) (by omega)).mono (by
    rintro ex w' ⟨rfl, rfl⟩
    refine ⟨_, rfl, ?_, Below.refl _ _⟩
    have hl := Go.Lib.bitLen_le y 64 (Nat.le_refl _) hy
    unfold lzN at hs
    exact iE (by rw [Int.toNat_natCast]; omega))
set_option maxHeartbeats 16000000 in
theorem aXy (w : World) (hi lo y : Nat) (hy : hi < y) (hY : y < 18446744073709551616) (hl : lo < 18446744073709551616) :
    Calls Tryz.prog 180 #[.int .u64 (hi : Int), .int .u64 (lo : Int), .int .u64 (y : Int)] w (fun ex w' => ∃ v, ex = .returned v ∧ (fun v w' => v = .tuple #[.int .u64 (((hi * 18446744073709551616 + lo) / y : Nat) : Int), .int .u64 (((hi * 18446744073709551616 + lo) % y : Nat) : Int)] ∧ Below w.heap.size w w') v w') := by
  obtain ⟨s, A, E, Y, U, W, y1, y0, d1, d0, Q1, U2, Q0, R, V, h63, hYl, hUY, hWl, ⟨hy1, hy1', hy0, hd1, hd0⟩, hQ1, hU2, hQ0, hRl⟩ := aLz hy hY hl
  have hAE := V.eU
  have hSp : Y = y1 * 4294967296 + y0 := by have h1 := V.ey1; have h2 := V.ey0; omega
  obtain ⟨p1, P1, z1, hp1, hP1, hz1, hPU, hzl, DU⟩ := aGb (u := U) (y1 := y1) (y0 := y0) (d := d1) (by omega) hy1' hd1 (by omega)
  obtain ⟨p2, P2, z2, hp2, hP2, hz2, hPU2, hzl2, DU2⟩ := aGb (u := U2) (y1 := y1) (y0 := y0) (d := d0) (by omega) hy1' hd0 (by omega)
  refine aJ #[.tmp 6, .tmp 7] 135 Tryz.func180 rfl Tryz.results180 Tryz.ntmps180 rfl ?_
  have M0 := Mem.refl w
  refine aG (aB ?_)
  refine aA (aE (.int _ _) rfl) rfl rfl ?_
  refine aA (aE (.int _ _) rfl) rfl rfl ?_
  refine aC (aF (aG (aG (aB ?_))))
  refine aA (aD (.int _ _) rfl) rfl rfl ?_
  refine aA (aP (.bool (decide _)) rfl rfl rfl) rfl rfl ?_
  refine aM 20 (.bool false) (bF (by omega)).symm ?_
  refine aC (aF ?_)
  refine cH rfl ?_
  refine aN (aF (aG (aG (aB ?_))))
  refine aA (aD (.int _ _) rfl) rfl rfl ?_
  refine aA (aD (.int _ _) rfl) rfl rfl ?_
  refine aA (aP (.bool (decide _)) rfl rfl rfl) rfl rfl ?_
  refine aM 24 (.bool false) (bF (by omega)).symm ?_
  refine aC (aF ?_)
  refine cH rfl ?_
  refine aN (aF (aG (aG (aB ?_))))
  refine aA (aD (.int _ _) rfl) rfl rfl ?_
  refine aA (aP (.bool (decide _)) rfl rfl rfl) rfl rfl ?_
  refine aC (aF ?_)
  refine aZ rfl (fun h27 => ?_) (fun h27 => ?_)
  · refine aG ?_
    refine bS [(0, 0), (1, 0), (2, 0), (3, 0), (4, 0), (5, 0), (6, 0), (7, 0)] mixed rfl (by kernel_rfl) (fun w1 hb1 hh1 => ?_)
    have M1 := M0.drew hb1 hh1
    refine aU rfl rfl rfl (fun _ => aD (.int _ _) rfl) ?_
    refine aU rfl rfl rfl (fun _ => aD (.int _ _) rfl) ?_
    refine aU rfl rfl rfl (fun _ => aKk rfl rfl (by omega)) ?_
    refine iL 30 (.int .u64 ((lo / y : Nat) : Int)) (iE (aPg lo y hl)) ?_
    refine aU rfl rfl rfl (fun _ => aD (.int _ _) rfl) ?_
    refine aU rfl rfl rfl (fun _ => aD (.int _ _) rfl) ?_
    refine aU rfl rfl rfl (fun _ => aYi rfl rfl (by omega)) ?_
    refine iL 33 (.int .u64 ((lo % y : Nat) : Int)) (iE (bDg lo y)) ?_
    refine aU rfl rfl rfl (fun _ => aE (.int _ _) rfl) ?_
    refine aU rfl rfl rfl (fun _ => aE (.int _ _) rfl) ?_
    refine cF ?_
    refine aF (aR (cC ?_))
    refine fZ (.int _ _) (.int _ _) rfl rfl ?_
    exact ⟨by simp [show hi = 0 by omega], M1.below⟩
  · refine aN (aF (aG (aB ?_)))
    refine aA (aD (.int _ _) rfl) rfl rfl ?_
    refine aK bAm rfl rfl rfl ?_
    refine (bEq _ y s hY V.hs).mono ?_
    rintro _ w2 ⟨v2, rfl, ⟨rfl, hb2⟩⟩
    refine ⟨_, rfl, ?_⟩
    have M2 := M0.callB hb2
    refine aA (bV us3 Tryz.underlying136 rfl (gZ _ (by omega) (by omega))) rfl rfl ?_
    refine aA (aE (.int _ _) rfl) rfl rfl ?_
    refine aC (aF (aG (aB ?_)))
    refine aA (aD (.int _ _) rfl) rfl rfl ?_
    refine aA (aD (.int _ _) rfl) rfl rfl ?_
    refine aA (rP rfl rfl (by omega)) rfl rfl ?_
    refine aM 39 (.int .u64 (Y : Int)) (iE ((aRr y s _ rfl (by omega) (by rw [V.eY]; exact hYl)).trans (congrArg _ V.eY))) ?_
    refine aA (aE (.int _ _) rfl) rfl rfl ?_
    refine aC (aF (aG (aB ?_)))
    refine aA (aD (.int _ _) rfl) rfl rfl ?_
    refine aA (gA rfl rfl (by decide)) rfl rfl ?_
    refine aM 41 (.int .u64 (y1 : Int)) (iE ((aJz Y).trans (congrArg _ V.ey1))) ?_
    refine aA (aE (.int _ _) rfl) rfl rfl ?_
    refine aC (aF (aG (aB ?_)))
    refine aA (aD (.int _ _) rfl) rfl rfl ?_
    refine aA (aP (.int _ _) rfl rfl rfl) rfl rfl ?_
    refine aM 43 (.int .u64 (y0 : Int)) (iE ((aJt Y hYl).trans (congrArg _ V.ey0))) ?_
    refine aA (aE (.int _ _) rfl) rfl rfl ?_
    refine aC (aF (aG (aB ?_)))
    refine aA (aD (.int _ _) rfl) rfl rfl ?_
    refine aA (aD (.int _ _) rfl) rfl rfl ?_
    refine aA (rP rfl rfl (by omega)) rfl rfl ?_
    refine aM 46 (.int .u64 (A : Int)) (iE ((aRr hi s _ rfl (by omega) (by rw [V.eA]; omega)).trans (congrArg _ V.eA))) ?_
    refine aA (aD (.int _ _) rfl) rfl rfl ?_
    refine aA (aD (.int _ _) rfl) rfl rfl ?_
    refine aA (lD rfl rfl (gZ _ (by omega) (by omega))) rfl rfl ?_
    refine aA (gA rfl rfl (by omega)) rfl rfl ?_
    refine aM 50 (.int .u64 (E : Int)) (iE ((aAv lo (64 - s) _ (by omega) (by omega)).trans (congrArg _ V.eE))) ?_
    refine aA (aP (.int _ _) rfl rfl rfl) rfl rfl ?_
    refine aM 51 (.int .u64 (U : Int)) (iE ((bEa hi A E s V.eA V.hE (by omega)).trans (congrArg _ V.eU))) ?_
    refine aA (aE (.int _ _) rfl) rfl rfl ?_
    refine aC (aF (aG (aB ?_)))
    refine aA (aD (.int _ _) rfl) rfl rfl ?_
    refine aA (aD (.int _ _) rfl) rfl rfl ?_
    refine aA (rP rfl rfl (by omega)) rfl rfl ?_
    refine aM 54 (.int .u64 (W : Int)) (iE ((aSq lo s _ rfl (by omega)).trans (congrArg _ V.eW))) ?_
    refine aA (aE (.int _ _) rfl) rfl rfl ?_
    refine aC (aF (aG (aB ?_)))
    refine aA (aD (.int _ _) rfl) rfl rfl ?_
    refine aA (gA rfl rfl (by decide)) rfl rfl ?_
    refine aM 56 (.int .u64 (d1 : Int)) (iE ((aJz W).trans (congrArg _ V.ed1))) ?_
    refine aA (aE (.int _ _) rfl) rfl rfl ?_
    refine aC (aF (aG (aB ?_)))
    refine aA (aD (.int _ _) rfl) rfl rfl ?_
    refine aA (aP (.int _ _) rfl rfl rfl) rfl rfl ?_
    refine aM 58 (.int .u64 (d0 : Int)) (iE ((aJt W hWl).trans (congrArg _ V.ed0))) ?_
    refine aA (aE (.int _ _) rfl) rfl rfl ?_
    refine aC (aF (aG (aB ?_)))
    refine aA (aD (.int _ _) rfl) rfl rfl ?_
    refine aA (aD (.int _ _) rfl) rfl rfl ?_
    refine aA (aKk rfl rfl (by omega)) rfl rfl ?_
    refine aM 61 (.int .u64 (p1 : Int)) (iE ((aPg U y1 (by omega)).trans (congrArg _ hp1))) ?_
    refine aA (aE (.int _ _) rfl) rfl rfl ?_
    refine aC (aF (aG (aB ?_)))
    refine aA (aD (.int _ _) rfl) rfl rfl ?_
    refine aA (aD (.int _ _) rfl) rfl rfl ?_
    refine aA (aD (.int _ _) rfl) rfl rfl ?_
    refine aA (aP (.int _ _) rfl rfl rfl) rfl rfl ?_
    refine aM 65 (.int .u64 (P1 : Int)) (iE ((aMr p1 y1 (by omega)).trans (congrArg _ hP1))) ?_
    refine aA (lD rfl rfl (gZ _ (by omega) (by omega))) rfl rfl ?_
    refine aM 66 (.int .u64 (z1 : Int)) (iE (by omega)) ?_
    refine aA (aE (.int _ _) rfl) rfl rfl ?_
    refine aC (aF ?_)
    refine aQj (σ := Unit) [] (fun _ => [(15, .int .u64 (Q1 : Int)), (6, .int .u64 0), (7, .int .u64 0), (2, .int .u64 (Y : Int)), (8, .int .u64 (s : Int)), (9, .int .u64 (y1 : Int)), (10, .int .u64 (y0 : Int)), (11, .int .u64 (U : Int)), (13, .int .u64 (d1 : Int)), (14, .int .u64 (d0 : Int))]) (fun _ w' => Mem w [] [] w') ?_ ?_
    · refine aV ?_
      refine dK (σ := Nat × Nat) [] (fun (q1, r1) => [(15, .int .u64 (q1 : Int)), (16, .int .u64 (r1 : Int)), (6, .int .u64 0), (7, .int .u64 0), (2, .int .u64 (Y : Int)), (8, .int .u64 (s : Int)), (9, .int .u64 (y1 : Int)), (10, .int .u64 (y0 : Int)), (11, .int .u64 (U : Int)), (13, .int .u64 (d1 : Int)), (14, .int .u64 (d0 : Int))]) (fun (q1, r1) w' => (r1 < 4294967296 ∧ Dg U y1 y0 d1 q1 r1) ∧ Mem w [] [] w') (fun (q1, r1) => q1) (p1, z1) (bK rfl (bK rfl (bK rfl (bK rfl (bK rfl (bK rfl (bK rfl (bK rfl (bK rfl (bK rfl (bK rfl eO))))))))))) (⟨⟨by omega, DU⟩, M2⟩) ?_
      rintro ⟨q1, r1⟩ ρ4 w4 ⟨⟨hr1, Dr1⟩, hM4⟩
      refine aG (aG (aB ?_))
      refine aA (aD (.int _ _) rfl) rfl rfl ?_
      refine aA (aP (.bool (decide _)) rfl rfl rfl) rfl rfl ?_
      refine aA (aD (.bool (decide _)) rfl) rfl rfl ?_
      refine cY 69 rfl (fun g69 => ?_) (fun g69 => ?_)
      · refine aS rfl rfl ?_
        refine aS rfl rfl ?_
        refine aS rfl rfl ?_
        refine aS rfl rfl ?_
        refine aS rfl rfl ?_
        refine aS rfl rfl ?_
        refine aS rfl rfl ?_
        refine aS rfl rfl ?_
        refine aA (bN true (.bool true) rfl rfl) rfl rfl ?_
        refine aC (aF ?_)
        refine cK rfl ?_
        refine aN (aF (aV (aG (aB ?_))))
        refine aA (aD (.int _ _) rfl) rfl rfl ?_
        have hsr1 := uX (u := U) (d := d1) (by omega) (by omega) Dr1 (by first | exact .inl (by omega) | exact .inr (by omega))
        have hlr1 := aDi hy1 (by omega) Dr1
        have hqr1 := hsr1.1
        have D'r1 := hsr1.2
        refine aA (lD rfl rfl (gZ _ (by omega) (by omega))) rfl rfl ?_
        refine aM 80 (.int .u64 ((q1 - 1 : Nat) : Int)) (iE (by omega)) ?_
        refine aA (aE (.int _ _) rfl) rfl rfl ?_
        refine aC (aF (aG (aB ?_)))
        refine aA (aD (.int _ _) rfl) rfl rfl ?_
        refine aA (aD (.int _ _) rfl) rfl rfl ?_
        refine aA (iA rfl rfl (gZ _ (by omega) (by omega))) rfl rfl ?_
        refine aM 83 (.int .u64 ((r1 + y1 : Nat) : Int)) (iE (by omega)) ?_
        refine aA (aE (.int _ _) rfl) rfl rfl ?_
        refine aC (aF (aG (aB ?_)))
        refine aA (aD (.int _ _) rfl) rfl rfl ?_
        refine aA (aP (.bool (decide _)) rfl rfl rfl) rfl rfl ?_
        refine aC (aF ?_)
        refine aZ rfl (fun h85 => ?_) (fun h85 => ?_)
        · have hxr1 : q1 - 1 = Q1 := (qS (by omega) (by omega) (by omega) D'r1 (by omega)).trans V.eQ1
          refine cP ?_
          refine aUu rfl ?_
          refine cZ ?_
          refine eQ ?_
          refine aBb () (bK (iv rfl (by omega)) (bK rfl (bK rfl (bK rfl (bK rfl (bK rfl (bK rfl (bK rfl (bK rfl (bK rfl eO)))))))))) jB ?_
          exact hM4
        · refine aN ?_
          refine dB ?_
          refine cO (q1 - 1, r1 + y1) (bK rfl (bK rfl (bK rfl (bK rfl (bK rfl (bK rfl (bK rfl (bK rfl (bK rfl (bK rfl (bK rfl eO))))))))))) jB ?_ ?_
          · exact ⟨⟨by omega, D'r1⟩, hM4⟩
          · (show q1 - 1 < q1; omega)
      · refine aA (aD (.int _ _) rfl) rfl rfl ?_
        refine aA (aD (.int _ _) rfl) rfl rfl ?_
        refine aA (aP (.int _ _) rfl rfl rfl) rfl rfl ?_
        refine aM 72 (.int .u64 ((q1 * y0 : Nat) : Int)) (iE (aMr q1 y0 (by have := aXj (q := q1) (y0 := y0) (by omega) (by omega); omega))) ?_
        refine aA (aD (.int _ _) rfl) rfl rfl ?_
        refine aA (aHd rfl rfl (gZ _ (by omega) (by omega))) rfl rfl ?_
        refine aA (aD (.int _ _) rfl) rfl rfl ?_
        refine aA (iA rfl rfl (gZ _ (by omega) (by omega))) rfl rfl ?_
        refine aA (aP (.bool (decide _)) rfl rfl rfl) rfl rfl ?_
        refine aA (bN false (.bool (decide _)) rfl rfl) rfl rfl ?_
        refine aC (aF ?_)
        refine aZ rfl (fun h78 => ?_) (fun h78 => ?_)
        · refine aN (aF (aV (aG (aB ?_))))
          refine aA (aD (.int _ _) rfl) rfl rfl ?_
          have hsr1 := uX (u := U) (d := d1) (by omega) (by omega) Dr1 (by first | exact .inl (by omega) | exact .inr (by omega))
          have hlr1 := aDi hy1 (by omega) Dr1
          have hqr1 := hsr1.1
          have D'r1 := hsr1.2
          refine aA (lD rfl rfl (gZ _ (by omega) (by omega))) rfl rfl ?_
          refine aM 80 (.int .u64 ((q1 - 1 : Nat) : Int)) (iE (by omega)) ?_
          refine aA (aE (.int _ _) rfl) rfl rfl ?_
          refine aC (aF (aG (aB ?_)))
          refine aA (aD (.int _ _) rfl) rfl rfl ?_
          refine aA (aD (.int _ _) rfl) rfl rfl ?_
          refine aA (iA rfl rfl (gZ _ (by omega) (by omega))) rfl rfl ?_
          refine aM 83 (.int .u64 ((r1 + y1 : Nat) : Int)) (iE (by omega)) ?_
          refine aA (aE (.int _ _) rfl) rfl rfl ?_
          refine aC (aF (aG (aB ?_)))
          refine aA (aD (.int _ _) rfl) rfl rfl ?_
          refine aA (aP (.bool (decide _)) rfl rfl rfl) rfl rfl ?_
          refine aC (aF ?_)
          refine aZ rfl (fun h85 => ?_) (fun h85 => ?_)
          · have hxr1 : q1 - 1 = Q1 := (qS (by omega) (by omega) (by omega) D'r1 (by omega)).trans V.eQ1
            refine cP ?_
            refine aUu rfl ?_
            refine cZ ?_
            refine eQ ?_
            refine aBb () (bK (iv rfl (by omega)) (bK rfl (bK rfl (bK rfl (bK rfl (bK rfl (bK rfl (bK rfl (bK rfl (bK rfl eO)))))))))) jB ?_
            exact hM4
          · refine aN ?_
            refine dB ?_
            refine cO (q1 - 1, r1 + y1) (bK rfl (bK rfl (bK rfl (bK rfl (bK rfl (bK rfl (bK rfl (bK rfl (bK rfl (bK rfl (bK rfl eO))))))))))) jB ?_ ?_
            · exact ⟨⟨by omega, D'r1⟩, hM4⟩
            · (show q1 - 1 < q1; omega)
        · have hxr1 : q1 = Q1 := (aCz (by omega) Dr1 (by omega)).trans V.eQ1
          refine cP ?_
          refine dA ?_
          refine cZ ?_
          refine eQ ?_
          refine aBb () (bK (iv rfl (by omega)) (bK rfl (bK rfl (bK rfl (bK rfl (bK rfl (bK rfl (bK rfl (bK rfl (bK rfl eO)))))))))) jB ?_
          exact hM4
    · rintro _ ρ3 w3 hM3
      refine aG (aB ?_)
      refine aA (aD (.int _ _) rfl) rfl rfl ?_
      refine aA (aP (.int _ _) rfl rfl rfl) rfl rfl ?_
      refine aA (aD (.int _ _) rfl) rfl rfl ?_
      refine aA (aP (.int _ _) rfl rfl rfl) rfl rfl ?_
      refine aA (aD (.int _ _) rfl) rfl rfl ?_
      refine aM 90 (.int .u64 (Q1 : Int)) (iE (by omega)) ?_
      refine aA (aD (.int _ _) rfl) rfl rfl ?_
      refine aA (aP (.int _ _) rfl rfl rfl) rfl rfl ?_
      refine aM 92 (.int .u64 ((Q1 * Y % 18446744073709551616 : Nat) : Int)) (iE (aXg Q1 Y)) ?_
      refine aA (aP (.int _ _) rfl rfl rfl) rfl rfl ?_
      refine aM 93 (.int .u64 (U2 : Int)) (iE (by have := V.eU2; rw [qM, qM, qM]; omega)) ?_
      refine aA (aE (.int _ _) rfl) rfl rfl ?_
      refine aC (aF (aG (aB ?_)))
      refine aA (aD (.int _ _) rfl) rfl rfl ?_
      refine aA (aD (.int _ _) rfl) rfl rfl ?_
      refine aA (aKk rfl rfl (by omega)) rfl rfl ?_
      refine aM 96 (.int .u64 (p2 : Int)) (iE ((aPg U2 y1 (by omega)).trans (congrArg _ hp2))) ?_
      refine aA (aE (.int _ _) rfl) rfl rfl ?_
      refine aC (aF (aG (aB ?_)))
      refine aA (aD (.int _ _) rfl) rfl rfl ?_
      refine aA (aD (.int _ _) rfl) rfl rfl ?_
      refine aA (aD (.int _ _) rfl) rfl rfl ?_
      refine aA (aP (.int _ _) rfl rfl rfl) rfl rfl ?_
      refine aM 100 (.int .u64 (P2 : Int)) (iE ((aMr p2 y1 (by omega)).trans (congrArg _ hP2))) ?_
      refine aA (lD rfl rfl (gZ _ (by omega) (by omega))) rfl rfl ?_
      refine aM 101 (.int .u64 (z2 : Int)) (iE (by omega)) ?_
      refine aA (aE (.int _ _) rfl) rfl rfl ?_
      refine aC (aF ?_)
      refine aQj (σ := Unit) [] (fun _ => [(18, .int .u64 (Q0 : Int)), (6, .int .u64 0), (7, .int .u64 0), (2, .int .u64 (Y : Int)), (8, .int .u64 (s : Int)), (14, .int .u64 (d0 : Int)), (15, .int .u64 (Q1 : Int)), (17, .int .u64 (U2 : Int))]) (fun _ w' => Mem w [] [] w') ?_ ?_
      · refine aV ?_
        refine dK (σ := Nat × Nat) [] (fun (q0, r0) => [(18, .int .u64 (q0 : Int)), (16, .int .u64 (r0 : Int)), (6, .int .u64 0), (7, .int .u64 0), (2, .int .u64 (Y : Int)), (8, .int .u64 (s : Int)), (14, .int .u64 (d0 : Int)), (15, .int .u64 (Q1 : Int)), (17, .int .u64 (U2 : Int)), (9, .int .u64 (y1 : Int)), (10, .int .u64 (y0 : Int))]) (fun (q0, r0) w' => (r0 < 4294967296 ∧ Dg U2 y1 y0 d0 q0 r0) ∧ Mem w [] [] w') (fun (q0, r0) => q0) (p2, z2) (bK rfl (bK rfl (bK rfl (bK rfl (bK rfl (bK rfl (bK rfl (bK rfl (bK rfl (bK rfl (bK rfl eO))))))))))) (⟨⟨by omega, DU2⟩, hM3⟩) ?_
        rintro ⟨q0, r0⟩ ρ6 w6 ⟨⟨hr0, Dr0⟩, hM6⟩
        refine aG (aG (aB ?_))
        refine aA (aD (.int _ _) rfl) rfl rfl ?_
        refine aA (aP (.bool (decide _)) rfl rfl rfl) rfl rfl ?_
        refine aA (aD (.bool (decide _)) rfl) rfl rfl ?_
        refine cY 104 rfl (fun g104 => ?_) (fun g104 => ?_)
        · refine aS rfl rfl ?_
          refine aS rfl rfl ?_
          refine aS rfl rfl ?_
          refine aS rfl rfl ?_
          refine aS rfl rfl ?_
          refine aS rfl rfl ?_
          refine aS rfl rfl ?_
          refine aS rfl rfl ?_
          refine aA (bN true (.bool true) rfl rfl) rfl rfl ?_
          refine aC (aF ?_)
          refine cK rfl ?_
          refine aN (aF (aV (aG (aB ?_))))
          refine aA (aD (.int _ _) rfl) rfl rfl ?_
          have hsr0 := uX (u := U2) (d := d0) (by omega) (by omega) Dr0 (by first | exact .inl (by omega) | exact .inr (by omega))
          have hlr0 := aDi hy1 (by omega) Dr0
          have hqr0 := hsr0.1
          have D'r0 := hsr0.2
          refine aA (lD rfl rfl (gZ _ (by omega) (by omega))) rfl rfl ?_
          refine aM 115 (.int .u64 ((q0 - 1 : Nat) : Int)) (iE (by omega)) ?_
          refine aA (aE (.int _ _) rfl) rfl rfl ?_
          refine aC (aF (aG (aB ?_)))
          refine aA (aD (.int _ _) rfl) rfl rfl ?_
          refine aA (aD (.int _ _) rfl) rfl rfl ?_
          refine aA (iA rfl rfl (gZ _ (by omega) (by omega))) rfl rfl ?_
          refine aM 118 (.int .u64 ((r0 + y1 : Nat) : Int)) (iE (by omega)) ?_
          refine aA (aE (.int _ _) rfl) rfl rfl ?_
          refine aC (aF (aG (aB ?_)))
          refine aA (aD (.int _ _) rfl) rfl rfl ?_
          refine aA (aP (.bool (decide _)) rfl rfl rfl) rfl rfl ?_
          refine aC (aF ?_)
          refine aZ rfl (fun h120 => ?_) (fun h120 => ?_)
          · have hxr0 : q0 - 1 = Q0 := (qS (by omega) (by omega) (by omega) D'r0 (by omega)).trans V.eQ0
            refine cP ?_
            refine aUu rfl ?_
            refine cZ ?_
            refine eQ ?_
            refine aBb () (bK (iv rfl (by omega)) (bK rfl (bK rfl (bK rfl (bK rfl (bK rfl (bK rfl (bK rfl eO)))))))) jB ?_
            exact hM6
          · refine aN ?_
            refine dB ?_
            refine cO (q0 - 1, r0 + y1) (bK rfl (bK rfl (bK rfl (bK rfl (bK rfl (bK rfl (bK rfl (bK rfl (bK rfl (bK rfl (bK rfl eO))))))))))) jB ?_ ?_
            · exact ⟨⟨by omega, D'r0⟩, hM6⟩
            · (show q0 - 1 < q0; omega)
        · refine aA (aD (.int _ _) rfl) rfl rfl ?_
          refine aA (aD (.int _ _) rfl) rfl rfl ?_
          refine aA (aP (.int _ _) rfl rfl rfl) rfl rfl ?_
          refine aM 107 (.int .u64 ((q0 * y0 : Nat) : Int)) (iE (aMr q0 y0 (by have := aXj (q := q0) (y0 := y0) (by omega) (by omega); omega))) ?_
          refine aA (aD (.int _ _) rfl) rfl rfl ?_
          refine aA (aHd rfl rfl (gZ _ (by omega) (by omega))) rfl rfl ?_
          refine aA (aD (.int _ _) rfl) rfl rfl ?_
          refine aA (iA rfl rfl (gZ _ (by omega) (by omega))) rfl rfl ?_
          refine aA (aP (.bool (decide _)) rfl rfl rfl) rfl rfl ?_
          refine aA (bN false (.bool (decide _)) rfl rfl) rfl rfl ?_
          refine aC (aF ?_)
          refine aZ rfl (fun h113 => ?_) (fun h113 => ?_)
          · refine aN (aF (aV (aG (aB ?_))))
            refine aA (aD (.int _ _) rfl) rfl rfl ?_
            have hsr0 := uX (u := U2) (d := d0) (by omega) (by omega) Dr0 (by first | exact .inl (by omega) | exact .inr (by omega))
            have hlr0 := aDi hy1 (by omega) Dr0
            have hqr0 := hsr0.1
            have D'r0 := hsr0.2
            refine aA (lD rfl rfl (gZ _ (by omega) (by omega))) rfl rfl ?_
            refine aM 115 (.int .u64 ((q0 - 1 : Nat) : Int)) (iE (by omega)) ?_
            refine aA (aE (.int _ _) rfl) rfl rfl ?_
            refine aC (aF (aG (aB ?_)))
            refine aA (aD (.int _ _) rfl) rfl rfl ?_
            refine aA (aD (.int _ _) rfl) rfl rfl ?_
            refine aA (iA rfl rfl (gZ _ (by omega) (by omega))) rfl rfl ?_
            refine aM 118 (.int .u64 ((r0 + y1 : Nat) : Int)) (iE (by omega)) ?_
            refine aA (aE (.int _ _) rfl) rfl rfl ?_
            refine aC (aF (aG (aB ?_)))
            refine aA (aD (.int _ _) rfl) rfl rfl ?_
            refine aA (aP (.bool (decide _)) rfl rfl rfl) rfl rfl ?_
            refine aC (aF ?_)
            refine aZ rfl (fun h120 => ?_) (fun h120 => ?_)
            · have hxr0 : q0 - 1 = Q0 := (qS (by omega) (by omega) (by omega) D'r0 (by omega)).trans V.eQ0
              refine cP ?_
              refine aUu rfl ?_
              refine cZ ?_
              refine eQ ?_
              refine aBb () (bK (iv rfl (by omega)) (bK rfl (bK rfl (bK rfl (bK rfl (bK rfl (bK rfl (bK rfl eO)))))))) jB ?_
              exact hM6
            · refine aN ?_
              refine dB ?_
              refine cO (q0 - 1, r0 + y1) (bK rfl (bK rfl (bK rfl (bK rfl (bK rfl (bK rfl (bK rfl (bK rfl (bK rfl (bK rfl (bK rfl eO))))))))))) jB ?_ ?_
              · exact ⟨⟨by omega, D'r0⟩, hM6⟩
              · (show q0 - 1 < q0; omega)
          · have hxr0 : q0 = Q0 := (aCz (by omega) Dr0 (by omega)).trans V.eQ0
            refine cP ?_
            refine dA ?_
            refine cZ ?_
            refine eQ ?_
            refine aBb () (bK (iv rfl (by omega)) (bK rfl (bK rfl (bK rfl (bK rfl (bK rfl (bK rfl (bK rfl eO)))))))) jB ?_
            exact hM6
      · rintro _ ρ5 w5 hM5
        refine aG (aB ?_)
        refine aA (aD (.int _ _) rfl) rfl rfl ?_
        refine aM 121 (.int .u64 (Q1 : Int)) (iE (by omega)) ?_
        refine aA (aHd rfl rfl (gZ _ (by omega) (by omega))) rfl rfl ?_
        refine aA (aD (.int _ _) rfl) rfl rfl ?_
        refine aM 123 (.int .u64 (Q0 : Int)) (iE (by omega)) ?_
        refine aA (iA rfl rfl (gZ _ (by omega) (by omega))) rfl rfl ?_
        refine aA (aD (.int _ _) rfl) rfl rfl ?_
        refine aA (aP (.int _ _) rfl rfl rfl) rfl rfl ?_
        refine aA (aD (.int _ _) rfl) rfl rfl ?_
        refine aA (aP (.int _ _) rfl rfl rfl) rfl rfl ?_
        refine aA (aD (.int _ _) rfl) rfl rfl ?_
        refine aM 129 (.int .u64 (Q0 : Int)) (iE (by omega)) ?_
        refine aA (aD (.int _ _) rfl) rfl rfl ?_
        refine aA (aP (.int _ _) rfl rfl rfl) rfl rfl ?_
        refine aM 131 (.int .u64 ((Q0 * Y % 18446744073709551616 : Nat) : Int)) (iE (aXg Q0 Y)) ?_
        refine aA (aP (.int _ _) rfl rfl rfl) rfl rfl ?_
        refine aM 132 (.int .u64 (R : Int)) (iE (by have := V.eR; rw [qM, qM, qM]; omega)) ?_
        refine aA (aD (.int _ _) rfl) rfl rfl ?_
        refine aA (gA rfl rfl (by omega)) rfl rfl ?_
        refine aM 134 (.int .u64 ((R / 2 ^ s : Nat) : Int)) (iE (aAv R s _ rfl (by omega))) ?_
        refine aA (aE (.int _ _) rfl) rfl rfl ?_
        refine aA (aE (.int _ _) rfl) rfl rfl ?_
        refine aC (aF (aR ?_))
        refine fZ (.int _ _) (.int _ _) rfl rfl ?_
        exact ⟨by rw [V.fq, V.fr]; exact zJ (iE (by omega)) rfl, hM5.below⟩
set_option maxHeartbeats 4000000 in
theorem iO (w : World) (a : Int) (h0 : -9223372036854775808 ≤ a) (h1 : a ≤ 9223372036854775807) :
    Calls Tryz.prog 179 #[.int .i64 a] w (fun ex w' => ∃ v, ex = .returned v ∧ (fun v w' => v = .int .u64 ((a.natAbs : Nat) : Int) ∧ Below w.heap.size w w') v w') := by
  refine aJ #[.tmp 2] 10 Tryz.func179 rfl Tryz.results179 Tryz.ntmps179 rfl ?_
  have M0 := Mem.refl w
  refine aG (aB ?_)
  refine aA (aE (.int _ _) rfl) rfl rfl ?_
  refine aC (aF (aG (aG (aB ?_))))
  refine aA (aD (.int _ _) rfl) rfl rfl ?_
  refine aA (aP (.bool (decide _)) rfl rfl rfl) rfl rfl ?_
  refine aC (aF ?_)
  refine aZ rfl (fun h4 => ?_) (fun h4 => ?_)
  · refine aG (aB ?_)
    refine aA (aD (.int _ _) rfl) rfl rfl ?_
    refine aA (dR us2 Tryz.underlying170 rfl) rfl rfl ?_
    refine aA (wX rfl) rfl rfl ?_
    refine aM 7 (.int .u64 ((a.natAbs : Nat) : Int)) (iE (by rw [qM, qM]; omega)) ?_
    refine aA (aE (.int _ _) rfl) rfl rfl ?_
    refine aC (aF (aR (cC ?_)))
    refine bY (.int _ _) rfl ?_
    exact ⟨rfl, M0.below⟩
  · refine aN (aF (aG (aB ?_)))
    refine aA (aD (.int _ _) rfl) rfl rfl ?_
    refine aA (dR us2 Tryz.underlying170 rfl) rfl rfl ?_
    refine aM 9 (.int .u64 ((a.natAbs : Nat) : Int)) (iE (by rw [qM]; omega)) ?_
    refine aA (aE (.int _ _) rfl) rfl rfl ?_
    refine aC (aF (aR ?_))
    refine bY (.int _ _) rfl ?_
    exact ⟨rfl, M0.below⟩
set_option maxHeartbeats 4000000 in
theorem aCw (w : World) (s : Bool) :
    Calls Tryz.prog 181 #[.bool s] w (fun ex w' => ∃ v, ex = .returned v ∧ (fun v w' => ∃ b, v = .func (.func 207) #[] #[.pointer (some ⟨b, 0, none⟩)] ∧ Mem w [] [(some b, bc [.bool s] 4)] w') v w') := by
  refine aJ #[.tmp 2] 4 Tryz.func181 rfl Tryz.results181 Tryz.ntmps181 rfl ?_
  have M0 := Mem.refl w
  refine aG (aB ?_)
  refine bL (.bool _) M0 rfl rfl rfl (fun b1 w1 M1 => ?_)
  refine aA (aE (_) rfl) rfl rfl ?_
  refine aC (aF (aG (aB ?_)))
  refine aA (cQ [] [.pointer _] rfl rfl) rfl rfl ?_
  refine aA (aE (.func _ _ _) rfl) rfl rfl ?_
  refine aC (aF (aR ?_))
  refine bY (.func _ _ _) rfl ?_
  exact ⟨b1, rfl, M1⟩
set_option maxHeartbeats 4000000 in
theorem uU (w : World) (q : Nat) (s : Bool) (b : Nat) (hq : q ≤ 4611686018427387904) (K : Rd w 1 (some ⟨b, 0, none⟩) 1 [[.bool s]]) :
    Calls Tryz.prog 207 #[.int .u64 (q : Int), .pointer (some ⟨b, 0, none⟩)] w (fun ex w' => ∃ v, ex = .returned v ∧ (fun v w' => v = .tuple #[.int .i64 (if s = true then -(q : Int) else (q : Int)), .bool true] ∧ Below w.heap.size w w') v w') := by
  rw [← eK b]
  refine aJ #[.tmp 3, .tmp 4] 15 Tryz.func207 rfl Tryz.results207 Tryz.ntmps207 rfl ?_
  have M0 := Mem.refl w
  refine aG (aB ?_)
  refine aA (aE (.int _ _) rfl) rfl rfl ?_
  refine aA (aE (.bool false) rfl) rfl rfl ?_
  refine aC (aF (aG (aG (aB ?_))))
  refine aA (eH (o := 0) (.bool _) oE (K.mem M0) (show ([[.bool s]] : List (List Value))[0]? = some [.bool s] from rfl) rfl rfl) rfl rfl ?_
  refine aC (aF ?_)
  refine gK _ rfl (fun h5 => ?_) (fun h5 => ?_)
  · refine aG (aB ?_)
    refine aA (aD (.int _ _) rfl) rfl rfl ?_
    refine aA (wX rfl) rfl rfl ?_
    refine aA (dR aAg Tryz.underlying2 rfl) rfl rfl ?_
    refine aM 8 (.int .i64 (-(q : Int))) (iE (aTy q hq)) ?_
    refine aA (aD (.int _ _) rfl) rfl rfl ?_
    refine aA (aP (.bool (decide _)) rfl rfl rfl) rfl rfl ?_
    refine aM 10 (.bool true) (bT (by omega)).symm ?_
    refine aA (aE (.int _ _) rfl) rfl rfl ?_
    refine aA (aE (.bool true) rfl) rfl rfl ?_
    refine aC (aF (aR (cC ?_)))
    refine fZ (.int _ _) (.bool true) rfl rfl ?_
    exact ⟨by simp [h5], M0.below⟩
  · refine aN (aF (aG (aB ?_)))
    refine aA (aD (.int _ _) rfl) rfl rfl ?_
    refine aA (bV aAg Tryz.underlying2 rfl (jY _ (by omega) (by omega))) rfl rfl ?_
    refine aA (aD (.int _ _) rfl) rfl rfl ?_
    refine aA (aP (.bool (decide _)) rfl rfl rfl) rfl rfl ?_
    refine aM 14 (.bool true) (bT (by omega)).symm ?_
    refine aA (aE (.int _ _) rfl) rfl rfl ?_
    refine aA (aE (.bool true) rfl) rfl rfl ?_
    refine aC (aF (aR ?_))
    refine fZ (.int _ _) (.bool true) rfl rfl ?_
    exact ⟨by simp [h5], M0.below⟩
end Go.Proofs.YtlmcphcgiclanaaGreatDoor

namespace Go.Proofs.YtlmcphcgiclanaaGreatDoor
open Go.Bil
open Go.RowKit (Below)
open Go.Proofs
set_option maxHeartbeats 8000000 in
theorem aZq (w : World) (a n d : Int) (ha : -4294967296 ≤ a ∧ a ≤ 4294967296) (hn : 0 ≤ n) (hnd : n ≤ d) (hd0 : 0 < d) (hd : d ≤ 9223372036854775807) :
    Calls Tryz.prog 141 #[.int .i64 a, .int .i64 n, .int .i64 d] w (fun ex w' => ∃ v, ex = .returned v ∧ (fun v w' => v = .tuple #[.int .i64 (a * n / d), .int .i64 0] ∧ Below w.heap.size w w') v w') := by
  obtain ⟨m, rfl⟩ := Int.eq_ofNat_of_zero_le hn
  obtain ⟨z, rfl⟩ := Int.eq_ofNat_of_zero_le (Int.le_of_lt hd0)
  have hmd := aQz (a := a) (m := m) (z := z) ha (by omega) (by omega) (by omega)
  obtain ⟨q, hq⟩ : ∃ q, a.natAbs * m / z = q := ⟨_, rfl⟩
  obtain ⟨r, hr⟩ : ∃ r, a.natAbs * m % z = r := ⟨_, rfl⟩
  have hql : q ≤ 4294967296 := by rw [← hq]; exact hmd.2.2.2
  refine aJ #[.tmp 6, .tmp 7] 65 Tryz.func141 rfl Tryz.results141 Tryz.ntmps141 rfl ?_
  have M0 := Mem.refl w
  refine aG (aB ?_)
  refine aA (aE (.int _ _) rfl) rfl rfl ?_
  refine aA (aE (.int _ _) rfl) rfl rfl ?_
  refine aC (aF (aG (aG (aB ?_))))
  refine aA (aD (.int _ _) rfl) rfl rfl ?_
  refine aA (aP (.bool (decide _)) rfl rfl rfl) rfl rfl ?_
  refine aM 17 (.bool false) (bF (by omega)).symm ?_
  refine aC (aF ?_)
  refine cH rfl ?_
  refine aN (aF (aG (aB ?_)))
  refine aA (aD (.int _ _) rfl) rfl rfl ?_
  refine aK oD rfl rfl rfl ?_
  refine (iO _ a (by omega) (by omega)).mono ?_
  rintro _ w1 ⟨v1, rfl, ⟨rfl, hb1⟩⟩
  refine ⟨_, rfl, ?_⟩
  have M1 := M0.callB hb1
  refine aA (aD (.int _ _) rfl) rfl rfl ?_
  refine aK oD rfl rfl rfl ?_
  refine (iO _ (m : Int) (by omega) (by omega)).mono ?_
  rintro _ w2 ⟨v2, rfl, ⟨rfl, hb2⟩⟩
  refine ⟨_, rfl, ?_⟩
  have M2 := M1.callB hb2
  refine aM 22 (.int .u64 (m : Int)) (iE (by omega)) ?_
  refine aK aJf rfl rfl rfl ?_
  refine (aPr _ a.natAbs m (by omega) (by omega)).mono ?_
  rintro _ w3 ⟨v3, rfl, ⟨rfl, hb3⟩⟩
  refine ⟨_, rfl, ?_⟩
  have M3 := M2.callB hb3
  refine aA (aD (.tuple (List.toArray _)) rfl) rfl rfl ?_
  refine aA (bG (.int _ _) rfl rfl) rfl rfl ?_
  refine aA (bG (.int _ _) rfl rfl) rfl rfl ?_
  refine aA (aE (.int _ _) rfl) rfl rfl ?_
  refine aA (aE (.int _ _) rfl) rfl rfl ?_
  refine aC (aF (aG (aB ?_)))
  refine aA (aD (.int _ _) rfl) rfl rfl ?_
  refine aK oD rfl rfl rfl ?_
  refine (iO _ (z : Int) (by omega) (by omega)).mono ?_
  rintro _ w4 ⟨v4, rfl, ⟨rfl, hb4⟩⟩
  refine ⟨_, rfl, ?_⟩
  have M4 := M3.callB hb4
  refine aM 27 (.int .u64 (z : Int)) (iE (by omega)) ?_
  refine aA (aE (.int _ _) rfl) rfl rfl ?_
  refine aC (aF (aG (aG (aB ?_))))
  refine aA (aD (.int _ _) rfl) rfl rfl ?_
  refine aA (aD (.int _ _) rfl) rfl rfl ?_
  refine aA (aP (.bool (decide _)) rfl rfl rfl) rfl rfl ?_
  refine aM 30 (.bool false) (bF (by have := hmd.1; omega)).symm ?_
  refine aC (aF ?_)
  refine cH rfl ?_
  refine aN (aF (aG (aB ?_)))
  refine aA (aD (.int _ _) rfl) rfl rfl ?_
  refine aA (aD (.int _ _) rfl) rfl rfl ?_
  refine aA (aD (.int _ _) rfl) rfl rfl ?_
  refine aK aSs rfl rfl rfl ?_
  refine (aXy _ (a.natAbs * m / 18446744073709551616) (a.natAbs * m % 18446744073709551616) z hmd.1 (by omega) hmd.2.1).mono ?_
  rintro _ w5 ⟨v5, rfl, ⟨rfl, hb5⟩⟩
  refine ⟨_, rfl, ?_⟩
  have M5 := M4.callB hb5
  refine aA (aD (.tuple (List.toArray _)) rfl) rfl rfl ?_
  refine aA (bG (.int _ _) rfl rfl) rfl rfl ?_
  refine aM 36 (.int .u64 (q : Int)) (iE (by rw [hmd.2.2.1, hq])) ?_
  refine aA (bG (.int _ _) rfl rfl) rfl rfl ?_
  refine aM 37 (.int .u64 (r : Int)) (iE (by rw [hmd.2.2.1, hr])) ?_
  refine aA (aE (.int _ _) rfl) rfl rfl ?_
  refine aA (aE (.int _ _) rfl) rfl rfl ?_
  refine aC (aF (aG (aB ?_)))
  refine aA (aD (.int _ _) rfl) rfl rfl ?_
  refine aA (aP (.bool (decide _)) rfl rfl rfl) rfl rfl ?_
  refine aA (aD (.int _ _) rfl) rfl rfl ?_
  refine aA (aP (.bool (decide _)) rfl rfl rfl) rfl rfl ?_
  refine aM 41 (.bool false) (bF (by omega)).symm ?_
  refine aA (xA _ Tryz.underlying4 rfl rfl rfl) rfl rfl ?_
  refine aM 42 (.bool (decide (a < 0))) (bv rfl (by simp)) ?_
  refine aA (aD (.int _ _) rfl) rfl rfl ?_
  refine aA (aP (.bool (decide _)) rfl rfl rfl) rfl rfl ?_
  refine aM 44 (.bool false) (bF (by omega)).symm ?_
  refine aA (xA _ Tryz.underlying4 rfl rfl rfl) rfl rfl ?_
  refine aM 45 (.bool (decide (a < 0))) (bv rfl (by simp)) ?_
  refine aA (aE (.bool (decide _)) rfl) rfl rfl ?_
  refine aC (aF (aG (aG (aB ?_))))
  refine aA (aD (.bool (decide _)) rfl) rfl rfl ?_
  refine aA (aD (.bool (decide _)) rfl) rfl rfl ?_
  refine cY 47 rfl (fun g47 => ?_) (fun g47 => ?_)
  · refine aA (aD (.int _ _) rfl) rfl rfl ?_
    refine aA (aP (.bool (decide _)) rfl rfl rfl) rfl rfl ?_
    refine aA (bN true (.bool (decide _)) rfl rfl) rfl rfl ?_
    refine aC (aF ?_)
    refine aZ rfl (fun h50 => ?_) (fun h50 => ?_)
    · refine aG (aB ?_)
      refine aA (aD (.int _ _) rfl) rfl rfl ?_
      refine aA (aP (.int _ _) rfl rfl rfl) rfl rfl ?_
      refine aM 52 (.int .u64 ((q + 1 : Nat) : Int)) (iE (by rw [qM]; omega)) ?_
      refine aA (aE (.int _ _) rfl) rfl rfl ?_
      refine aC (aF (aG (aB ?_)))
      refine aA (aD (.int _ _) rfl) rfl rfl ?_
      refine aA (aP (.bool (decide _)) rfl rfl rfl) rfl rfl ?_
      refine aM 54 (.bool false) (bF (by omega)).symm ?_
      refine aC (aF ?_)
      refine cH rfl ?_
      refine aN (aF (aG (aB ?_)))
      refine aA (aD (.bool (decide _)) rfl) rfl rfl ?_
      refine aK aCb rfl rfl rfl ?_
      refine (aCw _ _).mono ?_
      rintro _ w6 ⟨v6, rfl, ⟨bs, rfl, hM6⟩⟩
      refine ⟨_, rfl, ?_⟩
      have M6 : Mem _ _ [_] _ := M5.call0 hM6
      refine aA (aD (.int _ _) rfl) rfl rfl ?_
      refine aK aBx rfl rfl rfl ?_
      refine (uU _ _ _ bs (by omega) (lL 0 M6 rfl rfl)).mono ?_
      rintro _ w7 ⟨v7, rfl, ⟨rfl, hb7⟩⟩
      refine ⟨_, rfl, ?_⟩
      have M7 := M6.callB hb7
      refine aA (aD (.tuple (List.toArray _)) rfl) rfl rfl ?_
      refine aA (bG (.int _ _) rfl rfl) rfl rfl ?_
      refine aA (bG (.bool true) rfl rfl) rfl rfl ?_
      refine aA (aE (.int _ _) rfl) rfl rfl ?_
      refine aA (aE (.bool true) rfl) rfl rfl ?_
      refine aC (aF (aG (aG (aB ?_))))
      refine aA (aD (.bool true) rfl) rfl rfl ?_
      refine aA (iZ false rfl rfl) rfl rfl ?_
      refine aC (aF ?_)
      refine cH rfl ?_
      refine aN (aF (aG (aB ?_)))
      refine aA (aD (.int _ _) rfl) rfl rfl ?_
      refine aA (aE (.int _ _) rfl) rfl rfl ?_
      refine aA (aE (.int _ _) rfl) rfl rfl ?_
      refine aC (aF (aR ?_))
      refine fZ (.int _ _) (.int _ _) rfl rfl ?_
      exact ⟨zJ (iE (by first | (rw [if_pos (decide_eq_true (by omega)), aJc (by omega) (by omega), hq, hr]; split <;> omega) | (rw [if_neg (by simp; omega), ← aIp (by omega), hq]))) rfl, M7.below⟩
    · refine aN (aF (aG (aB ?_)))
      refine aA (aD (.bool (decide _)) rfl) rfl rfl ?_
      refine aK aCb rfl rfl rfl ?_
      refine (aCw _ _).mono ?_
      rintro _ w8 ⟨v8, rfl, ⟨bs, rfl, hM8⟩⟩
      refine ⟨_, rfl, ?_⟩
      have M8 : Mem _ _ [_] _ := M5.call0 hM8
      refine aA (aD (.int _ _) rfl) rfl rfl ?_
      refine aK aBx rfl rfl rfl ?_
      refine (uU _ _ _ bs (by omega) (lL 0 M8 rfl rfl)).mono ?_
      rintro _ w9 ⟨v9, rfl, ⟨rfl, hb9⟩⟩
      refine ⟨_, rfl, ?_⟩
      have M9 := M8.callB hb9
      refine aA (aD (.tuple (List.toArray _)) rfl) rfl rfl ?_
      refine aA (bG (.int _ _) rfl rfl) rfl rfl ?_
      refine aA (bG (.bool true) rfl rfl) rfl rfl ?_
      refine aA (aE (.int _ _) rfl) rfl rfl ?_
      refine aA (aE (.bool true) rfl) rfl rfl ?_
      refine aC (aF (aG (aG (aB ?_))))
      refine aA (aD (.bool true) rfl) rfl rfl ?_
      refine aA (iZ false rfl rfl) rfl rfl ?_
      refine aC (aF ?_)
      refine cH rfl ?_
      refine aN (aF (aG (aB ?_)))
      refine aA (aD (.int _ _) rfl) rfl rfl ?_
      refine aA (aE (.int _ _) rfl) rfl rfl ?_
      refine aA (aE (.int _ _) rfl) rfl rfl ?_
      refine aC (aF (aR ?_))
      refine fZ (.int _ _) (.int _ _) rfl rfl ?_
      exact ⟨zJ (iE (by first | (rw [if_pos (decide_eq_true (by omega)), aJc (by omega) (by omega), hq, hr]; split <;> omega) | (rw [if_neg (by simp; omega), ← aIp (by omega), hq]))) rfl, M9.below⟩
  · refine aS rfl rfl ?_
    refine aS rfl rfl ?_
    refine aA (bN false (.bool false) rfl rfl) rfl rfl ?_
    refine aC (aF ?_)
    refine cH rfl ?_
    refine aN (aF (aG (aB ?_)))
    refine aA (aD (.bool (decide _)) rfl) rfl rfl ?_
    refine aK aCb rfl rfl rfl ?_
    refine (aCw _ _).mono ?_
    rintro _ w10 ⟨v10, rfl, ⟨bs, rfl, hM10⟩⟩
    refine ⟨_, rfl, ?_⟩
    have M10 : Mem _ _ [_] _ := M5.call0 hM10
    refine aA (aD (.int _ _) rfl) rfl rfl ?_
    refine aK aBx rfl rfl rfl ?_
    refine (uU _ _ _ bs (by omega) (lL 0 M10 rfl rfl)).mono ?_
    rintro _ w11 ⟨v11, rfl, ⟨rfl, hb11⟩⟩
    refine ⟨_, rfl, ?_⟩
    have M11 := M10.callB hb11
    refine aA (aD (.tuple (List.toArray _)) rfl) rfl rfl ?_
    refine aA (bG (.int _ _) rfl rfl) rfl rfl ?_
    refine aA (bG (.bool true) rfl rfl) rfl rfl ?_
    refine aA (aE (.int _ _) rfl) rfl rfl ?_
    refine aA (aE (.bool true) rfl) rfl rfl ?_
    refine aC (aF (aG (aG (aB ?_))))
    refine aA (aD (.bool true) rfl) rfl rfl ?_
    refine aA (iZ false rfl rfl) rfl rfl ?_
    refine aC (aF ?_)
    refine cH rfl ?_
    refine aN (aF (aG (aB ?_)))
    refine aA (aD (.int _ _) rfl) rfl rfl ?_
    refine aA (aE (.int _ _) rfl) rfl rfl ?_
    refine aA (aE (.int _ _) rfl) rfl rfl ?_
    refine aC (aF (aR ?_))
    refine fZ (.int _ _) (.int _ _) rfl rfl ?_
    exact ⟨zJ (iE (by first | (rw [if_pos (decide_eq_true (by omega)), aJc (by omega) (by omega), hq, hr]; split <;> omega) | (rw [if_neg (by simp; omega), ← aIp (by omega), hq]))) rfl, M11.below⟩
end Go.Proofs.YtlmcphcgiclanaaGreatDoor
