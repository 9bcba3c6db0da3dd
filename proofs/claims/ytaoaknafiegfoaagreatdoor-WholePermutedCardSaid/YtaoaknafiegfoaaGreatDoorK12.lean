/- Part of the proof of the laws of this seat: W1, W2. No conditions. -/
import Derived.Test.YtaoaknafiegfoaaGreatDoorK2
import Derived.Test.YtaoaknafiegfoaaGreatDoorK5
import Derived.Test.YtaoaknafiegfoaaGreatDoorK7
import Derived.Test.YtaoaknafiegfoaaGreatDoorK6
import Derived.Test.YtaoaknafiegfoaaGreatDoorK8
import Derived.Test.YtaoaknafiegfoaaGreatDoorK11
import Derived.Shelf.Bits.Mul64
import Derived.Shelf.Small.Bits
set_option linter.unusedVariables false
set_option linter.unusedSimpArgs false
set_option linter.unnecessarySimpa false
namespace Go.Proofs.YtaoaknafiegfoaaGreatDoor
open Go.Bil
open Go.RowKit (Below)
open Go.Proofs
theorem aWj (w : World) (x y : Nat) (hx : x < 18446744073709551616) (hy : y < 18446744073709551616) : Calls Tryz.prog 221 #[.int .u64 (x : Int), .int .u64 (y : Int)] w (fun ex w' => ∃ v, ex = .returned v ∧ v = .tuple #[.int .u64 ((x * y / 18446744073709551616 : Nat) : Int), .int .u64 ((x * y % 18446744073709551616 : Nat) : Int)] ∧ Below w.heap.size w w') :=
 (Any.bits_Mul64 aOu x y hx hy w).mono (by rintro ex w' ⟨rfl, rfl⟩; exact ⟨_, rfl, rfl, Below.refl _ _⟩)
theorem bKg (w : World) (y s : Nat) (hy : y < 18446744073709551616) (hs : lzN y = s) : Calls Tryz.prog 245 #[.int .u64 (y : Int)] w (fun ex w' => ∃ v, ex = .returned v ∧ v = .int .i64 (s : Int) ∧ Below w.heap.size w w') :=
 (Any.bits_LeadingZeros64 aTc (y : Int) w (by omega) (by omega)).mono (by
  rintro ex w' ⟨rfl, rfl⟩
  refine ⟨_, rfl, ?_, Below.refl _ _⟩
  have hl := Go.Lib.bitLen_le y 64 (Nat.le_refl _) hy
  unfold lzN at hs
  exact iE (by rw [Int.toNat_natCast]; omega))
set_option maxHeartbeats 16000000 in
theorem bCj (w : World) (hi lo y : Nat) (hy : hi < y) (hY : y < 18446744073709551616) (hl : lo < 18446744073709551616) :
  Calls Tryz.prog 223 #[.int .u64 (hi : Int), .int .u64 (lo : Int), .int .u64 (y : Int)] w (fun ex w' => ∃ v, ex = .returned v ∧ (fun v w' => v = .tuple #[.int .u64 (((hi * 18446744073709551616 + lo) / y : Nat) : Int), .int .u64 (((hi * 18446744073709551616 + lo) % y : Nat) : Int)] ∧ Below w.heap.size w w') v w') := by
 obtain ⟨s, A, E, Y, U, W, y1, y0, d1, d0, Q1, U2, Q0, R, V, h63, hYl, hUY, hWl, ⟨hy1, hy1', hy0, hd1, hd0⟩, hQ1, hU2, hQ0, hRl⟩ := aQj hy hY hl
 have hAE := V.eU
 have hSp : Y = y1 * 4294967296 + y0 := by have h1 := V.ey1; have h2 := V.ey0; omega
 obtain ⟨p1, P1, z1, hp1, hP1, hz1, hPU, hzl, DU⟩ := aIb (u := U) (y1 := y1) (y0 := y0) (d := d1) (by omega) hy1' hd1 (by omega)
 obtain ⟨p2, P2, z2, hp2, hP2, hz2, hPU2, hzl2, DU2⟩ := aIb (u := U2) (y1 := y1) (y0 := y0) (d := d0) (by omega) hy1' hd0 (by omega)
 refine aH #[.tmp 6, .tmp 7] 135 Tryz.func223 rfl Tryz.results223 Tryz.ntmps223 rfl ?_
 have M0 := Mem.refl w
 refine aD (aA (bP rfl rfl (bP rfl rfl (aB (aC (aD (aD (aA (aY rfl rfl (dA rfl rfl rfl rfl ?_))))))))))
 refine uZ 20 rfl (by omega) (aB (aC (cB rfl (aK (aC (aD (aD (aA (aY rfl rfl (aY rfl rfl ?_))))))))))
 refine dA rfl rfl rfl rfl (uZ 24 rfl (by omega) (aB (aC (cB rfl (aK (aC (aD (aD (aA (aY rfl rfl ?_))))))))))
 refine dA rfl rfl rfl rfl (aB (aC ?_))
 refine aZ rfl (fun h27 => ?_) (fun h27 => ?_)
 ·refine aD (bO [(0, 0), (1, 0), (2, 0), (3, 0), (4, 0), (5, 0), (6, 0), (7, 0)] mixed rfl (by kernel_rfl) (fun w1 hb1 hh1 => ?_))
  have M1 := M0.drew hb1 hh1
  refine fV rfl rfl rfl (fV rfl rfl rfl (aV rfl rfl rfl (fun _ => aNb rfl rfl (by omega)) (fH 30 (.int .u64 ((lo / y : Nat) : Int)) (iE (aWu lo y hl)) (fV rfl rfl rfl (fV rfl rfl rfl ?_)))))
  refine aV rfl rfl rfl (fun _ => aUx rfl rfl (by omega)) (fH 33 (.int .u64 ((lo % y : Nat) : Int)) (iE (bHy lo y)) (qN rfl rfl rfl (qN rfl rfl rfl (cD (aC (aM (cE ?_)))))))
  refine iH (.int _ _) (.int _ _) rfl rfl ?_
  exact ⟨by simp [show hi = 0 by omega], M1.below⟩
 ·refine aK (aC (aD (aA (aY rfl rfl (bX bGz rfl rfl (bKg _ y s hY V.hs) ?_)))))
  rintro v2 w2 ⟨rfl, hb2⟩
  have M2 := M0.callB hb2
  refine wq (bZ us3 Tryz.underlying178 rfl (iP _ (by omega) (by omega))) rfl (bP rfl rfl (aB (aC (aD (aA (aY rfl rfl (aY rfl rfl (wq (tK rfl rfl (by omega)) rfl ?_))))))))
  refine aT 39 (.int .u64 (Y : Int)) (iE ((aSo y s _ rfl (by omega) (by rw [V.eY]; exact hYl)).trans (congrArg _ V.eY))) (bP rfl rfl (aB (aC (aD (aA (aY rfl rfl (wq (gM rfl rfl (by decide)) rfl (aT 41 (.int .u64 (y1 : Int)) (iE ((aNy Y).trans (congrArg _ V.ey1))) ?_))))))))
  refine bP rfl rfl (aB (aC (aD (aA (aY rfl rfl (wq (dO (.int _ _) rfl rfl rfl) rfl (aT 43 (.int .u64 (y0 : Int)) (iE ((aOr Y hYl).trans (congrArg _ V.ey0))) (bP rfl rfl ?_))))))))
  refine aB (aC (aD (aA (aY rfl rfl (aY rfl rfl (wq (tK rfl rfl (by omega)) rfl (aT 46 (.int .u64 (A : Int)) (iE ((aSo hi s _ rfl (by omega) (by rw [V.eA]; omega)).trans (congrArg _ V.eA))) (aY rfl rfl ?_))))))))
  refine aY rfl rfl (wq (mC rfl rfl (iP _ (by omega) (by omega))) rfl (wq (gM rfl rfl (by omega)) rfl (aT 50 (.int .u64 (E : Int)) (iE ((aCa lo (64 - s) _ (by omega) (by omega)).trans (congrArg _ V.eE))) (wq (dO (.int _ _) rfl rfl rfl) rfl (aT 51 (.int .u64 (U : Int)) (iE ((bJg hi A E s V.eA V.hE (by omega)).trans (congrArg _ V.eU))) ?_)))))
  refine bP rfl rfl (aB (aC (aD (aA (aY rfl rfl (aY rfl rfl (wq (tK rfl rfl (by omega)) rfl (aT 54 (.int .u64 (W : Int)) (iE ((aVe lo s _ rfl (by omega)).trans (congrArg _ V.eW))) ?_))))))))
  refine bP rfl rfl (aB (aC (aD (aA (aY rfl rfl (wq (gM rfl rfl (by decide)) rfl (aT 56 (.int .u64 (d1 : Int)) (iE ((aNy W).trans (congrArg _ V.ed1))) (bP rfl rfl ?_))))))))
  refine aB (aC (aD (aA (aY rfl rfl (wq (dO (.int _ _) rfl rfl rfl) rfl (aT 58 (.int .u64 (d0 : Int)) (iE ((aOr W hWl).trans (congrArg _ V.ed0))) (bP rfl rfl (aB (aC (aD (aA ?_)))))))))))
  refine aY rfl rfl (aY rfl rfl (wq (aNb rfl rfl (by omega)) rfl (aT 61 (.int .u64 (p1 : Int)) (iE ((aWu U y1 (by omega)).trans (congrArg _ hp1))) (bP rfl rfl (aB (aC (aD (aA ?_))))))))
  refine aY rfl rfl (aY rfl rfl (aY rfl rfl (wq (dO (.int _ _) rfl rfl rfl) rfl (aT 65 (.int .u64 (P1 : Int)) (iE ((aQc p1 y1 (by omega)).trans (congrArg _ hP1))) (wq (mC rfl rfl (iP _ (by omega) (by omega))) rfl ?_)))))
  refine aT 66 (.int .u64 (z1 : Int)) (iE (by omega)) (bP rfl rfl (aB (aC ?_)))
  refine aVt (σ := Unit) [] (fun _ => [(15, .int .u64 (Q1 : Int)), (6, .int .u64 0), (7, .int .u64 0), (2, .int .u64 (Y : Int)), (8, .int .u64 (s : Int)), (9, .int .u64 (y1 : Int)), (10, .int .u64 (y0 : Int)), (11, .int .u64 (U : Int)), (13, .int .u64 (d1 : Int)), (14, .int .u64 (d0 : Int))]) (fun _ w' => Mem w [] [] w') ?_ ?_
  ·refine aS (dK (σ := Nat × Nat) [] (fun (q1, r1) => [(15, .int .u64 (q1 : Int)), (16, .int .u64 (r1 : Int)), (6, .int .u64 0), (7, .int .u64 0), (2, .int .u64 (Y : Int)), (8, .int .u64 (s : Int)), (9, .int .u64 (y1 : Int)), (10, .int .u64 (y0 : Int)), (11, .int .u64 (U : Int)), (13, .int .u64 (d1 : Int)), (14, .int .u64 (d0 : Int))]) (fun (q1, r1) w' => (r1 < 4294967296 ∧ Dg U y1 y0 d1 q1 r1) ∧ Mem w [] [] w') (fun (q1, r1) => q1) (p1, z1) (bR rfl (bR rfl (bR rfl (bR rfl (bR rfl (bR rfl (bR rfl (bR rfl (bR rfl (bR rfl (bR rfl eZ))))))))))) (⟨⟨by omega, DU⟩, M2⟩) ?_)
   rintro ⟨q1, r1⟩ ρ4 w4 ⟨⟨hr1, Dr1⟩, hM4⟩
   refine aD (aD (aA (aY rfl rfl (dA rfl rfl rfl rfl (wq (aG (.bool (decide _)) rfl) rfl ?_)))))
   refine cU 69 rfl (fun g69 => ?_) (fun g69 => ?_)
   ·refine aN rfl rfl (aN rfl rfl (aN rfl rfl (aN rfl rfl (aN rfl rfl (aN rfl rfl ?_)))))
    refine aN rfl rfl (aN rfl rfl (wq (bQ true (.bool true) rfl rfl) rfl (aB (aC (cM rfl (aK (aC (aS (aD (aA ?_))))))))))
    refine aY rfl rfl ?_
    have hsr1 := xO (u := U) (d := d1) (by omega) (by omega) Dr1 (by first | exact .inl (by omega) | exact .inr (by omega))
    have hlr1 := aFb hy1 (by omega) Dr1
    have hqr1 := hsr1.1
    have D'r1 := hsr1.2
    refine wq (mC rfl rfl (iP _ (by omega) (by omega))) rfl (aT 80 (.int .u64 ((q1 - 1 : Nat) : Int)) (iE (by omega)) (bP rfl rfl (aB (aC (aD (aA (aY rfl rfl (aY rfl rfl ?_))))))))
    refine wq (iS rfl rfl (iP _ (by omega) (by omega))) rfl (aT 83 (.int .u64 ((r1 + y1 : Nat) : Int)) (iE (by omega)) (bP rfl rfl (aB (aC (aD (aA (aY rfl rfl (dA rfl rfl rfl rfl ?_))))))))
    refine aB (aC ?_)
    refine aZ rfl (fun h85 => ?_) (fun h85 => ?_)
    ·have hxr1 : q1 - 1 = Q1 := (tY (by omega) (by omega) (by omega) D'r1 (by omega)).trans V.eQ1
     refine cR (bAc rfl (cX (eQ (aDk () (bR (iv rfl (by omega)) (bR rfl (bR rfl (bR rfl (bR rfl (bR rfl (bR rfl (bR rfl (bR rfl (bR rfl eZ)))))))))) jQ ?_))))
     exact hM4
    ·refine aK (dE ?_)
     refine cS (q1 - 1, r1 + y1) (bR rfl (bR rfl (bR rfl (bR rfl (bR rfl (bR rfl (bR rfl (bR rfl (bR rfl (bR rfl (bR rfl eZ))))))))))) jQ ?_ ?_
     ·exact ⟨⟨by omega, D'r1⟩, hM4⟩
     ·(show q1 - 1 < q1; omega)
   ·refine aY rfl rfl (aY rfl rfl (wq (dO (.int _ _) rfl rfl rfl) rfl (aT 72 (.int .u64 ((q1 * y0 : Nat) : Int)) (iE (aQc q1 y0 (by have := bCs (q := q1) (y0 := y0) (by omega) (by omega); omega))) (aY rfl rfl (wq (aLy rfl rfl (iP _ (by omega) (by omega))) rfl ?_)))))
    refine aY rfl rfl (wq (iS rfl rfl (iP _ (by omega) (by omega))) rfl (dA rfl rfl rfl rfl (wq (bQ false (.bool (decide _)) rfl rfl) rfl (aB (aC ?_)))))
    refine aZ rfl (fun h78 => ?_) (fun h78 => ?_)
    ·refine aK (aC (aS (aD (aA (aY rfl rfl ?_)))))
     have hsr1 := xO (u := U) (d := d1) (by omega) (by omega) Dr1 (by first | exact .inl (by omega) | exact .inr (by omega))
     have hlr1 := aFb hy1 (by omega) Dr1
     have hqr1 := hsr1.1
     have D'r1 := hsr1.2
     refine wq (mC rfl rfl (iP _ (by omega) (by omega))) rfl (aT 80 (.int .u64 ((q1 - 1 : Nat) : Int)) (iE (by omega)) (bP rfl rfl (aB (aC (aD (aA (aY rfl rfl (aY rfl rfl ?_))))))))
     refine wq (iS rfl rfl (iP _ (by omega) (by omega))) rfl (aT 83 (.int .u64 ((r1 + y1 : Nat) : Int)) (iE (by omega)) (bP rfl rfl (aB (aC (aD (aA (aY rfl rfl (dA rfl rfl rfl rfl ?_))))))))
     refine aB (aC ?_)
     refine aZ rfl (fun h85 => ?_) (fun h85 => ?_)
     ·have hxr1 : q1 - 1 = Q1 := (tY (by omega) (by omega) (by omega) D'r1 (by omega)).trans V.eQ1
      refine cR (bAc rfl (cX (eQ (aDk () (bR (iv rfl (by omega)) (bR rfl (bR rfl (bR rfl (bR rfl (bR rfl (bR rfl (bR rfl (bR rfl (bR rfl eZ)))))))))) jQ ?_))))
      exact hM4
     ·refine aK (dE ?_)
      refine cS (q1 - 1, r1 + y1) (bR rfl (bR rfl (bR rfl (bR rfl (bR rfl (bR rfl (bR rfl (bR rfl (bR rfl (bR rfl (bR rfl eZ))))))))))) jQ ?_ ?_
      ·exact ⟨⟨by omega, D'r1⟩, hM4⟩
      ·(show q1 - 1 < q1; omega)
    ·have hxr1 : q1 = Q1 := (aEe (by omega) Dr1 (by omega)).trans V.eQ1
     refine cR (cZ (cX (eQ (aDk () (bR (iv rfl (by omega)) (bR rfl (bR rfl (bR rfl (bR rfl (bR rfl (bR rfl (bR rfl (bR rfl (bR rfl eZ)))))))))) jQ ?_))))
     exact hM4
  ·rintro _ ρ3 w3 hM3
   refine aD (aA (aY rfl rfl (wq (dO (.int _ _) rfl rfl rfl) rfl (aY rfl rfl (wq (dO (.int _ _) rfl rfl rfl) rfl (aY rfl rfl ?_))))))
   refine aT 90 (.int .u64 (Q1 : Int)) (iE (by omega)) (aY rfl rfl (wq (dO (.int _ _) rfl rfl rfl) rfl (aT 92 (.int .u64 ((Q1 * Y % 18446744073709551616 : Nat) : Int)) (iE (bCe Q1 Y)) (wq (dO (.int _ _) rfl rfl rfl) rfl (aT 93 (.int .u64 (U2 : Int)) (iE (by have := V.eU2; rw [rT, rT, rT]; omega)) ?_)))))
   refine bP rfl rfl (aB (aC (aD (aA (aY rfl rfl (aY rfl rfl (wq (aNb rfl rfl (by omega)) rfl (aT 96 (.int .u64 (p2 : Int)) (iE ((aWu U2 y1 (by omega)).trans (congrArg _ hp2))) ?_))))))))
   refine bP rfl rfl (aB (aC (aD (aA (aY rfl rfl (aY rfl rfl (aY rfl rfl (wq (dO (.int _ _) rfl rfl rfl) rfl ?_))))))))
   refine aT 100 (.int .u64 (P2 : Int)) (iE ((aQc p2 y1 (by omega)).trans (congrArg _ hP2))) (wq (mC rfl rfl (iP _ (by omega) (by omega))) rfl (aT 101 (.int .u64 (z2 : Int)) (iE (by omega)) (bP rfl rfl (aB (aC ?_)))))
   refine aVt (σ := Unit) [] (fun _ => [(18, .int .u64 (Q0 : Int)), (6, .int .u64 0), (7, .int .u64 0), (2, .int .u64 (Y : Int)), (8, .int .u64 (s : Int)), (14, .int .u64 (d0 : Int)), (15, .int .u64 (Q1 : Int)), (17, .int .u64 (U2 : Int))]) (fun _ w' => Mem w [] [] w') ?_ ?_
   ·refine aS (dK (σ := Nat × Nat) [] (fun (q0, r0) => [(18, .int .u64 (q0 : Int)), (16, .int .u64 (r0 : Int)), (6, .int .u64 0), (7, .int .u64 0), (2, .int .u64 (Y : Int)), (8, .int .u64 (s : Int)), (14, .int .u64 (d0 : Int)), (15, .int .u64 (Q1 : Int)), (17, .int .u64 (U2 : Int)), (9, .int .u64 (y1 : Int)), (10, .int .u64 (y0 : Int))]) (fun (q0, r0) w' => (r0 < 4294967296 ∧ Dg U2 y1 y0 d0 q0 r0) ∧ Mem w [] [] w') (fun (q0, r0) => q0) (p2, z2) (bR rfl (bR rfl (bR rfl (bR rfl (bR rfl (bR rfl (bR rfl (bR rfl (bR rfl (bR rfl (bR rfl eZ))))))))))) (⟨⟨by omega, DU2⟩, hM3⟩) ?_)
    rintro ⟨q0, r0⟩ ρ6 w6 ⟨⟨hr0, Dr0⟩, hM6⟩
    refine aD (aD (aA (aY rfl rfl (dA rfl rfl rfl rfl (wq (aG (.bool (decide _)) rfl) rfl ?_)))))
    refine cU 104 rfl (fun g104 => ?_) (fun g104 => ?_)
    ·refine aN rfl rfl (aN rfl rfl (aN rfl rfl (aN rfl rfl (aN rfl rfl (aN rfl rfl ?_)))))
     refine aN rfl rfl (aN rfl rfl (wq (bQ true (.bool true) rfl rfl) rfl (aB (aC (cM rfl (aK (aC (aS (aD (aA ?_))))))))))
     refine aY rfl rfl ?_
     have hsr0 := xO (u := U2) (d := d0) (by omega) (by omega) Dr0 (by first | exact .inl (by omega) | exact .inr (by omega))
     have hlr0 := aFb hy1 (by omega) Dr0
     have hqr0 := hsr0.1
     have D'r0 := hsr0.2
     refine wq (mC rfl rfl (iP _ (by omega) (by omega))) rfl (aT 115 (.int .u64 ((q0 - 1 : Nat) : Int)) (iE (by omega)) (bP rfl rfl (aB (aC (aD (aA (aY rfl rfl (aY rfl rfl ?_))))))))
     refine wq (iS rfl rfl (iP _ (by omega) (by omega))) rfl (aT 118 (.int .u64 ((r0 + y1 : Nat) : Int)) (iE (by omega)) (bP rfl rfl (aB (aC (aD (aA (aY rfl rfl (dA rfl rfl rfl rfl ?_))))))))
     refine aB (aC ?_)
     refine aZ rfl (fun h120 => ?_) (fun h120 => ?_)
     ·have hxr0 : q0 - 1 = Q0 := (tY (by omega) (by omega) (by omega) D'r0 (by omega)).trans V.eQ0
      refine cR (bAc rfl (cX (eQ (aDk () (bR (iv rfl (by omega)) (bR rfl (bR rfl (bR rfl (bR rfl (bR rfl (bR rfl (bR rfl eZ)))))))) jQ ?_))))
      exact hM6
     ·refine aK (dE ?_)
      refine cS (q0 - 1, r0 + y1) (bR rfl (bR rfl (bR rfl (bR rfl (bR rfl (bR rfl (bR rfl (bR rfl (bR rfl (bR rfl (bR rfl eZ))))))))))) jQ ?_ ?_
      ·exact ⟨⟨by omega, D'r0⟩, hM6⟩
      ·(show q0 - 1 < q0; omega)
    ·refine aY rfl rfl (aY rfl rfl (wq (dO (.int _ _) rfl rfl rfl) rfl (aT 107 (.int .u64 ((q0 * y0 : Nat) : Int)) (iE (aQc q0 y0 (by have := bCs (q := q0) (y0 := y0) (by omega) (by omega); omega))) (aY rfl rfl (wq (aLy rfl rfl (iP _ (by omega) (by omega))) rfl ?_)))))
     refine aY rfl rfl (wq (iS rfl rfl (iP _ (by omega) (by omega))) rfl (dA rfl rfl rfl rfl (wq (bQ false (.bool (decide _)) rfl rfl) rfl (aB (aC ?_)))))
     refine aZ rfl (fun h113 => ?_) (fun h113 => ?_)
     ·refine aK (aC (aS (aD (aA (aY rfl rfl ?_)))))
      have hsr0 := xO (u := U2) (d := d0) (by omega) (by omega) Dr0 (by first | exact .inl (by omega) | exact .inr (by omega))
      have hlr0 := aFb hy1 (by omega) Dr0
      have hqr0 := hsr0.1
      have D'r0 := hsr0.2
      refine wq (mC rfl rfl (iP _ (by omega) (by omega))) rfl (aT 115 (.int .u64 ((q0 - 1 : Nat) : Int)) (iE (by omega)) (bP rfl rfl (aB (aC (aD (aA (aY rfl rfl (aY rfl rfl ?_))))))))
      refine wq (iS rfl rfl (iP _ (by omega) (by omega))) rfl (aT 118 (.int .u64 ((r0 + y1 : Nat) : Int)) (iE (by omega)) (bP rfl rfl (aB (aC (aD (aA (aY rfl rfl (dA rfl rfl rfl rfl ?_))))))))
      refine aB (aC ?_)
      refine aZ rfl (fun h120 => ?_) (fun h120 => ?_)
      ·have hxr0 : q0 - 1 = Q0 := (tY (by omega) (by omega) (by omega) D'r0 (by omega)).trans V.eQ0
       refine cR (bAc rfl (cX (eQ (aDk () (bR (iv rfl (by omega)) (bR rfl (bR rfl (bR rfl (bR rfl (bR rfl (bR rfl (bR rfl eZ)))))))) jQ ?_))))
       exact hM6
      ·refine aK (dE ?_)
       refine cS (q0 - 1, r0 + y1) (bR rfl (bR rfl (bR rfl (bR rfl (bR rfl (bR rfl (bR rfl (bR rfl (bR rfl (bR rfl (bR rfl eZ))))))))))) jQ ?_ ?_
       ·exact ⟨⟨by omega, D'r0⟩, hM6⟩
       ·(show q0 - 1 < q0; omega)
     ·have hxr0 : q0 = Q0 := (aEe (by omega) Dr0 (by omega)).trans V.eQ0
      refine cR (cZ (cX (eQ (aDk () (bR (iv rfl (by omega)) (bR rfl (bR rfl (bR rfl (bR rfl (bR rfl (bR rfl (bR rfl eZ)))))))) jQ ?_))))
      exact hM6
   ·rintro _ ρ5 w5 hM5
    refine aD (aA (aY rfl rfl (aT 121 (.int .u64 (Q1 : Int)) (iE (by omega)) (wq (aLy rfl rfl (iP _ (by omega) (by omega))) rfl (aY rfl rfl (aT 123 (.int .u64 (Q0 : Int)) (iE (by omega)) ?_))))))
    refine wq (iS rfl rfl (iP _ (by omega) (by omega))) rfl (aY rfl rfl (wq (dO (.int _ _) rfl rfl rfl) rfl (aY rfl rfl (wq (dO (.int _ _) rfl rfl rfl) rfl (aY rfl rfl ?_)))))
    refine aT 129 (.int .u64 (Q0 : Int)) (iE (by omega)) (aY rfl rfl (wq (dO (.int _ _) rfl rfl rfl) rfl (aT 131 (.int .u64 ((Q0 * Y % 18446744073709551616 : Nat) : Int)) (iE (bCe Q0 Y)) (wq (dO (.int _ _) rfl rfl rfl) rfl (aT 132 (.int .u64 (R : Int)) (iE (by have := V.eR; rw [rT, rT, rT]; omega)) ?_)))))
    refine aY rfl rfl (wq (gM rfl rfl (by omega)) rfl (aT 134 (.int .u64 ((R / 2 ^ s : Nat) : Int)) (iE (aCa R s _ rfl (by omega))) (bP rfl rfl (bP rfl rfl (aB (aC (aM ?_)))))))
    refine iH (.int _ _) (.int _ _) rfl rfl ?_
    exact ⟨by rw [V.fq, V.fr]; exact aAu (iE (by omega)) rfl, hM5.below⟩
set_option maxHeartbeats 4000000 in
theorem jJ (w : World) (a : Int) (h0 : -9223372036854775808 ≤ a) (h1 : a ≤ 9223372036854775807) :
  Calls Tryz.prog 222 #[.int .i64 a] w (fun ex w' => ∃ v, ex = .returned v ∧ (fun v w' => v = .int .u64 ((a.natAbs : Nat) : Int) ∧ Below w.heap.size w w') v w') := by
 refine aH #[.tmp 2] 10 Tryz.func222 rfl Tryz.results222 Tryz.ntmps222 rfl ?_
 have M0 := Mem.refl w
 refine aD (aA (bP rfl rfl (aB (aC (aD (aD (aA (aY rfl rfl (dA rfl rfl rfl rfl (aB (aC ?_)))))))))))
 refine aZ rfl (fun h4 => ?_) (fun h4 => ?_)
 ·refine aD (aA (aY rfl rfl (wq (dU us2 Tryz.underlying237 rfl) rfl (wq (yM rfl) rfl (aT 7 (.int .u64 ((a.natAbs : Nat) : Int)) (iE (by rw [rT, rT]; omega)) (bP rfl rfl ?_))))))
  refine aB (aC (aM (cE (bW (.int _ _) rfl ?_))))
  exact ⟨rfl, M0.below⟩
 ·refine aK (aC (aD (aA (aY rfl rfl (wq (dU us2 Tryz.underlying237 rfl) rfl (aT 9 (.int .u64 ((a.natAbs : Nat) : Int)) (iE (by rw [rT]; omega)) (bP rfl rfl (aB (aC (aM ?_))))))))))
  refine bW (.int _ _) rfl ?_
  exact ⟨rfl, M0.below⟩
set_option maxHeartbeats 4000000 in
theorem aEg (w : World) (s : Bool) :
  Calls Tryz.prog 224 #[.bool s] w (fun ex w' => ∃ v, ex = .returned v ∧ (fun v w' => ∃ b, v = .func (.func 246) #[] #[.pointer (some ⟨b, 0, none⟩)] ∧ Mem w [] [(some b, bc [.bool s] 4)] w') v w') := by
 refine aH #[.tmp 2] 4 Tryz.func224 rfl Tryz.results224 Tryz.ntmps224 rfl ?_
 have M0 := Mem.refl w
 refine aD (aA (bG (.bool _) M0 rfl rfl rfl (fun b1 w1 M1 => (wq (aI (_) rfl) rfl (aB (aC (aD (aA (wq (cO [] [.pointer _] rfl rfl) rfl (wq (aI (.func _ _ _) rfl) rfl ?_))))))))))
 refine aB (aC (aM (bW (.func _ _ _) rfl ?_)))
 exact ⟨b1, rfl, M1⟩
set_option maxHeartbeats 4000000 in
theorem xE (w : World) (q : Nat) (s : Bool) (b : Nat) (hq : q ≤ 4611686018427387904) (K : Rd w 1 (some ⟨b, 0, none⟩) 1 [[.bool s]]) :
  Calls Tryz.prog 246 #[.int .u64 (q : Int), .pointer (some ⟨b, 0, none⟩)] w (fun ex w' => ∃ v, ex = .returned v ∧ (fun v w' => v = .tuple #[.int .i64 (if s = true then -(q : Int) else (q : Int)), .bool true] ∧ Below w.heap.size w w') v w') := by
 rw [← eT b]
 refine aH #[.tmp 3, .tmp 4] 15 Tryz.func246 rfl Tryz.results246 Tryz.ntmps246 rfl ?_
 have M0 := Mem.refl w
 refine aD (aA (bP rfl rfl (wq (aI (.bool false) rfl) rfl (aB (aC (aD (aD (aA (wq (eJ (o := 0) (.bool _) nV (K.mem M0) (show ([[.bool s]] : List (List Value))[0]? = some [.bool s] from rfl) rfl rfl) rfl (aB (aC ?_)))))))))))
 refine gR _ rfl (fun h5 => ?_) (fun h5 => ?_)
 ·refine aD (aA (aY rfl rfl (wq (yM rfl) rfl (wq (dU aCi Tryz.underlying2 rfl) rfl (aT 8 (.int .i64 (-(q : Int))) (iE (aZz q hq)) (aY rfl rfl ?_))))))
  refine dA rfl rfl rfl rfl (rI 10 rfl (by omega) (bP rfl rfl (wq (aI (.bool true) rfl) rfl (aB (aC (aM (cE (iH (.int _ _) (.bool true) rfl rfl ?_))))))))
  exact ⟨by simp [h5], M0.below⟩
 ·refine aK (aC (aD (aA (aY rfl rfl (wq (bZ aCi Tryz.underlying2 rfl (kQ _ (by omega) (by omega))) rfl (aY rfl rfl (dA rfl rfl rfl rfl (rI 14 rfl (by omega) ?_))))))))
  refine bP rfl rfl (wq (aI (.bool true) rfl) rfl (aB (aC (aM (iH (.int _ _) (.bool true) rfl rfl ?_)))))
  exact ⟨by simp [h5], M0.below⟩
set_option maxHeartbeats 8000000 in
theorem bFh (w : World) (a n d : Int) (ha : -4294967296 ≤ a ∧ a ≤ 4294967296) (hn : 0 ≤ n) (hnd : n ≤ d) (hd0 : 0 < d) (hd : d ≤ 9223372036854775807) :
  Calls Tryz.prog 189 #[.int .i64 a, .int .i64 n, .int .i64 d] w (fun ex w' => ∃ v, ex = .returned v ∧ (fun v w' => v = .tuple #[.int .i64 (a * n / d), .int .i64 0] ∧ Below w.heap.size w w') v w') := by
 obtain ⟨m, rfl⟩ := Int.eq_ofNat_of_zero_le hn
 obtain ⟨z, rfl⟩ := Int.eq_ofNat_of_zero_le (Int.le_of_lt hd0)
 have hmd := aWe (a := a) (m := m) (z := z) ha (by omega) (by omega) (by omega)
 obtain ⟨q, hq⟩ : ∃ q, a.natAbs * m / z = q := ⟨_, rfl⟩
 obtain ⟨r, hr⟩ : ∃ r, a.natAbs * m % z = r := ⟨_, rfl⟩
 have hql : q ≤ 4294967296 := by rw [← hq]; exact hmd.2.2.2
 refine aH #[.tmp 6, .tmp 7] 65 Tryz.func189 rfl Tryz.results189 Tryz.ntmps189 rfl ?_
 have M0 := Mem.refl w
 refine aD (aA (bP rfl rfl (bP rfl rfl (aB (aC (aD (aD (aA (aY rfl rfl (dA rfl rfl rfl rfl ?_))))))))))
 refine uZ 17 rfl (by omega) (aB (aC (cB rfl (aK (aC (aD (aA (aY rfl rfl (bX pV rfl rfl (jJ _ a (by omega) (by omega)) ?_)))))))))
 rintro v1 w1 ⟨rfl, hb1⟩
 have M1 := M0.callB hb1
 refine aY rfl rfl (bX pV rfl rfl (jJ _ (m : Int) (by omega) (by omega)) ?_)
 rintro v2 w2 ⟨rfl, hb2⟩
 have M2 := M1.callB hb2
 refine aT 22 (.int .u64 (m : Int)) (iE (by omega)) (bX aJq rfl rfl (aWj _ a.natAbs m (by omega) (by omega)) ?_)
 rintro v3 w3 ⟨rfl, hb3⟩
 have M3 := M2.callB hb3
 refine wq (aG (.tuple (List.toArray _)) rfl) rfl (wq (bE (.int _ _) rfl rfl) rfl (wq (bE (.int _ _) rfl rfl) rfl (bP rfl rfl (bP rfl rfl (aB (aC (aD (aA ?_))))))))
 refine aY rfl rfl (bX pV rfl rfl (jJ _ (z : Int) (by omega) (by omega)) ?_)
 rintro v4 w4 ⟨rfl, hb4⟩
 have M4 := M3.callB hb4
 refine aT 27 (.int .u64 (z : Int)) (iE (by omega)) (bP rfl rfl (aB (aC (aD (aD (aA (aY rfl rfl (aY rfl rfl (dA rfl rfl rfl rfl ?_)))))))))
 refine uZ 30 rfl (by have := hmd.1; omega) (aB (aC (cB rfl (aK (aC (aD (aA (aY rfl rfl (aY rfl rfl ?_)))))))))
 refine aY rfl rfl (bX aUl rfl rfl (bCj _ (a.natAbs * m / 18446744073709551616) (a.natAbs * m % 18446744073709551616) z hmd.1 (by omega) hmd.2.1) ?_)
 rintro v5 w5 ⟨rfl, hb5⟩
 have M5 := M4.callB hb5
 refine wq (aG (.tuple (List.toArray _)) rfl) rfl (wq (bE (.int _ _) rfl rfl) rfl (aT 36 (.int .u64 (q : Int)) (iE (by rw [hmd.2.2.1, hq])) (wq (bE (.int _ _) rfl rfl) rfl (aT 37 (.int .u64 (r : Int)) (iE (by rw [hmd.2.2.1, hr])) (bP rfl rfl ?_)))))
 refine bP rfl rfl (aB (aC (aD (aA (aY rfl rfl (dA rfl rfl rfl rfl (aY rfl rfl (dA rfl rfl rfl rfl ?_))))))))
 refine uZ 41 rfl (by omega) (wq (uP _ Tryz.underlying4 rfl rfl rfl) rfl (aT 42 (.bool (decide (a < 0))) (bv rfl (by simp)) (aY rfl rfl (dA rfl rfl rfl rfl (uZ 44 rfl (by omega) ?_)))))
 refine wq (uP _ Tryz.underlying4 rfl rfl rfl) rfl (aT 45 (.bool (decide (a < 0))) (bv rfl (by simp)) (wq (aI (.bool (decide _)) rfl) rfl (aB (aC (aD (aD (aA (wq (aG (.bool (decide _)) rfl) rfl (wq (aG (.bool (decide _)) rfl) rfl ?_)))))))))
 refine cU 47 rfl (fun g47 => ?_) (fun g47 => ?_)
 ·refine aY rfl rfl (dA rfl rfl rfl rfl (wq (bQ true (.bool (decide _)) rfl rfl) rfl (aB (aC ?_))))
  refine aZ rfl (fun h50 => ?_) (fun h50 => ?_)
  ·refine aD (aA (aY rfl rfl (wq (dO (.int _ _) rfl rfl rfl) rfl (aT 52 (.int .u64 ((q + 1 : Nat) : Int)) (iE (by rw [rT]; omega)) (bP rfl rfl (aB (aC (aD (aA ?_)))))))))
   refine aY rfl rfl (dA rfl rfl rfl rfl (uZ 54 rfl (by omega) (aB (aC (cB rfl (aK (aC (aD (aA ?_)))))))))
   refine wq (aG (.bool (decide _)) rfl) rfl (bX aEv rfl rfl (aEg _ _) ?_)
   rintro v6 w6 ⟨bs, rfl, hM6⟩
   have M6 : Mem _ _ [_] _ := M5.call0 hM6
   refine aY rfl rfl (bX aDv rfl rfl (xE _ _ _ bs (by omega) (mI 0 M6 rfl rfl)) ?_)
   rintro v7 w7 ⟨rfl, hb7⟩
   have M7 := M6.callB hb7
   refine wq (aG (.tuple (List.toArray _)) rfl) rfl (wq (bE (.int _ _) rfl rfl) rfl (wq (bE (.bool true) rfl rfl) rfl (bP rfl rfl (wq (aI (.bool true) rfl) rfl (aB (aC (aD (aD (aA ?_)))))))))
   refine wq (aG (.bool true) rfl) rfl (wq (fO false rfl rfl) rfl (aB (aC (cB rfl (aK (aC (aD (aA (aY rfl rfl ?_)))))))))
   refine bP rfl rfl (bP rfl rfl (aB (aC (aM (iH (.int _ _) (.int _ _) rfl rfl ?_)))))
   exact ⟨aAu (iE (by first | (rw [if_pos (decide_eq_true (by omega)), aJp (by omega) (by omega), hq, hr]; split <;> omega) | (rw [if_neg (by simp; omega), ← aJo (by omega), hq]))) rfl, M7.below⟩
  ·refine aK (aC (aD (aA (wq (aG (.bool (decide _)) rfl) rfl (bX aEv rfl rfl (aEg _ _) ?_)))))
   rintro v8 w8 ⟨bs, rfl, hM8⟩
   have M8 : Mem _ _ [_] _ := M5.call0 hM8
   refine aY rfl rfl (bX aDv rfl rfl (xE _ _ _ bs (by omega) (mI 0 M8 rfl rfl)) ?_)
   rintro v9 w9 ⟨rfl, hb9⟩
   have M9 := M8.callB hb9
   refine wq (aG (.tuple (List.toArray _)) rfl) rfl (wq (bE (.int _ _) rfl rfl) rfl (wq (bE (.bool true) rfl rfl) rfl (bP rfl rfl (wq (aI (.bool true) rfl) rfl (aB (aC (aD (aD (aA ?_)))))))))
   refine wq (aG (.bool true) rfl) rfl (wq (fO false rfl rfl) rfl (aB (aC (cB rfl (aK (aC (aD (aA (aY rfl rfl ?_)))))))))
   refine bP rfl rfl (bP rfl rfl (aB (aC (aM (iH (.int _ _) (.int _ _) rfl rfl ?_)))))
   exact ⟨aAu (iE (by first | (rw [if_pos (decide_eq_true (by omega)), aJp (by omega) (by omega), hq, hr]; split <;> omega) | (rw [if_neg (by simp; omega), ← aJo (by omega), hq]))) rfl, M9.below⟩
 ·refine aN rfl rfl (aN rfl rfl (wq (bQ false (.bool false) rfl rfl) rfl (aB (aC (cB rfl (aK (aC (aD (aA ?_)))))))))
  refine wq (aG (.bool (decide _)) rfl) rfl (bX aEv rfl rfl (aEg _ _) ?_)
  rintro v10 w10 ⟨bs, rfl, hM10⟩
  have M10 : Mem _ _ [_] _ := M5.call0 hM10
  refine aY rfl rfl (bX aDv rfl rfl (xE _ _ _ bs (by omega) (mI 0 M10 rfl rfl)) ?_)
  rintro v11 w11 ⟨rfl, hb11⟩
  have M11 := M10.callB hb11
  refine wq (aG (.tuple (List.toArray _)) rfl) rfl (wq (bE (.int _ _) rfl rfl) rfl (wq (bE (.bool true) rfl rfl) rfl (bP rfl rfl (wq (aI (.bool true) rfl) rfl (aB (aC (aD (aD (aA ?_)))))))))
  refine wq (aG (.bool true) rfl) rfl (wq (fO false rfl rfl) rfl (aB (aC (cB rfl (aK (aC (aD (aA (aY rfl rfl ?_)))))))))
  refine bP rfl rfl (bP rfl rfl (aB (aC (aM (iH (.int _ _) (.int _ _) rfl rfl ?_)))))
  exact ⟨aAu (iE (by first | (rw [if_pos (decide_eq_true (by omega)), aJp (by omega) (by omega), hq, hr]; split <;> omega) | (rw [if_neg (by simp; omega), ← aJo (by omega), hq]))) rfl, M11.below⟩
end Go.Proofs.YtaoaknafiegfoaaGreatDoor
