/- Part of the proof of the laws of this seat: W1, W2. No conditions. -/
import Derived.Test.YtlmcphcgiclanaaGreatDoorK2
import Derived.Test.YtlmcphcgiclanaaGreatDoorK5
import Derived.Test.YtlmcphcgiclanaaGreatDoorK7
import Derived.Test.YtlmcphcgiclanaaGreatDoorK6
import Derived.Test.YtlmcphcgiclanaaGreatDoorK8
import Derived.Test.YtlmcphcgiclanaaGreatDoorK11
import Derived.Shelf.Bits.Mul64
import Derived.Shelf.Small.Bits
set_option linter.unusedVariables false
set_option linter.unusedSimpArgs false
set_option linter.unnecessarySimpa false
namespace Go.Proofs.YtlmcphcgiclanaaGreatDoor
open Go.Bil
open Go.RowKit (Below)
open Go.Proofs
theorem aTm (w : World) (x y : Nat) (hx : x < 18446744073709551616) (hy : y < 18446744073709551616) : Calls Tryz.prog 178 #[.int .u64 (x : Int), .int .u64 (y : Int)] w (fun ex w' => ∃ v, ex = .returned v ∧ v = .tuple #[.int .u64 ((x * y / 18446744073709551616 : Nat) : Int), .int .u64 ((x * y % 18446744073709551616 : Nat) : Int)] ∧ Below w.heap.size w w') :=
 (Any.bits_Mul64 aPr x y hx hy w).mono (by rintro ex w' ⟨rfl, rfl⟩; exact ⟨_, rfl, rfl, Below.refl _ _⟩)
theorem bGb (w : World) (y s : Nat) (hy : y < 18446744073709551616) (hs : lzN y = s) : Calls Tryz.prog 206 #[.int .u64 (y : Int)] w (fun ex w' => ∃ v, ex = .returned v ∧ v = .int .i64 (s : Int) ∧ Below w.heap.size w w') :=
 (Any.bits_LeadingZeros64 aQq (y : Int) w (by omega) (by omega)).mono (by
  rintro ex w' ⟨rfl, rfl⟩
  refine ⟨_, rfl, ?_, Below.refl _ _⟩
  have hl := Go.Lib.bitLen_le y 64 (Nat.le_refl _) hy
  unfold lzN at hs
  exact iE (by rw [Int.toNat_natCast]; omega))
set_option maxHeartbeats 16000000 in
theorem aZh (w : World) (hi lo y : Nat) (hy : hi < y) (hY : y < 18446744073709551616) (hl : lo < 18446744073709551616) :
  Calls Tryz.prog 180 #[.int .u64 (hi : Int), .int .u64 (lo : Int), .int .u64 (y : Int)] w (fun ex w' => ∃ v, ex = .returned v ∧ (fun v w' => v = .tuple #[.int .u64 (((hi * 18446744073709551616 + lo) / y : Nat) : Int), .int .u64 (((hi * 18446744073709551616 + lo) % y : Nat) : Int)] ∧ Below w.heap.size w w') v w') := by
 obtain ⟨s, A, E, Y, U, W, y1, y0, d1, d0, Q1, U2, Q0, R, V, h63, hYl, hUY, hWl, ⟨hy1, hy1', hy0, hd1, hd0⟩, hQ1, hU2, hQ0, hRl⟩ := aPw hy hY hl
 have hAE := V.eU
 have hSp : Y = y1 * 4294967296 + y0 := by have h1 := V.ey1; have h2 := V.ey0; omega
 obtain ⟨p1, P1, z1, hp1, hP1, hz1, hPU, hzl, DU⟩ := aEt (u := U) (y1 := y1) (y0 := y0) (d := d1) (by omega) hy1' hd1 (by omega)
 obtain ⟨p2, P2, z2, hp2, hP2, hz2, hPU2, hzl2, DU2⟩ := aEt (u := U2) (y1 := y1) (y0 := y0) (d := d0) (by omega) hy1' hd0 (by omega)
 refine aH #[.tmp 6, .tmp 7] 135 Tryz.func180 rfl Tryz.results180 Tryz.ntmps180 rfl ?_
 have M0 := Mem.refl w
 refine aD (aA (bJ rfl rfl (bJ rfl rfl (aB (aC (aD (aD (aA (aV rfl rfl (cT rfl rfl rfl rfl ?_))))))))))
 refine tF 20 rfl (by omega) (aB (aC (bX rfl (aK (aC (aD (aD (aA (aV rfl rfl (aV rfl rfl ?_))))))))))
 refine cT rfl rfl rfl rfl (tF 24 rfl (by omega) (aB (aC (bX rfl (aK (aC (aD (aD (aA (aV rfl rfl ?_))))))))))
 refine cT rfl rfl rfl rfl (aB (aC ?_))
 refine aW rfl (fun h27 => ?_) (fun h27 => ?_)
 ·refine aD (bQ [(0, 0), (1, 0), (2, 0), (3, 0), (4, 0), (5, 0), (6, 0), (7, 0)] mixed rfl (by kernel_rfl) (fun w1 hb1 hh1 => ?_))
  have M1 := M0.drew hb1 hh1
  refine gG rfl rfl rfl (gG rfl rfl rfl (aY rfl rfl rfl (fun _ => aMf rfl rfl (by omega)) (gB 30 (.int .u64 ((lo / y : Nat) : Int)) (iE (aVa lo y hl)) (gG rfl rfl rfl (gG rfl rfl rfl ?_)))))
  refine aY rfl rfl rfl (fun _ => aZm rfl rfl (by omega)) (gB 33 (.int .u64 ((lo % y : Nat) : Int)) (iE (bEe lo y)) (pX rfl rfl rfl (pX rfl rfl rfl (cF (aC (aN (cE ?_)))))))
  refine iD (.int _ _) (.int _ _) rfl rfl ?_
  exact ⟨by simp [show hi = 0 by omega], M1.below⟩
 ·refine aK (aC (aD (aA (aV rfl rfl (bV bCe rfl rfl (bGb _ y s hY V.hs) ?_)))))
  rintro v2 w2 ⟨rfl, hb2⟩
  have M2 := M0.callB hb2
  refine wq (bU us3 Tryz.underlying136 rfl (iH _ (by omega) (by omega))) rfl (bJ rfl rfl (aB (aC (aD (aA (aV rfl rfl (aV rfl rfl (wq (rQ rfl rfl (by omega)) rfl ?_))))))))
  refine aT 39 (.int .u64 (Y : Int)) (iE ((aSv y s _ rfl (by omega) (by rw [V.eY]; exact hYl)).trans (congrArg _ V.eY))) (bJ rfl rfl (aB (aC (aD (aA (aV rfl rfl (wq (gH rfl rfl (by decide)) rfl (aT 41 (.int .u64 (y1 : Int)) (iE ((aLg Y).trans (congrArg _ V.ey1))) ?_))))))))
  refine bJ rfl rfl (aB (aC (aD (aA (aV rfl rfl (wq (dY (.int _ _) rfl rfl rfl) rfl (aT 43 (.int .u64 (y0 : Int)) (iE ((aLu Y hYl).trans (congrArg _ V.ey0))) (bJ rfl rfl ?_))))))))
  refine aB (aC (aD (aA (aV rfl rfl (aV rfl rfl (wq (rQ rfl rfl (by omega)) rfl (aT 46 (.int .u64 (A : Int)) (iE ((aSv hi s _ rfl (by omega) (by rw [V.eA]; omega)).trans (congrArg _ V.eA))) (aV rfl rfl ?_))))))))
  refine aV rfl rfl (wq (lO rfl rfl (iH _ (by omega) (by omega))) rfl (wq (gH rfl rfl (by omega)) rfl (aT 50 (.int .u64 (E : Int)) (iE ((aCp lo (64 - s) _ (by omega) (by omega)).trans (congrArg _ V.eE))) (wq (dY (.int _ _) rfl rfl rfl) rfl (aT 51 (.int .u64 (U : Int)) (iE ((bEf hi A E s V.eA V.hE (by omega)).trans (congrArg _ V.eU))) ?_)))))
  refine bJ rfl rfl (aB (aC (aD (aA (aV rfl rfl (aV rfl rfl (wq (rQ rfl rfl (by omega)) rfl (aT 54 (.int .u64 (W : Int)) (iE ((aQg lo s _ rfl (by omega)).trans (congrArg _ V.eW))) ?_))))))))
  refine bJ rfl rfl (aB (aC (aD (aA (aV rfl rfl (wq (gH rfl rfl (by decide)) rfl (aT 56 (.int .u64 (d1 : Int)) (iE ((aLg W).trans (congrArg _ V.ed1))) (bJ rfl rfl ?_))))))))
  refine aB (aC (aD (aA (aV rfl rfl (wq (dY (.int _ _) rfl rfl rfl) rfl (aT 58 (.int .u64 (d0 : Int)) (iE ((aLu W hWl).trans (congrArg _ V.ed0))) (bJ rfl rfl (aB (aC (aD (aA ?_)))))))))))
  refine aV rfl rfl (aV rfl rfl (wq (aMf rfl rfl (by omega)) rfl (aT 61 (.int .u64 (p1 : Int)) (iE ((aVa U y1 (by omega)).trans (congrArg _ hp1))) (bJ rfl rfl (aB (aC (aD (aA ?_))))))))
  refine aV rfl rfl (aV rfl rfl (aV rfl rfl (wq (dY (.int _ _) rfl rfl rfl) rfl (aT 65 (.int .u64 (P1 : Int)) (iE ((aOl p1 y1 (by omega)).trans (congrArg _ hP1))) (wq (lO rfl rfl (iH _ (by omega) (by omega))) rfl ?_)))))
  refine aT 66 (.int .u64 (z1 : Int)) (iE (by omega)) (bJ rfl rfl (aB (aC ?_)))
  refine aRn (σ := Unit) [] (fun _ => [(15, .int .u64 (Q1 : Int)), (6, .int .u64 0), (7, .int .u64 0), (2, .int .u64 (Y : Int)), (8, .int .u64 (s : Int)), (9, .int .u64 (y1 : Int)), (10, .int .u64 (y0 : Int)), (11, .int .u64 (U : Int)), (13, .int .u64 (d1 : Int)), (14, .int .u64 (d0 : Int))]) (fun _ w' => Mem w [] [] w') ?_ ?_
  ·refine aS (dM (σ := Nat × Nat) [] (fun (q1, r1) => [(15, .int .u64 (q1 : Int)), (16, .int .u64 (r1 : Int)), (6, .int .u64 0), (7, .int .u64 0), (2, .int .u64 (Y : Int)), (8, .int .u64 (s : Int)), (9, .int .u64 (y1 : Int)), (10, .int .u64 (y0 : Int)), (11, .int .u64 (U : Int)), (13, .int .u64 (d1 : Int)), (14, .int .u64 (d0 : Int))]) (fun (q1, r1) w' => (r1 < 4294967296 ∧ Dg U y1 y0 d1 q1 r1) ∧ Mem w [] [] w') (fun (q1, r1) => q1) (p1, z1) (bL rfl (bL rfl (bL rfl (bL rfl (bL rfl (bL rfl (bL rfl (bL rfl (bL rfl (bL rfl (bL rfl eV))))))))))) (⟨⟨by omega, DU⟩, M2⟩) ?_)
   rintro ⟨q1, r1⟩ ρ4 w4 ⟨⟨hr1, Dr1⟩, hM4⟩
   refine aD (aD (aA (aV rfl rfl (cT rfl rfl rfl rfl (wq (aG (.bool (decide _)) rfl) rfl ?_)))))
   refine cW 69 rfl (fun g69 => ?_) (fun g69 => ?_)
   ·refine aO rfl rfl (aO rfl rfl (aO rfl rfl (aO rfl rfl (aO rfl rfl (aO rfl rfl ?_)))))
    refine aO rfl rfl (aO rfl rfl (wq (bI true (.bool true) rfl rfl) rfl (aB (aC (cO rfl (aK (aC (aS (aD (aA ?_))))))))))
    refine aV rfl rfl ?_
    have hsr1 := vZ (u := U) (d := d1) (by omega) (by omega) Dr1 (by first | exact .inl (by omega) | exact .inr (by omega))
    have hlr1 := aDw hy1 (by omega) Dr1
    have hqr1 := hsr1.1
    have D'r1 := hsr1.2
    refine wq (lO rfl rfl (iH _ (by omega) (by omega))) rfl (aT 80 (.int .u64 ((q1 - 1 : Nat) : Int)) (iE (by omega)) (bJ rfl rfl (aB (aC (aD (aA (aV rfl rfl (aV rfl rfl ?_))))))))
    refine wq (iJ rfl rfl (iH _ (by omega) (by omega))) rfl (aT 83 (.int .u64 ((r1 + y1 : Nat) : Int)) (iE (by omega)) (bJ rfl rfl (aB (aC (aD (aA (aV rfl rfl (cT rfl rfl rfl rfl ?_))))))))
    refine aB (aC ?_)
    refine aW rfl (fun h85 => ?_) (fun h85 => ?_)
    ·have hxr1 : q1 - 1 = Q1 := (rV (by omega) (by omega) (by omega) D'r1 (by omega)).trans V.eQ1
     refine cP (aXl rfl (cY (eT (aBt () (bL (iv rfl (by omega)) (bL rfl (bL rfl (bL rfl (bL rfl (bL rfl (bL rfl (bL rfl (bL rfl (bL rfl eV)))))))))) jS ?_))))
     exact hM4
    ·refine aK (cX ?_)
     refine cQ (q1 - 1, r1 + y1) (bL rfl (bL rfl (bL rfl (bL rfl (bL rfl (bL rfl (bL rfl (bL rfl (bL rfl (bL rfl (bL rfl eV))))))))))) jS ?_ ?_
     ·exact ⟨⟨by omega, D'r1⟩, hM4⟩
     ·(show q1 - 1 < q1; omega)
   ·refine aV rfl rfl (aV rfl rfl (wq (dY (.int _ _) rfl rfl rfl) rfl (aT 72 (.int .u64 ((q1 * y0 : Nat) : Int)) (iE (aOl q1 y0 (by have := aZw (q := q1) (y0 := y0) (by omega) (by omega); omega))) (aV rfl rfl (wq (aJt rfl rfl (iH _ (by omega) (by omega))) rfl ?_)))))
    refine aV rfl rfl (wq (iJ rfl rfl (iH _ (by omega) (by omega))) rfl (cT rfl rfl rfl rfl (wq (bI false (.bool (decide _)) rfl rfl) rfl (aB (aC ?_)))))
    refine aW rfl (fun h78 => ?_) (fun h78 => ?_)
    ·refine aK (aC (aS (aD (aA (aV rfl rfl ?_)))))
     have hsr1 := vZ (u := U) (d := d1) (by omega) (by omega) Dr1 (by first | exact .inl (by omega) | exact .inr (by omega))
     have hlr1 := aDw hy1 (by omega) Dr1
     have hqr1 := hsr1.1
     have D'r1 := hsr1.2
     refine wq (lO rfl rfl (iH _ (by omega) (by omega))) rfl (aT 80 (.int .u64 ((q1 - 1 : Nat) : Int)) (iE (by omega)) (bJ rfl rfl (aB (aC (aD (aA (aV rfl rfl (aV rfl rfl ?_))))))))
     refine wq (iJ rfl rfl (iH _ (by omega) (by omega))) rfl (aT 83 (.int .u64 ((r1 + y1 : Nat) : Int)) (iE (by omega)) (bJ rfl rfl (aB (aC (aD (aA (aV rfl rfl (cT rfl rfl rfl rfl ?_))))))))
     refine aB (aC ?_)
     refine aW rfl (fun h85 => ?_) (fun h85 => ?_)
     ·have hxr1 : q1 - 1 = Q1 := (rV (by omega) (by omega) (by omega) D'r1 (by omega)).trans V.eQ1
      refine cP (aXl rfl (cY (eT (aBt () (bL (iv rfl (by omega)) (bL rfl (bL rfl (bL rfl (bL rfl (bL rfl (bL rfl (bL rfl (bL rfl (bL rfl eV)))))))))) jS ?_))))
      exact hM4
     ·refine aK (cX ?_)
      refine cQ (q1 - 1, r1 + y1) (bL rfl (bL rfl (bL rfl (bL rfl (bL rfl (bL rfl (bL rfl (bL rfl (bL rfl (bL rfl (bL rfl eV))))))))))) jS ?_ ?_
      ·exact ⟨⟨by omega, D'r1⟩, hM4⟩
      ·(show q1 - 1 < q1; omega)
    ·have hxr1 : q1 = Q1 := (aCr (by omega) Dr1 (by omega)).trans V.eQ1
     refine cP (dA (cY (eT (aBt () (bL (iv rfl (by omega)) (bL rfl (bL rfl (bL rfl (bL rfl (bL rfl (bL rfl (bL rfl (bL rfl (bL rfl eV)))))))))) jS ?_))))
     exact hM4
  ·rintro _ ρ3 w3 hM3
   refine aD (aA (aV rfl rfl (wq (dY (.int _ _) rfl rfl rfl) rfl (aV rfl rfl (wq (dY (.int _ _) rfl rfl rfl) rfl (aV rfl rfl ?_))))))
   refine aT 90 (.int .u64 (Q1 : Int)) (iE (by omega)) (aV rfl rfl (wq (dY (.int _ _) rfl rfl rfl) rfl (aT 92 (.int .u64 ((Q1 * Y % 18446744073709551616 : Nat) : Int)) (iE (aZy Q1 Y)) (wq (dY (.int _ _) rfl rfl rfl) rfl (aT 93 (.int .u64 (U2 : Int)) (iE (by have := V.eU2; rw [rD, rD, rD]; omega)) ?_)))))
   refine bJ rfl rfl (aB (aC (aD (aA (aV rfl rfl (aV rfl rfl (wq (aMf rfl rfl (by omega)) rfl (aT 96 (.int .u64 (p2 : Int)) (iE ((aVa U2 y1 (by omega)).trans (congrArg _ hp2))) ?_))))))))
   refine bJ rfl rfl (aB (aC (aD (aA (aV rfl rfl (aV rfl rfl (aV rfl rfl (wq (dY (.int _ _) rfl rfl rfl) rfl ?_))))))))
   refine aT 100 (.int .u64 (P2 : Int)) (iE ((aOl p2 y1 (by omega)).trans (congrArg _ hP2))) (wq (lO rfl rfl (iH _ (by omega) (by omega))) rfl (aT 101 (.int .u64 (z2 : Int)) (iE (by omega)) (bJ rfl rfl (aB (aC ?_)))))
   refine aRn (σ := Unit) [] (fun _ => [(18, .int .u64 (Q0 : Int)), (6, .int .u64 0), (7, .int .u64 0), (2, .int .u64 (Y : Int)), (8, .int .u64 (s : Int)), (14, .int .u64 (d0 : Int)), (15, .int .u64 (Q1 : Int)), (17, .int .u64 (U2 : Int))]) (fun _ w' => Mem w [] [] w') ?_ ?_
   ·refine aS (dM (σ := Nat × Nat) [] (fun (q0, r0) => [(18, .int .u64 (q0 : Int)), (16, .int .u64 (r0 : Int)), (6, .int .u64 0), (7, .int .u64 0), (2, .int .u64 (Y : Int)), (8, .int .u64 (s : Int)), (14, .int .u64 (d0 : Int)), (15, .int .u64 (Q1 : Int)), (17, .int .u64 (U2 : Int)), (9, .int .u64 (y1 : Int)), (10, .int .u64 (y0 : Int))]) (fun (q0, r0) w' => (r0 < 4294967296 ∧ Dg U2 y1 y0 d0 q0 r0) ∧ Mem w [] [] w') (fun (q0, r0) => q0) (p2, z2) (bL rfl (bL rfl (bL rfl (bL rfl (bL rfl (bL rfl (bL rfl (bL rfl (bL rfl (bL rfl (bL rfl eV))))))))))) (⟨⟨by omega, DU2⟩, hM3⟩) ?_)
    rintro ⟨q0, r0⟩ ρ6 w6 ⟨⟨hr0, Dr0⟩, hM6⟩
    refine aD (aD (aA (aV rfl rfl (cT rfl rfl rfl rfl (wq (aG (.bool (decide _)) rfl) rfl ?_)))))
    refine cW 104 rfl (fun g104 => ?_) (fun g104 => ?_)
    ·refine aO rfl rfl (aO rfl rfl (aO rfl rfl (aO rfl rfl (aO rfl rfl (aO rfl rfl ?_)))))
     refine aO rfl rfl (aO rfl rfl (wq (bI true (.bool true) rfl rfl) rfl (aB (aC (cO rfl (aK (aC (aS (aD (aA ?_))))))))))
     refine aV rfl rfl ?_
     have hsr0 := vZ (u := U2) (d := d0) (by omega) (by omega) Dr0 (by first | exact .inl (by omega) | exact .inr (by omega))
     have hlr0 := aDw hy1 (by omega) Dr0
     have hqr0 := hsr0.1
     have D'r0 := hsr0.2
     refine wq (lO rfl rfl (iH _ (by omega) (by omega))) rfl (aT 115 (.int .u64 ((q0 - 1 : Nat) : Int)) (iE (by omega)) (bJ rfl rfl (aB (aC (aD (aA (aV rfl rfl (aV rfl rfl ?_))))))))
     refine wq (iJ rfl rfl (iH _ (by omega) (by omega))) rfl (aT 118 (.int .u64 ((r0 + y1 : Nat) : Int)) (iE (by omega)) (bJ rfl rfl (aB (aC (aD (aA (aV rfl rfl (cT rfl rfl rfl rfl ?_))))))))
     refine aB (aC ?_)
     refine aW rfl (fun h120 => ?_) (fun h120 => ?_)
     ·have hxr0 : q0 - 1 = Q0 := (rV (by omega) (by omega) (by omega) D'r0 (by omega)).trans V.eQ0
      refine cP (aXl rfl (cY (eT (aBt () (bL (iv rfl (by omega)) (bL rfl (bL rfl (bL rfl (bL rfl (bL rfl (bL rfl (bL rfl eV)))))))) jS ?_))))
      exact hM6
     ·refine aK (cX ?_)
      refine cQ (q0 - 1, r0 + y1) (bL rfl (bL rfl (bL rfl (bL rfl (bL rfl (bL rfl (bL rfl (bL rfl (bL rfl (bL rfl (bL rfl eV))))))))))) jS ?_ ?_
      ·exact ⟨⟨by omega, D'r0⟩, hM6⟩
      ·(show q0 - 1 < q0; omega)
    ·refine aV rfl rfl (aV rfl rfl (wq (dY (.int _ _) rfl rfl rfl) rfl (aT 107 (.int .u64 ((q0 * y0 : Nat) : Int)) (iE (aOl q0 y0 (by have := aZw (q := q0) (y0 := y0) (by omega) (by omega); omega))) (aV rfl rfl (wq (aJt rfl rfl (iH _ (by omega) (by omega))) rfl ?_)))))
     refine aV rfl rfl (wq (iJ rfl rfl (iH _ (by omega) (by omega))) rfl (cT rfl rfl rfl rfl (wq (bI false (.bool (decide _)) rfl rfl) rfl (aB (aC ?_)))))
     refine aW rfl (fun h113 => ?_) (fun h113 => ?_)
     ·refine aK (aC (aS (aD (aA (aV rfl rfl ?_)))))
      have hsr0 := vZ (u := U2) (d := d0) (by omega) (by omega) Dr0 (by first | exact .inl (by omega) | exact .inr (by omega))
      have hlr0 := aDw hy1 (by omega) Dr0
      have hqr0 := hsr0.1
      have D'r0 := hsr0.2
      refine wq (lO rfl rfl (iH _ (by omega) (by omega))) rfl (aT 115 (.int .u64 ((q0 - 1 : Nat) : Int)) (iE (by omega)) (bJ rfl rfl (aB (aC (aD (aA (aV rfl rfl (aV rfl rfl ?_))))))))
      refine wq (iJ rfl rfl (iH _ (by omega) (by omega))) rfl (aT 118 (.int .u64 ((r0 + y1 : Nat) : Int)) (iE (by omega)) (bJ rfl rfl (aB (aC (aD (aA (aV rfl rfl (cT rfl rfl rfl rfl ?_))))))))
      refine aB (aC ?_)
      refine aW rfl (fun h120 => ?_) (fun h120 => ?_)
      ·have hxr0 : q0 - 1 = Q0 := (rV (by omega) (by omega) (by omega) D'r0 (by omega)).trans V.eQ0
       refine cP (aXl rfl (cY (eT (aBt () (bL (iv rfl (by omega)) (bL rfl (bL rfl (bL rfl (bL rfl (bL rfl (bL rfl (bL rfl eV)))))))) jS ?_))))
       exact hM6
      ·refine aK (cX ?_)
       refine cQ (q0 - 1, r0 + y1) (bL rfl (bL rfl (bL rfl (bL rfl (bL rfl (bL rfl (bL rfl (bL rfl (bL rfl (bL rfl (bL rfl eV))))))))))) jS ?_ ?_
       ·exact ⟨⟨by omega, D'r0⟩, hM6⟩
       ·(show q0 - 1 < q0; omega)
     ·have hxr0 : q0 = Q0 := (aCr (by omega) Dr0 (by omega)).trans V.eQ0
      refine cP (dA (cY (eT (aBt () (bL (iv rfl (by omega)) (bL rfl (bL rfl (bL rfl (bL rfl (bL rfl (bL rfl (bL rfl eV)))))))) jS ?_))))
      exact hM6
   ·rintro _ ρ5 w5 hM5
    refine aD (aA (aV rfl rfl (aT 121 (.int .u64 (Q1 : Int)) (iE (by omega)) (wq (aJt rfl rfl (iH _ (by omega) (by omega))) rfl (aV rfl rfl (aT 123 (.int .u64 (Q0 : Int)) (iE (by omega)) ?_))))))
    refine wq (iJ rfl rfl (iH _ (by omega) (by omega))) rfl (aV rfl rfl (wq (dY (.int _ _) rfl rfl rfl) rfl (aV rfl rfl (wq (dY (.int _ _) rfl rfl rfl) rfl (aV rfl rfl ?_)))))
    refine aT 129 (.int .u64 (Q0 : Int)) (iE (by omega)) (aV rfl rfl (wq (dY (.int _ _) rfl rfl rfl) rfl (aT 131 (.int .u64 ((Q0 * Y % 18446744073709551616 : Nat) : Int)) (iE (aZy Q0 Y)) (wq (dY (.int _ _) rfl rfl rfl) rfl (aT 132 (.int .u64 (R : Int)) (iE (by have := V.eR; rw [rD, rD, rD]; omega)) ?_)))))
    refine aV rfl rfl (wq (gH rfl rfl (by omega)) rfl (aT 134 (.int .u64 ((R / 2 ^ s : Nat) : Int)) (iE (aCp R s _ rfl (by omega))) (bJ rfl rfl (bJ rfl rfl (aB (aC (aN ?_)))))))
    refine iD (.int _ _) (.int _ _) rfl rfl ?_
    exact ⟨by rw [V.fq, V.fr]; exact aAi (iE (by omega)) rfl, hM5.below⟩
set_option maxHeartbeats 4000000 in
theorem jB (w : World) (a : Int) (h0 : -9223372036854775808 ≤ a) (h1 : a ≤ 9223372036854775807) :
  Calls Tryz.prog 179 #[.int .i64 a] w (fun ex w' => ∃ v, ex = .returned v ∧ (fun v w' => v = .int .u64 ((a.natAbs : Nat) : Int) ∧ Below w.heap.size w w') v w') := by
 refine aH #[.tmp 2] 10 Tryz.func179 rfl Tryz.results179 Tryz.ntmps179 rfl ?_
 have M0 := Mem.refl w
 refine aD (aA (bJ rfl rfl (aB (aC (aD (aD (aA (aV rfl rfl (cT rfl rfl rfl rfl (aB (aC ?_)))))))))))
 refine aW rfl (fun h4 => ?_) (fun h4 => ?_)
 ·refine aD (aA (aV rfl rfl (wq (dT us2 Tryz.underlying170 rfl) rfl (wq (aBs rfl) rfl (aT 7 (.int .u64 ((a.natAbs : Nat) : Int)) (iE (by rw [rD, rD]; omega)) (bJ rfl rfl ?_))))))
  refine aB (aC (aN (cE (cC (.int _ _) rfl ?_))))
  exact ⟨rfl, M0.below⟩
 ·refine aK (aC (aD (aA (aV rfl rfl (wq (dT us2 Tryz.underlying170 rfl) rfl (aT 9 (.int .u64 ((a.natAbs : Nat) : Int)) (iE (by rw [rD]; omega)) (bJ rfl rfl (aB (aC (aN ?_))))))))))
  refine cC (.int _ _) rfl ?_
  exact ⟨rfl, M0.below⟩
set_option maxHeartbeats 4000000 in
theorem aDg (w : World) (s : Bool) :
  Calls Tryz.prog 181 #[.bool s] w (fun ex w' => ∃ v, ex = .returned v ∧ (fun v w' => ∃ b, v = .func (.func 207) #[] #[.pointer (some ⟨b, 0, none⟩)] ∧ Mem w [] [(some b, bc [.bool s] 4)] w') v w') := by
 refine aH #[.tmp 2] 4 Tryz.func181 rfl Tryz.results181 Tryz.ntmps181 rfl ?_
 have M0 := Mem.refl w
 refine aD (aA (bK (.bool _) M0 rfl rfl rfl (fun b1 w1 M1 => (wq (aI (_) rfl) rfl (aB (aC (aD (aA (wq (cR [] [.pointer _] rfl rfl) rfl (wq (aI (.func _ _ _) rfl) rfl ?_))))))))))
 refine aB (aC (aN (cC (.func _ _ _) rfl ?_)))
 exact ⟨b1, rfl, M1⟩
set_option maxHeartbeats 4000000 in
theorem vX (w : World) (q : Nat) (s : Bool) (b : Nat) (hq : q ≤ 4611686018427387904) (K : Rd w 1 (some ⟨b, 0, none⟩) 1 [[.bool s]]) :
  Calls Tryz.prog 207 #[.int .u64 (q : Int), .pointer (some ⟨b, 0, none⟩)] w (fun ex w' => ∃ v, ex = .returned v ∧ (fun v w' => v = .tuple #[.int .i64 (if s = true then -(q : Int) else (q : Int)), .bool true] ∧ Below w.heap.size w w') v w') := by
 rw [← eN b]
 refine aH #[.tmp 3, .tmp 4] 15 Tryz.func207 rfl Tryz.results207 Tryz.ntmps207 rfl ?_
 have M0 := Mem.refl w
 refine aD (aA (bJ rfl rfl (wq (aI (.bool false) rfl) rfl (aB (aC (aD (aD (aA (wq (eQ (o := 0) (.bool _) mL (K.mem M0) (show ([[.bool s]] : List (List Value))[0]? = some [.bool s] from rfl) rfl rfl) rfl (aB (aC ?_)))))))))))
 refine gU _ rfl (fun h5 => ?_) (fun h5 => ?_)
 ·refine aD (aA (aV rfl rfl (wq (aBs rfl) rfl (wq (dT aCo Tryz.underlying2 rfl) rfl (aT 8 (.int .i64 (-(q : Int))) (iE (aYk q hq)) (aV rfl rfl ?_))))))
  refine cT rfl rfl rfl rfl (kR 10 rfl (by omega) (bJ rfl rfl (wq (aI (.bool true) rfl) rfl (aB (aC (aN (cE (iD (.int _ _) (.bool true) rfl rfl ?_))))))))
  exact ⟨by simp [h5], M0.below⟩
 ·refine aK (aC (aD (aA (aV rfl rfl (wq (bU aCo Tryz.underlying2 rfl (kJ _ (by omega) (by omega))) rfl (aV rfl rfl (cT rfl rfl rfl rfl (kR 14 rfl (by omega) ?_))))))))
  refine bJ rfl rfl (wq (aI (.bool true) rfl) rfl (aB (aC (aN (iD (.int _ _) (.bool true) rfl rfl ?_)))))
  exact ⟨by simp [h5], M0.below⟩
set_option maxHeartbeats 8000000 in
theorem bDj (w : World) (a n d : Int) (ha : -4294967296 ≤ a ∧ a ≤ 4294967296) (hn : 0 ≤ n) (hnd : n ≤ d) (hd0 : 0 < d) (hd : d ≤ 9223372036854775807) :
  Calls Tryz.prog 141 #[.int .i64 a, .int .i64 n, .int .i64 d] w (fun ex w' => ∃ v, ex = .returned v ∧ (fun v w' => v = .tuple #[.int .i64 (a * n / d), .int .i64 0] ∧ Below w.heap.size w w') v w') := by
 obtain ⟨m, rfl⟩ := Int.eq_ofNat_of_zero_le hn
 obtain ⟨z, rfl⟩ := Int.eq_ofNat_of_zero_le (Int.le_of_lt hd0)
 have hmd := aUq (a := a) (m := m) (z := z) ha (by omega) (by omega) (by omega)
 obtain ⟨q, hq⟩ : ∃ q, a.natAbs * m / z = q := ⟨_, rfl⟩
 obtain ⟨r, hr⟩ : ∃ r, a.natAbs * m % z = r := ⟨_, rfl⟩
 have hql : q ≤ 4294967296 := by rw [← hq]; exact hmd.2.2.2
 refine aH #[.tmp 6, .tmp 7] 65 Tryz.func141 rfl Tryz.results141 Tryz.ntmps141 rfl ?_
 have M0 := Mem.refl w
 refine aD (aA (bJ rfl rfl (bJ rfl rfl (aB (aC (aD (aD (aA (aV rfl rfl (cT rfl rfl rfl rfl ?_))))))))))
 refine tF 17 rfl (by omega) (aB (aC (bX rfl (aK (aC (aD (aA (aV rfl rfl (bV pI rfl rfl (jB _ a (by omega) (by omega)) ?_)))))))))
 rintro v1 w1 ⟨rfl, hb1⟩
 have M1 := M0.callB hb1
 refine aV rfl rfl (bV pI rfl rfl (jB _ (m : Int) (by omega) (by omega)) ?_)
 rintro v2 w2 ⟨rfl, hb2⟩
 have M2 := M1.callB hb2
 refine aT 22 (.int .u64 (m : Int)) (iE (by omega)) (bV aKb rfl rfl (aTm _ a.natAbs m (by omega) (by omega)) ?_)
 rintro v3 w3 ⟨rfl, hb3⟩
 have M3 := M2.callB hb3
 refine wq (aG (.tuple (List.toArray _)) rfl) rfl (wq (bE (.int _ _) rfl rfl) rfl (wq (bE (.int _ _) rfl rfl) rfl (bJ rfl rfl (bJ rfl rfl (aB (aC (aD (aA ?_))))))))
 refine aV rfl rfl (bV pI rfl rfl (jB _ (z : Int) (by omega) (by omega)) ?_)
 rintro v4 w4 ⟨rfl, hb4⟩
 have M4 := M3.callB hb4
 refine aT 27 (.int .u64 (z : Int)) (iE (by omega)) (bJ rfl rfl (aB (aC (aD (aD (aA (aV rfl rfl (aV rfl rfl (cT rfl rfl rfl rfl ?_)))))))))
 refine tF 30 rfl (by have := hmd.1; omega) (aB (aC (bX rfl (aK (aC (aD (aA (aV rfl rfl (aV rfl rfl ?_)))))))))
 refine aV rfl rfl (bV aUp rfl rfl (aZh _ (a.natAbs * m / 18446744073709551616) (a.natAbs * m % 18446744073709551616) z hmd.1 (by omega) hmd.2.1) ?_)
 rintro v5 w5 ⟨rfl, hb5⟩
 have M5 := M4.callB hb5
 refine wq (aG (.tuple (List.toArray _)) rfl) rfl (wq (bE (.int _ _) rfl rfl) rfl (aT 36 (.int .u64 (q : Int)) (iE (by rw [hmd.2.2.1, hq])) (wq (bE (.int _ _) rfl rfl) rfl (aT 37 (.int .u64 (r : Int)) (iE (by rw [hmd.2.2.1, hr])) (bJ rfl rfl ?_)))))
 refine bJ rfl rfl (aB (aC (aD (aA (aV rfl rfl (cT rfl rfl rfl rfl (aV rfl rfl (cT rfl rfl rfl rfl ?_))))))))
 refine tF 41 rfl (by omega) (wq (uC _ Tryz.underlying4 rfl rfl rfl) rfl (aT 42 (.bool (decide (a < 0))) (bv rfl (by simp)) (aV rfl rfl (cT rfl rfl rfl rfl (tF 44 rfl (by omega) ?_)))))
 refine wq (uC _ Tryz.underlying4 rfl rfl rfl) rfl (aT 45 (.bool (decide (a < 0))) (bv rfl (by simp)) (wq (aI (.bool (decide _)) rfl) rfl (aB (aC (aD (aD (aA (wq (aG (.bool (decide _)) rfl) rfl (wq (aG (.bool (decide _)) rfl) rfl ?_)))))))))
 refine cW 47 rfl (fun g47 => ?_) (fun g47 => ?_)
 ·refine aV rfl rfl (cT rfl rfl rfl rfl (wq (bI true (.bool (decide _)) rfl rfl) rfl (aB (aC ?_))))
  refine aW rfl (fun h50 => ?_) (fun h50 => ?_)
  ·refine aD (aA (aV rfl rfl (wq (dY (.int _ _) rfl rfl rfl) rfl (aT 52 (.int .u64 ((q + 1 : Nat) : Int)) (iE (by rw [rD]; omega)) (bJ rfl rfl (aB (aC (aD (aA ?_)))))))))
   refine aV rfl rfl (cT rfl rfl rfl rfl (tF 54 rfl (by omega) (aB (aC (bX rfl (aK (aC (aD (aA ?_)))))))))
   refine wq (aG (.bool (decide _)) rfl) rfl (bV aDt rfl rfl (aDg _ _) ?_)
   rintro v6 w6 ⟨bs, rfl, hM6⟩
   have M6 : Mem _ _ [_] _ := M5.call0 hM6
   refine aV rfl rfl (bV aDx rfl rfl (vX _ _ _ bs (by omega) (lW 0 M6 rfl rfl)) ?_)
   rintro v7 w7 ⟨rfl, hb7⟩
   have M7 := M6.callB hb7
   refine wq (aG (.tuple (List.toArray _)) rfl) rfl (wq (bE (.int _ _) rfl rfl) rfl (wq (bE (.bool true) rfl rfl) rfl (bJ rfl rfl (wq (aI (.bool true) rfl) rfl (aB (aC (aD (aD (aA ?_)))))))))
   refine wq (aG (.bool true) rfl) rfl (wq (fY false rfl rfl) rfl (aB (aC (bX rfl (aK (aC (aD (aA (aV rfl rfl ?_)))))))))
   refine bJ rfl rfl (bJ rfl rfl (aB (aC (aN (iD (.int _ _) (.int _ _) rfl rfl ?_)))))
   exact ⟨aAi (iE (by first | (rw [if_pos (decide_eq_true (by omega)), aJe (by omega) (by omega), hq, hr]; split <;> omega) | (rw [if_neg (by simp; omega), ← aJd (by omega), hq]))) rfl, M7.below⟩
  ·refine aK (aC (aD (aA (wq (aG (.bool (decide _)) rfl) rfl (bV aDt rfl rfl (aDg _ _) ?_)))))
   rintro v8 w8 ⟨bs, rfl, hM8⟩
   have M8 : Mem _ _ [_] _ := M5.call0 hM8
   refine aV rfl rfl (bV aDx rfl rfl (vX _ _ _ bs (by omega) (lW 0 M8 rfl rfl)) ?_)
   rintro v9 w9 ⟨rfl, hb9⟩
   have M9 := M8.callB hb9
   refine wq (aG (.tuple (List.toArray _)) rfl) rfl (wq (bE (.int _ _) rfl rfl) rfl (wq (bE (.bool true) rfl rfl) rfl (bJ rfl rfl (wq (aI (.bool true) rfl) rfl (aB (aC (aD (aD (aA ?_)))))))))
   refine wq (aG (.bool true) rfl) rfl (wq (fY false rfl rfl) rfl (aB (aC (bX rfl (aK (aC (aD (aA (aV rfl rfl ?_)))))))))
   refine bJ rfl rfl (bJ rfl rfl (aB (aC (aN (iD (.int _ _) (.int _ _) rfl rfl ?_)))))
   exact ⟨aAi (iE (by first | (rw [if_pos (decide_eq_true (by omega)), aJe (by omega) (by omega), hq, hr]; split <;> omega) | (rw [if_neg (by simp; omega), ← aJd (by omega), hq]))) rfl, M9.below⟩
 ·refine aO rfl rfl (aO rfl rfl (wq (bI false (.bool false) rfl rfl) rfl (aB (aC (bX rfl (aK (aC (aD (aA ?_)))))))))
  refine wq (aG (.bool (decide _)) rfl) rfl (bV aDt rfl rfl (aDg _ _) ?_)
  rintro v10 w10 ⟨bs, rfl, hM10⟩
  have M10 : Mem _ _ [_] _ := M5.call0 hM10
  refine aV rfl rfl (bV aDx rfl rfl (vX _ _ _ bs (by omega) (lW 0 M10 rfl rfl)) ?_)
  rintro v11 w11 ⟨rfl, hb11⟩
  have M11 := M10.callB hb11
  refine wq (aG (.tuple (List.toArray _)) rfl) rfl (wq (bE (.int _ _) rfl rfl) rfl (wq (bE (.bool true) rfl rfl) rfl (bJ rfl rfl (wq (aI (.bool true) rfl) rfl (aB (aC (aD (aD (aA ?_)))))))))
  refine wq (aG (.bool true) rfl) rfl (wq (fY false rfl rfl) rfl (aB (aC (bX rfl (aK (aC (aD (aA (aV rfl rfl ?_)))))))))
  refine bJ rfl rfl (bJ rfl rfl (aB (aC (aN (iD (.int _ _) (.int _ _) rfl rfl ?_)))))
  exact ⟨aAi (iE (by first | (rw [if_pos (decide_eq_true (by omega)), aJe (by omega) (by omega), hq, hr]; split <;> omega) | (rw [if_neg (by simp; omega), ← aJd (by omega), hq]))) rfl, M11.below⟩
end Go.Proofs.YtlmcphcgiclanaaGreatDoor
