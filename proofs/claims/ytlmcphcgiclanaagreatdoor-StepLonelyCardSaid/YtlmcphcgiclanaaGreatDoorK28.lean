/- Part of the proof of the laws of this seat: Z1, Z1b, Z1c, Z1d, W3, Z2, W4, Z3, Z4, W5, W6. No conditions. -/
import Derived.Test.YtlmcphcgiclanaaGreatDoorK5
import Derived.Test.YtlmcphcgiclanaaGreatDoorK12
import Derived.Test.YtlmcphcgiclanaaGreatDoorK18
import Derived.Test.YtlmcphcgiclanaaGreatDoorK11
import Derived.Test.YtlmcphcgiclanaaGreatDoorK17
set_option linter.unusedVariables false
set_option linter.unusedSimpArgs false
set_option linter.unnecessarySimpa false
namespace Go.Proofs.YtlmcphcgiclanaaGreatDoor
open Go.Bil
open Go.RowKit (Below)
open Go.Proofs
end Go.Proofs.YtlmcphcgiclanaaGreatDoor

namespace Go.Proofs.YtlmcphcgiclanaaGreatDoor
open Go.Bil
open Go.RowKit (Below)
open Go.Proofs
end Go.Proofs.YtlmcphcgiclanaaGreatDoor

namespace Go.Proofs.YtlmcphcgiclanaaGreatDoor
open Go.Bil
open Go.RowKit (Below)
open Go.Proofs
end Go.Proofs.YtlmcphcgiclanaaGreatDoor

namespace Go.Proofs.YtlmcphcgiclanaaGreatDoor
open Go.Bil
open Go.RowKit (Below)
open Go.Proofs
end Go.Proofs.YtlmcphcgiclanaaGreatDoor

namespace Go.Proofs.YtlmcphcgiclanaaGreatDoor
open Go.Bil
open Go.RowKit (Below)
open Go.Proofs
set_option maxHeartbeats 8000000 in
theorem aYw (w : World) (n : Nat) (hn : n < 18446744073709551616) :
    Calls Tryz.prog 203 #[.int .u64 (n : Int)] w (fun ex w' => ∃ v, ex = .returned v ∧ (fun v w' => v = .int .u64 ((rF n : Nat) : Int) ∧ Below w.heap.size w w') v w') := by
  refine aK #[.tmp 2] 32 Tryz.func203 rfl Tryz.results203 Tryz.ntmps203 rfl ?_
  have M0 := Mem.refl w
  refine aH (aB ?_)
  refine aA (aE (.int _ _) rfl) rfl rfl ?_
  refine aD (aF (aH (aB ?_)))
  refine aA (aC (.int _ _) rfl) rfl rfl ?_
  refine aA (aE (.int _ _) rfl) rfl rfl ?_
  refine aA (aE (.int _ _) rfl) rfl rfl ?_
  refine aD (aF (aH (aH (aB ?_))))
  refine aA (aC (.int _ _) rfl) rfl rfl ?_
  refine aD (aF (bC ?_))
  refine dT (σ := Nat × Nat × Nat) [2] (fun (i, R, e) => [(8, .int .i64 (i : Int)), (3, .int .u64 ((n - R * R : Nat) : Int)), (4, .int .u64 ((R * e : Nat) : Int))]) (fun (i, R, e) w' => Iq n i R e ∧ Mem w [] [] w') (fun (i, R, e) => 32 - i) (0, 0, 4294967296) (bX rfl (bX (iv rfl (by simp)) (bX (iv rfl (by simp)) fH))) (⟨aQq hn, M0⟩) ?_
  rintro ⟨i, R, e⟩ ρ1 w1 ⟨I, hM1⟩
  have hile := I.ile
  have hle := I.le
  refine aH (aB ?_)
  refine aA (aO (.bool (decide _)) rfl rfl rfl) rfl rfl ?_
  refine aD (aF (aH ?_))
  refine aY rfl (fun h9 => ?_) (fun h9 => ?_)
  · obtain ⟨f, hf1, hf2, hf3, hf4, hf5, hf6, hf7, hf8, hfy, hfn⟩ := aRr (by omega) I
    refine aP (aF (aH (bC (aH (aB ?_)))))
    refine aA (aC (.int _ _) rfl) rfl rfl ?_
    refine aA (aE (.int _ _) rfl) rfl rfl ?_
    refine aD (aF (aH (aB ?_)))
    refine aA (aC (.int _ _) rfl) rfl rfl ?_
    refine aA (lD rfl rfl (by omega) (by omega)) rfl rfl ?_
    refine aA (iG rfl rfl (by omega)) rfl rfl ?_
    refine aQ 13 (.int .u64 ((f * f : Nat) : Int)) (iE ((aRp (2 * i) _ (by omega) (by omega)).trans (congrArg _ hf4))) ?_
    refine aA (aE (.int _ _) rfl) rfl rfl ?_
    refine aD (aF (aH (aB ?_)))
    refine aA (aC (.int _ _) rfl) rfl rfl ?_
    refine aA (aC (.int _ _) rfl) rfl rfl ?_
    refine aA (aC (.int _ _) rfl) rfl rfl ?_
    refine aA (aO (.int _ _) rfl rfl rfl) rfl rfl ?_
    refine aQ 17 (.int .u64 ((R * e + f * f : Nat) : Int)) (iE (by rw [oZ]; omega)) ?_
    refine aA (aO (.bool (decide _)) rfl rfl rfl) rfl rfl ?_
    refine aD (aF ?_)
    refine aY rfl (fun h18 => ?_) (fun h18 => ?_)
    · have h18' : R * e + f * f ≤ n - R * R := by omega
      refine aH (aB ?_)
      refine aA (aC (.int _ _) rfl) rfl rfl ?_
      refine aA (aC (.int _ _) rfl) rfl rfl ?_
      refine aA (aC (.int _ _) rfl) rfl rfl ?_
      refine aA (aO (.int _ _) rfl rfl rfl) rfl rfl ?_
      refine aQ 22 (.int .u64 ((R * e + f * f : Nat) : Int)) (iE (by rw [oZ]; omega)) ?_
      refine aA (aO (.int _ _) rfl rfl rfl) rfl rfl ?_
      refine aQ 23 (.int .u64 ((n - (R + f) * (R + f) : Nat) : Int)) (iE (by rw [oZ]; omega)) ?_
      refine aA (aE (.int _ _) rfl) rfl rfl ?_
      refine aD (aF (aB ?_))
      refine aA (aC (.int _ _) rfl) rfl rfl ?_
      refine aA (iG rfl rfl (by decide)) rfl rfl ?_
      refine aQ 25 (.int .u64 ((R * f : Nat) : Int)) (iE ((aOh (R * e)).trans (congrArg _ hf5))) ?_
      refine aA (aC (.int _ _) rfl) rfl rfl ?_
      refine aA (aO (.int _ _) rfl rfl rfl) rfl rfl ?_
      refine aQ 27 (.int .u64 (((R + f) * f : Nat) : Int)) (iE (by rw [oZ]; omega)) ?_
      refine aA (aE (.int _ _) rfl) rfl rfl ?_
      refine aD ?_
      refine dU ?_
      refine aF (aB ?_)
      refine aA (bS rfl rfl (by omega) (by omega)) rfl rfl ?_
      refine aA (aC (.int _ _) rfl) rfl rfl ?_
      refine aD ?_
      refine cK (i + 1, R + f, f) (bX rfl (bX rfl (bX rfl fH))) (cQ rfl jF) ?_ ?_
      · exact ⟨hfy h18', hM1⟩
      · (show 32 - (i + 1) < 32 - i; omega)
    · have h18' : ¬ (R * e + f * f ≤ n - R * R) := by omega
      refine aB ?_
      refine aA (aC (.int _ _) rfl) rfl rfl ?_
      refine aA (iG rfl rfl (by decide)) rfl rfl ?_
      refine aQ 29 (.int .u64 ((R * f : Nat) : Int)) (iE ((aOh (R * e)).trans (congrArg _ hf5))) ?_
      refine aA (aE (.int _ _) rfl) rfl rfl ?_
      refine aD ?_
      refine dU ?_
      refine aF (aB ?_)
      refine aA (bS rfl rfl (by omega) (by omega)) rfl rfl ?_
      refine aA (aC (.int _ _) rfl) rfl rfl ?_
      refine aD ?_
      refine cK (i + 1, R, f) (bX rfl (bX rfl (bX rfl fH))) (cQ rfl jF) ?_ ?_
      · exact ⟨hfn h18', hM1⟩
      · (show 32 - (i + 1) < 32 - i; omega)
  · obtain rfl : i = 32 := by omega
    refine cR ?_
    refine dK ?_
    refine dH ?_
    refine fC ?_
    refine aF (aH (aB ?_))
    refine aA (aC (.int _ _) rfl) rfl rfl ?_
    refine aA (aE (.int _ _) rfl) rfl rfl ?_
    refine aD (aF (aS ?_))
    refine cG (.int _ _) rfl ?_
    exact ⟨iE (by rw [aSn I]), hM1.below⟩
set_option maxHeartbeats 4000000 in
theorem nN (w : World) (a b : Int × Int) (ha : I32 a) (hb : I32 b) :
    Calls Tryz.prog 200 #[(.agg (cE a).toArray), (.agg (cE b).toArray)] w (fun ex w' => ∃ v, ex = .returned v ∧ (fun v w' => v = .tuple #[.int .i64 (b.1 - a.1), .int .i64 (b.2 - a.2)] ∧ Below w.heap.size w w') v w') := by
  have hax := ha.x
  have hay := ha.y
  have hbx := hb.x
  have hby := hb.y
  refine aK #[.tmp 4, .tmp 5] 20 Tryz.func200 rfl Tryz.results200 Tryz.ntmps200 rfl ?_
  have M0 := Mem.refl w
  refine aH (aB ?_)
  refine bM (.agg (List.toArray _)) M0 rfl rfl rfl (fun b1 w1 M1 => ?_)
  refine bM (.agg (List.toArray _)) M1 rfl rfl rfl (fun b2 w2 M2 => ?_)
  refine aA (aE (.int _ _) rfl) rfl rfl ?_
  refine aA (aE (.int _ _) rfl) rfl rfl ?_
  refine aD (aF (aH ?_))
  refine bP [(0, 0), (1, 1), (2, 0), (3, 0), (4, 1), (5, 0), (6, 0), (7, 0), (8, 1), (9, 0), (10, 0), (11, 1), (12, 0), (13, 0), (14, 0), (15, 0)] mixed rfl (by kernel_rfl) (fun w3 hb3 hh3 => ?_)
  have M3 := M2.drew hb3 hh3
  refine aR rfl rfl rfl (fun _ => aI 0 dO rfl) ?_
  refine cD rfl rfl rfl (aV 1 (.int _ _) aZ M3 rfl rfl rfl) ?_
  refine aR rfl rfl rfl (fun _ => bW gA Tryz.underlying2 rfl (kR _ (by omega) (by omega))) ?_
  refine aR rfl rfl rfl (fun _ => aI 0 dO rfl) ?_
  refine cD rfl rfl rfl (aV 0 (.int _ _) aZ M3 rfl rfl rfl) ?_
  refine aR rfl rfl rfl (fun _ => bW gA Tryz.underlying2 rfl (kR _ (by omega) (by omega))) ?_
  refine aR rfl rfl rfl (fun _ => jO rfl rfl (by omega) (by omega)) ?_
  refine aR rfl rfl rfl (fun _ => aI 1 dJ rfl) ?_
  refine cD rfl rfl rfl (aV 1 (.int _ _) aZ M3 rfl rfl rfl) ?_
  refine aR rfl rfl rfl (fun _ => bW gA Tryz.underlying2 rfl (kR _ (by omega) (by omega))) ?_
  refine aR rfl rfl rfl (fun _ => aI 1 dJ rfl) ?_
  refine cD rfl rfl rfl (aV 0 (.int _ _) aZ M3 rfl rfl rfl) ?_
  refine aR rfl rfl rfl (fun _ => bW gA Tryz.underlying2 rfl (kR _ (by omega) (by omega))) ?_
  refine aR rfl rfl rfl (fun _ => jO rfl rfl (by omega) (by omega)) ?_
  refine aR rfl rfl rfl (fun _ => aE (.int _ _) rfl) ?_
  refine aR rfl rfl rfl (fun _ => aE (.int _ _) rfl) ?_
  refine cB ?_
  refine aF (aS ?_)
  refine fV (.int _ _) (.int _ _) rfl rfl ?_
  exact ⟨rfl, M3.below⟩
set_option maxHeartbeats 4000000 in
theorem wJ (w : World) (n : Int) (hn : tP n) :
    Calls Tryz.prog 201 #[.int .i64 n] w (fun ex w' => ∃ v, ex = .returned v ∧ (fun v w' => v = .int .u64 ((n.natAbs * n.natAbs : Nat) : Int) ∧ Below w.heap.size w w') v w') := by
  have hlt := (vT hn hn).2.1
  unfold tP at hn
  refine aK #[.tmp 2] 12 Tryz.func201 rfl Tryz.results201 Tryz.ntmps201 rfl ?_
  have M0 := Mem.refl w
  refine aH (aB ?_)
  refine aA (aE (.int _ _) rfl) rfl rfl ?_
  refine aD (aF (aH (aH (aB ?_))))
  refine aA (aC (.int _ _) rfl) rfl rfl ?_
  refine aA (aO (.bool (decide _)) rfl rfl rfl) rfl rfl ?_
  refine aD (aF ?_)
  refine aY rfl (fun h4 => ?_) (fun h4 => ?_)
  · refine aB ?_
    refine aA (aC (.int _ _) rfl) rfl rfl ?_
    refine aA (aCr rfl) rfl rfl ?_
    refine aQ 6 (.int .i64 (-n)) (iE (kR _ (by omega) (by omega))) ?_
    refine aA (aE (.int _ _) rfl) rfl rfl ?_
    refine aD (aF (aH (aB ?_)))
    refine aA (aC (.int _ _) rfl) rfl rfl ?_
    refine aA (fN us2 Tryz.underlying170 rfl) rfl rfl ?_
    refine aQ 8 (.int .u64 ((n.natAbs : Nat) : Int)) (iE (by rw [oZ]; omega)) ?_
    refine aA (aC (.int _ _) rfl) rfl rfl ?_
    refine aA (fN us2 Tryz.underlying170 rfl) rfl rfl ?_
    refine aQ 10 (.int .u64 ((n.natAbs : Nat) : Int)) (iE (by rw [oZ]; omega)) ?_
    refine aA (aO (.int _ _) rfl rfl rfl) rfl rfl ?_
    refine aQ 11 (.int .u64 ((n.natAbs * n.natAbs : Nat) : Int)) (iE (aKh _ _ (by omega))) ?_
    refine aA (aE (.int _ _) rfl) rfl rfl ?_
    refine aD (aF (aS ?_))
    refine cG (.int _ _) rfl ?_
    exact ⟨rfl, M0.below⟩
  · refine aP (aF (aH (aB ?_)))
    refine aA (aC (.int _ _) rfl) rfl rfl ?_
    refine aA (fN us2 Tryz.underlying170 rfl) rfl rfl ?_
    refine aQ 8 (.int .u64 ((n.natAbs : Nat) : Int)) (iE (by rw [oZ]; omega)) ?_
    refine aA (aC (.int _ _) rfl) rfl rfl ?_
    refine aA (fN us2 Tryz.underlying170 rfl) rfl rfl ?_
    refine aQ 10 (.int .u64 ((n.natAbs : Nat) : Int)) (iE (by rw [oZ]; omega)) ?_
    refine aA (aO (.int _ _) rfl rfl rfl) rfl rfl ?_
    refine aQ 11 (.int .u64 ((n.natAbs * n.natAbs : Nat) : Int)) (iE (aKh _ _ (by omega))) ?_
    refine aA (aE (.int _ _) rfl) rfl rfl ?_
    refine aD (aF (aS ?_))
    refine cG (.int _ _) rfl ?_
    exact ⟨rfl, M0.below⟩
set_option maxHeartbeats 4000000 in
theorem mN (w : World) (dx dy : Int) (hx : tP dx) (hy : tP dy) :
    Calls Tryz.prog 173 #[.int .i64 dx, .int .i64 dy] w (fun ex w' => ∃ v, ex = .returned v ∧ (fun v w' => v = .int .u64 ((wO dx dy : Nat) : Int) ∧ Below w.heap.size w w') v w') := by
  have hl := vT hx hy
  refine aK #[.tmp 4] 10 Tryz.func173 rfl Tryz.results173 Tryz.ntmps173 rfl ?_
  have M0 := Mem.refl w
  refine aH (aB ?_)
  refine aA (aE (.int _ _) rfl) rfl rfl ?_
  refine aD (aF (aH (aB ?_)))
  refine aA (aC (.int _ _) rfl) rfl rfl ?_
  refine aL aQc rfl rfl rfl ?_
  refine (wJ _ dx hx).mono ?_
  rintro _ w1 ⟨v1, rfl, ⟨rfl, hb1⟩⟩
  refine ⟨_, rfl, ?_⟩
  have M1 := M0.callB hb1
  refine aA (aC (.int _ _) rfl) rfl rfl ?_
  refine aL aQc rfl rfl rfl ?_
  refine (wJ _ dy hy).mono ?_
  rintro _ w2 ⟨v2, rfl, ⟨rfl, hb2⟩⟩
  refine ⟨_, rfl, ?_⟩
  have M2 := M1.callB hb2
  refine aA (aO (.int _ _) rfl rfl rfl) rfl rfl ?_
  refine aQ 9 (.int .u64 ((wO dx dy : Nat) : Int)) (iE (by rw [oZ]; unfold wO at *; omega)) ?_
  refine aA (aE (.int _ _) rfl) rfl rfl ?_
  refine aD (aF (aS ?_))
  refine cG (.int _ _) rfl ?_
  exact ⟨rfl, M2.below⟩
set_option maxHeartbeats 4000000 in
theorem vD (w : World) (dx dy : Int) (hx : tP dx) (hy : tP dy) :
    Calls Tryz.prog 175 #[.int .i64 dx, .int .i64 dy] w (fun ex w' => ∃ v, ex = .returned v ∧ (fun v w' => v = .int .i64 (len dx dy) ∧ Below w.heap.size w w') v w') := by
  have hl := zO hx hy
  refine aK #[.tmp 4] 10 Tryz.func175 rfl Tryz.results175 Tryz.ntmps175 rfl ?_
  have M0 := Mem.refl w
  refine aH (aB ?_)
  refine aA (aE (.int _ _) rfl) rfl rfl ?_
  refine aD (aF (aH (aB ?_)))
  refine aA (aC (.int _ _) rfl) rfl rfl ?_
  refine aA (aC (.int _ _) rfl) rfl rfl ?_
  refine aL aGc rfl rfl rfl ?_
  refine (mN _ dx dy hx hy).mono ?_
  rintro _ w1 ⟨v1, rfl, ⟨rfl, hb1⟩⟩
  refine ⟨_, rfl, ?_⟩
  have M1 := M0.callB hb1
  refine aL aWw rfl rfl rfl ?_
  refine (aYw _ (wO dx dy) (vT hx hy).1).mono ?_
  rintro _ w2 ⟨v2, rfl, ⟨rfl, hb2⟩⟩
  refine ⟨_, rfl, ?_⟩
  have M2 := M1.callB hb2
  refine aA (fN yK Tryz.underlying2 rfl) rfl rfl ?_
  refine aQ 9 (.int .i64 (len dx dy)) (iE (kR (len dx dy) (by omega) (by omega))) ?_
  refine aA (aE (.int _ _) rfl) rfl rfl ?_
  refine aD (aF (aS ?_))
  refine cG (.int _ _) rfl ?_
  exact ⟨rfl, M2.below⟩
set_option maxHeartbeats 4000000 in
theorem yG (w : World) (a b : Int) (hb : 0 < b) (h0 : -1000000000000000000 ≤ a) (h1 : a ≤ 1000000000000000000) :
    Calls Tryz.prog 202 #[.int .i64 a, .int .i64 b] w (fun ex w' => ∃ v, ex = .returned v ∧ (fun v w' => v = .int .i64 (a / b) ∧ Below w.heap.size w w') v w') := by
  have hf := aDs (a := a) hb
  have hb1 := aGh a b
  refine aK #[.tmp 4] 16 Tryz.func202 rfl Tryz.results202 Tryz.ntmps202 rfl ?_
  have M0 := Mem.refl w
  refine aH (aB ?_)
  refine aA (aE (.int _ _) rfl) rfl rfl ?_
  refine aD (aF (aH (aB ?_)))
  refine aA (aC (.int _ _) rfl) rfl rfl ?_
  refine aA (aC (.int _ _) rfl) rfl rfl ?_
  refine aA (aHo rfl rfl (by omega)) rfl rfl ?_
  refine aQ 8 (.int .i64 (a.tdiv b)) (iE (kR _ (by omega) (by omega))) ?_
  refine aA (aE (.int _ _) rfl) rfl rfl ?_
  refine aD (aF (aH (aH (aB ?_))))
  refine aA (aC (.int _ _) rfl) rfl rfl ?_
  refine aA (aC (.int _ _) rfl) rfl rfl ?_
  refine aA (aNx rfl rfl (by omega)) rfl rfl ?_
  refine aA (aO (.bool (decide _)) rfl rfl rfl) rfl rfl ?_
  refine aD (aF ?_)
  refine aY rfl (fun h12 => ?_) (fun h12 => ?_)
  · refine aB ?_
    refine aA (aC (.int _ _) rfl) rfl rfl ?_
    refine aA (jO rfl rfl (by omega) (by omega)) rfl rfl ?_
    refine aA (aE (.int _ _) rfl) rfl rfl ?_
    refine aD (aF (aH (aB ?_)))
    refine aA (aC (.int _ _) rfl) rfl rfl ?_
    refine aA (aE (.int _ _) rfl) rfl rfl ?_
    refine aD (aF (aS ?_))
    refine cG (.int _ _) rfl ?_
    exact ⟨iE (by first | exact hf.1 (by omega) | exact hf.2 (by omega)), M0.below⟩
  · refine aP (aF (aH (aB ?_)))
    refine aA (aC (.int _ _) rfl) rfl rfl ?_
    refine aA (aE (.int _ _) rfl) rfl rfl ?_
    refine aD (aF (aS ?_))
    refine cG (.int _ _) rfl ?_
    exact ⟨iE (by first | exact hf.1 (by omega) | exact hf.2 (by omega)), M0.below⟩
set_option maxHeartbeats 4000000 in
theorem aPc (w : World) (dx dy : Int) (hx : tP dx) (hy : tP dy) :
    Calls Tryz.prog 174 #[.int .i64 dx, .int .i64 dy] w (fun ex w' => ∃ v, ex = .returned v ∧ (fun v w' => v = (.agg (cE (kF dx dy)).toArray) ∧ Below w.heap.size w w') v w') := by
  have hl := zO hx hy
  have hxx := hx
  have hyy := hy
  unfold tP at hxx hyy
  refine aK #[.cell 4 38] 23 Tryz.func174 rfl Tryz.results174 Tryz.ntmps174 rfl ?_
  have M0 := Mem.refl w
  refine aH (aB ?_)
  refine aU gL M0 rfl rfl (fun b1 w1 M1 => ?_)
  refine aD (aF (aH (aB ?_)))
  refine aA (aC (.int _ _) rfl) rfl rfl ?_
  refine aA (aC (.int _ _) rfl) rfl rfl ?_
  refine aL aLn rfl rfl rfl ?_
  refine (vD _ dx dy hx hy).mono ?_
  rintro _ w2 ⟨v2, rfl, ⟨rfl, hb2⟩⟩
  refine ⟨_, rfl, ?_⟩
  have M2 := M1.callB hb2
  refine aA (aE (.int _ _) rfl) rfl rfl ?_
  refine aD (aF (aH (aH (aB ?_))))
  refine aA (aC (.int _ _) rfl) rfl rfl ?_
  refine aA (aO (.bool (decide _)) rfl rfl rfl) rfl rfl ?_
  refine aD (aF ?_)
  refine aY rfl (fun h10 => ?_) (fun h10 => ?_)
  · refine aH (aB ?_)
    refine aA (cI [(0, .int _ _)] _ eI rfl rfl) rfl rfl ?_
    refine bL 0 _ bJ M2 rfl rfl rfl rfl rfl (aW rfl) rfl (fun w3 M3 => ?_)
    refine aD (aF (aS (cN ?_)))
    refine kC 0 bJ M3 rfl rfl rfl ?_
    exact ⟨by unfold kF; first | (rw [if_pos (by omega)]; rfl) | (rw [if_neg (by omega)]; rfl), M3.below⟩
  · refine aP (aF (aH (aB ?_)))
    refine aA (aC (.int _ _) rfl) rfl rfl ?_
    refine aA (yU rfl rfl (by decide)) rfl rfl ?_
    refine aQ 13 (.int .i64 (dx * 65536)) (iE (xO dx hx)) ?_
    refine aA (aC (.int _ _) rfl) rfl rfl ?_
    refine aL aLu rfl rfl rfl ?_
    refine (yG _ (dx * 65536) (len dx dy) (by omega) (by omega) (by omega)).mono ?_
    rintro _ w4 ⟨v4, rfl, ⟨rfl, hb4⟩⟩
    refine ⟨_, rfl, ?_⟩
    have M4 := M2.callB hb4
    refine aA (fN us2 Tryz.underlying21 rfl) rfl rfl ?_
    refine aA (aC (.int _ _) rfl) rfl rfl ?_
    refine aA (yU rfl rfl (by decide)) rfl rfl ?_
    refine aQ 18 (.int .i64 (dy * 65536)) (iE (xO dy hy)) ?_
    refine aA (aC (.int _ _) rfl) rfl rfl ?_
    refine aL aLu rfl rfl rfl ?_
    refine (yG _ (dy * 65536) (len dx dy) (by omega) (by omega) (by omega)).mono ?_
    rintro _ w5 ⟨v5, rfl, ⟨rfl, hb5⟩⟩
    refine ⟨_, rfl, ?_⟩
    have M5 := M4.callB hb5
    refine aA (fN us2 Tryz.underlying21 rfl) rfl rfl ?_
    refine aA (cI [(0, .int _ _), (1, .int _ _)] _ eI rfl rfl) rfl rfl ?_
    refine bL 0 _ bJ M5 rfl rfl rfl rfl rfl (aW rfl) rfl (fun w6 M6 => ?_)
    refine aD (aF (aS ?_))
    refine kC 0 bJ M6 rfl rfl rfl ?_
    exact ⟨by unfold kF; first | (rw [if_pos (by omega)]; rfl) | (rw [if_neg (by omega)]; rfl), M6.below⟩
end Go.Proofs.YtlmcphcgiclanaaGreatDoor

namespace Go.Proofs.YtlmcphcgiclanaaGreatDoor
open Go.Bil
open Go.RowKit (Below)
open Go.Proofs
end Go.Proofs.YtlmcphcgiclanaaGreatDoor

namespace Go.Proofs.YtlmcphcgiclanaaGreatDoor
open Go.Bil
open Go.RowKit (Below)
open Go.Proofs
set_option maxHeartbeats 4000000 in
theorem aKl (w : World) (b : Body) (hb : Okb b) :
    Calls Tryz.prog 220 #[(.agg (aG b).toArray)] w (fun ex w' => ∃ v, ex = .returned v ∧ (fun v w' => v = .tuple #[(.agg (cE (aCp b)).toArray), (.agg (cE (aCz b)).toArray)] ∧ Below w.heap.size w w') v w') := by
  have ha := hb.a
  have hp := hb.p
  refine aK #[.cell 2 38, .cell 3 38] 36 Tryz.func220 rfl Tryz.results220 Tryz.ntmps220 rfl ?_
  have M0 := Mem.refl w
  refine aH (aB ?_)
  refine bM (.agg (List.toArray _)) M0 rfl rfl rfl (fun b1 w1 M1 => ?_)
  refine aU gL M1 rfl rfl (fun b2 w2 M2 => ?_)
  refine aU gL M2 rfl rfl (fun b3 w3 M3 => ?_)
  refine aD (aF (aH (aB ?_)))
  refine aA (aI 6 eK rfl) rfl rfl ?_
  refine aA (aI 0 dO rfl) rfl rfl ?_
  refine aA (aV 0 (.int _ _) aZ M3 rfl rfl rfl) rfl rfl ?_
  refine aA (aI 2 jE rfl) rfl rfl ?_
  refine aA (aI 0 dO rfl) rfl rfl ?_
  refine aA (aV 0 (.int _ _) aZ M3 rfl rfl rfl) rfl rfl ?_
  refine aA (iZ rfl rfl (iP _ (by omega) (by omega))) rfl rfl ?_
  refine aA (aI 6 eK rfl) rfl rfl ?_
  refine aA (aI 1 dJ rfl) rfl rfl ?_
  refine aA (aV 0 (.int _ _) aZ M3 rfl rfl rfl) rfl rfl ?_
  refine aA (aI 2 jE rfl) rfl rfl ?_
  refine aA (aI 1 dJ rfl) rfl rfl ?_
  refine aA (aV 0 (.int _ _) aZ M3 rfl rfl rfl) rfl rfl ?_
  refine aA (iZ rfl rfl (iP _ (by omega) (by omega))) rfl rfl ?_
  refine aA (cI [(0, .int _ _), (1, .int _ _)] _ eI rfl rfl) rfl rfl ?_
  refine bL 1 _ bJ M3 rfl rfl rfl rfl rfl (aW rfl) rfl (fun w4 M4 => ?_)
  refine aD (aF (aH (aB ?_)))
  refine aA (aI 6 eK rfl) rfl rfl ?_
  refine aA (aI 0 dO rfl) rfl rfl ?_
  refine aA (aV 0 (.int _ _) aZ M4 rfl rfl rfl) rfl rfl ?_
  refine aA (aI 2 jE rfl) rfl rfl ?_
  refine aA (aI 0 dO rfl) rfl rfl ?_
  refine aA (aV 0 (.int _ _) aZ M4 rfl rfl rfl) rfl rfl ?_
  refine aA (fG rfl rfl (iP _ (by omega) (by omega))) rfl rfl ?_
  refine aA (aI 6 eK rfl) rfl rfl ?_
  refine aA (aI 1 dJ rfl) rfl rfl ?_
  refine aA (aV 0 (.int _ _) aZ M4 rfl rfl rfl) rfl rfl ?_
  refine aA (aI 2 jE rfl) rfl rfl ?_
  refine aA (aI 1 dJ rfl) rfl rfl ?_
  refine aA (aV 0 (.int _ _) aZ M4 rfl rfl rfl) rfl rfl ?_
  refine aA (fG rfl rfl (iP _ (by omega) (by omega))) rfl rfl ?_
  refine aA (cI [(0, .int _ _), (1, .int _ _)] _ eI rfl rfl) rfl rfl ?_
  refine bL 2 _ bJ M4 rfl rfl rfl rfl rfl (aW rfl) rfl (fun w5 M5 => ?_)
  refine aD (aF (aH ?_))
  refine bP [(0, 1), (1, 1), (2, 2), (3, 2)] mixed rfl (by kernel_rfl) (fun w6 hb6 hh6 => ?_)
  have M6 := M5.drew hb6 hh6
  refine cD rfl rfl rfl (bE 1 bJ M6 rfl rfl rfl) ?_
  refine cD rfl rfl rfl (bE 2 bJ M6 rfl rfl rfl) ?_
  refine dM [false, true] rfl (by kernel_rfl) ?_
  refine bL 1 _ bJ M6 rfl rfl rfl rfl rfl (aW rfl) rfl (fun w7 M7 => ?_)
  refine aD (aF ⟨(iQ (cU rfl (bE 2 bJ M7 rfl rfl rfl)) cX), ?_⟩)
  refine dM [true] rfl (by kernel_rfl) ?_
  refine bL 2 _ bJ M7 rfl rfl rfl rfl rfl (aW rfl) rfl (fun w8 M8 => ?_)
  refine aD (aF ⟨cX, ?_⟩)
  refine cB ?_
  refine aF (aS ?_)
  refine aIb 1 2 bJ M8 rfl rfl rfl rfl rfl rfl ?_
  exact ⟨rfl, M8.below⟩
set_option maxHeartbeats 4000000 in
theorem aCd (w : World) (p q c : Pt) (h : SgI p q) (hc : PtI c) :
    Calls Tryz.prog 244 #[(.agg (cE p).toArray), (.agg (cE q).toArray), (.agg (cE c).toArray)] w (fun ex w' => ∃ v, ex = .returned v ∧ (fun v w' => v = .tuple #[.int .i64 (mZ p q c), .int .i64 (kK p q)] ∧ Below w.heap.size w w') v w') := by
  have hD := pV h
  have hx := aLe h hc
  refine aK #[.tmp 6, .tmp 7] 42 Tryz.func244 rfl Tryz.results244 Tryz.ntmps244 rfl ?_
  have M0 := Mem.refl w
  refine aH (aB ?_)
  refine bM (.agg (List.toArray _)) M0 rfl rfl rfl (fun b1 w1 M1 => ?_)
  refine bM (.agg (List.toArray _)) M1 rfl rfl rfl (fun b2 w2 M2 => ?_)
  refine bM (.agg (List.toArray _)) M2 rfl rfl rfl (fun b3 w3 M3 => ?_)
  refine aA (aE (.int _ _) rfl) rfl rfl ?_
  refine aA (aE (.int _ _) rfl) rfl rfl ?_
  refine aD (aF (aH (aB ?_)))
  refine aA (bE 0 bJ M3 rfl rfl rfl) rfl rfl ?_
  refine aA (bE 1 bJ M3 rfl rfl rfl) rfl rfl ?_
  refine aL vS rfl rfl rfl ?_
  refine (nN _ p q h.hp.i32 h.hq.i32).mono ?_
  rintro _ w4 ⟨v4, rfl, ⟨rfl, hb4⟩⟩
  refine ⟨_, rfl, ?_⟩
  have M4 := M3.callB hb4
  refine aA (aC (.tuple (List.toArray _)) rfl) rfl rfl ?_
  refine aA (bB (.int _ _) rfl rfl) rfl rfl ?_
  refine aA (bB (.int _ _) rfl rfl) rfl rfl ?_
  refine aA (aE (.int _ _) rfl) rfl rfl ?_
  refine aA (aE (.int _ _) rfl) rfl rfl ?_
  refine aD (aF (aH (aB ?_)))
  refine aA (bE 0 bJ M4 rfl rfl rfl) rfl rfl ?_
  refine aA (bE 2 bJ M4 rfl rfl rfl) rfl rfl ?_
  refine aL vS rfl rfl rfl ?_
  refine (nN _ p c h.hp.i32 hc.i32).mono ?_
  rintro _ w5 ⟨v5, rfl, ⟨rfl, hb5⟩⟩
  refine ⟨_, rfl, ?_⟩
  have M5 := M4.callB hb5
  refine aA (aC (.tuple (List.toArray _)) rfl) rfl rfl ?_
  refine aA (bB (.int _ _) rfl rfl) rfl rfl ?_
  refine aA (bB (.int _ _) rfl rfl) rfl rfl ?_
  refine aA (aE (.int _ _) rfl) rfl rfl ?_
  refine aA (aE (.int _ _) rfl) rfl rfl ?_
  refine aD (aF (aH (aB ?_)))
  refine aA (aC (.int _ _) rfl) rfl rfl ?_
  refine aA (aC (.int _ _) rfl) rfl rfl ?_
  refine aA (lD rfl rfl (by omega) (by omega)) rfl rfl ?_
  refine aA (aC (.int _ _) rfl) rfl rfl ?_
  refine aA (aC (.int _ _) rfl) rfl rfl ?_
  refine aA (lD rfl rfl (by omega) (by omega)) rfl rfl ?_
  refine aA (bS rfl rfl (by omega) (by omega)) rfl rfl ?_
  refine aQ 30 (.int .i64 (kK p q)) rfl ?_
  refine aA (aE (.int _ _) rfl) rfl rfl ?_
  refine aD (aF (aH (aB ?_)))
  refine aA (aC (.int _ _) rfl) rfl rfl ?_
  refine aA (aC (.int _ _) rfl) rfl rfl ?_
  refine aA (lD rfl rfl (by omega) (by omega)) rfl rfl ?_
  refine aA (aC (.int _ _) rfl) rfl rfl ?_
  refine aA (aC (.int _ _) rfl) rfl rfl ?_
  refine aA (lD rfl rfl (by omega) (by omega)) rfl rfl ?_
  refine aA (bS rfl rfl (by omega) (by omega)) rfl rfl ?_
  refine aA (aC (.int _ _) rfl) rfl rfl ?_
  refine aA (wC rfl rfl ) rfl rfl ?_
  refine aA (lL rfl rfl ) rfl rfl ?_
  refine aA (aC (.int _ _) rfl) rfl rfl ?_
  refine aA (aE (.int _ _) rfl) rfl rfl ?_
  refine aA (aE (.int _ _) rfl) rfl rfl ?_
  refine aD (aF (aS ?_))
  refine fV (.int _ _) (.int _ _) rfl rfl ?_
  exact ⟨rfl, M5.below⟩
set_option maxHeartbeats 4000000 in
theorem yW (w : World) (f a n d : Int) (bn bd : Nat) (ha : -16777216 ≤ a ∧ a ≤ 16777216) (hn : 0 ≤ n) (hnd : n ≤ d) (hd0 : 0 < d) (hd : d ≤ 562949953421312) (h1 : -16777216 ≤ a * n / d ∧ a * n / d ≤ 16777216) (h2 : -1082130432 ≤ f + a * n / d ∧ f + a * n / d ≤ 1082130432) (K1 : Rd w 1 (some ⟨bn, 0, none⟩) 1 [[.int .i64 n]]) (K2 : Rd w 1 (some ⟨bd, 0, none⟩) 1 [[.int .i64 d]]) :
    Calls Tryz.prog 245 #[.int .i32 f, .int .i64 a, .pointer (some ⟨bn, 0, none⟩), .pointer (some ⟨bd, 0, none⟩)] w (fun ex w' => ∃ v, ex = .returned v ∧ (fun v w' => v = .int .i32 (f + a * n / d) ∧ Below w.heap.size w w') v w') := by
  rw [← gB bn, ← gB bd]
  refine aK #[.tmp 6] 20 Tryz.func245 rfl Tryz.results245 Tryz.ntmps245 rfl ?_
  have M0 := Mem.refl w
  refine aH (aB ?_)
  refine aA (aE (.int _ _) rfl) rfl rfl ?_
  refine aD (aF (aH (aB ?_)))
  refine aA (aC (.int _ _) rfl) rfl rfl ?_
  refine aA (fB (o := 0) (.int _ _) jZ (K1.mem M0) (show ([[.int .i64 n]] : List (List Value))[0]? = some [.int .i64 n] from rfl) rfl rfl) rfl rfl ?_
  refine aA (fB (o := 0) (.int _ _) jZ (K2.mem M0) (show ([[.int .i64 d]] : List (List Value))[0]? = some [.int .i64 d] from rfl) rfl rfl) rfl rfl ?_
  refine aL aAv rfl rfl rfl ?_
  refine (aUh _ a n d (by omega) hn hnd hd0 (by omega)).mono ?_
  rintro _ w1 ⟨v1, rfl, ⟨rfl, hb1⟩⟩
  refine ⟨_, rfl, ?_⟩
  have M1 := M0.callB hb1
  refine aA (aC (.tuple (List.toArray _)) rfl) rfl rfl ?_
  refine aA (bB (.int _ _) rfl rfl) rfl rfl ?_
  refine aA (bB (.int _ _) rfl rfl) rfl rfl ?_
  refine aA (aE (.int _ _) rfl) rfl rfl ?_
  refine aA (aE (.int _ _) rfl) rfl rfl ?_
  refine aD (aF (aH (aB ?_)))
  refine aA (aC (.int _ _) rfl) rfl rfl ?_
  refine aA (aC (.int _ _) rfl) rfl rfl ?_
  refine aA (bW us2 Tryz.underlying21 rfl (iP _ (by omega) (by omega))) rfl rfl ?_
  refine aA (fG rfl rfl (iP _ (by omega) (by omega))) rfl rfl ?_
  refine aA (aE (.int _ _) rfl) rfl rfl ?_
  refine aD (aF (aS ?_))
  refine cG (.int _ _) rfl ?_
  exact ⟨rfl, M1.below⟩
set_option maxHeartbeats 4000000 in
theorem jC (w : World) (p q c : Pt) (h : SgI p q) (hc : PtI c) :
    Calls Tryz.prog 239 #[(.agg (cE p).toArray), (.agg (cE q).toArray), (.agg (cE c).toArray)] w (fun ex w' => ∃ v, ex = .returned v ∧ (fun v w' => v = (.agg (cE (dN p q c)).toArray) ∧ Below w.heap.size w w') v w') := by
  have hD := pV h
  have hn := aDj (c := c) h
  have hx := h.x
  have hy := h.y
  refine aK #[.cell 6 38] 40 Tryz.func239 rfl Tryz.results239 Tryz.ntmps239 rfl ?_
  have M0 := Mem.refl w
  refine aH (aB ?_)
  refine bM (.agg (List.toArray _)) M0 rfl rfl rfl (fun b1 w1 M1 => ?_)
  refine bM (.agg (List.toArray _)) M1 rfl rfl rfl (fun b2 w2 M2 => ?_)
  refine bM (.agg (List.toArray _)) M2 rfl rfl rfl (fun b3 w3 M3 => ?_)
  refine aU gL M3 rfl rfl (fun b4 w4 M4 => ?_)
  refine aD (aF (aH (aB ?_)))
  refine aA (bE 0 bJ M4 rfl rfl rfl) rfl rfl ?_
  refine aA (bE 1 bJ M4 rfl rfl rfl) rfl rfl ?_
  refine aA (bE 2 bJ M4 rfl rfl rfl) rfl rfl ?_
  refine aL aWq rfl rfl rfl ?_
  refine (aCd _ p q c h hc).mono ?_
  rintro _ w5 ⟨v5, rfl, ⟨rfl, hb5⟩⟩
  refine ⟨_, rfl, ?_⟩
  have M5 := M4.callB hb5
  refine aA (aC (.tuple (List.toArray _)) rfl) rfl rfl ?_
  refine aA (bB (.int _ _) rfl rfl) rfl rfl ?_
  refine aA (bB (.int _ _) rfl rfl) rfl rfl ?_
  refine aU vC M5 rfl rfl (fun b6 w6 M6 => ?_)
  refine aU vC M6 rfl rfl (fun b7 w7 M7 => ?_)
  refine eL 4 (.int _ _) jZ M7 rfl rfl rfl rfl rfl rfl (fun w8 M8 => ?_)
  refine eL 5 (.int _ _) jZ M8 rfl rfl rfl rfl rfl rfl (fun w9 M9 => ?_)
  refine aD (aF (aH (aH (aB ?_))))
  refine aA (aV 5 (.int _ _) jZ M9 rfl rfl rfl) rfl rfl ?_
  refine aA (aO (.bool (decide _)) rfl rfl rfl) rfl rfl ?_
  refine aD (aF ?_)
  refine aY rfl (fun h20 => ?_) (fun h20 => ?_)
  · refine aH (aB ?_)
    refine aA (bE 0 bJ M9 rfl rfl rfl) rfl rfl ?_
    refine bL 3 _ bJ M9 rfl rfl rfl rfl rfl (aW rfl) rfl (fun w10 M10 => ?_)
    refine aD (aF (aS (cN ?_)))
    refine kC 3 bJ M10 rfl rfl rfl ?_
    exact ⟨by unfold dN; first | (rw [if_pos h20]; rfl) | (rw [if_neg h20]; rfl), M10.below⟩
  · have hnr := aBz (c := c) h h20
    refine aP (aF (aH (aB ?_)))
    refine aA (dL [] [.pointer _, .pointer _] rfl rfl) rfl rfl ?_
    refine aA (aE (.func _ _ _) rfl) rfl rfl ?_
    refine aD (aF (aH (aB ?_)))
    refine aA (bE 0 bJ M9 rfl rfl rfl) rfl rfl ?_
    refine aA (bE 1 bJ M9 rfl rfl rfl) rfl rfl ?_
    refine aL vS rfl rfl rfl ?_
    refine (nN _ p q h.hp.i32 h.hq.i32).mono ?_
    rintro _ w11 ⟨v11, rfl, ⟨rfl, hb11⟩⟩
    refine ⟨_, rfl, ?_⟩
    have M11 := M9.callB hb11
    refine aA (aC (.tuple (List.toArray _)) rfl) rfl rfl ?_
    refine aA (bB (.int _ _) rfl rfl) rfl rfl ?_
    refine aA (bB (.int _ _) rfl rfl) rfl rfl ?_
    refine aA (aE (.int _ _) rfl) rfl rfl ?_
    refine aA (aE (.int _ _) rfl) rfl rfl ?_
    refine aD (aF (aH ?_))
    refine bP [(0, 0), (1, 0), (2, 1), (3, 0), (5, 0), (6, 0), (7, 1), (8, 0), (4, 2), (9, 2), (10, 0), (11, 2)] mixed rfl (by kernel_rfl) (fun w12 hb12 hh12 => ?_)
    have M12 := M11.drew hb12 hh12
    refine aR rfl rfl rfl (fun _ => aC (.func _ _ _) rfl) ?_
    refine aR rfl rfl rfl (fun _ => aI 0 dO rfl) ?_
    refine cD rfl rfl rfl (aV 0 (.int _ _) aZ M12 rfl rfl rfl) ?_
    refine aR rfl rfl rfl (fun _ => aC (.int _ _) rfl) ?_
    refine aR rfl rfl rfl (fun _ => aC (.func _ _ _) rfl) ?_
    refine aR rfl rfl rfl (fun _ => aI 1 dJ rfl) ?_
    refine cD rfl rfl rfl (aV 0 (.int _ _) aZ M12 rfl rfl rfl) ?_
    refine aR rfl rfl rfl (fun _ => aC (.int _ _) rfl) ?_
    refine dM [false, true] rfl (by kernel_rfl) ?_
    refine aL aNw rfl rfl rfl ?_
    refine (yW _ p.1 (q.1 - p.1) (mZ p q c) (kK p q) b6 b7 (by omega) hn.1 hn.2 (by omega) (by omega) hnr.1.1 hnr.1.2 (oN 4 M12 rfl rfl) (oN 5 M12 rfl rfl)).mono ?_
    rintro _ w13 ⟨v13, rfl, ⟨rfl, hb13⟩⟩
    refine ⟨_, rfl, ?_⟩
    have M13 := M12.callB hb13
    refine aD (aF ⟨(iQ (cU rfl (aV 0 (.int _ _) aZ M13 rfl rfl rfl)) cX), ?_⟩)
    refine dM [true] rfl (by kernel_rfl) ?_
    refine aL aNw rfl rfl rfl ?_
    refine (yW _ p.2 (q.2 - p.2) (mZ p q c) (kK p q) b6 b7 (by omega) hn.1 hn.2 (by omega) (by omega) hnr.2.1 hnr.2.2 (oN 4 M13 rfl rfl) (oN 5 M13 rfl rfl)).mono ?_
    rintro _ w14 ⟨v14, rfl, ⟨rfl, hb14⟩⟩
    refine ⟨_, rfl, ?_⟩
    have M14 := M13.callB hb14
    refine aD (aF ⟨cX, ?_⟩)
    refine aR rfl rfl rfl (fun _ => cI [(0, .int _ _), (1, .int _ _)] _ eI rfl rfl) ?_
    refine dM [] rfl (by kernel_rfl) ?_
    refine bL 3 _ bJ M14 rfl rfl rfl rfl rfl (aW rfl) rfl (fun w15 M15 => ?_)
    refine aD (aF ⟨cX, ?_⟩)
    refine cB ?_
    refine aF (aS ?_)
    refine kC 3 bJ M15 rfl rfl rfl ?_
    exact ⟨by unfold dN; first | (rw [if_pos h20]; rfl) | (rw [if_neg h20]; rfl), M15.below⟩
end Go.Proofs.YtlmcphcgiclanaaGreatDoor

namespace Go.Proofs.YtlmcphcgiclanaaGreatDoor
open Go.Bil
open Go.RowKit (Below)
open Go.Proofs
end Go.Proofs.YtlmcphcgiclanaaGreatDoor

namespace Go.Proofs.YtlmcphcgiclanaaGreatDoor
open Go.Bil
open Go.RowKit (Below)
open Go.Proofs
end Go.Proofs.YtlmcphcgiclanaaGreatDoor

namespace Go.Proofs.YtlmcphcgiclanaaGreatDoor
open Go.Bil
open Go.RowKit (Below)
open Go.Proofs
set_option maxHeartbeats 4000000 in
theorem tB (w : World) (s : Ch) (x y : Pt) (ba bb bl : Nat) (hx : PtI x) (hy : PtI y) (hO : Own [(some ba, bc (cE s.1) 38), (some bb, bc (cE s.2.1) 38), (some bl, bc [.int .u64 (s.2.2 : Int)] 170)] w) :
    Calls Tryz.prog 238 #[(.agg (cE x).toArray), (.agg (cE y).toArray), .pointer (some ⟨bl, 0, none⟩), .pointer (some ⟨ba, 0, none⟩), .pointer (some ⟨bb, 0, none⟩)] w (fun ex w' => ∃ v, ex = .returned v ∧ (fun v w' => v = .tuple #[] ∧ Mem w (bZ [(some ba, bc (cE s.1) 38), (some bb, bc (cE s.2.1) 38), (some bl, bc [.int .u64 (s.2.2 : Int)] 170)]) [(some ba, bc (cE (fA s x y).1) 38), (some bb, bc (cE (fA s x y).2.1) 38), (some bl, bc [.int .u64 ((fA s x y).2.2 : Int)] 170)] w') v w') := by
  refine aK #[] 20 Tryz.func238 rfl Tryz.results238 Tryz.ntmps238 rfl ?_
  have M0 := hO.mem
  refine aH (aB ?_)
  refine bM (.agg (List.toArray _)) M0 rfl rfl rfl (fun b1 w1 M1 => ?_)
  refine bM (.agg (List.toArray _)) M1 rfl rfl rfl (fun b2 w2 M2 => ?_)
  refine aD (aF (aH (aB ?_)))
  refine aA (bE 3 bJ M2 rfl rfl rfl) rfl rfl ?_
  refine aA (bE 4 bJ M2 rfl rfl rfl) rfl rfl ?_
  refine aL vS rfl rfl rfl ?_
  refine (nN _ x y hx.i32 hy.i32).mono ?_
  rintro _ w3 ⟨v3, rfl, ⟨rfl, hb3⟩⟩
  refine ⟨_, rfl, ?_⟩
  have M3 := M2.callB hb3
  refine aA (bB (.int _ _) rfl rfl) rfl rfl ?_
  refine aA (bB (.int _ _) rfl rfl) rfl rfl ?_
  refine aL aGc rfl rfl rfl ?_
  refine (mN _ (y.1 - x.1) (y.2 - x.2) (hx.inX hy) (hx.inY hy)).mono ?_
  rintro _ w4 ⟨v4, rfl, ⟨rfl, hb4⟩⟩
  refine ⟨_, rfl, ?_⟩
  have M4 := M3.callB hb4
  refine aA (aE (.int _ _) rfl) rfl rfl ?_
  refine aD (aF (aH (aB ?_)))
  refine aA (aC (.int _ _) rfl) rfl rfl ?_
  refine aA (aV 2 (.int _ _) nK M4 rfl rfl rfl) rfl rfl ?_
  refine aA (aO (.bool (decide _)) rfl rfl rfl) rfl rfl ?_
  refine aD (aF ?_)
  refine aY rfl (fun h16 => ?_) (fun h16 => ?_)
  · refine bP [(0, 1), (1, 1), (2, 0), (3, 2), (4, 2), (5, 2)] mixed rfl (by kernel_rfl) (fun w5 hb5 hh5 => ?_)
    have M5 := M4.drew hb5 hh5
    refine cD rfl rfl rfl (bE 3 bJ M5 rfl rfl rfl) ?_
    refine cD rfl rfl rfl (bE 4 bJ M5 rfl rfl rfl) ?_
    refine aR rfl rfl rfl (fun _ => aC (.int _ _) rfl) ?_
    refine dM [false, true] rfl (by kernel_rfl) ?_
    refine bL 0 _ bJ M5 rfl rfl rfl rfl rfl (aW rfl) rfl (fun w6 M6 => ?_)
    refine aD (aF ⟨(iQ (cU rfl (bE 4 bJ M6 rfl rfl rfl)) cX), ?_⟩)
    refine dM [true] rfl (by kernel_rfl) ?_
    refine bL 1 _ bJ M6 rfl rfl rfl rfl rfl (aW rfl) rfl (fun w7 M7 => ?_)
    refine aD (aF ⟨cX, ?_⟩)
    refine dM [] rfl (by kernel_rfl) ?_
    refine eL 2 (.int _ _) nK M7 rfl rfl rfl rfl rfl rfl (fun w8 M8 => ?_)
    refine aD (aF ⟨cX, ?_⟩)
    refine cB ?_
    refine iC ?_
    exact ⟨rfl, by unfold fA; first | (rw [if_pos (by omega)]; exact M8.keep [true, true, true, false, false]) | (rw [if_neg (by omega)]; exact M8.keep [true, true, true, false, false])⟩
  · refine aP ?_
    refine iC ?_
    exact ⟨rfl, by unfold fA; first | (rw [if_pos (by omega)]; exact M4.keep [true, true, true, false, false]) | (rw [if_neg (by omega)]; exact M4.keep [true, true, true, false, false])⟩
set_option maxHeartbeats 8000000 in
theorem aEx (w : World) (ap aq bp bq : Pt) (h1 : SgI ap aq) (h2 : SgI bp bq) :
    Calls Tryz.prog 221 #[(.agg (cE ap).toArray), (.agg (cE aq).toArray), (.agg (cE bp).toArray), (.agg (cE bq).toArray)] w (fun ex w' => ∃ v, ex = .returned v ∧ (fun v w' => v = .tuple #[(.agg (cE (nL ap aq bp bq).1).toArray), (.agg (cE (nL ap aq bp bq).2.1).toArray), .int .u64 ((nL ap aq bp bq).2.2 : Int)] ∧ Below w.heap.size w w') v w') := by
  refine aK #[.cell 8 38, .cell 9 38, .cell 10 170] 48 Tryz.func221 rfl Tryz.results221 Tryz.ntmps221 rfl ?_
  have M0 := Mem.refl w
  refine aH (aB ?_)
  refine bM (.agg (List.toArray _)) M0 rfl rfl rfl (fun b1 w1 M1 => ?_)
  refine bM (.agg (List.toArray _)) M1 rfl rfl rfl (fun b2 w2 M2 => ?_)
  refine bM (.agg (List.toArray _)) M2 rfl rfl rfl (fun b3 w3 M3 => ?_)
  refine bM (.agg (List.toArray _)) M3 rfl rfl rfl (fun b4 w4 M4 => ?_)
  refine aU gL M4 rfl rfl (fun b5 w5 M5 => ?_)
  refine aU gL M5 rfl rfl (fun b6 w6 M6 => ?_)
  refine aU aSd M6 rfl rfl (fun b7 w7 M7 => ?_)
  refine aD (aF (aH (aB ?_)))
  refine eL 6 (.int _ _) nK M7 rfl rfl rfl rfl rfl rfl (fun w8 M8 => ?_)
  refine aD (aF (aH (aB ?_)))
  obtain ⟨s, hS⟩ : ∃ z, z = ch0 := ⟨_, rfl⟩
  have hC : ChI s := by rw [hS]; exact aLh
  have M9 : Mem _ _ [_, _, _, _, (some b5, bc (cE ch0.1) 38), (some b6, bc (cE ch0.2.1) 38), (some b7, bc [.int .u64 (ch0.2.2 : Int)] 170)] _ := M8
  rw [← hS] at M9
  refine aA (dL [] [.pointer _, .pointer _, .pointer _] rfl rfl) rfl rfl ?_
  refine aA (aE (.func _ _ _) rfl) rfl rfl ?_
  refine aD (aF (aH (aH (aB ?_))))
  refine aA (bE 0 bJ M9 rfl rfl rfl) rfl rfl ?_
  refine aA (bE 1 bJ M9 rfl rfl rfl) rfl rfl ?_
  refine aA (uQ [.agg (List.toArray _), .agg (List.toArray _)] rU aHr rfl rfl (cO rfl)) rfl rfl ?_
  refine aA (aC (.int _ _) rfl) rfl rfl ?_
  refine aD (aF (bC ?_))
  refine nO 3 (nI ?_)
  refine aH (aB ?_)
  refine aA (aO (.bool (decide _)) rfl rfl rfl) rfl rfl ?_
  refine aQ 21 (.bool true) (bT (by first | decide | omega)).symm ?_
  refine aD (aF (aH ?_))
  refine dS rfl ?_
  refine aP (aF (aH (bC (aH (aB ?_)))))
  refine aA (aAo 0 _ rU bJ rfl rfl (by decide) (by decide) rfl rfl) rfl rfl ?_
  refine aU gL M9 rfl rfl (fun b10 w10 M10 => ?_)
  refine bL 7 _ bJ M10 rfl rfl rfl rfl rfl (aW rfl) rfl (fun w11 M11 => ?_)
  refine aD (aF ?_)
  refine bP [(0, 0), (1, 1), (2, 1), (3, 1), (4, 1), (5, 2), (6, 2)] mixed rfl (by kernel_rfl) (fun w12 hb12 hh12 => ?_)
  have M12 := M11.drew hb12 hh12
  refine aR rfl rfl rfl (fun _ => aC (.func _ _ _) rfl) ?_
  refine cD rfl rfl rfl (bE 7 bJ M12 rfl rfl rfl) ?_
  refine cD rfl rfl rfl (bE 2 bJ M12 rfl rfl rfl) ?_
  refine cD rfl rfl rfl (bE 3 bJ M12 rfl rfl rfl) ?_
  refine cD rfl rfl rfl (bE 7 bJ M12 rfl rfl rfl) ?_
  refine dM [true, true, true, false] rfl (by kernel_rfl) ?_
  refine aL aAx rfl rfl rfl ?_
  refine (jC _ bp bq ap h2 h1.hp).mono ?_
  rintro _ w13 ⟨v13, rfl, ⟨rfl, hb13⟩⟩
  refine ⟨_, rfl, ?_⟩
  have M13 := M12.callB hb13
  refine aD (aF ⟨(iQ (cU rfl (bE 7 bJ M13 rfl rfl rfl)) cX), ?_⟩)
  refine dM [true] rfl (by kernel_rfl) ?_
  refine aL zJ rfl rfl rfl ?_
  refine (tB _ s ap (dN bp bq ap) _ _ _ h1.hp (eH h2) (M13.ownSeg 4 3)).mono ?_
  rintro _ w14 ⟨v14, rfl, ⟨rfl, hM14⟩⟩
  refine ⟨_, rfl, ?_⟩
  have M14 : Mem _ _ [_, _, _, _, _, _, _, _] _ := M13.seg 4 3 hM14
  obtain ⟨s, hs⟩ : ∃ z, z = fA s ap (dN bp bq ap) := ⟨_, rfl⟩
  rw [← hs] at M14
  replace hC := hC.step (x := ap) (y := (dN bp bq ap)) h1.hp (eH h2)
  rw [← hs] at hC
  replace hS := hs.trans (congrArg (fun z => fA z ap (dN bp bq ap)) hS)
  refine aD (aF ⟨cX, ?_⟩)
  refine cB ?_
  refine dU ?_
  refine aF (aB ?_)
  refine aA (bS rfl rfl (by first | decide | omega) (by first | decide | omega)) rfl rfl ?_
  refine aQ 30 (.int .i64 1) (iE (by first | decide | omega)) ?_
  refine aA (aC (.int _ _) rfl) rfl rfl ?_
  refine aD ?_
  refine aF (nI ?_)
  refine aH (aB ?_)
  refine aA (aO (.bool (decide _)) rfl rfl rfl) rfl rfl ?_
  refine aQ 21 (.bool true) (bT (by first | decide | omega)).symm ?_
  refine aD (aF (aH ?_))
  refine dS rfl ?_
  refine aP (aF (aH (bC (aH (aB ?_)))))
  refine aA (aAo 1 _ rU bJ rfl rfl (by decide) (by decide) rfl rfl) rfl rfl ?_
  refine aU gL M14 rfl rfl (fun b15 w15 M15 => ?_)
  refine bL 8 _ bJ M15 rfl rfl rfl rfl rfl (aW rfl) rfl (fun w16 M16 => ?_)
  refine aD (aF ?_)
  refine bP [(0, 0), (1, 1), (2, 1), (3, 1), (4, 1), (5, 2), (6, 2)] mixed rfl (by kernel_rfl) (fun w17 hb17 hh17 => ?_)
  have M17 := M16.drew hb17 hh17
  refine aR rfl rfl rfl (fun _ => aC (.func _ _ _) rfl) ?_
  refine cD rfl rfl rfl (bE 8 bJ M17 rfl rfl rfl) ?_
  refine cD rfl rfl rfl (bE 2 bJ M17 rfl rfl rfl) ?_
  refine cD rfl rfl rfl (bE 3 bJ M17 rfl rfl rfl) ?_
  refine cD rfl rfl rfl (bE 8 bJ M17 rfl rfl rfl) ?_
  refine dM [true, true, true, false] rfl (by kernel_rfl) ?_
  refine aL aAx rfl rfl rfl ?_
  refine (jC _ bp bq aq h2 h1.hq).mono ?_
  rintro _ w18 ⟨v18, rfl, ⟨rfl, hb18⟩⟩
  refine ⟨_, rfl, ?_⟩
  have M18 := M17.callB hb18
  refine aD (aF ⟨(iQ (cU rfl (bE 8 bJ M18 rfl rfl rfl)) cX), ?_⟩)
  refine dM [true] rfl (by kernel_rfl) ?_
  refine aL zJ rfl rfl rfl ?_
  refine (tB _ s aq (dN bp bq aq) _ _ _ h1.hq (eH h2) (M18.ownSeg 4 3)).mono ?_
  rintro _ w19 ⟨v19, rfl, ⟨rfl, hM19⟩⟩
  refine ⟨_, rfl, ?_⟩
  have M19 : Mem _ _ [_, _, _, _, _, _, _, _, _] _ := M18.seg 4 3 hM19
  obtain ⟨s, hs⟩ : ∃ z, z = fA s aq (dN bp bq aq) := ⟨_, rfl⟩
  rw [← hs] at M19
  replace hC := hC.step (x := aq) (y := (dN bp bq aq)) h1.hq (eH h2)
  rw [← hs] at hC
  replace hS := hs.trans (congrArg (fun z => fA z aq (dN bp bq aq)) hS)
  refine aD (aF ⟨cX, ?_⟩)
  refine cB ?_
  refine dU ?_
  refine aF (aB ?_)
  refine aA (bS rfl rfl (by first | decide | omega) (by first | decide | omega)) rfl rfl ?_
  refine aQ 30 (.int .i64 2) (iE (by first | decide | omega)) ?_
  refine aA (aC (.int _ _) rfl) rfl rfl ?_
  refine aD ?_
  refine aF (nI ?_)
  refine aH (aB ?_)
  refine aA (aO (.bool (decide _)) rfl rfl rfl) rfl rfl ?_
  refine aQ 21 (.bool false) (bF (by first | decide | omega)).symm ?_
  refine aD (aF (aH ?_))
  refine cJ rfl ?_
  refine cR ?_
  refine dK (dK ?_)
  refine fC ?_
  refine aF (aH (aH (aB ?_)))
  refine aA (bE 2 bJ M19 rfl rfl rfl) rfl rfl ?_
  refine aA (bE 3 bJ M19 rfl rfl rfl) rfl rfl ?_
  refine aA (uQ [.agg (List.toArray _), .agg (List.toArray _)] rU aHr rfl rfl (cO rfl)) rfl rfl ?_
  refine aA (aC (.int _ _) rfl) rfl rfl ?_
  refine aD (aF (bC ?_))
  refine nO 3 (nI ?_)
  refine aH (aB ?_)
  refine aA (aO (.bool (decide _)) rfl rfl rfl) rfl rfl ?_
  refine aQ 35 (.bool true) (bT (by first | decide | omega)).symm ?_
  refine aD (aF (aH ?_))
  refine dS rfl ?_
  refine aP (aF (aH (bC (aH (aB ?_)))))
  refine aA (aAo 0 _ rU bJ rfl rfl (by decide) (by decide) rfl rfl) rfl rfl ?_
  refine aU gL M19 rfl rfl (fun b20 w20 M20 => ?_)
  refine bL 9 _ bJ M20 rfl rfl rfl rfl rfl (aW rfl) rfl (fun w21 M21 => ?_)
  refine aD (aF ?_)
  refine bP [(0, 0), (1, 1), (2, 1), (3, 1), (5, 1), (4, 2), (6, 2)] mixed rfl (by kernel_rfl) (fun w22 hb22 hh22 => ?_)
  have M22 := M21.drew hb22 hh22
  refine aR rfl rfl rfl (fun _ => aC (.func _ _ _) rfl) ?_
  refine cD rfl rfl rfl (bE 0 bJ M22 rfl rfl rfl) ?_
  refine cD rfl rfl rfl (bE 1 bJ M22 rfl rfl rfl) ?_
  refine cD rfl rfl rfl (bE 9 bJ M22 rfl rfl rfl) ?_
  refine cD rfl rfl rfl (bE 9 bJ M22 rfl rfl rfl) ?_
  refine dM [false, true, true, true] rfl (by kernel_rfl) ?_
  refine aL aAx rfl rfl rfl ?_
  refine (jC _ ap aq bp h1 h2.hp).mono ?_
  rintro _ w23 ⟨v23, rfl, ⟨rfl, hb23⟩⟩
  refine ⟨_, rfl, ?_⟩
  have M23 := M22.callB hb23
  refine aD (aF ⟨(iQ (cU rfl (bE 9 bJ M23 rfl rfl rfl)) cX), ?_⟩)
  refine dM [true] rfl (by kernel_rfl) ?_
  refine aL zJ rfl rfl rfl ?_
  refine (tB _ s (dN ap aq bp) bp _ _ _ (eH h1) h2.hp (M23.ownSeg 4 3)).mono ?_
  rintro _ w24 ⟨v24, rfl, ⟨rfl, hM24⟩⟩
  refine ⟨_, rfl, ?_⟩
  have M24 : Mem _ _ [_, _, _, _, _, _, _, _, _, _] _ := M23.seg 4 3 hM24
  obtain ⟨s, hs⟩ : ∃ z, z = fA s (dN ap aq bp) bp := ⟨_, rfl⟩
  rw [← hs] at M24
  replace hC := hC.step (x := (dN ap aq bp)) (y := bp) (eH h1) h2.hp
  rw [← hs] at hC
  replace hS := hs.trans (congrArg (fun z => fA z (dN ap aq bp) bp) hS)
  refine aD (aF ⟨cX, ?_⟩)
  refine cB ?_
  refine dU ?_
  refine aF (aB ?_)
  refine aA (bS rfl rfl (by first | decide | omega) (by first | decide | omega)) rfl rfl ?_
  refine aQ 44 (.int .i64 1) (iE (by first | decide | omega)) ?_
  refine aA (aC (.int _ _) rfl) rfl rfl ?_
  refine aD ?_
  refine aF (nI ?_)
  refine aH (aB ?_)
  refine aA (aO (.bool (decide _)) rfl rfl rfl) rfl rfl ?_
  refine aQ 35 (.bool true) (bT (by first | decide | omega)).symm ?_
  refine aD (aF (aH ?_))
  refine dS rfl ?_
  refine aP (aF (aH (bC (aH (aB ?_)))))
  refine aA (aAo 1 _ rU bJ rfl rfl (by decide) (by decide) rfl rfl) rfl rfl ?_
  refine aU gL M24 rfl rfl (fun b25 w25 M25 => ?_)
  refine bL 10 _ bJ M25 rfl rfl rfl rfl rfl (aW rfl) rfl (fun w26 M26 => ?_)
  refine aD (aF ?_)
  refine bP [(0, 0), (1, 1), (2, 1), (3, 1), (5, 1), (4, 2), (6, 2)] mixed rfl (by kernel_rfl) (fun w27 hb27 hh27 => ?_)
  have M27 := M26.drew hb27 hh27
  refine aR rfl rfl rfl (fun _ => aC (.func _ _ _) rfl) ?_
  refine cD rfl rfl rfl (bE 0 bJ M27 rfl rfl rfl) ?_
  refine cD rfl rfl rfl (bE 1 bJ M27 rfl rfl rfl) ?_
  refine cD rfl rfl rfl (bE 10 bJ M27 rfl rfl rfl) ?_
  refine cD rfl rfl rfl (bE 10 bJ M27 rfl rfl rfl) ?_
  refine dM [false, true, true, true] rfl (by kernel_rfl) ?_
  refine aL aAx rfl rfl rfl ?_
  refine (jC _ ap aq bq h1 h2.hq).mono ?_
  rintro _ w28 ⟨v28, rfl, ⟨rfl, hb28⟩⟩
  refine ⟨_, rfl, ?_⟩
  have M28 := M27.callB hb28
  refine aD (aF ⟨(iQ (cU rfl (bE 10 bJ M28 rfl rfl rfl)) cX), ?_⟩)
  refine dM [true] rfl (by kernel_rfl) ?_
  refine aL zJ rfl rfl rfl ?_
  refine (tB _ s (dN ap aq bq) bq _ _ _ (eH h1) h2.hq (M28.ownSeg 4 3)).mono ?_
  rintro _ w29 ⟨v29, rfl, ⟨rfl, hM29⟩⟩
  refine ⟨_, rfl, ?_⟩
  have M29 : Mem _ _ [_, _, _, _, _, _, _, _, _, _, _] _ := M28.seg 4 3 hM29
  obtain ⟨s, hs⟩ : ∃ z, z = fA s (dN ap aq bq) bq := ⟨_, rfl⟩
  rw [← hs] at M29
  replace hC := hC.step (x := (dN ap aq bq)) (y := bq) (eH h1) h2.hq
  rw [← hs] at hC
  replace hS := hs.trans (congrArg (fun z => fA z (dN ap aq bq) bq) hS)
  refine aD (aF ⟨cX, ?_⟩)
  refine cB ?_
  refine dU ?_
  refine aF (aB ?_)
  refine aA (bS rfl rfl (by first | decide | omega) (by first | decide | omega)) rfl rfl ?_
  refine aQ 44 (.int .i64 2) (iE (by first | decide | omega)) ?_
  refine aA (aC (.int _ _) rfl) rfl rfl ?_
  refine aD ?_
  refine aF (nI ?_)
  refine aH (aB ?_)
  refine aA (aO (.bool (decide _)) rfl rfl rfl) rfl rfl ?_
  refine aQ 35 (.bool false) (bF (by first | decide | omega)).symm ?_
  refine aD (aF (aH ?_))
  refine cJ rfl ?_
  refine cR ?_
  refine dK (dK ?_)
  refine fC ?_
  refine aF (aH ?_)
  refine bP [(0, 1), (1, 1), (2, 1), (3, 2), (4, 2), (5, 2)] mixed rfl (by kernel_rfl) (fun w30 hb30 hh30 => ?_)
  have M30 := M29.drew hb30 hh30
  refine cD rfl rfl rfl (bE 4 bJ M30 rfl rfl rfl) ?_
  refine cD rfl rfl rfl (bE 5 bJ M30 rfl rfl rfl) ?_
  refine cD rfl rfl rfl (aV 6 (.int _ _) nK M30 rfl rfl rfl) ?_
  refine dM [false, false, true] rfl (by kernel_rfl) ?_
  refine bL 4 _ bJ M30 rfl rfl rfl rfl rfl (aW rfl) rfl (fun w31 M31 => ?_)
  refine aD (aF ⟨(iQ (cU rfl (aV 6 (.int _ _) nK M31 rfl rfl rfl)) (iQ (cU rfl (bE 5 bJ M31 rfl rfl rfl)) cX)), ?_⟩)
  refine dM [false, true] rfl (by kernel_rfl) ?_
  refine bL 5 _ bJ M31 rfl rfl rfl rfl rfl (aW rfl) rfl (fun w32 M32 => ?_)
  refine aD (aF ⟨(iQ (cU rfl (aV 6 (.int _ _) nK M32 rfl rfl rfl)) cX), ?_⟩)
  refine dM [true] rfl (by kernel_rfl) ?_
  refine eL 6 (.int _ _) nK M32 rfl rfl rfl rfl rfl rfl (fun w33 M33 => ?_)
  refine aD (aF ⟨cX, ?_⟩)
  refine cB ?_
  refine aF (aS ?_)
  refine aVh 4 5 6 bJ nK M33 rfl rfl rfl rfl rfl rfl rfl rfl ?_
  exact ⟨by rw [show s = nL ap aq bp bq from hS], M33.below⟩
set_option maxHeartbeats 4000000 in
theorem aEz (w : World) (ap aq bp bq : Pt) (h1 : SgI ap aq) (h2 : SgI bp bq) :
    Calls Tryz.prog 199 #[(.agg (cE ap).toArray), (.agg (cE aq).toArray), (.agg (cE bp).toArray), (.agg (cE bq).toArray)] w (fun ex w' => ∃ v, ex = .returned v ∧ (fun v w' => v = .tuple #[(.agg (cE (nL ap aq bp bq).1).toArray), (.agg (cE (nL ap aq bp bq).2.1).toArray)] ∧ Below w.heap.size w w') v w') := by
  refine aK #[.cell 8 38, .cell 9 38] 21 Tryz.func199 rfl Tryz.results199 Tryz.ntmps199 rfl ?_
  have M0 := Mem.refl w
  refine aH (aB ?_)
  refine bM (.agg (List.toArray _)) M0 rfl rfl rfl (fun b1 w1 M1 => ?_)
  refine bM (.agg (List.toArray _)) M1 rfl rfl rfl (fun b2 w2 M2 => ?_)
  refine bM (.agg (List.toArray _)) M2 rfl rfl rfl (fun b3 w3 M3 => ?_)
  refine bM (.agg (List.toArray _)) M3 rfl rfl rfl (fun b4 w4 M4 => ?_)
  refine aU gL M4 rfl rfl (fun b5 w5 M5 => ?_)
  refine aU gL M5 rfl rfl (fun b6 w6 M6 => ?_)
  refine aD (aF (aH (aB ?_)))
  refine aA (bE 0 bJ M6 rfl rfl rfl) rfl rfl ?_
  refine aA (bE 1 bJ M6 rfl rfl rfl) rfl rfl ?_
  refine aA (bE 2 bJ M6 rfl rfl rfl) rfl rfl ?_
  refine aA (bE 3 bJ M6 rfl rfl rfl) rfl rfl ?_
  refine aL aWm rfl rfl rfl ?_
  refine (aEx _ ap aq bp bq h1 h2).mono ?_
  rintro _ w7 ⟨v7, rfl, ⟨rfl, hb7⟩⟩
  refine ⟨_, rfl, ?_⟩
  have M7 := M6.callB hb7
  refine aA (aC (.tuple (List.toArray _)) rfl) rfl rfl ?_
  refine aA (bB (.agg (List.toArray _)) rfl rfl) rfl rfl ?_
  refine aA (bB (.agg (List.toArray _)) rfl rfl) rfl rfl ?_
  refine aA (bB (.int _ _) rfl rfl) rfl rfl ?_
  refine bL 4 _ bJ M7 rfl rfl rfl rfl rfl (aW rfl) rfl (fun w8 M8 => ?_)
  refine bL 5 _ bJ M8 rfl rfl rfl rfl rfl (aW rfl) rfl (fun w9 M9 => ?_)
  refine aD (aF (aH ?_))
  refine bP [(0, 1), (1, 1), (2, 2), (3, 2)] mixed rfl (by kernel_rfl) (fun w10 hb10 hh10 => ?_)
  have M10 := M9.drew hb10 hh10
  refine cD rfl rfl rfl (bE 4 bJ M10 rfl rfl rfl) ?_
  refine cD rfl rfl rfl (bE 5 bJ M10 rfl rfl rfl) ?_
  refine dM [false, true] rfl (by kernel_rfl) ?_
  refine bL 4 _ bJ M10 rfl rfl rfl rfl rfl (aW rfl) rfl (fun w11 M11 => ?_)
  refine aD (aF ⟨(iQ (cU rfl (bE 5 bJ M11 rfl rfl rfl)) cX), ?_⟩)
  refine dM [true] rfl (by kernel_rfl) ?_
  refine bL 5 _ bJ M11 rfl rfl rfl rfl rfl (aW rfl) rfl (fun w12 M12 => ?_)
  refine aD (aF ⟨cX, ?_⟩)
  refine cB ?_
  refine aF (aS ?_)
  refine aIb 4 5 bJ M12 rfl rfl rfl rfl rfl rfl ?_
  exact ⟨rfl, M12.below⟩
end Go.Proofs.YtlmcphcgiclanaaGreatDoor

namespace Go.Proofs.YtlmcphcgiclanaaGreatDoor
open Go.Bil
open Go.RowKit (Below)
open Go.Proofs
set_option maxHeartbeats 4000000 in
theorem tF (w : World) (b : Body) (hb : Okb b) :
    Calls Tryz.prog 198 #[(.agg (aG b).toArray)] w (fun ex w' => ∃ v, ex = .returned v ∧ (fun v w' => v = (.agg (jY b).toArray) ∧ Below w.heap.size w w') v w') := by
  refine aK #[.cell 2 239] 14 Tryz.func198 rfl Tryz.results198 Tryz.ntmps198 rfl ?_
  have M0 := Mem.refl w
  refine aH (aB ?_)
  refine bM (.agg (List.toArray _)) M0 rfl rfl rfl (fun b1 w1 M1 => ?_)
  refine aU qN M1 rfl rfl (fun b2 w2 M2 => ?_)
  refine aD (aF (aH (aB ?_)))
  refine aA (bE 0 bO M2 rfl rfl rfl) rfl rfl ?_
  refine aL aWa rfl rfl rfl ?_
  refine (aKl _ b hb).mono ?_
  rintro _ w3 ⟨v3, rfl, ⟨rfl, hb3⟩⟩
  refine ⟨_, rfl, ?_⟩
  have M3 := M2.callB hb3
  refine aA (aC (.tuple (List.toArray _)) rfl) rfl rfl ?_
  refine aA (bB (.agg (List.toArray _)) rfl rfl) rfl rfl ?_
  refine aA (bB (.agg (List.toArray _)) rfl rfl) rfl rfl ?_
  refine aU gL M3 rfl rfl (fun b4 w4 M4 => ?_)
  refine aU gL M4 rfl rfl (fun b5 w5 M5 => ?_)
  refine bL 2 _ bJ M5 rfl rfl rfl rfl rfl (aW rfl) rfl (fun w6 M6 => ?_)
  refine bL 3 _ bJ M6 rfl rfl rfl rfl rfl (aW rfl) rfl (fun w7 M7 => ?_)
  refine aD (aF (aH (aB ?_)))
  refine aA (bE 0 bO M7 rfl rfl rfl) rfl rfl ?_
  refine aA (bE 2 bJ M7 rfl rfl rfl) rfl rfl ?_
  refine aA (bE 3 bJ M7 rfl rfl rfl) rfl rfl ?_
  refine aA (cI [(0, .agg (List.toArray _)), (1, .agg (List.toArray _)), (2, .agg (List.toArray _))] _ aIr rfl rfl) rfl rfl ?_
  refine bL 1 _ jJ M7 rfl rfl rfl rfl rfl (aW rfl) rfl (fun w8 M8 => ?_)
  refine aD (aF (aS ?_))
  refine kC 1 jJ M8 rfl rfl rfl ?_
  exact ⟨rfl, M8.below⟩
set_option maxHeartbeats 4000000 in
theorem aSa (w : World) (a b : Body) (ha : Okb a) (hb : Okb b) :
    Calls Tryz.prog 171 #[(.agg (aG a).toArray), (.agg (aG b).toArray)] w (fun ex w' => ∃ v, ex = .returned v ∧ (fun v w' => v = .tuple #[(.agg (jY (loB a b)).toArray), (.agg (jY (hiB a b)).toArray)] ∧ Below w.heap.size w w') v w') := by
  refine aK #[.cell 4 239, .cell 5 239] 17 Tryz.func171 rfl Tryz.results171 Tryz.ntmps171 rfl ?_
  have M0 := Mem.refl w
  refine aH (aB ?_)
  refine bM (.agg (List.toArray _)) M0 rfl rfl rfl (fun b1 w1 M1 => ?_)
  refine bM (.agg (List.toArray _)) M1 rfl rfl rfl (fun b2 w2 M2 => ?_)
  refine aU qN M2 rfl rfl (fun b3 w3 M3 => ?_)
  refine aU qN M3 rfl rfl (fun b4 w4 M4 => ?_)
  refine aD (aF (aH (aH (aB ?_))))
  refine aA (aI 0 eG rfl) rfl rfl ?_
  refine aA (aV 0 (.int _ _) dD M4 rfl rfl rfl) rfl rfl ?_
  refine aA (aI 0 eG rfl) rfl rfl ?_
  refine aA (aV 1 (.int _ _) dD M4 rfl rfl rfl) rfl rfl ?_
  refine aA (aO (.bool (decide _)) rfl rfl rfl) rfl rfl ?_
  refine aD (aF ?_)
  refine aY rfl (fun h10 => ?_) (fun h10 => ?_)
  · refine aB ?_
    refine aA (bE 1 bO M4 rfl rfl rfl) rfl rfl ?_
    refine aA (bE 0 bO M4 rfl rfl rfl) rfl rfl ?_
    refine bL 0 _ bO M4 rfl rfl rfl rfl rfl (aW rfl) rfl (fun w5 M5 => ?_)
    refine bL 1 _ bO M5 rfl rfl rfl rfl rfl (aW rfl) rfl (fun w6 M6 => ?_)
    refine aD (aF (aH ?_))
    refine bP [(0, 1), (2, 1), (1, 2), (3, 2), (4, 2), (5, 2)] mixed rfl (by kernel_rfl) (fun w7 hb7 hh7 => ?_)
    have M7 := M6.drew hb7 hh7
    refine cD rfl rfl rfl (bE 0 bO M7 rfl rfl rfl) ?_
    refine cD rfl rfl rfl (bE 1 bO M7 rfl rfl rfl) ?_
    refine dM [false, true] rfl (by kernel_rfl) ?_
    refine aL aAw rfl rfl rfl ?_
    refine (tF _ b hb).mono ?_
    rintro _ w8 ⟨v8, rfl, ⟨rfl, hb8⟩⟩
    refine ⟨_, rfl, ?_⟩
    have M8 := M7.callB hb8
    refine aD (aF ⟨(iQ (cU rfl (bE 1 bO M8 rfl rfl rfl)) cX), ?_⟩)
    refine dM [true] rfl (by kernel_rfl) ?_
    refine aL aAw rfl rfl rfl ?_
    refine (tF _ a ha).mono ?_
    rintro _ w9 ⟨v9, rfl, ⟨rfl, hb9⟩⟩
    refine ⟨_, rfl, ?_⟩
    have M9 := M8.callB hb9
    refine aD (aF ⟨cX, ?_⟩)
    refine dM [] rfl (by kernel_rfl) ?_
    refine bL 2 _ jJ M9 rfl rfl rfl rfl rfl (aW rfl) rfl (fun w10 M10 => ?_)
    refine aD (aF ⟨cX, ?_⟩)
    refine dM [] rfl (by kernel_rfl) ?_
    refine bL 3 _ jJ M10 rfl rfl rfl rfl rfl (aW rfl) rfl (fun w11 M11 => ?_)
    refine aD (aF ⟨cX, ?_⟩)
    refine cB ?_
    refine aF (aS ?_)
    refine aIb 2 3 jJ M11 rfl rfl rfl rfl rfl rfl ?_
    exact ⟨by unfold loB hiB; first | rw [if_pos (by omega), if_pos (by omega)] | rw [if_neg (by omega), if_neg (by omega)], M11.below⟩
  · refine aP (aF (aH ?_))
    refine bP [(0, 1), (2, 1), (1, 2), (3, 2), (4, 2), (5, 2)] mixed rfl (by kernel_rfl) (fun w12 hb12 hh12 => ?_)
    have M12 := M4.drew hb12 hh12
    refine cD rfl rfl rfl (bE 0 bO M12 rfl rfl rfl) ?_
    refine cD rfl rfl rfl (bE 1 bO M12 rfl rfl rfl) ?_
    refine dM [false, true] rfl (by kernel_rfl) ?_
    refine aL aAw rfl rfl rfl ?_
    refine (tF _ a ha).mono ?_
    rintro _ w13 ⟨v13, rfl, ⟨rfl, hb13⟩⟩
    refine ⟨_, rfl, ?_⟩
    have M13 := M12.callB hb13
    refine aD (aF ⟨(iQ (cU rfl (bE 1 bO M13 rfl rfl rfl)) cX), ?_⟩)
    refine dM [true] rfl (by kernel_rfl) ?_
    refine aL aAw rfl rfl rfl ?_
    refine (tF _ b hb).mono ?_
    rintro _ w14 ⟨v14, rfl, ⟨rfl, hb14⟩⟩
    refine ⟨_, rfl, ?_⟩
    have M14 := M13.callB hb14
    refine aD (aF ⟨cX, ?_⟩)
    refine dM [] rfl (by kernel_rfl) ?_
    refine bL 2 _ jJ M14 rfl rfl rfl rfl rfl (aW rfl) rfl (fun w15 M15 => ?_)
    refine aD (aF ⟨cX, ?_⟩)
    refine dM [] rfl (by kernel_rfl) ?_
    refine bL 3 _ jJ M15 rfl rfl rfl rfl rfl (aW rfl) rfl (fun w16 M16 => ?_)
    refine aD (aF ⟨cX, ?_⟩)
    refine cB ?_
    refine aF (aS ?_)
    refine aIb 2 3 jJ M16 rfl rfl rfl rfl rfl rfl ?_
    exact ⟨by unfold loB hiB; first | rw [if_pos (by omega), if_pos (by omega)] | rw [if_neg (by omega), if_neg (by omega)], M16.below⟩
set_option maxHeartbeats 4000000 in
theorem aQs (w : World) (a b : Body) (ha : Okb a) (hb : Okb b) :
    Calls Tryz.prog 172 #[(.agg (jY a).toArray), (.agg (jY b).toArray)] w (fun ex w' => ∃ v, ex = .returned v ∧ (fun v w' => v = .tuple #[.int .i64 (uB (sJ a b)), .int .i64 (uU (sJ a b)), .int .i64 (a.radius + b.radius)] ∧ Below w.heap.size w w') v w') := by
  have hra := ha.r
  have hrb := hb.r
  have hch := tR ha hb
  refine aK #[.tmp 4, .tmp 5, .tmp 6] 38 Tryz.func172 rfl Tryz.results172 Tryz.ntmps172 rfl ?_
  have M0 := Mem.refl w
  refine aH (aB ?_)
  refine bM (.agg (List.toArray _)) M0 rfl rfl rfl (fun b1 w1 M1 => ?_)
  refine bM (.agg (List.toArray _)) M1 rfl rfl rfl (fun b2 w2 M2 => ?_)
  refine aA (aE (.int _ _) rfl) rfl rfl ?_
  refine aA (aE (.int _ _) rfl) rfl rfl ?_
  refine aA (aE (.int _ _) rfl) rfl rfl ?_
  refine aD (aF (aH (aB ?_)))
  refine aA (aI 10 aDw rfl) rfl rfl ?_
  refine aA (uA 0 _ bJ M2 rfl rfl rfl rfl) rfl rfl ?_
  refine aA (aI 12 aBw rfl) rfl rfl ?_
  refine aA (uA 0 _ bJ M2 rfl rfl rfl rfl) rfl rfl ?_
  refine aA (aI 10 aDw rfl) rfl rfl ?_
  refine aA (uA 1 _ bJ M2 rfl rfl rfl rfl) rfl rfl ?_
  refine aA (aI 12 aBw rfl) rfl rfl ?_
  refine aA (uA 1 _ bJ M2 rfl rfl rfl rfl) rfl rfl ?_
  refine aL aXi rfl rfl rfl ?_
  refine (aEz _ (aCp a) (aCz a) (aCp b) (aCz b) (tK ha) (tK hb)).mono ?_
  rintro _ w3 ⟨v3, rfl, ⟨rfl, hb3⟩⟩
  refine ⟨_, rfl, ?_⟩
  have M3 := M2.callB hb3
  refine aA (aC (.tuple (List.toArray _)) rfl) rfl rfl ?_
  refine aA (bB (.agg (List.toArray _)) rfl rfl) rfl rfl ?_
  refine aA (bB (.agg (List.toArray _)) rfl rfl) rfl rfl ?_
  refine aU gL M3 rfl rfl (fun b4 w4 M4 => ?_)
  refine aU gL M4 rfl rfl (fun b5 w5 M5 => ?_)
  refine bL 2 _ bJ M5 rfl rfl rfl rfl rfl (aW rfl) rfl (fun w6 M6 => ?_)
  refine bL 3 _ bJ M6 rfl rfl rfl rfl rfl (aW rfl) rfl (fun w7 M7 => ?_)
  refine aD (aF (aH (aB ?_)))
  refine aA (bE 2 bJ M7 rfl rfl rfl) rfl rfl ?_
  refine aA (bE 3 bJ M7 rfl rfl rfl) rfl rfl ?_
  refine aL vS rfl rfl rfl ?_
  refine (nN _ (sJ a b).1 (sJ a b).2.1 hch.a.i32 hch.b.i32).mono ?_
  rintro _ w8 ⟨v8, rfl, ⟨rfl, hb8⟩⟩
  refine ⟨_, rfl, ?_⟩
  have M8 := M7.callB hb8
  refine aA (aC (.tuple (List.toArray _)) rfl) rfl rfl ?_
  refine aA (bB (.int _ _) rfl rfl) rfl rfl ?_
  refine aA (bB (.int _ _) rfl rfl) rfl rfl ?_
  refine aA (aE (.int _ _) rfl) rfl rfl ?_
  refine aA (aE (.int _ _) rfl) rfl rfl ?_
  refine aD (aF (aH ?_))
  refine bP [(0, 0), (1, 0), (2, 0), (3, 0), (4, 1), (5, 0), (6, 0), (7, 0), (8, 1), (9, 0), (10, 0), (11, 0), (12, 0), (13, 0)] mixed rfl (by kernel_rfl) (fun w9 hb9 hh9 => ?_)
  have M9 := M8.drew hb9 hh9
  refine aR rfl rfl rfl (fun _ => aC (.int _ _) rfl) ?_
  refine aR rfl rfl rfl (fun _ => aC (.int _ _) rfl) ?_
  refine aR rfl rfl rfl (fun _ => aI 0 pY rfl) ?_
  refine aR rfl rfl rfl (fun _ => aI 1 kW rfl) ?_
  refine cD rfl rfl rfl (aV 0 (.int _ _) aZ M9 rfl rfl rfl) ?_
  refine aR rfl rfl rfl (fun _ => bW gA Tryz.underlying2 rfl (kR _ (by omega) (by omega))) ?_
  refine aR rfl rfl rfl (fun _ => aI 0 pY rfl) ?_
  refine aR rfl rfl rfl (fun _ => aI 1 kW rfl) ?_
  refine cD rfl rfl rfl (aV 1 (.int _ _) aZ M9 rfl rfl rfl) ?_
  refine aR rfl rfl rfl (fun _ => bW gA Tryz.underlying2 rfl (kR _ (by omega) (by omega))) ?_
  refine aR rfl rfl rfl (fun _ => bS rfl rfl (by omega) (by omega)) ?_
  refine aR rfl rfl rfl (fun _ => aE (.int _ _) rfl) ?_
  refine aR rfl rfl rfl (fun _ => aE (.int _ _) rfl) ?_
  refine aR rfl rfl rfl (fun _ => aE (.int _ _) rfl) ?_
  refine cB ?_
  refine aF (aS ?_)
  refine aZk (.int _ _) (.int _ _) (.int _ _) rfl rfl rfl ?_
  exact ⟨rfl, M9.below⟩
set_option maxHeartbeats 4000000 in
theorem wG (w : World) (a b : Body) (ha : Okb a) (hb : Okb b) :
    Calls Tryz.prog 137 #[(.agg (aG a).toArray), (.agg (aG b).toArray)] w (fun ex w' => ∃ v, ex = .returned v ∧ (fun v w' => v = .tuple #[.agg (aVk (kV a b)).toArray, .bool (kV a b).isSome] ∧ Below w.heap.size w w') v w') := by
  obtain ⟨hlo, hhi⟩ := aVg ha hb
  have hd := aTc hlo hhi
  have hl := zO hd.1 hd.2
  have hss := aWn hlo hhi
  have hr1 := hlo.r
  have hr2 := hhi.r
  refine aK #[.cell 4 121, .tmp 5] 52 Tryz.func137 rfl Tryz.results137 Tryz.ntmps137 rfl ?_
  have M0 := Mem.refl w
  refine aH (aB ?_)
  refine bM (.agg (List.toArray _)) M0 rfl rfl rfl (fun b1 w1 M1 => ?_)
  refine bM (.agg (List.toArray _)) M1 rfl rfl rfl (fun b2 w2 M2 => ?_)
  refine aU qO M2 rfl rfl (fun b3 w3 M3 => ?_)
  refine aA (aE (.bool false) rfl) rfl rfl ?_
  refine aD (aF (aH (aB ?_)))
  refine aA (bE 0 bO M3 rfl rfl rfl) rfl rfl ?_
  refine aA (bE 1 bO M3 rfl rfl rfl) rfl rfl ?_
  refine aL aVf rfl rfl rfl ?_
  refine (aSa _ a b ha hb).mono ?_
  rintro _ w4 ⟨v4, rfl, ⟨rfl, hb4⟩⟩
  refine ⟨_, rfl, ?_⟩
  have M4 := M3.callB hb4
  refine aA (aC (.tuple (List.toArray _)) rfl) rfl rfl ?_
  refine aA (bB (.agg (List.toArray _)) rfl rfl) rfl rfl ?_
  refine aA (bB (.agg (List.toArray _)) rfl rfl) rfl rfl ?_
  refine aU qN M4 rfl rfl (fun b5 w5 M5 => ?_)
  refine aU qN M5 rfl rfl (fun b6 w6 M6 => ?_)
  refine bL 3 _ jJ M6 rfl rfl rfl rfl rfl (aW rfl) rfl (fun w7 M7 => ?_)
  refine bL 4 _ jJ M7 rfl rfl rfl rfl rfl (aW rfl) rfl (fun w8 M8 => ?_)
  refine aD (aF (aH (aB ?_)))
  refine aA (bE 3 jJ M8 rfl rfl rfl) rfl rfl ?_
  refine aA (bE 4 jJ M8 rfl rfl rfl) rfl rfl ?_
  refine aL aVl rfl rfl rfl ?_
  refine (aQs _ (loB a b) (hiB a b) hlo hhi).mono ?_
  rintro _ w9 ⟨v9, rfl, ⟨rfl, hb9⟩⟩
  refine ⟨_, rfl, ?_⟩
  have M9 := M8.callB hb9
  refine aA (aC (.tuple (List.toArray _)) rfl) rfl rfl ?_
  refine aA (bB (.int _ _) rfl rfl) rfl rfl ?_
  refine aA (bB (.int _ _) rfl rfl) rfl rfl ?_
  refine aA (bB (.int _ _) rfl rfl) rfl rfl ?_
  refine aA (aE (.int _ _) rfl) rfl rfl ?_
  refine aA (aE (.int _ _) rfl) rfl rfl ?_
  refine aA (aE (.int _ _) rfl) rfl rfl ?_
  refine aD (aF (aH (aH (aB ?_))))
  refine aA (aC (.int _ _) rfl) rfl rfl ?_
  refine aA (aC (.int _ _) rfl) rfl rfl ?_
  refine aL aGc rfl rfl rfl ?_
  refine (mN _ (uB (sJ (loB a b) (hiB a b))) (uU (sJ (loB a b) (hiB a b))) hd.1 hd.2).mono ?_
  rintro _ w10 ⟨v10, rfl, ⟨rfl, hb10⟩⟩
  refine ⟨_, rfl, ?_⟩
  have M10 := M9.callB hb10
  refine aA (aC (.int _ _) rfl) rfl rfl ?_
  refine aA (aC (.int _ _) rfl) rfl rfl ?_
  refine aA (lD rfl rfl (by omega) (by omega)) rfl rfl ?_
  refine aA (fN us2 Tryz.underlying170 rfl) rfl rfl ?_
  refine aQ 31 (.int .u64 ((((loB a b).radius + (hiB a b).radius).natAbs * ((loB a b).radius + (hiB a b).radius).natAbs : Nat) : Int)) (iE (aSu _ hss)) ?_
  refine aA (aO (.bool (decide _)) rfl rfl rfl) rfl rfl ?_
  refine aD (aF ?_)
  refine aY rfl (fun h32 => ?_) (fun h32 => ?_)
  · refine aH (aB ?_)
    refine aA (cI [] _ yQ rfl rfl) rfl rfl ?_
    refine bL 2 _ fJ M10 rfl rfl rfl rfl rfl (aW rfl) rfl (fun w11 M11 => ?_)
    refine aA (aE (.bool false) rfl) rfl rfl ?_
    refine aD (aF (aS (cN ?_)))
    refine aTx (v2 := .bool false) 2 fJ M11 rfl rfl rfl rfl ?_
    exact ⟨by rw [aDh]; unfold lI; first | (rw [if_pos (by omega)]; rfl) | (rw [if_neg (by omega)]; rfl), M11.below⟩
  · refine aP (aF (aH (aB ?_)))
    refine aA (aI 0 pY rfl) rfl rfl ?_
    refine aA (aI 0 eG rfl) rfl rfl ?_
    refine aA (aV 3 (.int _ _) dD M10 rfl rfl rfl) rfl rfl ?_
    refine aA (aI 0 pY rfl) rfl rfl ?_
    refine aA (aI 0 eG rfl) rfl rfl ?_
    refine aA (aV 4 (.int _ _) dD M10 rfl rfl rfl) rfl rfl ?_
    refine aA (cI [(0, .int _ _), (1, .int _ _)] _ yR rfl rfl) rfl rfl ?_
    refine aU oF M10 rfl rfl (fun b12 w12 M12 => ?_)
    refine bL 5 _ fI M12 rfl rfl rfl rfl rfl (aW rfl) rfl (fun w13 M13 => ?_)
    refine aD (aF (aH ?_))
    refine bP [(0, 1), (1, 0), (2, 0), (4, 0), (5, 0), (6, 0), (3, 2), (7, 2), (8, 0), (9, 0), (10, 0), (11, 2), (12, 0)] mixed rfl (by kernel_rfl) (fun w14 hb14 hh14 => ?_)
    have M14 := M13.drew hb14 hh14
    refine cD rfl rfl rfl (bE 5 fI M14 rfl rfl rfl) ?_
    refine aR rfl rfl rfl (fun _ => aC (.int _ _) rfl) ?_
    refine aR rfl rfl rfl (fun _ => aC (.int _ _) rfl) ?_
    refine aR rfl rfl rfl (fun _ => aC (.int _ _) rfl) ?_
    refine aR rfl rfl rfl (fun _ => aC (.int _ _) rfl) ?_
    refine aR rfl rfl rfl (fun _ => aC (.int _ _) rfl) ?_
    refine dM [false] rfl (by kernel_rfl) ?_
    refine aL aVa rfl rfl rfl ?_
    refine (aPc _ (uB (sJ (loB a b) (hiB a b))) (uU (sJ (loB a b) (hiB a b))) hd.1 hd.2).mono ?_
    rintro _ w15 ⟨v15, rfl, ⟨rfl, hb15⟩⟩
    refine ⟨_, rfl, ?_⟩
    have M15 := M14.callB hb15
    refine aD (aF ⟨(iQ (cU rfl (bE 5 fI M15 rfl rfl rfl)) cX), ?_⟩)
    refine dM [false] rfl (by kernel_rfl) ?_
    refine aL aLn rfl rfl rfl ?_
    refine (vD _ (uB (sJ (loB a b) (hiB a b))) (uU (sJ (loB a b) (hiB a b))) hd.1 hd.2).mono ?_
    rintro _ w16 ⟨v16, rfl, ⟨rfl, hb16⟩⟩
    refine ⟨_, rfl, ?_⟩
    have M16 := M15.callB hb16
    refine aD (aF ⟨(iQ (cU rfl (bE 5 fI M16 rfl rfl rfl)) cX), ?_⟩)
    refine aR rfl rfl rfl (fun _ => jO rfl rfl (by omega) (by omega)) ?_
    refine aR rfl rfl rfl (fun _ => fN us2 Tryz.underlying21 rfl) ?_
    refine aR rfl rfl rfl (fun _ => cI [(0, .agg (List.toArray _)), (1, .agg (List.toArray _)), (2, .int _ _)] _ yQ rfl rfl) ?_
    refine dM [true] rfl (by kernel_rfl) ?_
    refine bL 2 _ fJ M16 rfl rfl rfl rfl rfl (aW rfl) rfl (fun w17 M17 => ?_)
    refine aD (aF ⟨cX, ?_⟩)
    refine aR rfl rfl rfl (fun _ => aE (.bool true) rfl) ?_
    refine cB ?_
    refine aF (aS ?_)
    refine aTx (v2 := .bool true) 2 fJ M17 rfl rfl rfl rfl ?_
    exact ⟨by rw [aDh]; unfold lI; first | (rw [if_pos (by omega)]; rfl) | (rw [if_neg (by omega)]; rfl), M17.below⟩
end Go.Proofs.YtlmcphcgiclanaaGreatDoor
