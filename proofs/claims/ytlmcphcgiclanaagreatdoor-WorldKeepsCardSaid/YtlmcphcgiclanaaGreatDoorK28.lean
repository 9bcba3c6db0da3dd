/- Part of the proof of the laws of this seat: Z1, Z1b, Z1c, Z1d, W3, Z2, W4, Z3, Z4, W5, W6. No conditions. -/
import Derived.Test.YtlmcphcgiclanaaGreatDoorK5
import Derived.Test.YtlmcphcgiclanaaGreatDoorK12
import Derived.Test.YtlmcphcgiclanaaGreatDoorK18
import Derived.Test.YtlmcphcgiclanaaGreatDoorK11
import Derived.Test.YtlmcphcgiclanaaGreatDoorK17
set_option linter.unusedVariables false
set_option linter.unusedSimpArgs false
set_option linter.unnecessarySimpa false
namespace Go.Proofs.YtlmcphcgiclanaaGreatDoor
open Go.Bil
open Go.RowKit (Below)
open Go.Proofs
end Go.Proofs.YtlmcphcgiclanaaGreatDoor

namespace Go.Proofs.YtlmcphcgiclanaaGreatDoor
open Go.Bil
open Go.RowKit (Below)
open Go.Proofs
end Go.Proofs.YtlmcphcgiclanaaGreatDoor

namespace Go.Proofs.YtlmcphcgiclanaaGreatDoor
open Go.Bil
open Go.RowKit (Below)
open Go.Proofs
end Go.Proofs.YtlmcphcgiclanaaGreatDoor

namespace Go.Proofs.YtlmcphcgiclanaaGreatDoor
open Go.Bil
open Go.RowKit (Below)
open Go.Proofs
end Go.Proofs.YtlmcphcgiclanaaGreatDoor

namespace Go.Proofs.YtlmcphcgiclanaaGreatDoor
open Go.Bil
open Go.RowKit (Below)
open Go.Proofs
set_option maxHeartbeats 8000000 in
theorem bDp (w : World) (n : Nat) (hn : n < 18446744073709551616) :
    Calls Tryz.prog 203 #[.int .u64 (n : Int)] w (fun ex w' => ∃ v, ex = .returned v ∧ (fun v w' => v = .int .u64 ((tX n : Nat) : Int) ∧ Below w.heap.size w w') v w') := by
  refine aJ #[.tmp 2] 32 Tryz.func203 rfl Tryz.results203 Tryz.ntmps203 rfl ?_
  have M0 := Mem.refl w
  refine aG (aB ?_)
  refine aA (aE (.int _ _) rfl) rfl rfl ?_
  refine aC (aF (aG (aB ?_)))
  refine aA (aD (.int _ _) rfl) rfl rfl ?_
  refine aA (aE (.int _ _) rfl) rfl rfl ?_
  refine aA (aE (.int _ _) rfl) rfl rfl ?_
  refine aC (aF (aG (aG (aB ?_))))
  refine aA (aD (.int _ _) rfl) rfl rfl ?_
  refine aC (aF (aV ?_))
  refine dK (σ := Nat × Nat × Nat) [2] (fun (i, R, e) => [(8, .int .i64 (i : Int)), (3, .int .u64 ((n - R * R : Nat) : Int)), (4, .int .u64 ((R * e : Nat) : Int))]) (fun (i, R, e) w' => Iq n i R e ∧ Mem w [] [] w') (fun (i, R, e) => 32 - i) (0, 0, 4294967296) (bK rfl (bK (iv rfl (by simp)) (bK (iv rfl (by simp)) eO))) (⟨aVa hn, M0⟩) ?_
  rintro ⟨i, R, e⟩ ρ1 w1 ⟨I, hM1⟩
  have hile := I.ile
  have hle := I.le
  refine aG (aB ?_)
  refine aA (aP (.bool (decide _)) rfl rfl rfl) rfl rfl ?_
  refine aC (aF (aG ?_))
  refine aZ rfl (fun h9 => ?_) (fun h9 => ?_)
  · obtain ⟨f, hf1, hf2, hf3, hf4, hf5, hf6, hf7, hf8, hfy, hfn⟩ := aVs (by omega) I
    refine aN (aF (aG (aV (aG (aB ?_)))))
    refine aA (aD (.int _ _) rfl) rfl rfl ?_
    refine aA (aE (.int _ _) rfl) rfl rfl ?_
    refine aC (aF (aG (aB ?_)))
    refine aA (aD (.int _ _) rfl) rfl rfl ?_
    refine aA (fR rfl rfl (by omega) (by omega)) rfl rfl ?_
    refine aA (gA rfl rfl (by omega)) rfl rfl ?_
    refine aM 13 (.int .u64 ((f * f : Nat) : Int)) (iE ((aVh (2 * i) _ (by omega) (by omega)).trans (congrArg _ hf4))) ?_
    refine aA (aE (.int _ _) rfl) rfl rfl ?_
    refine aC (aF (aG (aB ?_)))
    refine aA (aD (.int _ _) rfl) rfl rfl ?_
    refine aA (aD (.int _ _) rfl) rfl rfl ?_
    refine aA (aD (.int _ _) rfl) rfl rfl ?_
    refine aA (aP (.int _ _) rfl rfl rfl) rfl rfl ?_
    refine aM 17 (.int .u64 ((R * e + f * f : Nat) : Int)) (iE (by rw [qM]; omega)) ?_
    refine aA (aP (.bool (decide _)) rfl rfl rfl) rfl rfl ?_
    refine aC (aF ?_)
    refine aZ rfl (fun h18 => ?_) (fun h18 => ?_)
    · have h18' : R * e + f * f ≤ n - R * R := by omega
      refine aG (aB ?_)
      refine aA (aD (.int _ _) rfl) rfl rfl ?_
      refine aA (aD (.int _ _) rfl) rfl rfl ?_
      refine aA (aD (.int _ _) rfl) rfl rfl ?_
      refine aA (aP (.int _ _) rfl rfl rfl) rfl rfl ?_
      refine aM 22 (.int .u64 ((R * e + f * f : Nat) : Int)) (iE (by rw [qM]; omega)) ?_
      refine aA (aP (.int _ _) rfl rfl rfl) rfl rfl ?_
      refine aM 23 (.int .u64 ((n - (R + f) * (R + f) : Nat) : Int)) (iE (by rw [qM]; omega)) ?_
      refine aA (aE (.int _ _) rfl) rfl rfl ?_
      refine aC (aF (aB ?_))
      refine aA (aD (.int _ _) rfl) rfl rfl ?_
      refine aA (gA rfl rfl (by decide)) rfl rfl ?_
      refine aM 25 (.int .u64 ((R * f : Nat) : Int)) (iE ((aOy (R * e)).trans (congrArg _ hf5))) ?_
      refine aA (aD (.int _ _) rfl) rfl rfl ?_
      refine aA (aP (.int _ _) rfl rfl rfl) rfl rfl ?_
      refine aM 27 (.int .u64 (((R + f) * f : Nat) : Int)) (iE (by rw [qM]; omega)) ?_
      refine aA (aE (.int _ _) rfl) rfl rfl ?_
      refine aC ?_
      refine dB ?_
      refine aF (aB ?_)
      refine aA (bM rfl rfl (by omega) (by omega)) rfl rfl ?_
      refine aA (aD (.int _ _) rfl) rfl rfl ?_
      refine aC ?_
      refine cO (i + 1, R + f, f) (bK rfl (bK rfl (bK rfl eO))) (cS rfl jB) ?_ ?_
      · exact ⟨hfy h18', hM1⟩
      · (show 32 - (i + 1) < 32 - i; omega)
    · have h18' : ¬ (R * e + f * f ≤ n - R * R) := by omega
      refine aB ?_
      refine aA (aD (.int _ _) rfl) rfl rfl ?_
      refine aA (gA rfl rfl (by decide)) rfl rfl ?_
      refine aM 29 (.int .u64 ((R * f : Nat) : Int)) (iE ((aOy (R * e)).trans (congrArg _ hf5))) ?_
      refine aA (aE (.int _ _) rfl) rfl rfl ?_
      refine aC ?_
      refine dB ?_
      refine aF (aB ?_)
      refine aA (bM rfl rfl (by omega) (by omega)) rfl rfl ?_
      refine aA (aD (.int _ _) rfl) rfl rfl ?_
      refine aC ?_
      refine cO (i + 1, R, f) (bK rfl (bK rfl (bK rfl eO))) (cS rfl jB) ?_ ?_
      · exact ⟨hfn h18', hM1⟩
      · (show 32 - (i + 1) < 32 - i; omega)
  · obtain rfl : i = 32 := by omega
    refine cP ?_
    refine dA ?_
    refine cZ ?_
    refine eQ ?_
    refine aF (aG (aB ?_))
    refine aA (aD (.int _ _) rfl) rfl rfl ?_
    refine aA (aE (.int _ _) rfl) rfl rfl ?_
    refine aC (aF (aR ?_))
    refine bY (.int _ _) rfl ?_
    exact ⟨iE (by rw [aUz I]), hM1.below⟩
set_option maxHeartbeats 4000000 in
theorem nV (w : World) (a b : Int × Int) (ha : I32 a) (hb : I32 b) :
    Calls Tryz.prog 200 #[(.agg (cM a).toArray), (.agg (cM b).toArray)] w (fun ex w' => ∃ v, ex = .returned v ∧ (fun v w' => v = .tuple #[.int .i64 (b.1 - a.1), .int .i64 (b.2 - a.2)] ∧ Below w.heap.size w w') v w') := by
  have hax := ha.x
  have hay := ha.y
  have hbx := hb.x
  have hby := hb.y
  refine aJ #[.tmp 4, .tmp 5] 20 Tryz.func200 rfl Tryz.results200 Tryz.ntmps200 rfl ?_
  have M0 := Mem.refl w
  refine aG (aB ?_)
  refine bL (.agg (List.toArray _)) M0 rfl rfl rfl (fun b1 w1 M1 => ?_)
  refine bL (.agg (List.toArray _)) M1 rfl rfl rfl (fun b2 w2 M2 => ?_)
  refine aA (aE (.int _ _) rfl) rfl rfl ?_
  refine aA (aE (.int _ _) rfl) rfl rfl ?_
  refine aC (aF (aG ?_))
  refine bS [(0, 0), (1, 1), (2, 0), (3, 0), (4, 1), (5, 0), (6, 0), (7, 0), (8, 1), (9, 0), (10, 0), (11, 1), (12, 0), (13, 0), (14, 0), (15, 0)] mixed rfl (by kernel_rfl) (fun w3 hb3 hh3 => ?_)
  have M3 := M2.drew hb3 hh3
  refine aU rfl rfl rfl (fun _ => aH 0 dG rfl) ?_
  refine cB rfl rfl rfl (aQ 1 (.int _ _) aX M3 rfl rfl rfl) ?_
  refine aU rfl rfl rfl (fun _ => bV fL Tryz.underlying2 rfl (jY _ (by omega) (by omega))) ?_
  refine aU rfl rfl rfl (fun _ => aH 0 dG rfl) ?_
  refine cB rfl rfl rfl (aQ 0 (.int _ _) aX M3 rfl rfl rfl) ?_
  refine aU rfl rfl rfl (fun _ => bV fL Tryz.underlying2 rfl (jY _ (by omega) (by omega))) ?_
  refine aU rfl rfl rfl (fun _ => mL rfl rfl (by omega) (by omega)) ?_
  refine aU rfl rfl rfl (fun _ => aH 1 dC rfl) ?_
  refine cB rfl rfl rfl (aQ 1 (.int _ _) aX M3 rfl rfl rfl) ?_
  refine aU rfl rfl rfl (fun _ => bV fL Tryz.underlying2 rfl (jY _ (by omega) (by omega))) ?_
  refine aU rfl rfl rfl (fun _ => aH 1 dC rfl) ?_
  refine cB rfl rfl rfl (aQ 0 (.int _ _) aX M3 rfl rfl rfl) ?_
  refine aU rfl rfl rfl (fun _ => bV fL Tryz.underlying2 rfl (jY _ (by omega) (by omega))) ?_
  refine aU rfl rfl rfl (fun _ => mL rfl rfl (by omega) (by omega)) ?_
  refine aU rfl rfl rfl (fun _ => aE (.int _ _) rfl) ?_
  refine aU rfl rfl rfl (fun _ => aE (.int _ _) rfl) ?_
  refine cF ?_
  refine aF (aR ?_)
  refine fZ (.int _ _) (.int _ _) rfl rfl ?_
  exact ⟨rfl, M3.below⟩
set_option maxHeartbeats 4000000 in
theorem wR (w : World) (n : Int) (hn : uQ n) :
    Calls Tryz.prog 201 #[.int .i64 n] w (fun ex w' => ∃ v, ex = .returned v ∧ (fun v w' => v = .int .u64 ((n.natAbs * n.natAbs : Nat) : Int) ∧ Below w.heap.size w w') v w') := by
  have hlt := (vX hn hn).2.1
  unfold uQ at hn
  refine aJ #[.tmp 2] 12 Tryz.func201 rfl Tryz.results201 Tryz.ntmps201 rfl ?_
  have M0 := Mem.refl w
  refine aG (aB ?_)
  refine aA (aE (.int _ _) rfl) rfl rfl ?_
  refine aC (aF (aG (aG (aB ?_))))
  refine aA (aD (.int _ _) rfl) rfl rfl ?_
  refine aA (aP (.bool (decide _)) rfl rfl rfl) rfl rfl ?_
  refine aC (aF ?_)
  refine aZ rfl (fun h4 => ?_) (fun h4 => ?_)
  · refine aB ?_
    refine aA (aD (.int _ _) rfl) rfl rfl ?_
    refine aA (wX rfl) rfl rfl ?_
    refine aM 6 (.int .i64 (-n)) (iE (jY _ (by omega) (by omega))) ?_
    refine aA (aE (.int _ _) rfl) rfl rfl ?_
    refine aC (aF (aG (aB ?_)))
    refine aA (aD (.int _ _) rfl) rfl rfl ?_
    refine aA (dR us2 Tryz.underlying170 rfl) rfl rfl ?_
    refine aM 8 (.int .u64 ((n.natAbs : Nat) : Int)) (iE (by rw [qM]; omega)) ?_
    refine aA (aD (.int _ _) rfl) rfl rfl ?_
    refine aA (dR us2 Tryz.underlying170 rfl) rfl rfl ?_
    refine aM 10 (.int .u64 ((n.natAbs : Nat) : Int)) (iE (by rw [qM]; omega)) ?_
    refine aA (aP (.int _ _) rfl rfl rfl) rfl rfl ?_
    refine aM 11 (.int .u64 ((n.natAbs * n.natAbs : Nat) : Int)) (iE (aMr _ _ (by omega))) ?_
    refine aA (aE (.int _ _) rfl) rfl rfl ?_
    refine aC (aF (aR ?_))
    refine bY (.int _ _) rfl ?_
    exact ⟨rfl, M0.below⟩
  · refine aN (aF (aG (aB ?_)))
    refine aA (aD (.int _ _) rfl) rfl rfl ?_
    refine aA (dR us2 Tryz.underlying170 rfl) rfl rfl ?_
    refine aM 8 (.int .u64 ((n.natAbs : Nat) : Int)) (iE (by rw [qM]; omega)) ?_
    refine aA (aD (.int _ _) rfl) rfl rfl ?_
    refine aA (dR us2 Tryz.underlying170 rfl) rfl rfl ?_
    refine aM 10 (.int .u64 ((n.natAbs : Nat) : Int)) (iE (by rw [qM]; omega)) ?_
    refine aA (aP (.int _ _) rfl rfl rfl) rfl rfl ?_
    refine aM 11 (.int .u64 ((n.natAbs * n.natAbs : Nat) : Int)) (iE (aMr _ _ (by omega))) ?_
    refine aA (aE (.int _ _) rfl) rfl rfl ?_
    refine aC (aF (aR ?_))
    refine bY (.int _ _) rfl ?_
    exact ⟨rfl, M0.below⟩
set_option maxHeartbeats 4000000 in
theorem nB (w : World) (dx dy : Int) (hx : uQ dx) (hy : uQ dy) :
    Calls Tryz.prog 173 #[.int .i64 dx, .int .i64 dy] w (fun ex w' => ∃ v, ex = .returned v ∧ (fun v w' => v = .int .u64 ((lsq dx dy : Nat) : Int) ∧ Below w.heap.size w w') v w') := by
  have hl := vX hx hy
  refine aJ #[.tmp 4] 10 Tryz.func173 rfl Tryz.results173 Tryz.ntmps173 rfl ?_
  have M0 := Mem.refl w
  refine aG (aB ?_)
  refine aA (aE (.int _ _) rfl) rfl rfl ?_
  refine aC (aF (aG (aB ?_)))
  refine aA (aD (.int _ _) rfl) rfl rfl ?_
  refine aK aTk rfl rfl rfl ?_
  refine (wR _ dx hx).mono ?_
  rintro _ w1 ⟨v1, rfl, ⟨rfl, hb1⟩⟩
  refine ⟨_, rfl, ?_⟩
  have M1 := M0.callB hb1
  refine aA (aD (.int _ _) rfl) rfl rfl ?_
  refine aK aTk rfl rfl rfl ?_
  refine (wR _ dy hy).mono ?_
  rintro _ w2 ⟨v2, rfl, ⟨rfl, hb2⟩⟩
  refine ⟨_, rfl, ?_⟩
  have M2 := M1.callB hb2
  refine aA (aP (.int _ _) rfl rfl rfl) rfl rfl ?_
  refine aM 9 (.int .u64 ((lsq dx dy : Nat) : Int)) (iE (by rw [qM]; unfold lsq at *; omega)) ?_
  refine aA (aE (.int _ _) rfl) rfl rfl ?_
  refine aC (aF (aR ?_))
  refine bY (.int _ _) rfl ?_
  exact ⟨rfl, M2.below⟩
set_option maxHeartbeats 4000000 in
theorem wG (w : World) (dx dy : Int) (hx : uQ dx) (hy : uQ dy) :
    Calls Tryz.prog 175 #[.int .i64 dx, .int .i64 dy] w (fun ex w' => ∃ v, ex = .returned v ∧ (fun v w' => v = .int .i64 (len dx dy) ∧ Below w.heap.size w w') v w') := by
  have hl := aCg hx hy
  refine aJ #[.tmp 4] 10 Tryz.func175 rfl Tryz.results175 Tryz.ntmps175 rfl ?_
  have M0 := Mem.refl w
  refine aG (aB ?_)
  refine aA (aE (.int _ _) rfl) rfl rfl ?_
  refine aC (aF (aG (aB ?_)))
  refine aA (aD (.int _ _) rfl) rfl rfl ?_
  refine aA (aD (.int _ _) rfl) rfl rfl ?_
  refine aK aHv rfl rfl rfl ?_
  refine (nB _ dx dy hx hy).mono ?_
  rintro _ w1 ⟨v1, rfl, ⟨rfl, hb1⟩⟩
  refine ⟨_, rfl, ?_⟩
  have M1 := M0.callB hb1
  refine aK aZp rfl rfl rfl ?_
  refine (bDp _ (lsq dx dy) (vX hx hy).1).mono ?_
  rintro _ w2 ⟨v2, rfl, ⟨rfl, hb2⟩⟩
  refine ⟨_, rfl, ?_⟩
  have M2 := M1.callB hb2
  refine aA (dR aAg Tryz.underlying2 rfl) rfl rfl ?_
  refine aM 9 (.int .i64 (len dx dy)) (iE (jY (len dx dy) (by omega) (by omega))) ?_
  refine aA (aE (.int _ _) rfl) rfl rfl ?_
  refine aC (aF (aR ?_))
  refine bY (.int _ _) rfl ?_
  exact ⟨rfl, M2.below⟩
set_option maxHeartbeats 4000000 in
theorem zQ (w : World) (a b : Int) (hb : 0 < b) (h0 : -1000000000000000000 ≤ a) (h1 : a ≤ 1000000000000000000) :
    Calls Tryz.prog 202 #[.int .i64 a, .int .i64 b] w (fun ex w' => ∃ v, ex = .returned v ∧ (fun v w' => v = .int .i64 (a / b) ∧ Below w.heap.size w w') v w') := by
  have hf := aEd (a := a) hb
  have hb1 := aJj a b
  refine aJ #[.tmp 4] 16 Tryz.func202 rfl Tryz.results202 Tryz.ntmps202 rfl ?_
  have M0 := Mem.refl w
  refine aG (aB ?_)
  refine aA (aE (.int _ _) rfl) rfl rfl ?_
  refine aC (aF (aG (aB ?_)))
  refine aA (aD (.int _ _) rfl) rfl rfl ?_
  refine aA (aD (.int _ _) rfl) rfl rfl ?_
  refine aA (aKk rfl rfl (by omega)) rfl rfl ?_
  refine aM 8 (.int .i64 (a.tdiv b)) (iE (jY _ (by omega) (by omega))) ?_
  refine aA (aE (.int _ _) rfl) rfl rfl ?_
  refine aC (aF (aG (aG (aB ?_))))
  refine aA (aD (.int _ _) rfl) rfl rfl ?_
  refine aA (aD (.int _ _) rfl) rfl rfl ?_
  refine aA (aYi rfl rfl (by omega)) rfl rfl ?_
  refine aA (aP (.bool (decide _)) rfl rfl rfl) rfl rfl ?_
  refine aC (aF ?_)
  refine aZ rfl (fun h12 => ?_) (fun h12 => ?_)
  · refine aB ?_
    refine aA (aD (.int _ _) rfl) rfl rfl ?_
    refine aA (mL rfl rfl (by omega) (by omega)) rfl rfl ?_
    refine aA (aE (.int _ _) rfl) rfl rfl ?_
    refine aC (aF (aG (aB ?_)))
    refine aA (aD (.int _ _) rfl) rfl rfl ?_
    refine aA (aE (.int _ _) rfl) rfl rfl ?_
    refine aC (aF (aR ?_))
    refine bY (.int _ _) rfl ?_
    exact ⟨iE (by first | exact hf.1 (by omega) | exact hf.2 (by omega)), M0.below⟩
  · refine aN (aF (aG (aB ?_)))
    refine aA (aD (.int _ _) rfl) rfl rfl ?_
    refine aA (aE (.int _ _) rfl) rfl rfl ?_
    refine aC (aF (aR ?_))
    refine bY (.int _ _) rfl ?_
    exact ⟨iE (by first | exact hf.1 (by omega) | exact hf.2 (by omega)), M0.below⟩
set_option maxHeartbeats 4000000 in
theorem aPh (w : World) (dx dy : Int) (hx : uQ dx) (hy : uQ dy) :
    Calls Tryz.prog 174 #[.int .i64 dx, .int .i64 dy] w (fun ex w' => ∃ v, ex = .returned v ∧ (fun v w' => v = (.agg (cM (oG dx dy)).toArray) ∧ Below w.heap.size w w') v w') := by
  have hl := aCg hx hy
  have hxx := hx
  have hyy := hy
  unfold uQ at hxx hyy
  refine aJ #[.cell 4 38] 23 Tryz.func174 rfl Tryz.results174 Tryz.ntmps174 rfl ?_
  have M0 := Mem.refl w
  refine aG (aB ?_)
  refine aW fY M0 rfl rfl (fun b1 w1 M1 => ?_)
  refine aC (aF (aG (aB ?_)))
  refine aA (aD (.int _ _) rfl) rfl rfl ?_
  refine aA (aD (.int _ _) rfl) rfl rfl ?_
  refine aK aRj rfl rfl rfl ?_
  refine (wG _ dx dy hx hy).mono ?_
  rintro _ w2 ⟨v2, rfl, ⟨rfl, hb2⟩⟩
  refine ⟨_, rfl, ?_⟩
  have M2 := M1.callB hb2
  refine aA (aE (.int _ _) rfl) rfl rfl ?_
  refine aC (aF (aG (aG (aB ?_))))
  refine aA (aD (.int _ _) rfl) rfl rfl ?_
  refine aA (aP (.bool (decide _)) rfl rfl rfl) rfl rfl ?_
  refine aC (aF ?_)
  refine aZ rfl (fun h10 => ?_) (fun h10 => ?_)
  · refine aG (aB ?_)
    refine aA (cN [(0, .int _ _)] _ eJ rfl rfl) rfl rfl ?_
    refine bH 0 _ bJ M2 rfl rfl rfl rfl rfl (aY rfl) rfl (fun w3 M3 => ?_)
    refine aC (aF (aR (cC ?_)))
    refine iX 0 bJ M3 rfl rfl rfl ?_
    exact ⟨by unfold oG; first | (rw [if_pos (by omega)]; rfl) | (rw [if_neg (by omega)]; rfl), M3.below⟩
  · refine aN (aF (aG (aB ?_)))
    refine aA (aD (.int _ _) rfl) rfl rfl ?_
    refine aA (rP rfl rfl (by decide)) rfl rfl ?_
    refine aM 13 (.int .i64 (dx * 65536)) (iE (aBh dx hx)) ?_
    refine aA (aD (.int _ _) rfl) rfl rfl ?_
    refine aK aPb rfl rfl rfl ?_
    refine (zQ _ (dx * 65536) (len dx dy) (by omega) (by omega) (by omega)).mono ?_
    rintro _ w4 ⟨v4, rfl, ⟨rfl, hb4⟩⟩
    refine ⟨_, rfl, ?_⟩
    have M4 := M2.callB hb4
    refine aA (dR us2 Tryz.underlying21 rfl) rfl rfl ?_
    refine aA (aD (.int _ _) rfl) rfl rfl ?_
    refine aA (rP rfl rfl (by decide)) rfl rfl ?_
    refine aM 18 (.int .i64 (dy * 65536)) (iE (aBh dy hy)) ?_
    refine aA (aD (.int _ _) rfl) rfl rfl ?_
    refine aK aPb rfl rfl rfl ?_
    refine (zQ _ (dy * 65536) (len dx dy) (by omega) (by omega) (by omega)).mono ?_
    rintro _ w5 ⟨v5, rfl, ⟨rfl, hb5⟩⟩
    refine ⟨_, rfl, ?_⟩
    have M5 := M4.callB hb5
    refine aA (dR us2 Tryz.underlying21 rfl) rfl rfl ?_
    refine aA (cN [(0, .int _ _), (1, .int _ _)] _ eJ rfl rfl) rfl rfl ?_
    refine bH 0 _ bJ M5 rfl rfl rfl rfl rfl (aY rfl) rfl (fun w6 M6 => ?_)
    refine aC (aF (aR ?_))
    refine iX 0 bJ M6 rfl rfl rfl ?_
    exact ⟨by unfold oG; first | (rw [if_pos (by omega)]; rfl) | (rw [if_neg (by omega)]; rfl), M6.below⟩
end Go.Proofs.YtlmcphcgiclanaaGreatDoor

namespace Go.Proofs.YtlmcphcgiclanaaGreatDoor
open Go.Bil
open Go.RowKit (Below)
open Go.Proofs
end Go.Proofs.YtlmcphcgiclanaaGreatDoor

namespace Go.Proofs.YtlmcphcgiclanaaGreatDoor
open Go.Bil
open Go.RowKit (Below)
open Go.Proofs
set_option maxHeartbeats 4000000 in
theorem aOo (w : World) (b : Body) (hb : Okb b) :
    Calls Tryz.prog 220 #[(.agg (aI b).toArray)] w (fun ex w' => ∃ v, ex = .returned v ∧ (fun v w' => v = .tuple #[(.agg (cM (aEp b)).toArray), (.agg (cM (aEe b)).toArray)] ∧ Below w.heap.size w w') v w') := by
  have ha := hb.a
  have hp := hb.p
  refine aJ #[.cell 2 38, .cell 3 38] 36 Tryz.func220 rfl Tryz.results220 Tryz.ntmps220 rfl ?_
  have M0 := Mem.refl w
  refine aG (aB ?_)
  refine bL (.agg (List.toArray _)) M0 rfl rfl rfl (fun b1 w1 M1 => ?_)
  refine aW fY M1 rfl rfl (fun b2 w2 M2 => ?_)
  refine aW fY M2 rfl rfl (fun b3 w3 M3 => ?_)
  refine aC (aF (aG (aB ?_)))
  refine aA (aH 6 fG rfl) rfl rfl ?_
  refine aA (aH 0 dG rfl) rfl rfl ?_
  refine aA (aQ 0 (.int _ _) aX M3 rfl rfl rfl) rfl rfl ?_
  refine aA (aH 2 iU rfl) rfl rfl ?_
  refine aA (aH 0 dG rfl) rfl rfl ?_
  refine aA (aQ 0 (.int _ _) aX M3 rfl rfl rfl) rfl rfl ?_
  refine aA (lD rfl rfl (kY _ (by omega) (by omega))) rfl rfl ?_
  refine aA (aH 6 fG rfl) rfl rfl ?_
  refine aA (aH 1 dC rfl) rfl rfl ?_
  refine aA (aQ 0 (.int _ _) aX M3 rfl rfl rfl) rfl rfl ?_
  refine aA (aH 2 iU rfl) rfl rfl ?_
  refine aA (aH 1 dC rfl) rfl rfl ?_
  refine aA (aQ 0 (.int _ _) aX M3 rfl rfl rfl) rfl rfl ?_
  refine aA (lD rfl rfl (kY _ (by omega) (by omega))) rfl rfl ?_
  refine aA (cN [(0, .int _ _), (1, .int _ _)] _ eJ rfl rfl) rfl rfl ?_
  refine bH 1 _ bJ M3 rfl rfl rfl rfl rfl (aY rfl) rfl (fun w4 M4 => ?_)
  refine aC (aF (aG (aB ?_)))
  refine aA (aH 6 fG rfl) rfl rfl ?_
  refine aA (aH 0 dG rfl) rfl rfl ?_
  refine aA (aQ 0 (.int _ _) aX M4 rfl rfl rfl) rfl rfl ?_
  refine aA (aH 2 iU rfl) rfl rfl ?_
  refine aA (aH 0 dG rfl) rfl rfl ?_
  refine aA (aQ 0 (.int _ _) aX M4 rfl rfl rfl) rfl rfl ?_
  refine aA (iA rfl rfl (kY _ (by omega) (by omega))) rfl rfl ?_
  refine aA (aH 6 fG rfl) rfl rfl ?_
  refine aA (aH 1 dC rfl) rfl rfl ?_
  refine aA (aQ 0 (.int _ _) aX M4 rfl rfl rfl) rfl rfl ?_
  refine aA (aH 2 iU rfl) rfl rfl ?_
  refine aA (aH 1 dC rfl) rfl rfl ?_
  refine aA (aQ 0 (.int _ _) aX M4 rfl rfl rfl) rfl rfl ?_
  refine aA (iA rfl rfl (kY _ (by omega) (by omega))) rfl rfl ?_
  refine aA (cN [(0, .int _ _), (1, .int _ _)] _ eJ rfl rfl) rfl rfl ?_
  refine bH 2 _ bJ M4 rfl rfl rfl rfl rfl (aY rfl) rfl (fun w5 M5 => ?_)
  refine aC (aF (aG ?_))
  refine bS [(0, 1), (1, 1), (2, 2), (3, 2)] mixed rfl (by kernel_rfl) (fun w6 hb6 hh6 => ?_)
  have M6 := M5.drew hb6 hh6
  refine cB rfl rfl rfl (bE 1 bJ M6 rfl rfl rfl) ?_
  refine cB rfl rfl rfl (bE 2 bJ M6 rfl rfl rfl) ?_
  refine dU [false, true] rfl (by kernel_rfl) ?_
  refine bH 1 _ bJ M6 rfl rfl rfl rfl rfl (aY rfl) rfl (fun w7 M7 => ?_)
  refine aC (aF ⟨(eS (bQ rfl (bE 2 bJ M7 rfl rfl rfl)) dV), ?_⟩)
  refine dU [true] rfl (by kernel_rfl) ?_
  refine bH 2 _ bJ M7 rfl rfl rfl rfl rfl (aY rfl) rfl (fun w8 M8 => ?_)
  refine aC (aF ⟨dV, ?_⟩)
  refine cF ?_
  refine aF (aR ?_)
  refine aJr 1 2 bJ M8 rfl rfl rfl rfl rfl rfl ?_
  exact ⟨rfl, M8.below⟩
set_option maxHeartbeats 4000000 in
theorem aFv (w : World) (p q c : Pt) (h : SgI p q) (hc : PtI c) :
    Calls Tryz.prog 244 #[(.agg (cM p).toArray), (.agg (cM q).toArray), (.agg (cM c).toArray)] w (fun ex w' => ∃ v, ex = .returned v ∧ (fun v w' => v = .tuple #[.int .i64 (nO p q c), .int .i64 (kX p q)] ∧ Below w.heap.size w w') v w') := by
  have hD := rC h
  have hx := aNn h hc
  refine aJ #[.tmp 6, .tmp 7] 42 Tryz.func244 rfl Tryz.results244 Tryz.ntmps244 rfl ?_
  have M0 := Mem.refl w
  refine aG (aB ?_)
  refine bL (.agg (List.toArray _)) M0 rfl rfl rfl (fun b1 w1 M1 => ?_)
  refine bL (.agg (List.toArray _)) M1 rfl rfl rfl (fun b2 w2 M2 => ?_)
  refine bL (.agg (List.toArray _)) M2 rfl rfl rfl (fun b3 w3 M3 => ?_)
  refine aA (aE (.int _ _) rfl) rfl rfl ?_
  refine aA (aE (.int _ _) rfl) rfl rfl ?_
  refine aC (aF (aG (aB ?_)))
  refine aA (bE 0 bJ M3 rfl rfl rfl) rfl rfl ?_
  refine aA (bE 1 bJ M3 rfl rfl rfl) rfl rfl ?_
  refine aK yN rfl rfl rfl ?_
  refine (nV _ p q h.hp.i32 h.hq.i32).mono ?_
  rintro _ w4 ⟨v4, rfl, ⟨rfl, hb4⟩⟩
  refine ⟨_, rfl, ?_⟩
  have M4 := M3.callB hb4
  refine aA (aD (.tuple (List.toArray _)) rfl) rfl rfl ?_
  refine aA (bG (.int _ _) rfl rfl) rfl rfl ?_
  refine aA (bG (.int _ _) rfl rfl) rfl rfl ?_
  refine aA (aE (.int _ _) rfl) rfl rfl ?_
  refine aA (aE (.int _ _) rfl) rfl rfl ?_
  refine aC (aF (aG (aB ?_)))
  refine aA (bE 0 bJ M4 rfl rfl rfl) rfl rfl ?_
  refine aA (bE 2 bJ M4 rfl rfl rfl) rfl rfl ?_
  refine aK yN rfl rfl rfl ?_
  refine (nV _ p c h.hp.i32 hc.i32).mono ?_
  rintro _ w5 ⟨v5, rfl, ⟨rfl, hb5⟩⟩
  refine ⟨_, rfl, ?_⟩
  have M5 := M4.callB hb5
  refine aA (aD (.tuple (List.toArray _)) rfl) rfl rfl ?_
  refine aA (bG (.int _ _) rfl rfl) rfl rfl ?_
  refine aA (bG (.int _ _) rfl rfl) rfl rfl ?_
  refine aA (aE (.int _ _) rfl) rfl rfl ?_
  refine aA (aE (.int _ _) rfl) rfl rfl ?_
  refine aC (aF (aG (aB ?_)))
  refine aA (aD (.int _ _) rfl) rfl rfl ?_
  refine aA (aD (.int _ _) rfl) rfl rfl ?_
  refine aA (fR rfl rfl (by omega) (by omega)) rfl rfl ?_
  refine aA (aD (.int _ _) rfl) rfl rfl ?_
  refine aA (aD (.int _ _) rfl) rfl rfl ?_
  refine aA (fR rfl rfl (by omega) (by omega)) rfl rfl ?_
  refine aA (bM rfl rfl (by omega) (by omega)) rfl rfl ?_
  refine aM 30 (.int .i64 (kX p q)) rfl ?_
  refine aA (aE (.int _ _) rfl) rfl rfl ?_
  refine aC (aF (aG (aB ?_)))
  refine aA (aD (.int _ _) rfl) rfl rfl ?_
  refine aA (aD (.int _ _) rfl) rfl rfl ?_
  refine aA (fR rfl rfl (by omega) (by omega)) rfl rfl ?_
  refine aA (aD (.int _ _) rfl) rfl rfl ?_
  refine aA (aD (.int _ _) rfl) rfl rfl ?_
  refine aA (fR rfl rfl (by omega) (by omega)) rfl rfl ?_
  refine aA (bM rfl rfl (by omega) (by omega)) rfl rfl ?_
  refine aA (aD (.int _ _) rfl) rfl rfl ?_
  refine aA (wY rfl rfl ) rfl rfl ?_
  refine aA (nE rfl rfl ) rfl rfl ?_
  refine aA (aD (.int _ _) rfl) rfl rfl ?_
  refine aA (aE (.int _ _) rfl) rfl rfl ?_
  refine aA (aE (.int _ _) rfl) rfl rfl ?_
  refine aC (aF (aR ?_))
  refine fZ (.int _ _) (.int _ _) rfl rfl ?_
  exact ⟨rfl, M5.below⟩
set_option maxHeartbeats 4000000 in
theorem aAe (w : World) (f a n d : Int) (bn bd : Nat) (ha : -16777216 ≤ a ∧ a ≤ 16777216) (hn : 0 ≤ n) (hnd : n ≤ d) (hd0 : 0 < d) (hd : d ≤ 562949953421312) (h1 : -16777216 ≤ a * n / d ∧ a * n / d ≤ 16777216) (h2 : -1082130432 ≤ f + a * n / d ∧ f + a * n / d ≤ 1082130432) (K1 : Rd w 1 (some ⟨bn, 0, none⟩) 1 [[.int .i64 n]]) (K2 : Rd w 1 (some ⟨bd, 0, none⟩) 1 [[.int .i64 d]]) :
    Calls Tryz.prog 245 #[.int .i32 f, .int .i64 a, .pointer (some ⟨bn, 0, none⟩), .pointer (some ⟨bd, 0, none⟩)] w (fun ex w' => ∃ v, ex = .returned v ∧ (fun v w' => v = .int .i32 (f + a * n / d) ∧ Below w.heap.size w w') v w') := by
  rw [← eK bn, ← eK bd]
  refine aJ #[.tmp 6] 20 Tryz.func245 rfl Tryz.results245 Tryz.ntmps245 rfl ?_
  have M0 := Mem.refl w
  refine aG (aB ?_)
  refine aA (aE (.int _ _) rfl) rfl rfl ?_
  refine aC (aF (aG (aB ?_)))
  refine aA (aD (.int _ _) rfl) rfl rfl ?_
  refine aA (eH (o := 0) (.int _ _) lB (K1.mem M0) (show ([[.int .i64 n]] : List (List Value))[0]? = some [.int .i64 n] from rfl) rfl rfl) rfl rfl ?_
  refine aA (eH (o := 0) (.int _ _) lB (K2.mem M0) (show ([[.int .i64 d]] : List (List Value))[0]? = some [.int .i64 d] from rfl) rfl rfl) rfl rfl ?_
  refine aK aBn rfl rfl rfl ?_
  refine (aZq _ a n d (by omega) hn hnd hd0 (by omega)).mono ?_
  rintro _ w1 ⟨v1, rfl, ⟨rfl, hb1⟩⟩
  refine ⟨_, rfl, ?_⟩
  have M1 := M0.callB hb1
  refine aA (aD (.tuple (List.toArray _)) rfl) rfl rfl ?_
  refine aA (bG (.int _ _) rfl rfl) rfl rfl ?_
  refine aA (bG (.int _ _) rfl rfl) rfl rfl ?_
  refine aA (aE (.int _ _) rfl) rfl rfl ?_
  refine aA (aE (.int _ _) rfl) rfl rfl ?_
  refine aC (aF (aG (aB ?_)))
  refine aA (aD (.int _ _) rfl) rfl rfl ?_
  refine aA (aD (.int _ _) rfl) rfl rfl ?_
  refine aA (bV us2 Tryz.underlying21 rfl (kY _ (by omega) (by omega))) rfl rfl ?_
  refine aA (iA rfl rfl (kY _ (by omega) (by omega))) rfl rfl ?_
  refine aA (aE (.int _ _) rfl) rfl rfl ?_
  refine aC (aF (aR ?_))
  refine bY (.int _ _) rfl ?_
  exact ⟨rfl, M1.below⟩
set_option maxHeartbeats 4000000 in
theorem jP (w : World) (p q c : Pt) (h : SgI p q) (hc : PtI c) :
    Calls Tryz.prog 239 #[(.agg (cM p).toArray), (.agg (cM q).toArray), (.agg (cM c).toArray)] w (fun ex w' => ∃ v, ex = .returned v ∧ (fun v w' => v = (.agg (cM (dT p q c)).toArray) ∧ Below w.heap.size w w') v w') := by
  have hD := rC h
  have hn := aFf (c := c) h
  have hx := h.x
  have hy := h.y
  refine aJ #[.cell 6 38] 40 Tryz.func239 rfl Tryz.results239 Tryz.ntmps239 rfl ?_
  have M0 := Mem.refl w
  refine aG (aB ?_)
  refine bL (.agg (List.toArray _)) M0 rfl rfl rfl (fun b1 w1 M1 => ?_)
  refine bL (.agg (List.toArray _)) M1 rfl rfl rfl (fun b2 w2 M2 => ?_)
  refine bL (.agg (List.toArray _)) M2 rfl rfl rfl (fun b3 w3 M3 => ?_)
  refine aW fY M3 rfl rfl (fun b4 w4 M4 => ?_)
  refine aC (aF (aG (aB ?_)))
  refine aA (bE 0 bJ M4 rfl rfl rfl) rfl rfl ?_
  refine aA (bE 1 bJ M4 rfl rfl rfl) rfl rfl ?_
  refine aA (bE 2 bJ M4 rfl rfl rfl) rfl rfl ?_
  refine aK bBp rfl rfl rfl ?_
  refine (aFv _ p q c h hc).mono ?_
  rintro _ w5 ⟨v5, rfl, ⟨rfl, hb5⟩⟩
  refine ⟨_, rfl, ?_⟩
  have M5 := M4.callB hb5
  refine aA (aD (.tuple (List.toArray _)) rfl) rfl rfl ?_
  refine aA (bG (.int _ _) rfl rfl) rfl rfl ?_
  refine aA (bG (.int _ _) rfl rfl) rfl rfl ?_
  refine aW wH M5 rfl rfl (fun b6 w6 M6 => ?_)
  refine aW wH M6 rfl rfl (fun b7 w7 M7 => ?_)
  refine dX 4 (.int _ _) lB M7 rfl rfl rfl rfl rfl rfl (fun w8 M8 => ?_)
  refine dX 5 (.int _ _) lB M8 rfl rfl rfl rfl rfl rfl (fun w9 M9 => ?_)
  refine aC (aF (aG (aG (aB ?_))))
  refine aA (aQ 5 (.int _ _) lB M9 rfl rfl rfl) rfl rfl ?_
  refine aA (aP (.bool (decide _)) rfl rfl rfl) rfl rfl ?_
  refine aC (aF ?_)
  refine aZ rfl (fun h20 => ?_) (fun h20 => ?_)
  · refine aG (aB ?_)
    refine aA (bE 0 bJ M9 rfl rfl rfl) rfl rfl ?_
    refine bH 3 _ bJ M9 rfl rfl rfl rfl rfl (aY rfl) rfl (fun w10 M10 => ?_)
    refine aC (aF (aR (cC ?_)))
    refine iX 3 bJ M10 rfl rfl rfl ?_
    exact ⟨by unfold dT; first | (rw [if_pos h20]; rfl) | (rw [if_neg h20]; rfl), M10.below⟩
  · have hnr := aDn (c := c) h h20
    refine aN (aF (aG (aB ?_)))
    refine aA (cQ [] [.pointer _, .pointer _] rfl rfl) rfl rfl ?_
    refine aA (aE (.func _ _ _) rfl) rfl rfl ?_
    refine aC (aF (aG (aB ?_)))
    refine aA (bE 0 bJ M9 rfl rfl rfl) rfl rfl ?_
    refine aA (bE 1 bJ M9 rfl rfl rfl) rfl rfl ?_
    refine aK yN rfl rfl rfl ?_
    refine (nV _ p q h.hp.i32 h.hq.i32).mono ?_
    rintro _ w11 ⟨v11, rfl, ⟨rfl, hb11⟩⟩
    refine ⟨_, rfl, ?_⟩
    have M11 := M9.callB hb11
    refine aA (aD (.tuple (List.toArray _)) rfl) rfl rfl ?_
    refine aA (bG (.int _ _) rfl rfl) rfl rfl ?_
    refine aA (bG (.int _ _) rfl rfl) rfl rfl ?_
    refine aA (aE (.int _ _) rfl) rfl rfl ?_
    refine aA (aE (.int _ _) rfl) rfl rfl ?_
    refine aC (aF (aG ?_))
    refine bS [(0, 0), (1, 0), (2, 1), (3, 0), (5, 0), (6, 0), (7, 1), (8, 0), (4, 2), (9, 2), (10, 0), (11, 2)] mixed rfl (by kernel_rfl) (fun w12 hb12 hh12 => ?_)
    have M12 := M11.drew hb12 hh12
    refine aU rfl rfl rfl (fun _ => aD (.func _ _ _) rfl) ?_
    refine aU rfl rfl rfl (fun _ => aH 0 dG rfl) ?_
    refine cB rfl rfl rfl (aQ 0 (.int _ _) aX M12 rfl rfl rfl) ?_
    refine aU rfl rfl rfl (fun _ => aD (.int _ _) rfl) ?_
    refine aU rfl rfl rfl (fun _ => aD (.func _ _ _) rfl) ?_
    refine aU rfl rfl rfl (fun _ => aH 1 dC rfl) ?_
    refine cB rfl rfl rfl (aQ 0 (.int _ _) aX M12 rfl rfl rfl) ?_
    refine aU rfl rfl rfl (fun _ => aD (.int _ _) rfl) ?_
    refine dU [false, true] rfl (by kernel_rfl) ?_
    refine aK aRb rfl rfl rfl ?_
    refine (aAe _ p.1 (q.1 - p.1) (nO p q c) (kX p q) b6 b7 (by omega) hn.1 hn.2 (by omega) (by omega) hnr.1.1 hnr.1.2 (lL 4 M12 rfl rfl) (lL 5 M12 rfl rfl)).mono ?_
    rintro _ w13 ⟨v13, rfl, ⟨rfl, hb13⟩⟩
    refine ⟨_, rfl, ?_⟩
    have M13 := M12.callB hb13
    refine aC (aF ⟨(eS (bQ rfl (aQ 0 (.int _ _) aX M13 rfl rfl rfl)) dV), ?_⟩)
    refine dU [true] rfl (by kernel_rfl) ?_
    refine aK aRb rfl rfl rfl ?_
    refine (aAe _ p.2 (q.2 - p.2) (nO p q c) (kX p q) b6 b7 (by omega) hn.1 hn.2 (by omega) (by omega) hnr.2.1 hnr.2.2 (lL 4 M13 rfl rfl) (lL 5 M13 rfl rfl)).mono ?_
    rintro _ w14 ⟨v14, rfl, ⟨rfl, hb14⟩⟩
    refine ⟨_, rfl, ?_⟩
    have M14 := M13.callB hb14
    refine aC (aF ⟨dV, ?_⟩)
    refine aU rfl rfl rfl (fun _ => cN [(0, .int _ _), (1, .int _ _)] _ eJ rfl rfl) ?_
    refine dU [] rfl (by kernel_rfl) ?_
    refine bH 3 _ bJ M14 rfl rfl rfl rfl rfl (aY rfl) rfl (fun w15 M15 => ?_)
    refine aC (aF ⟨dV, ?_⟩)
    refine cF ?_
    refine aF (aR ?_)
    refine iX 3 bJ M15 rfl rfl rfl ?_
    exact ⟨by unfold dT; first | (rw [if_pos h20]; rfl) | (rw [if_neg h20]; rfl), M15.below⟩
end Go.Proofs.YtlmcphcgiclanaaGreatDoor

namespace Go.Proofs.YtlmcphcgiclanaaGreatDoor
open Go.Bil
open Go.RowKit (Below)
open Go.Proofs
end Go.Proofs.YtlmcphcgiclanaaGreatDoor

namespace Go.Proofs.YtlmcphcgiclanaaGreatDoor
open Go.Bil
open Go.RowKit (Below)
open Go.Proofs
end Go.Proofs.YtlmcphcgiclanaaGreatDoor

namespace Go.Proofs.YtlmcphcgiclanaaGreatDoor
open Go.Bil
open Go.RowKit (Below)
open Go.Proofs
set_option maxHeartbeats 4000000 in
theorem vE (w : World) (s : Ch) (x y : Pt) (ba bb bl : Nat) (hx : PtI x) (hy : PtI y) (hO : Own [(some ba, bc (cM s.1) 38), (some bb, bc (cM s.2.1) 38), (some bl, bc [.int .u64 (s.2.2 : Int)] 170)] w) :
    Calls Tryz.prog 238 #[(.agg (cM x).toArray), (.agg (cM y).toArray), .pointer (some ⟨bl, 0, none⟩), .pointer (some ⟨ba, 0, none⟩), .pointer (some ⟨bb, 0, none⟩)] w (fun ex w' => ∃ v, ex = .returned v ∧ (fun v w' => v = .tuple #[] ∧ Mem w (bX [(some ba, bc (cM s.1) 38), (some bb, bc (cM s.2.1) 38), (some bl, bc [.int .u64 (s.2.2 : Int)] 170)]) [(some ba, bc (cM (fI s x y).1) 38), (some bb, bc (cM (fI s x y).2.1) 38), (some bl, bc [.int .u64 ((fI s x y).2.2 : Int)] 170)] w') v w') := by
  refine aJ #[] 20 Tryz.func238 rfl Tryz.results238 Tryz.ntmps238 rfl ?_
  have M0 := hO.mem
  refine aG (aB ?_)
  refine bL (.agg (List.toArray _)) M0 rfl rfl rfl (fun b1 w1 M1 => ?_)
  refine bL (.agg (List.toArray _)) M1 rfl rfl rfl (fun b2 w2 M2 => ?_)
  refine aC (aF (aG (aB ?_)))
  refine aA (bE 3 bJ M2 rfl rfl rfl) rfl rfl ?_
  refine aA (bE 4 bJ M2 rfl rfl rfl) rfl rfl ?_
  refine aK yN rfl rfl rfl ?_
  refine (nV _ x y hx.i32 hy.i32).mono ?_
  rintro _ w3 ⟨v3, rfl, ⟨rfl, hb3⟩⟩
  refine ⟨_, rfl, ?_⟩
  have M3 := M2.callB hb3
  refine aA (bG (.int _ _) rfl rfl) rfl rfl ?_
  refine aA (bG (.int _ _) rfl rfl) rfl rfl ?_
  refine aK aHv rfl rfl rfl ?_
  refine (nB _ (y.1 - x.1) (y.2 - x.2) (hx.inX hy) (hx.inY hy)).mono ?_
  rintro _ w4 ⟨v4, rfl, ⟨rfl, hb4⟩⟩
  refine ⟨_, rfl, ?_⟩
  have M4 := M3.callB hb4
  refine aA (aE (.int _ _) rfl) rfl rfl ?_
  refine aC (aF (aG (aB ?_)))
  refine aA (aD (.int _ _) rfl) rfl rfl ?_
  refine aA (aQ 2 (.int _ _) nT M4 rfl rfl rfl) rfl rfl ?_
  refine aA (aP (.bool (decide _)) rfl rfl rfl) rfl rfl ?_
  refine aC (aF ?_)
  refine aZ rfl (fun h16 => ?_) (fun h16 => ?_)
  · refine bS [(0, 1), (1, 1), (2, 0), (3, 2), (4, 2), (5, 2)] mixed rfl (by kernel_rfl) (fun w5 hb5 hh5 => ?_)
    have M5 := M4.drew hb5 hh5
    refine cB rfl rfl rfl (bE 3 bJ M5 rfl rfl rfl) ?_
    refine cB rfl rfl rfl (bE 4 bJ M5 rfl rfl rfl) ?_
    refine aU rfl rfl rfl (fun _ => aD (.int _ _) rfl) ?_
    refine dU [false, true] rfl (by kernel_rfl) ?_
    refine bH 0 _ bJ M5 rfl rfl rfl rfl rfl (aY rfl) rfl (fun w6 M6 => ?_)
    refine aC (aF ⟨(eS (bQ rfl (bE 4 bJ M6 rfl rfl rfl)) dV), ?_⟩)
    refine dU [true] rfl (by kernel_rfl) ?_
    refine bH 1 _ bJ M6 rfl rfl rfl rfl rfl (aY rfl) rfl (fun w7 M7 => ?_)
    refine aC (aF ⟨dV, ?_⟩)
    refine dU [] rfl (by kernel_rfl) ?_
    refine dX 2 (.int _ _) nT M7 rfl rfl rfl rfl rfl rfl (fun w8 M8 => ?_)
    refine aC (aF ⟨dV, ?_⟩)
    refine cF ?_
    refine iD ?_
    exact ⟨rfl, by unfold fI; first | (rw [if_pos (by omega)]; exact M8.keep [true, true, true, false, false]) | (rw [if_neg (by omega)]; exact M8.keep [true, true, true, false, false])⟩
  · refine aN ?_
    refine iD ?_
    exact ⟨rfl, by unfold fI; first | (rw [if_pos (by omega)]; exact M4.keep [true, true, true, false, false]) | (rw [if_neg (by omega)]; exact M4.keep [true, true, true, false, false])⟩
set_option maxHeartbeats 8000000 in
theorem aIw (w : World) (ap aq bp bq : Pt) (h1 : SgI ap aq) (h2 : SgI bp bq) :
    Calls Tryz.prog 221 #[(.agg (cM ap).toArray), (.agg (cM aq).toArray), (.agg (cM bp).toArray), (.agg (cM bq).toArray)] w (fun ex w' => ∃ v, ex = .returned v ∧ (fun v w' => v = .tuple #[(.agg (cM (oO ap aq bp bq).1).toArray), (.agg (cM (oO ap aq bp bq).2.1).toArray), .int .u64 ((oO ap aq bp bq).2.2 : Int)] ∧ Below w.heap.size w w') v w') := by
  refine aJ #[.cell 8 38, .cell 9 38, .cell 10 170] 48 Tryz.func221 rfl Tryz.results221 Tryz.ntmps221 rfl ?_
  have M0 := Mem.refl w
  refine aG (aB ?_)
  refine bL (.agg (List.toArray _)) M0 rfl rfl rfl (fun b1 w1 M1 => ?_)
  refine bL (.agg (List.toArray _)) M1 rfl rfl rfl (fun b2 w2 M2 => ?_)
  refine bL (.agg (List.toArray _)) M2 rfl rfl rfl (fun b3 w3 M3 => ?_)
  refine bL (.agg (List.toArray _)) M3 rfl rfl rfl (fun b4 w4 M4 => ?_)
  refine aW fY M4 rfl rfl (fun b5 w5 M5 => ?_)
  refine aW fY M5 rfl rfl (fun b6 w6 M6 => ?_)
  refine aW aVq M6 rfl rfl (fun b7 w7 M7 => ?_)
  refine aC (aF (aG (aB ?_)))
  refine dX 6 (.int _ _) nT M7 rfl rfl rfl rfl rfl rfl (fun w8 M8 => ?_)
  refine aC (aF (aG (aB ?_)))
  obtain ⟨s, hS⟩ : ∃ z, z = ch0 := ⟨_, rfl⟩
  have hC : ChI s := by rw [hS]; exact aTu
  have M9 : Mem _ _ [_, _, _, _, (some b5, bc (cM ch0.1) 38), (some b6, bc (cM ch0.2.1) 38), (some b7, bc [.int .u64 (ch0.2.2 : Int)] 170)] _ := M8
  rw [← hS] at M9
  refine aA (cQ [] [.pointer _, .pointer _, .pointer _] rfl rfl) rfl rfl ?_
  refine aA (aE (.func _ _ _) rfl) rfl rfl ?_
  refine aC (aF (aG (aG (aB ?_))))
  refine aA (bE 0 bJ M9 rfl rfl rfl) rfl rfl ?_
  refine aA (bE 1 bJ M9 rfl rfl rfl) rfl rfl ?_
  refine aA (oK [.agg (List.toArray _), .agg (List.toArray _)] sP aLd rfl rfl (cW rfl)) rfl rfl ?_
  refine aA (aD (.int _ _) rfl) rfl rfl ?_
  refine aC (aF (aV ?_))
  refine lA 3 (gJ ?_)
  refine aG (aB ?_)
  refine aA (aP (.bool (decide _)) rfl rfl rfl) rfl rfl ?_
  refine aM 21 (.bool true) (bT (by first | decide | omega)).symm ?_
  refine aC (aF (aG ?_))
  refine cK rfl ?_
  refine aN (aF (aG (aV (aG (aB ?_)))))
  refine aA (mA 0 _ sP bJ rfl rfl (by decide) (by decide) rfl rfl) rfl rfl ?_
  refine aW fY M9 rfl rfl (fun b10 w10 M10 => ?_)
  refine bH 7 _ bJ M10 rfl rfl rfl rfl rfl (aY rfl) rfl (fun w11 M11 => ?_)
  refine aC (aF ?_)
  refine bS [(0, 0), (1, 1), (2, 1), (3, 1), (4, 1), (5, 2), (6, 2)] mixed rfl (by kernel_rfl) (fun w12 hb12 hh12 => ?_)
  have M12 := M11.drew hb12 hh12
  refine aU rfl rfl rfl (fun _ => aD (.func _ _ _) rfl) ?_
  refine cB rfl rfl rfl (bE 7 bJ M12 rfl rfl rfl) ?_
  refine cB rfl rfl rfl (bE 2 bJ M12 rfl rfl rfl) ?_
  refine cB rfl rfl rfl (bE 3 bJ M12 rfl rfl rfl) ?_
  refine cB rfl rfl rfl (bE 7 bJ M12 rfl rfl rfl) ?_
  refine dU [true, true, true, false] rfl (by kernel_rfl) ?_
  refine aK aCo rfl rfl rfl ?_
  refine (jP _ bp bq ap h2 h1.hp).mono ?_
  rintro _ w13 ⟨v13, rfl, ⟨rfl, hb13⟩⟩
  refine ⟨_, rfl, ?_⟩
  have M13 := M12.callB hb13
  refine aC (aF ⟨(eS (bQ rfl (bE 7 bJ M13 rfl rfl rfl)) dV), ?_⟩)
  refine dU [true] rfl (by kernel_rfl) ?_
  refine aK aCq rfl rfl rfl ?_
  refine (vE _ s ap (dT bp bq ap) _ _ _ h1.hp (eP h2) (M13.ownSeg 4 3)).mono ?_
  rintro _ w14 ⟨v14, rfl, ⟨rfl, hM14⟩⟩
  refine ⟨_, rfl, ?_⟩
  have M14 : Mem _ _ [_, _, _, _, _, _, _, _] _ := M13.seg 4 3 hM14
  obtain ⟨s, hs⟩ : ∃ z, z = fI s ap (dT bp bq ap) := ⟨_, rfl⟩
  rw [← hs] at M14
  replace hC := hC.step (x := ap) (y := (dT bp bq ap)) h1.hp (eP h2)
  rw [← hs] at hC
  replace hS := hs.trans (congrArg (fun z => fI z ap (dT bp bq ap)) hS)
  refine aC (aF ⟨dV, ?_⟩)
  refine cF ?_
  refine dB ?_
  refine aF (aB ?_)
  refine aA (bM rfl rfl (by first | decide | omega) (by first | decide | omega)) rfl rfl ?_
  refine aM 30 (.int .i64 1) (iE (by first | decide | omega)) ?_
  refine aA (aD (.int _ _) rfl) rfl rfl ?_
  refine aC ?_
  refine aF (gJ ?_)
  refine aG (aB ?_)
  refine aA (aP (.bool (decide _)) rfl rfl rfl) rfl rfl ?_
  refine aM 21 (.bool true) (bT (by first | decide | omega)).symm ?_
  refine aC (aF (aG ?_))
  refine cK rfl ?_
  refine aN (aF (aG (aV (aG (aB ?_)))))
  refine aA (mA 1 _ sP bJ rfl rfl (by decide) (by decide) rfl rfl) rfl rfl ?_
  refine aW fY M14 rfl rfl (fun b15 w15 M15 => ?_)
  refine bH 8 _ bJ M15 rfl rfl rfl rfl rfl (aY rfl) rfl (fun w16 M16 => ?_)
  refine aC (aF ?_)
  refine bS [(0, 0), (1, 1), (2, 1), (3, 1), (4, 1), (5, 2), (6, 2)] mixed rfl (by kernel_rfl) (fun w17 hb17 hh17 => ?_)
  have M17 := M16.drew hb17 hh17
  refine aU rfl rfl rfl (fun _ => aD (.func _ _ _) rfl) ?_
  refine cB rfl rfl rfl (bE 8 bJ M17 rfl rfl rfl) ?_
  refine cB rfl rfl rfl (bE 2 bJ M17 rfl rfl rfl) ?_
  refine cB rfl rfl rfl (bE 3 bJ M17 rfl rfl rfl) ?_
  refine cB rfl rfl rfl (bE 8 bJ M17 rfl rfl rfl) ?_
  refine dU [true, true, true, false] rfl (by kernel_rfl) ?_
  refine aK aCo rfl rfl rfl ?_
  refine (jP _ bp bq aq h2 h1.hq).mono ?_
  rintro _ w18 ⟨v18, rfl, ⟨rfl, hb18⟩⟩
  refine ⟨_, rfl, ?_⟩
  have M18 := M17.callB hb18
  refine aC (aF ⟨(eS (bQ rfl (bE 8 bJ M18 rfl rfl rfl)) dV), ?_⟩)
  refine dU [true] rfl (by kernel_rfl) ?_
  refine aK aCq rfl rfl rfl ?_
  refine (vE _ s aq (dT bp bq aq) _ _ _ h1.hq (eP h2) (M18.ownSeg 4 3)).mono ?_
  rintro _ w19 ⟨v19, rfl, ⟨rfl, hM19⟩⟩
  refine ⟨_, rfl, ?_⟩
  have M19 : Mem _ _ [_, _, _, _, _, _, _, _, _] _ := M18.seg 4 3 hM19
  obtain ⟨s, hs⟩ : ∃ z, z = fI s aq (dT bp bq aq) := ⟨_, rfl⟩
  rw [← hs] at M19
  replace hC := hC.step (x := aq) (y := (dT bp bq aq)) h1.hq (eP h2)
  rw [← hs] at hC
  replace hS := hs.trans (congrArg (fun z => fI z aq (dT bp bq aq)) hS)
  refine aC (aF ⟨dV, ?_⟩)
  refine cF ?_
  refine dB ?_
  refine aF (aB ?_)
  refine aA (bM rfl rfl (by first | decide | omega) (by first | decide | omega)) rfl rfl ?_
  refine aM 30 (.int .i64 2) (iE (by first | decide | omega)) ?_
  refine aA (aD (.int _ _) rfl) rfl rfl ?_
  refine aC ?_
  refine aF (gJ ?_)
  refine aG (aB ?_)
  refine aA (aP (.bool (decide _)) rfl rfl rfl) rfl rfl ?_
  refine aM 21 (.bool false) (bF (by first | decide | omega)).symm ?_
  refine aC (aF (aG ?_))
  refine cH rfl ?_
  refine cP ?_
  refine dA (dA ?_)
  refine eQ ?_
  refine aF (aG (aG (aB ?_)))
  refine aA (bE 2 bJ M19 rfl rfl rfl) rfl rfl ?_
  refine aA (bE 3 bJ M19 rfl rfl rfl) rfl rfl ?_
  refine aA (oK [.agg (List.toArray _), .agg (List.toArray _)] sP aLd rfl rfl (cW rfl)) rfl rfl ?_
  refine aA (aD (.int _ _) rfl) rfl rfl ?_
  refine aC (aF (aV ?_))
  refine lA 3 (gJ ?_)
  refine aG (aB ?_)
  refine aA (aP (.bool (decide _)) rfl rfl rfl) rfl rfl ?_
  refine aM 35 (.bool true) (bT (by first | decide | omega)).symm ?_
  refine aC (aF (aG ?_))
  refine cK rfl ?_
  refine aN (aF (aG (aV (aG (aB ?_)))))
  refine aA (mA 0 _ sP bJ rfl rfl (by decide) (by decide) rfl rfl) rfl rfl ?_
  refine aW fY M19 rfl rfl (fun b20 w20 M20 => ?_)
  refine bH 9 _ bJ M20 rfl rfl rfl rfl rfl (aY rfl) rfl (fun w21 M21 => ?_)
  refine aC (aF ?_)
  refine bS [(0, 0), (1, 1), (2, 1), (3, 1), (5, 1), (4, 2), (6, 2)] mixed rfl (by kernel_rfl) (fun w22 hb22 hh22 => ?_)
  have M22 := M21.drew hb22 hh22
  refine aU rfl rfl rfl (fun _ => aD (.func _ _ _) rfl) ?_
  refine cB rfl rfl rfl (bE 0 bJ M22 rfl rfl rfl) ?_
  refine cB rfl rfl rfl (bE 1 bJ M22 rfl rfl rfl) ?_
  refine cB rfl rfl rfl (bE 9 bJ M22 rfl rfl rfl) ?_
  refine cB rfl rfl rfl (bE 9 bJ M22 rfl rfl rfl) ?_
  refine dU [false, true, true, true] rfl (by kernel_rfl) ?_
  refine aK aCo rfl rfl rfl ?_
  refine (jP _ ap aq bp h1 h2.hp).mono ?_
  rintro _ w23 ⟨v23, rfl, ⟨rfl, hb23⟩⟩
  refine ⟨_, rfl, ?_⟩
  have M23 := M22.callB hb23
  refine aC (aF ⟨(eS (bQ rfl (bE 9 bJ M23 rfl rfl rfl)) dV), ?_⟩)
  refine dU [true] rfl (by kernel_rfl) ?_
  refine aK aCq rfl rfl rfl ?_
  refine (vE _ s (dT ap aq bp) bp _ _ _ (eP h1) h2.hp (M23.ownSeg 4 3)).mono ?_
  rintro _ w24 ⟨v24, rfl, ⟨rfl, hM24⟩⟩
  refine ⟨_, rfl, ?_⟩
  have M24 : Mem _ _ [_, _, _, _, _, _, _, _, _, _] _ := M23.seg 4 3 hM24
  obtain ⟨s, hs⟩ : ∃ z, z = fI s (dT ap aq bp) bp := ⟨_, rfl⟩
  rw [← hs] at M24
  replace hC := hC.step (x := (dT ap aq bp)) (y := bp) (eP h1) h2.hp
  rw [← hs] at hC
  replace hS := hs.trans (congrArg (fun z => fI z (dT ap aq bp) bp) hS)
  refine aC (aF ⟨dV, ?_⟩)
  refine cF ?_
  refine dB ?_
  refine aF (aB ?_)
  refine aA (bM rfl rfl (by first | decide | omega) (by first | decide | omega)) rfl rfl ?_
  refine aM 44 (.int .i64 1) (iE (by first | decide | omega)) ?_
  refine aA (aD (.int _ _) rfl) rfl rfl ?_
  refine aC ?_
  refine aF (gJ ?_)
  refine aG (aB ?_)
  refine aA (aP (.bool (decide _)) rfl rfl rfl) rfl rfl ?_
  refine aM 35 (.bool true) (bT (by first | decide | omega)).symm ?_
  refine aC (aF (aG ?_))
  refine cK rfl ?_
  refine aN (aF (aG (aV (aG (aB ?_)))))
  refine aA (mA 1 _ sP bJ rfl rfl (by decide) (by decide) rfl rfl) rfl rfl ?_
  refine aW fY M24 rfl rfl (fun b25 w25 M25 => ?_)
  refine bH 10 _ bJ M25 rfl rfl rfl rfl rfl (aY rfl) rfl (fun w26 M26 => ?_)
  refine aC (aF ?_)
  refine bS [(0, 0), (1, 1), (2, 1), (3, 1), (5, 1), (4, 2), (6, 2)] mixed rfl (by kernel_rfl) (fun w27 hb27 hh27 => ?_)
  have M27 := M26.drew hb27 hh27
  refine aU rfl rfl rfl (fun _ => aD (.func _ _ _) rfl) ?_
  refine cB rfl rfl rfl (bE 0 bJ M27 rfl rfl rfl) ?_
  refine cB rfl rfl rfl (bE 1 bJ M27 rfl rfl rfl) ?_
  refine cB rfl rfl rfl (bE 10 bJ M27 rfl rfl rfl) ?_
  refine cB rfl rfl rfl (bE 10 bJ M27 rfl rfl rfl) ?_
  refine dU [false, true, true, true] rfl (by kernel_rfl) ?_
  refine aK aCo rfl rfl rfl ?_
  refine (jP _ ap aq bq h1 h2.hq).mono ?_
  rintro _ w28 ⟨v28, rfl, ⟨rfl, hb28⟩⟩
  refine ⟨_, rfl, ?_⟩
  have M28 := M27.callB hb28
  refine aC (aF ⟨(eS (bQ rfl (bE 10 bJ M28 rfl rfl rfl)) dV), ?_⟩)
  refine dU [true] rfl (by kernel_rfl) ?_
  refine aK aCq rfl rfl rfl ?_
  refine (vE _ s (dT ap aq bq) bq _ _ _ (eP h1) h2.hq (M28.ownSeg 4 3)).mono ?_
  rintro _ w29 ⟨v29, rfl, ⟨rfl, hM29⟩⟩
  refine ⟨_, rfl, ?_⟩
  have M29 : Mem _ _ [_, _, _, _, _, _, _, _, _, _, _] _ := M28.seg 4 3 hM29
  obtain ⟨s, hs⟩ : ∃ z, z = fI s (dT ap aq bq) bq := ⟨_, rfl⟩
  rw [← hs] at M29
  replace hC := hC.step (x := (dT ap aq bq)) (y := bq) (eP h1) h2.hq
  rw [← hs] at hC
  replace hS := hs.trans (congrArg (fun z => fI z (dT ap aq bq) bq) hS)
  refine aC (aF ⟨dV, ?_⟩)
  refine cF ?_
  refine dB ?_
  refine aF (aB ?_)
  refine aA (bM rfl rfl (by first | decide | omega) (by first | decide | omega)) rfl rfl ?_
  refine aM 44 (.int .i64 2) (iE (by first | decide | omega)) ?_
  refine aA (aD (.int _ _) rfl) rfl rfl ?_
  refine aC ?_
  refine aF (gJ ?_)
  refine aG (aB ?_)
  refine aA (aP (.bool (decide _)) rfl rfl rfl) rfl rfl ?_
  refine aM 35 (.bool false) (bF (by first | decide | omega)).symm ?_
  refine aC (aF (aG ?_))
  refine cH rfl ?_
  refine cP ?_
  refine dA (dA ?_)
  refine eQ ?_
  refine aF (aG ?_)
  refine bS [(0, 1), (1, 1), (2, 1), (3, 2), (4, 2), (5, 2)] mixed rfl (by kernel_rfl) (fun w30 hb30 hh30 => ?_)
  have M30 := M29.drew hb30 hh30
  refine cB rfl rfl rfl (bE 4 bJ M30 rfl rfl rfl) ?_
  refine cB rfl rfl rfl (bE 5 bJ M30 rfl rfl rfl) ?_
  refine cB rfl rfl rfl (aQ 6 (.int _ _) nT M30 rfl rfl rfl) ?_
  refine dU [false, false, true] rfl (by kernel_rfl) ?_
  refine bH 4 _ bJ M30 rfl rfl rfl rfl rfl (aY rfl) rfl (fun w31 M31 => ?_)
  refine aC (aF ⟨(eS (bQ rfl (aQ 6 (.int _ _) nT M31 rfl rfl rfl)) (eS (bQ rfl (bE 5 bJ M31 rfl rfl rfl)) dV)), ?_⟩)
  refine dU [false, true] rfl (by kernel_rfl) ?_
  refine bH 5 _ bJ M31 rfl rfl rfl rfl rfl (aY rfl) rfl (fun w32 M32 => ?_)
  refine aC (aF ⟨(eS (bQ rfl (aQ 6 (.int _ _) nT M32 rfl rfl rfl)) dV), ?_⟩)
  refine dU [true] rfl (by kernel_rfl) ?_
  refine dX 6 (.int _ _) nT M32 rfl rfl rfl rfl rfl rfl (fun w33 M33 => ?_)
  refine aC (aF ⟨dV, ?_⟩)
  refine cF ?_
  refine aF (aR ?_)
  refine aZa 4 5 6 bJ nT M33 rfl rfl rfl rfl rfl rfl rfl rfl ?_
  exact ⟨by rw [show s = oO ap aq bp bq from hS], M33.below⟩
set_option maxHeartbeats 4000000 in
theorem aHl (w : World) (ap aq bp bq : Pt) (h1 : SgI ap aq) (h2 : SgI bp bq) :
    Calls Tryz.prog 199 #[(.agg (cM ap).toArray), (.agg (cM aq).toArray), (.agg (cM bp).toArray), (.agg (cM bq).toArray)] w (fun ex w' => ∃ v, ex = .returned v ∧ (fun v w' => v = .tuple #[(.agg (cM (oO ap aq bp bq).1).toArray), (.agg (cM (oO ap aq bp bq).2.1).toArray)] ∧ Below w.heap.size w w') v w') := by
  refine aJ #[.cell 8 38, .cell 9 38] 21 Tryz.func199 rfl Tryz.results199 Tryz.ntmps199 rfl ?_
  have M0 := Mem.refl w
  refine aG (aB ?_)
  refine bL (.agg (List.toArray _)) M0 rfl rfl rfl (fun b1 w1 M1 => ?_)
  refine bL (.agg (List.toArray _)) M1 rfl rfl rfl (fun b2 w2 M2 => ?_)
  refine bL (.agg (List.toArray _)) M2 rfl rfl rfl (fun b3 w3 M3 => ?_)
  refine bL (.agg (List.toArray _)) M3 rfl rfl rfl (fun b4 w4 M4 => ?_)
  refine aW fY M4 rfl rfl (fun b5 w5 M5 => ?_)
  refine aW fY M5 rfl rfl (fun b6 w6 M6 => ?_)
  refine aC (aF (aG (aB ?_)))
  refine aA (bE 0 bJ M6 rfl rfl rfl) rfl rfl ?_
  refine aA (bE 1 bJ M6 rfl rfl rfl) rfl rfl ?_
  refine aA (bE 2 bJ M6 rfl rfl rfl) rfl rfl ?_
  refine aA (bE 3 bJ M6 rfl rfl rfl) rfl rfl ?_
  refine aK bAv rfl rfl rfl ?_
  refine (aIw _ ap aq bp bq h1 h2).mono ?_
  rintro _ w7 ⟨v7, rfl, ⟨rfl, hb7⟩⟩
  refine ⟨_, rfl, ?_⟩
  have M7 := M6.callB hb7
  refine aA (aD (.tuple (List.toArray _)) rfl) rfl rfl ?_
  refine aA (bG (.agg (List.toArray _)) rfl rfl) rfl rfl ?_
  refine aA (bG (.agg (List.toArray _)) rfl rfl) rfl rfl ?_
  refine aA (bG (.int _ _) rfl rfl) rfl rfl ?_
  refine bH 4 _ bJ M7 rfl rfl rfl rfl rfl (aY rfl) rfl (fun w8 M8 => ?_)
  refine bH 5 _ bJ M8 rfl rfl rfl rfl rfl (aY rfl) rfl (fun w9 M9 => ?_)
  refine aC (aF (aG ?_))
  refine bS [(0, 1), (1, 1), (2, 2), (3, 2)] mixed rfl (by kernel_rfl) (fun w10 hb10 hh10 => ?_)
  have M10 := M9.drew hb10 hh10
  refine cB rfl rfl rfl (bE 4 bJ M10 rfl rfl rfl) ?_
  refine cB rfl rfl rfl (bE 5 bJ M10 rfl rfl rfl) ?_
  refine dU [false, true] rfl (by kernel_rfl) ?_
  refine bH 4 _ bJ M10 rfl rfl rfl rfl rfl (aY rfl) rfl (fun w11 M11 => ?_)
  refine aC (aF ⟨(eS (bQ rfl (bE 5 bJ M11 rfl rfl rfl)) dV), ?_⟩)
  refine dU [true] rfl (by kernel_rfl) ?_
  refine bH 5 _ bJ M11 rfl rfl rfl rfl rfl (aY rfl) rfl (fun w12 M12 => ?_)
  refine aC (aF ⟨dV, ?_⟩)
  refine cF ?_
  refine aF (aR ?_)
  refine aJr 4 5 bJ M12 rfl rfl rfl rfl rfl rfl ?_
  exact ⟨rfl, M12.below⟩
end Go.Proofs.YtlmcphcgiclanaaGreatDoor

namespace Go.Proofs.YtlmcphcgiclanaaGreatDoor
open Go.Bil
open Go.RowKit (Below)
open Go.Proofs
set_option maxHeartbeats 4000000 in
theorem vA (w : World) (b : Body) (hb : Okb b) :
    Calls Tryz.prog 198 #[(.agg (aI b).toArray)] w (fun ex w' => ∃ v, ex = .returned v ∧ (fun v w' => v = (.agg (lK b).toArray) ∧ Below w.heap.size w w') v w') := by
  refine aJ #[.cell 2 239] 14 Tryz.func198 rfl Tryz.results198 Tryz.ntmps198 rfl ?_
  have M0 := Mem.refl w
  refine aG (aB ?_)
  refine bL (.agg (List.toArray _)) M0 rfl rfl rfl (fun b1 w1 M1 => ?_)
  refine aW sA M1 rfl rfl (fun b2 w2 M2 => ?_)
  refine aC (aF (aG (aB ?_)))
  refine aA (bE 0 bO M2 rfl rfl rfl) rfl rfl ?_
  refine aK bAd rfl rfl rfl ?_
  refine (aOo _ b hb).mono ?_
  rintro _ w3 ⟨v3, rfl, ⟨rfl, hb3⟩⟩
  refine ⟨_, rfl, ?_⟩
  have M3 := M2.callB hb3
  refine aA (aD (.tuple (List.toArray _)) rfl) rfl rfl ?_
  refine aA (bG (.agg (List.toArray _)) rfl rfl) rfl rfl ?_
  refine aA (bG (.agg (List.toArray _)) rfl rfl) rfl rfl ?_
  refine aW fY M3 rfl rfl (fun b4 w4 M4 => ?_)
  refine aW fY M4 rfl rfl (fun b5 w5 M5 => ?_)
  refine bH 2 _ bJ M5 rfl rfl rfl rfl rfl (aY rfl) rfl (fun w6 M6 => ?_)
  refine bH 3 _ bJ M6 rfl rfl rfl rfl rfl (aY rfl) rfl (fun w7 M7 => ?_)
  refine aC (aF (aG (aB ?_)))
  refine aA (bE 0 bO M7 rfl rfl rfl) rfl rfl ?_
  refine aA (bE 2 bJ M7 rfl rfl rfl) rfl rfl ?_
  refine aA (bE 3 bJ M7 rfl rfl rfl) rfl rfl ?_
  refine aA (cN [(0, .agg (List.toArray _)), (1, .agg (List.toArray _)), (2, .agg (List.toArray _))] _ aNd rfl rfl) rfl rfl ?_
  refine bH 1 _ kF M7 rfl rfl rfl rfl rfl (aY rfl) rfl (fun w8 M8 => ?_)
  refine aC (aF (aR ?_))
  refine iX 1 kF M8 rfl rfl rfl ?_
  exact ⟨rfl, M8.below⟩
set_option maxHeartbeats 4000000 in
theorem aVn (w : World) (a b : Body) (ha : Okb a) (hb : Okb b) :
    Calls Tryz.prog 171 #[(.agg (aI a).toArray), (.agg (aI b).toArray)] w (fun ex w' => ∃ v, ex = .returned v ∧ (fun v w' => v = .tuple #[(.agg (lK (loB a b)).toArray), (.agg (lK (hiB a b)).toArray)] ∧ Below w.heap.size w w') v w') := by
  refine aJ #[.cell 4 239, .cell 5 239] 17 Tryz.func171 rfl Tryz.results171 Tryz.ntmps171 rfl ?_
  have M0 := Mem.refl w
  refine aG (aB ?_)
  refine bL (.agg (List.toArray _)) M0 rfl rfl rfl (fun b1 w1 M1 => ?_)
  refine bL (.agg (List.toArray _)) M1 rfl rfl rfl (fun b2 w2 M2 => ?_)
  refine aW sA M2 rfl rfl (fun b3 w3 M3 => ?_)
  refine aW sA M3 rfl rfl (fun b4 w4 M4 => ?_)
  refine aC (aF (aG (aG (aB ?_))))
  refine aA (aH 0 dJ rfl) rfl rfl ?_
  refine aA (aQ 0 (.int _ _) bR M4 rfl rfl rfl) rfl rfl ?_
  refine aA (aH 0 dJ rfl) rfl rfl ?_
  refine aA (aQ 1 (.int _ _) bR M4 rfl rfl rfl) rfl rfl ?_
  refine aA (aP (.bool (decide _)) rfl rfl rfl) rfl rfl ?_
  refine aC (aF ?_)
  refine aZ rfl (fun h10 => ?_) (fun h10 => ?_)
  · refine aB ?_
    refine aA (bE 1 bO M4 rfl rfl rfl) rfl rfl ?_
    refine aA (bE 0 bO M4 rfl rfl rfl) rfl rfl ?_
    refine bH 0 _ bO M4 rfl rfl rfl rfl rfl (aY rfl) rfl (fun w5 M5 => ?_)
    refine bH 1 _ bO M5 rfl rfl rfl rfl rfl (aY rfl) rfl (fun w6 M6 => ?_)
    refine aC (aF (aG ?_))
    refine bS [(0, 1), (2, 1), (1, 2), (3, 2), (4, 2), (5, 2)] mixed rfl (by kernel_rfl) (fun w7 hb7 hh7 => ?_)
    have M7 := M6.drew hb7 hh7
    refine cB rfl rfl rfl (bE 0 bO M7 rfl rfl rfl) ?_
    refine cB rfl rfl rfl (bE 1 bO M7 rfl rfl rfl) ?_
    refine dU [false, true] rfl (by kernel_rfl) ?_
    refine aK aBs rfl rfl rfl ?_
    refine (vA _ b hb).mono ?_
    rintro _ w8 ⟨v8, rfl, ⟨rfl, hb8⟩⟩
    refine ⟨_, rfl, ?_⟩
    have M8 := M7.callB hb8
    refine aC (aF ⟨(eS (bQ rfl (bE 1 bO M8 rfl rfl rfl)) dV), ?_⟩)
    refine dU [true] rfl (by kernel_rfl) ?_
    refine aK aBs rfl rfl rfl ?_
    refine (vA _ a ha).mono ?_
    rintro _ w9 ⟨v9, rfl, ⟨rfl, hb9⟩⟩
    refine ⟨_, rfl, ?_⟩
    have M9 := M8.callB hb9
    refine aC (aF ⟨dV, ?_⟩)
    refine dU [] rfl (by kernel_rfl) ?_
    refine bH 2 _ kF M9 rfl rfl rfl rfl rfl (aY rfl) rfl (fun w10 M10 => ?_)
    refine aC (aF ⟨dV, ?_⟩)
    refine dU [] rfl (by kernel_rfl) ?_
    refine bH 3 _ kF M10 rfl rfl rfl rfl rfl (aY rfl) rfl (fun w11 M11 => ?_)
    refine aC (aF ⟨dV, ?_⟩)
    refine cF ?_
    refine aF (aR ?_)
    refine aJr 2 3 kF M11 rfl rfl rfl rfl rfl rfl ?_
    exact ⟨by unfold loB hiB; first | rw [if_pos (by omega), if_pos (by omega)] | rw [if_neg (by omega), if_neg (by omega)], M11.below⟩
  · refine aN (aF (aG ?_))
    refine bS [(0, 1), (2, 1), (1, 2), (3, 2), (4, 2), (5, 2)] mixed rfl (by kernel_rfl) (fun w12 hb12 hh12 => ?_)
    have M12 := M4.drew hb12 hh12
    refine cB rfl rfl rfl (bE 0 bO M12 rfl rfl rfl) ?_
    refine cB rfl rfl rfl (bE 1 bO M12 rfl rfl rfl) ?_
    refine dU [false, true] rfl (by kernel_rfl) ?_
    refine aK aBs rfl rfl rfl ?_
    refine (vA _ a ha).mono ?_
    rintro _ w13 ⟨v13, rfl, ⟨rfl, hb13⟩⟩
    refine ⟨_, rfl, ?_⟩
    have M13 := M12.callB hb13
    refine aC (aF ⟨(eS (bQ rfl (bE 1 bO M13 rfl rfl rfl)) dV), ?_⟩)
    refine dU [true] rfl (by kernel_rfl) ?_
    refine aK aBs rfl rfl rfl ?_
    refine (vA _ b hb).mono ?_
    rintro _ w14 ⟨v14, rfl, ⟨rfl, hb14⟩⟩
    refine ⟨_, rfl, ?_⟩
    have M14 := M13.callB hb14
    refine aC (aF ⟨dV, ?_⟩)
    refine dU [] rfl (by kernel_rfl) ?_
    refine bH 2 _ kF M14 rfl rfl rfl rfl rfl (aY rfl) rfl (fun w15 M15 => ?_)
    refine aC (aF ⟨dV, ?_⟩)
    refine dU [] rfl (by kernel_rfl) ?_
    refine bH 3 _ kF M15 rfl rfl rfl rfl rfl (aY rfl) rfl (fun w16 M16 => ?_)
    refine aC (aF ⟨dV, ?_⟩)
    refine cF ?_
    refine aF (aR ?_)
    refine aJr 2 3 kF M16 rfl rfl rfl rfl rfl rfl ?_
    exact ⟨by unfold loB hiB; first | rw [if_pos (by omega), if_pos (by omega)] | rw [if_neg (by omega), if_neg (by omega)], M16.below⟩
set_option maxHeartbeats 4000000 in
theorem aUy (w : World) (a b : Body) (ha : Okb a) (hb : Okb b) :
    Calls Tryz.prog 172 #[(.agg (lK a).toArray), (.agg (lK b).toArray)] w (fun ex w' => ∃ v, ex = .returned v ∧ (fun v w' => v = .tuple #[.int .i64 (vQ (uD a b)), .int .i64 (vH (uD a b)), .int .i64 (a.radius + b.radius)] ∧ Below w.heap.size w w') v w') := by
  have hra := ha.r
  have hrb := hb.r
  have hch := xY ha hb
  refine aJ #[.tmp 4, .tmp 5, .tmp 6] 38 Tryz.func172 rfl Tryz.results172 Tryz.ntmps172 rfl ?_
  have M0 := Mem.refl w
  refine aG (aB ?_)
  refine bL (.agg (List.toArray _)) M0 rfl rfl rfl (fun b1 w1 M1 => ?_)
  refine bL (.agg (List.toArray _)) M1 rfl rfl rfl (fun b2 w2 M2 => ?_)
  refine aA (aE (.int _ _) rfl) rfl rfl ?_
  refine aA (aE (.int _ _) rfl) rfl rfl ?_
  refine aA (aE (.int _ _) rfl) rfl rfl ?_
  refine aC (aF (aG (aB ?_)))
  refine aA (aH 10 aFx rfl) rfl rfl ?_
  refine aA (qP 0 _ bJ M2 rfl rfl rfl rfl) rfl rfl ?_
  refine aA (aH 12 aDr rfl) rfl rfl ?_
  refine aA (qP 0 _ bJ M2 rfl rfl rfl rfl) rfl rfl ?_
  refine aA (aH 10 aFx rfl) rfl rfl ?_
  refine aA (qP 1 _ bJ M2 rfl rfl rfl rfl) rfl rfl ?_
  refine aA (aH 12 aDr rfl) rfl rfl ?_
  refine aA (qP 1 _ bJ M2 rfl rfl rfl rfl) rfl rfl ?_
  refine aK bAt rfl rfl rfl ?_
  refine (aHl _ (aEp a) (aEe a) (aEp b) (aEe b) (uS ha) (uS hb)).mono ?_
  rintro _ w3 ⟨v3, rfl, ⟨rfl, hb3⟩⟩
  refine ⟨_, rfl, ?_⟩
  have M3 := M2.callB hb3
  refine aA (aD (.tuple (List.toArray _)) rfl) rfl rfl ?_
  refine aA (bG (.agg (List.toArray _)) rfl rfl) rfl rfl ?_
  refine aA (bG (.agg (List.toArray _)) rfl rfl) rfl rfl ?_
  refine aW fY M3 rfl rfl (fun b4 w4 M4 => ?_)
  refine aW fY M4 rfl rfl (fun b5 w5 M5 => ?_)
  refine bH 2 _ bJ M5 rfl rfl rfl rfl rfl (aY rfl) rfl (fun w6 M6 => ?_)
  refine bH 3 _ bJ M6 rfl rfl rfl rfl rfl (aY rfl) rfl (fun w7 M7 => ?_)
  refine aC (aF (aG (aB ?_)))
  refine aA (bE 2 bJ M7 rfl rfl rfl) rfl rfl ?_
  refine aA (bE 3 bJ M7 rfl rfl rfl) rfl rfl ?_
  refine aK yN rfl rfl rfl ?_
  refine (nV _ (uD a b).1 (uD a b).2.1 hch.a.i32 hch.b.i32).mono ?_
  rintro _ w8 ⟨v8, rfl, ⟨rfl, hb8⟩⟩
  refine ⟨_, rfl, ?_⟩
  have M8 := M7.callB hb8
  refine aA (aD (.tuple (List.toArray _)) rfl) rfl rfl ?_
  refine aA (bG (.int _ _) rfl rfl) rfl rfl ?_
  refine aA (bG (.int _ _) rfl rfl) rfl rfl ?_
  refine aA (aE (.int _ _) rfl) rfl rfl ?_
  refine aA (aE (.int _ _) rfl) rfl rfl ?_
  refine aC (aF (aG ?_))
  refine bS [(0, 0), (1, 0), (2, 0), (3, 0), (4, 1), (5, 0), (6, 0), (7, 0), (8, 1), (9, 0), (10, 0), (11, 0), (12, 0), (13, 0)] mixed rfl (by kernel_rfl) (fun w9 hb9 hh9 => ?_)
  have M9 := M8.drew hb9 hh9
  refine aU rfl rfl rfl (fun _ => aD (.int _ _) rfl) ?_
  refine aU rfl rfl rfl (fun _ => aD (.int _ _) rfl) ?_
  refine aU rfl rfl rfl (fun _ => aH 0 rL rfl) ?_
  refine aU rfl rfl rfl (fun _ => aH 1 jM rfl) ?_
  refine cB rfl rfl rfl (aQ 0 (.int _ _) aX M9 rfl rfl rfl) ?_
  refine aU rfl rfl rfl (fun _ => bV fL Tryz.underlying2 rfl (jY _ (by omega) (by omega))) ?_
  refine aU rfl rfl rfl (fun _ => aH 0 rL rfl) ?_
  refine aU rfl rfl rfl (fun _ => aH 1 jM rfl) ?_
  refine cB rfl rfl rfl (aQ 1 (.int _ _) aX M9 rfl rfl rfl) ?_
  refine aU rfl rfl rfl (fun _ => bV fL Tryz.underlying2 rfl (jY _ (by omega) (by omega))) ?_
  refine aU rfl rfl rfl (fun _ => bM rfl rfl (by omega) (by omega)) ?_
  refine aU rfl rfl rfl (fun _ => aE (.int _ _) rfl) ?_
  refine aU rfl rfl rfl (fun _ => aE (.int _ _) rfl) ?_
  refine aU rfl rfl rfl (fun _ => aE (.int _ _) rfl) ?_
  refine cF ?_
  refine aF (aR ?_)
  refine bEp (.int _ _) (.int _ _) (.int _ _) rfl rfl rfl ?_
  exact ⟨rfl, M9.below⟩
set_option maxHeartbeats 4000000 in
theorem xB (w : World) (a b : Body) (ha : Okb a) (hb : Okb b) :
    Calls Tryz.prog 137 #[(.agg (aI a).toArray), (.agg (aI b).toArray)] w (fun ex w' => ∃ v, ex = .returned v ∧ (fun v w' => v = .tuple #[.agg (bAf (nM a b)).toArray, .bool (nM a b).isSome] ∧ Below w.heap.size w w') v w') := by
  obtain ⟨hlo, hhi⟩ := bAa ha hb
  have hd := aXv hlo hhi
  have hl := aCg hd.1 hd.2
  have hss := aYl hlo hhi
  have hr1 := hlo.r
  have hr2 := hhi.r
  refine aJ #[.cell 4 121, .tmp 5] 52 Tryz.func137 rfl Tryz.results137 Tryz.ntmps137 rfl ?_
  have M0 := Mem.refl w
  refine aG (aB ?_)
  refine bL (.agg (List.toArray _)) M0 rfl rfl rfl (fun b1 w1 M1 => ?_)
  refine bL (.agg (List.toArray _)) M1 rfl rfl rfl (fun b2 w2 M2 => ?_)
  refine aW rR M2 rfl rfl (fun b3 w3 M3 => ?_)
  refine aA (aE (.bool false) rfl) rfl rfl ?_
  refine aC (aF (aG (aB ?_)))
  refine aA (bE 0 bO M3 rfl rfl rfl) rfl rfl ?_
  refine aA (bE 1 bO M3 rfl rfl rfl) rfl rfl ?_
  refine aK bBw rfl rfl rfl ?_
  refine (aVn _ a b ha hb).mono ?_
  rintro _ w4 ⟨v4, rfl, ⟨rfl, hb4⟩⟩
  refine ⟨_, rfl, ?_⟩
  have M4 := M3.callB hb4
  refine aA (aD (.tuple (List.toArray _)) rfl) rfl rfl ?_
  refine aA (bG (.agg (List.toArray _)) rfl rfl) rfl rfl ?_
  refine aA (bG (.agg (List.toArray _)) rfl rfl) rfl rfl ?_
  refine aW sA M4 rfl rfl (fun b5 w5 M5 => ?_)
  refine aW sA M5 rfl rfl (fun b6 w6 M6 => ?_)
  refine bH 3 _ kF M6 rfl rfl rfl rfl rfl (aY rfl) rfl (fun w7 M7 => ?_)
  refine bH 4 _ kF M7 rfl rfl rfl rfl rfl (aY rfl) rfl (fun w8 M8 => ?_)
  refine aC (aF (aG (aB ?_)))
  refine aA (bE 3 kF M8 rfl rfl rfl) rfl rfl ?_
  refine aA (bE 4 kF M8 rfl rfl rfl) rfl rfl ?_
  refine aK aZw rfl rfl rfl ?_
  refine (aUy _ (loB a b) (hiB a b) hlo hhi).mono ?_
  rintro _ w9 ⟨v9, rfl, ⟨rfl, hb9⟩⟩
  refine ⟨_, rfl, ?_⟩
  have M9 := M8.callB hb9
  refine aA (aD (.tuple (List.toArray _)) rfl) rfl rfl ?_
  refine aA (bG (.int _ _) rfl rfl) rfl rfl ?_
  refine aA (bG (.int _ _) rfl rfl) rfl rfl ?_
  refine aA (bG (.int _ _) rfl rfl) rfl rfl ?_
  refine aA (aE (.int _ _) rfl) rfl rfl ?_
  refine aA (aE (.int _ _) rfl) rfl rfl ?_
  refine aA (aE (.int _ _) rfl) rfl rfl ?_
  refine aC (aF (aG (aG (aB ?_))))
  refine aA (aD (.int _ _) rfl) rfl rfl ?_
  refine aA (aD (.int _ _) rfl) rfl rfl ?_
  refine aK aHv rfl rfl rfl ?_
  refine (nB _ (vQ (uD (loB a b) (hiB a b))) (vH (uD (loB a b) (hiB a b))) hd.1 hd.2).mono ?_
  rintro _ w10 ⟨v10, rfl, ⟨rfl, hb10⟩⟩
  refine ⟨_, rfl, ?_⟩
  have M10 := M9.callB hb10
  refine aA (aD (.int _ _) rfl) rfl rfl ?_
  refine aA (aD (.int _ _) rfl) rfl rfl ?_
  refine aA (fR rfl rfl (by omega) (by omega)) rfl rfl ?_
  refine aA (dR us2 Tryz.underlying170 rfl) rfl rfl ?_
  refine aM 31 (.int .u64 ((((loB a b).radius + (hiB a b).radius).natAbs * ((loB a b).radius + (hiB a b).radius).natAbs : Nat) : Int)) (iE (aTx _ hss)) ?_
  refine aA (aP (.bool (decide _)) rfl rfl rfl) rfl rfl ?_
  refine aC (aF ?_)
  refine aZ rfl (fun h32 => ?_) (fun h32 => ?_)
  · refine aG (aB ?_)
    refine aA (cN [] _ aAm rfl rfl) rfl rfl ?_
    refine bH 2 _ fX M10 rfl rfl rfl rfl rfl (aY rfl) rfl (fun w11 M11 => ?_)
    refine aA (aE (.bool false) rfl) rfl rfl ?_
    refine aC (aF (aR (cC ?_)))
    refine zO (v2 := .bool false) 2 fX M11 rfl rfl rfl rfl ?_
    exact ⟨by rw [aDs]; unfold mW; first | (rw [if_pos (by omega)]; rfl) | (rw [if_neg (by omega)]; rfl), M11.below⟩
  · refine aN (aF (aG (aB ?_)))
    refine aA (aH 0 rL rfl) rfl rfl ?_
    refine aA (aH 0 dJ rfl) rfl rfl ?_
    refine aA (aQ 3 (.int _ _) bR M10 rfl rfl rfl) rfl rfl ?_
    refine aA (aH 0 rL rfl) rfl rfl ?_
    refine aA (aH 0 dJ rfl) rfl rfl ?_
    refine aA (aQ 4 (.int _ _) bR M10 rfl rfl rfl) rfl rfl ?_
    refine aA (cN [(0, .int _ _), (1, .int _ _)] _ zX rfl rfl) rfl rfl ?_
    refine aW pG M10 rfl rfl (fun b12 w12 M12 => ?_)
    refine bH 5 _ fT M12 rfl rfl rfl rfl rfl (aY rfl) rfl (fun w13 M13 => ?_)
    refine aC (aF (aG ?_))
    refine bS [(0, 1), (1, 0), (2, 0), (4, 0), (5, 0), (6, 0), (3, 2), (7, 2), (8, 0), (9, 0), (10, 0), (11, 2), (12, 0)] mixed rfl (by kernel_rfl) (fun w14 hb14 hh14 => ?_)
    have M14 := M13.drew hb14 hh14
    refine cB rfl rfl rfl (bE 5 fT M14 rfl rfl rfl) ?_
    refine aU rfl rfl rfl (fun _ => aD (.int _ _) rfl) ?_
    refine aU rfl rfl rfl (fun _ => aD (.int _ _) rfl) ?_
    refine aU rfl rfl rfl (fun _ => aD (.int _ _) rfl) ?_
    refine aU rfl rfl rfl (fun _ => aD (.int _ _) rfl) ?_
    refine aU rfl rfl rfl (fun _ => aD (.int _ _) rfl) ?_
    refine dU [false] rfl (by kernel_rfl) ?_
    refine aK aZf rfl rfl rfl ?_
    refine (aPh _ (vQ (uD (loB a b) (hiB a b))) (vH (uD (loB a b) (hiB a b))) hd.1 hd.2).mono ?_
    rintro _ w15 ⟨v15, rfl, ⟨rfl, hb15⟩⟩
    refine ⟨_, rfl, ?_⟩
    have M15 := M14.callB hb15
    refine aC (aF ⟨(eS (bQ rfl (bE 5 fT M15 rfl rfl rfl)) dV), ?_⟩)
    refine dU [false] rfl (by kernel_rfl) ?_
    refine aK aRj rfl rfl rfl ?_
    refine (wG _ (vQ (uD (loB a b) (hiB a b))) (vH (uD (loB a b) (hiB a b))) hd.1 hd.2).mono ?_
    rintro _ w16 ⟨v16, rfl, ⟨rfl, hb16⟩⟩
    refine ⟨_, rfl, ?_⟩
    have M16 := M15.callB hb16
    refine aC (aF ⟨(eS (bQ rfl (bE 5 fT M16 rfl rfl rfl)) dV), ?_⟩)
    refine aU rfl rfl rfl (fun _ => mL rfl rfl (by omega) (by omega)) ?_
    refine aU rfl rfl rfl (fun _ => dR us2 Tryz.underlying21 rfl) ?_
    refine aU rfl rfl rfl (fun _ => cN [(0, .agg (List.toArray _)), (1, .agg (List.toArray _)), (2, .int _ _)] _ aAm rfl rfl) ?_
    refine dU [true] rfl (by kernel_rfl) ?_
    refine bH 2 _ fX M16 rfl rfl rfl rfl rfl (aY rfl) rfl (fun w17 M17 => ?_)
    refine aC (aF ⟨dV, ?_⟩)
    refine aU rfl rfl rfl (fun _ => aE (.bool true) rfl) ?_
    refine cF ?_
    refine aF (aR ?_)
    refine zO (v2 := .bool true) 2 fX M17 rfl rfl rfl rfl ?_
    exact ⟨by rw [aDs]; unfold mW; first | (rw [if_pos (by omega)]; rfl) | (rw [if_neg (by omega)]; rfl), M17.below⟩
end Go.Proofs.YtlmcphcgiclanaaGreatDoor
