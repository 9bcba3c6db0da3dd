/- Part of the proof of the laws of this seat: Z1, Z1b, Z1c, Z1d, W3, Z2, W4, Z3, Z4, W5, W6. No conditions. -/
import Derived.Test.YtlmcphcgiclanaaGreatDoorK5
import Derived.Test.YtlmcphcgiclanaaGreatDoorK12
import Derived.Test.YtlmcphcgiclanaaGreatDoorK18
import Derived.Test.YtlmcphcgiclanaaGreatDoorK11
import Derived.Test.YtlmcphcgiclanaaGreatDoorK17
set_option linter.unusedVariables false
set_option linter.unusedSimpArgs false
set_option linter.unnecessarySimpa false
namespace Go.Proofs.YtlmcphcgiclanaaGreatDoor
open Go.Bil
open Go.RowKit (Below)
open Go.Proofs
end Go.Proofs.YtlmcphcgiclanaaGreatDoor

namespace Go.Proofs.YtlmcphcgiclanaaGreatDoor
open Go.Bil
open Go.RowKit (Below)
open Go.Proofs
end Go.Proofs.YtlmcphcgiclanaaGreatDoor

namespace Go.Proofs.YtlmcphcgiclanaaGreatDoor
open Go.Bil
open Go.RowKit (Below)
open Go.Proofs
end Go.Proofs.YtlmcphcgiclanaaGreatDoor

namespace Go.Proofs.YtlmcphcgiclanaaGreatDoor
open Go.Bil
open Go.RowKit (Below)
open Go.Proofs
end Go.Proofs.YtlmcphcgiclanaaGreatDoor

namespace Go.Proofs.YtlmcphcgiclanaaGreatDoor
open Go.Bil
open Go.RowKit (Below)
open Go.Proofs
set_option maxHeartbeats 8000000 in
theorem aVv (w : World) (n : Nat) (hn : n < 18446744073709551616) :
    Calls Tryz.prog 203 #[.int .u64 (n : Int)] w (fun ex w' => ∃ v, ex = .returned v ∧ (fun v w' => v = .int .u64 ((qX n : Nat) : Int) ∧ Below w.heap.size w w') v w') := by
  refine aJ #[.tmp 2] 32 Tryz.func203 rfl Tryz.results203 Tryz.ntmps203 rfl ?_
  have M0 := Mem.refl w
  refine aG (aB ?_)
  refine aA (aD (.int _ _) rfl) rfl rfl ?_
  refine aE (aF (aG (aB ?_)))
  refine aA (aC (.int _ _) rfl) rfl rfl ?_
  refine aA (aD (.int _ _) rfl) rfl rfl ?_
  refine aA (aD (.int _ _) rfl) rfl rfl ?_
  refine aE (aF (aG (aG (aB ?_))))
  refine aA (aC (.int _ _) rfl) rfl rfl ?_
  refine aE (aF (bA ?_))
  refine dJ (σ := Nat × Nat × Nat) [2] (fun (i, R, e) => [(8, .int .i64 (i : Int)), (3, .int .u64 ((n - R * R : Nat) : Int)), (4, .int .u64 ((R * e : Nat) : Int))]) (fun (i, R, e) w' => Iq n i R e ∧ Mem w [] [] w') (fun (i, R, e) => 32 - i) (0, 0, 4294967296) (bV rfl (bV (iv rfl (by simp)) (bV (iv rfl (by simp)) eX))) (⟨aOx hn, M0⟩) ?_
  rintro ⟨i, R, e⟩ ρ1 w1 ⟨I, hM1⟩
  have hile := I.ile
  have hle := I.le
  refine aG (aB ?_)
  refine aA (aO (.bool (decide _)) rfl rfl rfl) rfl rfl ?_
  refine aE (aF (aG ?_))
  refine aZ rfl (fun h9 => ?_) (fun h9 => ?_)
  · obtain ⟨f, hf1, hf2, hf3, hf4, hf5, hf6, hf7, hf8, hfy, hfn⟩ := aQn (by omega) I
    refine aN (aF (aG (bA (aG (aB ?_)))))
    refine aA (aC (.int _ _) rfl) rfl rfl ?_
    refine aA (aD (.int _ _) rfl) rfl rfl ?_
    refine aE (aF (aG (aB ?_)))
    refine aA (aC (.int _ _) rfl) rfl rfl ?_
    refine aA (kH rfl rfl (by omega) (by omega)) rfl rfl ?_
    refine aA (gO rfl rfl (by omega)) rfl rfl ?_
    refine aM 13 (.int .u64 ((f * f : Nat) : Int)) (iE ((aPp (2 * i) _ (by omega) (by omega)).trans (congrArg _ hf4))) ?_
    refine aA (aD (.int _ _) rfl) rfl rfl ?_
    refine aE (aF (aG (aB ?_)))
    refine aA (aC (.int _ _) rfl) rfl rfl ?_
    refine aA (aC (.int _ _) rfl) rfl rfl ?_
    refine aA (aC (.int _ _) rfl) rfl rfl ?_
    refine aA (aO (.int _ _) rfl rfl rfl) rfl rfl ?_
    refine aM 17 (.int .u64 ((R * e + f * f : Nat) : Int)) (iE (by rw [oO]; omega)) ?_
    refine aA (aO (.bool (decide _)) rfl rfl rfl) rfl rfl ?_
    refine aE (aF ?_)
    refine aZ rfl (fun h18 => ?_) (fun h18 => ?_)
    · have h18' : R * e + f * f ≤ n - R * R := by omega
      refine aG (aB ?_)
      refine aA (aC (.int _ _) rfl) rfl rfl ?_
      refine aA (aC (.int _ _) rfl) rfl rfl ?_
      refine aA (aC (.int _ _) rfl) rfl rfl ?_
      refine aA (aO (.int _ _) rfl rfl rfl) rfl rfl ?_
      refine aM 22 (.int .u64 ((R * e + f * f : Nat) : Int)) (iE (by rw [oO]; omega)) ?_
      refine aA (aO (.int _ _) rfl rfl rfl) rfl rfl ?_
      refine aM 23 (.int .u64 ((n - (R + f) * (R + f) : Nat) : Int)) (iE (by rw [oO]; omega)) ?_
      refine aA (aD (.int _ _) rfl) rfl rfl ?_
      refine aE (aF (aB ?_))
      refine aA (aC (.int _ _) rfl) rfl rfl ?_
      refine aA (gO rfl rfl (by decide)) rfl rfl ?_
      refine aM 25 (.int .u64 ((R * f : Nat) : Int)) (iE ((aMq (R * e)).trans (congrArg _ hf5))) ?_
      refine aA (aC (.int _ _) rfl) rfl rfl ?_
      refine aA (aO (.int _ _) rfl rfl rfl) rfl rfl ?_
      refine aM 27 (.int .u64 (((R + f) * f : Nat) : Int)) (iE (by rw [oO]; omega)) ?_
      refine aA (aD (.int _ _) rfl) rfl rfl ?_
      refine aE ?_
      refine dL ?_
      refine aF (aB ?_)
      refine aA (bW rfl rfl (by omega) (by omega)) rfl rfl ?_
      refine aA (aC (.int _ _) rfl) rfl rfl ?_
      refine aE ?_
      refine cE (i + 1, R + f, f) (bV rfl (bV rfl (bV rfl eX))) (cI rfl iO) ?_ ?_
      · exact ⟨hfy h18', hM1⟩
      · (show 32 - (i + 1) < 32 - i; omega)
    · have h18' : ¬ (R * e + f * f ≤ n - R * R) := by omega
      refine aB ?_
      refine aA (aC (.int _ _) rfl) rfl rfl ?_
      refine aA (gO rfl rfl (by decide)) rfl rfl ?_
      refine aM 29 (.int .u64 ((R * f : Nat) : Int)) (iE ((aMq (R * e)).trans (congrArg _ hf5))) ?_
      refine aA (aD (.int _ _) rfl) rfl rfl ?_
      refine aE ?_
      refine dL ?_
      refine aF (aB ?_)
      refine aA (bW rfl rfl (by omega) (by omega)) rfl rfl ?_
      refine aA (aC (.int _ _) rfl) rfl rfl ?_
      refine aE ?_
      refine cE (i + 1, R, f) (bV rfl (bV rfl (bV rfl eX))) (cI rfl iO) ?_ ?_
      · exact ⟨hfn h18', hM1⟩
      · (show 32 - (i + 1) < 32 - i; omega)
  · obtain rfl : i = 32 := by omega
    refine cL ?_
    refine dD ?_
    refine cY ?_
    refine eM ?_
    refine aF (aG (aB ?_))
    refine aA (aC (.int _ _) rfl) rfl rfl ?_
    refine aA (aD (.int _ _) rfl) rfl rfl ?_
    refine aE (aF (aR ?_))
    refine cH (.int _ _) rfl ?_
    exact ⟨iE (by rw [aPm I]), hM1.below⟩
set_option maxHeartbeats 4000000 in
theorem mZ (w : World) (a b : Int × Int) (ha : I32 a) (hb : I32 b) :
    Calls Tryz.prog 200 #[(.agg (cA a).toArray), (.agg (cA b).toArray)] w (fun ex w' => ∃ v, ex = .returned v ∧ (fun v w' => v = .tuple #[.int .i64 (b.1 - a.1), .int .i64 (b.2 - a.2)] ∧ Below w.heap.size w w') v w') := by
  have hax := ha.x
  have hay := ha.y
  have hbx := hb.x
  have hby := hb.y
  refine aJ #[.tmp 4, .tmp 5] 20 Tryz.func200 rfl Tryz.results200 Tryz.ntmps200 rfl ?_
  have M0 := Mem.refl w
  refine aG (aB ?_)
  refine bK (.agg (List.toArray _)) M0 rfl rfl rfl (fun b1 w1 M1 => ?_)
  refine bK (.agg (List.toArray _)) M1 rfl rfl rfl (fun b2 w2 M2 => ?_)
  refine aA (aD (.int _ _) rfl) rfl rfl ?_
  refine aA (aD (.int _ _) rfl) rfl rfl ?_
  refine aE (aF (aG ?_))
  refine bZ [(0, 0), (1, 1), (2, 0), (3, 0), (4, 1), (5, 0), (6, 0), (7, 0), (8, 1), (9, 0), (10, 0), (11, 1), (12, 0), (13, 0), (14, 0), (15, 0)] mixed rfl (by kernel_rfl) (fun w3 hb3 hh3 => ?_)
  have M3 := M2.drew hb3 hh3
  refine aX rfl rfl rfl (fun _ => aH 0 dQ rfl) ?_
  refine cC rfl rfl rfl (aW 1 (.int _ _) bH M3 rfl rfl rfl) ?_
  refine aX rfl rfl rfl (fun _ => bQ fT Tryz.underlying2 rfl (jT _ (by omega) (by omega))) ?_
  refine aX rfl rfl rfl (fun _ => aH 0 dQ rfl) ?_
  refine cC rfl rfl rfl (aW 0 (.int _ _) bH M3 rfl rfl rfl) ?_
  refine aX rfl rfl rfl (fun _ => bQ fT Tryz.underlying2 rfl (jT _ (by omega) (by omega))) ?_
  refine aX rfl rfl rfl (fun _ => mY rfl rfl (by omega) (by omega)) ?_
  refine aX rfl rfl rfl (fun _ => aH 1 dI rfl) ?_
  refine cC rfl rfl rfl (aW 1 (.int _ _) bH M3 rfl rfl rfl) ?_
  refine aX rfl rfl rfl (fun _ => bQ fT Tryz.underlying2 rfl (jT _ (by omega) (by omega))) ?_
  refine aX rfl rfl rfl (fun _ => aH 1 dI rfl) ?_
  refine cC rfl rfl rfl (aW 0 (.int _ _) bH M3 rfl rfl rfl) ?_
  refine aX rfl rfl rfl (fun _ => bQ fT Tryz.underlying2 rfl (jT _ (by omega) (by omega))) ?_
  refine aX rfl rfl rfl (fun _ => mY rfl rfl (by omega) (by omega)) ?_
  refine aX rfl rfl rfl (fun _ => aD (.int _ _) rfl) ?_
  refine aX rfl rfl rfl (fun _ => aD (.int _ _) rfl) ?_
  refine cF ?_
  refine aF (aR ?_)
  refine fI (.int _ _) (.int _ _) rfl rfl ?_
  exact ⟨rfl, M3.below⟩
set_option maxHeartbeats 4000000 in
theorem tR (w : World) (n : Int) (hn : sE n) :
    Calls Tryz.prog 201 #[.int .i64 n] w (fun ex w' => ∃ v, ex = .returned v ∧ (fun v w' => v = .int .u64 ((n.natAbs * n.natAbs : Nat) : Int) ∧ Below w.heap.size w w') v w') := by
  have hlt := (uN hn hn).2.1
  unfold sE at hn
  refine aJ #[.tmp 2] 12 Tryz.func201 rfl Tryz.results201 Tryz.ntmps201 rfl ?_
  have M0 := Mem.refl w
  refine aG (aB ?_)
  refine aA (aD (.int _ _) rfl) rfl rfl ?_
  refine aE (aF (aG (aG (aB ?_))))
  refine aA (aC (.int _ _) rfl) rfl rfl ?_
  refine aA (aO (.bool (decide _)) rfl rfl rfl) rfl rfl ?_
  refine aE (aF ?_)
  refine aZ rfl (fun h4 => ?_) (fun h4 => ?_)
  · refine aB ?_
    refine aA (aC (.int _ _) rfl) rfl rfl ?_
    refine aA (aAo rfl) rfl rfl ?_
    refine aM 6 (.int .i64 (-n)) (iE (jT _ (by omega) (by omega))) ?_
    refine aA (aD (.int _ _) rfl) rfl rfl ?_
    refine aE (aF (aG (aB ?_)))
    refine aA (aC (.int _ _) rfl) rfl rfl ?_
    refine aA (fA us2 Tryz.underlying170 rfl) rfl rfl ?_
    refine aM 8 (.int .u64 ((n.natAbs : Nat) : Int)) (iE (by rw [oO]; omega)) ?_
    refine aA (aC (.int _ _) rfl) rfl rfl ?_
    refine aA (fA us2 Tryz.underlying170 rfl) rfl rfl ?_
    refine aM 10 (.int .u64 ((n.natAbs : Nat) : Int)) (iE (by rw [oO]; omega)) ?_
    refine aA (aO (.int _ _) rfl rfl rfl) rfl rfl ?_
    refine aM 11 (.int .u64 ((n.natAbs * n.natAbs : Nat) : Int)) (iE (aIy _ _ (by omega))) ?_
    refine aA (aD (.int _ _) rfl) rfl rfl ?_
    refine aE (aF (aR ?_))
    refine cH (.int _ _) rfl ?_
    exact ⟨rfl, M0.below⟩
  · refine aN (aF (aG (aB ?_)))
    refine aA (aC (.int _ _) rfl) rfl rfl ?_
    refine aA (fA us2 Tryz.underlying170 rfl) rfl rfl ?_
    refine aM 8 (.int .u64 ((n.natAbs : Nat) : Int)) (iE (by rw [oO]; omega)) ?_
    refine aA (aC (.int _ _) rfl) rfl rfl ?_
    refine aA (fA us2 Tryz.underlying170 rfl) rfl rfl ?_
    refine aM 10 (.int .u64 ((n.natAbs : Nat) : Int)) (iE (by rw [oO]; omega)) ?_
    refine aA (aO (.int _ _) rfl rfl rfl) rfl rfl ?_
    refine aM 11 (.int .u64 ((n.natAbs * n.natAbs : Nat) : Int)) (iE (aIy _ _ (by omega))) ?_
    refine aA (aD (.int _ _) rfl) rfl rfl ?_
    refine aE (aF (aR ?_))
    refine cH (.int _ _) rfl ?_
    exact ⟨rfl, M0.below⟩
set_option maxHeartbeats 4000000 in
theorem lS (w : World) (dx dy : Int) (hx : sE dx) (hy : sE dy) :
    Calls Tryz.prog 173 #[.int .i64 dx, .int .i64 dy] w (fun ex w' => ∃ v, ex = .returned v ∧ (fun v w' => v = .int .u64 ((vL dx dy : Nat) : Int) ∧ Below w.heap.size w w') v w') := by
  have hl := uN hx hy
  refine aJ #[.tmp 4] 10 Tryz.func173 rfl Tryz.results173 Tryz.ntmps173 rfl ?_
  have M0 := Mem.refl w
  refine aG (aB ?_)
  refine aA (aD (.int _ _) rfl) rfl rfl ?_
  refine aE (aF (aG (aB ?_)))
  refine aA (aC (.int _ _) rfl) rfl rfl ?_
  refine aK aKq rfl rfl rfl ?_
  refine (tR _ dx hx).mono ?_
  rintro _ w1 ⟨v1, rfl, ⟨rfl, hb1⟩⟩
  refine ⟨_, rfl, ?_⟩
  have M1 := M0.callB hb1
  refine aA (aC (.int _ _) rfl) rfl rfl ?_
  refine aK aKq rfl rfl rfl ?_
  refine (tR _ dy hy).mono ?_
  rintro _ w2 ⟨v2, rfl, ⟨rfl, hb2⟩⟩
  refine ⟨_, rfl, ?_⟩
  have M2 := M1.callB hb2
  refine aA (aO (.int _ _) rfl rfl rfl) rfl rfl ?_
  refine aM 9 (.int .u64 ((vL dx dy : Nat) : Int)) (iE (by rw [oO]; unfold vL at *; omega)) ?_
  refine aA (aD (.int _ _) rfl) rfl rfl ?_
  refine aE (aF (aR ?_))
  refine cH (.int _ _) rfl ?_
  exact ⟨rfl, M2.below⟩
set_option maxHeartbeats 4000000 in
theorem uU (w : World) (dx dy : Int) (hx : sE dx) (hy : sE dy) :
    Calls Tryz.prog 175 #[.int .i64 dx, .int .i64 dy] w (fun ex w' => ∃ v, ex = .returned v ∧ (fun v w' => v = .int .i64 (len dx dy) ∧ Below w.heap.size w w') v w') := by
  have hl := zJ hx hy
  refine aJ #[.tmp 4] 10 Tryz.func175 rfl Tryz.results175 Tryz.ntmps175 rfl ?_
  have M0 := Mem.refl w
  refine aG (aB ?_)
  refine aA (aD (.int _ _) rfl) rfl rfl ?_
  refine aE (aF (aG (aB ?_)))
  refine aA (aC (.int _ _) rfl) rfl rfl ?_
  refine aA (aC (.int _ _) rfl) rfl rfl ?_
  refine aK aDp rfl rfl rfl ?_
  refine (lS _ dx dy hx hy).mono ?_
  rintro _ w1 ⟨v1, rfl, ⟨rfl, hb1⟩⟩
  refine ⟨_, rfl, ?_⟩
  have M1 := M0.callB hb1
  refine aK aUg rfl rfl rfl ?_
  refine (aVv _ (vL dx dy) (uN hx hy).1).mono ?_
  rintro _ w2 ⟨v2, rfl, ⟨rfl, hb2⟩⟩
  refine ⟨_, rfl, ?_⟩
  have M2 := M1.callB hb2
  refine aA (fA xF Tryz.underlying2 rfl) rfl rfl ?_
  refine aM 9 (.int .i64 (len dx dy)) (iE (jT (len dx dy) (by omega) (by omega))) ?_
  refine aA (aD (.int _ _) rfl) rfl rfl ?_
  refine aE (aF (aR ?_))
  refine cH (.int _ _) rfl ?_
  exact ⟨rfl, M2.below⟩
set_option maxHeartbeats 4000000 in
theorem xG (w : World) (a b : Int) (hb : 0 < b) (h0 : -1000000000000000000 ≤ a) (h1 : a ≤ 1000000000000000000) :
    Calls Tryz.prog 202 #[.int .i64 a, .int .i64 b] w (fun ex w' => ∃ v, ex = .returned v ∧ (fun v w' => v = .int .i64 (a / b) ∧ Below w.heap.size w w') v w') := by
  have hf := aAd (a := a) hb
  have hb1 := aDn a b
  refine aJ #[.tmp 4] 16 Tryz.func202 rfl Tryz.results202 Tryz.ntmps202 rfl ?_
  have M0 := Mem.refl w
  refine aG (aB ?_)
  refine aA (aD (.int _ _) rfl) rfl rfl ?_
  refine aE (aF (aG (aB ?_)))
  refine aA (aC (.int _ _) rfl) rfl rfl ?_
  refine aA (aC (.int _ _) rfl) rfl rfl ?_
  refine aA (aFf rfl rfl (by omega)) rfl rfl ?_
  refine aM 8 (.int .i64 (a.tdiv b)) (iE (jT _ (by omega) (by omega))) ?_
  refine aA (aD (.int _ _) rfl) rfl rfl ?_
  refine aE (aF (aG (aG (aB ?_))))
  refine aA (aC (.int _ _) rfl) rfl rfl ?_
  refine aA (aC (.int _ _) rfl) rfl rfl ?_
  refine aA (aFe rfl rfl (by omega)) rfl rfl ?_
  refine aA (aO (.bool (decide _)) rfl rfl rfl) rfl rfl ?_
  refine aE (aF ?_)
  refine aZ rfl (fun h12 => ?_) (fun h12 => ?_)
  · refine aB ?_
    refine aA (aC (.int _ _) rfl) rfl rfl ?_
    refine aA (mY rfl rfl (by omega) (by omega)) rfl rfl ?_
    refine aA (aD (.int _ _) rfl) rfl rfl ?_
    refine aE (aF (aG (aB ?_)))
    refine aA (aC (.int _ _) rfl) rfl rfl ?_
    refine aA (aD (.int _ _) rfl) rfl rfl ?_
    refine aE (aF (aR ?_))
    refine cH (.int _ _) rfl ?_
    exact ⟨iE (by first | exact hf.1 (by omega) | exact hf.2 (by omega)), M0.below⟩
  · refine aN (aF (aG (aB ?_)))
    refine aA (aC (.int _ _) rfl) rfl rfl ?_
    refine aA (aD (.int _ _) rfl) rfl rfl ?_
    refine aE (aF (aR ?_))
    refine cH (.int _ _) rfl ?_
    exact ⟨iE (by first | exact hf.1 (by omega) | exact hf.2 (by omega)), M0.below⟩
set_option maxHeartbeats 4000000 in
theorem aNb (w : World) (dx dy : Int) (hx : sE dx) (hy : sE dy) :
    Calls Tryz.prog 174 #[.int .i64 dx, .int .i64 dy] w (fun ex w' => ∃ v, ex = .returned v ∧ (fun v w' => v = (.agg (cA (jO dx dy)).toArray) ∧ Below w.heap.size w w') v w') := by
  have hl := zJ hx hy
  have hxx := hx
  have hyy := hy
  unfold sE at hxx hyy
  refine aJ #[.cell 4 38] 23 Tryz.func174 rfl Tryz.results174 Tryz.ntmps174 rfl ?_
  have M0 := Mem.refl w
  refine aG (aB ?_)
  refine aS gA M0 rfl rfl (fun b1 w1 M1 => ?_)
  refine aE (aF (aG (aB ?_)))
  refine aA (aC (.int _ _) rfl) rfl rfl ?_
  refine aA (aC (.int _ _) rfl) rfl rfl ?_
  refine aK aKx rfl rfl rfl ?_
  refine (uU _ dx dy hx hy).mono ?_
  rintro _ w2 ⟨v2, rfl, ⟨rfl, hb2⟩⟩
  refine ⟨_, rfl, ?_⟩
  have M2 := M1.callB hb2
  refine aA (aD (.int _ _) rfl) rfl rfl ?_
  refine aE (aF (aG (aG (aB ?_))))
  refine aA (aC (.int _ _) rfl) rfl rfl ?_
  refine aA (aO (.bool (decide _)) rfl rfl rfl) rfl rfl ?_
  refine aE (aF ?_)
  refine aZ rfl (fun h10 => ?_) (fun h10 => ?_)
  · refine aG (aB ?_)
    refine aA (cB [(0, .int _ _)] _ dZ rfl rfl) rfl rfl ?_
    refine bJ 0 _ bI M2 rfl rfl rfl rfl rfl (aU rfl) rfl (fun w3 M3 => ?_)
    refine aE (aF (aR (cP ?_)))
    refine kG 0 bI M3 rfl rfl rfl ?_
    exact ⟨by unfold jO; first | (rw [if_pos (by omega)]; rfl) | (rw [if_neg (by omega)]; rfl), M3.below⟩
  · refine aN (aF (aG (aB ?_)))
    refine aA (aC (.int _ _) rfl) rfl rfl ?_
    refine aA (wY rfl rfl (by decide)) rfl rfl ?_
    refine aM 13 (.int .i64 (dx * 65536)) (iE (wL dx hx)) ?_
    refine aA (aC (.int _ _) rfl) rfl rfl ?_
    refine aK aNw rfl rfl rfl ?_
    refine (xG _ (dx * 65536) (len dx dy) (by omega) (by omega) (by omega)).mono ?_
    rintro _ w4 ⟨v4, rfl, ⟨rfl, hb4⟩⟩
    refine ⟨_, rfl, ?_⟩
    have M4 := M2.callB hb4
    refine aA (fA us2 Tryz.underlying21 rfl) rfl rfl ?_
    refine aA (aC (.int _ _) rfl) rfl rfl ?_
    refine aA (wY rfl rfl (by decide)) rfl rfl ?_
    refine aM 18 (.int .i64 (dy * 65536)) (iE (wL dy hy)) ?_
    refine aA (aC (.int _ _) rfl) rfl rfl ?_
    refine aK aNw rfl rfl rfl ?_
    refine (xG _ (dy * 65536) (len dx dy) (by omega) (by omega) (by omega)).mono ?_
    rintro _ w5 ⟨v5, rfl, ⟨rfl, hb5⟩⟩
    refine ⟨_, rfl, ?_⟩
    have M5 := M4.callB hb5
    refine aA (fA us2 Tryz.underlying21 rfl) rfl rfl ?_
    refine aA (cB [(0, .int _ _), (1, .int _ _)] _ dZ rfl rfl) rfl rfl ?_
    refine bJ 0 _ bI M5 rfl rfl rfl rfl rfl (aU rfl) rfl (fun w6 M6 => ?_)
    refine aE (aF (aR ?_))
    refine kG 0 bI M6 rfl rfl rfl ?_
    exact ⟨by unfold jO; first | (rw [if_pos (by omega)]; rfl) | (rw [if_neg (by omega)]; rfl), M6.below⟩
end Go.Proofs.YtlmcphcgiclanaaGreatDoor

namespace Go.Proofs.YtlmcphcgiclanaaGreatDoor
open Go.Bil
open Go.RowKit (Below)
open Go.Proofs
end Go.Proofs.YtlmcphcgiclanaaGreatDoor

namespace Go.Proofs.YtlmcphcgiclanaaGreatDoor
open Go.Bil
open Go.RowKit (Below)
open Go.Proofs
set_option maxHeartbeats 4000000 in
theorem aIf (w : World) (b : Body) (hb : Okb b) :
    Calls Tryz.prog 220 #[(.agg (aI b).toArray)] w (fun ex w' => ∃ v, ex = .returned v ∧ (fun v w' => v = .tuple #[(.agg (cA (zY b)).toArray), (.agg (cA (aAp b)).toArray)] ∧ Below w.heap.size w w') v w') := by
  have ha := hb.a
  have hp := hb.p
  refine aJ #[.cell 2 38, .cell 3 38] 36 Tryz.func220 rfl Tryz.results220 Tryz.ntmps220 rfl ?_
  have M0 := Mem.refl w
  refine aG (aB ?_)
  refine bK (.agg (List.toArray _)) M0 rfl rfl rfl (fun b1 w1 M1 => ?_)
  refine aS gA M1 rfl rfl (fun b2 w2 M2 => ?_)
  refine aS gA M2 rfl rfl (fun b3 w3 M3 => ?_)
  refine aE (aF (aG (aB ?_)))
  refine aA (aH 6 fC rfl) rfl rfl ?_
  refine aA (aH 0 dQ rfl) rfl rfl ?_
  refine aA (aW 0 (.int _ _) bH M3 rfl rfl rfl) rfl rfl ?_
  refine aA (aH 2 kE rfl) rfl rfl ?_
  refine aA (aH 0 dQ rfl) rfl rfl ?_
  refine aA (aW 0 (.int _ _) bH M3 rfl rfl rfl) rfl rfl ?_
  refine aA (jS rfl rfl (jX _ (by omega) (by omega))) rfl rfl ?_
  refine aA (aH 6 fC rfl) rfl rfl ?_
  refine aA (aH 1 dI rfl) rfl rfl ?_
  refine aA (aW 0 (.int _ _) bH M3 rfl rfl rfl) rfl rfl ?_
  refine aA (aH 2 kE rfl) rfl rfl ?_
  refine aA (aH 1 dI rfl) rfl rfl ?_
  refine aA (aW 0 (.int _ _) bH M3 rfl rfl rfl) rfl rfl ?_
  refine aA (jS rfl rfl (jX _ (by omega) (by omega))) rfl rfl ?_
  refine aA (cB [(0, .int _ _), (1, .int _ _)] _ dZ rfl rfl) rfl rfl ?_
  refine bJ 1 _ bI M3 rfl rfl rfl rfl rfl (aU rfl) rfl (fun w4 M4 => ?_)
  refine aE (aF (aG (aB ?_)))
  refine aA (aH 6 fC rfl) rfl rfl ?_
  refine aA (aH 0 dQ rfl) rfl rfl ?_
  refine aA (aW 0 (.int _ _) bH M4 rfl rfl rfl) rfl rfl ?_
  refine aA (aH 2 kE rfl) rfl rfl ?_
  refine aA (aH 0 dQ rfl) rfl rfl ?_
  refine aA (aW 0 (.int _ _) bH M4 rfl rfl rfl) rfl rfl ?_
  refine aA (gB rfl rfl (jX _ (by omega) (by omega))) rfl rfl ?_
  refine aA (aH 6 fC rfl) rfl rfl ?_
  refine aA (aH 1 dI rfl) rfl rfl ?_
  refine aA (aW 0 (.int _ _) bH M4 rfl rfl rfl) rfl rfl ?_
  refine aA (aH 2 kE rfl) rfl rfl ?_
  refine aA (aH 1 dI rfl) rfl rfl ?_
  refine aA (aW 0 (.int _ _) bH M4 rfl rfl rfl) rfl rfl ?_
  refine aA (gB rfl rfl (jX _ (by omega) (by omega))) rfl rfl ?_
  refine aA (cB [(0, .int _ _), (1, .int _ _)] _ dZ rfl rfl) rfl rfl ?_
  refine bJ 2 _ bI M4 rfl rfl rfl rfl rfl (aU rfl) rfl (fun w5 M5 => ?_)
  refine aE (aF (aG ?_))
  refine bZ [(0, 1), (1, 1), (2, 2), (3, 2)] mixed rfl (by kernel_rfl) (fun w6 hb6 hh6 => ?_)
  have M6 := M5.drew hb6 hh6
  refine cC rfl rfl rfl (bB 1 bI M6 rfl rfl rfl) ?_
  refine cC rfl rfl rfl (bB 2 bI M6 rfl rfl rfl) ?_
  refine eD [false, true] rfl (by kernel_rfl) ?_
  refine bJ 1 _ bI M6 rfl rfl rfl rfl rfl (aU rfl) rfl (fun w7 M7 => ?_)
  refine aE (aF ⟨(lF (dH rfl (bB 2 bI M7 rfl rfl rfl)) eF), ?_⟩)
  refine eD [true] rfl (by kernel_rfl) ?_
  refine bJ 2 _ bI M7 rfl rfl rfl rfl rfl (aU rfl) rfl (fun w8 M8 => ?_)
  refine aE (aF ⟨eF, ?_⟩)
  refine cF ?_
  refine aF (aR ?_)
  refine aFq 1 2 bI M8 rfl rfl rfl rfl rfl rfl ?_
  exact ⟨rfl, M8.below⟩
set_option maxHeartbeats 4000000 in
theorem aCf (w : World) (p q c : Pt) (h : SgI p q) (hc : PtI c) :
    Calls Tryz.prog 244 #[(.agg (cA p).toArray), (.agg (cA q).toArray), (.agg (cA c).toArray)] w (fun ex w' => ∃ v, ex = .returned v ∧ (fun v w' => v = .tuple #[.int .i64 (mC p q c), .int .i64 (jA p q)] ∧ Below w.heap.size w w') v w') := by
  have hD := pS h
  have hx := aIn h hc
  refine aJ #[.tmp 6, .tmp 7] 42 Tryz.func244 rfl Tryz.results244 Tryz.ntmps244 rfl ?_
  have M0 := Mem.refl w
  refine aG (aB ?_)
  refine bK (.agg (List.toArray _)) M0 rfl rfl rfl (fun b1 w1 M1 => ?_)
  refine bK (.agg (List.toArray _)) M1 rfl rfl rfl (fun b2 w2 M2 => ?_)
  refine bK (.agg (List.toArray _)) M2 rfl rfl rfl (fun b3 w3 M3 => ?_)
  refine aA (aD (.int _ _) rfl) rfl rfl ?_
  refine aA (aD (.int _ _) rfl) rfl rfl ?_
  refine aE (aF (aG (aB ?_)))
  refine aA (bB 0 bI M3 rfl rfl rfl) rfl rfl ?_
  refine aA (bB 1 bI M3 rfl rfl rfl) rfl rfl ?_
  refine aK sR rfl rfl rfl ?_
  refine (mZ _ p q h.hp.i32 h.hq.i32).mono ?_
  rintro _ w4 ⟨v4, rfl, ⟨rfl, hb4⟩⟩
  refine ⟨_, rfl, ?_⟩
  have M4 := M3.callB hb4
  refine aA (aC (.tuple (List.toArray _)) rfl) rfl rfl ?_
  refine aA (bC (.int _ _) rfl rfl) rfl rfl ?_
  refine aA (bC (.int _ _) rfl rfl) rfl rfl ?_
  refine aA (aD (.int _ _) rfl) rfl rfl ?_
  refine aA (aD (.int _ _) rfl) rfl rfl ?_
  refine aE (aF (aG (aB ?_)))
  refine aA (bB 0 bI M4 rfl rfl rfl) rfl rfl ?_
  refine aA (bB 2 bI M4 rfl rfl rfl) rfl rfl ?_
  refine aK sR rfl rfl rfl ?_
  refine (mZ _ p c h.hp.i32 hc.i32).mono ?_
  rintro _ w5 ⟨v5, rfl, ⟨rfl, hb5⟩⟩
  refine ⟨_, rfl, ?_⟩
  have M5 := M4.callB hb5
  refine aA (aC (.tuple (List.toArray _)) rfl) rfl rfl ?_
  refine aA (bC (.int _ _) rfl rfl) rfl rfl ?_
  refine aA (bC (.int _ _) rfl rfl) rfl rfl ?_
  refine aA (aD (.int _ _) rfl) rfl rfl ?_
  refine aA (aD (.int _ _) rfl) rfl rfl ?_
  refine aE (aF (aG (aB ?_)))
  refine aA (aC (.int _ _) rfl) rfl rfl ?_
  refine aA (aC (.int _ _) rfl) rfl rfl ?_
  refine aA (kH rfl rfl (by omega) (by omega)) rfl rfl ?_
  refine aA (aC (.int _ _) rfl) rfl rfl ?_
  refine aA (aC (.int _ _) rfl) rfl rfl ?_
  refine aA (kH rfl rfl (by omega) (by omega)) rfl rfl ?_
  refine aA (bW rfl rfl (by omega) (by omega)) rfl rfl ?_
  refine aM 30 (.int .i64 (jA p q)) rfl ?_
  refine aA (aD (.int _ _) rfl) rfl rfl ?_
  refine aE (aF (aG (aB ?_)))
  refine aA (aC (.int _ _) rfl) rfl rfl ?_
  refine aA (aC (.int _ _) rfl) rfl rfl ?_
  refine aA (kH rfl rfl (by omega) (by omega)) rfl rfl ?_
  refine aA (aC (.int _ _) rfl) rfl rfl ?_
  refine aA (aC (.int _ _) rfl) rfl rfl ?_
  refine aA (kH rfl rfl (by omega) (by omega)) rfl rfl ?_
  refine aA (bW rfl rfl (by omega) (by omega)) rfl rfl ?_
  refine aA (aC (.int _ _) rfl) rfl rfl ?_
  refine aA (tS rfl rfl ) rfl rfl ?_
  refine aA (kS rfl rfl ) rfl rfl ?_
  refine aA (aC (.int _ _) rfl) rfl rfl ?_
  refine aA (aD (.int _ _) rfl) rfl rfl ?_
  refine aA (aD (.int _ _) rfl) rfl rfl ?_
  refine aE (aF (aR ?_))
  refine fI (.int _ _) (.int _ _) rfl rfl ?_
  exact ⟨rfl, M5.below⟩
set_option maxHeartbeats 4000000 in
theorem xP (w : World) (f a n d : Int) (bn bd : Nat) (ha : -16777216 ≤ a ∧ a ≤ 16777216) (hn : 0 ≤ n) (hnd : n ≤ d) (hd0 : 0 < d) (hd : d ≤ 562949953421312) (h1 : -16777216 ≤ a * n / d ∧ a * n / d ≤ 16777216) (h2 : -1082130432 ≤ f + a * n / d ∧ f + a * n / d ≤ 1082130432) (K1 : Rd w 1 (some ⟨bn, 0, none⟩) 1 [[.int .i64 n]]) (K2 : Rd w 1 (some ⟨bd, 0, none⟩) 1 [[.int .i64 d]]) :
    Calls Tryz.prog 245 #[.int .i32 f, .int .i64 a, .pointer (some ⟨bn, 0, none⟩), .pointer (some ⟨bd, 0, none⟩)] w (fun ex w' => ∃ v, ex = .returned v ∧ (fun v w' => v = .int .i32 (f + a * n / d) ∧ Below w.heap.size w w') v w') := by
  rw [← fR bn, ← fR bd]
  refine aJ #[.tmp 6] 20 Tryz.func245 rfl Tryz.results245 Tryz.ntmps245 rfl ?_
  have M0 := Mem.refl w
  refine aG (aB ?_)
  refine aA (aD (.int _ _) rfl) rfl rfl ?_
  refine aE (aF (aG (aB ?_)))
  refine aA (aC (.int _ _) rfl) rfl rfl ?_
  refine aA (eV (o := 0) (.int _ _) jL (K1.mem M0) (show ([[.int .i64 n]] : List (List Value))[0]? = some [.int .i64 n] from rfl) rfl rfl) rfl rfl ?_
  refine aA (eV (o := 0) (.int _ _) jL (K2.mem M0) (show ([[.int .i64 d]] : List (List Value))[0]? = some [.int .i64 d] from rfl) rfl rfl) rfl rfl ?_
  refine aK zH rfl rfl rfl ?_
  refine (aSi _ a n d (by omega) hn hnd hd0 (by omega)).mono ?_
  rintro _ w1 ⟨v1, rfl, ⟨rfl, hb1⟩⟩
  refine ⟨_, rfl, ?_⟩
  have M1 := M0.callB hb1
  refine aA (aC (.tuple (List.toArray _)) rfl) rfl rfl ?_
  refine aA (bC (.int _ _) rfl rfl) rfl rfl ?_
  refine aA (bC (.int _ _) rfl rfl) rfl rfl ?_
  refine aA (aD (.int _ _) rfl) rfl rfl ?_
  refine aA (aD (.int _ _) rfl) rfl rfl ?_
  refine aE (aF (aG (aB ?_)))
  refine aA (aC (.int _ _) rfl) rfl rfl ?_
  refine aA (aC (.int _ _) rfl) rfl rfl ?_
  refine aA (bQ us2 Tryz.underlying21 rfl (jX _ (by omega) (by omega))) rfl rfl ?_
  refine aA (gB rfl rfl (jX _ (by omega) (by omega))) rfl rfl ?_
  refine aA (aD (.int _ _) rfl) rfl rfl ?_
  refine aE (aF (aR ?_))
  refine cH (.int _ _) rfl ?_
  exact ⟨rfl, M1.below⟩
set_option maxHeartbeats 4000000 in
theorem iG (w : World) (p q c : Pt) (h : SgI p q) (hc : PtI c) :
    Calls Tryz.prog 239 #[(.agg (cA p).toArray), (.agg (cA q).toArray), (.agg (cA c).toArray)] w (fun ex w' => ∃ v, ex = .returned v ∧ (fun v w' => v = (.agg (cA (dF p q c)).toArray) ∧ Below w.heap.size w w') v w') := by
  have hD := pS h
  have hn := aBn (c := c) h
  have hx := h.x
  have hy := h.y
  refine aJ #[.cell 6 38] 40 Tryz.func239 rfl Tryz.results239 Tryz.ntmps239 rfl ?_
  have M0 := Mem.refl w
  refine aG (aB ?_)
  refine bK (.agg (List.toArray _)) M0 rfl rfl rfl (fun b1 w1 M1 => ?_)
  refine bK (.agg (List.toArray _)) M1 rfl rfl rfl (fun b2 w2 M2 => ?_)
  refine bK (.agg (List.toArray _)) M2 rfl rfl rfl (fun b3 w3 M3 => ?_)
  refine aS gA M3 rfl rfl (fun b4 w4 M4 => ?_)
  refine aE (aF (aG (aB ?_)))
  refine aA (bB 0 bI M4 rfl rfl rfl) rfl rfl ?_
  refine aA (bB 1 bI M4 rfl rfl rfl) rfl rfl ?_
  refine aA (bB 2 bI M4 rfl rfl rfl) rfl rfl ?_
  refine aK aSr rfl rfl rfl ?_
  refine (aCf _ p q c h hc).mono ?_
  rintro _ w5 ⟨v5, rfl, ⟨rfl, hb5⟩⟩
  refine ⟨_, rfl, ?_⟩
  have M5 := M4.callB hb5
  refine aA (aC (.tuple (List.toArray _)) rfl) rfl rfl ?_
  refine aA (bC (.int _ _) rfl rfl) rfl rfl ?_
  refine aA (bC (.int _ _) rfl rfl) rfl rfl ?_
  refine aS uM M5 rfl rfl (fun b6 w6 M6 => ?_)
  refine aS uM M6 rfl rfl (fun b7 w7 M7 => ?_)
  refine eC 4 (.int _ _) jL M7 rfl rfl rfl rfl rfl rfl (fun w8 M8 => ?_)
  refine eC 5 (.int _ _) jL M8 rfl rfl rfl rfl rfl rfl (fun w9 M9 => ?_)
  refine aE (aF (aG (aG (aB ?_))))
  refine aA (aW 5 (.int _ _) jL M9 rfl rfl rfl) rfl rfl ?_
  refine aA (aO (.bool (decide _)) rfl rfl rfl) rfl rfl ?_
  refine aE (aF ?_)
  refine aZ rfl (fun h20 => ?_) (fun h20 => ?_)
  · refine aG (aB ?_)
    refine aA (bB 0 bI M9 rfl rfl rfl) rfl rfl ?_
    refine bJ 3 _ bI M9 rfl rfl rfl rfl rfl (aU rfl) rfl (fun w10 M10 => ?_)
    refine aE (aF (aR (cP ?_)))
    refine kG 3 bI M10 rfl rfl rfl ?_
    exact ⟨by unfold dF; first | (rw [if_pos h20]; rfl) | (rw [if_neg h20]; rfl), M10.below⟩
  · have hnr := aCb (c := c) h h20
    refine aN (aF (aG (aB ?_)))
    refine aA (dC [] [.pointer _, .pointer _] rfl rfl) rfl rfl ?_
    refine aA (aD (.func _ _ _) rfl) rfl rfl ?_
    refine aE (aF (aG (aB ?_)))
    refine aA (bB 0 bI M9 rfl rfl rfl) rfl rfl ?_
    refine aA (bB 1 bI M9 rfl rfl rfl) rfl rfl ?_
    refine aK sR rfl rfl rfl ?_
    refine (mZ _ p q h.hp.i32 h.hq.i32).mono ?_
    rintro _ w11 ⟨v11, rfl, ⟨rfl, hb11⟩⟩
    refine ⟨_, rfl, ?_⟩
    have M11 := M9.callB hb11
    refine aA (aC (.tuple (List.toArray _)) rfl) rfl rfl ?_
    refine aA (bC (.int _ _) rfl rfl) rfl rfl ?_
    refine aA (bC (.int _ _) rfl rfl) rfl rfl ?_
    refine aA (aD (.int _ _) rfl) rfl rfl ?_
    refine aA (aD (.int _ _) rfl) rfl rfl ?_
    refine aE (aF (aG ?_))
    refine bZ [(0, 0), (1, 0), (2, 1), (3, 0), (5, 0), (6, 0), (7, 1), (8, 0), (4, 2), (9, 2), (10, 0), (11, 2)] mixed rfl (by kernel_rfl) (fun w12 hb12 hh12 => ?_)
    have M12 := M11.drew hb12 hh12
    refine aX rfl rfl rfl (fun _ => aC (.func _ _ _) rfl) ?_
    refine aX rfl rfl rfl (fun _ => aH 0 dQ rfl) ?_
    refine cC rfl rfl rfl (aW 0 (.int _ _) bH M12 rfl rfl rfl) ?_
    refine aX rfl rfl rfl (fun _ => aC (.int _ _) rfl) ?_
    refine aX rfl rfl rfl (fun _ => aC (.func _ _ _) rfl) ?_
    refine aX rfl rfl rfl (fun _ => aH 1 dI rfl) ?_
    refine cC rfl rfl rfl (aW 0 (.int _ _) bH M12 rfl rfl rfl) ?_
    refine aX rfl rfl rfl (fun _ => aC (.int _ _) rfl) ?_
    refine eD [false, true] rfl (by kernel_rfl) ?_
    refine aK aLu rfl rfl rfl ?_
    refine (xP _ p.1 (q.1 - p.1) (mC p q c) (jA p q) b6 b7 (by omega) hn.1 hn.2 (by omega) (by omega) hnr.1.1 hnr.1.2 (nU 4 M12 rfl rfl) (nU 5 M12 rfl rfl)).mono ?_
    rintro _ w13 ⟨v13, rfl, ⟨rfl, hb13⟩⟩
    refine ⟨_, rfl, ?_⟩
    have M13 := M12.callB hb13
    refine aE (aF ⟨(lF (dH rfl (aW 0 (.int _ _) bH M13 rfl rfl rfl)) eF), ?_⟩)
    refine eD [true] rfl (by kernel_rfl) ?_
    refine aK aLu rfl rfl rfl ?_
    refine (xP _ p.2 (q.2 - p.2) (mC p q c) (jA p q) b6 b7 (by omega) hn.1 hn.2 (by omega) (by omega) hnr.2.1 hnr.2.2 (nU 4 M13 rfl rfl) (nU 5 M13 rfl rfl)).mono ?_
    rintro _ w14 ⟨v14, rfl, ⟨rfl, hb14⟩⟩
    refine ⟨_, rfl, ?_⟩
    have M14 := M13.callB hb14
    refine aE (aF ⟨eF, ?_⟩)
    refine aX rfl rfl rfl (fun _ => cB [(0, .int _ _), (1, .int _ _)] _ dZ rfl rfl) ?_
    refine eD [] rfl (by kernel_rfl) ?_
    refine bJ 3 _ bI M14 rfl rfl rfl rfl rfl (aU rfl) rfl (fun w15 M15 => ?_)
    refine aE (aF ⟨eF, ?_⟩)
    refine cF ?_
    refine aF (aR ?_)
    refine kG 3 bI M15 rfl rfl rfl ?_
    exact ⟨by unfold dF; first | (rw [if_pos h20]; rfl) | (rw [if_neg h20]; rfl), M15.below⟩
end Go.Proofs.YtlmcphcgiclanaaGreatDoor

namespace Go.Proofs.YtlmcphcgiclanaaGreatDoor
open Go.Bil
open Go.RowKit (Below)
open Go.Proofs
end Go.Proofs.YtlmcphcgiclanaaGreatDoor

namespace Go.Proofs.YtlmcphcgiclanaaGreatDoor
open Go.Bil
open Go.RowKit (Below)
open Go.Proofs
end Go.Proofs.YtlmcphcgiclanaaGreatDoor

namespace Go.Proofs.YtlmcphcgiclanaaGreatDoor
open Go.Bil
open Go.RowKit (Below)
open Go.Proofs
set_option maxHeartbeats 4000000 in
theorem sP (w : World) (s : Ch) (x y : Pt) (ba bb bl : Nat) (hx : PtI x) (hy : PtI y) (hO : Own [(some ba, bc (cA s.1) 38), (some bb, bc (cA s.2.1) 38), (some bl, bc [.int .u64 (s.2.2 : Int)] 170)] w) :
    Calls Tryz.prog 238 #[(.agg (cA x).toArray), (.agg (cA y).toArray), .pointer (some ⟨bl, 0, none⟩), .pointer (some ⟨ba, 0, none⟩), .pointer (some ⟨bb, 0, none⟩)] w (fun ex w' => ∃ v, ex = .returned v ∧ (fun v w' => v = .tuple #[] ∧ Mem w (bU [(some ba, bc (cA s.1) 38), (some bb, bc (cA s.2.1) 38), (some bl, bc [.int .u64 (s.2.2 : Int)] 170)]) [(some ba, bc (cA (eK s x y).1) 38), (some bb, bc (cA (eK s x y).2.1) 38), (some bl, bc [.int .u64 ((eK s x y).2.2 : Int)] 170)] w') v w') := by
  refine aJ #[] 20 Tryz.func238 rfl Tryz.results238 Tryz.ntmps238 rfl ?_
  have M0 := hO.mem
  refine aG (aB ?_)
  refine bK (.agg (List.toArray _)) M0 rfl rfl rfl (fun b1 w1 M1 => ?_)
  refine bK (.agg (List.toArray _)) M1 rfl rfl rfl (fun b2 w2 M2 => ?_)
  refine aE (aF (aG (aB ?_)))
  refine aA (bB 3 bI M2 rfl rfl rfl) rfl rfl ?_
  refine aA (bB 4 bI M2 rfl rfl rfl) rfl rfl ?_
  refine aK sR rfl rfl rfl ?_
  refine (mZ _ x y hx.i32 hy.i32).mono ?_
  rintro _ w3 ⟨v3, rfl, ⟨rfl, hb3⟩⟩
  refine ⟨_, rfl, ?_⟩
  have M3 := M2.callB hb3
  refine aA (bC (.int _ _) rfl rfl) rfl rfl ?_
  refine aA (bC (.int _ _) rfl rfl) rfl rfl ?_
  refine aK aDp rfl rfl rfl ?_
  refine (lS _ (y.1 - x.1) (y.2 - x.2) (hx.inX hy) (hx.inY hy)).mono ?_
  rintro _ w4 ⟨v4, rfl, ⟨rfl, hb4⟩⟩
  refine ⟨_, rfl, ?_⟩
  have M4 := M3.callB hb4
  refine aA (aD (.int _ _) rfl) rfl rfl ?_
  refine aE (aF (aG (aB ?_)))
  refine aA (aC (.int _ _) rfl) rfl rfl ?_
  refine aA (aW 2 (.int _ _) mF M4 rfl rfl rfl) rfl rfl ?_
  refine aA (aO (.bool (decide _)) rfl rfl rfl) rfl rfl ?_
  refine aE (aF ?_)
  refine aZ rfl (fun h16 => ?_) (fun h16 => ?_)
  · refine bZ [(0, 1), (1, 1), (2, 0), (3, 2), (4, 2), (5, 2)] mixed rfl (by kernel_rfl) (fun w5 hb5 hh5 => ?_)
    have M5 := M4.drew hb5 hh5
    refine cC rfl rfl rfl (bB 3 bI M5 rfl rfl rfl) ?_
    refine cC rfl rfl rfl (bB 4 bI M5 rfl rfl rfl) ?_
    refine aX rfl rfl rfl (fun _ => aC (.int _ _) rfl) ?_
    refine eD [false, true] rfl (by kernel_rfl) ?_
    refine bJ 0 _ bI M5 rfl rfl rfl rfl rfl (aU rfl) rfl (fun w6 M6 => ?_)
    refine aE (aF ⟨(lF (dH rfl (bB 4 bI M6 rfl rfl rfl)) eF), ?_⟩)
    refine eD [true] rfl (by kernel_rfl) ?_
    refine bJ 1 _ bI M6 rfl rfl rfl rfl rfl (aU rfl) rfl (fun w7 M7 => ?_)
    refine aE (aF ⟨eF, ?_⟩)
    refine eD [] rfl (by kernel_rfl) ?_
    refine eC 2 (.int _ _) mF M7 rfl rfl rfl rfl rfl rfl (fun w8 M8 => ?_)
    refine aE (aF ⟨eF, ?_⟩)
    refine cF ?_
    refine gR ?_
    exact ⟨rfl, by unfold eK; first | (rw [if_pos (by omega)]; exact M8.keep [true, true, true, false, false]) | (rw [if_neg (by omega)]; exact M8.keep [true, true, true, false, false])⟩
  · refine aN ?_
    refine gR ?_
    exact ⟨rfl, by unfold eK; first | (rw [if_pos (by omega)]; exact M4.keep [true, true, true, false, false]) | (rw [if_neg (by omega)]; exact M4.keep [true, true, true, false, false])⟩
set_option maxHeartbeats 8000000 in
theorem aEb (w : World) (ap aq bp bq : Pt) (h1 : SgI ap aq) (h2 : SgI bp bq) :
    Calls Tryz.prog 221 #[(.agg (cA ap).toArray), (.agg (cA aq).toArray), (.agg (cA bp).toArray), (.agg (cA bq).toArray)] w (fun ex w' => ∃ v, ex = .returned v ∧ (fun v w' => v = .tuple #[(.agg (cA (mI ap aq bp bq).1).toArray), (.agg (cA (mI ap aq bp bq).2.1).toArray), .int .u64 ((mI ap aq bp bq).2.2 : Int)] ∧ Below w.heap.size w w') v w') := by
  refine aJ #[.cell 8 38, .cell 9 38, .cell 10 170] 48 Tryz.func221 rfl Tryz.results221 Tryz.ntmps221 rfl ?_
  have M0 := Mem.refl w
  refine aG (aB ?_)
  refine bK (.agg (List.toArray _)) M0 rfl rfl rfl (fun b1 w1 M1 => ?_)
  refine bK (.agg (List.toArray _)) M1 rfl rfl rfl (fun b2 w2 M2 => ?_)
  refine bK (.agg (List.toArray _)) M2 rfl rfl rfl (fun b3 w3 M3 => ?_)
  refine bK (.agg (List.toArray _)) M3 rfl rfl rfl (fun b4 w4 M4 => ?_)
  refine aS gA M4 rfl rfl (fun b5 w5 M5 => ?_)
  refine aS gA M5 rfl rfl (fun b6 w6 M6 => ?_)
  refine aS aOn M6 rfl rfl (fun b7 w7 M7 => ?_)
  refine aE (aF (aG (aB ?_)))
  refine eC 6 (.int _ _) mF M7 rfl rfl rfl rfl rfl rfl (fun w8 M8 => ?_)
  refine aE (aF (aG (aB ?_)))
  obtain ⟨s, hS⟩ : ∃ z, z = ch0 := ⟨_, rfl⟩
  have hC : ChI s := by rw [hS]; exact aLa
  have M9 : Mem _ _ [_, _, _, _, (some b5, bc (cA ch0.1) 38), (some b6, bc (cA ch0.2.1) 38), (some b7, bc [.int .u64 (ch0.2.2 : Int)] 170)] _ := M8
  rw [← hS] at M9
  refine aA (dC [] [.pointer _, .pointer _, .pointer _] rfl rfl) rfl rfl ?_
  refine aA (aD (.func _ _ _) rfl) rfl rfl ?_
  refine aE (aF (aG (aG (aB ?_))))
  refine aA (bB 0 bI M9 rfl rfl rfl) rfl rfl ?_
  refine aA (bB 1 bI M9 rfl rfl rfl) rfl rfl ?_
  refine aA (sU [.agg (List.toArray _), .agg (List.toArray _)] qG aFg rfl rfl (cW rfl)) rfl rfl ?_
  refine aA (aC (.int _ _) rfl) rfl rfl ?_
  refine aE (aF (bA ?_))
  refine mT 3 (mK ?_)
  refine aG (aB ?_)
  refine aA (aO (.bool (decide _)) rfl rfl rfl) rfl rfl ?_
  refine aM 21 (.bool true) (bT (by first | decide | omega)).symm ?_
  refine aE (aF (aG ?_))
  refine dR rfl ?_
  refine aN (aF (aG (bA (aG (aB ?_)))))
  refine aA (xY 0 _ qG bI rfl rfl (by decide) (by decide) rfl rfl) rfl rfl ?_
  refine aS gA M9 rfl rfl (fun b10 w10 M10 => ?_)
  refine bJ 7 _ bI M10 rfl rfl rfl rfl rfl (aU rfl) rfl (fun w11 M11 => ?_)
  refine aE (aF ?_)
  refine bZ [(0, 0), (1, 1), (2, 1), (3, 1), (4, 1), (5, 2), (6, 2)] mixed rfl (by kernel_rfl) (fun w12 hb12 hh12 => ?_)
  have M12 := M11.drew hb12 hh12
  refine aX rfl rfl rfl (fun _ => aC (.func _ _ _) rfl) ?_
  refine cC rfl rfl rfl (bB 7 bI M12 rfl rfl rfl) ?_
  refine cC rfl rfl rfl (bB 2 bI M12 rfl rfl rfl) ?_
  refine cC rfl rfl rfl (bB 3 bI M12 rfl rfl rfl) ?_
  refine cC rfl rfl rfl (bB 7 bI M12 rfl rfl rfl) ?_
  refine eD [true, true, true, false] rfl (by kernel_rfl) ?_
  refine aK yP rfl rfl rfl ?_
  refine (iG _ bp bq ap h2 h1.hp).mono ?_
  rintro _ w13 ⟨v13, rfl, ⟨rfl, hb13⟩⟩
  refine ⟨_, rfl, ?_⟩
  have M13 := M12.callB hb13
  refine aE (aF ⟨(lF (dH rfl (bB 7 bI M13 rfl rfl rfl)) eF), ?_⟩)
  refine eD [true] rfl (by kernel_rfl) ?_
  refine aK yY rfl rfl rfl ?_
  refine (sP _ s ap (dF bp bq ap) _ _ _ h1.hp (dW h2) (M13.ownSeg 4 3)).mono ?_
  rintro _ w14 ⟨v14, rfl, ⟨rfl, hM14⟩⟩
  refine ⟨_, rfl, ?_⟩
  have M14 : Mem _ _ [_, _, _, _, _, _, _, _] _ := M13.seg 4 3 hM14
  obtain ⟨s, hs⟩ : ∃ z, z = eK s ap (dF bp bq ap) := ⟨_, rfl⟩
  rw [← hs] at M14
  replace hC := hC.step (x := ap) (y := (dF bp bq ap)) h1.hp (dW h2)
  rw [← hs] at hC
  replace hS := hs.trans (congrArg (fun z => eK z ap (dF bp bq ap)) hS)
  refine aE (aF ⟨eF, ?_⟩)
  refine cF ?_
  refine dL ?_
  refine aF (aB ?_)
  refine aA (bW rfl rfl (by first | decide | omega) (by first | decide | omega)) rfl rfl ?_
  refine aM 30 (.int .i64 1) (iE (by first | decide | omega)) ?_
  refine aA (aC (.int _ _) rfl) rfl rfl ?_
  refine aE ?_
  refine aF (mK ?_)
  refine aG (aB ?_)
  refine aA (aO (.bool (decide _)) rfl rfl rfl) rfl rfl ?_
  refine aM 21 (.bool true) (bT (by first | decide | omega)).symm ?_
  refine aE (aF (aG ?_))
  refine dR rfl ?_
  refine aN (aF (aG (bA (aG (aB ?_)))))
  refine aA (xY 1 _ qG bI rfl rfl (by decide) (by decide) rfl rfl) rfl rfl ?_
  refine aS gA M14 rfl rfl (fun b15 w15 M15 => ?_)
  refine bJ 8 _ bI M15 rfl rfl rfl rfl rfl (aU rfl) rfl (fun w16 M16 => ?_)
  refine aE (aF ?_)
  refine bZ [(0, 0), (1, 1), (2, 1), (3, 1), (4, 1), (5, 2), (6, 2)] mixed rfl (by kernel_rfl) (fun w17 hb17 hh17 => ?_)
  have M17 := M16.drew hb17 hh17
  refine aX rfl rfl rfl (fun _ => aC (.func _ _ _) rfl) ?_
  refine cC rfl rfl rfl (bB 8 bI M17 rfl rfl rfl) ?_
  refine cC rfl rfl rfl (bB 2 bI M17 rfl rfl rfl) ?_
  refine cC rfl rfl rfl (bB 3 bI M17 rfl rfl rfl) ?_
  refine cC rfl rfl rfl (bB 8 bI M17 rfl rfl rfl) ?_
  refine eD [true, true, true, false] rfl (by kernel_rfl) ?_
  refine aK yP rfl rfl rfl ?_
  refine (iG _ bp bq aq h2 h1.hq).mono ?_
  rintro _ w18 ⟨v18, rfl, ⟨rfl, hb18⟩⟩
  refine ⟨_, rfl, ?_⟩
  have M18 := M17.callB hb18
  refine aE (aF ⟨(lF (dH rfl (bB 8 bI M18 rfl rfl rfl)) eF), ?_⟩)
  refine eD [true] rfl (by kernel_rfl) ?_
  refine aK yY rfl rfl rfl ?_
  refine (sP _ s aq (dF bp bq aq) _ _ _ h1.hq (dW h2) (M18.ownSeg 4 3)).mono ?_
  rintro _ w19 ⟨v19, rfl, ⟨rfl, hM19⟩⟩
  refine ⟨_, rfl, ?_⟩
  have M19 : Mem _ _ [_, _, _, _, _, _, _, _, _] _ := M18.seg 4 3 hM19
  obtain ⟨s, hs⟩ : ∃ z, z = eK s aq (dF bp bq aq) := ⟨_, rfl⟩
  rw [← hs] at M19
  replace hC := hC.step (x := aq) (y := (dF bp bq aq)) h1.hq (dW h2)
  rw [← hs] at hC
  replace hS := hs.trans (congrArg (fun z => eK z aq (dF bp bq aq)) hS)
  refine aE (aF ⟨eF, ?_⟩)
  refine cF ?_
  refine dL ?_
  refine aF (aB ?_)
  refine aA (bW rfl rfl (by first | decide | omega) (by first | decide | omega)) rfl rfl ?_
  refine aM 30 (.int .i64 2) (iE (by first | decide | omega)) ?_
  refine aA (aC (.int _ _) rfl) rfl rfl ?_
  refine aE ?_
  refine aF (mK ?_)
  refine aG (aB ?_)
  refine aA (aO (.bool (decide _)) rfl rfl rfl) rfl rfl ?_
  refine aM 21 (.bool false) (bF (by first | decide | omega)).symm ?_
  refine aE (aF (aG ?_))
  refine cJ rfl ?_
  refine cL ?_
  refine dD (dD ?_)
  refine eM ?_
  refine aF (aG (aG (aB ?_)))
  refine aA (bB 2 bI M19 rfl rfl rfl) rfl rfl ?_
  refine aA (bB 3 bI M19 rfl rfl rfl) rfl rfl ?_
  refine aA (sU [.agg (List.toArray _), .agg (List.toArray _)] qG aFg rfl rfl (cW rfl)) rfl rfl ?_
  refine aA (aC (.int _ _) rfl) rfl rfl ?_
  refine aE (aF (bA ?_))
  refine mT 3 (mK ?_)
  refine aG (aB ?_)
  refine aA (aO (.bool (decide _)) rfl rfl rfl) rfl rfl ?_
  refine aM 35 (.bool true) (bT (by first | decide | omega)).symm ?_
  refine aE (aF (aG ?_))
  refine dR rfl ?_
  refine aN (aF (aG (bA (aG (aB ?_)))))
  refine aA (xY 0 _ qG bI rfl rfl (by decide) (by decide) rfl rfl) rfl rfl ?_
  refine aS gA M19 rfl rfl (fun b20 w20 M20 => ?_)
  refine bJ 9 _ bI M20 rfl rfl rfl rfl rfl (aU rfl) rfl (fun w21 M21 => ?_)
  refine aE (aF ?_)
  refine bZ [(0, 0), (1, 1), (2, 1), (3, 1), (5, 1), (4, 2), (6, 2)] mixed rfl (by kernel_rfl) (fun w22 hb22 hh22 => ?_)
  have M22 := M21.drew hb22 hh22
  refine aX rfl rfl rfl (fun _ => aC (.func _ _ _) rfl) ?_
  refine cC rfl rfl rfl (bB 0 bI M22 rfl rfl rfl) ?_
  refine cC rfl rfl rfl (bB 1 bI M22 rfl rfl rfl) ?_
  refine cC rfl rfl rfl (bB 9 bI M22 rfl rfl rfl) ?_
  refine cC rfl rfl rfl (bB 9 bI M22 rfl rfl rfl) ?_
  refine eD [false, true, true, true] rfl (by kernel_rfl) ?_
  refine aK yP rfl rfl rfl ?_
  refine (iG _ ap aq bp h1 h2.hp).mono ?_
  rintro _ w23 ⟨v23, rfl, ⟨rfl, hb23⟩⟩
  refine ⟨_, rfl, ?_⟩
  have M23 := M22.callB hb23
  refine aE (aF ⟨(lF (dH rfl (bB 9 bI M23 rfl rfl rfl)) eF), ?_⟩)
  refine eD [true] rfl (by kernel_rfl) ?_
  refine aK yY rfl rfl rfl ?_
  refine (sP _ s (dF ap aq bp) bp _ _ _ (dW h1) h2.hp (M23.ownSeg 4 3)).mono ?_
  rintro _ w24 ⟨v24, rfl, ⟨rfl, hM24⟩⟩
  refine ⟨_, rfl, ?_⟩
  have M24 : Mem _ _ [_, _, _, _, _, _, _, _, _, _] _ := M23.seg 4 3 hM24
  obtain ⟨s, hs⟩ : ∃ z, z = eK s (dF ap aq bp) bp := ⟨_, rfl⟩
  rw [← hs] at M24
  replace hC := hC.step (x := (dF ap aq bp)) (y := bp) (dW h1) h2.hp
  rw [← hs] at hC
  replace hS := hs.trans (congrArg (fun z => eK z (dF ap aq bp) bp) hS)
  refine aE (aF ⟨eF, ?_⟩)
  refine cF ?_
  refine dL ?_
  refine aF (aB ?_)
  refine aA (bW rfl rfl (by first | decide | omega) (by first | decide | omega)) rfl rfl ?_
  refine aM 44 (.int .i64 1) (iE (by first | decide | omega)) ?_
  refine aA (aC (.int _ _) rfl) rfl rfl ?_
  refine aE ?_
  refine aF (mK ?_)
  refine aG (aB ?_)
  refine aA (aO (.bool (decide _)) rfl rfl rfl) rfl rfl ?_
  refine aM 35 (.bool true) (bT (by first | decide | omega)).symm ?_
  refine aE (aF (aG ?_))
  refine dR rfl ?_
  refine aN (aF (aG (bA (aG (aB ?_)))))
  refine aA (xY 1 _ qG bI rfl rfl (by decide) (by decide) rfl rfl) rfl rfl ?_
  refine aS gA M24 rfl rfl (fun b25 w25 M25 => ?_)
  refine bJ 10 _ bI M25 rfl rfl rfl rfl rfl (aU rfl) rfl (fun w26 M26 => ?_)
  refine aE (aF ?_)
  refine bZ [(0, 0), (1, 1), (2, 1), (3, 1), (5, 1), (4, 2), (6, 2)] mixed rfl (by kernel_rfl) (fun w27 hb27 hh27 => ?_)
  have M27 := M26.drew hb27 hh27
  refine aX rfl rfl rfl (fun _ => aC (.func _ _ _) rfl) ?_
  refine cC rfl rfl rfl (bB 0 bI M27 rfl rfl rfl) ?_
  refine cC rfl rfl rfl (bB 1 bI M27 rfl rfl rfl) ?_
  refine cC rfl rfl rfl (bB 10 bI M27 rfl rfl rfl) ?_
  refine cC rfl rfl rfl (bB 10 bI M27 rfl rfl rfl) ?_
  refine eD [false, true, true, true] rfl (by kernel_rfl) ?_
  refine aK yP rfl rfl rfl ?_
  refine (iG _ ap aq bq h1 h2.hq).mono ?_
  rintro _ w28 ⟨v28, rfl, ⟨rfl, hb28⟩⟩
  refine ⟨_, rfl, ?_⟩
  have M28 := M27.callB hb28
  refine aE (aF ⟨(lF (dH rfl (bB 10 bI M28 rfl rfl rfl)) eF), ?_⟩)
  refine eD [true] rfl (by kernel_rfl) ?_
  refine aK yY rfl rfl rfl ?_
  refine (sP _ s (dF ap aq bq) bq _ _ _ (dW h1) h2.hq (M28.ownSeg 4 3)).mono ?_
  rintro _ w29 ⟨v29, rfl, ⟨rfl, hM29⟩⟩
  refine ⟨_, rfl, ?_⟩
  have M29 : Mem _ _ [_, _, _, _, _, _, _, _, _, _, _] _ := M28.seg 4 3 hM29
  obtain ⟨s, hs⟩ : ∃ z, z = eK s (dF ap aq bq) bq := ⟨_, rfl⟩
  rw [← hs] at M29
  replace hC := hC.step (x := (dF ap aq bq)) (y := bq) (dW h1) h2.hq
  rw [← hs] at hC
  replace hS := hs.trans (congrArg (fun z => eK z (dF ap aq bq) bq) hS)
  refine aE (aF ⟨eF, ?_⟩)
  refine cF ?_
  refine dL ?_
  refine aF (aB ?_)
  refine aA (bW rfl rfl (by first | decide | omega) (by first | decide | omega)) rfl rfl ?_
  refine aM 44 (.int .i64 2) (iE (by first | decide | omega)) ?_
  refine aA (aC (.int _ _) rfl) rfl rfl ?_
  refine aE ?_
  refine aF (mK ?_)
  refine aG (aB ?_)
  refine aA (aO (.bool (decide _)) rfl rfl rfl) rfl rfl ?_
  refine aM 35 (.bool false) (bF (by first | decide | omega)).symm ?_
  refine aE (aF (aG ?_))
  refine cJ rfl ?_
  refine cL ?_
  refine dD (dD ?_)
  refine eM ?_
  refine aF (aG ?_)
  refine bZ [(0, 1), (1, 1), (2, 1), (3, 2), (4, 2), (5, 2)] mixed rfl (by kernel_rfl) (fun w30 hb30 hh30 => ?_)
  have M30 := M29.drew hb30 hh30
  refine cC rfl rfl rfl (bB 4 bI M30 rfl rfl rfl) ?_
  refine cC rfl rfl rfl (bB 5 bI M30 rfl rfl rfl) ?_
  refine cC rfl rfl rfl (aW 6 (.int _ _) mF M30 rfl rfl rfl) ?_
  refine eD [false, false, true] rfl (by kernel_rfl) ?_
  refine bJ 4 _ bI M30 rfl rfl rfl rfl rfl (aU rfl) rfl (fun w31 M31 => ?_)
  refine aE (aF ⟨(lF (dH rfl (aW 6 (.int _ _) mF M31 rfl rfl rfl)) (lF (dH rfl (bB 5 bI M31 rfl rfl rfl)) eF)), ?_⟩)
  refine eD [false, true] rfl (by kernel_rfl) ?_
  refine bJ 5 _ bI M31 rfl rfl rfl rfl rfl (aU rfl) rfl (fun w32 M32 => ?_)
  refine aE (aF ⟨(lF (dH rfl (aW 6 (.int _ _) mF M32 rfl rfl rfl)) eF), ?_⟩)
  refine eD [true] rfl (by kernel_rfl) ?_
  refine eC 6 (.int _ _) mF M32 rfl rfl rfl rfl rfl rfl (fun w33 M33 => ?_)
  refine aE (aF ⟨eF, ?_⟩)
  refine cF ?_
  refine aF (aR ?_)
  refine aUu 4 5 6 bI mF M33 rfl rfl rfl rfl rfl rfl rfl rfl ?_
  exact ⟨by rw [show s = mI ap aq bp bq from hS], M33.below⟩
set_option maxHeartbeats 4000000 in
theorem aDu (w : World) (ap aq bp bq : Pt) (h1 : SgI ap aq) (h2 : SgI bp bq) :
    Calls Tryz.prog 199 #[(.agg (cA ap).toArray), (.agg (cA aq).toArray), (.agg (cA bp).toArray), (.agg (cA bq).toArray)] w (fun ex w' => ∃ v, ex = .returned v ∧ (fun v w' => v = .tuple #[(.agg (cA (mI ap aq bp bq).1).toArray), (.agg (cA (mI ap aq bp bq).2.1).toArray)] ∧ Below w.heap.size w w') v w') := by
  refine aJ #[.cell 8 38, .cell 9 38] 21 Tryz.func199 rfl Tryz.results199 Tryz.ntmps199 rfl ?_
  have M0 := Mem.refl w
  refine aG (aB ?_)
  refine bK (.agg (List.toArray _)) M0 rfl rfl rfl (fun b1 w1 M1 => ?_)
  refine bK (.agg (List.toArray _)) M1 rfl rfl rfl (fun b2 w2 M2 => ?_)
  refine bK (.agg (List.toArray _)) M2 rfl rfl rfl (fun b3 w3 M3 => ?_)
  refine bK (.agg (List.toArray _)) M3 rfl rfl rfl (fun b4 w4 M4 => ?_)
  refine aS gA M4 rfl rfl (fun b5 w5 M5 => ?_)
  refine aS gA M5 rfl rfl (fun b6 w6 M6 => ?_)
  refine aE (aF (aG (aB ?_)))
  refine aA (bB 0 bI M6 rfl rfl rfl) rfl rfl ?_
  refine aA (bB 1 bI M6 rfl rfl rfl) rfl rfl ?_
  refine aA (bB 2 bI M6 rfl rfl rfl) rfl rfl ?_
  refine aA (bB 3 bI M6 rfl rfl rfl) rfl rfl ?_
  refine aK aSt rfl rfl rfl ?_
  refine (aEb _ ap aq bp bq h1 h2).mono ?_
  rintro _ w7 ⟨v7, rfl, ⟨rfl, hb7⟩⟩
  refine ⟨_, rfl, ?_⟩
  have M7 := M6.callB hb7
  refine aA (aC (.tuple (List.toArray _)) rfl) rfl rfl ?_
  refine aA (bC (.agg (List.toArray _)) rfl rfl) rfl rfl ?_
  refine aA (bC (.agg (List.toArray _)) rfl rfl) rfl rfl ?_
  refine aA (bC (.int _ _) rfl rfl) rfl rfl ?_
  refine bJ 4 _ bI M7 rfl rfl rfl rfl rfl (aU rfl) rfl (fun w8 M8 => ?_)
  refine bJ 5 _ bI M8 rfl rfl rfl rfl rfl (aU rfl) rfl (fun w9 M9 => ?_)
  refine aE (aF (aG ?_))
  refine bZ [(0, 1), (1, 1), (2, 2), (3, 2)] mixed rfl (by kernel_rfl) (fun w10 hb10 hh10 => ?_)
  have M10 := M9.drew hb10 hh10
  refine cC rfl rfl rfl (bB 4 bI M10 rfl rfl rfl) ?_
  refine cC rfl rfl rfl (bB 5 bI M10 rfl rfl rfl) ?_
  refine eD [false, true] rfl (by kernel_rfl) ?_
  refine bJ 4 _ bI M10 rfl rfl rfl rfl rfl (aU rfl) rfl (fun w11 M11 => ?_)
  refine aE (aF ⟨(lF (dH rfl (bB 5 bI M11 rfl rfl rfl)) eF), ?_⟩)
  refine eD [true] rfl (by kernel_rfl) ?_
  refine bJ 5 _ bI M11 rfl rfl rfl rfl rfl (aU rfl) rfl (fun w12 M12 => ?_)
  refine aE (aF ⟨eF, ?_⟩)
  refine cF ?_
  refine aF (aR ?_)
  refine aFq 4 5 bI M12 rfl rfl rfl rfl rfl rfl ?_
  exact ⟨rfl, M12.below⟩
end Go.Proofs.YtlmcphcgiclanaaGreatDoor

namespace Go.Proofs.YtlmcphcgiclanaaGreatDoor
open Go.Bil
open Go.RowKit (Below)
open Go.Proofs
set_option maxHeartbeats 4000000 in
theorem sF (w : World) (b : Body) (hb : Okb b) :
    Calls Tryz.prog 198 #[(.agg (aI b).toArray)] w (fun ex w' => ∃ v, ex = .returned v ∧ (fun v w' => v = (.agg (jN b).toArray) ∧ Below w.heap.size w w') v w') := by
  refine aJ #[.cell 2 239] 14 Tryz.func198 rfl Tryz.results198 Tryz.ntmps198 rfl ?_
  have M0 := Mem.refl w
  refine aG (aB ?_)
  refine bK (.agg (List.toArray _)) M0 rfl rfl rfl (fun b1 w1 M1 => ?_)
  refine aS pO M1 rfl rfl (fun b2 w2 M2 => ?_)
  refine aE (aF (aG (aB ?_)))
  refine aA (bB 0 bX M2 rfl rfl rfl) rfl rfl ?_
  refine aK aSo rfl rfl rfl ?_
  refine (aIf _ b hb).mono ?_
  rintro _ w3 ⟨v3, rfl, ⟨rfl, hb3⟩⟩
  refine ⟨_, rfl, ?_⟩
  have M3 := M2.callB hb3
  refine aA (aC (.tuple (List.toArray _)) rfl) rfl rfl ?_
  refine aA (bC (.agg (List.toArray _)) rfl rfl) rfl rfl ?_
  refine aA (bC (.agg (List.toArray _)) rfl rfl) rfl rfl ?_
  refine aS gA M3 rfl rfl (fun b4 w4 M4 => ?_)
  refine aS gA M4 rfl rfl (fun b5 w5 M5 => ?_)
  refine bJ 2 _ bI M5 rfl rfl rfl rfl rfl (aU rfl) rfl (fun w6 M6 => ?_)
  refine bJ 3 _ bI M6 rfl rfl rfl rfl rfl (aU rfl) rfl (fun w7 M7 => ?_)
  refine aE (aF (aG (aB ?_)))
  refine aA (bB 0 bX M7 rfl rfl rfl) rfl rfl ?_
  refine aA (bB 2 bI M7 rfl rfl rfl) rfl rfl ?_
  refine aA (bB 3 bI M7 rfl rfl rfl) rfl rfl ?_
  refine aA (cB [(0, .agg (List.toArray _)), (1, .agg (List.toArray _)), (2, .agg (List.toArray _))] _ aHl rfl rfl) rfl rfl ?_
  refine bJ 1 _ iS M7 rfl rfl rfl rfl rfl (aU rfl) rfl (fun w8 M8 => ?_)
  refine aE (aF (aR ?_))
  refine kG 1 iS M8 rfl rfl rfl ?_
  exact ⟨rfl, M8.below⟩
set_option maxHeartbeats 4000000 in
theorem aQp (w : World) (a b : Body) (ha : Okb a) (hb : Okb b) :
    Calls Tryz.prog 171 #[(.agg (aI a).toArray), (.agg (aI b).toArray)] w (fun ex w' => ∃ v, ex = .returned v ∧ (fun v w' => v = .tuple #[(.agg (jN (loB a b)).toArray), (.agg (jN (hiB a b)).toArray)] ∧ Below w.heap.size w w') v w') := by
  refine aJ #[.cell 4 239, .cell 5 239] 17 Tryz.func171 rfl Tryz.results171 Tryz.ntmps171 rfl ?_
  have M0 := Mem.refl w
  refine aG (aB ?_)
  refine bK (.agg (List.toArray _)) M0 rfl rfl rfl (fun b1 w1 M1 => ?_)
  refine bK (.agg (List.toArray _)) M1 rfl rfl rfl (fun b2 w2 M2 => ?_)
  refine aS pO M2 rfl rfl (fun b3 w3 M3 => ?_)
  refine aS pO M3 rfl rfl (fun b4 w4 M4 => ?_)
  refine aE (aF (aG (aG (aB ?_))))
  refine aA (aH 0 eB rfl) rfl rfl ?_
  refine aA (aW 0 (.int _ _) cV M4 rfl rfl rfl) rfl rfl ?_
  refine aA (aH 0 eB rfl) rfl rfl ?_
  refine aA (aW 1 (.int _ _) cV M4 rfl rfl rfl) rfl rfl ?_
  refine aA (aO (.bool (decide _)) rfl rfl rfl) rfl rfl ?_
  refine aE (aF ?_)
  refine aZ rfl (fun h10 => ?_) (fun h10 => ?_)
  · refine aB ?_
    refine aA (bB 1 bX M4 rfl rfl rfl) rfl rfl ?_
    refine aA (bB 0 bX M4 rfl rfl rfl) rfl rfl ?_
    refine bJ 0 _ bX M4 rfl rfl rfl rfl rfl (aU rfl) rfl (fun w5 M5 => ?_)
    refine bJ 1 _ bX M5 rfl rfl rfl rfl rfl (aU rfl) rfl (fun w6 M6 => ?_)
    refine aE (aF (aG ?_))
    refine bZ [(0, 1), (2, 1), (1, 2), (3, 2), (4, 2), (5, 2)] mixed rfl (by kernel_rfl) (fun w7 hb7 hh7 => ?_)
    have M7 := M6.drew hb7 hh7
    refine cC rfl rfl rfl (bB 0 bX M7 rfl rfl rfl) ?_
    refine cC rfl rfl rfl (bB 1 bX M7 rfl rfl rfl) ?_
    refine eD [false, true] rfl (by kernel_rfl) ?_
    refine aK yK rfl rfl rfl ?_
    refine (sF _ b hb).mono ?_
    rintro _ w8 ⟨v8, rfl, ⟨rfl, hb8⟩⟩
    refine ⟨_, rfl, ?_⟩
    have M8 := M7.callB hb8
    refine aE (aF ⟨(lF (dH rfl (bB 1 bX M8 rfl rfl rfl)) eF), ?_⟩)
    refine eD [true] rfl (by kernel_rfl) ?_
    refine aK yK rfl rfl rfl ?_
    refine (sF _ a ha).mono ?_
    rintro _ w9 ⟨v9, rfl, ⟨rfl, hb9⟩⟩
    refine ⟨_, rfl, ?_⟩
    have M9 := M8.callB hb9
    refine aE (aF ⟨eF, ?_⟩)
    refine eD [] rfl (by kernel_rfl) ?_
    refine bJ 2 _ iS M9 rfl rfl rfl rfl rfl (aU rfl) rfl (fun w10 M10 => ?_)
    refine aE (aF ⟨eF, ?_⟩)
    refine eD [] rfl (by kernel_rfl) ?_
    refine bJ 3 _ iS M10 rfl rfl rfl rfl rfl (aU rfl) rfl (fun w11 M11 => ?_)
    refine aE (aF ⟨eF, ?_⟩)
    refine cF ?_
    refine aF (aR ?_)
    refine aFq 2 3 iS M11 rfl rfl rfl rfl rfl rfl ?_
    exact ⟨by unfold loB hiB; first | rw [if_pos (by omega), if_pos (by omega)] | rw [if_neg (by omega), if_neg (by omega)], M11.below⟩
  · refine aN (aF (aG ?_))
    refine bZ [(0, 1), (2, 1), (1, 2), (3, 2), (4, 2), (5, 2)] mixed rfl (by kernel_rfl) (fun w12 hb12 hh12 => ?_)
    have M12 := M4.drew hb12 hh12
    refine cC rfl rfl rfl (bB 0 bX M12 rfl rfl rfl) ?_
    refine cC rfl rfl rfl (bB 1 bX M12 rfl rfl rfl) ?_
    refine eD [false, true] rfl (by kernel_rfl) ?_
    refine aK yK rfl rfl rfl ?_
    refine (sF _ a ha).mono ?_
    rintro _ w13 ⟨v13, rfl, ⟨rfl, hb13⟩⟩
    refine ⟨_, rfl, ?_⟩
    have M13 := M12.callB hb13
    refine aE (aF ⟨(lF (dH rfl (bB 1 bX M13 rfl rfl rfl)) eF), ?_⟩)
    refine eD [true] rfl (by kernel_rfl) ?_
    refine aK yK rfl rfl rfl ?_
    refine (sF _ b hb).mono ?_
    rintro _ w14 ⟨v14, rfl, ⟨rfl, hb14⟩⟩
    refine ⟨_, rfl, ?_⟩
    have M14 := M13.callB hb14
    refine aE (aF ⟨eF, ?_⟩)
    refine eD [] rfl (by kernel_rfl) ?_
    refine bJ 2 _ iS M14 rfl rfl rfl rfl rfl (aU rfl) rfl (fun w15 M15 => ?_)
    refine aE (aF ⟨eF, ?_⟩)
    refine eD [] rfl (by kernel_rfl) ?_
    refine bJ 3 _ iS M15 rfl rfl rfl rfl rfl (aU rfl) rfl (fun w16 M16 => ?_)
    refine aE (aF ⟨eF, ?_⟩)
    refine cF ?_
    refine aF (aR ?_)
    refine aFq 2 3 iS M16 rfl rfl rfl rfl rfl rfl ?_
    exact ⟨by unfold loB hiB; first | rw [if_pos (by omega), if_pos (by omega)] | rw [if_neg (by omega), if_neg (by omega)], M16.below⟩
set_option maxHeartbeats 4000000 in
theorem aOo (w : World) (a b : Body) (ha : Okb a) (hb : Okb b) :
    Calls Tryz.prog 172 #[(.agg (jN a).toArray), (.agg (jN b).toArray)] w (fun ex w' => ∃ v, ex = .returned v ∧ (fun v w' => v = .tuple #[.int .i64 (tF (rE a b)), .int .i64 (uR (rE a b)), .int .i64 (a.radius + b.radius)] ∧ Below w.heap.size w w') v w') := by
  have hra := ha.r
  have hrb := hb.r
  have hch := uG ha hb
  refine aJ #[.tmp 4, .tmp 5, .tmp 6] 38 Tryz.func172 rfl Tryz.results172 Tryz.ntmps172 rfl ?_
  have M0 := Mem.refl w
  refine aG (aB ?_)
  refine bK (.agg (List.toArray _)) M0 rfl rfl rfl (fun b1 w1 M1 => ?_)
  refine bK (.agg (List.toArray _)) M1 rfl rfl rfl (fun b2 w2 M2 => ?_)
  refine aA (aD (.int _ _) rfl) rfl rfl ?_
  refine aA (aD (.int _ _) rfl) rfl rfl ?_
  refine aA (aD (.int _ _) rfl) rfl rfl ?_
  refine aE (aF (aG (aB ?_)))
  refine aA (aH 10 aAq rfl) rfl rfl ?_
  refine aA (tJ 0 _ bI M2 rfl rfl rfl rfl) rfl rfl ?_
  refine aA (aH 12 aAy rfl) rfl rfl ?_
  refine aA (tJ 0 _ bI M2 rfl rfl rfl rfl) rfl rfl ?_
  refine aA (aH 10 aAq rfl) rfl rfl ?_
  refine aA (tJ 1 _ bI M2 rfl rfl rfl rfl) rfl rfl ?_
  refine aA (aH 12 aAy rfl) rfl rfl ?_
  refine aA (tJ 1 _ bI M2 rfl rfl rfl rfl) rfl rfl ?_
  refine aK aTm rfl rfl rfl ?_
  refine (aDu _ (zY a) (aAp a) (zY b) (aAp b) (sM ha) (sM hb)).mono ?_
  rintro _ w3 ⟨v3, rfl, ⟨rfl, hb3⟩⟩
  refine ⟨_, rfl, ?_⟩
  have M3 := M2.callB hb3
  refine aA (aC (.tuple (List.toArray _)) rfl) rfl rfl ?_
  refine aA (bC (.agg (List.toArray _)) rfl rfl) rfl rfl ?_
  refine aA (bC (.agg (List.toArray _)) rfl rfl) rfl rfl ?_
  refine aS gA M3 rfl rfl (fun b4 w4 M4 => ?_)
  refine aS gA M4 rfl rfl (fun b5 w5 M5 => ?_)
  refine bJ 2 _ bI M5 rfl rfl rfl rfl rfl (aU rfl) rfl (fun w6 M6 => ?_)
  refine bJ 3 _ bI M6 rfl rfl rfl rfl rfl (aU rfl) rfl (fun w7 M7 => ?_)
  refine aE (aF (aG (aB ?_)))
  refine aA (bB 2 bI M7 rfl rfl rfl) rfl rfl ?_
  refine aA (bB 3 bI M7 rfl rfl rfl) rfl rfl ?_
  refine aK sR rfl rfl rfl ?_
  refine (mZ _ (rE a b).1 (rE a b).2.1 hch.a.i32 hch.b.i32).mono ?_
  rintro _ w8 ⟨v8, rfl, ⟨rfl, hb8⟩⟩
  refine ⟨_, rfl, ?_⟩
  have M8 := M7.callB hb8
  refine aA (aC (.tuple (List.toArray _)) rfl) rfl rfl ?_
  refine aA (bC (.int _ _) rfl rfl) rfl rfl ?_
  refine aA (bC (.int _ _) rfl rfl) rfl rfl ?_
  refine aA (aD (.int _ _) rfl) rfl rfl ?_
  refine aA (aD (.int _ _) rfl) rfl rfl ?_
  refine aE (aF (aG ?_))
  refine bZ [(0, 0), (1, 0), (2, 0), (3, 0), (4, 1), (5, 0), (6, 0), (7, 0), (8, 1), (9, 0), (10, 0), (11, 0), (12, 0), (13, 0)] mixed rfl (by kernel_rfl) (fun w9 hb9 hh9 => ?_)
  have M9 := M8.drew hb9 hh9
  refine aX rfl rfl rfl (fun _ => aC (.int _ _) rfl) ?_
  refine aX rfl rfl rfl (fun _ => aC (.int _ _) rfl) ?_
  refine aX rfl rfl rfl (fun _ => aH 0 pP rfl) ?_
  refine aX rfl rfl rfl (fun _ => aH 1 nF rfl) ?_
  refine cC rfl rfl rfl (aW 0 (.int _ _) bH M9 rfl rfl rfl) ?_
  refine aX rfl rfl rfl (fun _ => bQ fT Tryz.underlying2 rfl (jT _ (by omega) (by omega))) ?_
  refine aX rfl rfl rfl (fun _ => aH 0 pP rfl) ?_
  refine aX rfl rfl rfl (fun _ => aH 1 nF rfl) ?_
  refine cC rfl rfl rfl (aW 1 (.int _ _) bH M9 rfl rfl rfl) ?_
  refine aX rfl rfl rfl (fun _ => bQ fT Tryz.underlying2 rfl (jT _ (by omega) (by omega))) ?_
  refine aX rfl rfl rfl (fun _ => bW rfl rfl (by omega) (by omega)) ?_
  refine aX rfl rfl rfl (fun _ => aD (.int _ _) rfl) ?_
  refine aX rfl rfl rfl (fun _ => aD (.int _ _) rfl) ?_
  refine aX rfl rfl rfl (fun _ => aD (.int _ _) rfl) ?_
  refine cF ?_
  refine aF (aR ?_)
  refine aXi (.int _ _) (.int _ _) (.int _ _) rfl rfl rfl ?_
  exact ⟨rfl, M9.below⟩
set_option maxHeartbeats 4000000 in
theorem vB (w : World) (a b : Body) (ha : Okb a) (hb : Okb b) :
    Calls Tryz.prog 137 #[(.agg (aI a).toArray), (.agg (aI b).toArray)] w (fun ex w' => ∃ v, ex = .returned v ∧ (fun v w' => v = .tuple #[.agg (aUe (kB a b)).toArray, .bool (kB a b).isSome] ∧ Below w.heap.size w w') v w') := by
  obtain ⟨hlo, hhi⟩ := aVi ha hb
  have hd := aSa hlo hhi
  have hl := zJ hd.1 hd.2
  have hss := aTj hlo hhi
  have hr1 := hlo.r
  have hr2 := hhi.r
  refine aJ #[.cell 4 121, .tmp 5] 52 Tryz.func137 rfl Tryz.results137 Tryz.ntmps137 rfl ?_
  have M0 := Mem.refl w
  refine aG (aB ?_)
  refine bK (.agg (List.toArray _)) M0 rfl rfl rfl (fun b1 w1 M1 => ?_)
  refine bK (.agg (List.toArray _)) M1 rfl rfl rfl (fun b2 w2 M2 => ?_)
  refine aS pE M2 rfl rfl (fun b3 w3 M3 => ?_)
  refine aA (aD (.bool false) rfl) rfl rfl ?_
  refine aE (aF (aG (aB ?_)))
  refine aA (bB 0 bX M3 rfl rfl rfl) rfl rfl ?_
  refine aA (bB 1 bX M3 rfl rfl rfl) rfl rfl ?_
  refine aK aUb rfl rfl rfl ?_
  refine (aQp _ a b ha hb).mono ?_
  rintro _ w4 ⟨v4, rfl, ⟨rfl, hb4⟩⟩
  refine ⟨_, rfl, ?_⟩
  have M4 := M3.callB hb4
  refine aA (aC (.tuple (List.toArray _)) rfl) rfl rfl ?_
  refine aA (bC (.agg (List.toArray _)) rfl rfl) rfl rfl ?_
  refine aA (bC (.agg (List.toArray _)) rfl rfl) rfl rfl ?_
  refine aS pO M4 rfl rfl (fun b5 w5 M5 => ?_)
  refine aS pO M5 rfl rfl (fun b6 w6 M6 => ?_)
  refine bJ 3 _ iS M6 rfl rfl rfl rfl rfl (aU rfl) rfl (fun w7 M7 => ?_)
  refine bJ 4 _ iS M7 rfl rfl rfl rfl rfl (aU rfl) rfl (fun w8 M8 => ?_)
  refine aE (aF (aG (aB ?_)))
  refine aA (bB 3 iS M8 rfl rfl rfl) rfl rfl ?_
  refine aA (bB 4 iS M8 rfl rfl rfl) rfl rfl ?_
  refine aK aUj rfl rfl rfl ?_
  refine (aOo _ (loB a b) (hiB a b) hlo hhi).mono ?_
  rintro _ w9 ⟨v9, rfl, ⟨rfl, hb9⟩⟩
  refine ⟨_, rfl, ?_⟩
  have M9 := M8.callB hb9
  refine aA (aC (.tuple (List.toArray _)) rfl) rfl rfl ?_
  refine aA (bC (.int _ _) rfl rfl) rfl rfl ?_
  refine aA (bC (.int _ _) rfl rfl) rfl rfl ?_
  refine aA (bC (.int _ _) rfl rfl) rfl rfl ?_
  refine aA (aD (.int _ _) rfl) rfl rfl ?_
  refine aA (aD (.int _ _) rfl) rfl rfl ?_
  refine aA (aD (.int _ _) rfl) rfl rfl ?_
  refine aE (aF (aG (aG (aB ?_))))
  refine aA (aC (.int _ _) rfl) rfl rfl ?_
  refine aA (aC (.int _ _) rfl) rfl rfl ?_
  refine aK aDp rfl rfl rfl ?_
  refine (lS _ (tF (rE (loB a b) (hiB a b))) (uR (rE (loB a b) (hiB a b))) hd.1 hd.2).mono ?_
  rintro _ w10 ⟨v10, rfl, ⟨rfl, hb10⟩⟩
  refine ⟨_, rfl, ?_⟩
  have M10 := M9.callB hb10
  refine aA (aC (.int _ _) rfl) rfl rfl ?_
  refine aA (aC (.int _ _) rfl) rfl rfl ?_
  refine aA (kH rfl rfl (by omega) (by omega)) rfl rfl ?_
  refine aA (fA us2 Tryz.underlying170 rfl) rfl rfl ?_
  refine aM 31 (.int .u64 ((((loB a b).radius + (hiB a b).radius).natAbs * ((loB a b).radius + (hiB a b).radius).natAbs : Nat) : Int)) (iE (aPf _ hss)) ?_
  refine aA (aO (.bool (decide _)) rfl rfl rfl) rfl rfl ?_
  refine aE (aF ?_)
  refine aZ rfl (fun h32 => ?_) (fun h32 => ?_)
  · refine aG (aB ?_)
    refine aA (cB [] _ xM rfl rfl) rfl rfl ?_
    refine bJ 2 _ fD M10 rfl rfl rfl rfl rfl (aU rfl) rfl (fun w11 M11 => ?_)
    refine aA (aD (.bool false) rfl) rfl rfl ?_
    refine aE (aF (aR (cP ?_)))
    refine aRf (v2 := .bool false) 2 fD M11 rfl rfl rfl rfl ?_
    exact ⟨by rw [aAg]; unfold kN; first | (rw [if_pos (by omega)]; rfl) | (rw [if_neg (by omega)]; rfl), M11.below⟩
  · refine aN (aF (aG (aB ?_)))
    refine aA (aH 0 pP rfl) rfl rfl ?_
    refine aA (aH 0 eB rfl) rfl rfl ?_
    refine aA (aW 3 (.int _ _) cV M10 rfl rfl rfl) rfl rfl ?_
    refine aA (aH 0 pP rfl) rfl rfl ?_
    refine aA (aH 0 eB rfl) rfl rfl ?_
    refine aA (aW 4 (.int _ _) cV M10 rfl rfl rfl) rfl rfl ?_
    refine aA (cB [(0, .int _ _), (1, .int _ _)] _ wK rfl rfl) rfl rfl ?_
    refine aS nN M10 rfl rfl (fun b12 w12 M12 => ?_)
    refine bJ 5 _ eT M12 rfl rfl rfl rfl rfl (aU rfl) rfl (fun w13 M13 => ?_)
    refine aE (aF (aG ?_))
    refine bZ [(0, 1), (1, 0), (2, 0), (4, 0), (5, 0), (6, 0), (3, 2), (7, 2), (8, 0), (9, 0), (10, 0), (11, 2), (12, 0)] mixed rfl (by kernel_rfl) (fun w14 hb14 hh14 => ?_)
    have M14 := M13.drew hb14 hh14
    refine cC rfl rfl rfl (bB 5 eT M14 rfl rfl rfl) ?_
    refine aX rfl rfl rfl (fun _ => aC (.int _ _) rfl) ?_
    refine aX rfl rfl rfl (fun _ => aC (.int _ _) rfl) ?_
    refine aX rfl rfl rfl (fun _ => aC (.int _ _) rfl) ?_
    refine aX rfl rfl rfl (fun _ => aC (.int _ _) rfl) ?_
    refine aX rfl rfl rfl (fun _ => aC (.int _ _) rfl) ?_
    refine eD [false] rfl (by kernel_rfl) ?_
    refine aK aTr rfl rfl rfl ?_
    refine (aNb _ (tF (rE (loB a b) (hiB a b))) (uR (rE (loB a b) (hiB a b))) hd.1 hd.2).mono ?_
    rintro _ w15 ⟨v15, rfl, ⟨rfl, hb15⟩⟩
    refine ⟨_, rfl, ?_⟩
    have M15 := M14.callB hb15
    refine aE (aF ⟨(lF (dH rfl (bB 5 eT M15 rfl rfl rfl)) eF), ?_⟩)
    refine eD [false] rfl (by kernel_rfl) ?_
    refine aK aKx rfl rfl rfl ?_
    refine (uU _ (tF (rE (loB a b) (hiB a b))) (uR (rE (loB a b) (hiB a b))) hd.1 hd.2).mono ?_
    rintro _ w16 ⟨v16, rfl, ⟨rfl, hb16⟩⟩
    refine ⟨_, rfl, ?_⟩
    have M16 := M15.callB hb16
    refine aE (aF ⟨(lF (dH rfl (bB 5 eT M16 rfl rfl rfl)) eF), ?_⟩)
    refine aX rfl rfl rfl (fun _ => mY rfl rfl (by omega) (by omega)) ?_
    refine aX rfl rfl rfl (fun _ => fA us2 Tryz.underlying21 rfl) ?_
    refine aX rfl rfl rfl (fun _ => cB [(0, .agg (List.toArray _)), (1, .agg (List.toArray _)), (2, .int _ _)] _ xM rfl rfl) ?_
    refine eD [true] rfl (by kernel_rfl) ?_
    refine bJ 2 _ fD M16 rfl rfl rfl rfl rfl (aU rfl) rfl (fun w17 M17 => ?_)
    refine aE (aF ⟨eF, ?_⟩)
    refine aX rfl rfl rfl (fun _ => aD (.bool true) rfl) ?_
    refine cF ?_
    refine aF (aR ?_)
    refine aRf (v2 := .bool true) 2 fD M17 rfl rfl rfl rfl ?_
    exact ⟨by rw [aAg]; unfold kN; first | (rw [if_pos (by omega)]; rfl) | (rw [if_neg (by omega)]; rfl), M17.below⟩
end Go.Proofs.YtlmcphcgiclanaaGreatDoor
