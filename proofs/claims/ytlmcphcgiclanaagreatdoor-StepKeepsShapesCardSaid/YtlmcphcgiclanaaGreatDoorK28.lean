/- Part of the proof of the laws of this seat: Z1, Z1b, Z1c, Z1d, W3, Z2, W4, Z3, Z4, W5, W6. No conditions. -/
import Derived.Test.YtlmcphcgiclanaaGreatDoorK5
import Derived.Test.YtlmcphcgiclanaaGreatDoorK12
import Derived.Test.YtlmcphcgiclanaaGreatDoorK18
import Derived.Test.YtlmcphcgiclanaaGreatDoorK11
import Derived.Test.YtlmcphcgiclanaaGreatDoorK17
set_option linter.unusedVariables false
set_option linter.unusedSimpArgs false
set_option linter.unnecessarySimpa false
namespace Go.Proofs.YtlmcphcgiclanaaGreatDoor
open Go.Bil
open Go.RowKit (Below)
open Go.Proofs
end Go.Proofs.YtlmcphcgiclanaaGreatDoor

namespace Go.Proofs.YtlmcphcgiclanaaGreatDoor
open Go.Bil
open Go.RowKit (Below)
open Go.Proofs
end Go.Proofs.YtlmcphcgiclanaaGreatDoor

namespace Go.Proofs.YtlmcphcgiclanaaGreatDoor
open Go.Bil
open Go.RowKit (Below)
open Go.Proofs
end Go.Proofs.YtlmcphcgiclanaaGreatDoor

namespace Go.Proofs.YtlmcphcgiclanaaGreatDoor
open Go.Bil
open Go.RowKit (Below)
open Go.Proofs
end Go.Proofs.YtlmcphcgiclanaaGreatDoor

namespace Go.Proofs.YtlmcphcgiclanaaGreatDoor
open Go.Bil
open Go.RowKit (Below)
open Go.Proofs
set_option maxHeartbeats 8000000 in
theorem aWg (w : World) (n : Nat) (hn : n < 18446744073709551616) :
    Calls Tryz.prog 203 #[.int .u64 (n : Int)] w (fun ex w' => ∃ v, ex = .returned v ∧ (fun v w' => v = .int .u64 ((qM n : Nat) : Int) ∧ Below w.heap.size w w') v w') := by
  refine aJ #[.tmp 2] 32 Tryz.func203 rfl Tryz.results203 Tryz.ntmps203 rfl ?_
  have M0 := Mem.refl w
  refine aG (aB ?_)
  refine aA (aD (.int _ _) rfl) rfl rfl ?_
  refine aE (aF (aG (aB ?_)))
  refine aA (aC (.int _ _) rfl) rfl rfl ?_
  refine aA (aD (.int _ _) rfl) rfl rfl ?_
  refine aA (aD (.int _ _) rfl) rfl rfl ?_
  refine aE (aF (aG (aG (aB ?_))))
  refine aA (aC (.int _ _) rfl) rfl rfl ?_
  refine aE (aF (bA ?_))
  refine dI (σ := Nat × Nat × Nat) [2] (fun (i, R, e) => [(8, .int .i64 (i : Int)), (3, .int .u64 ((n - R * R : Nat) : Int)), (4, .int .u64 ((R * e : Nat) : Int))]) (fun (i, R, e) w' => Iq n i R e ∧ Mem w [] [] w') (fun (i, R, e) => 32 - i) (0, 0, 4294967296) (bS rfl (bS (iv rfl (by simp)) (bS (iv rfl (by simp)) eV))) (⟨aPi hn, M0⟩) ?_
  rintro ⟨i, R, e⟩ ρ1 w1 ⟨I, hM1⟩
  have hile := I.ile
  have hle := I.le
  refine aG (aB ?_)
  refine aA (aO (.bool (decide _)) rfl rfl rfl) rfl rfl ?_
  refine aE (aF (aG ?_))
  refine aY rfl (fun h9 => ?_) (fun h9 => ?_)
  · obtain ⟨f, hf1, hf2, hf3, hf4, hf5, hf6, hf7, hf8, hfy, hfn⟩ := aOq (by omega) I
    refine aN (aF (aG (bA (aG (aB ?_)))))
    refine aA (aC (.int _ _) rfl) rfl rfl ?_
    refine aA (aD (.int _ _) rfl) rfl rfl ?_
    refine aE (aF (aG (aB ?_)))
    refine aA (aC (.int _ _) rfl) rfl rfl ?_
    refine aA (jR rfl rfl (by omega) (by omega)) rfl rfl ?_
    refine aA (gQ rfl rfl (by omega)) rfl rfl ?_
    refine aM 13 (.int .u64 ((f * f : Nat) : Int)) (iE ((aQp (2 * i) _ (by omega) (by omega)).trans (congrArg _ hf4))) ?_
    refine aA (aD (.int _ _) rfl) rfl rfl ?_
    refine aE (aF (aG (aB ?_)))
    refine aA (aC (.int _ _) rfl) rfl rfl ?_
    refine aA (aC (.int _ _) rfl) rfl rfl ?_
    refine aA (aC (.int _ _) rfl) rfl rfl ?_
    refine aA (aO (.int _ _) rfl rfl rfl) rfl rfl ?_
    refine aM 17 (.int .u64 ((R * e + f * f : Nat) : Int)) (iE (by rw [oE]; omega)) ?_
    refine aA (aO (.bool (decide _)) rfl rfl rfl) rfl rfl ?_
    refine aE (aF ?_)
    refine aY rfl (fun h18 => ?_) (fun h18 => ?_)
    · have h18' : R * e + f * f ≤ n - R * R := by omega
      refine aG (aB ?_)
      refine aA (aC (.int _ _) rfl) rfl rfl ?_
      refine aA (aC (.int _ _) rfl) rfl rfl ?_
      refine aA (aC (.int _ _) rfl) rfl rfl ?_
      refine aA (aO (.int _ _) rfl rfl rfl) rfl rfl ?_
      refine aM 22 (.int .u64 ((R * e + f * f : Nat) : Int)) (iE (by rw [oE]; omega)) ?_
      refine aA (aO (.int _ _) rfl rfl rfl) rfl rfl ?_
      refine aM 23 (.int .u64 ((n - (R + f) * (R + f) : Nat) : Int)) (iE (by rw [oE]; omega)) ?_
      refine aA (aD (.int _ _) rfl) rfl rfl ?_
      refine aE (aF (aB ?_))
      refine aA (aC (.int _ _) rfl) rfl rfl ?_
      refine aA (gQ rfl rfl (by decide)) rfl rfl ?_
      refine aM 25 (.int .u64 ((R * f : Nat) : Int)) (iE ((aMu (R * e)).trans (congrArg _ hf5))) ?_
      refine aA (aC (.int _ _) rfl) rfl rfl ?_
      refine aA (aO (.int _ _) rfl rfl rfl) rfl rfl ?_
      refine aM 27 (.int .u64 (((R + f) * f : Nat) : Int)) (iE (by rw [oE]; omega)) ?_
      refine aA (aD (.int _ _) rfl) rfl rfl ?_
      refine aE ?_
      refine dJ ?_
      refine aF (aB ?_)
      refine aA (bX rfl rfl (by omega) (by omega)) rfl rfl ?_
      refine aA (aC (.int _ _) rfl) rfl rfl ?_
      refine aE ?_
      refine cF (i + 1, R + f, f) (bS rfl (bS rfl (bS rfl eV))) (cL rfl iI) ?_ ?_
      · exact ⟨hfy h18', hM1⟩
      · (show 32 - (i + 1) < 32 - i; omega)
    · have h18' : ¬ (R * e + f * f ≤ n - R * R) := by omega
      refine aB ?_
      refine aA (aC (.int _ _) rfl) rfl rfl ?_
      refine aA (gQ rfl rfl (by decide)) rfl rfl ?_
      refine aM 29 (.int .u64 ((R * f : Nat) : Int)) (iE ((aMu (R * e)).trans (congrArg _ hf5))) ?_
      refine aA (aD (.int _ _) rfl) rfl rfl ?_
      refine aE ?_
      refine dJ ?_
      refine aF (aB ?_)
      refine aA (bX rfl rfl (by omega) (by omega)) rfl rfl ?_
      refine aA (aC (.int _ _) rfl) rfl rfl ?_
      refine aE ?_
      refine cF (i + 1, R, f) (bS rfl (bS rfl (bS rfl eV))) (cL rfl iI) ?_ ?_
      · exact ⟨hfn h18', hM1⟩
      · (show 32 - (i + 1) < 32 - i; omega)
  · obtain rfl : i = 32 := by omega
    refine cK ?_
    refine dB ?_
    refine cY ?_
    refine eN ?_
    refine aF (aG (aB ?_))
    refine aA (aC (.int _ _) rfl) rfl rfl ?_
    refine aA (aD (.int _ _) rfl) rfl rfl ?_
    refine aE (aF (aR ?_))
    refine cI (.int _ _) rfl ?_
    exact ⟨iE (by rw [aPh I]), hM1.below⟩
set_option maxHeartbeats 4000000 in
theorem mP (w : World) (a b : Int × Int) (ha : I32 a) (hb : I32 b) :
    Calls Tryz.prog 200 #[(.agg (cA a).toArray), (.agg (cA b).toArray)] w (fun ex w' => ∃ v, ex = .returned v ∧ (fun v w' => v = .tuple #[.int .i64 (b.1 - a.1), .int .i64 (b.2 - a.2)] ∧ Below w.heap.size w w') v w') := by
  have hax := ha.x
  have hay := ha.y
  have hbx := hb.x
  have hby := hb.y
  refine aJ #[.tmp 4, .tmp 5] 20 Tryz.func200 rfl Tryz.results200 Tryz.ntmps200 rfl ?_
  have M0 := Mem.refl w
  refine aG (aB ?_)
  refine bK (.agg (List.toArray _)) M0 rfl rfl rfl (fun b1 w1 M1 => ?_)
  refine bK (.agg (List.toArray _)) M1 rfl rfl rfl (fun b2 w2 M2 => ?_)
  refine aA (aD (.int _ _) rfl) rfl rfl ?_
  refine aA (aD (.int _ _) rfl) rfl rfl ?_
  refine aE (aF (aG ?_))
  refine bZ [(0, 0), (1, 1), (2, 0), (3, 0), (4, 1), (5, 0), (6, 0), (7, 0), (8, 1), (9, 0), (10, 0), (11, 1), (12, 0), (13, 0), (14, 0), (15, 0)] mixed rfl (by kernel_rfl) (fun w3 hb3 hh3 => ?_)
  have M3 := M2.drew hb3 hh3
  refine aW rfl rfl rfl (fun _ => aH 0 dQ rfl) ?_
  refine cB rfl rfl rfl (aZ 1 (.int _ _) bH M3 rfl rfl rfl) ?_
  refine aW rfl rfl rfl (fun _ => bR fQ Tryz.underlying2 rfl (jL _ (by omega) (by omega))) ?_
  refine aW rfl rfl rfl (fun _ => aH 0 dQ rfl) ?_
  refine cB rfl rfl rfl (aZ 0 (.int _ _) bH M3 rfl rfl rfl) ?_
  refine aW rfl rfl rfl (fun _ => bR fQ Tryz.underlying2 rfl (jL _ (by omega) (by omega))) ?_
  refine aW rfl rfl rfl (fun _ => mL rfl rfl (by omega) (by omega)) ?_
  refine aW rfl rfl rfl (fun _ => aH 1 dH rfl) ?_
  refine cB rfl rfl rfl (aZ 1 (.int _ _) bH M3 rfl rfl rfl) ?_
  refine aW rfl rfl rfl (fun _ => bR fQ Tryz.underlying2 rfl (jL _ (by omega) (by omega))) ?_
  refine aW rfl rfl rfl (fun _ => aH 1 dH rfl) ?_
  refine cB rfl rfl rfl (aZ 0 (.int _ _) bH M3 rfl rfl rfl) ?_
  refine aW rfl rfl rfl (fun _ => bR fQ Tryz.underlying2 rfl (jL _ (by omega) (by omega))) ?_
  refine aW rfl rfl rfl (fun _ => mL rfl rfl (by omega) (by omega)) ?_
  refine aW rfl rfl rfl (fun _ => aD (.int _ _) rfl) ?_
  refine aW rfl rfl rfl (fun _ => aD (.int _ _) rfl) ?_
  refine cE ?_
  refine aF (aR ?_)
  refine fG (.int _ _) (.int _ _) rfl rfl ?_
  exact ⟨rfl, M3.below⟩
set_option maxHeartbeats 4000000 in
theorem uK (w : World) (n : Int) (hn : sN n) :
    Calls Tryz.prog 201 #[.int .i64 n] w (fun ex w' => ∃ v, ex = .returned v ∧ (fun v w' => v = .int .u64 ((n.natAbs * n.natAbs : Nat) : Int) ∧ Below w.heap.size w w') v w') := by
  have hlt := (vF hn hn).2.1
  unfold sN at hn
  refine aJ #[.tmp 2] 12 Tryz.func201 rfl Tryz.results201 Tryz.ntmps201 rfl ?_
  have M0 := Mem.refl w
  refine aG (aB ?_)
  refine aA (aD (.int _ _) rfl) rfl rfl ?_
  refine aE (aF (aG (aG (aB ?_))))
  refine aA (aC (.int _ _) rfl) rfl rfl ?_
  refine aA (aO (.bool (decide _)) rfl rfl rfl) rfl rfl ?_
  refine aE (aF ?_)
  refine aY rfl (fun h4 => ?_) (fun h4 => ?_)
  · refine aB ?_
    refine aA (aC (.int _ _) rfl) rfl rfl ?_
    refine aA (aBc rfl) rfl rfl ?_
    refine aM 6 (.int .i64 (-n)) (iE (jL _ (by omega) (by omega))) ?_
    refine aA (aD (.int _ _) rfl) rfl rfl ?_
    refine aE (aF (aG (aB ?_)))
    refine aA (aC (.int _ _) rfl) rfl rfl ?_
    refine aA (eZ us2 Tryz.underlying170 rfl) rfl rfl ?_
    refine aM 8 (.int .u64 ((n.natAbs : Nat) : Int)) (iE (by rw [oE]; omega)) ?_
    refine aA (aC (.int _ _) rfl) rfl rfl ?_
    refine aA (eZ us2 Tryz.underlying170 rfl) rfl rfl ?_
    refine aM 10 (.int .u64 ((n.natAbs : Nat) : Int)) (iE (by rw [oE]; omega)) ?_
    refine aA (aO (.int _ _) rfl rfl rfl) rfl rfl ?_
    refine aM 11 (.int .u64 ((n.natAbs * n.natAbs : Nat) : Int)) (iE (aHd _ _ (by omega))) ?_
    refine aA (aD (.int _ _) rfl) rfl rfl ?_
    refine aE (aF (aR ?_))
    refine cI (.int _ _) rfl ?_
    exact ⟨rfl, M0.below⟩
  · refine aN (aF (aG (aB ?_)))
    refine aA (aC (.int _ _) rfl) rfl rfl ?_
    refine aA (eZ us2 Tryz.underlying170 rfl) rfl rfl ?_
    refine aM 8 (.int .u64 ((n.natAbs : Nat) : Int)) (iE (by rw [oE]; omega)) ?_
    refine aA (aC (.int _ _) rfl) rfl rfl ?_
    refine aA (eZ us2 Tryz.underlying170 rfl) rfl rfl ?_
    refine aM 10 (.int .u64 ((n.natAbs : Nat) : Int)) (iE (by rw [oE]; omega)) ?_
    refine aA (aO (.int _ _) rfl rfl rfl) rfl rfl ?_
    refine aM 11 (.int .u64 ((n.natAbs * n.natAbs : Nat) : Int)) (iE (aHd _ _ (by omega))) ?_
    refine aA (aD (.int _ _) rfl) rfl rfl ?_
    refine aE (aF (aR ?_))
    refine cI (.int _ _) rfl ?_
    exact ⟨rfl, M0.below⟩
set_option maxHeartbeats 4000000 in
theorem lT (w : World) (dx dy : Int) (hx : sN dx) (hy : sN dy) :
    Calls Tryz.prog 173 #[.int .i64 dx, .int .i64 dy] w (fun ex w' => ∃ v, ex = .returned v ∧ (fun v w' => v = .int .u64 ((vH dx dy : Nat) : Int) ∧ Below w.heap.size w w') v w') := by
  have hl := vF hx hy
  refine aJ #[.tmp 4] 10 Tryz.func173 rfl Tryz.results173 Tryz.ntmps173 rfl ?_
  have M0 := Mem.refl w
  refine aG (aB ?_)
  refine aA (aD (.int _ _) rfl) rfl rfl ?_
  refine aE (aF (aG (aB ?_)))
  refine aA (aC (.int _ _) rfl) rfl rfl ?_
  refine aL aKh rfl rfl rfl ?_
  refine (uK _ dx hx).mono ?_
  rintro _ w1 ⟨v1, rfl, ⟨rfl, hb1⟩⟩
  refine ⟨_, rfl, ?_⟩
  have M1 := M0.callB hb1
  refine aA (aC (.int _ _) rfl) rfl rfl ?_
  refine aL aKh rfl rfl rfl ?_
  refine (uK _ dy hy).mono ?_
  rintro _ w2 ⟨v2, rfl, ⟨rfl, hb2⟩⟩
  refine ⟨_, rfl, ?_⟩
  have M2 := M1.callB hb2
  refine aA (aO (.int _ _) rfl rfl rfl) rfl rfl ?_
  refine aM 9 (.int .u64 ((vH dx dy : Nat) : Int)) (iE (by rw [oE]; unfold vH at *; omega)) ?_
  refine aA (aD (.int _ _) rfl) rfl rfl ?_
  refine aE (aF (aR ?_))
  refine cI (.int _ _) rfl ?_
  exact ⟨rfl, M2.below⟩
set_option maxHeartbeats 4000000 in
theorem tL (w : World) (dx dy : Int) (hx : sN dx) (hy : sN dy) :
    Calls Tryz.prog 175 #[.int .i64 dx, .int .i64 dy] w (fun ex w' => ∃ v, ex = .returned v ∧ (fun v w' => v = .int .i64 (len dx dy) ∧ Below w.heap.size w w') v w') := by
  have hl := yO hx hy
  refine aJ #[.tmp 4] 10 Tryz.func175 rfl Tryz.results175 Tryz.ntmps175 rfl ?_
  have M0 := Mem.refl w
  refine aG (aB ?_)
  refine aA (aD (.int _ _) rfl) rfl rfl ?_
  refine aE (aF (aG (aB ?_)))
  refine aA (aC (.int _ _) rfl) rfl rfl ?_
  refine aA (aC (.int _ _) rfl) rfl rfl ?_
  refine aL aDr rfl rfl rfl ?_
  refine (lT _ dx dy hx hy).mono ?_
  rintro _ w1 ⟨v1, rfl, ⟨rfl, hb1⟩⟩
  refine ⟨_, rfl, ?_⟩
  have M1 := M0.callB hb1
  refine aL aTo rfl rfl rfl ?_
  refine (aWg _ (vH dx dy) (vF hx hy).1).mono ?_
  rintro _ w2 ⟨v2, rfl, ⟨rfl, hb2⟩⟩
  refine ⟨_, rfl, ?_⟩
  have M2 := M1.callB hb2
  refine aA (eZ wG Tryz.underlying2 rfl) rfl rfl ?_
  refine aM 9 (.int .i64 (len dx dy)) (iE (jL (len dx dy) (by omega) (by omega))) ?_
  refine aA (aD (.int _ _) rfl) rfl rfl ?_
  refine aE (aF (aR ?_))
  refine cI (.int _ _) rfl ?_
  exact ⟨rfl, M2.below⟩
set_option maxHeartbeats 4000000 in
theorem wD (w : World) (a b : Int) (hb : 0 < b) (h0 : -1000000000000000000 ≤ a) (h1 : a ≤ 1000000000000000000) :
    Calls Tryz.prog 202 #[.int .i64 a, .int .i64 b] w (fun ex w' => ∃ v, ex = .returned v ∧ (fun v w' => v = .int .i64 (a / b) ∧ Below w.heap.size w w') v w') := by
  have hf := aAi (a := a) hb
  have hb1 := aDt a b
  refine aJ #[.tmp 4] 16 Tryz.func202 rfl Tryz.results202 Tryz.ntmps202 rfl ?_
  have M0 := Mem.refl w
  refine aG (aB ?_)
  refine aA (aD (.int _ _) rfl) rfl rfl ?_
  refine aE (aF (aG (aB ?_)))
  refine aA (aC (.int _ _) rfl) rfl rfl ?_
  refine aA (aC (.int _ _) rfl) rfl rfl ?_
  refine aA (aFm rfl rfl (by omega)) rfl rfl ?_
  refine aM 8 (.int .i64 (a.tdiv b)) (iE (jL _ (by omega) (by omega))) ?_
  refine aA (aD (.int _ _) rfl) rfl rfl ?_
  refine aE (aF (aG (aG (aB ?_))))
  refine aA (aC (.int _ _) rfl) rfl rfl ?_
  refine aA (aC (.int _ _) rfl) rfl rfl ?_
  refine aA (aMv rfl rfl (by omega)) rfl rfl ?_
  refine aA (aO (.bool (decide _)) rfl rfl rfl) rfl rfl ?_
  refine aE (aF ?_)
  refine aY rfl (fun h12 => ?_) (fun h12 => ?_)
  · refine aB ?_
    refine aA (aC (.int _ _) rfl) rfl rfl ?_
    refine aA (mL rfl rfl (by omega) (by omega)) rfl rfl ?_
    refine aA (aD (.int _ _) rfl) rfl rfl ?_
    refine aE (aF (aG (aB ?_)))
    refine aA (aC (.int _ _) rfl) rfl rfl ?_
    refine aA (aD (.int _ _) rfl) rfl rfl ?_
    refine aE (aF (aR ?_))
    refine cI (.int _ _) rfl ?_
    exact ⟨iE (by first | exact hf.1 (by omega) | exact hf.2 (by omega)), M0.below⟩
  · refine aN (aF (aG (aB ?_)))
    refine aA (aC (.int _ _) rfl) rfl rfl ?_
    refine aA (aD (.int _ _) rfl) rfl rfl ?_
    refine aE (aF (aR ?_))
    refine cI (.int _ _) rfl ?_
    exact ⟨iE (by first | exact hf.1 (by omega) | exact hf.2 (by omega)), M0.below⟩
set_option maxHeartbeats 4000000 in
theorem aJz (w : World) (dx dy : Int) (hx : sN dx) (hy : sN dy) :
    Calls Tryz.prog 174 #[.int .i64 dx, .int .i64 dy] w (fun ex w' => ∃ v, ex = .returned v ∧ (fun v w' => v = (.agg (cA (iY dx dy)).toArray) ∧ Below w.heap.size w w') v w') := by
  have hl := yO hx hy
  have hxx := hx
  have hyy := hy
  unfold sN at hxx hyy
  refine aJ #[.cell 4 38] 23 Tryz.func174 rfl Tryz.results174 Tryz.ntmps174 rfl ?_
  have M0 := Mem.refl w
  refine aG (aB ?_)
  refine aS fY M0 rfl rfl (fun b1 w1 M1 => ?_)
  refine aE (aF (aG (aB ?_)))
  refine aA (aC (.int _ _) rfl) rfl rfl ?_
  refine aA (aC (.int _ _) rfl) rfl rfl ?_
  refine aL aMb rfl rfl rfl ?_
  refine (tL _ dx dy hx hy).mono ?_
  rintro _ w2 ⟨v2, rfl, ⟨rfl, hb2⟩⟩
  refine ⟨_, rfl, ?_⟩
  have M2 := M1.callB hb2
  refine aA (aD (.int _ _) rfl) rfl rfl ?_
  refine aE (aF (aG (aG (aB ?_))))
  refine aA (aC (.int _ _) rfl) rfl rfl ?_
  refine aA (aO (.bool (decide _)) rfl rfl rfl) rfl rfl ?_
  refine aE (aF ?_)
  refine aY rfl (fun h10 => ?_) (fun h10 => ?_)
  · refine aG (aB ?_)
    refine aA (cC [(0, .int _ _)] _ dY rfl rfl) rfl rfl ?_
    refine bJ 0 _ bI M2 rfl rfl rfl rfl rfl (aU rfl) rfl (fun w3 M3 => ?_)
    refine aE (aF (aR (cP ?_)))
    refine jZ 0 bI M3 rfl rfl rfl ?_
    exact ⟨by unfold iY; first | (rw [if_pos (by omega)]; rfl) | (rw [if_neg (by omega)]; rfl), M3.below⟩
  · refine aN (aF (aG (aB ?_)))
    refine aA (aC (.int _ _) rfl) rfl rfl ?_
    refine aA (xE rfl rfl (by decide)) rfl rfl ?_
    refine aM 13 (.int .i64 (dx * 65536)) (iE (wF dx hx)) ?_
    refine aA (aC (.int _ _) rfl) rfl rfl ?_
    refine aL aNb rfl rfl rfl ?_
    refine (wD _ (dx * 65536) (len dx dy) (by omega) (by omega) (by omega)).mono ?_
    rintro _ w4 ⟨v4, rfl, ⟨rfl, hb4⟩⟩
    refine ⟨_, rfl, ?_⟩
    have M4 := M2.callB hb4
    refine aA (eZ us2 Tryz.underlying21 rfl) rfl rfl ?_
    refine aA (aC (.int _ _) rfl) rfl rfl ?_
    refine aA (xE rfl rfl (by decide)) rfl rfl ?_
    refine aM 18 (.int .i64 (dy * 65536)) (iE (wF dy hy)) ?_
    refine aA (aC (.int _ _) rfl) rfl rfl ?_
    refine aL aNb rfl rfl rfl ?_
    refine (wD _ (dy * 65536) (len dx dy) (by omega) (by omega) (by omega)).mono ?_
    rintro _ w5 ⟨v5, rfl, ⟨rfl, hb5⟩⟩
    refine ⟨_, rfl, ?_⟩
    have M5 := M4.callB hb5
    refine aA (eZ us2 Tryz.underlying21 rfl) rfl rfl ?_
    refine aA (cC [(0, .int _ _), (1, .int _ _)] _ dY rfl rfl) rfl rfl ?_
    refine bJ 0 _ bI M5 rfl rfl rfl rfl rfl (aU rfl) rfl (fun w6 M6 => ?_)
    refine aE (aF (aR ?_))
    refine jZ 0 bI M6 rfl rfl rfl ?_
    exact ⟨by unfold iY; first | (rw [if_pos (by omega)]; rfl) | (rw [if_neg (by omega)]; rfl), M6.below⟩
end Go.Proofs.YtlmcphcgiclanaaGreatDoor

namespace Go.Proofs.YtlmcphcgiclanaaGreatDoor
open Go.Bil
open Go.RowKit (Below)
open Go.Proofs
end Go.Proofs.YtlmcphcgiclanaaGreatDoor

namespace Go.Proofs.YtlmcphcgiclanaaGreatDoor
open Go.Bil
open Go.RowKit (Below)
open Go.Proofs
set_option maxHeartbeats 4000000 in
theorem aJe (w : World) (b : Body) (hb : Okb b) :
    Calls Tryz.prog 220 #[(.agg (aI b).toArray)] w (fun ex w' => ∃ v, ex = .returned v ∧ (fun v w' => v = .tuple #[(.agg (cA (aCf b)).toArray), (.agg (cA (aAy b)).toArray)] ∧ Below w.heap.size w w') v w') := by
  have ha := hb.a
  have hp := hb.p
  refine aJ #[.cell 2 38, .cell 3 38] 36 Tryz.func220 rfl Tryz.results220 Tryz.ntmps220 rfl ?_
  have M0 := Mem.refl w
  refine aG (aB ?_)
  refine bK (.agg (List.toArray _)) M0 rfl rfl rfl (fun b1 w1 M1 => ?_)
  refine aS fY M1 rfl rfl (fun b2 w2 M2 => ?_)
  refine aS fY M2 rfl rfl (fun b3 w3 M3 => ?_)
  refine aE (aF (aG (aB ?_)))
  refine aA (aH 6 eK rfl) rfl rfl ?_
  refine aA (aH 0 dQ rfl) rfl rfl ?_
  refine aA (aZ 0 (.int _ _) bH M3 rfl rfl rfl) rfl rfl ?_
  refine aA (aH 2 jQ rfl) rfl rfl ?_
  refine aA (aH 0 dQ rfl) rfl rfl ?_
  refine aA (aZ 0 (.int _ _) bH M3 rfl rfl rfl) rfl rfl ?_
  refine aA (jG rfl rfl (jM _ (by omega) (by omega))) rfl rfl ?_
  refine aA (aH 6 eK rfl) rfl rfl ?_
  refine aA (aH 1 dH rfl) rfl rfl ?_
  refine aA (aZ 0 (.int _ _) bH M3 rfl rfl rfl) rfl rfl ?_
  refine aA (aH 2 jQ rfl) rfl rfl ?_
  refine aA (aH 1 dH rfl) rfl rfl ?_
  refine aA (aZ 0 (.int _ _) bH M3 rfl rfl rfl) rfl rfl ?_
  refine aA (jG rfl rfl (jM _ (by omega) (by omega))) rfl rfl ?_
  refine aA (cC [(0, .int _ _), (1, .int _ _)] _ dY rfl rfl) rfl rfl ?_
  refine bJ 1 _ bI M3 rfl rfl rfl rfl rfl (aU rfl) rfl (fun w4 M4 => ?_)
  refine aE (aF (aG (aB ?_)))
  refine aA (aH 6 eK rfl) rfl rfl ?_
  refine aA (aH 0 dQ rfl) rfl rfl ?_
  refine aA (aZ 0 (.int _ _) bH M4 rfl rfl rfl) rfl rfl ?_
  refine aA (aH 2 jQ rfl) rfl rfl ?_
  refine aA (aH 0 dQ rfl) rfl rfl ?_
  refine aA (aZ 0 (.int _ _) bH M4 rfl rfl rfl) rfl rfl ?_
  refine aA (fZ rfl rfl (jM _ (by omega) (by omega))) rfl rfl ?_
  refine aA (aH 6 eK rfl) rfl rfl ?_
  refine aA (aH 1 dH rfl) rfl rfl ?_
  refine aA (aZ 0 (.int _ _) bH M4 rfl rfl rfl) rfl rfl ?_
  refine aA (aH 2 jQ rfl) rfl rfl ?_
  refine aA (aH 1 dH rfl) rfl rfl ?_
  refine aA (aZ 0 (.int _ _) bH M4 rfl rfl rfl) rfl rfl ?_
  refine aA (fZ rfl rfl (jM _ (by omega) (by omega))) rfl rfl ?_
  refine aA (cC [(0, .int _ _), (1, .int _ _)] _ dY rfl rfl) rfl rfl ?_
  refine bJ 2 _ bI M4 rfl rfl rfl rfl rfl (aU rfl) rfl (fun w5 M5 => ?_)
  refine aE (aF (aG ?_))
  refine bZ [(0, 1), (1, 1), (2, 2), (3, 2)] mixed rfl (by kernel_rfl) (fun w6 hb6 hh6 => ?_)
  have M6 := M5.drew hb6 hh6
  refine cB rfl rfl rfl (bB 1 bI M6 rfl rfl rfl) ?_
  refine cB rfl rfl rfl (bB 2 bI M6 rfl rfl rfl) ?_
  refine eB [false, true] rfl (by kernel_rfl) ?_
  refine bJ 1 _ bI M6 rfl rfl rfl rfl rfl (aU rfl) rfl (fun w7 M7 => ?_)
  refine aE (aF ⟨(kO (dG rfl (bB 2 bI M7 rfl rfl rfl)) dZ), ?_⟩)
  refine eB [true] rfl (by kernel_rfl) ?_
  refine bJ 2 _ bI M7 rfl rfl rfl rfl rfl (aU rfl) rfl (fun w8 M8 => ?_)
  refine aE (aF ⟨dZ, ?_⟩)
  refine cE ?_
  refine aF (aR ?_)
  refine aEz 1 2 bI M8 rfl rfl rfl rfl rfl rfl ?_
  exact ⟨rfl, M8.below⟩
set_option maxHeartbeats 4000000 in
theorem aAx (w : World) (p q c : Pt) (h : SgI p q) (hc : PtI c) :
    Calls Tryz.prog 244 #[(.agg (cA p).toArray), (.agg (cA q).toArray), (.agg (cA c).toArray)] w (fun ex w' => ∃ v, ex = .returned v ∧ (fun v w' => v = .tuple #[.int .i64 (lY p q c), .int .i64 (iT p q)] ∧ Below w.heap.size w w') v w') := by
  have hD := pG h
  have hx := aIs h hc
  refine aJ #[.tmp 6, .tmp 7] 42 Tryz.func244 rfl Tryz.results244 Tryz.ntmps244 rfl ?_
  have M0 := Mem.refl w
  refine aG (aB ?_)
  refine bK (.agg (List.toArray _)) M0 rfl rfl rfl (fun b1 w1 M1 => ?_)
  refine bK (.agg (List.toArray _)) M1 rfl rfl rfl (fun b2 w2 M2 => ?_)
  refine bK (.agg (List.toArray _)) M2 rfl rfl rfl (fun b3 w3 M3 => ?_)
  refine aA (aD (.int _ _) rfl) rfl rfl ?_
  refine aA (aD (.int _ _) rfl) rfl rfl ?_
  refine aE (aF (aG (aB ?_)))
  refine aA (bB 0 bI M3 rfl rfl rfl) rfl rfl ?_
  refine aA (bB 1 bI M3 rfl rfl rfl) rfl rfl ?_
  refine aL tQ rfl rfl rfl ?_
  refine (mP _ p q h.hp.i32 h.hq.i32).mono ?_
  rintro _ w4 ⟨v4, rfl, ⟨rfl, hb4⟩⟩
  refine ⟨_, rfl, ?_⟩
  have M4 := M3.callB hb4
  refine aA (aC (.tuple (List.toArray _)) rfl) rfl rfl ?_
  refine aA (bE (.int _ _) rfl rfl) rfl rfl ?_
  refine aA (bE (.int _ _) rfl rfl) rfl rfl ?_
  refine aA (aD (.int _ _) rfl) rfl rfl ?_
  refine aA (aD (.int _ _) rfl) rfl rfl ?_
  refine aE (aF (aG (aB ?_)))
  refine aA (bB 0 bI M4 rfl rfl rfl) rfl rfl ?_
  refine aA (bB 2 bI M4 rfl rfl rfl) rfl rfl ?_
  refine aL tQ rfl rfl rfl ?_
  refine (mP _ p c h.hp.i32 hc.i32).mono ?_
  rintro _ w5 ⟨v5, rfl, ⟨rfl, hb5⟩⟩
  refine ⟨_, rfl, ?_⟩
  have M5 := M4.callB hb5
  refine aA (aC (.tuple (List.toArray _)) rfl) rfl rfl ?_
  refine aA (bE (.int _ _) rfl rfl) rfl rfl ?_
  refine aA (bE (.int _ _) rfl rfl) rfl rfl ?_
  refine aA (aD (.int _ _) rfl) rfl rfl ?_
  refine aA (aD (.int _ _) rfl) rfl rfl ?_
  refine aE (aF (aG (aB ?_)))
  refine aA (aC (.int _ _) rfl) rfl rfl ?_
  refine aA (aC (.int _ _) rfl) rfl rfl ?_
  refine aA (jR rfl rfl (by omega) (by omega)) rfl rfl ?_
  refine aA (aC (.int _ _) rfl) rfl rfl ?_
  refine aA (aC (.int _ _) rfl) rfl rfl ?_
  refine aA (jR rfl rfl (by omega) (by omega)) rfl rfl ?_
  refine aA (bX rfl rfl (by omega) (by omega)) rfl rfl ?_
  refine aM 30 (.int .i64 (iT p q)) rfl ?_
  refine aA (aD (.int _ _) rfl) rfl rfl ?_
  refine aE (aF (aG (aB ?_)))
  refine aA (aC (.int _ _) rfl) rfl rfl ?_
  refine aA (aC (.int _ _) rfl) rfl rfl ?_
  refine aA (jR rfl rfl (by omega) (by omega)) rfl rfl ?_
  refine aA (aC (.int _ _) rfl) rfl rfl ?_
  refine aA (aC (.int _ _) rfl) rfl rfl ?_
  refine aA (jR rfl rfl (by omega) (by omega)) rfl rfl ?_
  refine aA (bX rfl rfl (by omega) (by omega)) rfl rfl ?_
  refine aA (aC (.int _ _) rfl) rfl rfl ?_
  refine aA (uG rfl rfl ) rfl rfl ?_
  refine aA (kH rfl rfl ) rfl rfl ?_
  refine aA (aC (.int _ _) rfl) rfl rfl ?_
  refine aA (aD (.int _ _) rfl) rfl rfl ?_
  refine aA (aD (.int _ _) rfl) rfl rfl ?_
  refine aE (aF (aR ?_))
  refine fG (.int _ _) (.int _ _) rfl rfl ?_
  exact ⟨rfl, M5.below⟩
set_option maxHeartbeats 4000000 in
theorem wA (w : World) (f a n d : Int) (bn bd : Nat) (ha : -16777216 ≤ a ∧ a ≤ 16777216) (hn : 0 ≤ n) (hnd : n ≤ d) (hd0 : 0 < d) (hd : d ≤ 562949953421312) (h1 : -16777216 ≤ a * n / d ∧ a * n / d ≤ 16777216) (h2 : -1082130432 ≤ f + a * n / d ∧ f + a * n / d ≤ 1082130432) (K1 : Rd w 1 (some ⟨bn, 0, none⟩) 1 [[.int .i64 n]]) (K2 : Rd w 1 (some ⟨bd, 0, none⟩) 1 [[.int .i64 d]]) :
    Calls Tryz.prog 245 #[.int .i32 f, .int .i64 a, .pointer (some ⟨bn, 0, none⟩), .pointer (some ⟨bd, 0, none⟩)] w (fun ex w' => ∃ v, ex = .returned v ∧ (fun v w' => v = .int .i32 (f + a * n / d) ∧ Below w.heap.size w w') v w') := by
  rw [← fM bn, ← fM bd]
  refine aJ #[.tmp 6] 20 Tryz.func245 rfl Tryz.results245 Tryz.ntmps245 rfl ?_
  have M0 := Mem.refl w
  refine aG (aB ?_)
  refine aA (aD (.int _ _) rfl) rfl rfl ?_
  refine aE (aF (aG (aB ?_)))
  refine aA (aC (.int _ _) rfl) rfl rfl ?_
  refine aA (eI (o := 0) (.int _ _) jE (K1.mem M0) (show ([[.int .i64 n]] : List (List Value))[0]? = some [.int .i64 n] from rfl) rfl rfl) rfl rfl ?_
  refine aA (eI (o := 0) (.int _ _) jE (K2.mem M0) (show ([[.int .i64 d]] : List (List Value))[0]? = some [.int .i64 d] from rfl) rfl rfl) rfl rfl ?_
  refine aL yJ rfl rfl rfl ?_
  refine (aTh _ a n d (by omega) hn hnd hd0 (by omega)).mono ?_
  rintro _ w1 ⟨v1, rfl, ⟨rfl, hb1⟩⟩
  refine ⟨_, rfl, ?_⟩
  have M1 := M0.callB hb1
  refine aA (aC (.tuple (List.toArray _)) rfl) rfl rfl ?_
  refine aA (bE (.int _ _) rfl rfl) rfl rfl ?_
  refine aA (bE (.int _ _) rfl rfl) rfl rfl ?_
  refine aA (aD (.int _ _) rfl) rfl rfl ?_
  refine aA (aD (.int _ _) rfl) rfl rfl ?_
  refine aE (aF (aG (aB ?_)))
  refine aA (aC (.int _ _) rfl) rfl rfl ?_
  refine aA (aC (.int _ _) rfl) rfl rfl ?_
  refine aA (bR us2 Tryz.underlying21 rfl (jM _ (by omega) (by omega))) rfl rfl ?_
  refine aA (fZ rfl rfl (jM _ (by omega) (by omega))) rfl rfl ?_
  refine aA (aD (.int _ _) rfl) rfl rfl ?_
  refine aE (aF (aR ?_))
  refine cI (.int _ _) rfl ?_
  exact ⟨rfl, M1.below⟩
set_option maxHeartbeats 4000000 in
theorem iB (w : World) (p q c : Pt) (h : SgI p q) (hc : PtI c) :
    Calls Tryz.prog 239 #[(.agg (cA p).toArray), (.agg (cA q).toArray), (.agg (cA c).toArray)] w (fun ex w' => ∃ v, ex = .returned v ∧ (fun v w' => v = (.agg (cA (dE p q c)).toArray) ∧ Below w.heap.size w w') v w') := by
  have hD := pG h
  have hn := aBr (c := c) h
  have hx := h.x
  have hy := h.y
  refine aJ #[.cell 6 38] 40 Tryz.func239 rfl Tryz.results239 Tryz.ntmps239 rfl ?_
  have M0 := Mem.refl w
  refine aG (aB ?_)
  refine bK (.agg (List.toArray _)) M0 rfl rfl rfl (fun b1 w1 M1 => ?_)
  refine bK (.agg (List.toArray _)) M1 rfl rfl rfl (fun b2 w2 M2 => ?_)
  refine bK (.agg (List.toArray _)) M2 rfl rfl rfl (fun b3 w3 M3 => ?_)
  refine aS fY M3 rfl rfl (fun b4 w4 M4 => ?_)
  refine aE (aF (aG (aB ?_)))
  refine aA (bB 0 bI M4 rfl rfl rfl) rfl rfl ?_
  refine aA (bB 1 bI M4 rfl rfl rfl) rfl rfl ?_
  refine aA (bB 2 bI M4 rfl rfl rfl) rfl rfl ?_
  refine aL aUa rfl rfl rfl ?_
  refine (aAx _ p q c h hc).mono ?_
  rintro _ w5 ⟨v5, rfl, ⟨rfl, hb5⟩⟩
  refine ⟨_, rfl, ?_⟩
  have M5 := M4.callB hb5
  refine aA (aC (.tuple (List.toArray _)) rfl) rfl rfl ?_
  refine aA (bE (.int _ _) rfl rfl) rfl rfl ?_
  refine aA (bE (.int _ _) rfl rfl) rfl rfl ?_
  refine aS tM M5 rfl rfl (fun b6 w6 M6 => ?_)
  refine aS tM M6 rfl rfl (fun b7 w7 M7 => ?_)
  refine eC 4 (.int _ _) jE M7 rfl rfl rfl rfl rfl rfl (fun w8 M8 => ?_)
  refine eC 5 (.int _ _) jE M8 rfl rfl rfl rfl rfl rfl (fun w9 M9 => ?_)
  refine aE (aF (aG (aG (aB ?_))))
  refine aA (aZ 5 (.int _ _) jE M9 rfl rfl rfl) rfl rfl ?_
  refine aA (aO (.bool (decide _)) rfl rfl rfl) rfl rfl ?_
  refine aE (aF ?_)
  refine aY rfl (fun h20 => ?_) (fun h20 => ?_)
  · refine aG (aB ?_)
    refine aA (bB 0 bI M9 rfl rfl rfl) rfl rfl ?_
    refine bJ 3 _ bI M9 rfl rfl rfl rfl rfl (aU rfl) rfl (fun w10 M10 => ?_)
    refine aE (aF (aR (cP ?_)))
    refine jZ 3 bI M10 rfl rfl rfl ?_
    exact ⟨by unfold dE; first | (rw [if_pos h20]; rfl) | (rw [if_neg h20]; rfl), M10.below⟩
  · have hnr := aBd (c := c) h h20
    refine aN (aF (aG (aB ?_)))
    refine aA (dC [] [.pointer _, .pointer _] rfl rfl) rfl rfl ?_
    refine aA (aD (.func _ _ _) rfl) rfl rfl ?_
    refine aE (aF (aG (aB ?_)))
    refine aA (bB 0 bI M9 rfl rfl rfl) rfl rfl ?_
    refine aA (bB 1 bI M9 rfl rfl rfl) rfl rfl ?_
    refine aL tQ rfl rfl rfl ?_
    refine (mP _ p q h.hp.i32 h.hq.i32).mono ?_
    rintro _ w11 ⟨v11, rfl, ⟨rfl, hb11⟩⟩
    refine ⟨_, rfl, ?_⟩
    have M11 := M9.callB hb11
    refine aA (aC (.tuple (List.toArray _)) rfl) rfl rfl ?_
    refine aA (bE (.int _ _) rfl rfl) rfl rfl ?_
    refine aA (bE (.int _ _) rfl rfl) rfl rfl ?_
    refine aA (aD (.int _ _) rfl) rfl rfl ?_
    refine aA (aD (.int _ _) rfl) rfl rfl ?_
    refine aE (aF (aG ?_))
    refine bZ [(0, 0), (1, 0), (2, 1), (3, 0), (5, 0), (6, 0), (7, 1), (8, 0), (4, 2), (9, 2), (10, 0), (11, 2)] mixed rfl (by kernel_rfl) (fun w12 hb12 hh12 => ?_)
    have M12 := M11.drew hb12 hh12
    refine aW rfl rfl rfl (fun _ => aC (.func _ _ _) rfl) ?_
    refine aW rfl rfl rfl (fun _ => aH 0 dQ rfl) ?_
    refine cB rfl rfl rfl (aZ 0 (.int _ _) bH M12 rfl rfl rfl) ?_
    refine aW rfl rfl rfl (fun _ => aC (.int _ _) rfl) ?_
    refine aW rfl rfl rfl (fun _ => aC (.func _ _ _) rfl) ?_
    refine aW rfl rfl rfl (fun _ => aH 1 dH rfl) ?_
    refine cB rfl rfl rfl (aZ 0 (.int _ _) bH M12 rfl rfl rfl) ?_
    refine aW rfl rfl rfl (fun _ => aC (.int _ _) rfl) ?_
    refine eB [false, true] rfl (by kernel_rfl) ?_
    refine aL aKl rfl rfl rfl ?_
    refine (wA _ p.1 (q.1 - p.1) (lY p q c) (iT p q) b6 b7 (by omega) hn.1 hn.2 (by omega) (by omega) hnr.1.1 hnr.1.2 (nS 4 M12 rfl rfl) (nS 5 M12 rfl rfl)).mono ?_
    rintro _ w13 ⟨v13, rfl, ⟨rfl, hb13⟩⟩
    refine ⟨_, rfl, ?_⟩
    have M13 := M12.callB hb13
    refine aE (aF ⟨(kO (dG rfl (aZ 0 (.int _ _) bH M13 rfl rfl rfl)) dZ), ?_⟩)
    refine eB [true] rfl (by kernel_rfl) ?_
    refine aL aKl rfl rfl rfl ?_
    refine (wA _ p.2 (q.2 - p.2) (lY p q c) (iT p q) b6 b7 (by omega) hn.1 hn.2 (by omega) (by omega) hnr.2.1 hnr.2.2 (nS 4 M13 rfl rfl) (nS 5 M13 rfl rfl)).mono ?_
    rintro _ w14 ⟨v14, rfl, ⟨rfl, hb14⟩⟩
    refine ⟨_, rfl, ?_⟩
    have M14 := M13.callB hb14
    refine aE (aF ⟨dZ, ?_⟩)
    refine aW rfl rfl rfl (fun _ => cC [(0, .int _ _), (1, .int _ _)] _ dY rfl rfl) ?_
    refine eB [] rfl (by kernel_rfl) ?_
    refine bJ 3 _ bI M14 rfl rfl rfl rfl rfl (aU rfl) rfl (fun w15 M15 => ?_)
    refine aE (aF ⟨dZ, ?_⟩)
    refine cE ?_
    refine aF (aR ?_)
    refine jZ 3 bI M15 rfl rfl rfl ?_
    exact ⟨by unfold dE; first | (rw [if_pos h20]; rfl) | (rw [if_neg h20]; rfl), M15.below⟩
end Go.Proofs.YtlmcphcgiclanaaGreatDoor

namespace Go.Proofs.YtlmcphcgiclanaaGreatDoor
open Go.Bil
open Go.RowKit (Below)
open Go.Proofs
end Go.Proofs.YtlmcphcgiclanaaGreatDoor

namespace Go.Proofs.YtlmcphcgiclanaaGreatDoor
open Go.Bil
open Go.RowKit (Below)
open Go.Proofs
end Go.Proofs.YtlmcphcgiclanaaGreatDoor

namespace Go.Proofs.YtlmcphcgiclanaaGreatDoor
open Go.Bil
open Go.RowKit (Below)
open Go.Proofs
set_option maxHeartbeats 4000000 in
theorem sO (w : World) (s : Ch) (x y : Pt) (ba bb bl : Nat) (hx : PtI x) (hy : PtI y) (hO : Own [(some ba, bc (cA s.1) 38), (some bb, bc (cA s.2.1) 38), (some bl, bc [.int .u64 (s.2.2 : Int)] 170)] w) :
    Calls Tryz.prog 238 #[(.agg (cA x).toArray), (.agg (cA y).toArray), .pointer (some ⟨bl, 0, none⟩), .pointer (some ⟨ba, 0, none⟩), .pointer (some ⟨bb, 0, none⟩)] w (fun ex w' => ∃ v, ex = .returned v ∧ (fun v w' => v = .tuple #[] ∧ Mem w (bU [(some ba, bc (cA s.1) 38), (some bb, bc (cA s.2.1) 38), (some bl, bc [.int .u64 (s.2.2 : Int)] 170)]) [(some ba, bc (cA (eL s x y).1) 38), (some bb, bc (cA (eL s x y).2.1) 38), (some bl, bc [.int .u64 ((eL s x y).2.2 : Int)] 170)] w') v w') := by
  refine aJ #[] 20 Tryz.func238 rfl Tryz.results238 Tryz.ntmps238 rfl ?_
  have M0 := hO.mem
  refine aG (aB ?_)
  refine bK (.agg (List.toArray _)) M0 rfl rfl rfl (fun b1 w1 M1 => ?_)
  refine bK (.agg (List.toArray _)) M1 rfl rfl rfl (fun b2 w2 M2 => ?_)
  refine aE (aF (aG (aB ?_)))
  refine aA (bB 3 bI M2 rfl rfl rfl) rfl rfl ?_
  refine aA (bB 4 bI M2 rfl rfl rfl) rfl rfl ?_
  refine aL tQ rfl rfl rfl ?_
  refine (mP _ x y hx.i32 hy.i32).mono ?_
  rintro _ w3 ⟨v3, rfl, ⟨rfl, hb3⟩⟩
  refine ⟨_, rfl, ?_⟩
  have M3 := M2.callB hb3
  refine aA (bE (.int _ _) rfl rfl) rfl rfl ?_
  refine aA (bE (.int _ _) rfl rfl) rfl rfl ?_
  refine aL aDr rfl rfl rfl ?_
  refine (lT _ (y.1 - x.1) (y.2 - x.2) (hx.inX hy) (hx.inY hy)).mono ?_
  rintro _ w4 ⟨v4, rfl, ⟨rfl, hb4⟩⟩
  refine ⟨_, rfl, ?_⟩
  have M4 := M3.callB hb4
  refine aA (aD (.int _ _) rfl) rfl rfl ?_
  refine aE (aF (aG (aB ?_)))
  refine aA (aC (.int _ _) rfl) rfl rfl ?_
  refine aA (aZ 2 (.int _ _) mQ M4 rfl rfl rfl) rfl rfl ?_
  refine aA (aO (.bool (decide _)) rfl rfl rfl) rfl rfl ?_
  refine aE (aF ?_)
  refine aY rfl (fun h16 => ?_) (fun h16 => ?_)
  · refine bZ [(0, 1), (1, 1), (2, 0), (3, 2), (4, 2), (5, 2)] mixed rfl (by kernel_rfl) (fun w5 hb5 hh5 => ?_)
    have M5 := M4.drew hb5 hh5
    refine cB rfl rfl rfl (bB 3 bI M5 rfl rfl rfl) ?_
    refine cB rfl rfl rfl (bB 4 bI M5 rfl rfl rfl) ?_
    refine aW rfl rfl rfl (fun _ => aC (.int _ _) rfl) ?_
    refine eB [false, true] rfl (by kernel_rfl) ?_
    refine bJ 0 _ bI M5 rfl rfl rfl rfl rfl (aU rfl) rfl (fun w6 M6 => ?_)
    refine aE (aF ⟨(kO (dG rfl (bB 4 bI M6 rfl rfl rfl)) dZ), ?_⟩)
    refine eB [true] rfl (by kernel_rfl) ?_
    refine bJ 1 _ bI M6 rfl rfl rfl rfl rfl (aU rfl) rfl (fun w7 M7 => ?_)
    refine aE (aF ⟨dZ, ?_⟩)
    refine eB [] rfl (by kernel_rfl) ?_
    refine eC 2 (.int _ _) mQ M7 rfl rfl rfl rfl rfl rfl (fun w8 M8 => ?_)
    refine aE (aF ⟨dZ, ?_⟩)
    refine cE ?_
    refine gM ?_
    exact ⟨rfl, by unfold eL; first | (rw [if_pos (by omega)]; exact M8.keep [true, true, true, false, false]) | (rw [if_neg (by omega)]; exact M8.keep [true, true, true, false, false])⟩
  · refine aN ?_
    refine gM ?_
    exact ⟨rfl, by unfold eL; first | (rw [if_pos (by omega)]; exact M4.keep [true, true, true, false, false]) | (rw [if_neg (by omega)]; exact M4.keep [true, true, true, false, false])⟩
set_option maxHeartbeats 8000000 in
theorem aDa (w : World) (ap aq bp bq : Pt) (h1 : SgI ap aq) (h2 : SgI bp bq) :
    Calls Tryz.prog 221 #[(.agg (cA ap).toArray), (.agg (cA aq).toArray), (.agg (cA bp).toArray), (.agg (cA bq).toArray)] w (fun ex w' => ∃ v, ex = .returned v ∧ (fun v w' => v = .tuple #[(.agg (cA (mB ap aq bp bq).1).toArray), (.agg (cA (mB ap aq bp bq).2.1).toArray), .int .u64 ((mB ap aq bp bq).2.2 : Int)] ∧ Below w.heap.size w w') v w') := by
  refine aJ #[.cell 8 38, .cell 9 38, .cell 10 170] 48 Tryz.func221 rfl Tryz.results221 Tryz.ntmps221 rfl ?_
  have M0 := Mem.refl w
  refine aG (aB ?_)
  refine bK (.agg (List.toArray _)) M0 rfl rfl rfl (fun b1 w1 M1 => ?_)
  refine bK (.agg (List.toArray _)) M1 rfl rfl rfl (fun b2 w2 M2 => ?_)
  refine bK (.agg (List.toArray _)) M2 rfl rfl rfl (fun b3 w3 M3 => ?_)
  refine bK (.agg (List.toArray _)) M3 rfl rfl rfl (fun b4 w4 M4 => ?_)
  refine aS fY M4 rfl rfl (fun b5 w5 M5 => ?_)
  refine aS fY M5 rfl rfl (fun b6 w6 M6 => ?_)
  refine aS aQu M6 rfl rfl (fun b7 w7 M7 => ?_)
  refine aE (aF (aG (aB ?_)))
  refine eC 6 (.int _ _) mQ M7 rfl rfl rfl rfl rfl rfl (fun w8 M8 => ?_)
  refine aE (aF (aG (aB ?_)))
  obtain ⟨s, hS⟩ : ∃ z, z = ch0 := ⟨_, rfl⟩
  have hC : ChI s := by rw [hS]; exact aLf
  have M9 : Mem _ _ [_, _, _, _, (some b5, bc (cA ch0.1) 38), (some b6, bc (cA ch0.2.1) 38), (some b7, bc [.int .u64 (ch0.2.2 : Int)] 170)] _ := M8
  rw [← hS] at M9
  refine aA (dC [] [.pointer _, .pointer _, .pointer _] rfl rfl) rfl rfl ?_
  refine aA (aD (.func _ _ _) rfl) rfl rfl ?_
  refine aE (aF (aG (aG (aB ?_))))
  refine aA (bB 0 bI M9 rfl rfl rfl) rfl rfl ?_
  refine aA (bB 1 bI M9 rfl rfl rfl) rfl rfl ?_
  refine aA (uF [.agg (List.toArray _), .agg (List.toArray _)] pZ aFh rfl rfl (cW rfl)) rfl rfl ?_
  refine aA (aC (.int _ _) rfl) rfl rfl ?_
  refine aE (aF (bA ?_))
  refine mV 3 (mT ?_)
  refine aG (aB ?_)
  refine aA (aO (.bool (decide _)) rfl rfl rfl) rfl rfl ?_
  refine aM 21 (.bool true) (bT (by first | decide | omega)).symm ?_
  refine aE (aF (aG ?_))
  refine dP rfl ?_
  refine aN (aF (aG (bA (aG (aB ?_)))))
  refine aA (yN 0 _ pZ bI rfl rfl (by decide) (by decide) rfl rfl) rfl rfl ?_
  refine aS fY M9 rfl rfl (fun b10 w10 M10 => ?_)
  refine bJ 7 _ bI M10 rfl rfl rfl rfl rfl (aU rfl) rfl (fun w11 M11 => ?_)
  refine aE (aF ?_)
  refine bZ [(0, 0), (1, 1), (2, 1), (3, 1), (4, 1), (5, 2), (6, 2)] mixed rfl (by kernel_rfl) (fun w12 hb12 hh12 => ?_)
  have M12 := M11.drew hb12 hh12
  refine aW rfl rfl rfl (fun _ => aC (.func _ _ _) rfl) ?_
  refine cB rfl rfl rfl (bB 7 bI M12 rfl rfl rfl) ?_
  refine cB rfl rfl rfl (bB 2 bI M12 rfl rfl rfl) ?_
  refine cB rfl rfl rfl (bB 3 bI M12 rfl rfl rfl) ?_
  refine cB rfl rfl rfl (bB 7 bI M12 rfl rfl rfl) ?_
  refine eB [true, true, true, false] rfl (by kernel_rfl) ?_
  refine aL yM rfl rfl rfl ?_
  refine (iB _ bp bq ap h2 h1.hp).mono ?_
  rintro _ w13 ⟨v13, rfl, ⟨rfl, hb13⟩⟩
  refine ⟨_, rfl, ?_⟩
  have M13 := M12.callB hb13
  refine aE (aF ⟨(kO (dG rfl (bB 7 bI M13 rfl rfl rfl)) dZ), ?_⟩)
  refine eB [true] rfl (by kernel_rfl) ?_
  refine aL xO rfl rfl rfl ?_
  refine (sO _ s ap (dE bp bq ap) _ _ _ h1.hp (dX h2) (M13.ownSeg 4 3)).mono ?_
  rintro _ w14 ⟨v14, rfl, ⟨rfl, hM14⟩⟩
  refine ⟨_, rfl, ?_⟩
  have M14 : Mem _ _ [_, _, _, _, _, _, _, _] _ := M13.seg 4 3 hM14
  obtain ⟨s, hs⟩ : ∃ z, z = eL s ap (dE bp bq ap) := ⟨_, rfl⟩
  rw [← hs] at M14
  replace hC := hC.step (x := ap) (y := (dE bp bq ap)) h1.hp (dX h2)
  rw [← hs] at hC
  replace hS := hs.trans (congrArg (fun z => eL z ap (dE bp bq ap)) hS)
  refine aE (aF ⟨dZ, ?_⟩)
  refine cE ?_
  refine dJ ?_
  refine aF (aB ?_)
  refine aA (bX rfl rfl (by first | decide | omega) (by first | decide | omega)) rfl rfl ?_
  refine aM 30 (.int .i64 1) (iE (by first | decide | omega)) ?_
  refine aA (aC (.int _ _) rfl) rfl rfl ?_
  refine aE ?_
  refine aF (mT ?_)
  refine aG (aB ?_)
  refine aA (aO (.bool (decide _)) rfl rfl rfl) rfl rfl ?_
  refine aM 21 (.bool true) (bT (by first | decide | omega)).symm ?_
  refine aE (aF (aG ?_))
  refine dP rfl ?_
  refine aN (aF (aG (bA (aG (aB ?_)))))
  refine aA (yN 1 _ pZ bI rfl rfl (by decide) (by decide) rfl rfl) rfl rfl ?_
  refine aS fY M14 rfl rfl (fun b15 w15 M15 => ?_)
  refine bJ 8 _ bI M15 rfl rfl rfl rfl rfl (aU rfl) rfl (fun w16 M16 => ?_)
  refine aE (aF ?_)
  refine bZ [(0, 0), (1, 1), (2, 1), (3, 1), (4, 1), (5, 2), (6, 2)] mixed rfl (by kernel_rfl) (fun w17 hb17 hh17 => ?_)
  have M17 := M16.drew hb17 hh17
  refine aW rfl rfl rfl (fun _ => aC (.func _ _ _) rfl) ?_
  refine cB rfl rfl rfl (bB 8 bI M17 rfl rfl rfl) ?_
  refine cB rfl rfl rfl (bB 2 bI M17 rfl rfl rfl) ?_
  refine cB rfl rfl rfl (bB 3 bI M17 rfl rfl rfl) ?_
  refine cB rfl rfl rfl (bB 8 bI M17 rfl rfl rfl) ?_
  refine eB [true, true, true, false] rfl (by kernel_rfl) ?_
  refine aL yM rfl rfl rfl ?_
  refine (iB _ bp bq aq h2 h1.hq).mono ?_
  rintro _ w18 ⟨v18, rfl, ⟨rfl, hb18⟩⟩
  refine ⟨_, rfl, ?_⟩
  have M18 := M17.callB hb18
  refine aE (aF ⟨(kO (dG rfl (bB 8 bI M18 rfl rfl rfl)) dZ), ?_⟩)
  refine eB [true] rfl (by kernel_rfl) ?_
  refine aL xO rfl rfl rfl ?_
  refine (sO _ s aq (dE bp bq aq) _ _ _ h1.hq (dX h2) (M18.ownSeg 4 3)).mono ?_
  rintro _ w19 ⟨v19, rfl, ⟨rfl, hM19⟩⟩
  refine ⟨_, rfl, ?_⟩
  have M19 : Mem _ _ [_, _, _, _, _, _, _, _, _] _ := M18.seg 4 3 hM19
  obtain ⟨s, hs⟩ : ∃ z, z = eL s aq (dE bp bq aq) := ⟨_, rfl⟩
  rw [← hs] at M19
  replace hC := hC.step (x := aq) (y := (dE bp bq aq)) h1.hq (dX h2)
  rw [← hs] at hC
  replace hS := hs.trans (congrArg (fun z => eL z aq (dE bp bq aq)) hS)
  refine aE (aF ⟨dZ, ?_⟩)
  refine cE ?_
  refine dJ ?_
  refine aF (aB ?_)
  refine aA (bX rfl rfl (by first | decide | omega) (by first | decide | omega)) rfl rfl ?_
  refine aM 30 (.int .i64 2) (iE (by first | decide | omega)) ?_
  refine aA (aC (.int _ _) rfl) rfl rfl ?_
  refine aE ?_
  refine aF (mT ?_)
  refine aG (aB ?_)
  refine aA (aO (.bool (decide _)) rfl rfl rfl) rfl rfl ?_
  refine aM 21 (.bool false) (bF (by first | decide | omega)).symm ?_
  refine aE (aF (aG ?_))
  refine cH rfl ?_
  refine cK ?_
  refine dB (dB ?_)
  refine eN ?_
  refine aF (aG (aG (aB ?_)))
  refine aA (bB 2 bI M19 rfl rfl rfl) rfl rfl ?_
  refine aA (bB 3 bI M19 rfl rfl rfl) rfl rfl ?_
  refine aA (uF [.agg (List.toArray _), .agg (List.toArray _)] pZ aFh rfl rfl (cW rfl)) rfl rfl ?_
  refine aA (aC (.int _ _) rfl) rfl rfl ?_
  refine aE (aF (bA ?_))
  refine mV 3 (mT ?_)
  refine aG (aB ?_)
  refine aA (aO (.bool (decide _)) rfl rfl rfl) rfl rfl ?_
  refine aM 35 (.bool true) (bT (by first | decide | omega)).symm ?_
  refine aE (aF (aG ?_))
  refine dP rfl ?_
  refine aN (aF (aG (bA (aG (aB ?_)))))
  refine aA (yN 0 _ pZ bI rfl rfl (by decide) (by decide) rfl rfl) rfl rfl ?_
  refine aS fY M19 rfl rfl (fun b20 w20 M20 => ?_)
  refine bJ 9 _ bI M20 rfl rfl rfl rfl rfl (aU rfl) rfl (fun w21 M21 => ?_)
  refine aE (aF ?_)
  refine bZ [(0, 0), (1, 1), (2, 1), (3, 1), (5, 1), (4, 2), (6, 2)] mixed rfl (by kernel_rfl) (fun w22 hb22 hh22 => ?_)
  have M22 := M21.drew hb22 hh22
  refine aW rfl rfl rfl (fun _ => aC (.func _ _ _) rfl) ?_
  refine cB rfl rfl rfl (bB 0 bI M22 rfl rfl rfl) ?_
  refine cB rfl rfl rfl (bB 1 bI M22 rfl rfl rfl) ?_
  refine cB rfl rfl rfl (bB 9 bI M22 rfl rfl rfl) ?_
  refine cB rfl rfl rfl (bB 9 bI M22 rfl rfl rfl) ?_
  refine eB [false, true, true, true] rfl (by kernel_rfl) ?_
  refine aL yM rfl rfl rfl ?_
  refine (iB _ ap aq bp h1 h2.hp).mono ?_
  rintro _ w23 ⟨v23, rfl, ⟨rfl, hb23⟩⟩
  refine ⟨_, rfl, ?_⟩
  have M23 := M22.callB hb23
  refine aE (aF ⟨(kO (dG rfl (bB 9 bI M23 rfl rfl rfl)) dZ), ?_⟩)
  refine eB [true] rfl (by kernel_rfl) ?_
  refine aL xO rfl rfl rfl ?_
  refine (sO _ s (dE ap aq bp) bp _ _ _ (dX h1) h2.hp (M23.ownSeg 4 3)).mono ?_
  rintro _ w24 ⟨v24, rfl, ⟨rfl, hM24⟩⟩
  refine ⟨_, rfl, ?_⟩
  have M24 : Mem _ _ [_, _, _, _, _, _, _, _, _, _] _ := M23.seg 4 3 hM24
  obtain ⟨s, hs⟩ : ∃ z, z = eL s (dE ap aq bp) bp := ⟨_, rfl⟩
  rw [← hs] at M24
  replace hC := hC.step (x := (dE ap aq bp)) (y := bp) (dX h1) h2.hp
  rw [← hs] at hC
  replace hS := hs.trans (congrArg (fun z => eL z (dE ap aq bp) bp) hS)
  refine aE (aF ⟨dZ, ?_⟩)
  refine cE ?_
  refine dJ ?_
  refine aF (aB ?_)
  refine aA (bX rfl rfl (by first | decide | omega) (by first | decide | omega)) rfl rfl ?_
  refine aM 44 (.int .i64 1) (iE (by first | decide | omega)) ?_
  refine aA (aC (.int _ _) rfl) rfl rfl ?_
  refine aE ?_
  refine aF (mT ?_)
  refine aG (aB ?_)
  refine aA (aO (.bool (decide _)) rfl rfl rfl) rfl rfl ?_
  refine aM 35 (.bool true) (bT (by first | decide | omega)).symm ?_
  refine aE (aF (aG ?_))
  refine dP rfl ?_
  refine aN (aF (aG (bA (aG (aB ?_)))))
  refine aA (yN 1 _ pZ bI rfl rfl (by decide) (by decide) rfl rfl) rfl rfl ?_
  refine aS fY M24 rfl rfl (fun b25 w25 M25 => ?_)
  refine bJ 10 _ bI M25 rfl rfl rfl rfl rfl (aU rfl) rfl (fun w26 M26 => ?_)
  refine aE (aF ?_)
  refine bZ [(0, 0), (1, 1), (2, 1), (3, 1), (5, 1), (4, 2), (6, 2)] mixed rfl (by kernel_rfl) (fun w27 hb27 hh27 => ?_)
  have M27 := M26.drew hb27 hh27
  refine aW rfl rfl rfl (fun _ => aC (.func _ _ _) rfl) ?_
  refine cB rfl rfl rfl (bB 0 bI M27 rfl rfl rfl) ?_
  refine cB rfl rfl rfl (bB 1 bI M27 rfl rfl rfl) ?_
  refine cB rfl rfl rfl (bB 10 bI M27 rfl rfl rfl) ?_
  refine cB rfl rfl rfl (bB 10 bI M27 rfl rfl rfl) ?_
  refine eB [false, true, true, true] rfl (by kernel_rfl) ?_
  refine aL yM rfl rfl rfl ?_
  refine (iB _ ap aq bq h1 h2.hq).mono ?_
  rintro _ w28 ⟨v28, rfl, ⟨rfl, hb28⟩⟩
  refine ⟨_, rfl, ?_⟩
  have M28 := M27.callB hb28
  refine aE (aF ⟨(kO (dG rfl (bB 10 bI M28 rfl rfl rfl)) dZ), ?_⟩)
  refine eB [true] rfl (by kernel_rfl) ?_
  refine aL xO rfl rfl rfl ?_
  refine (sO _ s (dE ap aq bq) bq _ _ _ (dX h1) h2.hq (M28.ownSeg 4 3)).mono ?_
  rintro _ w29 ⟨v29, rfl, ⟨rfl, hM29⟩⟩
  refine ⟨_, rfl, ?_⟩
  have M29 : Mem _ _ [_, _, _, _, _, _, _, _, _, _, _] _ := M28.seg 4 3 hM29
  obtain ⟨s, hs⟩ : ∃ z, z = eL s (dE ap aq bq) bq := ⟨_, rfl⟩
  rw [← hs] at M29
  replace hC := hC.step (x := (dE ap aq bq)) (y := bq) (dX h1) h2.hq
  rw [← hs] at hC
  replace hS := hs.trans (congrArg (fun z => eL z (dE ap aq bq) bq) hS)
  refine aE (aF ⟨dZ, ?_⟩)
  refine cE ?_
  refine dJ ?_
  refine aF (aB ?_)
  refine aA (bX rfl rfl (by first | decide | omega) (by first | decide | omega)) rfl rfl ?_
  refine aM 44 (.int .i64 2) (iE (by first | decide | omega)) ?_
  refine aA (aC (.int _ _) rfl) rfl rfl ?_
  refine aE ?_
  refine aF (mT ?_)
  refine aG (aB ?_)
  refine aA (aO (.bool (decide _)) rfl rfl rfl) rfl rfl ?_
  refine aM 35 (.bool false) (bF (by first | decide | omega)).symm ?_
  refine aE (aF (aG ?_))
  refine cH rfl ?_
  refine cK ?_
  refine dB (dB ?_)
  refine eN ?_
  refine aF (aG ?_)
  refine bZ [(0, 1), (1, 1), (2, 1), (3, 2), (4, 2), (5, 2)] mixed rfl (by kernel_rfl) (fun w30 hb30 hh30 => ?_)
  have M30 := M29.drew hb30 hh30
  refine cB rfl rfl rfl (bB 4 bI M30 rfl rfl rfl) ?_
  refine cB rfl rfl rfl (bB 5 bI M30 rfl rfl rfl) ?_
  refine cB rfl rfl rfl (aZ 6 (.int _ _) mQ M30 rfl rfl rfl) ?_
  refine eB [false, false, true] rfl (by kernel_rfl) ?_
  refine bJ 4 _ bI M30 rfl rfl rfl rfl rfl (aU rfl) rfl (fun w31 M31 => ?_)
  refine aE (aF ⟨(kO (dG rfl (aZ 6 (.int _ _) mQ M31 rfl rfl rfl)) (kO (dG rfl (bB 5 bI M31 rfl rfl rfl)) dZ)), ?_⟩)
  refine eB [false, true] rfl (by kernel_rfl) ?_
  refine bJ 5 _ bI M31 rfl rfl rfl rfl rfl (aU rfl) rfl (fun w32 M32 => ?_)
  refine aE (aF ⟨(kO (dG rfl (aZ 6 (.int _ _) mQ M32 rfl rfl rfl)) dZ), ?_⟩)
  refine eB [true] rfl (by kernel_rfl) ?_
  refine eC 6 (.int _ _) mQ M32 rfl rfl rfl rfl rfl rfl (fun w33 M33 => ?_)
  refine aE (aF ⟨dZ, ?_⟩)
  refine cE ?_
  refine aF (aR ?_)
  refine aUw 4 5 6 bI mQ M33 rfl rfl rfl rfl rfl rfl rfl rfl ?_
  exact ⟨by rw [show s = mB ap aq bp bq from hS], M33.below⟩
set_option maxHeartbeats 4000000 in
theorem aCr (w : World) (ap aq bp bq : Pt) (h1 : SgI ap aq) (h2 : SgI bp bq) :
    Calls Tryz.prog 199 #[(.agg (cA ap).toArray), (.agg (cA aq).toArray), (.agg (cA bp).toArray), (.agg (cA bq).toArray)] w (fun ex w' => ∃ v, ex = .returned v ∧ (fun v w' => v = .tuple #[(.agg (cA (mB ap aq bp bq).1).toArray), (.agg (cA (mB ap aq bp bq).2.1).toArray)] ∧ Below w.heap.size w w') v w') := by
  refine aJ #[.cell 8 38, .cell 9 38] 21 Tryz.func199 rfl Tryz.results199 Tryz.ntmps199 rfl ?_
  have M0 := Mem.refl w
  refine aG (aB ?_)
  refine bK (.agg (List.toArray _)) M0 rfl rfl rfl (fun b1 w1 M1 => ?_)
  refine bK (.agg (List.toArray _)) M1 rfl rfl rfl (fun b2 w2 M2 => ?_)
  refine bK (.agg (List.toArray _)) M2 rfl rfl rfl (fun b3 w3 M3 => ?_)
  refine bK (.agg (List.toArray _)) M3 rfl rfl rfl (fun b4 w4 M4 => ?_)
  refine aS fY M4 rfl rfl (fun b5 w5 M5 => ?_)
  refine aS fY M5 rfl rfl (fun b6 w6 M6 => ?_)
  refine aE (aF (aG (aB ?_)))
  refine aA (bB 0 bI M6 rfl rfl rfl) rfl rfl ?_
  refine aA (bB 1 bI M6 rfl rfl rfl) rfl rfl ?_
  refine aA (bB 2 bI M6 rfl rfl rfl) rfl rfl ?_
  refine aA (bB 3 bI M6 rfl rfl rfl) rfl rfl ?_
  refine aL aTl rfl rfl rfl ?_
  refine (aDa _ ap aq bp bq h1 h2).mono ?_
  rintro _ w7 ⟨v7, rfl, ⟨rfl, hb7⟩⟩
  refine ⟨_, rfl, ?_⟩
  have M7 := M6.callB hb7
  refine aA (aC (.tuple (List.toArray _)) rfl) rfl rfl ?_
  refine aA (bE (.agg (List.toArray _)) rfl rfl) rfl rfl ?_
  refine aA (bE (.agg (List.toArray _)) rfl rfl) rfl rfl ?_
  refine aA (bE (.int _ _) rfl rfl) rfl rfl ?_
  refine bJ 4 _ bI M7 rfl rfl rfl rfl rfl (aU rfl) rfl (fun w8 M8 => ?_)
  refine bJ 5 _ bI M8 rfl rfl rfl rfl rfl (aU rfl) rfl (fun w9 M9 => ?_)
  refine aE (aF (aG ?_))
  refine bZ [(0, 1), (1, 1), (2, 2), (3, 2)] mixed rfl (by kernel_rfl) (fun w10 hb10 hh10 => ?_)
  have M10 := M9.drew hb10 hh10
  refine cB rfl rfl rfl (bB 4 bI M10 rfl rfl rfl) ?_
  refine cB rfl rfl rfl (bB 5 bI M10 rfl rfl rfl) ?_
  refine eB [false, true] rfl (by kernel_rfl) ?_
  refine bJ 4 _ bI M10 rfl rfl rfl rfl rfl (aU rfl) rfl (fun w11 M11 => ?_)
  refine aE (aF ⟨(kO (dG rfl (bB 5 bI M11 rfl rfl rfl)) dZ), ?_⟩)
  refine eB [true] rfl (by kernel_rfl) ?_
  refine bJ 5 _ bI M11 rfl rfl rfl rfl rfl (aU rfl) rfl (fun w12 M12 => ?_)
  refine aE (aF ⟨dZ, ?_⟩)
  refine cE ?_
  refine aF (aR ?_)
  refine aEz 4 5 bI M12 rfl rfl rfl rfl rfl rfl ?_
  exact ⟨rfl, M12.below⟩
end Go.Proofs.YtlmcphcgiclanaaGreatDoor

namespace Go.Proofs.YtlmcphcgiclanaaGreatDoor
open Go.Bil
open Go.RowKit (Below)
open Go.Proofs
set_option maxHeartbeats 4000000 in
theorem sM (w : World) (b : Body) (hb : Okb b) :
    Calls Tryz.prog 198 #[(.agg (aI b).toArray)] w (fun ex w' => ∃ v, ex = .returned v ∧ (fun v w' => v = (.agg (jI b).toArray) ∧ Below w.heap.size w w') v w') := by
  refine aJ #[.cell 2 239] 14 Tryz.func198 rfl Tryz.results198 Tryz.ntmps198 rfl ?_
  have M0 := Mem.refl w
  refine aG (aB ?_)
  refine bK (.agg (List.toArray _)) M0 rfl rfl rfl (fun b1 w1 M1 => ?_)
  refine aS oX M1 rfl rfl (fun b2 w2 M2 => ?_)
  refine aE (aF (aG (aB ?_)))
  refine aA (bB 0 bW M2 rfl rfl rfl) rfl rfl ?_
  refine aL aVi rfl rfl rfl ?_
  refine (aJe _ b hb).mono ?_
  rintro _ w3 ⟨v3, rfl, ⟨rfl, hb3⟩⟩
  refine ⟨_, rfl, ?_⟩
  have M3 := M2.callB hb3
  refine aA (aC (.tuple (List.toArray _)) rfl) rfl rfl ?_
  refine aA (bE (.agg (List.toArray _)) rfl rfl) rfl rfl ?_
  refine aA (bE (.agg (List.toArray _)) rfl rfl) rfl rfl ?_
  refine aS fY M3 rfl rfl (fun b4 w4 M4 => ?_)
  refine aS fY M4 rfl rfl (fun b5 w5 M5 => ?_)
  refine bJ 2 _ bI M5 rfl rfl rfl rfl rfl (aU rfl) rfl (fun w6 M6 => ?_)
  refine bJ 3 _ bI M6 rfl rfl rfl rfl rfl (aU rfl) rfl (fun w7 M7 => ?_)
  refine aE (aF (aG (aB ?_)))
  refine aA (bB 0 bW M7 rfl rfl rfl) rfl rfl ?_
  refine aA (bB 2 bI M7 rfl rfl rfl) rfl rfl ?_
  refine aA (bB 3 bI M7 rfl rfl rfl) rfl rfl ?_
  refine aA (cC [(0, .agg (List.toArray _)), (1, .agg (List.toArray _)), (2, .agg (List.toArray _))] _ aIu rfl rfl) rfl rfl ?_
  refine bJ 1 _ iM M7 rfl rfl rfl rfl rfl (aU rfl) rfl (fun w8 M8 => ?_)
  refine aE (aF (aR ?_))
  refine jZ 1 iM M8 rfl rfl rfl ?_
  exact ⟨rfl, M8.below⟩
set_option maxHeartbeats 4000000 in
theorem aQd (w : World) (a b : Body) (ha : Okb a) (hb : Okb b) :
    Calls Tryz.prog 171 #[(.agg (aI a).toArray), (.agg (aI b).toArray)] w (fun ex w' => ∃ v, ex = .returned v ∧ (fun v w' => v = .tuple #[(.agg (jI (loB a b)).toArray), (.agg (jI (hiB a b)).toArray)] ∧ Below w.heap.size w w') v w') := by
  refine aJ #[.cell 4 239, .cell 5 239] 17 Tryz.func171 rfl Tryz.results171 Tryz.ntmps171 rfl ?_
  have M0 := Mem.refl w
  refine aG (aB ?_)
  refine bK (.agg (List.toArray _)) M0 rfl rfl rfl (fun b1 w1 M1 => ?_)
  refine bK (.agg (List.toArray _)) M1 rfl rfl rfl (fun b2 w2 M2 => ?_)
  refine aS oX M2 rfl rfl (fun b3 w3 M3 => ?_)
  refine aS oX M3 rfl rfl (fun b4 w4 M4 => ?_)
  refine aE (aF (aG (aG (aB ?_))))
  refine aA (aH 0 dR rfl) rfl rfl ?_
  refine aA (aZ 0 (.int _ _) cR M4 rfl rfl rfl) rfl rfl ?_
  refine aA (aH 0 dR rfl) rfl rfl ?_
  refine aA (aZ 1 (.int _ _) cR M4 rfl rfl rfl) rfl rfl ?_
  refine aA (aO (.bool (decide _)) rfl rfl rfl) rfl rfl ?_
  refine aE (aF ?_)
  refine aY rfl (fun h10 => ?_) (fun h10 => ?_)
  · refine aB ?_
    refine aA (bB 1 bW M4 rfl rfl rfl) rfl rfl ?_
    refine aA (bB 0 bW M4 rfl rfl rfl) rfl rfl ?_
    refine bJ 0 _ bW M4 rfl rfl rfl rfl rfl (aU rfl) rfl (fun w5 M5 => ?_)
    refine bJ 1 _ bW M5 rfl rfl rfl rfl rfl (aU rfl) rfl (fun w6 M6 => ?_)
    refine aE (aF (aG ?_))
    refine bZ [(0, 1), (2, 1), (1, 2), (3, 2), (4, 2), (5, 2)] mixed rfl (by kernel_rfl) (fun w7 hb7 hh7 => ?_)
    have M7 := M6.drew hb7 hh7
    refine cB rfl rfl rfl (bB 0 bW M7 rfl rfl rfl) ?_
    refine cB rfl rfl rfl (bB 1 bW M7 rfl rfl rfl) ?_
    refine eB [false, true] rfl (by kernel_rfl) ?_
    refine aL yE rfl rfl rfl ?_
    refine (sM _ b hb).mono ?_
    rintro _ w8 ⟨v8, rfl, ⟨rfl, hb8⟩⟩
    refine ⟨_, rfl, ?_⟩
    have M8 := M7.callB hb8
    refine aE (aF ⟨(kO (dG rfl (bB 1 bW M8 rfl rfl rfl)) dZ), ?_⟩)
    refine eB [true] rfl (by kernel_rfl) ?_
    refine aL yE rfl rfl rfl ?_
    refine (sM _ a ha).mono ?_
    rintro _ w9 ⟨v9, rfl, ⟨rfl, hb9⟩⟩
    refine ⟨_, rfl, ?_⟩
    have M9 := M8.callB hb9
    refine aE (aF ⟨dZ, ?_⟩)
    refine eB [] rfl (by kernel_rfl) ?_
    refine bJ 2 _ iM M9 rfl rfl rfl rfl rfl (aU rfl) rfl (fun w10 M10 => ?_)
    refine aE (aF ⟨dZ, ?_⟩)
    refine eB [] rfl (by kernel_rfl) ?_
    refine bJ 3 _ iM M10 rfl rfl rfl rfl rfl (aU rfl) rfl (fun w11 M11 => ?_)
    refine aE (aF ⟨dZ, ?_⟩)
    refine cE ?_
    refine aF (aR ?_)
    refine aEz 2 3 iM M11 rfl rfl rfl rfl rfl rfl ?_
    exact ⟨by unfold loB hiB; first | rw [if_pos (by omega), if_pos (by omega)] | rw [if_neg (by omega), if_neg (by omega)], M11.below⟩
  · refine aN (aF (aG ?_))
    refine bZ [(0, 1), (2, 1), (1, 2), (3, 2), (4, 2), (5, 2)] mixed rfl (by kernel_rfl) (fun w12 hb12 hh12 => ?_)
    have M12 := M4.drew hb12 hh12
    refine cB rfl rfl rfl (bB 0 bW M12 rfl rfl rfl) ?_
    refine cB rfl rfl rfl (bB 1 bW M12 rfl rfl rfl) ?_
    refine eB [false, true] rfl (by kernel_rfl) ?_
    refine aL yE rfl rfl rfl ?_
    refine (sM _ a ha).mono ?_
    rintro _ w13 ⟨v13, rfl, ⟨rfl, hb13⟩⟩
    refine ⟨_, rfl, ?_⟩
    have M13 := M12.callB hb13
    refine aE (aF ⟨(kO (dG rfl (bB 1 bW M13 rfl rfl rfl)) dZ), ?_⟩)
    refine eB [true] rfl (by kernel_rfl) ?_
    refine aL yE rfl rfl rfl ?_
    refine (sM _ b hb).mono ?_
    rintro _ w14 ⟨v14, rfl, ⟨rfl, hb14⟩⟩
    refine ⟨_, rfl, ?_⟩
    have M14 := M13.callB hb14
    refine aE (aF ⟨dZ, ?_⟩)
    refine eB [] rfl (by kernel_rfl) ?_
    refine bJ 2 _ iM M14 rfl rfl rfl rfl rfl (aU rfl) rfl (fun w15 M15 => ?_)
    refine aE (aF ⟨dZ, ?_⟩)
    refine eB [] rfl (by kernel_rfl) ?_
    refine bJ 3 _ iM M15 rfl rfl rfl rfl rfl (aU rfl) rfl (fun w16 M16 => ?_)
    refine aE (aF ⟨dZ, ?_⟩)
    refine cE ?_
    refine aF (aR ?_)
    refine aEz 2 3 iM M16 rfl rfl rfl rfl rfl rfl ?_
    exact ⟨by unfold loB hiB; first | rw [if_pos (by omega), if_pos (by omega)] | rw [if_neg (by omega), if_neg (by omega)], M16.below⟩
set_option maxHeartbeats 4000000 in
theorem aPe (w : World) (a b : Body) (ha : Okb a) (hb : Okb b) :
    Calls Tryz.prog 172 #[(.agg (jI a).toArray), (.agg (jI b).toArray)] w (fun ex w' => ∃ v, ex = .returned v ∧ (fun v w' => v = .tuple #[.int .i64 (tJ (rG a b)), .int .i64 (vD (rG a b)), .int .i64 (a.radius + b.radius)] ∧ Below w.heap.size w w') v w') := by
  have hra := ha.r
  have hrb := hb.r
  have hch := vB ha hb
  refine aJ #[.tmp 4, .tmp 5, .tmp 6] 38 Tryz.func172 rfl Tryz.results172 Tryz.ntmps172 rfl ?_
  have M0 := Mem.refl w
  refine aG (aB ?_)
  refine bK (.agg (List.toArray _)) M0 rfl rfl rfl (fun b1 w1 M1 => ?_)
  refine bK (.agg (List.toArray _)) M1 rfl rfl rfl (fun b2 w2 M2 => ?_)
  refine aA (aD (.int _ _) rfl) rfl rfl ?_
  refine aA (aD (.int _ _) rfl) rfl rfl ?_
  refine aA (aD (.int _ _) rfl) rfl rfl ?_
  refine aE (aF (aG (aB ?_)))
  refine aA (aH 10 aAl rfl) rfl rfl ?_
  refine aA (uE 0 _ bI M2 rfl rfl rfl rfl) rfl rfl ?_
  refine aA (aH 12 aAa rfl) rfl rfl ?_
  refine aA (uE 0 _ bI M2 rfl rfl rfl rfl) rfl rfl ?_
  refine aA (aH 10 aAl rfl) rfl rfl ?_
  refine aA (uE 1 _ bI M2 rfl rfl rfl rfl) rfl rfl ?_
  refine aA (aH 12 aAa rfl) rfl rfl ?_
  refine aA (uE 1 _ bI M2 rfl rfl rfl rfl) rfl rfl ?_
  refine aL aSn rfl rfl rfl ?_
  refine (aCr _ (aCf a) (aAy a) (aCf b) (aAy b) (sB ha) (sB hb)).mono ?_
  rintro _ w3 ⟨v3, rfl, ⟨rfl, hb3⟩⟩
  refine ⟨_, rfl, ?_⟩
  have M3 := M2.callB hb3
  refine aA (aC (.tuple (List.toArray _)) rfl) rfl rfl ?_
  refine aA (bE (.agg (List.toArray _)) rfl rfl) rfl rfl ?_
  refine aA (bE (.agg (List.toArray _)) rfl rfl) rfl rfl ?_
  refine aS fY M3 rfl rfl (fun b4 w4 M4 => ?_)
  refine aS fY M4 rfl rfl (fun b5 w5 M5 => ?_)
  refine bJ 2 _ bI M5 rfl rfl rfl rfl rfl (aU rfl) rfl (fun w6 M6 => ?_)
  refine bJ 3 _ bI M6 rfl rfl rfl rfl rfl (aU rfl) rfl (fun w7 M7 => ?_)
  refine aE (aF (aG (aB ?_)))
  refine aA (bB 2 bI M7 rfl rfl rfl) rfl rfl ?_
  refine aA (bB 3 bI M7 rfl rfl rfl) rfl rfl ?_
  refine aL tQ rfl rfl rfl ?_
  refine (mP _ (rG a b).1 (rG a b).2.1 hch.a.i32 hch.b.i32).mono ?_
  rintro _ w8 ⟨v8, rfl, ⟨rfl, hb8⟩⟩
  refine ⟨_, rfl, ?_⟩
  have M8 := M7.callB hb8
  refine aA (aC (.tuple (List.toArray _)) rfl) rfl rfl ?_
  refine aA (bE (.int _ _) rfl rfl) rfl rfl ?_
  refine aA (bE (.int _ _) rfl rfl) rfl rfl ?_
  refine aA (aD (.int _ _) rfl) rfl rfl ?_
  refine aA (aD (.int _ _) rfl) rfl rfl ?_
  refine aE (aF (aG ?_))
  refine bZ [(0, 0), (1, 0), (2, 0), (3, 0), (4, 1), (5, 0), (6, 0), (7, 0), (8, 1), (9, 0), (10, 0), (11, 0), (12, 0), (13, 0)] mixed rfl (by kernel_rfl) (fun w9 hb9 hh9 => ?_)
  have M9 := M8.drew hb9 hh9
  refine aW rfl rfl rfl (fun _ => aC (.int _ _) rfl) ?_
  refine aW rfl rfl rfl (fun _ => aC (.int _ _) rfl) ?_
  refine aW rfl rfl rfl (fun _ => aH 0 oW rfl) ?_
  refine aW rfl rfl rfl (fun _ => aH 1 mY rfl) ?_
  refine cB rfl rfl rfl (aZ 0 (.int _ _) bH M9 rfl rfl rfl) ?_
  refine aW rfl rfl rfl (fun _ => bR fQ Tryz.underlying2 rfl (jL _ (by omega) (by omega))) ?_
  refine aW rfl rfl rfl (fun _ => aH 0 oW rfl) ?_
  refine aW rfl rfl rfl (fun _ => aH 1 mY rfl) ?_
  refine cB rfl rfl rfl (aZ 1 (.int _ _) bH M9 rfl rfl rfl) ?_
  refine aW rfl rfl rfl (fun _ => bR fQ Tryz.underlying2 rfl (jL _ (by omega) (by omega))) ?_
  refine aW rfl rfl rfl (fun _ => bX rfl rfl (by omega) (by omega)) ?_
  refine aW rfl rfl rfl (fun _ => aD (.int _ _) rfl) ?_
  refine aW rfl rfl rfl (fun _ => aD (.int _ _) rfl) ?_
  refine aW rfl rfl rfl (fun _ => aD (.int _ _) rfl) ?_
  refine cE ?_
  refine aF (aR ?_)
  refine aXn (.int _ _) (.int _ _) (.int _ _) rfl rfl rfl ?_
  exact ⟨rfl, M9.below⟩
set_option maxHeartbeats 4000000 in
theorem sT (w : World) (a b : Body) (ha : Okb a) (hb : Okb b) :
    Calls Tryz.prog 137 #[(.agg (aI a).toArray), (.agg (aI b).toArray)] w (fun ex w' => ∃ v, ex = .returned v ∧ (fun v w' => v = .tuple #[.agg (aTi (jP a b)).toArray, .bool (jP a b).isSome] ∧ Below w.heap.size w w') v w') := by
  obtain ⟨hlo, hhi⟩ := aTq ha hb
  have hd := aSd hlo hhi
  have hl := yO hd.1 hd.2
  have hss := aTg hlo hhi
  have hr1 := hlo.r
  have hr2 := hhi.r
  refine aJ #[.cell 4 121, .tmp 5] 52 Tryz.func137 rfl Tryz.results137 Tryz.ntmps137 rfl ?_
  have M0 := Mem.refl w
  refine aG (aB ?_)
  refine bK (.agg (List.toArray _)) M0 rfl rfl rfl (fun b1 w1 M1 => ?_)
  refine bK (.agg (List.toArray _)) M1 rfl rfl rfl (fun b2 w2 M2 => ?_)
  refine aS oL M2 rfl rfl (fun b3 w3 M3 => ?_)
  refine aA (aD (.bool false) rfl) rfl rfl ?_
  refine aE (aF (aG (aB ?_)))
  refine aA (bB 0 bW M3 rfl rfl rfl) rfl rfl ?_
  refine aA (bB 1 bW M3 rfl rfl rfl) rfl rfl ?_
  refine aL aTu rfl rfl rfl ?_
  refine (aQd _ a b ha hb).mono ?_
  rintro _ w4 ⟨v4, rfl, ⟨rfl, hb4⟩⟩
  refine ⟨_, rfl, ?_⟩
  have M4 := M3.callB hb4
  refine aA (aC (.tuple (List.toArray _)) rfl) rfl rfl ?_
  refine aA (bE (.agg (List.toArray _)) rfl rfl) rfl rfl ?_
  refine aA (bE (.agg (List.toArray _)) rfl rfl) rfl rfl ?_
  refine aS oX M4 rfl rfl (fun b5 w5 M5 => ?_)
  refine aS oX M5 rfl rfl (fun b6 w6 M6 => ?_)
  refine bJ 3 _ iM M6 rfl rfl rfl rfl rfl (aU rfl) rfl (fun w7 M7 => ?_)
  refine bJ 4 _ iM M7 rfl rfl rfl rfl rfl (aU rfl) rfl (fun w8 M8 => ?_)
  refine aE (aF (aG (aB ?_)))
  refine aA (bB 3 iM M8 rfl rfl rfl) rfl rfl ?_
  refine aA (bB 4 iM M8 rfl rfl rfl) rfl rfl ?_
  refine aL aTw rfl rfl rfl ?_
  refine (aPe _ (loB a b) (hiB a b) hlo hhi).mono ?_
  rintro _ w9 ⟨v9, rfl, ⟨rfl, hb9⟩⟩
  refine ⟨_, rfl, ?_⟩
  have M9 := M8.callB hb9
  refine aA (aC (.tuple (List.toArray _)) rfl) rfl rfl ?_
  refine aA (bE (.int _ _) rfl rfl) rfl rfl ?_
  refine aA (bE (.int _ _) rfl rfl) rfl rfl ?_
  refine aA (bE (.int _ _) rfl rfl) rfl rfl ?_
  refine aA (aD (.int _ _) rfl) rfl rfl ?_
  refine aA (aD (.int _ _) rfl) rfl rfl ?_
  refine aA (aD (.int _ _) rfl) rfl rfl ?_
  refine aE (aF (aG (aG (aB ?_))))
  refine aA (aC (.int _ _) rfl) rfl rfl ?_
  refine aA (aC (.int _ _) rfl) rfl rfl ?_
  refine aL aDr rfl rfl rfl ?_
  refine (lT _ (tJ (rG (loB a b) (hiB a b))) (vD (rG (loB a b) (hiB a b))) hd.1 hd.2).mono ?_
  rintro _ w10 ⟨v10, rfl, ⟨rfl, hb10⟩⟩
  refine ⟨_, rfl, ?_⟩
  have M10 := M9.callB hb10
  refine aA (aC (.int _ _) rfl) rfl rfl ?_
  refine aA (aC (.int _ _) rfl) rfl rfl ?_
  refine aA (jR rfl rfl (by omega) (by omega)) rfl rfl ?_
  refine aA (eZ us2 Tryz.underlying170 rfl) rfl rfl ?_
  refine aM 31 (.int .u64 ((((loB a b).radius + (hiB a b).radius).natAbs * ((loB a b).radius + (hiB a b).radius).natAbs : Nat) : Int)) (iE (aQl _ hss)) ?_
  refine aA (aO (.bool (decide _)) rfl rfl rfl) rfl rfl ?_
  refine aE (aF ?_)
  refine aY rfl (fun h32 => ?_) (fun h32 => ?_)
  · refine aG (aB ?_)
    refine aA (cC [] _ wY rfl rfl) rfl rfl ?_
    refine bJ 2 _ eX M10 rfl rfl rfl rfl rfl (aU rfl) rfl (fun w11 M11 => ?_)
    refine aA (aD (.bool false) rfl) rfl rfl ?_
    refine aE (aF (aR (cP ?_)))
    refine aRi (v2 := .bool false) 2 eX M11 rfl rfl rfl rfl ?_
    exact ⟨by rw [aBl]; unfold kE; first | (rw [if_pos (by omega)]; rfl) | (rw [if_neg (by omega)]; rfl), M11.below⟩
  · refine aN (aF (aG (aB ?_)))
    refine aA (aH 0 oW rfl) rfl rfl ?_
    refine aA (aH 0 dR rfl) rfl rfl ?_
    refine aA (aZ 3 (.int _ _) cR M10 rfl rfl rfl) rfl rfl ?_
    refine aA (aH 0 oW rfl) rfl rfl ?_
    refine aA (aH 0 dR rfl) rfl rfl ?_
    refine aA (aZ 4 (.int _ _) cR M10 rfl rfl rfl) rfl rfl ?_
    refine aA (cC [(0, .int _ _), (1, .int _ _)] _ wH rfl rfl) rfl rfl ?_
    refine aS mX M10 rfl rfl (fun b12 w12 M12 => ?_)
    refine bJ 5 _ eT M12 rfl rfl rfl rfl rfl (aU rfl) rfl (fun w13 M13 => ?_)
    refine aE (aF (aG ?_))
    refine bZ [(0, 1), (1, 0), (2, 0), (4, 0), (5, 0), (6, 0), (3, 2), (7, 2), (8, 0), (9, 0), (10, 0), (11, 2), (12, 0)] mixed rfl (by kernel_rfl) (fun w14 hb14 hh14 => ?_)
    have M14 := M13.drew hb14 hh14
    refine cB rfl rfl rfl (bB 5 eT M14 rfl rfl rfl) ?_
    refine aW rfl rfl rfl (fun _ => aC (.int _ _) rfl) ?_
    refine aW rfl rfl rfl (fun _ => aC (.int _ _) rfl) ?_
    refine aW rfl rfl rfl (fun _ => aC (.int _ _) rfl) ?_
    refine aW rfl rfl rfl (fun _ => aC (.int _ _) rfl) ?_
    refine aW rfl rfl rfl (fun _ => aC (.int _ _) rfl) ?_
    refine eB [false] rfl (by kernel_rfl) ?_
    refine aL aVo rfl rfl rfl ?_
    refine (aJz _ (tJ (rG (loB a b) (hiB a b))) (vD (rG (loB a b) (hiB a b))) hd.1 hd.2).mono ?_
    rintro _ w15 ⟨v15, rfl, ⟨rfl, hb15⟩⟩
    refine ⟨_, rfl, ?_⟩
    have M15 := M14.callB hb15
    refine aE (aF ⟨(kO (dG rfl (bB 5 eT M15 rfl rfl rfl)) dZ), ?_⟩)
    refine eB [false] rfl (by kernel_rfl) ?_
    refine aL aMb rfl rfl rfl ?_
    refine (tL _ (tJ (rG (loB a b) (hiB a b))) (vD (rG (loB a b) (hiB a b))) hd.1 hd.2).mono ?_
    rintro _ w16 ⟨v16, rfl, ⟨rfl, hb16⟩⟩
    refine ⟨_, rfl, ?_⟩
    have M16 := M15.callB hb16
    refine aE (aF ⟨(kO (dG rfl (bB 5 eT M16 rfl rfl rfl)) dZ), ?_⟩)
    refine aW rfl rfl rfl (fun _ => mL rfl rfl (by omega) (by omega)) ?_
    refine aW rfl rfl rfl (fun _ => eZ us2 Tryz.underlying21 rfl) ?_
    refine aW rfl rfl rfl (fun _ => cC [(0, .agg (List.toArray _)), (1, .agg (List.toArray _)), (2, .int _ _)] _ wY rfl rfl) ?_
    refine eB [true] rfl (by kernel_rfl) ?_
    refine bJ 2 _ eX M16 rfl rfl rfl rfl rfl (aU rfl) rfl (fun w17 M17 => ?_)
    refine aE (aF ⟨dZ, ?_⟩)
    refine aW rfl rfl rfl (fun _ => aD (.bool true) rfl) ?_
    refine cE ?_
    refine aF (aR ?_)
    refine aRi (v2 := .bool true) 2 eX M17 rfl rfl rfl rfl ?_
    exact ⟨by rw [aBl]; unfold kE; first | (rw [if_pos (by omega)]; rfl) | (rw [if_neg (by omega)]; rfl), M17.below⟩
end Go.Proofs.YtlmcphcgiclanaaGreatDoor
