/- Part of the proof of the laws of this seat: Aw20b, L20. No conditions. -/
import Derived.Test.YtlmcphcgiclanaaGreatDoorK5
import Derived.Test.YtlmcphcgiclanaaGreatDoorK32
import Derived.Test.YtlmcphcgiclanaaGreatDoorK26
import Derived.Test.YtlmcphcgiclanaaGreatDoorK18
import Derived.Test.YtlmcphcgiclanaaGreatDoorK17
import Derived.Test.YtlmcphcgiclanaaGreatDoorK3
set_option linter.unusedVariables false
set_option linter.unusedSimpArgs false
set_option linter.unnecessarySimpa false
namespace Go.Proofs.YtlmcphcgiclanaaGreatDoor
open Go.Bil
open Go.RowKit (Below)
open Go.Proofs
set_option maxHeartbeats 16000000 in
theorem bBn (w : World) (F : Rd w 2 (some ⟨0, 0, none⟩) 1 [[.int .u32 73856093, .int .u32 19349663]]) (N : Rd w 4 (some ⟨3, 0, none⟩) 1 [dV kA]) :
    Calls Tryz.prog 15 #[] w (fun ex w' => ∃ v, ex = .returned v ∧ (fun v w' => v = .bool true ∧ Below w.heap.size w w') v w') := by
  refine aL #[.tmp 0] 95 Tryz.func15 rfl Tryz.results15 Tryz.ntmps15 rfl ?_
  have M0 := Mem.refl w
  refine aH (aB ?_)
  refine aA (aD (.bool false) rfl) rfl rfl ?_
  refine aE (aF (aH (aB ?_)))
  refine aA (cL [(1, .int _ _), (3, .int _ _)] _ nI rfl rfl) rfl rfl ?_
  refine cR [.agg (List.toArray _)] [aI ⟨0, 65536, 0, 0, 65536, 0, 0, 0, 0, 0⟩] rfl cW M0 rfl rfl rfl rfl (cZ rfl) (by decide) (fun b1 w1 M1 => ?_)
  have hlit9 := jI (T := 40) (b := b1) (([⟨0, 65536, 0, 0, 65536, 0, 0, 0, 0, 0⟩] : List Body).map aI) (oB _) rfl (by decide)
  refine aM aJn rfl rfl rfl ?_
  refine (pP _ (F.mem M1) (N.mem M1) _ _ _ ([⟨0, 65536, 0, 0, 65536, 0, 0, 0, 0, 0⟩] : List Body) (hlit9.rd M1 (bH (i := 0) rfl)) aOy (mH (by decide)) (by decide)).mono ?_
  rintro _ w2 ⟨v2, rfl, ⟨ra, tra, rfl, h1ra, h2ra, hrra, hM2⟩⟩
  refine ⟨_, rfl, ?_⟩
  have M2 : Mem _ _ [_, _] _ := M1.call0 hM2
  rw [aPe] at hrra
  have hnra : 1 = ra.n := by simpa using hrra.1
  obtain rfl : tra = 0 := by have h : 2 * tra ≤ 0 := h2ra; omega
  refine aA (aC (.tuple (List.toArray _)) rfl) rfl rfl ?_
  refine aA (bI (.slice _ _ _) rfl rfl) rfl rfl ?_
  refine aA (bI (.agg (List.toArray _)) rfl rfl) rfl rfl ?_
  refine aK 12 (.agg [.int .i64 0, .int .i64 0, .bool false].toArray) (congrArg Value.agg (by rw [aYa, aZo]; rfl)) ?_
  refine aV oY M2 rfl rfl (fun b3 w3 M3 => ?_)
  refine aA (aD (.slice _ _ _) rfl) rfl rfl ?_
  refine bL 2 _ nD M3 rfl rfl rfl rfl rfl (bA rfl) rfl (fun w4 M4 => ?_)
  refine aE (aF (aH (aB ?_)))
  refine aA (cL [(0, .int _ _)] _ dW rfl rfl) rfl rfl ?_
  refine aA (cL [(0, .int _ _), (1, .int _ _), (3, .int _ _), (6, .agg (List.toArray _))] _ nI rfl rfl) rfl rfl ?_
  refine aA (cL [(0, .int _ _)] _ dW rfl rfl) rfl rfl ?_
  refine aA (cL [(0, .int _ _), (1, .int _ _), (5, .agg (List.toArray _))] _ nI rfl rfl) rfl rfl ?_
  refine cR [.agg (List.toArray _), .agg (List.toArray _)] [aI ⟨1, 65536, 0, 0, 65536, 0, 0, 0, 65536, 0⟩, aI ⟨2, 65536, 0, 0, 0, 0, 131071, 0, 0, 0⟩] rfl cW M4 rfl rfl rfl rfl (cZ rfl) (by decide) (fun b5 w5 M5 => ?_)
  have hlit18 := jI (T := 40) (b := b5) (([⟨1, 65536, 0, 0, 65536, 0, 0, 0, 65536, 0⟩, ⟨2, 65536, 0, 0, 0, 0, 131071, 0, 0, 0⟩] : List Body).map aI) (oB _) rfl (by decide)
  refine aM aJn rfl rfl rfl ?_
  refine (pP _ (F.mem M5) (N.mem M5) _ _ _ ([⟨1, 65536, 0, 0, 65536, 0, 0, 0, 65536, 0⟩, ⟨2, 65536, 0, 0, 0, 0, 131071, 0, 0, 0⟩] : List Body) (hlit18.rd M5 (bH (i := 3) rfl)) aUr (mH (by decide)) (by decide)).mono ?_
  rintro _ w6 ⟨v6, rfl, ⟨rb, trb, rfl, h1rb, h2rb, hrrb, hM6⟩⟩
  refine ⟨_, rfl, ?_⟩
  have M6 : Mem _ _ [_, _, _, _, _] _ := M5.call0 hM6
  rw [aYq] at hrrb
  have hnrb : 2 = rb.n := by simpa using hrrb.1
  rw [vW] at h1rb
  obtain rfl : trb = 1 := by have h : 2 * trb ≤ 2 := h2rb; have g : 1 ≤ trb := h1rb; omega
  refine aA (aC (.tuple (List.toArray _)) rfl) rfl rfl ?_
  refine aA (bI (.slice _ _ _) rfl rfl) rfl rfl ?_
  refine aA (bI (.agg (List.toArray _)) rfl rfl) rfl rfl ?_
  refine aK 21 (.agg [.int .i64 1, .int .i64 1, .bool false].toArray) (congrArg Value.agg (by rw [vW, aYn]; rfl)) ?_
  refine aV oY M6 rfl rfl (fun b7 w7 M7 => ?_)
  refine aA (aD (.slice _ _ _) rfl) rfl rfl ?_
  refine bL 5 _ nD M7 rfl rfl rfl rfl rfl (bA rfl) rfl (fun w8 M8 => ?_)
  refine aE (aF (aH (aB ?_)))
  refine aA (cL [(1, .int _ _), (3, .int _ _)] _ nI rfl rfl) rfl rfl ?_
  refine cR [.agg (List.toArray _)] [aI ⟨0, 65536, 0, 0, 65536, 0, 0, 0, 0, 0⟩] rfl cW M8 rfl rfl rfl rfl (cZ rfl) (by decide) (fun b9 w9 M9 => ?_)
  have hlit24 := jI (T := 40) (b := b9) (([⟨0, 65536, 0, 0, 65536, 0, 0, 0, 0, 0⟩] : List Body).map aI) (oB _) rfl (by decide)
  refine aM bBe rfl rfl rfl ?_
  refine (aIl _ (F.mem M9) (N.mem M9) _ _ _ ([⟨0, 65536, 0, 0, 65536, 0, 0, 0, 0, 0⟩] : List Body) (hlit24.rd M9 (bH (i := 6) rfl)) aOy (mH (by decide)) (by decide) 2 2 rfl (by decide)).mono ?_
  rintro _ w10 ⟨v10, rfl, ⟨rc, trc, rfl, h1rc, _, hrc, hM10⟩⟩
  refine ⟨_, rfl, ?_⟩
  have M10 : Mem _ _ [_, _, _, _, _, _, _, _] _ := M9.call0 hM10
  rw [aZt] at hrc
  have hnrc : 1 = rc.n := by simpa using hrc.1
  refine aA (aC (.tuple (List.toArray _)) rfl) rfl rfl ?_
  refine aA (bI (.slice _ _ _) rfl rfl) rfl rfl ?_
  refine aA (bI (.agg (List.toArray _)) rfl rfl) rfl rfl ?_
  refine aV oY M10 rfl rfl (fun b11 w11 M11 => ?_)
  refine aA (aD (.slice _ _ _) rfl) rfl rfl ?_
  refine bL 8 _ nD M11 rfl rfl rfl rfl rfl (bA rfl) rfl (fun w12 M12 => ?_)
  refine aE (aF (aH (aH (aB ?_))))
  refine aA (aC (.slice _ _ _) rfl) rfl rfl ?_
  refine aA (dE Tryz.underlying22 rfl) rfl rfl ?_
  refine aA (aN (.bool (decide _)) rfl rfl rfl) rfl rfl ?_
  refine aK 30 (.bool false) (bF (by omega)).symm ?_
  refine aA (aC (.bool false) rfl) rfl rfl ?_
  refine aA (aC (.slice _ _ _) rfl) rfl rfl ?_
  refine aA (dE Tryz.underlying22 rfl) rfl rfl ?_
  refine aA (aN (.bool (decide _)) rfl rfl rfl) rfl rfl ?_
  refine aK 34 (.bool false) (bF (by omega)).symm ?_
  refine aA (bQ false (.bool false) rfl rfl) rfl rfl ?_
  refine aA (aC (.bool false) rfl) rfl rfl ?_
  refine aA (aC (.slice _ _ _) rfl) rfl rfl ?_
  refine aA (dE Tryz.underlying22 rfl) rfl rfl ?_
  refine aA (aN (.bool (decide _)) rfl rfl rfl) rfl rfl ?_
  refine aK 39 (.bool false) (bF (by omega)).symm ?_
  refine aA (bQ false (.bool false) rfl rfl) rfl rfl ?_
  refine aE (aF ?_)
  refine cP rfl ?_
  refine aO (aF (aH (aB ?_)))
  refine aA (aC (.slice _ _ _) rfl) rfl rfl ?_
  refine aA (bN (0) cW rfl rfl rfl ((hrra.rd M12 (bH (i := 1) rfl)).below_len ((show (([⟨0, 65536, 0, 0, 65536, 0, 0, -16, 0, -1024⟩] : List Body).map aI)[0]? = some (aI ⟨0, 65536, 0, 0, 65536, 0, 0, -16, 0, -1024⟩) from rfl))) ((hrra.rd M12 (bH (i := 1) rfl)).someK ((show (([⟨0, 65536, 0, 0, 65536, 0, 0, -16, 0, -1024⟩] : List Body).map aI)[0]? = some (aI ⟨0, 65536, 0, 0, 65536, 0, 0, -16, 0, -1024⟩) from rfl)))) rfl rfl ?_
  refine aA (bG 6 eO (hrra.rd M12 (bH (i := 1) rfl)) (Nat.lt_of_le_of_lt (Nat.zero_le _) ((hrra.rd M12 (bH (i := 1) rfl)).below_len ((show (([⟨0, 65536, 0, 0, 65536, 0, 0, -16, 0, -1024⟩] : List Body).map aI)[0]? = some (aI ⟨0, 65536, 0, 0, 65536, 0, 0, -16, 0, -1024⟩) from rfl)))) rfl) rfl rfl ?_
  refine aA (rF (o := 6) _ bE (hrra.rd M12 (bH (i := 1) rfl)) ((show (([⟨0, 65536, 0, 0, 65536, 0, 0, -16, 0, -1024⟩] : List Body).map aI)[0]? = some (aI ⟨0, 65536, 0, 0, 65536, 0, 0, -16, 0, -1024⟩) from rfl)) rfl rfl rfl) rfl rfl ?_
  refine aA (cL [(1, .int _ _)] _ dW rfl rfl) rfl rfl ?_
  refine aA (uP (aGa _ _ _ _) rfl rfl) rfl rfl ?_
  refine aK 46 (.bool true) (bT (by decide)).symm ?_
  refine aA (aC (.bool true) rfl) rfl rfl ?_
  refine aA (aC (.slice _ _ _) rfl) rfl rfl ?_
  refine aA (bN (0) cW rfl rfl rfl ((hrra.rd M12 (bH (i := 1) rfl)).below_len ((show (([⟨0, 65536, 0, 0, 65536, 0, 0, -16, 0, -1024⟩] : List Body).map aI)[0]? = some (aI ⟨0, 65536, 0, 0, 65536, 0, 0, -16, 0, -1024⟩) from rfl))) ((hrra.rd M12 (bH (i := 1) rfl)).someK ((show (([⟨0, 65536, 0, 0, 65536, 0, 0, -16, 0, -1024⟩] : List Body).map aI)[0]? = some (aI ⟨0, 65536, 0, 0, 65536, 0, 0, -16, 0, -1024⟩) from rfl)))) rfl rfl ?_
  refine aA (bG 8 dN (hrra.rd M12 (bH (i := 1) rfl)) (Nat.lt_of_le_of_lt (Nat.zero_le _) ((hrra.rd M12 (bH (i := 1) rfl)).below_len ((show (([⟨0, 65536, 0, 0, 65536, 0, 0, -16, 0, -1024⟩] : List Body).map aI)[0]? = some (aI ⟨0, 65536, 0, 0, 65536, 0, 0, -16, 0, -1024⟩) from rfl)))) rfl) rfl rfl ?_
  refine aA (rF (o := 8) _ bE (hrra.rd M12 (bH (i := 1) rfl)) ((show (([⟨0, 65536, 0, 0, 65536, 0, 0, -16, 0, -1024⟩] : List Body).map aI)[0]? = some (aI ⟨0, 65536, 0, 0, 65536, 0, 0, -16, 0, -1024⟩) from rfl)) rfl rfl rfl) rfl rfl ?_
  refine aA (cL [(1, .int _ _)] _ dW rfl rfl) rfl rfl ?_
  refine aA (uP (aGa _ _ _ _) rfl rfl) rfl rfl ?_
  refine aK 53 (.bool true) (bT (by decide)).symm ?_
  refine aA (bQ true (.bool true) rfl rfl) rfl rfl ?_
  refine aA (aC (.bool true) rfl) rfl rfl ?_
  refine aA (aR 2 nD M12 rfl rfl rfl) rfl rfl ?_
  refine aA (cL [] _ aEc rfl rfl) rfl rfl ?_
  refine aA (uP (bBd _ _ _ _ _ _) rfl rfl) rfl rfl ?_
  refine aK 58 (.bool true) (bT (by decide)).symm ?_
  refine aA (bQ true (.bool true) rfl rfl) rfl rfl ?_
  refine aA (aC (.bool true) rfl) rfl rfl ?_
  refine aA (aC (.slice _ _ _) rfl) rfl rfl ?_
  refine aA (bN (0) cW rfl rfl rfl ((hrrb.rd M12 (bH (i := 4) rfl)).below_len ((show (([⟨1, 65536, 0, 0, 65536, 0, 0, -16, 0, -1024⟩, ⟨2, 65536, 0, 0, 0, 0, 131071, 0, 0, 0⟩] : List Body).map aI)[0]? = some (aI ⟨1, 65536, 0, 0, 65536, 0, 0, -16, 0, -1024⟩) from rfl))) ((hrrb.rd M12 (bH (i := 4) rfl)).someK ((show (([⟨1, 65536, 0, 0, 65536, 0, 0, -16, 0, -1024⟩, ⟨2, 65536, 0, 0, 0, 0, 131071, 0, 0, 0⟩] : List Body).map aI)[0]? = some (aI ⟨1, 65536, 0, 0, 65536, 0, 0, -16, 0, -1024⟩) from rfl)))) rfl rfl ?_
  refine aA (bG 8 dN (hrrb.rd M12 (bH (i := 4) rfl)) (Nat.lt_of_le_of_lt (Nat.zero_le _) ((hrrb.rd M12 (bH (i := 4) rfl)).below_len ((show (([⟨1, 65536, 0, 0, 65536, 0, 0, -16, 0, -1024⟩, ⟨2, 65536, 0, 0, 0, 0, 131071, 0, 0, 0⟩] : List Body).map aI)[0]? = some (aI ⟨1, 65536, 0, 0, 65536, 0, 0, -16, 0, -1024⟩) from rfl)))) rfl) rfl rfl ?_
  refine aA (rF (o := 8) _ bE (hrrb.rd M12 (bH (i := 4) rfl)) ((show (([⟨1, 65536, 0, 0, 65536, 0, 0, -16, 0, -1024⟩, ⟨2, 65536, 0, 0, 0, 0, 131071, 0, 0, 0⟩] : List Body).map aI)[0]? = some (aI ⟨1, 65536, 0, 0, 65536, 0, 0, -16, 0, -1024⟩) from rfl)) rfl rfl rfl) rfl rfl ?_
  refine aA (cL [(1, .int _ _)] _ dW rfl rfl) rfl rfl ?_
  refine aA (uP (aGa _ _ _ _) rfl rfl) rfl rfl ?_
  refine aK 66 (.bool true) (bT (by decide)).symm ?_
  refine aA (bQ true (.bool true) rfl rfl) rfl rfl ?_
  refine aA (aC (.bool true) rfl) rfl rfl ?_
  refine aA (aC (.slice _ _ _) rfl) rfl rfl ?_
  refine aA (bN (1) cW rfl rfl rfl ((hrrb.rd M12 (bH (i := 4) rfl)).below_len ((show (([⟨1, 65536, 0, 0, 65536, 0, 0, -16, 0, -1024⟩, ⟨2, 65536, 0, 0, 0, 0, 131071, 0, 0, 0⟩] : List Body).map aI)[1]? = some (aI ⟨2, 65536, 0, 0, 0, 0, 131071, 0, 0, 0⟩) from rfl))) ((hrrb.rd M12 (bH (i := 4) rfl)).someK ((show (([⟨1, 65536, 0, 0, 65536, 0, 0, -16, 0, -1024⟩, ⟨2, 65536, 0, 0, 0, 0, 131071, 0, 0, 0⟩] : List Body).map aI)[1]? = some (aI ⟨2, 65536, 0, 0, 0, 0, 131071, 0, 0, 0⟩) from rfl)))) rfl rfl ?_
  refine aA (bG 8 dN (hrrb.rd M12 (bH (i := 4) rfl)) (Nat.lt_of_le_of_lt (Nat.zero_le _) ((hrrb.rd M12 (bH (i := 4) rfl)).below_len ((show (([⟨1, 65536, 0, 0, 65536, 0, 0, -16, 0, -1024⟩, ⟨2, 65536, 0, 0, 0, 0, 131071, 0, 0, 0⟩] : List Body).map aI)[1]? = some (aI ⟨2, 65536, 0, 0, 0, 0, 131071, 0, 0, 0⟩) from rfl)))) rfl) rfl rfl ?_
  refine aA (rF (o := 8) _ bE (hrrb.rd M12 (bH (i := 4) rfl)) ((show (([⟨1, 65536, 0, 0, 65536, 0, 0, -16, 0, -1024⟩, ⟨2, 65536, 0, 0, 0, 0, 131071, 0, 0, 0⟩] : List Body).map aI)[1]? = some (aI ⟨2, 65536, 0, 0, 0, 0, 131071, 0, 0, 0⟩) from rfl)) rfl rfl rfl) rfl rfl ?_
  refine aA (cL [] _ dW rfl rfl) rfl rfl ?_
  refine aA (uP (aGa _ _ _ _) rfl rfl) rfl rfl ?_
  refine aK 74 (.bool true) (bT (by decide)).symm ?_
  refine aA (bQ true (.bool true) rfl rfl) rfl rfl ?_
  refine aA (aC (.bool true) rfl) rfl rfl ?_
  refine aA (aR 5 nD M12 rfl rfl rfl) rfl rfl ?_
  refine aA (cL [(0, .int _ _), (1, .int _ _)] _ aEc rfl rfl) rfl rfl ?_
  refine aA (uP (bBd _ _ _ _ _ _) rfl rfl) rfl rfl ?_
  refine aK 79 (.bool true) (bT (by decide)).symm ?_
  refine aA (bQ true (.bool true) rfl rfl) rfl rfl ?_
  refine aA (aC (.bool true) rfl) rfl rfl ?_
  refine aA (aC (.slice _ _ _) rfl) rfl rfl ?_
  refine aA (bN (0) cW rfl rfl rfl ((hrc.rd M12 (bH (i := 7) rfl)).below_len ((show (([⟨0, 65536, 0, 0, 65536, 0, 0, -48, 0, -2048⟩] : List Body).map aI)[0]? = some (aI ⟨0, 65536, 0, 0, 65536, 0, 0, -48, 0, -2048⟩) from rfl))) ((hrc.rd M12 (bH (i := 7) rfl)).someK ((show (([⟨0, 65536, 0, 0, 65536, 0, 0, -48, 0, -2048⟩] : List Body).map aI)[0]? = some (aI ⟨0, 65536, 0, 0, 65536, 0, 0, -48, 0, -2048⟩) from rfl)))) rfl rfl ?_
  refine aA (bG 6 eO (hrc.rd M12 (bH (i := 7) rfl)) (Nat.lt_of_le_of_lt (Nat.zero_le _) ((hrc.rd M12 (bH (i := 7) rfl)).below_len ((show (([⟨0, 65536, 0, 0, 65536, 0, 0, -48, 0, -2048⟩] : List Body).map aI)[0]? = some (aI ⟨0, 65536, 0, 0, 65536, 0, 0, -48, 0, -2048⟩) from rfl)))) rfl) rfl rfl ?_
  refine aA (rF (o := 6) _ bE (hrc.rd M12 (bH (i := 7) rfl)) ((show (([⟨0, 65536, 0, 0, 65536, 0, 0, -48, 0, -2048⟩] : List Body).map aI)[0]? = some (aI ⟨0, 65536, 0, 0, 65536, 0, 0, -48, 0, -2048⟩) from rfl)) rfl rfl rfl) rfl rfl ?_
  refine aA (cL [(1, .int _ _)] _ dW rfl rfl) rfl rfl ?_
  refine aA (uP (aGa _ _ _ _) rfl rfl) rfl rfl ?_
  refine aK 87 (.bool true) (bT (by decide)).symm ?_
  refine aA (bQ true (.bool true) rfl rfl) rfl rfl ?_
  refine aA (aC (.bool true) rfl) rfl rfl ?_
  refine aA (cL [(1, .int _ _)] _ nI rfl rfl) rfl rfl ?_
  refine aM bBv rfl rfl rfl ?_
  refine (aLu _ ⟨0, 65536, 0, 0, 0, 0, 0, 0, 0, 0⟩ aTe).mono ?_
  rintro _ w13 ⟨v13, rfl, ⟨rfl, hb13⟩⟩
  refine ⟨_, rfl, ?_⟩
  have M13 := M12.callB hb13
  refine aK 91 (.agg (aI ⟨0, 65536, 0, 0, 0, 0, 0, 0, 0, 0⟩).toArray) (congrArg (fun b => Value.agg (aI b).toArray) aZy) ?_
  refine aA (cL [(1, .int _ _)] _ nI rfl rfl) rfl rfl ?_
  refine aA (uP (aSe ⟨0, 65536, 0, 0, 0, 0, 0, 0, 0, 0⟩ ⟨0, 65536, 0, 0, 0, 0, 0, 0, 0, 0⟩) rfl rfl) rfl rfl ?_
  refine aK 93 (.bool true) (bT (by decide)).symm ?_
  refine aA (bQ true (.bool true) rfl rfl) rfl rfl ?_
  refine aA (aD (.bool true) rfl) rfl rfl ?_
  refine aE (aF (aU ?_))
  refine cU (.bool true) rfl ?_
  exact ⟨rfl, M13.below⟩
end Go.Proofs.YtlmcphcgiclanaaGreatDoor

namespace Go.Proofs.YtlmcphcgiclanaaGreatDoor
open Go.Bil
open Go.RowKit (Below)
open Go.Proofs
end Go.Proofs.YtlmcphcgiclanaaGreatDoor
