/- Part of the proof of the laws of this seat: Aw, V7. No conditions. -/
import Derived.Test.YtlmcphcgiclanaaGreatDoorK5
import Derived.Test.YtlmcphcgiclanaaGreatDoorK22
import Derived.Test.YtlmcphcgiclanaaGreatDoorK23
import Derived.Test.YtlmcphcgiclanaaGreatDoorK6
set_option linter.unusedVariables false
set_option linter.unusedSimpArgs false
set_option linter.unnecessarySimpa false
namespace Go.Proofs.YtlmcphcgiclanaaGreatDoor
open Go.Bil
open Go.RowKit (Below)
open Go.Proofs
end Go.Proofs.YtlmcphcgiclanaaGreatDoor

namespace Go.Proofs.YtlmcphcgiclanaaGreatDoor
open Go.Bil
open Go.RowKit (Below)
open Go.Proofs
set_option maxHeartbeats 4000000 in
theorem aGp (w : World) (A : Option Addr) (n c : Nat) (xs : List Body) (R : Rd w 10 A n (xs.map aG)) :
    Calls Tryz.prog 50 #[.slice A n c] w (fun ex w' => ∃ v, ex = .returned v ∧ (fun v w' => v = .int .i64 (jG xs) ∧ Below w.heap.size w w') v w') := by
  have hlen : xs.length = n := by simpa using R.len
  have hbd := R.bound
  refine aK #[.tmp 2] 22 Tryz.func50 rfl Tryz.results50 Tryz.ntmps50 rfl ?_
  have M0 := Mem.refl w
  refine aH (aB ?_)
  refine aA (aE (.int _ _) rfl) rfl rfl ?_
  refine aD (aF (aH (aH (aB ?_))))
  refine aA (aC (.slice _ _ _) rfl) rfl rfl ?_
  refine aA (bV Tryz.underlying22 rfl) rfl rfl ?_
  refine aA (aO (.bool (decide _)) rfl rfl rfl) rfl rfl ?_
  refine aD (aF ?_)
  refine aY rfl (fun h7 => ?_) (fun h7 => ?_)
  · refine aH (aB ?_)
    refine aA (aE (.int _ _) rfl) rfl rfl ?_
    refine aD (aF (aS (cN ?_)))
    refine cG (.int _ _) rfl ?_
    exact ⟨iE (by unfold jG; rw [if_pos (by omega)]), M0.below⟩
  · refine aP (aF (aH (aH (aB ?_))))
    refine aA (aE (.int _ _) rfl) rfl rfl ?_
    refine aD (aF (bC ?_))
    refine dT (σ := Nat) [0] (fun k => [(3, .int .i64 (k : Int))]) (fun k w' => (k ≤ n ∧ ∀ (j : Nat) (c : Body), j < k → xs[j]? = some c → check c = 0) ∧ Mem w [] [] w') (fun k => n - k) 0 (bX rfl fH) (⟨⟨by omega, fun j c hj => by omega⟩, M0⟩) ?_
    rintro k ρ1 w1 ⟨⟨hk, hok⟩, hM1⟩
    refine aH (aH (aB ?_))
    refine aA (aC (.int _ _) rfl) rfl rfl ?_
    refine aA (aC (.slice _ _ _) rfl) rfl rfl ?_
    refine aA (bV Tryz.underlying22 rfl) rfl rfl ?_
    refine aA (aO (.bool (decide _)) rfl rfl rfl) rfl rfl ?_
    refine aD (aF ?_)
    refine aY rfl (fun h11 => ?_) (fun h11 => ?_)
    · obtain ⟨xb, hxb⟩ := cS (k := k) hlen (by omega)
      refine aP (aF (aH (bC (aH (aB ?_)))))
      refine aA (aC (.slice _ _ _) rfl) rfl rfl ?_
      refine aA (aC (.int _ _) rfl) rfl rfl ?_
      refine aA (bK (k) cA rfl rfl rfl ((R.mem hM1).below_len (aJ aG hxb)) ((R.mem hM1).someK (aJ aG hxb))) rfl rfl ?_
      refine aA (cM _ bO (R.mem hM1) (aJ aG hxb) rfl) rfl rfl ?_
      refine aL aTz rfl rfl rfl ?_
      refine (rY _ xb).mono ?_
      rintro _ w2 ⟨v2, rfl, ⟨rfl, hb2⟩⟩
      refine ⟨_, rfl, ?_⟩
      have M2 := hM1.callB hb2
      refine aA (aE (.int _ _) rfl) rfl rfl ?_
      refine aD (aF (aH (aB ?_)))
      refine aA (aC (.int _ _) rfl) rfl rfl ?_
      refine aA (aO (.bool (decide _)) rfl rfl rfl) rfl rfl ?_
      refine aD (aF ?_)
      refine aY rfl (fun h20 => ?_) (fun h20 => ?_)
      · refine aH (aB ?_)
        refine aA (aC (.int _ _) rfl) rfl rfl ?_
        refine aA (aE (.int _ _) rfl) rfl rfl ?_
        refine aD (aF (aS ?_))
        refine qG ?_
        refine cN ?_
        refine tU ?_
        refine qG ?_
        refine cN ?_
        refine cG (.int _ _) rfl ?_
        exact ⟨iE (by unfold jG; rw [if_neg (by omega), sO hxb h20 hok]), M2.below⟩
      · refine aP ?_
        refine dU ?_
        refine aF (aB ?_)
        refine aA (aC (.int _ _) rfl) rfl rfl ?_
        refine aA (bS rfl rfl (by omega) (by omega)) rfl rfl ?_
        refine aA (aE (.int _ _) rfl) rfl rfl ?_
        refine aD ?_
        refine cK (k + 1) (bX rfl fH) (cQ rfl jF) ?_ ?_
        · exact ⟨⟨by omega, oH (p := fun _ c => check c = 0) hok hxb (by omega)⟩, M2⟩
        · omega
    · refine cR ?_
      refine dK ?_
      refine dH ?_
      refine fC ?_
      refine aF (aH (aB ?_))
      refine aA (aE (.int _ _) rfl) rfl rfl ?_
      refine aD (aF (aS ?_))
      refine cG (.int _ _) rfl ?_
      exact ⟨iE (by unfold jG; rw [if_neg (by omega), lH (fun j c hj => hok j c (by have := (List.getElem?_eq_some_iff.1 hj).1; omega) hj)]), hM1.below⟩
set_option maxHeartbeats 4000000 in
theorem aEy (w : World) (A : Option Addr) (n c : Nat) (xs : List Body) (R : Rd w 10 A n (xs.map aG)) (hn : n ≤ 1048576) :
    Calls Tryz.prog 39 #[.slice A n c] w (fun ex w' => ∃ v, ex = .returned v ∧ (fun v w' => ∃ A' n' c' e, v = .tuple #[.slice A' n' c', .int .i64 (kA xs).2] ∧ aX 40 10 A' n' c' ((kA xs).1.map aG) e ∧ Mem w [] [e] w') v w') := by
  have hlen : xs.length = n := by simpa using R.len
  have hbd := R.bound
  refine aK #[.tmp 2, .tmp 3] 19 Tryz.func39 rfl Tryz.results39 Tryz.ntmps39 rfl ?_
  have M0 := Mem.refl w
  refine aH (aB ?_)
  refine aA (aE (.slice _ _ _) rfl) rfl rfl ?_
  refine aA (aE (.int _ _) rfl) rfl rfl ?_
  refine aD (aF (aH (aB ?_)))
  refine aA (aC (.slice _ _ _) rfl) rfl rfl ?_
  refine aL aZi rfl rfl rfl ?_
  refine (aGp _ _ _ _ xs (R.mem M0)).mono ?_
  rintro _ w1 ⟨v1, rfl, ⟨rfl, hb1⟩⟩
  refine ⟨_, rfl, ?_⟩
  have M1 := M0.callB hb1
  refine aA (aE (.int _ _) rfl) rfl rfl ?_
  refine aD (aF (aH (aH (aB ?_))))
  refine aA (aC (.int _ _) rfl) rfl rfl ?_
  refine aA (aO (.bool (decide _)) rfl rfl rfl) rfl rfl ?_
  refine aD (aF ?_)
  refine aY rfl (fun h9 => ?_) (fun h9 => ?_)
  · refine aH (aB ?_)
    refine aA (aC (.int _ _) rfl) rfl rfl ?_
    refine aA (aE (.slice _ _ _) rfl) rfl rfl ?_
    refine aA (aE (.int _ _) rfl) rfl rfl ?_
    refine aD (aF (aS (cN ?_)))
    refine fV (.slice _ _ _) (.int _ _) rfl rfl ?_
    have ha : kA xs = ([], jG xs) := by unfold kA; rw [if_pos h9]
    exact ⟨_, _, _, (none, default), by rw [ha], by rw [ha]; exact aX.nil _ _ _, (M1.drop).dummy default⟩
  · have he : jG xs = 0 := by omega
    obtain ⟨hs1, hs2⟩ := aKc he
    refine aP (aF (aH (aB ?_)))
    refine aA (aC (.slice _ _ _) rfl) rfl rfl ?_
    refine aL aYj rfl rfl rfl ?_
    refine (aKk _ _ _ _ xs (R.mem M1) (by omega)).mono ?_
    rintro _ w2 ⟨v2, rfl, ⟨A2, n2, c2, e2, rfl, hR2, hM2⟩⟩
    refine ⟨_, rfl, ?_⟩
    have M2 : Mem _ _ [_] _ := M1.call0 hM2
    have hlw : (wX xs).length = n2 := by simpa using hR2.1
    refine aA (aE (.slice _ _ _) rfl) rfl rfl ?_
    refine aD (aF (aH (aH (aB ?_))))
    refine aA (aC (.slice _ _ _) rfl) rfl rfl ?_
    refine aA (bV Tryz.underlying22 rfl) rfl rfl ?_
    refine aA (aC (.slice _ _ _) rfl) rfl rfl ?_
    refine aA (bV Tryz.underlying22 rfl) rfl rfl ?_
    refine aA (aO (.bool (decide _)) rfl rfl rfl) rfl rfl ?_
    refine aD (aF ?_)
    refine aY rfl (fun h17 => ?_) (fun h17 => ?_)
    · refine aH (aB ?_)
      refine aA (aE (.slice _ _ _) rfl) rfl rfl ?_
      refine aA (aE (.int _ _) rfl) rfl rfl ?_
      refine aD (aF (aS (cN ?_)))
      refine fV (.slice _ _ _) (.int _ _) rfl rfl ?_
      have ha : kA xs = ([], 10) := by unfold kA; rw [if_neg (by omega), if_neg (hs2.1 (by omega))]
      exact ⟨_, _, _, (none, default), by rw [ha], by rw [ha]; exact aX.nil _ _ _, (M2.drop).dummy default⟩
    · refine aP (aF (aH (aB ?_)))
      refine aA (aC (.slice _ _ _) rfl) rfl rfl ?_
      refine aA (aE (.slice _ _ _) rfl) rfl rfl ?_
      refine aA (aE (.int _ _) rfl) rfl rfl ?_
      refine aD (aF (aS ?_))
      refine fV (.slice _ _ _) (.int _ _) rfl rfl ?_
      have hk : fU xs := Decidable.by_contra fun h => by have := hs2.2 h; omega
      have ha : kA xs = (kT xs, 0) := by unfold kA; rw [if_neg (by omega), if_pos hk]
      rw [hs1 hk] at *
      exact ⟨_, _, _, _, by rw [ha], by rw [ha]; exact hR2, M2⟩
set_option maxHeartbeats 4000000 in
theorem uV (w : World) (b : Body) (key : Int) :
    Calls Tryz.prog 140 #[(.agg (aG b).toArray), .int .u32 key] w (fun ex w' => ∃ v, ex = .returned v ∧ (fun v w' => v = .int .i64 (mX b.key key) ∧ Below w.heap.size w w') v w') := by
  refine aK #[.tmp 4] 9 Tryz.func140 rfl Tryz.results140 Tryz.ntmps140 rfl ?_
  have M0 := Mem.refl w
  refine aH (aB ?_)
  refine bM (.agg (List.toArray _)) M0 rfl rfl rfl (fun b1 w1 M1 => ?_)
  refine aA (aE (.int _ _) rfl) rfl rfl ?_
  refine aD (aF (aH (aB ?_)))
  refine aA (aI 0 eG rfl) rfl rfl ?_
  refine aA (aV 0 (.int _ _) dD M1 rfl rfl rfl) rfl rfl ?_
  refine aA (aC (.int _ _) rfl) rfl rfl ?_
  refine aL aNs rfl rfl rfl ?_
  refine (lJ _ _ _).mono ?_
  rintro _ w2 ⟨v2, rfl, ⟨rfl, rfl⟩⟩
  refine ⟨_, rfl, ?_⟩
  have M2 : Mem _ _ [_] _ := M1
  refine aA (aE (.int _ _) rfl) rfl rfl ?_
  refine aD (aF (aS ?_))
  refine cG (.int _ _) rfl ?_
  exact ⟨rfl, M2.below⟩
set_option maxHeartbeats 4000000 in
theorem nE (w : World) (key : Int) (A : Option Addr) (n c : Nat) (xs : List Body) (R : Rd w 10 A n (xs.map aG)) (hs : bN xs) :
    Calls Tryz.prog 139 #[.slice A n c, .int .u32 key, .func (.func 140) #[] #[]] w (fun ex w' => ∃ v, ex = .returned v ∧ (fun v w' => v = .tuple #[.int .i64 (rW key xs : Int), .bool (decide (0 ≤ cH key xs))] ∧ Below w.heap.size w w') v w') := by
  have hlen : xs.length = n := by simpa using R.len
  have hbd := R.bound
  refine aK #[.tmp 6, .tmp 7] 49 Tryz.func139 rfl Tryz.results139 Tryz.ntmps139 rfl ?_
  have M0 := Mem.refl w
  refine aH (aB ?_)
  refine aA (aE (.int _ _) rfl) rfl rfl ?_
  refine aA (aE (.bool false) rfl) rfl rfl ?_
  refine aD (aF (aH (aB ?_)))
  refine aA (aC (.slice _ _ _) rfl) rfl rfl ?_
  refine aA (bV Tryz.underlying22 rfl) rfl rfl ?_
  refine aA (aE (.int _ _) rfl) rfl rfl ?_
  refine aD (aF (aH (aB ?_)))
  refine aA (aC (.int _ _) rfl) rfl rfl ?_
  refine aA (aE (.int _ _) rfl) rfl rfl ?_
  refine aA (aE (.int _ _) rfl) rfl rfl ?_
  refine aD (aF (aH (bC ?_)))
  refine dT (σ := Nat × Nat) [0, 1, 2, 6, 7, 8] (fun (i, j) => [(9, .int .i64 (i : Int)), (10, .int .i64 (j : Int))]) (fun (i, j) w' => (i ≤ j ∧ j ≤ n ∧ (∀ (p : Nat) (c : Body), p < i → xs[p]? = some c → c.key < key) ∧ ∀ (p : Nat) (c : Body), j ≤ p → xs[p]? = some c → ¬ c.key < key) ∧ Mem w [] [] w') (fun (i, j) => j - i) (0, n) (bX rfl (bX rfl fH)) (⟨⟨by omega, by omega, fun p c h => by omega, fun p c h hc => by have := (List.getElem?_eq_some_iff.1 hc).1; omega⟩, M0⟩) ?_
  rintro ⟨i, j⟩ ρ1 w1 ⟨⟨hij, hjn, hlo, hhi⟩, hM1⟩
  refine aH (aH (aB ?_))
  refine aA (aC (.int _ _) rfl) rfl rfl ?_
  refine aA (aC (.int _ _) rfl) rfl rfl ?_
  refine aA (aO (.bool (decide _)) rfl rfl rfl) rfl rfl ?_
  refine aD (aF ?_)
  refine aY rfl (fun h17 => ?_) (fun h17 => ?_)
  · obtain ⟨xb, hxb⟩ := cS (k := (i + j) / 2) hlen (by omega)
    refine aP (aF (bC (aH (aB ?_))))
    refine aA (aC (.int _ _) rfl) rfl rfl ?_
    refine aA (aC (.int _ _) rfl) rfl rfl ?_
    refine aA (bS rfl rfl (by omega) (by omega)) rfl rfl ?_
    refine aA (bW us3 Tryz.underlying136 rfl (gI _ (by omega) (by omega))) rfl rfl ?_
    refine aA (iG rfl rfl (by decide)) rfl rfl ?_
    refine aQ 22 (.int .u64 (((i + j) / 2 : Nat) : Int)) (iE (aZm i j)) ?_
    refine aA (bW aXz Tryz.underlying3 rfl (kR _ (by omega) (by omega))) rfl rfl ?_
    refine aA (aE (.int _ _) rfl) rfl rfl ?_
    refine aD (aF (aH (aB ?_)))
    refine aA (aC (.func _ _ _) rfl) rfl rfl ?_
    refine aA (aC (.slice _ _ _) rfl) rfl rfl ?_
    refine aA (aC (.int _ _) rfl) rfl rfl ?_
    refine aA (bK ((i + j) / 2) cA rfl rfl rfl ((R.mem hM1).below_len (aJ aG hxb)) ((R.mem hM1).someK (aJ aG hxb))) rfl rfl ?_
    refine aA (cM _ bO (R.mem hM1) (aJ aG hxb) rfl) rfl rfl ?_
    refine aA (aC (.int _ _) rfl) rfl rfl ?_
    refine aL aMd rfl rfl rfl ?_
    refine (uV _ xb key).mono ?_
    rintro _ w2 ⟨v2, rfl, ⟨rfl, hb2⟩⟩
    refine ⟨_, rfl, ?_⟩
    have M2 := hM1.callB hb2
    refine aA (aO (.bool (decide _)) rfl rfl rfl) rfl rfl ?_
    refine aD (aF ?_)
    refine aY rfl (fun h31 => ?_) (fun h31 => ?_)
    · refine aB ?_
      refine aA (aC (.int _ _) rfl) rfl rfl ?_
      refine aA (bS rfl rfl (by omega) (by omega)) rfl rfl ?_
      refine aA (aE (.int _ _) rfl) rfl rfl ?_
      refine aD ?_
      refine dU ?_
      refine cK ((i + j) / 2 + 1, j) (bX rfl (bX rfl fH)) (cQ rfl (cQ rfl (cQ rfl (cQ rfl (cQ rfl (cQ rfl jF)))))) ?_ ?_
      · exact ⟨⟨by omega, hjn, fun p c hp hc => by have := sP hs (show p ≤ (i + j) / 2 by omega) hc hxb; have := aCk.1 h31; omega, hhi⟩, M2⟩
      · (show j - ((i + j) / 2 + 1) < j - i; omega)
    · refine aB ?_
      refine aA (aC (.int _ _) rfl) rfl rfl ?_
      refine aA (aE (.int _ _) rfl) rfl rfl ?_
      refine aD ?_
      refine dU ?_
      refine cK (i, (i + j) / 2) (bX rfl (bX rfl fH)) (cQ rfl (cQ rfl (cQ rfl (cQ rfl (cQ rfl (cQ rfl jF)))))) ?_ ?_
      · exact ⟨⟨by omega, by omega, hlo, fun p c hp hc => by have := sP hs hp hxb hc; have := mt aCk.2 h31; omega⟩, M2⟩
      · (show (i + j) / 2 - i < j - i; omega)
  · have hij' : i = j := by omega
    have hless := pW (key := key) (xs := xs) (k := i) (by omega) hlo (by rw [hij']; exact hhi)
    refine cR ?_
    refine dK ?_
    refine dH ?_
    refine fC ?_
    refine aF (aH (aB ?_))
    refine aA (aC (.int _ _) rfl) rfl rfl ?_
    refine aA (aC (.int _ _) rfl) rfl rfl ?_
    refine aA (aC (.int _ _) rfl) rfl rfl ?_
    refine aA (aO (.bool (decide _)) rfl rfl rfl) rfl rfl ?_
    refine aA (aC (.bool (decide _)) rfl) rfl rfl ?_
    refine cW 39 rfl (fun g39 => ?_) (fun g39 => ?_)
    · obtain ⟨xi, hxi⟩ := cS (k := i) hlen (by omega)
      refine aA (aC (.func _ _ _) rfl) rfl rfl ?_
      refine aA (aC (.slice _ _ _) rfl) rfl rfl ?_
      refine aA (aC (.int _ _) rfl) rfl rfl ?_
      refine aA (bK (i) cA rfl rfl rfl ((R.mem hM1).below_len (aJ aG hxi)) ((R.mem hM1).someK (aJ aG hxi))) rfl rfl ?_
      refine aA (cM _ bO (R.mem hM1) (aJ aG hxi) rfl) rfl rfl ?_
      refine aA (aC (.int _ _) rfl) rfl rfl ?_
      refine aL aMd rfl rfl rfl ?_
      refine (uV _ xi key).mono ?_
      rintro _ w3 ⟨v3, rfl, ⟨rfl, hb3⟩⟩
      refine ⟨_, rfl, ?_⟩
      have M3 := hM1.callB hb3
      refine aA (aO (.bool (decide _)) rfl rfl rfl) rfl rfl ?_
      refine aA (bI true (.bool (decide _)) rfl rfl) rfl rfl ?_
      refine aA (aE (.int _ _) rfl) rfl rfl ?_
      refine aA (aE (.bool (decide _)) rfl) rfl rfl ?_
      refine aD (aF (aS ?_))
      refine fV (.int _ _) (.bool (decide _)) rfl rfl ?_
      exact ⟨sY (iE (by rw [hless])) (bD (aKg hs hxi hlo (by rw [hij']; exact hhi))), M3.below⟩
    · refine aN rfl rfl ?_
      refine aN rfl rfl ?_
      refine aN rfl rfl ?_
      refine aN rfl rfl ?_
      refine aN rfl rfl ?_
      refine aN rfl rfl ?_
      refine aN rfl rfl ?_
      refine aN rfl rfl ?_
      refine aA (bI false (.bool false) rfl rfl) rfl rfl ?_
      refine aA (aE (.int _ _) rfl) rfl rfl ?_
      refine aA (aE (.bool false) rfl) rfl rfl ?_
      refine aD (aF (aS ?_))
      refine fV (.int _ _) (.bool false) rfl rfl ?_
      exact ⟨sY (iE (by rw [hless])) (bF (aFk fun p c hp hc => hlo p c (by omega) hc)), hM1.below⟩
set_option maxHeartbeats 4000000 in
theorem nT (w : World) (key : Int) (A : Option Addr) (n c : Nat) (xs : List Body) (R : Rd w 10 A n (xs.map aG)) (hs : bN xs) :
    Calls Tryz.prog 109 #[.slice A n c, .int .u32 key] w (fun ex w' => ∃ v, ex = .returned v ∧ (fun v w' => v = .tuple #[.int .i64 (rW key xs : Int), .bool (decide (0 ≤ cH key xs))] ∧ Below w.heap.size w w') v w') := by
  refine aK #[.tmp 4, .tmp 5] 11 Tryz.func109 rfl Tryz.results109 Tryz.ntmps109 rfl ?_
  have M0 := Mem.refl w
  refine aH (aB ?_)
  refine aA (aE (.int _ _) rfl) rfl rfl ?_
  refine aA (aE (.bool false) rfl) rfl rfl ?_
  refine aD (aF (aH (aB ?_)))
  refine aA (aC (.slice _ _ _) rfl) rfl rfl ?_
  refine aA (aC (.int _ _) rfl) rfl rfl ?_
  refine aL aUi rfl rfl rfl ?_
  refine (nE _ key _ _ _ xs (R.mem M0) hs).mono ?_
  rintro _ w1 ⟨v1, rfl, ⟨rfl, hb1⟩⟩
  refine ⟨_, rfl, ?_⟩
  have M1 := M0.callB hb1
  refine aA (bB (.int _ _) rfl rfl) rfl rfl ?_
  refine aA (bB (.bool (decide _)) rfl rfl) rfl rfl ?_
  refine aA (aE (.int _ _) rfl) rfl rfl ?_
  refine aA (aE (.bool (decide _)) rfl) rfl rfl ?_
  refine aD (aF (aS ?_))
  refine fV (.int _ _) (.bool (decide _)) rfl rfl ?_
  exact ⟨rfl, M1.below⟩
end Go.Proofs.YtlmcphcgiclanaaGreatDoor
