/- Part of the proof of the laws of this seat: Aw, V7. No conditions. -/
import Derived.Test.YtlmcphcgiclanaaGreatDoorK5
import Derived.Test.YtlmcphcgiclanaaGreatDoorK22
import Derived.Test.YtlmcphcgiclanaaGreatDoorK23
import Derived.Test.YtlmcphcgiclanaaGreatDoorK6
set_option linter.unusedVariables false
set_option linter.unusedSimpArgs false
set_option linter.unnecessarySimpa false
namespace Go.Proofs.YtlmcphcgiclanaaGreatDoor
open Go.Bil
open Go.RowKit (Below)
open Go.Proofs
end Go.Proofs.YtlmcphcgiclanaaGreatDoor

namespace Go.Proofs.YtlmcphcgiclanaaGreatDoor
open Go.Bil
open Go.RowKit (Below)
open Go.Proofs
set_option maxHeartbeats 4000000 in
theorem aDe (w : World) (A : Option Addr) (n c : Nat) (xs : List Body) (R : Rd w 10 A n (xs.map aI)) :
    Calls Tryz.prog 50 #[.slice A n c] w (fun ex w' => ∃ v, ex = .returned v ∧ (fun v w' => v = .int .i64 (iK xs) ∧ Below w.heap.size w w') v w') := by
  have hlen : xs.length = n := by simpa using R.len
  have hbd := R.bound
  refine aJ #[.tmp 2] 22 Tryz.func50 rfl Tryz.results50 Tryz.ntmps50 rfl ?_
  have M0 := Mem.refl w
  refine aG (aB ?_)
  refine aA (aD (.int _ _) rfl) rfl rfl ?_
  refine aE (aF (aG (aG (aB ?_))))
  refine aA (aC (.slice _ _ _) rfl) rfl rfl ?_
  refine aA (cR Tryz.underlying22 rfl) rfl rfl ?_
  refine aA (aO (.bool (decide _)) rfl rfl rfl) rfl rfl ?_
  refine aE (aF ?_)
  refine aZ rfl (fun h7 => ?_) (fun h7 => ?_)
  · refine aG (aB ?_)
    refine aA (aD (.int _ _) rfl) rfl rfl ?_
    refine aE (aF (aR (cP ?_)))
    refine cH (.int _ _) rfl ?_
    exact ⟨iE (by unfold iK; rw [if_pos (by omega)]), M0.below⟩
  · refine aN (aF (aG (aG (aB ?_))))
    refine aA (aD (.int _ _) rfl) rfl rfl ?_
    refine aE (aF (bA ?_))
    refine dJ (σ := Nat) [0] (fun k => [(3, .int .i64 (k : Int))]) (fun k w' => (k ≤ n ∧ ∀ (j : Nat) (c : Body), j < k → xs[j]? = some c → check c = 0) ∧ Mem w [] [] w') (fun k => n - k) 0 (bV rfl eX) (⟨⟨by omega, fun j c hj => by omega⟩, M0⟩) ?_
    rintro k ρ1 w1 ⟨⟨hk, hok⟩, hM1⟩
    refine aG (aG (aB ?_))
    refine aA (aC (.int _ _) rfl) rfl rfl ?_
    refine aA (aC (.slice _ _ _) rfl) rfl rfl ?_
    refine aA (cR Tryz.underlying22 rfl) rfl rfl ?_
    refine aA (aO (.bool (decide _)) rfl rfl rfl) rfl rfl ?_
    refine aE (aF ?_)
    refine aZ rfl (fun h11 => ?_) (fun h11 => ?_)
    · obtain ⟨xb, hxb⟩ := cN (k := k) hlen (by omega)
      refine aN (aF (aG (bA (aG (aB ?_)))))
      refine aA (aC (.slice _ _ _) rfl) rfl rfl ?_
      refine aA (aC (.int _ _) rfl) rfl rfl ?_
      refine aA (bO (k) dG rfl rfl rfl ((R.mem hM1).below_len (aL aI hxb)) ((R.mem hM1).someK (aL aI hxb))) rfl rfl ?_
      refine aA (dK _ bX (R.mem hM1) (aL aI hxb) rfl) rfl rfl ?_
      refine aK aJt rfl rfl rfl ?_
      refine (mO _ xb).mono ?_
      rintro _ w2 ⟨v2, rfl, ⟨rfl, hb2⟩⟩
      refine ⟨_, rfl, ?_⟩
      have M2 := hM1.callB hb2
      refine aA (aD (.int _ _) rfl) rfl rfl ?_
      refine aE (aF (aG (aB ?_)))
      refine aA (aC (.int _ _) rfl) rfl rfl ?_
      refine aA (aO (.bool (decide _)) rfl rfl rfl) rfl rfl ?_
      refine aE (aF ?_)
      refine aZ rfl (fun h20 => ?_) (fun h20 => ?_)
      · refine aG (aB ?_)
        refine aA (aC (.int _ _) rfl) rfl rfl ?_
        refine aA (aD (.int _ _) rfl) rfl rfl ?_
        refine aE (aF (aR ?_))
        refine rW ?_
        refine cP ?_
        refine yC ?_
        refine rW ?_
        refine cP ?_
        refine cH (.int _ _) rfl ?_
        exact ⟨iE (by unfold iK; rw [if_neg (by omega), rR hxb h20 hok]), M2.below⟩
      · refine aN ?_
        refine dL ?_
        refine aF (aB ?_)
        refine aA (aC (.int _ _) rfl) rfl rfl ?_
        refine aA (bW rfl rfl (by omega) (by omega)) rfl rfl ?_
        refine aA (aD (.int _ _) rfl) rfl rfl ?_
        refine aE ?_
        refine cE (k + 1) (bV rfl eX) (cI rfl iO) ?_ ?_
        · exact ⟨⟨by omega, sQ (p := fun _ c => check c = 0) hok hxb (by omega)⟩, M2⟩
        · omega
    · refine cL ?_
      refine dD ?_
      refine cY ?_
      refine eM ?_
      refine aF (aG (aB ?_))
      refine aA (aD (.int _ _) rfl) rfl rfl ?_
      refine aE (aF (aR ?_))
      refine cH (.int _ _) rfl ?_
      exact ⟨iE (by unfold iK; rw [if_neg (by omega), kR (fun j c hj => hok j c (by have := (List.getElem?_eq_some_iff.1 hj).1; omega) hj)]), hM1.below⟩
set_option maxHeartbeats 4000000 in
theorem aDz (w : World) (A : Option Addr) (n c : Nat) (xs : List Body) (R : Rd w 10 A n (xs.map aI)) (hn : n ≤ 1048576) :
    Calls Tryz.prog 39 #[.slice A n c] w (fun ex w' => ∃ v, ex = .returned v ∧ (fun v w' => ∃ A' n' c' e, v = .tuple #[.slice A' n' c', .int .i64 (jQ xs).2] ∧ aY 40 10 A' n' c' ((jQ xs).1.map aI) e ∧ Mem w [] [e] w') v w') := by
  have hlen : xs.length = n := by simpa using R.len
  have hbd := R.bound
  refine aJ #[.tmp 2, .tmp 3] 19 Tryz.func39 rfl Tryz.results39 Tryz.ntmps39 rfl ?_
  have M0 := Mem.refl w
  refine aG (aB ?_)
  refine aA (aD (.slice _ _ _) rfl) rfl rfl ?_
  refine aA (aD (.int _ _) rfl) rfl rfl ?_
  refine aE (aF (aG (aB ?_)))
  refine aA (aC (.slice _ _ _) rfl) rfl rfl ?_
  refine aK aWu rfl rfl rfl ?_
  refine (aDe _ _ _ _ xs (R.mem M0)).mono ?_
  rintro _ w1 ⟨v1, rfl, ⟨rfl, hb1⟩⟩
  refine ⟨_, rfl, ?_⟩
  have M1 := M0.callB hb1
  refine aA (aD (.int _ _) rfl) rfl rfl ?_
  refine aE (aF (aG (aG (aB ?_))))
  refine aA (aC (.int _ _) rfl) rfl rfl ?_
  refine aA (aO (.bool (decide _)) rfl rfl rfl) rfl rfl ?_
  refine aE (aF ?_)
  refine aZ rfl (fun h9 => ?_) (fun h9 => ?_)
  · refine aG (aB ?_)
    refine aA (aC (.int _ _) rfl) rfl rfl ?_
    refine aA (aD (.slice _ _ _) rfl) rfl rfl ?_
    refine aA (aD (.int _ _) rfl) rfl rfl ?_
    refine aE (aF (aR (cP ?_)))
    refine fI (.slice _ _ _) (.int _ _) rfl rfl ?_
    have ha : jQ xs = ([], iK xs) := by unfold jQ; rw [if_pos h9]
    exact ⟨_, _, _, (none, default), by rw [ha], by rw [ha]; exact aY.nil _ _ _, (M1.drop).dummy default⟩
  · have he : iK xs = 0 := by omega
    obtain ⟨hs1, hs2⟩ := aHx he
    refine aN (aF (aG (aB ?_)))
    refine aA (aC (.slice _ _ _) rfl) rfl rfl ?_
    refine aK aWl rfl rfl rfl ?_
    refine (aJj _ _ _ _ xs (R.mem M1) (by omega)).mono ?_
    rintro _ w2 ⟨v2, rfl, ⟨A2, n2, c2, e2, rfl, hR2, hM2⟩⟩
    refine ⟨_, rfl, ?_⟩
    have M2 : Mem _ _ [_] _ := M1.call0 hM2
    have hlw : (vW xs).length = n2 := by simpa using hR2.1
    refine aA (aD (.slice _ _ _) rfl) rfl rfl ?_
    refine aE (aF (aG (aG (aB ?_))))
    refine aA (aC (.slice _ _ _) rfl) rfl rfl ?_
    refine aA (cR Tryz.underlying22 rfl) rfl rfl ?_
    refine aA (aC (.slice _ _ _) rfl) rfl rfl ?_
    refine aA (cR Tryz.underlying22 rfl) rfl rfl ?_
    refine aA (aO (.bool (decide _)) rfl rfl rfl) rfl rfl ?_
    refine aE (aF ?_)
    refine aZ rfl (fun h17 => ?_) (fun h17 => ?_)
    · refine aG (aB ?_)
      refine aA (aD (.slice _ _ _) rfl) rfl rfl ?_
      refine aA (aD (.int _ _) rfl) rfl rfl ?_
      refine aE (aF (aR (cP ?_)))
      refine fI (.slice _ _ _) (.int _ _) rfl rfl ?_
      have ha : jQ xs = ([], 10) := by unfold jQ; rw [if_neg (by omega), if_neg (hs2.1 (by omega))]
      exact ⟨_, _, _, (none, default), by rw [ha], by rw [ha]; exact aY.nil _ _ _, (M2.drop).dummy default⟩
    · refine aN (aF (aG (aB ?_)))
      refine aA (aC (.slice _ _ _) rfl) rfl rfl ?_
      refine aA (aD (.slice _ _ _) rfl) rfl rfl ?_
      refine aA (aD (.int _ _) rfl) rfl rfl ?_
      refine aE (aF (aR ?_))
      refine fI (.slice _ _ _) (.int _ _) rfl rfl ?_
      have hk : fO xs := Decidable.by_contra fun h => by have := hs2.2 h; omega
      have ha : jQ xs = (kF xs, 0) := by unfold jQ; rw [if_neg (by omega), if_pos hk]
      rw [hs1 hk] at *
      exact ⟨_, _, _, _, by rw [ha], by rw [ha]; exact hR2, M2⟩
set_option maxHeartbeats 4000000 in
theorem uQ (w : World) (b : Body) (key : Int) :
    Calls Tryz.prog 140 #[(.agg (aI b).toArray), .int .u32 key] w (fun ex w' => ∃ v, ex = .returned v ∧ (fun v w' => v = .int .i64 (mE b.key key) ∧ Below w.heap.size w w') v w') := by
  refine aJ #[.tmp 4] 9 Tryz.func140 rfl Tryz.results140 Tryz.ntmps140 rfl ?_
  have M0 := Mem.refl w
  refine aG (aB ?_)
  refine bK (.agg (List.toArray _)) M0 rfl rfl rfl (fun b1 w1 M1 => ?_)
  refine aA (aD (.int _ _) rfl) rfl rfl ?_
  refine aE (aF (aG (aB ?_)))
  refine aA (aH 0 eB rfl) rfl rfl ?_
  refine aA (aW 0 (.int _ _) cV M1 rfl rfl rfl) rfl rfl ?_
  refine aA (aC (.int _ _) rfl) rfl rfl ?_
  refine aK aNa rfl rfl rfl ?_
  refine (kV _ _ _).mono ?_
  rintro _ w2 ⟨v2, rfl, ⟨rfl, rfl⟩⟩
  refine ⟨_, rfl, ?_⟩
  have M2 : Mem _ _ [_] _ := M1
  refine aA (aD (.int _ _) rfl) rfl rfl ?_
  refine aE (aF (aR ?_))
  refine cH (.int _ _) rfl ?_
  exact ⟨rfl, M2.below⟩
set_option maxHeartbeats 4000000 in
theorem mV (w : World) (key : Int) (A : Option Addr) (n c : Nat) (xs : List Body) (R : Rd w 10 A n (xs.map aI)) (hs : bM xs) :
    Calls Tryz.prog 139 #[.slice A n c, .int .u32 key, .func (.func 140) #[] #[]] w (fun ex w' => ∃ v, ex = .returned v ∧ (fun v w' => v = .tuple #[.int .i64 (rP key xs : Int), .bool (decide (0 ≤ cG key xs))] ∧ Below w.heap.size w w') v w') := by
  have hlen : xs.length = n := by simpa using R.len
  have hbd := R.bound
  refine aJ #[.tmp 6, .tmp 7] 49 Tryz.func139 rfl Tryz.results139 Tryz.ntmps139 rfl ?_
  have M0 := Mem.refl w
  refine aG (aB ?_)
  refine aA (aD (.int _ _) rfl) rfl rfl ?_
  refine aA (aD (.bool false) rfl) rfl rfl ?_
  refine aE (aF (aG (aB ?_)))
  refine aA (aC (.slice _ _ _) rfl) rfl rfl ?_
  refine aA (cR Tryz.underlying22 rfl) rfl rfl ?_
  refine aA (aD (.int _ _) rfl) rfl rfl ?_
  refine aE (aF (aG (aB ?_)))
  refine aA (aC (.int _ _) rfl) rfl rfl ?_
  refine aA (aD (.int _ _) rfl) rfl rfl ?_
  refine aA (aD (.int _ _) rfl) rfl rfl ?_
  refine aE (aF (aG (bA ?_)))
  refine dJ (σ := Nat × Nat) [0, 1, 2, 6, 7, 8] (fun (i, j) => [(9, .int .i64 (i : Int)), (10, .int .i64 (j : Int))]) (fun (i, j) w' => (i ≤ j ∧ j ≤ n ∧ (∀ (p : Nat) (c : Body), p < i → xs[p]? = some c → c.key < key) ∧ ∀ (p : Nat) (c : Body), j ≤ p → xs[p]? = some c → ¬ c.key < key) ∧ Mem w [] [] w') (fun (i, j) => j - i) (0, n) (bV rfl (bV rfl eX)) (⟨⟨by omega, by omega, fun p c h => by omega, fun p c h hc => by have := (List.getElem?_eq_some_iff.1 hc).1; omega⟩, M0⟩) ?_
  rintro ⟨i, j⟩ ρ1 w1 ⟨⟨hij, hjn, hlo, hhi⟩, hM1⟩
  refine aG (aG (aB ?_))
  refine aA (aC (.int _ _) rfl) rfl rfl ?_
  refine aA (aC (.int _ _) rfl) rfl rfl ?_
  refine aA (aO (.bool (decide _)) rfl rfl rfl) rfl rfl ?_
  refine aE (aF ?_)
  refine aZ rfl (fun h17 => ?_) (fun h17 => ?_)
  · obtain ⟨xb, hxb⟩ := cN (k := (i + j) / 2) hlen (by omega)
    refine aN (aF (bA (aG (aB ?_))))
    refine aA (aC (.int _ _) rfl) rfl rfl ?_
    refine aA (aC (.int _ _) rfl) rfl rfl ?_
    refine aA (bW rfl rfl (by omega) (by omega)) rfl rfl ?_
    refine aA (bQ us3 Tryz.underlying136 rfl (fX _ (by omega) (by omega))) rfl rfl ?_
    refine aA (gO rfl rfl (by decide)) rfl rfl ?_
    refine aM 22 (.int .u64 (((i + j) / 2 : Nat) : Int)) (iE (aXk i j)) ?_
    refine aA (bQ aVu Tryz.underlying3 rfl (jT _ (by omega) (by omega))) rfl rfl ?_
    refine aA (aD (.int _ _) rfl) rfl rfl ?_
    refine aE (aF (aG (aB ?_)))
    refine aA (aC (.func _ _ _) rfl) rfl rfl ?_
    refine aA (aC (.slice _ _ _) rfl) rfl rfl ?_
    refine aA (aC (.int _ _) rfl) rfl rfl ?_
    refine aA (bO ((i + j) / 2) dG rfl rfl rfl ((R.mem hM1).below_len (aL aI hxb)) ((R.mem hM1).someK (aL aI hxb))) rfl rfl ?_
    refine aA (dK _ bX (R.mem hM1) (aL aI hxb) rfl) rfl rfl ?_
    refine aA (aC (.int _ _) rfl) rfl rfl ?_
    refine aK aOd rfl rfl rfl ?_
    refine (uQ _ xb key).mono ?_
    rintro _ w2 ⟨v2, rfl, ⟨rfl, hb2⟩⟩
    refine ⟨_, rfl, ?_⟩
    have M2 := hM1.callB hb2
    refine aA (aO (.bool (decide _)) rfl rfl rfl) rfl rfl ?_
    refine aE (aF ?_)
    refine aZ rfl (fun h31 => ?_) (fun h31 => ?_)
    · refine aB ?_
      refine aA (aC (.int _ _) rfl) rfl rfl ?_
      refine aA (bW rfl rfl (by omega) (by omega)) rfl rfl ?_
      refine aA (aD (.int _ _) rfl) rfl rfl ?_
      refine aE ?_
      refine dL ?_
      refine cE ((i + j) / 2 + 1, j) (bV rfl (bV rfl eX)) (cI rfl (cI rfl (cI rfl (cI rfl (cI rfl (cI rfl iO)))))) ?_ ?_
      · exact ⟨⟨by omega, hjn, fun p c hp hc => by have := rF hs (show p ≤ (i + j) / 2 by omega) hc hxb; have := aCk.1 h31; omega, hhi⟩, M2⟩
      · (show j - ((i + j) / 2 + 1) < j - i; omega)
    · refine aB ?_
      refine aA (aC (.int _ _) rfl) rfl rfl ?_
      refine aA (aD (.int _ _) rfl) rfl rfl ?_
      refine aE ?_
      refine dL ?_
      refine cE (i, (i + j) / 2) (bV rfl (bV rfl eX)) (cI rfl (cI rfl (cI rfl (cI rfl (cI rfl (cI rfl iO)))))) ?_ ?_
      · exact ⟨⟨by omega, by omega, hlo, fun p c hp hc => by have := rF hs hp hxb hc; have := mt aCk.2 h31; omega⟩, M2⟩
      · (show (i + j) / 2 - i < j - i; omega)
  · have hij' : i = j := by omega
    have hless := oW (key := key) (xs := xs) (k := i) (by omega) hlo (by rw [hij']; exact hhi)
    refine cL ?_
    refine dD ?_
    refine cY ?_
    refine eM ?_
    refine aF (aG (aB ?_))
    refine aA (aC (.int _ _) rfl) rfl rfl ?_
    refine aA (aC (.int _ _) rfl) rfl rfl ?_
    refine aA (aC (.int _ _) rfl) rfl rfl ?_
    refine aA (aO (.bool (decide _)) rfl rfl rfl) rfl rfl ?_
    refine aA (aC (.bool (decide _)) rfl) rfl rfl ?_
    refine dN 39 rfl (fun g39 => ?_) (fun g39 => ?_)
    · obtain ⟨xi, hxi⟩ := cN (k := i) hlen (by omega)
      refine aA (aC (.func _ _ _) rfl) rfl rfl ?_
      refine aA (aC (.slice _ _ _) rfl) rfl rfl ?_
      refine aA (aC (.int _ _) rfl) rfl rfl ?_
      refine aA (bO (i) dG rfl rfl rfl ((R.mem hM1).below_len (aL aI hxi)) ((R.mem hM1).someK (aL aI hxi))) rfl rfl ?_
      refine aA (dK _ bX (R.mem hM1) (aL aI hxi) rfl) rfl rfl ?_
      refine aA (aC (.int _ _) rfl) rfl rfl ?_
      refine aK aOd rfl rfl rfl ?_
      refine (uQ _ xi key).mono ?_
      rintro _ w3 ⟨v3, rfl, ⟨rfl, hb3⟩⟩
      refine ⟨_, rfl, ?_⟩
      have M3 := hM1.callB hb3
      refine aA (aO (.bool (decide _)) rfl rfl rfl) rfl rfl ?_
      refine aA (bL true (.bool (decide _)) rfl rfl) rfl rfl ?_
      refine aA (aD (.int _ _) rfl) rfl rfl ?_
      refine aA (aD (.bool (decide _)) rfl) rfl rfl ?_
      refine aE (aF (aR ?_))
      refine fI (.int _ _) (.bool (decide _)) rfl rfl ?_
      exact ⟨rV (iE (by rw [hless])) (bD (aJe hs hxi hlo (by rw [hij']; exact hhi))), M3.below⟩
    · refine aT rfl rfl ?_
      refine aT rfl rfl ?_
      refine aT rfl rfl ?_
      refine aT rfl rfl ?_
      refine aT rfl rfl ?_
      refine aT rfl rfl ?_
      refine aT rfl rfl ?_
      refine aT rfl rfl ?_
      refine aA (bL false (.bool false) rfl rfl) rfl rfl ?_
      refine aA (aD (.int _ _) rfl) rfl rfl ?_
      refine aA (aD (.bool false) rfl) rfl rfl ?_
      refine aE (aF (aR ?_))
      refine fI (.int _ _) (.bool false) rfl rfl ?_
      exact ⟨rV (iE (by rw [hless])) (bF (aDi fun p c hp hc => hlo p c (by omega) hc)), hM1.below⟩
set_option maxHeartbeats 4000000 in
theorem nG (w : World) (key : Int) (A : Option Addr) (n c : Nat) (xs : List Body) (R : Rd w 10 A n (xs.map aI)) (hs : bM xs) :
    Calls Tryz.prog 109 #[.slice A n c, .int .u32 key] w (fun ex w' => ∃ v, ex = .returned v ∧ (fun v w' => v = .tuple #[.int .i64 (rP key xs : Int), .bool (decide (0 ≤ cG key xs))] ∧ Below w.heap.size w w') v w') := by
  refine aJ #[.tmp 4, .tmp 5] 11 Tryz.func109 rfl Tryz.results109 Tryz.ntmps109 rfl ?_
  have M0 := Mem.refl w
  refine aG (aB ?_)
  refine aA (aD (.int _ _) rfl) rfl rfl ?_
  refine aA (aD (.bool false) rfl) rfl rfl ?_
  refine aE (aF (aG (aB ?_)))
  refine aA (aC (.slice _ _ _) rfl) rfl rfl ?_
  refine aA (aC (.int _ _) rfl) rfl rfl ?_
  refine aK aVe rfl rfl rfl ?_
  refine (mV _ key _ _ _ xs (R.mem M0) hs).mono ?_
  rintro _ w1 ⟨v1, rfl, ⟨rfl, hb1⟩⟩
  refine ⟨_, rfl, ?_⟩
  have M1 := M0.callB hb1
  refine aA (bC (.int _ _) rfl rfl) rfl rfl ?_
  refine aA (bC (.bool (decide _)) rfl rfl) rfl rfl ?_
  refine aA (aD (.int _ _) rfl) rfl rfl ?_
  refine aA (aD (.bool (decide _)) rfl) rfl rfl ?_
  refine aE (aF (aR ?_))
  refine fI (.int _ _) (.bool (decide _)) rfl rfl ?_
  exact ⟨rfl, M1.below⟩
end Go.Proofs.YtlmcphcgiclanaaGreatDoor
