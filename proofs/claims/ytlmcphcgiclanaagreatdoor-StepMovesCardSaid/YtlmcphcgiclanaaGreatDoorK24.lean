/- Part of the proof of the laws of this seat: Aw, V7. No conditions. -/
import Derived.Test.YtlmcphcgiclanaaGreatDoorK5
import Derived.Test.YtlmcphcgiclanaaGreatDoorK22
import Derived.Test.YtlmcphcgiclanaaGreatDoorK23
import Derived.Test.YtlmcphcgiclanaaGreatDoorK6
set_option linter.unusedVariables false
set_option linter.unusedSimpArgs false
set_option linter.unnecessarySimpa false
namespace Go.Proofs.YtlmcphcgiclanaaGreatDoor
open Go.Bil
open Go.RowKit (Below)
open Go.Proofs
end Go.Proofs.YtlmcphcgiclanaaGreatDoor

namespace Go.Proofs.YtlmcphcgiclanaaGreatDoor
open Go.Bil
open Go.RowKit (Below)
open Go.Proofs
set_option maxHeartbeats 4000000 in
theorem aEn (w : World) (A : Option Addr) (n c : Nat) (xs : List Body) (R : Rd w 10 A n (xs.map aI)) :
    Calls Tryz.prog 50 #[.slice A n c] w (fun ex w' => ∃ v, ex = .returned v ∧ (fun v w' => v = .int .i64 (iO xs) ∧ Below w.heap.size w w') v w') := by
  have hlen : xs.length = n := by simpa using R.len
  have hbd := R.bound
  refine aJ #[.tmp 2] 22 Tryz.func50 rfl Tryz.results50 Tryz.ntmps50 rfl ?_
  have M0 := Mem.refl w
  refine aG (aB ?_)
  refine aA (aD (.int _ _) rfl) rfl rfl ?_
  refine aE (aF (aG (aG (aB ?_))))
  refine aA (aC (.slice _ _ _) rfl) rfl rfl ?_
  refine aA (cS Tryz.underlying22 rfl) rfl rfl ?_
  refine aA (aO (.bool (decide _)) rfl rfl rfl) rfl rfl ?_
  refine aE (aF ?_)
  refine aZ rfl (fun h7 => ?_) (fun h7 => ?_)
  · refine aG (aB ?_)
    refine aA (aD (.int _ _) rfl) rfl rfl ?_
    refine aE (aF (aQ (cC ?_)))
    refine cJ (.int _ _) rfl ?_
    exact ⟨iE (by unfold iO; rw [if_pos (by omega)]), M0.below⟩
  · refine aM (aF (aG (aG (aB ?_))))
    refine aA (aD (.int _ _) rfl) rfl rfl ?_
    refine aE (aF (bB ?_))
    refine dM (σ := Nat) [0] (fun k => [(3, .int .i64 (k : Int))]) (fun k w' => (k ≤ n ∧ ∀ (j : Nat) (c : Body), j < k → xs[j]? = some c → check c = 0) ∧ Mem w [] [] w') (fun k => n - k) 0 (bS rfl fC) (⟨⟨by omega, fun j c hj => by omega⟩, M0⟩) ?_
    rintro k ρ1 w1 ⟨⟨hk, hok⟩, hM1⟩
    refine aG (aG (aB ?_))
    refine aA (aC (.int _ _) rfl) rfl rfl ?_
    refine aA (aC (.slice _ _ _) rfl) rfl rfl ?_
    refine aA (cS Tryz.underlying22 rfl) rfl rfl ?_
    refine aA (aO (.bool (decide _)) rfl rfl rfl) rfl rfl ?_
    refine aE (aF ?_)
    refine aZ rfl (fun h11 => ?_) (fun h11 => ?_)
    · obtain ⟨xb, hxb⟩ := cQ (k := k) hlen (by omega)
      refine aM (aF (aG (bB (aG (aB ?_)))))
      refine aA (aC (.slice _ _ _) rfl) rfl rfl ?_
      refine aA (aC (.int _ _) rfl) rfl rfl ?_
      refine aA (bQ (k) dD rfl rfl rfl ((R.mem hM1).below_len (aK aI hxb)) ((R.mem hM1).someK (aK aI hxb))) rfl rfl ?_
      refine aA (dO _ bW (R.mem hM1) (aK aI hxb) rfl) rfl rfl ?_
      refine aL aSt rfl rfl rfl ?_
      refine (rW _ xb).mono ?_
      rintro _ w2 ⟨v2, rfl, ⟨rfl, hb2⟩⟩
      refine ⟨_, rfl, ?_⟩
      have M2 := hM1.callB hb2
      refine aA (aD (.int _ _) rfl) rfl rfl ?_
      refine aE (aF (aG (aB ?_)))
      refine aA (aC (.int _ _) rfl) rfl rfl ?_
      refine aA (aO (.bool (decide _)) rfl rfl rfl) rfl rfl ?_
      refine aE (aF ?_)
      refine aZ rfl (fun h20 => ?_) (fun h20 => ?_)
      · refine aG (aB ?_)
        refine aA (aC (.int _ _) rfl) rfl rfl ?_
        refine aA (aD (.int _ _) rfl) rfl rfl ?_
        refine aE (aF (aQ ?_))
        refine lI ?_
        refine cC ?_
        refine nG ?_
        refine lI ?_
        refine cC ?_
        refine cJ (.int _ _) rfl ?_
        exact ⟨iE (by unfold iO; rw [if_neg (by omega), rU hxb h20 hok]), M2.below⟩
      · refine aM ?_
        refine dN ?_
        refine aF (aB ?_)
        refine aA (aC (.int _ _) rfl) rfl rfl ?_
        refine aA (bX rfl rfl (by omega) (by omega)) rfl rfl ?_
        refine aA (aD (.int _ _) rfl) rfl rfl ?_
        refine aE ?_
        refine cH (k + 1) (bS rfl fC) (cN rfl iS) ?_ ?_
        · exact ⟨⟨by omega, pX (p := fun _ c => check c = 0) hok hxb (by omega)⟩, M2⟩
        · omega
    · refine cM ?_
      refine dG ?_
      refine cZ ?_
      refine eP ?_
      refine aF (aG (aB ?_))
      refine aA (aD (.int _ _) rfl) rfl rfl ?_
      refine aE (aF (aQ ?_))
      refine cJ (.int _ _) rfl ?_
      exact ⟨iE (by unfold iO; rw [if_neg (by omega), kU (fun j c hj => hok j c (by have := (List.getElem?_eq_some_iff.1 hj).1; omega) hj)]), hM1.below⟩
set_option maxHeartbeats 4000000 in
theorem aDx (w : World) (A : Option Addr) (n c : Nat) (xs : List Body) (R : Rd w 10 A n (xs.map aI)) (hn : n ≤ 1048576) :
    Calls Tryz.prog 39 #[.slice A n c] w (fun ex w' => ∃ v, ex = .returned v ∧ (fun v w' => ∃ A' n' c' e, v = .tuple #[.slice A' n' c', .int .i64 (jJ xs).2] ∧ aX 40 10 A' n' c' ((jJ xs).1.map aI) e ∧ Mem w [] [e] w') v w') := by
  have hlen : xs.length = n := by simpa using R.len
  have hbd := R.bound
  refine aJ #[.tmp 2, .tmp 3] 19 Tryz.func39 rfl Tryz.results39 Tryz.ntmps39 rfl ?_
  have M0 := Mem.refl w
  refine aG (aB ?_)
  refine aA (aD (.slice _ _ _) rfl) rfl rfl ?_
  refine aA (aD (.int _ _) rfl) rfl rfl ?_
  refine aE (aF (aG (aB ?_)))
  refine aA (aC (.slice _ _ _) rfl) rfl rfl ?_
  refine aL aXi rfl rfl rfl ?_
  refine (aEn _ _ _ _ xs (R.mem M0)).mono ?_
  rintro _ w1 ⟨v1, rfl, ⟨rfl, hb1⟩⟩
  refine ⟨_, rfl, ?_⟩
  have M1 := M0.callB hb1
  refine aA (aD (.int _ _) rfl) rfl rfl ?_
  refine aE (aF (aG (aG (aB ?_))))
  refine aA (aC (.int _ _) rfl) rfl rfl ?_
  refine aA (aO (.bool (decide _)) rfl rfl rfl) rfl rfl ?_
  refine aE (aF ?_)
  refine aZ rfl (fun h9 => ?_) (fun h9 => ?_)
  · refine aG (aB ?_)
    refine aA (aC (.int _ _) rfl) rfl rfl ?_
    refine aA (aD (.slice _ _ _) rfl) rfl rfl ?_
    refine aA (aD (.int _ _) rfl) rfl rfl ?_
    refine aE (aF (aQ (cC ?_)))
    refine eN (.slice _ _ _) (.int _ _) rfl rfl ?_
    have ha : jJ xs = ([], iO xs) := by unfold jJ; rw [if_pos h9]
    exact ⟨_, _, _, (none, default), by rw [ha], by rw [ha]; exact aX.nil _ _ _, (M1.drop).dummy default⟩
  · have he : iO xs = 0 := by omega
    obtain ⟨hs1, hs2⟩ := aKc he
    refine aM (aF (aG (aB ?_)))
    refine aA (aC (.slice _ _ _) rfl) rfl rfl ?_
    refine aL aXf rfl rfl rfl ?_
    refine (aJa _ _ _ _ xs (R.mem M1) (by omega)).mono ?_
    rintro _ w2 ⟨v2, rfl, ⟨A2, n2, c2, e2, rfl, hR2, hM2⟩⟩
    refine ⟨_, rfl, ?_⟩
    have M2 : Mem _ _ [_] _ := M1.call0 hM2
    have hlw : (vW xs).length = n2 := by simpa using hR2.1
    refine aA (aD (.slice _ _ _) rfl) rfl rfl ?_
    refine aE (aF (aG (aG (aB ?_))))
    refine aA (aC (.slice _ _ _) rfl) rfl rfl ?_
    refine aA (cS Tryz.underlying22 rfl) rfl rfl ?_
    refine aA (aC (.slice _ _ _) rfl) rfl rfl ?_
    refine aA (cS Tryz.underlying22 rfl) rfl rfl ?_
    refine aA (aO (.bool (decide _)) rfl rfl rfl) rfl rfl ?_
    refine aE (aF ?_)
    refine aZ rfl (fun h17 => ?_) (fun h17 => ?_)
    · refine aG (aB ?_)
      refine aA (aD (.slice _ _ _) rfl) rfl rfl ?_
      refine aA (aD (.int _ _) rfl) rfl rfl ?_
      refine aE (aF (aQ (cC ?_)))
      refine eN (.slice _ _ _) (.int _ _) rfl rfl ?_
      have ha : jJ xs = ([], 10) := by unfold jJ; rw [if_neg (by omega), if_neg (hs2.1 (by omega))]
      exact ⟨_, _, _, (none, default), by rw [ha], by rw [ha]; exact aX.nil _ _ _, (M2.drop).dummy default⟩
    · refine aM (aF (aG (aB ?_)))
      refine aA (aC (.slice _ _ _) rfl) rfl rfl ?_
      refine aA (aD (.slice _ _ _) rfl) rfl rfl ?_
      refine aA (aD (.int _ _) rfl) rfl rfl ?_
      refine aE (aF (aQ ?_))
      refine eN (.slice _ _ _) (.int _ _) rfl rfl ?_
      have hk : fR xs := Decidable.by_contra fun h => by have := hs2.2 h; omega
      have ha : jJ xs = (kB xs, 0) := by unfold jJ; rw [if_neg (by omega), if_pos hk]
      rw [hs1 hk] at *
      exact ⟨_, _, _, _, by rw [ha], by rw [ha]; exact hR2, M2⟩
set_option maxHeartbeats 4000000 in
theorem tR (w : World) (b : Body) (key : Int) :
    Calls Tryz.prog 140 #[(.agg (aI b).toArray), .int .u32 key] w (fun ex w' => ∃ v, ex = .returned v ∧ (fun v w' => v = .int .i64 (mO b.key key) ∧ Below w.heap.size w w') v w') := by
  refine aJ #[.tmp 4] 9 Tryz.func140 rfl Tryz.results140 Tryz.ntmps140 rfl ?_
  have M0 := Mem.refl w
  refine aG (aB ?_)
  refine bL (.agg (List.toArray _)) M0 rfl rfl rfl (fun b1 w1 M1 => ?_)
  refine aA (aD (.int _ _) rfl) rfl rfl ?_
  refine aE (aF (aG (aB ?_)))
  refine aA (aH 0 dZ rfl) rfl rfl ?_
  refine aA (aY 0 (.int _ _) cX M1 rfl rfl rfl) rfl rfl ?_
  refine aA (aC (.int _ _) rfl) rfl rfl ?_
  refine aL aLx rfl rfl rfl ?_
  refine (kY _ _ _).mono ?_
  rintro _ w2 ⟨v2, rfl, ⟨rfl, rfl⟩⟩
  refine ⟨_, rfl, ?_⟩
  have M2 : Mem _ _ [_] _ := M1
  refine aA (aD (.int _ _) rfl) rfl rfl ?_
  refine aE (aF (aQ ?_))
  refine cJ (.int _ _) rfl ?_
  exact ⟨rfl, M2.below⟩
set_option maxHeartbeats 4000000 in
theorem nD (w : World) (key : Int) (A : Option Addr) (n c : Nat) (xs : List Body) (R : Rd w 10 A n (xs.map aI)) (hs : bK xs) :
    Calls Tryz.prog 139 #[.slice A n c, .int .u32 key, .func (.func 140) #[] #[]] w (fun ex w' => ∃ v, ex = .returned v ∧ (fun v w' => v = .tuple #[.int .i64 (sB key xs : Int), .bool (decide (0 ≤ cD key xs))] ∧ Below w.heap.size w w') v w') := by
  have hlen : xs.length = n := by simpa using R.len
  have hbd := R.bound
  refine aJ #[.tmp 6, .tmp 7] 49 Tryz.func139 rfl Tryz.results139 Tryz.ntmps139 rfl ?_
  have M0 := Mem.refl w
  refine aG (aB ?_)
  refine aA (aD (.int _ _) rfl) rfl rfl ?_
  refine aA (aD (.bool false) rfl) rfl rfl ?_
  refine aE (aF (aG (aB ?_)))
  refine aA (aC (.slice _ _ _) rfl) rfl rfl ?_
  refine aA (cS Tryz.underlying22 rfl) rfl rfl ?_
  refine aA (aD (.int _ _) rfl) rfl rfl ?_
  refine aE (aF (aG (aB ?_)))
  refine aA (aC (.int _ _) rfl) rfl rfl ?_
  refine aA (aD (.int _ _) rfl) rfl rfl ?_
  refine aA (aD (.int _ _) rfl) rfl rfl ?_
  refine aE (aF (aG (bB ?_)))
  refine dM (σ := Nat × Nat) [0, 1, 2, 6, 7, 8] (fun (i, j) => [(9, .int .i64 (i : Int)), (10, .int .i64 (j : Int))]) (fun (i, j) w' => (i ≤ j ∧ j ≤ n ∧ (∀ (p : Nat) (c : Body), p < i → xs[p]? = some c → c.key < key) ∧ ∀ (p : Nat) (c : Body), j ≤ p → xs[p]? = some c → ¬ c.key < key) ∧ Mem w [] [] w') (fun (i, j) => j - i) (0, n) (bS rfl (bS rfl fC)) (⟨⟨by omega, by omega, fun p c h => by omega, fun p c h hc => by have := (List.getElem?_eq_some_iff.1 hc).1; omega⟩, M0⟩) ?_
  rintro ⟨i, j⟩ ρ1 w1 ⟨⟨hij, hjn, hlo, hhi⟩, hM1⟩
  refine aG (aG (aB ?_))
  refine aA (aC (.int _ _) rfl) rfl rfl ?_
  refine aA (aC (.int _ _) rfl) rfl rfl ?_
  refine aA (aO (.bool (decide _)) rfl rfl rfl) rfl rfl ?_
  refine aE (aF ?_)
  refine aZ rfl (fun h17 => ?_) (fun h17 => ?_)
  · obtain ⟨xb, hxb⟩ := cQ (k := (i + j) / 2) hlen (by omega)
    refine aM (aF (bB (aG (aB ?_))))
    refine aA (aC (.int _ _) rfl) rfl rfl ?_
    refine aA (aC (.int _ _) rfl) rfl rfl ?_
    refine aA (bX rfl rfl (by omega) (by omega)) rfl rfl ?_
    refine aA (bP us3 Tryz.underlying136 rfl (fX _ (by omega) (by omega))) rfl rfl ?_
    refine aA (gT rfl rfl (by decide)) rfl rfl ?_
    refine aN 22 (.int .u64 (((i + j) / 2 : Nat) : Int)) (iE (aYm i j)) ?_
    refine aA (bP aWp Tryz.underlying3 rfl (jB _ (by omega) (by omega))) rfl rfl ?_
    refine aA (aD (.int _ _) rfl) rfl rfl ?_
    refine aE (aF (aG (aB ?_)))
    refine aA (aC (.func _ _ _) rfl) rfl rfl ?_
    refine aA (aC (.slice _ _ _) rfl) rfl rfl ?_
    refine aA (aC (.int _ _) rfl) rfl rfl ?_
    refine aA (bQ ((i + j) / 2) dD rfl rfl rfl ((R.mem hM1).below_len (aK aI hxb)) ((R.mem hM1).someK (aK aI hxb))) rfl rfl ?_
    refine aA (dO _ bW (R.mem hM1) (aK aI hxb) rfl) rfl rfl ?_
    refine aA (aC (.int _ _) rfl) rfl rfl ?_
    refine aL aNn rfl rfl rfl ?_
    refine (tR _ xb key).mono ?_
    rintro _ w2 ⟨v2, rfl, ⟨rfl, hb2⟩⟩
    refine ⟨_, rfl, ?_⟩
    have M2 := hM1.callB hb2
    refine aA (aO (.bool (decide _)) rfl rfl rfl) rfl rfl ?_
    refine aE (aF ?_)
    refine aZ rfl (fun h31 => ?_) (fun h31 => ?_)
    · refine aB ?_
      refine aA (aC (.int _ _) rfl) rfl rfl ?_
      refine aA (bX rfl rfl (by omega) (by omega)) rfl rfl ?_
      refine aA (aD (.int _ _) rfl) rfl rfl ?_
      refine aE ?_
      refine dN ?_
      refine cH ((i + j) / 2 + 1, j) (bS rfl (bS rfl fC)) (cN rfl (cN rfl (cN rfl (cN rfl (cN rfl (cN rfl iS)))))) ?_ ?_
      · exact ⟨⟨by omega, hjn, fun p c hp hc => by have := sJ hs (show p ≤ (i + j) / 2 by omega) hc hxb; have := aAw.1 h31; omega, hhi⟩, M2⟩
      · (show j - ((i + j) / 2 + 1) < j - i; omega)
    · refine aB ?_
      refine aA (aC (.int _ _) rfl) rfl rfl ?_
      refine aA (aD (.int _ _) rfl) rfl rfl ?_
      refine aE ?_
      refine dN ?_
      refine cH (i, (i + j) / 2) (bS rfl (bS rfl fC)) (cN rfl (cN rfl (cN rfl (cN rfl (cN rfl (cN rfl iS)))))) ?_ ?_
      · exact ⟨⟨by omega, by omega, hlo, fun p c hp hc => by have := sJ hs hp hxb hc; have := mt aAw.2 h31; omega⟩, M2⟩
      · (show (i + j) / 2 - i < j - i; omega)
  · have hij' : i = j := by omega
    have hless := pN (key := key) (xs := xs) (k := i) (by omega) hlo (by rw [hij']; exact hhi)
    refine cM ?_
    refine dG ?_
    refine cZ ?_
    refine eP ?_
    refine aF (aG (aB ?_))
    refine aA (aC (.int _ _) rfl) rfl rfl ?_
    refine aA (aC (.int _ _) rfl) rfl rfl ?_
    refine aA (aC (.int _ _) rfl) rfl rfl ?_
    refine aA (aO (.bool (decide _)) rfl rfl rfl) rfl rfl ?_
    refine aA (aC (.bool (decide _)) rfl) rfl rfl ?_
    refine dC 39 rfl (fun g39 => ?_) (fun g39 => ?_)
    · obtain ⟨xi, hxi⟩ := cQ (k := i) hlen (by omega)
      refine aA (aC (.func _ _ _) rfl) rfl rfl ?_
      refine aA (aC (.slice _ _ _) rfl) rfl rfl ?_
      refine aA (aC (.int _ _) rfl) rfl rfl ?_
      refine aA (bQ (i) dD rfl rfl rfl ((R.mem hM1).below_len (aK aI hxi)) ((R.mem hM1).someK (aK aI hxi))) rfl rfl ?_
      refine aA (dO _ bW (R.mem hM1) (aK aI hxi) rfl) rfl rfl ?_
      refine aA (aC (.int _ _) rfl) rfl rfl ?_
      refine aL aNn rfl rfl rfl ?_
      refine (tR _ xi key).mono ?_
      rintro _ w3 ⟨v3, rfl, ⟨rfl, hb3⟩⟩
      refine ⟨_, rfl, ?_⟩
      have M3 := hM1.callB hb3
      refine aA (aO (.bool (decide _)) rfl rfl rfl) rfl rfl ?_
      refine aA (bM true (.bool (decide _)) rfl rfl) rfl rfl ?_
      refine aA (aD (.int _ _) rfl) rfl rfl ?_
      refine aA (aD (.bool (decide _)) rfl) rfl rfl ?_
      refine aE (aF (aQ ?_))
      refine eN (.int _ _) (.bool (decide _)) rfl rfl ?_
      exact ⟨sQ (iE (by rw [hless])) (bD (aHu hs hxi hlo (by rw [hij']; exact hhi))), M3.below⟩
    · refine aP rfl rfl ?_
      refine aP rfl rfl ?_
      refine aP rfl rfl ?_
      refine aP rfl rfl ?_
      refine aP rfl rfl ?_
      refine aP rfl rfl ?_
      refine aP rfl rfl ?_
      refine aP rfl rfl ?_
      refine aA (bM false (.bool false) rfl rfl) rfl rfl ?_
      refine aA (aD (.int _ _) rfl) rfl rfl ?_
      refine aA (aD (.bool false) rfl) rfl rfl ?_
      refine aE (aF (aQ ?_))
      refine eN (.int _ _) (.bool false) rfl rfl ?_
      exact ⟨sQ (iE (by rw [hless])) (bF (aEg fun p c hp hc => hlo p c (by omega) hc)), hM1.below⟩
set_option maxHeartbeats 4000000 in
theorem oA (w : World) (key : Int) (A : Option Addr) (n c : Nat) (xs : List Body) (R : Rd w 10 A n (xs.map aI)) (hs : bK xs) :
    Calls Tryz.prog 109 #[.slice A n c, .int .u32 key] w (fun ex w' => ∃ v, ex = .returned v ∧ (fun v w' => v = .tuple #[.int .i64 (sB key xs : Int), .bool (decide (0 ≤ cD key xs))] ∧ Below w.heap.size w w') v w') := by
  refine aJ #[.tmp 4, .tmp 5] 11 Tryz.func109 rfl Tryz.results109 Tryz.ntmps109 rfl ?_
  have M0 := Mem.refl w
  refine aG (aB ?_)
  refine aA (aD (.int _ _) rfl) rfl rfl ?_
  refine aA (aD (.bool false) rfl) rfl rfl ?_
  refine aE (aF (aG (aB ?_)))
  refine aA (aC (.slice _ _ _) rfl) rfl rfl ?_
  refine aA (aC (.int _ _) rfl) rfl rfl ?_
  refine aL aVb rfl rfl rfl ?_
  refine (nD _ key _ _ _ xs (R.mem M0) hs).mono ?_
  rintro _ w1 ⟨v1, rfl, ⟨rfl, hb1⟩⟩
  refine ⟨_, rfl, ?_⟩
  have M1 := M0.callB hb1
  refine aA (bC (.int _ _) rfl rfl) rfl rfl ?_
  refine aA (bC (.bool (decide _)) rfl rfl) rfl rfl ?_
  refine aA (aD (.int _ _) rfl) rfl rfl ?_
  refine aA (aD (.bool (decide _)) rfl) rfl rfl ?_
  refine aE (aF (aQ ?_))
  refine eN (.int _ _) (.bool (decide _)) rfl rfl ?_
  exact ⟨rfl, M1.below⟩
end Go.Proofs.YtlmcphcgiclanaaGreatDoor
