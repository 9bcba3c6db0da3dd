/- Part of the proof of the laws of this seat: Aw, V7. No conditions. -/
import Derived.Test.YtlmcphcgiclanaaGreatDoorK5
import Derived.Test.YtlmcphcgiclanaaGreatDoorK22
import Derived.Test.YtlmcphcgiclanaaGreatDoorK23
import Derived.Test.YtlmcphcgiclanaaGreatDoorK6
set_option linter.unusedVariables false
set_option linter.unusedSimpArgs false
set_option linter.unnecessarySimpa false
namespace Go.Proofs.YtlmcphcgiclanaaGreatDoor
open Go.Bil
open Go.RowKit (Below)
open Go.Proofs
end Go.Proofs.YtlmcphcgiclanaaGreatDoor

namespace Go.Proofs.YtlmcphcgiclanaaGreatDoor
open Go.Bil
open Go.RowKit (Below)
open Go.Proofs
set_option maxHeartbeats 4000000 in
theorem tI (w : World) (A : Option Addr) (n c : Nat) (xs : List Body) (R : Rd w 10 A n (xs.map aI)) :
    Calls Tryz.prog 50 #[.slice A n c] w (fun ex w' => ∃ v, ex = .returned v ∧ (fun v w' => v = .int .i64 (gL xs) ∧ Below w.heap.size w w') v w') := by
  have hlen : xs.length = n := by simpa using R.len
  have hbd := R.bound
  refine aJ #[.tmp 2] 22 Tryz.func50 rfl Tryz.results50 Tryz.ntmps50 rfl ?_
  have M0 := Mem.refl w
  refine aG (aB ?_)
  refine aA (aD (.int _ _) rfl) rfl rfl ?_
  refine aE (aF (aG (aG (aB ?_))))
  refine aA (aC (.slice _ _ _) rfl) rfl rfl ?_
  refine aA (cS Tryz.underlying22 rfl) rfl rfl ?_
  refine aA (aO (.bool (decide _)) rfl rfl rfl) rfl rfl ?_
  refine aE (aF ?_)
  refine aY rfl (fun h7 => ?_) (fun h7 => ?_)
  · refine aG (aB ?_)
    refine aA (aD (.int _ _) rfl) rfl rfl ?_
    refine aE (aF (aR (cP ?_)))
    refine cI (.int _ _) rfl ?_
    exact ⟨iE (by unfold gL; rw [if_pos (by omega)]), M0.below⟩
  · refine aN (aF (aG (aG (aB ?_))))
    refine aA (aD (.int _ _) rfl) rfl rfl ?_
    refine aE (aF (bA ?_))
    refine dI (σ := Nat) [0] (fun k => [(3, .int .i64 (k : Int))]) (fun k w' => (k ≤ n ∧ ∀ (j : Nat) (c : Body), j < k → xs[j]? = some c → check c = 0) ∧ Mem w [] [] w') (fun k => n - k) 0 (bS rfl eV) (⟨⟨by omega, fun j c hj => by omega⟩, M0⟩) ?_
    rintro k ρ1 w1 ⟨⟨hk, hok⟩, hM1⟩
    refine aG (aG (aB ?_))
    refine aA (aC (.int _ _) rfl) rfl rfl ?_
    refine aA (aC (.slice _ _ _) rfl) rfl rfl ?_
    refine aA (cS Tryz.underlying22 rfl) rfl rfl ?_
    refine aA (aO (.bool (decide _)) rfl rfl rfl) rfl rfl ?_
    refine aE (aF ?_)
    refine aY rfl (fun h11 => ?_) (fun h11 => ?_)
    · obtain ⟨xb, hxb⟩ := cN (k := k) hlen (by omega)
      refine aN (aF (aG (bA (aG (aB ?_)))))
      refine aA (aC (.slice _ _ _) rfl) rfl rfl ?_
      refine aA (aC (.int _ _) rfl) rfl rfl ?_
      refine aA (bO (k) dD rfl rfl rfl ((R.mem hM1).below_len (aK aI hxb)) ((R.mem hM1).someK (aK aI hxb))) rfl rfl ?_
      refine aA (dO _ bW (R.mem hM1) (aK aI hxb) rfl) rfl rfl ?_
      refine aL aRr rfl rfl rfl ?_
      refine (rQ _ xb).mono ?_
      rintro _ w2 ⟨v2, rfl, ⟨rfl, hb2⟩⟩
      refine ⟨_, rfl, ?_⟩
      have M2 := hM1.callB hb2
      refine aA (aD (.int _ _) rfl) rfl rfl ?_
      refine aE (aF (aG (aB ?_)))
      refine aA (aC (.int _ _) rfl) rfl rfl ?_
      refine aA (aO (.bool (decide _)) rfl rfl rfl) rfl rfl ?_
      refine aE (aF ?_)
      refine aY rfl (fun h20 => ?_) (fun h20 => ?_)
      · refine aG (aB ?_)
        refine aA (aC (.int _ _) rfl) rfl rfl ?_
        refine aA (aD (.int _ _) rfl) rfl rfl ?_
        refine aE (aF (aR ?_))
        refine rS ?_
        refine cP ?_
        refine yZ ?_
        refine rS ?_
        refine cP ?_
        refine cI (.int _ _) rfl ?_
        exact ⟨iE (by unfold gL; rw [if_neg (by omega), qX hxb h20 hok]), M2.below⟩
      · refine aN ?_
        refine dJ ?_
        refine aF (aB ?_)
        refine aA (aC (.int _ _) rfl) rfl rfl ?_
        refine aA (bX rfl rfl (by omega) (by omega)) rfl rfl ?_
        refine aA (aD (.int _ _) rfl) rfl rfl ?_
        refine aE ?_
        refine cF (k + 1) (bS rfl eV) (cL rfl iI) ?_ ?_
        · exact ⟨⟨by omega, zH (p := fun _ c => check c = 0) hok hxb (by omega)⟩, M2⟩
        · omega
    · refine cK ?_
      refine dB ?_
      refine cY ?_
      refine eN ?_
      refine aF (aG (aB ?_))
      refine aA (aD (.int _ _) rfl) rfl rfl ?_
      refine aE (aF (aR ?_))
      refine cI (.int _ _) rfl ?_
      exact ⟨iE (by unfold gL; rw [if_neg (by omega), kI (fun j c hj => hok j c (by have := (List.getElem?_eq_some_iff.1 hj).1; omega) hj)]), hM1.below⟩
theorem aQc {xs : List Body} {k : Nat} {a b : Body} (h : ∀ (j : Nat) (x y : Body), j < k → xs[j]? = some x → xs[j + 1]? = some y → x.key < y.key) (ha : xs[k]? = some a) (hb : xs[k + 1]? = some b) (hab : a.key < b.key) :
    ∀ (j : Nat) (x y : Body), j < k + 1 → xs[j]? = some x → xs[j + 1]? = some y → x.key < y.key := by
  intro j x y hj hx hy
  by_cases e : j = k
  · subst e
    rw [ha] at hx
    rw [hb] at hy
    injection hx with hx
    injection hy with hy
    subst hx
    subst hy
    exact hab
  · exact h j x y (by omega) hx hy
set_option maxHeartbeats 4000000 in
theorem aBu (w : World) (A : Option Addr) (n c : Nat) (xs : List Body) (R : Rd w 10 A n (xs.map aI)) :
    Calls Tryz.prog 20 #[.slice A n c] w (fun ex w' => ∃ v, ex = .returned v ∧ (fun v w' => v = .int .i64 (oI xs) ∧ Below w.heap.size w w') v w') := by
  have hlen : xs.length = n := by simpa using R.len
  have hbd := R.bound
  refine aJ #[.tmp 2] 29 Tryz.func20 rfl Tryz.results20 Tryz.ntmps20 rfl ?_
  have M0 := Mem.refl w
  refine aG (aB ?_)
  refine aA (aD (.int _ _) rfl) rfl rfl ?_
  refine aE (aF (aG (aB ?_)))
  refine aA (aC (.slice _ _ _) rfl) rfl rfl ?_
  refine aL aRt rfl rfl rfl ?_
  refine (tI _ _ _ _ xs (R.mem M0)).mono ?_
  rintro _ w1 ⟨v1, rfl, ⟨rfl, hb1⟩⟩
  refine ⟨_, rfl, ?_⟩
  have M1 := M0.callB hb1
  refine aA (aD (.int _ _) rfl) rfl rfl ?_
  refine aE (aF (aG (aG (aB ?_))))
  refine aA (aC (.int _ _) rfl) rfl rfl ?_
  refine aA (aO (.bool (decide _)) rfl rfl rfl) rfl rfl ?_
  refine aE (aF ?_)
  refine aY rfl (fun h8 => ?_) (fun h8 => ?_)
  · refine aG (aB ?_)
    refine aA (aC (.int _ _) rfl) rfl rfl ?_
    refine aA (aD (.int _ _) rfl) rfl rfl ?_
    refine aE (aF (aR (cP ?_)))
    refine cI (.int _ _) rfl ?_
    exact ⟨iE (by unfold oI; rw [if_pos h8]), M1.below⟩
  · refine aN (aF (aG (aG (aB ?_))))
    refine aA (aD (.int _ _) rfl) rfl rfl ?_
    refine aE (aF (bA ?_))
    refine dI (σ := Nat) [0] (fun k => [(4, .int .i64 (k : Int))]) (fun k w' => ((k + 1 ≤ n ∨ k = 0) ∧ ∀ (j : Nat) (x y : Body), j < k → xs[j]? = some x → xs[j + 1]? = some y → x.key < y.key) ∧ Mem w [] [] w') (fun k => n - k) 0 (bS rfl eV) (⟨⟨.inr rfl, fun j x y hj => by omega⟩, M1⟩) ?_
    rintro k ρ2 w2 ⟨⟨hk, hadj⟩, hM2⟩
    refine aG (aG (aB ?_))
    refine aA (aC (.int _ _) rfl) rfl rfl ?_
    refine aA (bX rfl rfl (by omega) (by omega)) rfl rfl ?_
    refine aA (aC (.slice _ _ _) rfl) rfl rfl ?_
    refine aA (cS Tryz.underlying22 rfl) rfl rfl ?_
    refine aA (aO (.bool (decide _)) rfl rfl rfl) rfl rfl ?_
    refine aE (aF ?_)
    refine aY rfl (fun h14 => ?_) (fun h14 => ?_)
    · obtain ⟨xa, hxa⟩ := cN (k := k) hlen (by omega)
      obtain ⟨xb, hxb⟩ := cN (k := k + 1) hlen (by omega)
      refine aN (aF (aG (bA (aG ?_))))
      refine bZ [(0, 0), (1, 0), (2, 0), (3, 1), (4, 1), (5, 1), (6, 0), (7, 0), (8, 1), (9, 1), (10, 1), (11, 0)] mixed rfl (by kernel_rfl) (fun w3 hb3 hh3 => ?_)
      have M3 := hM2.drew hb3 hh3
      refine aW rfl rfl rfl (fun _ => aC (.slice _ _ _) rfl) ?_
      refine aW rfl rfl rfl (fun _ => aC (.int _ _) rfl) ?_
      refine aW rfl rfl rfl (fun _ => bX rfl rfl (by omega) (by omega)) ?_
      refine cB rfl rfl rfl (bO (k + 1) dD rfl rfl rfl ((R.mem M3).below_len (aK aI hxb)) ((R.mem M3).someK (aK aI hxb))) ?_
      refine cB rfl rfl rfl (bM 0 dR (R.mem M3) (Nat.lt_of_le_of_lt (Nat.zero_le _) ((R.mem M3).below_len (aK aI hxb))) rfl) ?_
      refine cB rfl rfl rfl (eI (o := 0) (.int _ _) cR (R.mem M3) (aK aI hxb) rfl rfl) ?_
      refine aW rfl rfl rfl (fun _ => aC (.slice _ _ _) rfl) ?_
      refine aW rfl rfl rfl (fun _ => aC (.int _ _) rfl) ?_
      refine cB rfl rfl rfl (bO (k) dD rfl rfl rfl ((R.mem M3).below_len (aK aI hxa)) ((R.mem M3).someK (aK aI hxa))) ?_
      refine cB rfl rfl rfl (bM 0 dR (R.mem M3) (Nat.lt_of_le_of_lt (Nat.zero_le _) ((R.mem M3).below_len (aK aI hxa))) rfl) ?_
      refine cB rfl rfl rfl (eI (o := 0) (.int _ _) cR (R.mem M3) (aK aI hxa) rfl rfl) ?_
      refine aW rfl rfl rfl (fun _ => aO (.bool (decide _)) rfl rfl rfl) ?_
      refine cE ?_
      refine aF ?_
      refine aY rfl (fun h28 => ?_) (fun h28 => ?_)
      · refine aG (aB ?_)
        refine aA (aD (.int _ _) rfl) rfl rfl ?_
        refine aE (aF (aR ?_))
        refine rS ?_
        refine cP ?_
        refine yZ ?_
        refine rS ?_
        refine cP ?_
        refine cI (.int _ _) rfl ?_
        exact ⟨iE (by unfold oI; rw [if_neg h8, if_neg (by rw [aCy hxa hxb (by omega)]; decide)]), M3.below⟩
      · refine aN ?_
        refine dJ ?_
        refine aF (aB ?_)
        refine aA (aC (.int _ _) rfl) rfl rfl ?_
        refine aA (bX rfl rfl (by omega) (by omega)) rfl rfl ?_
        refine aA (aD (.int _ _) rfl) rfl rfl ?_
        refine aE ?_
        refine cF (k + 1) (bS rfl eV) (cL rfl iI) ?_ ?_
        · exact ⟨⟨.inl (by omega), aQc hadj hxa hxb (by omega)⟩, M3⟩
        · omega
    · refine cK ?_
      refine dB ?_
      refine cY ?_
      refine eN ?_
      refine aF (aG (aB ?_))
      refine aA (aD (.int _ _) rfl) rfl rfl ?_
      refine aE (aF (aR ?_))
      refine cI (.int _ _) rfl ?_
      exact ⟨iE (by unfold oI; rw [if_neg h8, if_pos (qJ fun i x y hx hy => hadj i x y (by have := (List.getElem?_eq_some_iff.1 hy).1; omega) hx hy)]), hM2.below⟩
set_option maxHeartbeats 4000000 in
theorem aEk (w : World) (A : Option Addr) (n c : Nat) (xs : List Body) (R : Rd w 10 A n (xs.map aI)) (hn : n ≤ 1048576) :
    Calls Tryz.prog 39 #[.slice A n c] w (fun ex w' => ∃ v, ex = .returned v ∧ (fun v w' => ∃ A' n' c' e, v = .tuple #[.slice A' n' c', .int .i64 (iV xs).2] ∧ aX 40 10 A' n' c' ((iV xs).1.map aI) e ∧ Mem w [] [e] w') v w') := by
  have hlen : xs.length = n := by simpa using R.len
  have hbd := R.bound
  refine aJ #[.tmp 2, .tmp 3] 19 Tryz.func39 rfl Tryz.results39 Tryz.ntmps39 rfl ?_
  have M0 := Mem.refl w
  refine aG (aB ?_)
  refine aA (aD (.slice _ _ _) rfl) rfl rfl ?_
  refine aA (aD (.int _ _) rfl) rfl rfl ?_
  refine aE (aF (aG (aB ?_)))
  refine aA (aC (.slice _ _ _) rfl) rfl rfl ?_
  refine aL aRt rfl rfl rfl ?_
  refine (tI _ _ _ _ xs (R.mem M0)).mono ?_
  rintro _ w1 ⟨v1, rfl, ⟨rfl, hb1⟩⟩
  refine ⟨_, rfl, ?_⟩
  have M1 := M0.callB hb1
  refine aA (aD (.int _ _) rfl) rfl rfl ?_
  refine aE (aF (aG (aG (aB ?_))))
  refine aA (aC (.int _ _) rfl) rfl rfl ?_
  refine aA (aO (.bool (decide _)) rfl rfl rfl) rfl rfl ?_
  refine aE (aF ?_)
  refine aY rfl (fun h9 => ?_) (fun h9 => ?_)
  · refine aG (aB ?_)
    refine aA (aC (.int _ _) rfl) rfl rfl ?_
    refine aA (aD (.slice _ _ _) rfl) rfl rfl ?_
    refine aA (aD (.int _ _) rfl) rfl rfl ?_
    refine aE (aF (aR (cP ?_)))
    refine fG (.slice _ _ _) (.int _ _) rfl rfl ?_
    have ha : iV xs = ([], gL xs) := by unfold iV; rw [if_pos h9]
    exact ⟨_, _, _, (none, default), by rw [ha], by rw [ha]; exact aX.nil _ _ _, (M1.drop).dummy default⟩
  · have he : gL xs = 0 := by omega
    obtain ⟨hs1, hs2⟩ := aGm he
    refine aN (aF (aG (aB ?_)))
    refine aA (aC (.slice _ _ _) rfl) rfl rfl ?_
    refine aL aWt rfl rfl rfl ?_
    refine (aIk _ _ _ _ xs (R.mem M1) (by omega)).mono ?_
    rintro _ w2 ⟨v2, rfl, ⟨A2, n2, c2, e2, rfl, hR2, hM2⟩⟩
    refine ⟨_, rfl, ?_⟩
    have M2 : Mem _ _ [_] _ := M1.call0 hM2
    have hlw : (vP xs).length = n2 := by simpa using hR2.1
    refine aA (aD (.slice _ _ _) rfl) rfl rfl ?_
    refine aE (aF (aG (aG (aB ?_))))
    refine aA (aC (.slice _ _ _) rfl) rfl rfl ?_
    refine aA (cS Tryz.underlying22 rfl) rfl rfl ?_
    refine aA (aC (.slice _ _ _) rfl) rfl rfl ?_
    refine aA (cS Tryz.underlying22 rfl) rfl rfl ?_
    refine aA (aO (.bool (decide _)) rfl rfl rfl) rfl rfl ?_
    refine aE (aF ?_)
    refine aY rfl (fun h17 => ?_) (fun h17 => ?_)
    · refine aG (aB ?_)
      refine aA (aD (.slice _ _ _) rfl) rfl rfl ?_
      refine aA (aD (.int _ _) rfl) rfl rfl ?_
      refine aE (aF (aR (cP ?_)))
      refine fG (.slice _ _ _) (.int _ _) rfl rfl ?_
      have ha : iV xs = ([], 10) := by unfold iV; rw [if_neg (by omega), if_neg (hs2.1 (by omega))]
      exact ⟨_, _, _, (none, default), by rw [ha], by rw [ha]; exact aX.nil _ _ _, (M2.drop).dummy default⟩
    · refine aN (aF (aG (aB ?_)))
      refine aA (aC (.slice _ _ _) rfl) rfl rfl ?_
      refine aA (aD (.slice _ _ _) rfl) rfl rfl ?_
      refine aA (aD (.int _ _) rfl) rfl rfl ?_
      refine aE (aF (aR ?_))
      refine fG (.slice _ _ _) (.int _ _) rfl rfl ?_
      have hk : fR xs := Decidable.by_contra fun h => by have := hs2.2 h; omega
      have ha : iV xs = (jT xs, 0) := by unfold iV; rw [if_neg (by omega), if_pos hk]
      rw [hs1 hk] at *
      exact ⟨_, _, _, _, by rw [ha], by rw [ha]; exact hR2, M2⟩
set_option maxHeartbeats 4000000 in
theorem sR (w : World) (b : Body) (key : Int) :
    Calls Tryz.prog 140 #[(.agg (aI b).toArray), .int .u32 key] w (fun ex w' => ∃ v, ex = .returned v ∧ (fun v w' => v = .int .i64 (lZ b.key key) ∧ Below w.heap.size w w') v w') := by
  refine aJ #[.tmp 4] 9 Tryz.func140 rfl Tryz.results140 Tryz.ntmps140 rfl ?_
  have M0 := Mem.refl w
  refine aG (aB ?_)
  refine bK (.agg (List.toArray _)) M0 rfl rfl rfl (fun b1 w1 M1 => ?_)
  refine aA (aD (.int _ _) rfl) rfl rfl ?_
  refine aE (aF (aG (aB ?_)))
  refine aA (aH 0 dR rfl) rfl rfl ?_
  refine aA (aZ 0 (.int _ _) cR M1 rfl rfl rfl) rfl rfl ?_
  refine aA (aC (.int _ _) rfl) rfl rfl ?_
  refine aL aNe rfl rfl rfl ?_
  refine (kJ _ _ _).mono ?_
  rintro _ w2 ⟨v2, rfl, ⟨rfl, rfl⟩⟩
  refine ⟨_, rfl, ?_⟩
  have M2 : Mem _ _ [_] _ := M1
  refine aA (aD (.int _ _) rfl) rfl rfl ?_
  refine aE (aF (aR ?_))
  refine cI (.int _ _) rfl ?_
  exact ⟨rfl, M2.below⟩
set_option maxHeartbeats 4000000 in
theorem mS (w : World) (key : Int) (A : Option Addr) (n c : Nat) (xs : List Body) (R : Rd w 10 A n (xs.map aI)) (hs : bL xs) :
    Calls Tryz.prog 139 #[.slice A n c, .int .u32 key, .func (.func 140) #[] #[]] w (fun ex w' => ∃ v, ex = .returned v ∧ (fun v w' => v = .tuple #[.int .i64 (rH key xs : Int), .bool (decide (0 ≤ cG key xs))] ∧ Below w.heap.size w w') v w') := by
  have hlen : xs.length = n := by simpa using R.len
  have hbd := R.bound
  refine aJ #[.tmp 6, .tmp 7] 49 Tryz.func139 rfl Tryz.results139 Tryz.ntmps139 rfl ?_
  have M0 := Mem.refl w
  refine aG (aB ?_)
  refine aA (aD (.int _ _) rfl) rfl rfl ?_
  refine aA (aD (.bool false) rfl) rfl rfl ?_
  refine aE (aF (aG (aB ?_)))
  refine aA (aC (.slice _ _ _) rfl) rfl rfl ?_
  refine aA (cS Tryz.underlying22 rfl) rfl rfl ?_
  refine aA (aD (.int _ _) rfl) rfl rfl ?_
  refine aE (aF (aG (aB ?_)))
  refine aA (aC (.int _ _) rfl) rfl rfl ?_
  refine aA (aD (.int _ _) rfl) rfl rfl ?_
  refine aA (aD (.int _ _) rfl) rfl rfl ?_
  refine aE (aF (aG (bA ?_)))
  refine dI (σ := Nat × Nat) [0, 1, 2, 6, 7, 8] (fun (i, j) => [(9, .int .i64 (i : Int)), (10, .int .i64 (j : Int))]) (fun (i, j) w' => (i ≤ j ∧ j ≤ n ∧ (∀ (p : Nat) (c : Body), p < i → xs[p]? = some c → c.key < key) ∧ ∀ (p : Nat) (c : Body), j ≤ p → xs[p]? = some c → ¬ c.key < key) ∧ Mem w [] [] w') (fun (i, j) => j - i) (0, n) (bS rfl (bS rfl eV)) (⟨⟨by omega, by omega, fun p c h => by omega, fun p c h hc => by have := (List.getElem?_eq_some_iff.1 hc).1; omega⟩, M0⟩) ?_
  rintro ⟨i, j⟩ ρ1 w1 ⟨⟨hij, hjn, hlo, hhi⟩, hM1⟩
  refine aG (aG (aB ?_))
  refine aA (aC (.int _ _) rfl) rfl rfl ?_
  refine aA (aC (.int _ _) rfl) rfl rfl ?_
  refine aA (aO (.bool (decide _)) rfl rfl rfl) rfl rfl ?_
  refine aE (aF ?_)
  refine aY rfl (fun h17 => ?_) (fun h17 => ?_)
  · obtain ⟨xb, hxb⟩ := cN (k := (i + j) / 2) hlen (by omega)
    refine aN (aF (bA (aG (aB ?_))))
    refine aA (aC (.int _ _) rfl) rfl rfl ?_
    refine aA (aC (.int _ _) rfl) rfl rfl ?_
    refine aA (bX rfl rfl (by omega) (by omega)) rfl rfl ?_
    refine aA (bR us3 Tryz.underlying136 rfl (fV _ (by omega) (by omega))) rfl rfl ?_
    refine aA (gQ rfl rfl (by decide)) rfl rfl ?_
    refine aM 22 (.int .u64 (((i + j) / 2 : Nat) : Int)) (iE (aXm i j)) ?_
    refine aA (bR aWy Tryz.underlying3 rfl (jL _ (by omega) (by omega))) rfl rfl ?_
    refine aA (aD (.int _ _) rfl) rfl rfl ?_
    refine aE (aF (aG (aB ?_)))
    refine aA (aC (.func _ _ _) rfl) rfl rfl ?_
    refine aA (aC (.slice _ _ _) rfl) rfl rfl ?_
    refine aA (aC (.int _ _) rfl) rfl rfl ?_
    refine aA (bO ((i + j) / 2) dD rfl rfl rfl ((R.mem hM1).below_len (aK aI hxb)) ((R.mem hM1).someK (aK aI hxb))) rfl rfl ?_
    refine aA (dO _ bW (R.mem hM1) (aK aI hxb) rfl) rfl rfl ?_
    refine aA (aC (.int _ _) rfl) rfl rfl ?_
    refine aL aKw rfl rfl rfl ?_
    refine (sR _ xb key).mono ?_
    rintro _ w2 ⟨v2, rfl, ⟨rfl, hb2⟩⟩
    refine ⟨_, rfl, ?_⟩
    have M2 := hM1.callB hb2
    refine aA (aO (.bool (decide _)) rfl rfl rfl) rfl rfl ?_
    refine aE (aF ?_)
    refine aY rfl (fun h31 => ?_) (fun h31 => ?_)
    · refine aB ?_
      refine aA (aC (.int _ _) rfl) rfl rfl ?_
      refine aA (bX rfl rfl (by omega) (by omega)) rfl rfl ?_
      refine aA (aD (.int _ _) rfl) rfl rfl ?_
      refine aE ?_
      refine dJ ?_
      refine cF ((i + j) / 2 + 1, j) (bS rfl (bS rfl eV)) (cL rfl (cL rfl (cL rfl (cL rfl (cL rfl (cL rfl iI)))))) ?_ ?_
      · exact ⟨⟨by omega, hjn, fun p c hp hc => by have := qY hs (show p ≤ (i + j) / 2 by omega) hc hxb; have := zX.1 h31; omega, hhi⟩, M2⟩
      · (show j - ((i + j) / 2 + 1) < j - i; omega)
    · refine aB ?_
      refine aA (aC (.int _ _) rfl) rfl rfl ?_
      refine aA (aD (.int _ _) rfl) rfl rfl ?_
      refine aE ?_
      refine dJ ?_
      refine cF (i, (i + j) / 2) (bS rfl (bS rfl eV)) (cL rfl (cL rfl (cL rfl (cL rfl (cL rfl (cL rfl iI)))))) ?_ ?_
      · exact ⟨⟨by omega, by omega, hlo, fun p c hp hc => by have := qY hs hp hxb hc; have := mt zX.2 h31; omega⟩, M2⟩
      · (show (i + j) / 2 - i < j - i; omega)
  · have hij' : i = j := by omega
    have hless := pK (key := key) (xs := xs) (k := i) (by omega) hlo (by rw [hij']; exact hhi)
    refine cK ?_
    refine dB ?_
    refine cY ?_
    refine eN ?_
    refine aF (aG (aB ?_))
    refine aA (aC (.int _ _) rfl) rfl rfl ?_
    refine aA (aC (.int _ _) rfl) rfl rfl ?_
    refine aA (aC (.int _ _) rfl) rfl rfl ?_
    refine aA (aO (.bool (decide _)) rfl rfl rfl) rfl rfl ?_
    refine aA (aC (.bool (decide _)) rfl) rfl rfl ?_
    refine dK 39 rfl (fun g39 => ?_) (fun g39 => ?_)
    · obtain ⟨xi, hxi⟩ := cN (k := i) hlen (by omega)
      refine aA (aC (.func _ _ _) rfl) rfl rfl ?_
      refine aA (aC (.slice _ _ _) rfl) rfl rfl ?_
      refine aA (aC (.int _ _) rfl) rfl rfl ?_
      refine aA (bO (i) dD rfl rfl rfl ((R.mem hM1).below_len (aK aI hxi)) ((R.mem hM1).someK (aK aI hxi))) rfl rfl ?_
      refine aA (dO _ bW (R.mem hM1) (aK aI hxi) rfl) rfl rfl ?_
      refine aA (aC (.int _ _) rfl) rfl rfl ?_
      refine aL aKw rfl rfl rfl ?_
      refine (sR _ xi key).mono ?_
      rintro _ w3 ⟨v3, rfl, ⟨rfl, hb3⟩⟩
      refine ⟨_, rfl, ?_⟩
      have M3 := hM1.callB hb3
      refine aA (aO (.bool (decide _)) rfl rfl rfl) rfl rfl ?_
      refine aA (bP true (.bool (decide _)) rfl rfl) rfl rfl ?_
      refine aA (aD (.int _ _) rfl) rfl rfl ?_
      refine aA (aD (.bool (decide _)) rfl) rfl rfl ?_
      refine aE (aF (aR ?_))
      refine fG (.int _ _) (.bool (decide _)) rfl rfl ?_
      exact ⟨rV (iE (by rw [hless])) (bD (aGw hs hxi hlo (by rw [hij']; exact hhi))), M3.below⟩
    · refine aT rfl rfl ?_
      refine aT rfl rfl ?_
      refine aT rfl rfl ?_
      refine aT rfl rfl ?_
      refine aT rfl rfl ?_
      refine aT rfl rfl ?_
      refine aT rfl rfl ?_
      refine aT rfl rfl ?_
      refine aA (bP false (.bool false) rfl rfl) rfl rfl ?_
      refine aA (aD (.int _ _) rfl) rfl rfl ?_
      refine aA (aD (.bool false) rfl) rfl rfl ?_
      refine aE (aF (aR ?_))
      refine fG (.int _ _) (.bool false) rfl rfl ?_
      exact ⟨rV (iE (by rw [hless])) (bF (aEq fun p c hp hc => hlo p c (by omega) hc)), hM1.below⟩
set_option maxHeartbeats 4000000 in
theorem nA (w : World) (key : Int) (A : Option Addr) (n c : Nat) (xs : List Body) (R : Rd w 10 A n (xs.map aI)) (hs : bL xs) :
    Calls Tryz.prog 109 #[.slice A n c, .int .u32 key] w (fun ex w' => ∃ v, ex = .returned v ∧ (fun v w' => v = .tuple #[.int .i64 (rH key xs : Int), .bool (decide (0 ≤ cG key xs))] ∧ Below w.heap.size w w') v w') := by
  refine aJ #[.tmp 4, .tmp 5] 11 Tryz.func109 rfl Tryz.results109 Tryz.ntmps109 rfl ?_
  have M0 := Mem.refl w
  refine aG (aB ?_)
  refine aA (aD (.int _ _) rfl) rfl rfl ?_
  refine aA (aD (.bool false) rfl) rfl rfl ?_
  refine aE (aF (aG (aB ?_)))
  refine aA (aC (.slice _ _ _) rfl) rfl rfl ?_
  refine aA (aC (.int _ _) rfl) rfl rfl ?_
  refine aL aTm rfl rfl rfl ?_
  refine (mS _ key _ _ _ xs (R.mem M0) hs).mono ?_
  rintro _ w1 ⟨v1, rfl, ⟨rfl, hb1⟩⟩
  refine ⟨_, rfl, ?_⟩
  have M1 := M0.callB hb1
  refine aA (bE (.int _ _) rfl rfl) rfl rfl ?_
  refine aA (bE (.bool (decide _)) rfl rfl) rfl rfl ?_
  refine aA (aD (.int _ _) rfl) rfl rfl ?_
  refine aA (aD (.bool (decide _)) rfl) rfl rfl ?_
  refine aE (aF (aR ?_))
  refine fG (.int _ _) (.bool (decide _)) rfl rfl ?_
  exact ⟨rfl, M1.below⟩
end Go.Proofs.YtlmcphcgiclanaaGreatDoor
