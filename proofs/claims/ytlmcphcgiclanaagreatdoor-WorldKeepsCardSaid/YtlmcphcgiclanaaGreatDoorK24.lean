/- Part of the proof of the laws of this seat: Aw, V7. No conditions. -/
import Derived.Test.YtlmcphcgiclanaaGreatDoorK5
import Derived.Test.YtlmcphcgiclanaaGreatDoorK22
import Derived.Test.YtlmcphcgiclanaaGreatDoorK23
import Derived.Test.YtlmcphcgiclanaaGreatDoorK6
set_option linter.unusedVariables false
set_option linter.unusedSimpArgs false
set_option linter.unnecessarySimpa false
namespace Go.Proofs.YtlmcphcgiclanaaGreatDoor
open Go.Bil
open Go.RowKit (Below)
open Go.Proofs
end Go.Proofs.YtlmcphcgiclanaaGreatDoor

namespace Go.Proofs.YtlmcphcgiclanaaGreatDoor
open Go.Bil
open Go.RowKit (Below)
open Go.Proofs
set_option maxHeartbeats 4000000 in
theorem aOb (w : World) (A : Option Addr) (n c : Nat) (xs : List Body) (R : Rd w 10 A n (xs.map aI)) :
    Calls Tryz.prog 129 #[.slice A n c] w (fun ex w' => ∃ v, ex = .returned v ∧ (fun v w' => v = .int .i64 (nK xs) ∧ Below w.heap.size w w') v w') := by
  have hlen : xs.length = n := by simpa using R.len
  have hbd := R.bound
  refine aJ #[.tmp 2] 21 Tryz.func129 rfl Tryz.results129 Tryz.ntmps129 rfl ?_
  have M0 := Mem.refl w
  refine aG (aB ?_)
  refine aA (aE (.int _ _) rfl) rfl rfl ?_
  refine aC (aF (aG (aG (aB ?_))))
  refine aA (aD (.slice _ _ _) rfl) rfl rfl ?_
  refine aA (cT Tryz.underlying22 rfl) rfl rfl ?_
  refine aA (aP (.bool (decide _)) rfl rfl rfl) rfl rfl ?_
  refine aC (aF ?_)
  refine aZ rfl (fun h8 => ?_) (fun h8 => ?_)
  · refine aG (aB ?_)
    refine aA (aE (.int _ _) rfl) rfl rfl ?_
    refine aC (aF (aR (cC ?_)))
    refine bY (.int _ _) rfl ?_
    exact ⟨iE (by unfold nK; rw [if_pos (by omega)]), M0.below⟩
  · refine aN (aF (aG (aG (aB ?_))))
    refine aA (aD (.slice _ _ _) rfl) rfl rfl ?_
    refine aA (cT Tryz.underlying22 rfl) rfl rfl ?_
    refine aA (aD (.int _ _) rfl) rfl rfl ?_
    refine aC (aF (aV ?_))
    refine dK (σ := Nat) [9, 10] (fun k => [(11, .int .i64 (k : Int))]) (fun k w' => (k ≤ n ∧ ∀ (j : Nat) (c : Body), j < k → xs[j]? = some c → check c = 0) ∧ Mem w [] [] w') (fun k => n - k) 0 (bK rfl eO) (⟨⟨by omega, fun j c hj => by omega⟩, M0⟩) ?_
    rintro k ρ1 w1 ⟨⟨hk, hok⟩, hM1⟩
    refine aG (aB ?_)
    refine aA (aP (.bool (decide _)) rfl rfl rfl) rfl rfl ?_
    refine aC (aF (aG ?_))
    refine aZ rfl (fun h12 => ?_) (fun h12 => ?_)
    · obtain ⟨xb, hxb⟩ := cL (k := k) hlen (by omega)
      refine aN (aF (aG (aV (aG (aB ?_)))))
      refine aA (bU (k) dO rfl rfl rfl ((R.mem hM1).below_len (aL aI hxb)) ((R.mem hM1).someK (aL aI hxb))) rfl rfl ?_
      refine aA (dS _ bO (R.mem hM1) (aL aI hxb) rfl) rfl rfl ?_
      refine aW gL hM1 rfl rfl (fun b2 w2 M2 => ?_)
      refine bH 0 _ bO M2 rfl rfl rfl rfl rfl (aY rfl) rfl (fun w3 M3 => ?_)
      refine aC (aF (aG (aB ?_)))
      refine aA (bE 0 bO M3 rfl rfl rfl) rfl rfl ?_
      refine aK aQs rfl rfl rfl ?_
      refine (qK _ xb).mono ?_
      rintro _ w4 ⟨v4, rfl, ⟨rfl, hb4⟩⟩
      refine ⟨_, rfl, ?_⟩
      have M4 := M3.callB hb4
      refine aA (aE (.int _ _) rfl) rfl rfl ?_
      refine aC (aF (aG (aB ?_)))
      refine aA (aD (.int _ _) rfl) rfl rfl ?_
      refine aA (aP (.bool (decide _)) rfl rfl rfl) rfl rfl ?_
      refine aC (aF ?_)
      refine aZ rfl (fun h18 => ?_) (fun h18 => ?_)
      · refine aG (aB ?_)
        refine aA (aD (.int _ _) rfl) rfl rfl ?_
        refine aA (aE (.int _ _) rfl) rfl rfl ?_
        refine aC (aF (aR ?_))
        refine jW ?_
        refine cC ?_
        refine yD ?_
        refine jW ?_
        refine cC ?_
        refine bY (.int _ _) rfl ?_
        exact ⟨iE (by unfold nK; rw [if_neg (by omega), tW hxb h18 hok]), M4.below⟩
      · refine aN ?_
        refine dB ?_
        refine aF (aB ?_)
        refine aA (bM rfl rfl (by omega) (by omega)) rfl rfl ?_
        refine aA (aD (.int _ _) rfl) rfl rfl ?_
        refine aC ?_
        refine cO (k + 1) (bK rfl eO) (cS rfl (cS rfl jB)) ?_ ?_
        · exact ⟨⟨by omega, uY (p := fun _ c => check c = 0) hok hxb (by omega)⟩, M4.keep [false]⟩
        · omega
    · refine cP ?_
      refine dA ?_
      refine cZ ?_
      refine eQ ?_
      refine aF (aG (aB ?_))
      refine aA (aE (.int _ _) rfl) rfl rfl ?_
      refine aC (aF (aR ?_))
      refine bY (.int _ _) rfl ?_
      exact ⟨iE (by unfold nK; rw [if_neg (by omega), lZ (fun j c hj => hok j c (by have := (List.getElem?_eq_some_iff.1 hj).1; omega) hj)]), hM1.below⟩
theorem aWc {xs : List Body} {k : Nat} {a b : Body} (h : ∀ (j : Nat) (x y : Body), j < k → xs[j]? = some x → xs[j + 1]? = some y → x.key < y.key) (ha : xs[k]? = some a) (hb : xs[k + 1]? = some b) (hab : a.key < b.key) :
    ∀ (j : Nat) (x y : Body), j < k + 1 → xs[j]? = some x → xs[j + 1]? = some y → x.key < y.key := by
  intro j x y hj hx hy
  by_cases e : j = k
  · subst e
    rw [ha] at hx
    rw [hb] at hy
    injection hx with hx
    injection hy with hy
    subst hx
    subst hy
    exact hab
  · exact h j x y (by omega) hx hy
set_option maxHeartbeats 4000000 in
theorem xH (w : World) (A : Option Addr) (n c : Nat) (xs : List Body) (R : Rd w 10 A n (xs.map aI)) :
    Calls Tryz.prog 99 #[.slice A n c] w (fun ex w' => ∃ v, ex = .returned v ∧ (fun v w' => v = .int .i64 (gG xs) ∧ Below w.heap.size w w') v w') := by
  have hlen : xs.length = n := by simpa using R.len
  have hbd := R.bound
  refine aJ #[.tmp 2] 28 Tryz.func99 rfl Tryz.results99 Tryz.ntmps99 rfl ?_
  have M0 := Mem.refl w
  refine aG (aB ?_)
  refine aA (aE (.int _ _) rfl) rfl rfl ?_
  refine aC (aF (aG (aG (aB ?_))))
  refine aA (aD (.slice _ _ _) rfl) rfl rfl ?_
  refine aK bBe rfl rfl rfl ?_
  refine (aOb _ _ _ _ xs (R.mem M0)).mono ?_
  rintro _ w1 ⟨v1, rfl, ⟨rfl, hb1⟩⟩
  refine ⟨_, rfl, ?_⟩
  have M1 := M0.callB hb1
  refine aA (aE (.int _ _) rfl) rfl rfl ?_
  refine aC (aF (aG (aB ?_)))
  refine aA (aD (.int _ _) rfl) rfl rfl ?_
  refine aA (aP (.bool (decide _)) rfl rfl rfl) rfl rfl ?_
  refine aC (aF ?_)
  refine aZ rfl (fun h8 => ?_) (fun h8 => ?_)
  · refine aG (aB ?_)
    refine aA (aD (.int _ _) rfl) rfl rfl ?_
    refine aA (aE (.int _ _) rfl) rfl rfl ?_
    refine aC (aF (aR (cC ?_)))
    refine bY (.int _ _) rfl ?_
    exact ⟨iE (by unfold gG; rw [if_pos h8]), M1.below⟩
  · refine aN (aF (aG (aG (aB ?_))))
    refine aA (aE (.int _ _) rfl) rfl rfl ?_
    refine aC (aF (aV ?_))
    refine dK (σ := Nat) [0] (fun k => [(4, .int .i64 ((k + 1 : Nat) : Int))]) (fun k w' => ((k + 1 ≤ n ∨ k = 0) ∧ ∀ (j : Nat) (x y : Body), j < k → xs[j]? = some x → xs[j + 1]? = some y → x.key < y.key) ∧ Mem w [] [] w') (fun k => n - k) 0 (bK rfl eO) (⟨⟨.inr rfl, fun j x y hj => by omega⟩, M1⟩) ?_
    rintro k ρ2 w2 ⟨⟨hk, hadj⟩, hM2⟩
    refine aG (aG (aB ?_))
    refine aA (aD (.int _ _) rfl) rfl rfl ?_
    refine aA (aD (.slice _ _ _) rfl) rfl rfl ?_
    refine aA (cT Tryz.underlying22 rfl) rfl rfl ?_
    refine aA (aP (.bool (decide _)) rfl rfl rfl) rfl rfl ?_
    refine aC (aF ?_)
    refine aZ rfl (fun h13 => ?_) (fun h13 => ?_)
    · obtain ⟨xa, hxa⟩ := cL (k := k) hlen (by omega)
      obtain ⟨xb, hxb⟩ := cL (k := k + 1) hlen (by omega)
      refine aN (aF (aG (aV (aG ?_))))
      refine bS [(0, 0), (1, 0), (2, 0), (3, 1), (4, 1), (5, 1), (6, 0), (7, 0), (8, 1), (9, 1), (10, 1), (11, 0)] mixed rfl (by kernel_rfl) (fun w3 hb3 hh3 => ?_)
      have M3 := hM2.drew hb3 hh3
      refine aU rfl rfl rfl (fun _ => aD (.slice _ _ _) rfl) ?_
      refine aU rfl rfl rfl (fun _ => aD (.int _ _) rfl) ?_
      refine aU rfl rfl rfl (fun _ => mL rfl rfl (by omega) (by omega)) ?_
      refine cB rfl rfl rfl (bU (k) dO rfl rfl (by omega) ((R.mem M3).below_len (aL aI hxa)) ((R.mem M3).someK (aL aI hxa))) ?_
      refine cB rfl rfl rfl (bP 0 dJ (R.mem M3) (Nat.lt_of_le_of_lt (Nat.zero_le _) ((R.mem M3).below_len (aL aI hxa))) rfl) ?_
      refine cB rfl rfl rfl (eH (o := 0) (.int _ _) bR (R.mem M3) (aL aI hxa) rfl rfl) ?_
      refine aU rfl rfl rfl (fun _ => aD (.slice _ _ _) rfl) ?_
      refine aU rfl rfl rfl (fun _ => aD (.int _ _) rfl) ?_
      refine cB rfl rfl rfl (bU (k + 1) dO rfl rfl rfl ((R.mem M3).below_len (aL aI hxb)) ((R.mem M3).someK (aL aI hxb))) ?_
      refine cB rfl rfl rfl (bP 0 dJ (R.mem M3) (Nat.lt_of_le_of_lt (Nat.zero_le _) ((R.mem M3).below_len (aL aI hxb))) rfl) ?_
      refine cB rfl rfl rfl (eH (o := 0) (.int _ _) bR (R.mem M3) (aL aI hxb) rfl rfl) ?_
      refine aU rfl rfl rfl (fun _ => aP (.bool (decide _)) rfl rfl rfl) ?_
      refine cF ?_
      refine aF ?_
      refine aZ rfl (fun h27 => ?_) (fun h27 => ?_)
      · refine aG (aB ?_)
        refine aA (aE (.int _ _) rfl) rfl rfl ?_
        refine aC (aF (aR ?_))
        refine jW ?_
        refine cC ?_
        refine yD ?_
        refine jW ?_
        refine cC ?_
        refine bY (.int _ _) rfl ?_
        exact ⟨iE (by unfold gG; rw [if_neg h8, if_neg (by rw [aIu hxa hxb (by omega)]; decide)]), M3.below⟩
      · refine aN ?_
        refine dB ?_
        refine aF (aB ?_)
        refine aA (aD (.int _ _) rfl) rfl rfl ?_
        refine aA (bM rfl rfl (by omega) (by omega)) rfl rfl ?_
        refine aA (aE (.int _ _) rfl) rfl rfl ?_
        refine aC ?_
        refine cO (k + 1) (bK rfl eO) (cS rfl jB) ?_ ?_
        · exact ⟨⟨.inl (by omega), aWc hadj hxa hxb (by omega)⟩, M3⟩
        · omega
    · refine cP ?_
      refine dA ?_
      refine cZ ?_
      refine eQ ?_
      refine aF (aG (aB ?_))
      refine aA (aE (.int _ _) rfl) rfl rfl ?_
      refine aC (aF (aR ?_))
      refine bY (.int _ _) rfl ?_
      exact ⟨iE (by unfold gG; rw [if_neg h8, if_pos (sL fun i x y hx hy => hadj i x y (by have := (List.getElem?_eq_some_iff.1 hy).1; omega) hx hy)]), hM2.below⟩
set_option maxHeartbeats 4000000 in
theorem xZ (w : World) (b : Body) (key : Int) :
    Calls Tryz.prog 140 #[(.agg (aI b).toArray), .int .u32 key] w (fun ex w' => ∃ v, ex = .returned v ∧ (fun v w' => v = .int .i64 (kW b.key key) ∧ Below w.heap.size w w') v w') := by
  refine aJ #[.tmp 4] 9 Tryz.func140 rfl Tryz.results140 Tryz.ntmps140 rfl ?_
  have M0 := Mem.refl w
  refine aG (aB ?_)
  refine bL (.agg (List.toArray _)) M0 rfl rfl rfl (fun b1 w1 M1 => ?_)
  refine aA (aE (.int _ _) rfl) rfl rfl ?_
  refine aC (aF (aG (aB ?_)))
  refine aA (aH 0 dJ rfl) rfl rfl ?_
  refine aA (aQ 0 (.int _ _) bR M1 rfl rfl rfl) rfl rfl ?_
  refine aA (aD (.int _ _) rfl) rfl rfl ?_
  refine aK aKt rfl rfl rfl ?_
  refine (jQ _ _ _).mono ?_
  rintro _ w2 ⟨v2, rfl, ⟨rfl, rfl⟩⟩
  refine ⟨_, rfl, ?_⟩
  have M2 : Mem _ _ [_] _ := M1
  refine aA (aE (.int _ _) rfl) rfl rfl ?_
  refine aC (aF (aR ?_))
  refine bY (.int _ _) rfl ?_
  exact ⟨rfl, M2.below⟩
set_option maxHeartbeats 4000000 in
theorem oQ (w : World) (key : Int) (A : Option Addr) (n c : Nat) (xs : List Body) (R : Rd w 10 A n (xs.map aI)) (hs : bW xs) :
    Calls Tryz.prog 139 #[.slice A n c, .int .u32 key, .func (.func 140) #[] #[]] w (fun ex w' => ∃ v, ex = .returned v ∧ (fun v w' => v = .tuple #[.int .i64 (tI key xs : Int), .bool (decide (0 ≤ cE key xs))] ∧ Below w.heap.size w w') v w') := by
  have hlen : xs.length = n := by simpa using R.len
  have hbd := R.bound
  refine aJ #[.tmp 6, .tmp 7] 49 Tryz.func139 rfl Tryz.results139 Tryz.ntmps139 rfl ?_
  have M0 := Mem.refl w
  refine aG (aB ?_)
  refine aA (aE (.int _ _) rfl) rfl rfl ?_
  refine aA (aE (.bool false) rfl) rfl rfl ?_
  refine aC (aF (aG (aB ?_)))
  refine aA (aD (.slice _ _ _) rfl) rfl rfl ?_
  refine aA (cT Tryz.underlying22 rfl) rfl rfl ?_
  refine aA (aE (.int _ _) rfl) rfl rfl ?_
  refine aC (aF (aG (aB ?_)))
  refine aA (aD (.int _ _) rfl) rfl rfl ?_
  refine aA (aE (.int _ _) rfl) rfl rfl ?_
  refine aA (aE (.int _ _) rfl) rfl rfl ?_
  refine aC (aF (aG (aV ?_)))
  refine dK (σ := Nat × Nat) [0, 1, 2, 6, 7, 8] (fun (i, j) => [(9, .int .i64 (i : Int)), (10, .int .i64 (j : Int))]) (fun (i, j) w' => (i ≤ j ∧ j ≤ n ∧ (∀ (p : Nat) (c : Body), p < i → xs[p]? = some c → c.key < key) ∧ ∀ (p : Nat) (c : Body), j ≤ p → xs[p]? = some c → ¬ c.key < key) ∧ Mem w [] [] w') (fun (i, j) => j - i) (0, n) (bK rfl (bK rfl eO)) (⟨⟨by omega, by omega, fun p c h => by omega, fun p c h hc => by have := (List.getElem?_eq_some_iff.1 hc).1; omega⟩, M0⟩) ?_
  rintro ⟨i, j⟩ ρ1 w1 ⟨⟨hij, hjn, hlo, hhi⟩, hM1⟩
  refine aG (aG (aB ?_))
  refine aA (aD (.int _ _) rfl) rfl rfl ?_
  refine aA (aD (.int _ _) rfl) rfl rfl ?_
  refine aA (aP (.bool (decide _)) rfl rfl rfl) rfl rfl ?_
  refine aC (aF ?_)
  refine aZ rfl (fun h17 => ?_) (fun h17 => ?_)
  · obtain ⟨xb, hxb⟩ := cL (k := (i + j) / 2) hlen (by omega)
    refine aN (aF (aV (aG (aB ?_))))
    refine aA (aD (.int _ _) rfl) rfl rfl ?_
    refine aA (aD (.int _ _) rfl) rfl rfl ?_
    refine aA (bM rfl rfl (by omega) (by omega)) rfl rfl ?_
    refine aA (bV us3 Tryz.underlying136 rfl (gZ _ (by omega) (by omega))) rfl rfl ?_
    refine aA (gA rfl rfl (by decide)) rfl rfl ?_
    refine aM 22 (.int .u64 (((i + j) / 2 : Nat) : Int)) (iE (bEn i j)) ?_
    refine aA (bV bCk Tryz.underlying3 rfl (jY _ (by omega) (by omega))) rfl rfl ?_
    refine aA (aE (.int _ _) rfl) rfl rfl ?_
    refine aC (aF (aG (aB ?_)))
    refine aA (aD (.func _ _ _) rfl) rfl rfl ?_
    refine aA (aD (.slice _ _ _) rfl) rfl rfl ?_
    refine aA (aD (.int _ _) rfl) rfl rfl ?_
    refine aA (bU ((i + j) / 2) dO rfl rfl rfl ((R.mem hM1).below_len (aL aI hxb)) ((R.mem hM1).someK (aL aI hxb))) rfl rfl ?_
    refine aA (dS _ bO (R.mem hM1) (aL aI hxb) rfl) rfl rfl ?_
    refine aA (aD (.int _ _) rfl) rfl rfl ?_
    refine aK aQt rfl rfl rfl ?_
    refine (xZ _ xb key).mono ?_
    rintro _ w2 ⟨v2, rfl, ⟨rfl, hb2⟩⟩
    refine ⟨_, rfl, ?_⟩
    have M2 := hM1.callB hb2
    refine aA (aP (.bool (decide _)) rfl rfl rfl) rfl rfl ?_
    refine aC (aF ?_)
    refine aZ rfl (fun h31 => ?_) (fun h31 => ?_)
    · refine aB ?_
      refine aA (aD (.int _ _) rfl) rfl rfl ?_
      refine aA (bM rfl rfl (by omega) (by omega)) rfl rfl ?_
      refine aA (aE (.int _ _) rfl) rfl rfl ?_
      refine aC ?_
      refine dB ?_
      refine cO ((i + j) / 2 + 1, j) (bK rfl (bK rfl eO)) (cS rfl (cS rfl (cS rfl (cS rfl (cS rfl (cS rfl jB)))))) ?_ ?_
      · exact ⟨⟨by omega, hjn, fun p c hp hc => by have := tQ hs (show p ≤ (i + j) / 2 by omega) hc hxb; have := rM.1 h31; omega, hhi⟩, M2⟩
      · (show j - ((i + j) / 2 + 1) < j - i; omega)
    · refine aB ?_
      refine aA (aD (.int _ _) rfl) rfl rfl ?_
      refine aA (aE (.int _ _) rfl) rfl rfl ?_
      refine aC ?_
      refine dB ?_
      refine cO (i, (i + j) / 2) (bK rfl (bK rfl eO)) (cS rfl (cS rfl (cS rfl (cS rfl (cS rfl (cS rfl jB)))))) ?_ ?_
      · exact ⟨⟨by omega, by omega, hlo, fun p c hp hc => by have := tQ hs hp hxb hc; have := mt rM.2 h31; omega⟩, M2⟩
      · (show (i + j) / 2 - i < j - i; omega)
  · have hij' : i = j := by omega
    have hless := rY (key := key) (xs := xs) (k := i) (by omega) hlo (by rw [hij']; exact hhi)
    refine cP ?_
    refine dA ?_
    refine cZ ?_
    refine eQ ?_
    refine aF (aG (aB ?_))
    refine aA (aD (.int _ _) rfl) rfl rfl ?_
    refine aA (aD (.int _ _) rfl) rfl rfl ?_
    refine aA (aD (.int _ _) rfl) rfl rfl ?_
    refine aA (aP (.bool (decide _)) rfl rfl rfl) rfl rfl ?_
    refine aA (aD (.bool (decide _)) rfl) rfl rfl ?_
    refine cY 39 rfl (fun g39 => ?_) (fun g39 => ?_)
    · obtain ⟨xi, hxi⟩ := cL (k := i) hlen (by omega)
      refine aA (aD (.func _ _ _) rfl) rfl rfl ?_
      refine aA (aD (.slice _ _ _) rfl) rfl rfl ?_
      refine aA (aD (.int _ _) rfl) rfl rfl ?_
      refine aA (bU (i) dO rfl rfl rfl ((R.mem hM1).below_len (aL aI hxi)) ((R.mem hM1).someK (aL aI hxi))) rfl rfl ?_
      refine aA (dS _ bO (R.mem hM1) (aL aI hxi) rfl) rfl rfl ?_
      refine aA (aD (.int _ _) rfl) rfl rfl ?_
      refine aK aQt rfl rfl rfl ?_
      refine (xZ _ xi key).mono ?_
      rintro _ w3 ⟨v3, rfl, ⟨rfl, hb3⟩⟩
      refine ⟨_, rfl, ?_⟩
      have M3 := hM1.callB hb3
      refine aA (aP (.bool (decide _)) rfl rfl rfl) rfl rfl ?_
      refine aA (bN true (.bool (decide _)) rfl rfl) rfl rfl ?_
      refine aA (aE (.int _ _) rfl) rfl rfl ?_
      refine aA (aE (.bool (decide _)) rfl) rfl rfl ?_
      refine aC (aF (aR ?_))
      refine fZ (.int _ _) (.bool (decide _)) rfl rfl ?_
      exact ⟨zJ (iE (by rw [hless])) (bD (aLn hs hxi hlo (by rw [hij']; exact hhi))), M3.below⟩
    · refine aS rfl rfl ?_
      refine aS rfl rfl ?_
      refine aS rfl rfl ?_
      refine aS rfl rfl ?_
      refine aS rfl rfl ?_
      refine aS rfl rfl ?_
      refine aS rfl rfl ?_
      refine aS rfl rfl ?_
      refine aA (bN false (.bool false) rfl rfl) rfl rfl ?_
      refine aA (aE (.int _ _) rfl) rfl rfl ?_
      refine aA (aE (.bool false) rfl) rfl rfl ?_
      refine aC (aF (aR ?_))
      refine fZ (.int _ _) (.bool false) rfl rfl ?_
      exact ⟨zJ (iE (by rw [hless])) (bF (aJi fun p c hp hc => hlo p c (by omega) hc)), hM1.below⟩
set_option maxHeartbeats 4000000 in
theorem pH (w : World) (key : Int) (A : Option Addr) (n c : Nat) (xs : List Body) (R : Rd w 10 A n (xs.map aI)) (hs : bW xs) :
    Calls Tryz.prog 109 #[.slice A n c, .int .u32 key] w (fun ex w' => ∃ v, ex = .returned v ∧ (fun v w' => v = .tuple #[.int .i64 (tI key xs : Int), .bool (decide (0 ≤ cE key xs))] ∧ Below w.heap.size w w') v w') := by
  refine aJ #[.tmp 4, .tmp 5] 11 Tryz.func109 rfl Tryz.results109 Tryz.ntmps109 rfl ?_
  have M0 := Mem.refl w
  refine aG (aB ?_)
  refine aA (aE (.int _ _) rfl) rfl rfl ?_
  refine aA (aE (.bool false) rfl) rfl rfl ?_
  refine aC (aF (aG (aB ?_)))
  refine aA (aD (.slice _ _ _) rfl) rfl rfl ?_
  refine aA (aD (.int _ _) rfl) rfl rfl ?_
  refine aK bBa rfl rfl rfl ?_
  refine (oQ _ key _ _ _ xs (R.mem M0) hs).mono ?_
  rintro _ w1 ⟨v1, rfl, ⟨rfl, hb1⟩⟩
  refine ⟨_, rfl, ?_⟩
  have M1 := M0.callB hb1
  refine aA (bG (.int _ _) rfl rfl) rfl rfl ?_
  refine aA (bG (.bool (decide _)) rfl rfl) rfl rfl ?_
  refine aA (aE (.int _ _) rfl) rfl rfl ?_
  refine aA (aE (.bool (decide _)) rfl) rfl rfl ?_
  refine aC (aF (aR ?_))
  refine fZ (.int _ _) (.bool (decide _)) rfl rfl ?_
  exact ⟨rfl, M1.below⟩
end Go.Proofs.YtlmcphcgiclanaaGreatDoor
