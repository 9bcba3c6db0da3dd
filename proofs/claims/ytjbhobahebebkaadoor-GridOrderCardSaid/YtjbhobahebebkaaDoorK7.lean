/- Part of the proof of the laws of this seat: MdW. No conditions. -/
import Derived.Test.YtjbhobahebebkaaDoorK6
import Derived.Lib.BitFns
import Derived.Lib.Mul64
/- Plain laws of wide arithmetic: long division by halves of words, square roots digit by digit, floors. -/
set_option linter.unusedVariables false
set_option linter.unusedSimpArgs false
namespace Go.Bil
theorem wrU (x : Int) : IntKind.wrap .u64 x = x % 18446744073709551616 := by simp [IntKind.wrap, IntKind.bits, IntKind.signed]
/-! ### What the machine's operations on words are -/
theorem fdivN (a b : Nat) : (a : Int).fdiv (b : Int) = ((a / b : Nat) : Int) := by rw [Int.fdiv_eq_ediv_of_nonneg _ (by omega)]; rfl
theorem u_shr (a n : Nat) (k : Int) (hk : k = (n : Int)) (hn : n ≤ 64) : (a : Int).fdiv (2 ^ (min k.toNat (IntKind.bits .u64))) = ((a / 2 ^ n : Nat) : Int) := by
  subst hk
  rw [show min ((n : Int).toNat) (IntKind.bits .u64) = n by rw [show IntKind.bits .u64 = 64 from rfl]; omega, show ((2 : Int) ^ n) = ((2 ^ n : Nat) : Int) by simp, fdivN]
theorem u_shl (a n : Nat) (k : Int) (hk : k = (n : Int)) (hn : n ≤ 64) : IntKind.wrap .u64 ((a : Int) * 2 ^ (min k.toNat (IntKind.bits .u64))) = ((a * 2 ^ n % 18446744073709551616 : Nat) : Int) := by
  subst hk
  rw [show min ((n : Int).toNat) (IntKind.bits .u64) = n by rw [show IntKind.bits .u64 = 64 from rfl]; omega, show ((2 : Int) ^ n) = ((2 ^ n : Nat) : Int) by simp, wrU]
  rw [← Int.natCast_mul]; rfl
theorem u_shlK (a n : Nat) (k : Int) (hk : k = (n : Int)) (hn : n ≤ 64) (h : a * 2 ^ n < 18446744073709551616) : IntKind.wrap .u64 ((a : Int) * 2 ^ (min k.toNat (IntKind.bits .u64))) = ((a * 2 ^ n : Nat) : Int) := by
  rw [u_shl a n k hk hn, Nat.mod_eq_of_lt h]
/-! ### Square roots -/
def isq : Nat → Nat
  | 0 => 0
  | n + 1 => if (isq n + 1) * (isq n + 1) ≤ n + 1 then isq n + 1 else isq n
/-! ### Vectors -/
def lsq (dx dy : Int) : Nat := dx.natAbs * dx.natAbs + dy.natAbs * dy.natAbs
def InD (d : Int) : Prop := -2181038080 ≤ d ∧ d ≤ 2181038080
theorem lsq_lt {dx dy : Int} (hx : InD dx) (hy : InD dy) : lsq dx dy < 18446744073709551616 ∧ dx.natAbs * dx.natAbs ≤ 4756927106410086400 ∧ dy.natAbs * dy.natAbs ≤ 4756927106410086400 := by
  unfold InD at hx hy
  have h1 : dx.natAbs * dx.natAbs ≤ 2181038080 * 2181038080 := Nat.mul_le_mul (by omega) (by omega)
  have h2 : dy.natAbs * dy.natAbs ≤ 2181038080 * 2181038080 := Nat.mul_le_mul (by omega) (by omega)
  unfold lsq
  exact ⟨by omega, by omega, by omega⟩
/-- The floor as Go computes it. -/
theorem floor_trunc {a b : Int} (hb : 0 < b) : (a.tmod b < 0 → a.tdiv b - 1 = a / b) ∧ (¬ a.tmod b < 0 → a.tdiv b = a / b) := by
  have h := Int.tdiv_eq_ediv (a := a) (b := b)
  have hm := Int.tmod_eq_emod (a := a) (b := b)
  have e := Int.emod_nonneg a (show b ≠ 0 by omega)
  have l := Int.emod_lt_of_pos a hb
  have hs : b.sign = 1 := Int.sign_eq_one_of_pos hb
  have hn : (b.natAbs : Int) = b := by omega
  by_cases hc : 0 ≤ a ∨ b ∣ a
  · rw [if_pos hc] at h hm
    exact ⟨fun h' => by omega, fun _ => by omega⟩
  · rw [if_neg hc] at h hm
    rw [hs] at h
    refine ⟨fun _ => by omega, fun h' => ?_⟩
    omega
/-- The unit vector. -/
def len (dx dy : Int) : Int := (isq (lsq dx dy) : Int)
structure I32 (v : Int × Int) : Prop where
  x : -2147483648 ≤ v.1 ∧ v.1 ≤ 2147483647
  y : -2147483648 ≤ v.2 ∧ v.2 ≤ 2147483647
theorem tdiv_small (a b : Int) : (a.tdiv b).natAbs ≤ a.natAbs := by rw [Int.natAbs_tdiv]; exact Nat.div_le_self _ _
end Go.Bil
