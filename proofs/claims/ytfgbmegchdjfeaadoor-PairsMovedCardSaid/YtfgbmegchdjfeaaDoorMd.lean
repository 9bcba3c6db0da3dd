/- The plain side: bodies as data, and what the references compute. No program in sight. -/
import Derived.Test.YtfgbmegchdjfeaaDoorFwH
set_option linter.unusedVariables false
namespace Go.Bil

structure Body where
  key : Int
  radius : Int
  ax : Int
  ay : Int
  mass : Int
  bounce : Int
  px : Int
  py : Int
  vx : Int
  vy : Int
  deriving DecidableEq

instance : Inhabited Body := ⟨⟨0, 0, 0, 0, 0, 0, 0, 0, 0, 0⟩⟩
def bodyCells (b : Body) : List Value := [.int .u32 b.key, .int .i32 b.radius, .int .i32 b.ax, .int .i32 b.ay, .int .i32 b.mass, .int .i32 b.bounce, .int .i32 b.px, .int .i32 b.py, .int .i32 b.vx, .int .i32 b.vy]
theorem body_ext {a b : Body} : a = b ↔ (a.key = b.key ∧ a.radius = b.radius ∧ a.ax = b.ax ∧ a.ay = b.ay ∧ a.mass = b.mass ∧ a.bounce = b.bounce ∧ a.px = b.px ∧ a.py = b.py ∧ a.vx = b.vx ∧ a.vy = b.vy) := by
  cases a; cases b; simp
theorem bodyCells_len (b : Body) : (bodyCells b).length = 10 := rfl
theorem bodyCells_one (b : Body) : ∀ u ∈ bodyCells b, one u = true := by simp [bodyCells, one]

def inR (n limit : Int) : Prop := -limit ≤ n ∧ n ≤ limit
instance (n limit : Int) : Decidable (inR n limit) := by unfold inR; infer_instance
/-- What a body's check answers. -/
def check (b : Body) : Int :=
  if b.radius < 4096 ∨ b.radius > 4194304 then 4
  else if ¬ (inR b.ax 4194304 ∧ inR b.ay 4194304) then 5
  else if b.mass < 0 ∨ b.mass > 1048576 then 6
  else if b.bounce < 0 ∨ b.bounce > 65536 then 7
  else if ¬ (inR b.px 1073741824 ∧ inR b.py 1073741824) then 8
  else if ¬ (inR b.vx 16777216 ∧ inR b.vy 16777216) then 9
  else 0
theorem check_4 (b : Body) (h : ¬ (4096 ≤ b.radius ∧ b.radius ≤ 4194304)) : check b = 4 := by unfold check; rw [if_pos (by omega)]
theorem check_5 (b : Body) (h : 4096 ≤ b.radius ∧ b.radius ≤ 4194304) (h2 : ¬ (-4194304 ≤ b.ax ∧ b.ax ≤ 4194304 ∧ -4194304 ≤ b.ay ∧ b.ay ≤ 4194304)) : check b = 5 := by
  unfold check inR; rw [if_neg (by omega), if_pos (by omega)]
theorem check_6 (b : Body) (h : 4096 ≤ b.radius ∧ b.radius ≤ 4194304) (h2 : -4194304 ≤ b.ax ∧ b.ax ≤ 4194304 ∧ -4194304 ≤ b.ay ∧ b.ay ≤ 4194304) (h3 : ¬ (0 ≤ b.mass ∧ b.mass ≤ 1048576)) : check b = 6 := by
  unfold check inR; rw [if_neg (by omega), if_neg (by omega), if_pos (by omega)]
theorem check_7 (b : Body) (h : 4096 ≤ b.radius ∧ b.radius ≤ 4194304) (h2 : -4194304 ≤ b.ax ∧ b.ax ≤ 4194304 ∧ -4194304 ≤ b.ay ∧ b.ay ≤ 4194304) (h3 : 0 ≤ b.mass ∧ b.mass ≤ 1048576) (h4 : ¬ (0 ≤ b.bounce ∧ b.bounce ≤ 65536)) : check b = 7 := by
  unfold check inR; rw [if_neg (by omega), if_neg (by omega), if_neg (by omega), if_pos (by omega)]
theorem check_8 (b : Body) (h : 4096 ≤ b.radius ∧ b.radius ≤ 4194304) (h2 : -4194304 ≤ b.ax ∧ b.ax ≤ 4194304 ∧ -4194304 ≤ b.ay ∧ b.ay ≤ 4194304) (h3 : 0 ≤ b.mass ∧ b.mass ≤ 1048576) (h4 : 0 ≤ b.bounce ∧ b.bounce ≤ 65536)
    (h5 : ¬ (-1073741824 ≤ b.px ∧ b.px ≤ 1073741824 ∧ -1073741824 ≤ b.py ∧ b.py ≤ 1073741824)) : check b = 8 := by
  unfold check inR; rw [if_neg (by omega), if_neg (by omega), if_neg (by omega), if_neg (by omega), if_pos (by omega)]
theorem check_9 (b : Body) (h : 4096 ≤ b.radius ∧ b.radius ≤ 4194304) (h2 : -4194304 ≤ b.ax ∧ b.ax ≤ 4194304 ∧ -4194304 ≤ b.ay ∧ b.ay ≤ 4194304) (h3 : 0 ≤ b.mass ∧ b.mass ≤ 1048576) (h4 : 0 ≤ b.bounce ∧ b.bounce ≤ 65536)
    (h5 : -1073741824 ≤ b.px ∧ b.px ≤ 1073741824 ∧ -1073741824 ≤ b.py ∧ b.py ≤ 1073741824) (h6 : ¬ (-16777216 ≤ b.vx ∧ b.vx ≤ 16777216 ∧ -16777216 ≤ b.vy ∧ b.vy ≤ 16777216)) : check b = 9 := by
  unfold check inR; rw [if_neg (by omega), if_neg (by omega), if_neg (by omega), if_neg (by omega), if_neg (by omega), if_pos (by omega)]
theorem check_0 (b : Body) (h : 4096 ≤ b.radius ∧ b.radius ≤ 4194304) (h2 : -4194304 ≤ b.ax ∧ b.ax ≤ 4194304 ∧ -4194304 ≤ b.ay ∧ b.ay ≤ 4194304) (h3 : 0 ≤ b.mass ∧ b.mass ≤ 1048576) (h4 : 0 ≤ b.bounce ∧ b.bounce ≤ 65536)
    (h5 : -1073741824 ≤ b.px ∧ b.px ≤ 1073741824 ∧ -1073741824 ≤ b.py ∧ b.py ≤ 1073741824) (h6 : -16777216 ≤ b.vx ∧ b.vx ≤ 16777216 ∧ -16777216 ≤ b.vy ∧ b.vy ≤ 16777216) : check b = 0 := by
  unfold check inR; rw [if_neg (by omega), if_neg (by omega), if_neg (by omega), if_neg (by omega), if_neg (by omega), if_neg (by omega)]
theorem check_range {b : Body} : 0 ≤ check b ∧ check b ≤ 9 := by unfold check; (repeat' split) <;> omega
theorem wr32 (x : Int) (h1 : -2147483648 ≤ x) (h2 : x ≤ 2147483647) : IntKind.wrap .i32 x = x := by simp only [IntKind.wrap, IntKind.bits, IntKind.signed, Bool.true_and, decide_eq_true_eq, ge_iff_le]; split <;> omega
theorem wru32 (x : Int) (h1 : 0 ≤ x) (h2 : x ≤ 4294967295) : IntKind.wrap .u32 x = x := by simp only [IntKind.wrap, IntKind.bits, IntKind.signed, Bool.false_and, Bool.false_eq_true, if_false]; omega
theorem wru64 (x : Int) (h1 : 0 ≤ x) (h2 : x ≤ 18446744073709551615) : IntKind.wrap .u64 x = x := by simp only [IntKind.wrap, IntKind.bits, IntKind.signed, Bool.false_and, Bool.false_eq_true, if_false]; omega
theorem wru8 (x : Int) (h1 : 0 ≤ x) (h2 : x ≤ 255) : IntKind.wrap .u8 x = x := by simp only [IntKind.wrap, IntKind.bits, IntKind.signed, Bool.false_and, Bool.false_eq_true, if_false]; omega

theorem allNext {α : Type} {p : Nat → α → Prop} {xs : List α} {k : Nat} {x : α} (h : ∀ (j : Nat) (c : α), j < k → xs[j]? = some c → p j c) (hx : xs[k]? = some x) (hp : p k x) : ∀ (j : Nat) (c : α), j < k + 1 → xs[j]? = some c → p j c := by
  intro j c hj hc
  by_cases e : j = k
  · subst e
    rw [hx] at hc
    injection hc with hc
    subst hc
    exact hp
  · exact h j c (by omega) hc
theorem getSome {α : Type} {xs : List α} {k n : Nat} (hn : xs.length = n) (h : k < n) : ∃ x, xs[k]? = some x := ⟨xs[k]'(by omega), List.getElem?_eq_getElem _⟩
/-- The place of a key, or -1. -/
def findI (key : Int) : List Body → Int
  | [] => -1
  | b :: l => if b.key = key then 0 else (let r := findI key l; if r < 0 then -1 else r + 1)
theorem findI_neg {key : Int} : ∀ {l : List Body}, (∀ (j : Nat) (b : Body), l[j]? = some b → b.key ≠ key) → findI key l = -1
  | [], _ => rfl
  | b :: l, h => by
    unfold findI
    rw [if_neg (h 0 b (by simp)), findI_neg (l := l) (fun j c hj => h (j + 1) c (by simpa using hj))]
    rfl
theorem findI_at {key : Int} : ∀ {l : List Body} {k : Nat} {b : Body}, l[k]? = some b → b.key = key → (∀ (j : Nat) (c : Body), j < k → l[j]? = some c → c.key ≠ key) → findI key l = (k : Int)
  | [], _, _, h, _, _ => by simp at h
  | b :: l, 0, c, h, hk, _ => by
    simp only [List.getElem?_cons_zero, Option.some.injEq] at h
    subst h
    unfold findI
    rw [if_pos hk]; rfl
  | b :: l, k + 1, c, h, hk, hn => by
    simp only [List.getElem?_cons_succ] at h
    unfold findI
    rw [if_neg (hn 0 b (by omega) (by simp)), findI_at h hk (fun j c hj hc => hn (j + 1) c (by omega) (by simpa using hc))]
    simp only []
    rw [if_neg (by omega)]
    omega
end Go.Bil
