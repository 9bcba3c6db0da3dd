/- Boxes of bodies, plain. -/
import Derived.Test.YtfgbmegchdjfeaaDoorMd8
set_option linter.unusedVariables false
set_option linter.unusedSimpArgs false
namespace Go.Bil
structure Bx where
  x0 : Int
  y0 : Int
  x1 : Int
  y1 : Int
  deriving DecidableEq, Inhabited
def bxCells (a : Bx) : List Value := [.int .i32 a.x0, .int .i32 a.y0, .int .i32 a.x1, .int .i32 a.y1]
def extX (b : Body) : Int := max b.ax (-b.ax) + b.radius
def extY (b : Body) : Int := max b.ay (-b.ay) + b.radius
def boxOf (b : Body) : Bx := ⟨b.px - extX b, b.py - extY b, b.px + extX b, b.py + extY b⟩
abbrev emptyB (a : Bx) : Prop := a.x1 < a.x0 ∨ a.y1 < a.y0
def noneB : Bx := ⟨1, 0, 0, 0⟩
def meetB (a b : Bx) : Bx := if emptyB ⟨max a.x0 b.x0, max a.y0 b.y0, min a.x1 b.x1, min a.y1 b.y1⟩ then noneB else ⟨max a.x0 b.x0, max a.y0 b.y0, min a.x1 b.x1, min a.y1 b.y1⟩
abbrev ovl (a b : Bx) : Prop := (a.x0 ≤ a.x1 ∧ a.y0 ≤ a.y1) ∧ (b.x0 ≤ b.x1 ∧ b.y0 ≤ b.y1) ∧ (a.x0 ≤ b.x1 ∧ b.x0 ≤ a.x1 ∧ a.y0 ≤ b.y1 ∧ b.y0 ≤ a.y1)
theorem meet_ovl (a b : Bx) : ¬ emptyB (meetB a b) ↔ ovl a b := by
  unfold meetB
  split
  · rename_i h
    unfold emptyB at h
    simp only [emptyB, noneB, ovl]
    simp only at h
    omega
  · rename_i h
    unfold emptyB at h
    simp only [emptyB, ovl]
    simp only at h
    omega
structure Okb (b : Body) : Prop where
  r : 4096 ≤ b.radius ∧ b.radius ≤ 4194304
  a : -4194304 ≤ b.ax ∧ b.ax ≤ 4194304 ∧ -4194304 ≤ b.ay ∧ b.ay ≤ 4194304
  m : 0 ≤ b.mass ∧ b.mass ≤ 1048576
  c : 0 ≤ b.bounce ∧ b.bounce ≤ 65536
  p : -1073741824 ≤ b.px ∧ b.px ≤ 1073741824 ∧ -1073741824 ≤ b.py ∧ b.py ≤ 1073741824
  v : -16777216 ≤ b.vx ∧ b.vx ≤ 16777216 ∧ -16777216 ≤ b.vy ∧ b.vy ≤ 16777216
theorem check_ok {b : Body} (h : check b = 0) : Okb b := by
  by_cases h1 : 4096 ≤ b.radius ∧ b.radius ≤ 4194304
  · by_cases h2 : -4194304 ≤ b.ax ∧ b.ax ≤ 4194304 ∧ -4194304 ≤ b.ay ∧ b.ay ≤ 4194304
    · by_cases h3 : 0 ≤ b.mass ∧ b.mass ≤ 1048576
      · by_cases h4 : 0 ≤ b.bounce ∧ b.bounce ≤ 65536
        · by_cases h5 : -1073741824 ≤ b.px ∧ b.px ≤ 1073741824 ∧ -1073741824 ≤ b.py ∧ b.py ≤ 1073741824
          · by_cases h6 : -16777216 ≤ b.vx ∧ b.vx ≤ 16777216 ∧ -16777216 ≤ b.vy ∧ b.vy ≤ 16777216
            · exact ⟨h1, h2, h3, h4, h5, h6⟩
            · rw [check_9 b h1 h2 h3 h4 h5 h6] at h; omega
          · rw [check_8 b h1 h2 h3 h4 h5] at h; omega
        · rw [check_7 b h1 h2 h3 h4] at h; omega
      · rw [check_6 b h1 h2 h3] at h; omega
    · rw [check_5 b h1 h2] at h; omega
  · rw [check_4 b h1] at h; omega
theorem ext_le {b : Body} (h : Okb b) : 4096 ≤ extX b ∧ extX b ≤ 8388608 ∧ 4096 ≤ extY b ∧ extY b ≤ 8388608 := by
  have := h.r
  have := h.a
  unfold extX extY
  omega
/-- What the components of a box of a valid body are like. -/
structure Okx (a : Bx) : Prop where
  x0 : -2147483648 ≤ a.x0 ∧ a.x0 ≤ 2147483647
  y0 : -2147483648 ≤ a.y0 ∧ a.y0 ≤ 2147483647
  x1 : -2147483648 ≤ a.x1 ∧ a.x1 ≤ 2147483647
  y1 : -2147483648 ≤ a.y1 ∧ a.y1 ≤ 2147483647
theorem box_ok {b : Body} (h : Okb b) : Okx (boxOf b) := by
  have h1 := ext_le h
  have h2 := h.p
  constructor <;> simp only [boxOf] <;> omega
theorem box_full {b : Body} (h : Okb b) : (boxOf b).x0 ≤ (boxOf b).x1 ∧ (boxOf b).y0 ≤ (boxOf b).y1 := by
  have h1 := ext_le h
  simp only [boxOf]
  omega
theorem bx_ext {a b : Bx} : a = b ↔ (a.x0 = b.x0 ∧ a.y0 = b.y0 ∧ a.x1 = b.x1 ∧ a.y1 = b.y1) := by
  cases a; cases b; simp
theorem bxCells_one (a : Bx) : ∀ u ∈ bxCells a, one u = true := by simp [bxCells, one]
end Go.Bil
