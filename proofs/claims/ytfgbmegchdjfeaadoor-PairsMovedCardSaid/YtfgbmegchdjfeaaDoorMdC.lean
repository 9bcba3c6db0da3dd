/- Cells of the grid, plain. -/
import Derived.Test.YtfgbmegchdjfeaaDoorMdB
set_option linter.unusedVariables false
set_option linter.unusedSimpArgs false
namespace Go.Bil
def cellCells (c : Int × Int) : List Value := [.int .i32 c.1, .int .i32 c.2]
def cdiv (x : Int) : Int := x.fdiv 4194304
theorem shr22 (x : Int) : x.fdiv (2 ^ (min (22 : Int).toNat IntKind.i32.bits)) = cdiv x := rfl
theorem cdiv_eq (x : Int) : cdiv x = x / 4194304 := by unfold cdiv; exact Int.fdiv_eq_ediv_of_nonneg x (by decide)
theorem cdiv_range {x : Int} (h0 : -2147483648 ≤ x) (h1 : x ≤ 2147483647) : -512 ≤ cdiv x ∧ cdiv x ≤ 511 := by rw [cdiv_eq]; omega
theorem cdiv_mono {x y : Int} (h : x ≤ y) : cdiv x ≤ cdiv y := by rw [cdiv_eq, cdiv_eq]; omega
def loC (a : Bx) : Int × Int := if emptyB a then (0, 0) else (cdiv a.x0, cdiv a.y0)
def hiC (a : Bx) : Int × Int := if emptyB a then (0, 0) else (cdiv a.x1, cdiv a.y1)
/-- Columns and rows of a span. -/
def nX (lo hi : Int × Int) : Nat := (hi.1 - lo.1 + 1).toNat
def nY (lo hi : Int × Int) : Nat := (hi.2 - lo.2 + 1).toNat
def rowC (lo : Int × Int) (i j : Nat) : List (Int × Int) := (List.range i).map (fun (p : Nat) => (lo.1 + (p : Int), lo.2 + (j : Int)))
def rowsC (lo hi : Int × Int) (j : Nat) : List (Int × Int) := (List.range j).flatMap (fun q => rowC lo (nX lo hi) q)
def cellsL (ok : Bool) (lo hi : Int × Int) : List (Int × Int) := if ok then rowsC lo hi (nY lo hi) else []
def cellsB (a : Bx) : List (Int × Int) := cellsL (decide (¬ emptyB a)) (loC a) (hiC a)
theorem rowC_len (lo : Int × Int) (i j : Nat) : (rowC lo i j).length = i := by simp [rowC]
theorem rowC_succ (lo : Int × Int) (i j : Nat) : rowC lo (i + 1) j = rowC lo i j ++ [(lo.1 + (i : Int), lo.2 + (j : Int))] := by simp [rowC, List.range_succ]
theorem rowsC_succ (lo hi : Int × Int) (j : Nat) : rowsC lo hi (j + 1) = rowsC lo hi j ++ rowC lo (nX lo hi) j := by simp [rowsC, List.range_succ]
theorem rowsC_len (lo hi : Int × Int) : ∀ j, (rowsC lo hi j).length = j * nX lo hi
  | 0 => by simp [rowsC]
  | j + 1 => by rw [rowsC_succ, List.length_append, rowsC_len lo hi j, rowC_len, Nat.add_mul, Nat.one_mul]
theorem rowsC_lt {lo hi : Int × Int} {i j : Nat} (hx : nX lo hi ≤ 1024) (hj : j < 1024) (hi' : i < nX lo hi) : (rowsC lo hi j).length + i < 1048576 := by
  rw [rowsC_len]
  have : j * nX lo hi ≤ 1023 * 1024 := Nat.mul_le_mul (by omega) hx
  omega
theorem rowsC_le {lo hi : Int × Int} {j : Nat} (hx : nX lo hi ≤ 1024) (hj : j ≤ 1024) : (rowsC lo hi j).length ≤ 1048576 := by
  rw [rowsC_len]
  exact Nat.mul_le_mul hj hx
theorem mem_rowsC {lo hi : Int × Int} {n : Nat} {c : Int × Int} : c ∈ rowsC lo hi n ↔ ∃ q p : Nat, q < n ∧ p < nX lo hi ∧ c = (lo.1 + (p : Int), lo.2 + (q : Int)) := by
  simp only [rowsC, rowC, List.mem_flatMap, List.mem_range, List.mem_map]
  constructor
  · rintro ⟨q, hq, p, hp, rfl⟩; exact ⟨q, p, hq, hp, rfl⟩
  · rintro ⟨q, p, hq, hp, rfl⟩; exact ⟨q, hq, p, hp, rfl⟩
theorem mem_cellsB {a : Bx} {c : Int × Int} : c ∈ cellsB a ↔ ¬ emptyB a ∧ cdiv a.x0 ≤ c.1 ∧ c.1 ≤ cdiv a.x1 ∧ cdiv a.y0 ≤ c.2 ∧ c.2 ≤ cdiv a.y1 := by
  unfold cellsB cellsL
  by_cases h : emptyB a
  · simp [h]
  · rw [if_pos (by simpa using h), mem_rowsC]
    simp only [loC, hiC, if_neg h, nX, nY]
    constructor
    · rintro ⟨q, p, hq, hp, rfl⟩
      refine ⟨h, ?_⟩
      simp only
      omega
    · rintro ⟨_, h1, h2, h3, h4⟩
      refine ⟨(c.2 - cdiv a.y0).toNat, (c.1 - cdiv a.x0).toNat, by omega, by omega, ?_⟩
      apply Prod.ext <;> simp only <;> omega
structure Okc (c : Int × Int) : Prop where
  x : -512 ≤ c.1 ∧ c.1 ≤ 511
  y : -512 ≤ c.2 ∧ c.2 ≤ 511
theorem loC_ok {a : Bx} (h : Okx a) : Okc (loC a) := by
  unfold loC
  split
  · exact ⟨by decide, by decide⟩
  · exact ⟨cdiv_range h.x0.1 h.x0.2, cdiv_range h.y0.1 h.y0.2⟩
theorem hiC_ok {a : Bx} (h : Okx a) : Okc (hiC a) := by
  unfold hiC
  split
  · exact ⟨by decide, by decide⟩
  · exact ⟨cdiv_range h.x1.1 h.x1.2, cdiv_range h.y1.1 h.y1.2⟩
theorem nX_le {lo hi : Int × Int} (h1 : Okc lo) (h2 : Okc hi) : nX lo hi ≤ 1024 := by
  have := h1.x; have := h2.x
  unfold nX
  omega
theorem nY_le {lo hi : Int × Int} (h1 : Okc lo) (h2 : Okc hi) : nY lo hi ≤ 1024 := by
  have := h1.y; have := h2.y
  unfold nY
  omega
theorem cellsB_len {a : Bx} (h : Okx a) : (cellsB a).length ≤ 1048576 := by
  unfold cellsB cellsL
  split
  · exact rowsC_le (nX_le (loC_ok h) (hiC_ok h)) (nY_le (loC_ok h) (hiC_ok h))
  · simp
/-- Boxes that overlap have a cell in common. -/
theorem ovl_cell {a b : Bx} (h : ovl a b) : ∃ c, c ∈ cellsB a ∧ c ∈ cellsB b := by
  obtain ⟨⟨h1, h2⟩, ⟨h3, h4⟩, h5, h6, h7, h8⟩ := h
  refine ⟨(cdiv (max a.x0 b.x0), cdiv (max a.y0 b.y0)), mem_cellsB.2 ⟨by unfold emptyB; omega, ?_⟩, mem_cellsB.2 ⟨by unfold emptyB; omega, ?_⟩⟩
  · exact ⟨cdiv_mono (by omega), cdiv_mono (by omega), cdiv_mono (by omega), cdiv_mono (by omega)⟩
  · exact ⟨cdiv_mono (by omega), cdiv_mono (by omega), cdiv_mono (by omega), cdiv_mono (by omega)⟩
theorem cells_len (m : List (Int × Int)) : ∀ y ∈ m.map cellCells, y.length = 2 := by
  intro y hy
  obtain ⟨x, _, rfl⟩ := List.mem_map.1 hy
  rfl
/-- The bucket of a cell. -/
def bucketZ (c : Int × Int) : Int :=
  IntKind.u32.wrap ((BitVec.ofInt 32 (IntKind.u32.wrap ((BitVec.ofInt 32 (IntKind.u32.wrap (IntKind.u32.wrap c.1 * 73856093)) ^^^ BitVec.ofInt 32 (IntKind.u32.wrap (IntKind.u32.wrap c.2 * 19349663))).toNat)) &&& BitVec.ofInt 32 1023).toNat)
def bucketI (c : Int × Int) : Nat := (bucketZ c).toNat
theorem bucketZ_range (c : Int × Int) : 0 ≤ bucketZ c ∧ bucketZ c < 1024 := by
  unfold bucketZ
  generalize BitVec.ofInt 32 (IntKind.u32.wrap _) = a
  have h : (a &&& BitVec.ofInt 32 1023).toNat ≤ 1023 := by
    rw [BitVec.toNat_and]
    exact Nat.le_trans Nat.and_le_right (by decide)
  rw [wru32 _ (by omega) (by omega)]
  omega
theorem bucket_lt (c : Int × Int) : bucketI c < 1024 := by have := bucketZ_range c; unfold bucketI; omega
theorem bucket_eq (c : Int × Int) : bucketZ c = (bucketI c : Int) := by have := bucketZ_range c; unfold bucketI; omega
end Go.Bil
