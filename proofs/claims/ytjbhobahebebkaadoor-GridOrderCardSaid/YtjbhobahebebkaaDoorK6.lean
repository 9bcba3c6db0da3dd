/- Part of the proof of the laws of this seat: Md4, Md5, Md7, Md8, MdB, MdC. No conditions. -/
import Derived.Test.YtjbhobahebebkaaDoorK4
import Derived.Test.YtjbhobahebebkaaDoorK3
/- The plain side: the reference's sorted lists beside the store's slots. -/
set_option linter.unusedVariables false
namespace Go.Bil

def Sorted (s : List Body) : Prop := s.Pairwise (fun a b => a.key < b.key)
def cutK (k : Int) (s : List Body) : List Body := s.filter (fun x => decide (x.key ≠ k))
/-- What putB makes of the bodies that are still to come. -/
def putG (b : Body) : Bool → List Body → List Body
  | true, s => cutK b.key s
  | false, [] => [b]
  | false, x :: l => if b.key ≤ x.key then b :: cutK b.key (x :: l) else x :: putG b false l
def endB (b : Body) (r : List Body × Bool) : List Body := if r.2 then r.1 else r.1 ++ [b]
theorem putAll_acc (b : Body) : ∀ (s acc : List Body) (d : Bool), endB b (s.foldl (putStep b) (acc, d)) = acc ++ putG b d s
  | [], acc, true => by simp [putG, cutK, endB]
  | [], acc, false => by simp [putG, endB]
  | x :: l, acc, true => by
    have ih := putAll_acc b l (if x.key ≠ b.key then acc ++ [x] else acc) true
    rw [List.foldl_cons]
    have e : putStep b (acc, true) x = (if x.key ≠ b.key then acc ++ [x] else acc, true) := by unfold putStep; by_cases h : x.key = b.key <;> simp [h]
    rw [e, ih]
    by_cases h : x.key = b.key <;> simp [putG, cutK, h]
  | x :: l, acc, false => by
    rw [List.foldl_cons]
    by_cases hb : b.key ≤ x.key
    · have ih := putAll_acc b l (if x.key ≠ b.key then acc ++ [b] ++ [x] else acc ++ [b]) true
      have e : putStep b (acc, false) x = (if x.key ≠ b.key then acc ++ [b] ++ [x] else acc ++ [b], true) := by unfold putStep; by_cases h : x.key = b.key <;> simp [h, hb]
      rw [e, ih]
      by_cases h : x.key = b.key <;> simp [putG, cutK, h, hb]
    · have hne : x.key ≠ b.key := by omega
      have ih := putAll_acc b l (acc ++ [x]) false
      have e : putStep b (acc, false) x = (acc ++ [x], false) := by unfold putStep; simp [hb, hne]
      rw [e, ih]
      simp [putG, hb]
theorem putB_eq (s : List Body) (b : Body) (g : Bool) : putB s b g = putG b g s := by
  have := putAll_acc b s [] g
  rw [List.nil_append] at this
  exact this
theorem putG_perm (b : Body) : ∀ s : List Body, (putG b false s).Perm (b :: cutK b.key s)
  | [] => by simp [putG, cutK]
  | x :: l => by
    unfold putG
    split
    · exact List.Perm.refl _
    · rename_i h
      have hne : x.key ≠ b.key := by omega
      have e : cutK b.key (x :: l) = x :: cutK b.key l := by simp [cutK, hne]
      rw [e]
      exact ((putG_perm b l).cons x).trans (List.Perm.swap b x _)
theorem mem_cutK {k : Int} {s : List Body} {x : Body} : x ∈ cutK k s ↔ x ∈ s ∧ x.key ≠ k := by simp [cutK]
theorem Sorted.cut {s : List Body} (h : Sorted s) (k : Int) : Sorted (cutK k s) := List.Pairwise.sublist List.filter_sublist h
theorem Sorted.put {b : Body} : ∀ {s : List Body}, Sorted s → Sorted (putG b false s)
  | [], _ => by simp [putG, Sorted]
  | x :: l, h => by
    unfold putG
    have hx : ∀ y ∈ l, x.key < y.key := (List.pairwise_cons.1 h).1
    have hl : Sorted l := (List.pairwise_cons.1 h).2
    split
    · rename_i hb
      refine List.pairwise_cons.2 ⟨fun y hy => ?_, h.cut _⟩
      obtain ⟨h1, h2⟩ := mem_cutK.1 hy
      rcases List.mem_cons.1 h1 with rfl | h1
      · omega
      · have := hx y h1; omega
    · rename_i hb
      refine List.pairwise_cons.2 ⟨fun y hy => ?_, Sorted.put hl⟩
      have := (putG_perm b l).mem_iff.1 hy
      rcases List.mem_cons.1 this with rfl | h1
      · omega
      · exact hx y (mem_cutK.1 h1).1
/-- The reference's steps. -/
def addR (s : List Body) (b : Body) : List Body × Int :=
  if check b ≠ 0 then (s, check b) else if 0 ≤ findI b.key s then (s, 10) else if 4096 ≤ s.length then (s, 12) else (putB s b false, 0)
def nilBody (k : Int) : Body := ⟨k, 0, 0, 0, 0, 0, 0, 0, 0, 0⟩
def setR (s : List Body) (b : Body) : List Body × Int :=
  if check b ≠ 0 then (s, check b) else if findI b.key s < 0 then (s, 11) else (putB s b false, 0)
/-! ### Slots and sorted lists -/
structure Rel (m s : List Body) : Prop where
  perm : s.Perm m
  sorted : Sorted s
theorem Rel.nil : Rel [] [] := ⟨List.Perm.refl _, by simp [Sorted]⟩
theorem Sorted.unique {s t : List Body} (h : Sorted s) (h' : Sorted t) (p : s.Perm t) : s = t :=
  List.Perm.eq_of_pairwise (le := fun (a b : Body) => a.key < b.key) (fun a b _ _ h1 h2 => by omega) h h' p
theorem Sorted.keys {s : List Body} (h : Sorted s) : Keys s := by
  unfold Keys List.Nodup
  rw [List.pairwise_map]
  exact h.imp (fun h => by omega)
theorem Rel.keys {m s : List Body} (R : Rel m s) : Keys m := R.sorted.keys.perm R.perm.symm
theorem Rel.find {m s : List Body} (R : Rel m s) (k : Int) : findI k s < 0 ↔ findI k m < 0 := by
  rw [findI_none, findI_none]
  exact ⟨fun h b hb => h b (R.perm.mem_iff.2 hb), fun h b hb => h b (R.perm.mem_iff.1 hb)⟩
theorem cutK_none {k : Int} {s : List Body} (h : findI k s < 0) : cutK k s = s := List.filter_eq_self.2 fun x hx => by simpa using findI_none.1 h x hx
theorem Rel.put {m s : List Body} (R : Rel m s) (b : Body) {m' : List Body} (h : m'.Perm (b :: cutK b.key m)) : Rel m' (putB s b false) := by
  rw [putB_eq]
  exact ⟨((putG_perm b s).trans ((R.perm.filter _).cons b)).trans h.symm, R.sorted.put⟩
theorem Rel.add {m s : List Body} (R : Rel m s) (b : Body) : Rel (addM m b).1 (addR s b).1 ∧ (addR s b).2 = (addM m b).2 := by
  unfold addM addR
  have hf := R.find b.key
  have hl := R.perm.length_eq
  by_cases h1 : check b ≠ 0
  · rw [if_pos h1, if_pos h1]; exact ⟨R, rfl⟩
  · rw [if_neg h1, if_neg h1]
    by_cases h2 : 0 ≤ findI b.key m
    · have h2' : 0 ≤ findI b.key s := by omega
      rw [if_pos h2, if_pos h2']; exact ⟨R, rfl⟩
    · have h2' : ¬ 0 ≤ findI b.key s := by omega
      rw [if_neg h2, if_neg h2', hl]
      by_cases h3 : 4096 ≤ m.length
      · rw [if_pos h3, if_pos h3]; exact ⟨R, rfl⟩
      · rw [if_neg h3, if_neg h3]
        refine ⟨R.put b ?_, rfl⟩
        rw [cutK_none (by omega)]
        exact List.perm_append_singleton b m
theorem erase_cutK {m : List Body} (h : Keys m) {i : Nat} {b : Body} (hi : m[i]? = some b) : m.eraseIdx i = cutK b.key m := by
  have e : m = m.take i ++ b :: m.drop (i + 1) := by
    have hlt := (List.getElem?_eq_some_iff.1 hi).1
    have hb : m[i] = b := (List.getElem?_eq_some_iff.1 hi).2
    rw [← hb, ← List.drop_eq_getElem_cons hlt, List.take_append_drop]
  have hne := erase_not h hi
  rw [List.eraseIdx_eq_take_drop_succ] at hne ⊢
  conv => rhs; rw [e]
  unfold cutK
  rw [List.filter_append, List.filter_cons]
  simp only [ne_eq, not_true_eq_false, decide_false, Bool.false_eq_true, if_false]
  rw [List.filter_eq_self.2 (fun x hx => by simpa using hne x (List.mem_append_left _ hx)), List.filter_eq_self.2 (fun x hx => by simpa using hne x (List.mem_append_right _ hx))]
theorem set_perm {m : List Body} {i : Nat} {x : Body} (hi : i < m.length) : (m.set i x).Perm (x :: m.eraseIdx i) := by
  rw [List.set_eq_take_append_cons_drop, if_pos hi, List.eraseIdx_eq_take_drop_succ]
  exact List.perm_middle
theorem Rel.set {m s : List Body} (R : Rel m s) (b : Body) : Rel (setM m b).1 (setR s b).1 ∧ (setR s b).2 = (setM m b).2 := by
  unfold setM setR
  have hf := R.find b.key
  by_cases h1 : check b ≠ 0
  · rw [if_pos h1, if_pos h1]; exact ⟨R, rfl⟩
  · rw [if_neg h1, if_neg h1]
    by_cases h : findI b.key m < 0
    · rw [if_pos h, if_pos (hf.2 h)]; exact ⟨R, rfl⟩
    · rw [if_neg h, if_neg (fun h' => h (hf.1 h'))]
      refine ⟨?_, rfl⟩
      rcases findI_cases b.key m with ⟨h1, _⟩ | ⟨i, c, h1, h2, h3⟩
      · omega
      · rw [h3, Int.toNat_natCast]
        have hlt := (List.getElem?_eq_some_iff.1 h1).1
        refine R.put b ((set_perm hlt).trans ?_)
        rw [erase_cutK R.keys h1, h2]
theorem Rel.get {m s : List Body} (R : Rel m s) (k : Int) : (findI k s < 0 ∧ getM m k = (nilBody 0, 11)) ∨ ∃ (i : Nat) (b : Body), findI k s = (i : Int) ∧ s[i]? = some b ∧ getM m k = (b, 0) := by
  rcases findI_cases k s with ⟨h1, h2⟩ | ⟨i, b, h1, h2, h3⟩
  · have hm : findI k m < 0 := (R.find k).1 (by omega)
    refine .inl ⟨by omega, ?_⟩
    unfold getM
    rw [if_pos hm]
    rfl
  · refine .inr ⟨i, b, h3, h1, ?_⟩
    have hb : b ∈ m := R.perm.mem_iff.1 (List.mem_of_getElem? h1)
    obtain ⟨j, hj⟩ := List.getElem?_of_mem hb
    have := idx_some R.keys hj
    rw [h2] at this
    exact getM_some this hj

/-! ### The bodies in their order -/
def insB (b : Body) : List Body → List Body
  | [] => [b]
  | x :: l => if b.key ≤ x.key then b :: x :: l else x :: insB b l
def sortB (m : List Body) : List Body := m.foldr insB []
theorem insB_perm (b : Body) : ∀ l : List Body, (insB b l).Perm (b :: l)
  | [] => List.Perm.refl _
  | x :: l => by
    unfold insB
    split
    · exact List.Perm.refl _
    · exact ((insB_perm b l).cons x).trans (List.Perm.swap b x l)
theorem sortB_perm : ∀ m : List Body, (sortB m).Perm m
  | [] => List.Perm.refl _
  | b :: m => (insB_perm b (sortB m)).trans ((sortB_perm m).cons b)
def Up (s : List Body) : Prop := s.Pairwise (fun a b => a.key ≤ b.key)
theorem insB_up (b : Body) : ∀ {l : List Body}, Up l → Up (insB b l)
  | [], _ => by simp [insB, Up]
  | x :: l, h => by
    unfold insB
    have hx : ∀ y ∈ l, x.key ≤ y.key := (List.pairwise_cons.1 h).1
    split
    · rename_i hb
      refine List.pairwise_cons.2 ⟨fun y hy => ?_, h⟩
      rcases List.mem_cons.1 hy with rfl | hy
      · exact hb
      · have := hx y hy; omega
    · refine List.pairwise_cons.2 ⟨fun y hy => ?_, insB_up b (List.pairwise_cons.1 h).2⟩
      have := (insB_perm b l).mem_iff.1 hy
      rcases List.mem_cons.1 this with rfl | h1
      · omega
      · exact hx y h1
theorem sortB_up : ∀ m : List Body, Up (sortB m)
  | [] => by simp [sortB, Up]
  | b :: m => insB_up b (sortB_up m)
theorem up_sorted {s : List Body} (h : Up s) (hk : Keys s) : Sorted s := by
  unfold Up at h
  unfold Keys List.Nodup at hk
  rw [List.pairwise_map] at hk
  exact (List.Pairwise.and h hk).imp (fun ⟨h1, h2⟩ => by omega)
theorem sortB_rel {m : List Body} (hk : Keys m) : Rel m (sortB m) := ⟨sortB_perm m, up_sorted (sortB_up m) (hk.perm (sortB_perm m))⟩
theorem Rel.eq {m s : List Body} (R : Rel m s) : sortB m = s := (sortB_rel R.keys).sorted.unique R.sorted ((sortB_perm m).trans R.perm.symm)

end Go.Bil
namespace Go.Bil
end Go.Bil

/- The plain side of layer 6's laws. -/
set_option linter.unusedVariables false
namespace Go.Bil

def valid (l : List Body) : List Body := l.filter (fun b => decide (check b = 0))
end Go.Bil
namespace Go.Bil
structure StepI where
  kind : Int
  body : Body
instance : Inhabited StepI := ⟨⟨0, nilBody 0⟩⟩
/-! ### A full store -/
end Go.Bil

/- The plain side of layer 7: views. -/
set_option linter.unusedVariables false
namespace Go.Bil

instance (m : List Body) : Decidable (Keys m) := by unfold Keys; infer_instance
def keyCell (k : Int) : List Value := [.int .u32 k]
end Go.Bil
namespace Go.Bil
theorem up_le {xs : List Body} (h : Sorted xs) {p q : Nat} {a b : Body} (hpq : p ≤ q) (ha : xs[p]? = some a) (hb : xs[q]? = some b) : a.key ≤ b.key := by
  by_cases e : p = q
  · subst e
    rw [ha] at hb
    injection hb with hb
    rw [hb]; exact Int.le_refl _
  · have hi := List.getElem?_eq_some_iff.1 ha
    have hj := List.getElem?_eq_some_iff.1 hb
    have := List.pairwise_iff_getElem.1 h p q hi.1 hj.1 (by omega)
    rw [hi.2, hj.2] at this
    omega
end Go.Bil
namespace Go.Bil
theorem listSame {α : Type} {xs ys : List α} {n m : Nat} (h1 : xs.length = n) (h2 : ys.length = m) (hnm : n = m) (h : ∀ (j : Nat) (x : α), j < n → xs[j]? = some x → ys[j]? = some x) : xs = ys := by
  apply List.ext_getElem?
  intro j
  by_cases hj : j < xs.length
  · obtain ⟨x, hx⟩ := getSome (k := j) rfl hj
    rw [hx, h j x (by omega) hx]
  · rw [List.getElem?_eq_none (by omega), List.getElem?_eq_none (by omega)]
end Go.Bil
namespace Go.Bil
end Go.Bil
namespace Go.Bil
theorem keyCell_ok (k : Int) : ∀ y ∈ [keyCell k], y.length = 1 ∧ ∀ u ∈ y, one u = true := by
  intro y hy
  simp only [List.mem_singleton] at hy
  subst hy
  exact ⟨rfl, ones_of rfl⟩
end Go.Bil
namespace Go.Bil
/-- How far two views have been merged. -/
structure Mg (xs ys : List Body) (i k : Nat) : Prop where
  sx : Sorted xs
  sy : Sorted ys
  yx : ∀ (p : Nat) (a b : Body), p < k → ys[p]? = some a → xs[i]? = some b → a.key < b.key
  xy : ∀ (p : Nat) (a b : Body), p < i → xs[p]? = some a → ys[k]? = some b → a.key < b.key
theorem Mg.swap {xs ys : List Body} {i k : Nat} (h : Mg xs ys i k) : Mg ys xs k i := ⟨h.sy, h.sx, h.xy, h.yx⟩
theorem sorted_lt {xs : List Body} (h : Sorted xs) {p q : Nat} {a b : Body} (hpq : p < q) (ha : xs[p]? = some a) (hb : xs[q]? = some b) : a.key < b.key := by
  have hi := List.getElem?_eq_some_iff.1 ha
  have hj := List.getElem?_eq_some_iff.1 hb
  have := List.pairwise_iff_getElem.1 h p q hi.1 hj.1 hpq
  rwa [hi.2, hj.2] at this
theorem Mg.x {xs ys : List Body} {i k : Nat} {a : Body} (h : Mg xs ys i k) (ha : xs[i]? = some a) (hb : ∀ b, ys[k]? = some b → a.key < b.key) : Mg xs ys (i + 1) k ∧ findI a.key ys < 0 := by
  refine ⟨⟨h.sx, h.sy, fun p y x hp hy hx => ?_, fun p x y hp hx hy => ?_⟩, findI_none.2 fun y hy => ?_⟩
  · have := h.yx p y a hp hy ha
    have := sorted_lt h.sx (Nat.lt_succ_self i) ha hx
    omega
  · by_cases e : p = i
    · subst e
      rw [ha] at hx
      injection hx with hx
      subst hx
      exact hb y hy
    · exact h.xy p x y (by omega) hx hy
  · obtain ⟨q, hq⟩ := List.getElem?_of_mem hy
    rcases Nat.lt_or_ge q k with hlt | hge
    · have := h.yx q y a hlt hq ha; omega
    · obtain ⟨b, hbk⟩ := getSome (xs := ys) (k := k) rfl (by have := (List.getElem?_eq_some_iff.1 hq).1; omega)
      have h1 := hb b hbk
      have h2 := up_le h.sy hge hbk hq
      omega
theorem Mg.y {xs ys : List Body} {i k : Nat} {b : Body} (h : Mg xs ys i k) (hb : ys[k]? = some b) (ha : ∀ a, xs[i]? = some a → b.key < a.key) : Mg xs ys i (k + 1) ∧ findI b.key xs < 0 := by
  obtain ⟨h1, h2⟩ := h.swap.x hb ha
  exact ⟨h1.swap, h2⟩
theorem Mg.both {xs ys : List Body} {i k : Nat} {a b : Body} (h : Mg xs ys i k) (ha : xs[i]? = some a) (hb : ys[k]? = some b) (hk : a.key = b.key) : Mg xs ys (i + 1) (k + 1) ∧ findI a.key ys = (k : Int) ∧ findI b.key xs = (i : Int) := by
  refine ⟨⟨h.sx, h.sy, fun p y x hp hy hx => ?_, fun p x y hp hx hy => ?_⟩, ?_, ?_⟩
  · have h1 := sorted_lt h.sx (Nat.lt_succ_self i) ha hx
    have h2 := up_le h.sy (show p ≤ k by omega) hy hb
    omega
  · have h1 := sorted_lt h.sy (Nat.lt_succ_self k) hb hy
    have h2 := up_le h.sx (show p ≤ i by omega) hx ha
    omega
  · exact findI_at hb hk.symm fun j c hj hc => by have := sorted_lt h.sy hj hc hb; omega
  · exact findI_at ha hk fun j c hj hc => by have := sorted_lt h.sx hj hc ha; omega
end Go.Bil
namespace Go.Bil
end Go.Bil
namespace Go.Bil
end Go.Bil
namespace Go.Bil
theorem keys_len (m : List Int) : ∀ y ∈ m.map keyCell, y.length = 1 := by
  intro y hy
  obtain ⟨b, _, rfl⟩ := List.mem_map.1 hy
  rfl
end Go.Bil
namespace Go.Bil
end Go.Bil
namespace Go.Bil
end Go.Bil
namespace Go.Bil
end Go.Bil

/- Views, plain: counting less keys, parts of a view. -/
set_option linter.unusedVariables false
set_option linter.unusedSimpArgs false
namespace Go.Bil
end Go.Bil

/- Boxes of bodies, plain. -/
set_option linter.unusedVariables false
set_option linter.unusedSimpArgs false
namespace Go.Bil
structure Bx where
  x0 : Int
  y0 : Int
  x1 : Int
  y1 : Int
  deriving DecidableEq, Inhabited
def bxCells (a : Bx) : List Value := [.int .i32 a.x0, .int .i32 a.y0, .int .i32 a.x1, .int .i32 a.y1]
def extX (b : Body) : Int := max b.ax (-b.ax) + b.radius
def extY (b : Body) : Int := max b.ay (-b.ay) + b.radius
def boxOf (b : Body) : Bx := ⟨b.px - extX b, b.py - extY b, b.px + extX b, b.py + extY b⟩
abbrev emptyB (a : Bx) : Prop := a.x1 < a.x0 ∨ a.y1 < a.y0
def noneB : Bx := ⟨1, 0, 0, 0⟩
/-- What the components of a box of a valid body are like. -/
structure Okx (a : Bx) : Prop where
  x0 : -2147483648 ≤ a.x0 ∧ a.x0 ≤ 2147483647
  y0 : -2147483648 ≤ a.y0 ∧ a.y0 ≤ 2147483647
  x1 : -2147483648 ≤ a.x1 ∧ a.x1 ≤ 2147483647
  y1 : -2147483648 ≤ a.y1 ∧ a.y1 ≤ 2147483647
end Go.Bil

/- Cells of the grid, plain. -/
set_option linter.unusedVariables false
set_option linter.unusedSimpArgs false
namespace Go.Bil
def cellCells (c : Int × Int) : List Value := [.int .i32 c.1, .int .i32 c.2]
def cdiv (x : Int) : Int := x.fdiv 4194304
theorem shr22 (x : Int) : x.fdiv (2 ^ (min (22 : Int).toNat IntKind.i32.bits)) = cdiv x := rfl
theorem cdiv_eq (x : Int) : cdiv x = x / 4194304 := by unfold cdiv; exact Int.fdiv_eq_ediv_of_nonneg x (by decide)
theorem cdiv_range {x : Int} (h0 : -2147483648 ≤ x) (h1 : x ≤ 2147483647) : -512 ≤ cdiv x ∧ cdiv x ≤ 511 := by rw [cdiv_eq]; omega
def loC (a : Bx) : Int × Int := if emptyB a then (0, 0) else (cdiv a.x0, cdiv a.y0)
def hiC (a : Bx) : Int × Int := if emptyB a then (0, 0) else (cdiv a.x1, cdiv a.y1)
/-- Columns and rows of a span. -/
def nX (lo hi : Int × Int) : Nat := (hi.1 - lo.1 + 1).toNat
def nY (lo hi : Int × Int) : Nat := (hi.2 - lo.2 + 1).toNat
def rowC (lo : Int × Int) (i j : Nat) : List (Int × Int) := (List.range i).map (fun (p : Nat) => (lo.1 + (p : Int), lo.2 + (j : Int)))
def rowsC (lo hi : Int × Int) (j : Nat) : List (Int × Int) := (List.range j).flatMap (fun q => rowC lo (nX lo hi) q)
def cellsL (ok : Bool) (lo hi : Int × Int) : List (Int × Int) := if ok then rowsC lo hi (nY lo hi) else []
def cellsB (a : Bx) : List (Int × Int) := cellsL (decide (¬ emptyB a)) (loC a) (hiC a)
theorem rowC_len (lo : Int × Int) (i j : Nat) : (rowC lo i j).length = i := by simp [rowC]
theorem rowC_succ (lo : Int × Int) (i j : Nat) : rowC lo (i + 1) j = rowC lo i j ++ [(lo.1 + (i : Int), lo.2 + (j : Int))] := by simp [rowC, List.range_succ]
theorem rowsC_succ (lo hi : Int × Int) (j : Nat) : rowsC lo hi (j + 1) = rowsC lo hi j ++ rowC lo (nX lo hi) j := by simp [rowsC, List.range_succ]
theorem rowsC_len (lo hi : Int × Int) : ∀ j, (rowsC lo hi j).length = j * nX lo hi
  | 0 => by simp [rowsC]
  | j + 1 => by rw [rowsC_succ, List.length_append, rowsC_len lo hi j, rowC_len, Nat.add_mul, Nat.one_mul]
theorem rowsC_lt {lo hi : Int × Int} {i j : Nat} (hx : nX lo hi ≤ 1024) (hj : j < 1024) (hi' : i < nX lo hi) : (rowsC lo hi j).length + i < 1048576 := by
  rw [rowsC_len]
  have : j * nX lo hi ≤ 1023 * 1024 := Nat.mul_le_mul (by omega) hx
  omega
theorem rowsC_le {lo hi : Int × Int} {j : Nat} (hx : nX lo hi ≤ 1024) (hj : j ≤ 1024) : (rowsC lo hi j).length ≤ 1048576 := by
  rw [rowsC_len]
  exact Nat.mul_le_mul hj hx
structure Okc (c : Int × Int) : Prop where
  x : -512 ≤ c.1 ∧ c.1 ≤ 511
  y : -512 ≤ c.2 ∧ c.2 ≤ 511
theorem loC_ok {a : Bx} (h : Okx a) : Okc (loC a) := by
  unfold loC
  split
  · exact ⟨by decide, by decide⟩
  · exact ⟨cdiv_range h.x0.1 h.x0.2, cdiv_range h.y0.1 h.y0.2⟩
theorem hiC_ok {a : Bx} (h : Okx a) : Okc (hiC a) := by
  unfold hiC
  split
  · exact ⟨by decide, by decide⟩
  · exact ⟨cdiv_range h.x1.1 h.x1.2, cdiv_range h.y1.1 h.y1.2⟩
theorem nX_le {lo hi : Int × Int} (h1 : Okc lo) (h2 : Okc hi) : nX lo hi ≤ 1024 := by
  have := h1.x; have := h2.x
  unfold nX
  omega
theorem nY_le {lo hi : Int × Int} (h1 : Okc lo) (h2 : Okc hi) : nY lo hi ≤ 1024 := by
  have := h1.y; have := h2.y
  unfold nY
  omega
theorem cellsB_len {a : Bx} (h : Okx a) : (cellsB a).length ≤ 1048576 := by
  unfold cellsB cellsL
  split
  · exact rowsC_le (nX_le (loC_ok h) (hiC_ok h)) (nY_le (loC_ok h) (hiC_ok h))
  · simp
/-- The bucket of a cell. -/
def bucketZ (c : Int × Int) : Int :=
  IntKind.u32.wrap ((BitVec.ofInt 32 (IntKind.u32.wrap ((BitVec.ofInt 32 (IntKind.u32.wrap (IntKind.u32.wrap c.1 * 73856093)) ^^^ BitVec.ofInt 32 (IntKind.u32.wrap (IntKind.u32.wrap c.2 * 19349663))).toNat)) &&& BitVec.ofInt 32 1023).toNat)
def bucketI (c : Int × Int) : Nat := (bucketZ c).toNat
theorem bucketZ_range (c : Int × Int) : 0 ≤ bucketZ c ∧ bucketZ c < 1024 := by
  unfold bucketZ
  generalize BitVec.ofInt 32 (IntKind.u32.wrap _) = a
  have h : (a &&& BitVec.ofInt 32 1023).toNat ≤ 1023 := by
    rw [BitVec.toNat_and]
    exact Nat.le_trans Nat.and_le_right (by decide)
  rw [wru32 _ (by omega) (by omega)]
  omega
theorem bucket_lt (c : Int × Int) : bucketI c < 1024 := by have := bucketZ_range c; unfold bucketI; omega
theorem bucket_eq (c : Int × Int) : bucketZ c = (bucketI c : Int) := by have := bucketZ_range c; unfold bucketI; omega
end Go.Bil
