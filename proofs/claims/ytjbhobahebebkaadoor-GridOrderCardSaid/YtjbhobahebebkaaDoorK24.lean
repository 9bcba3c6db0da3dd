/- Part of the proof of the laws of this seat: MdX, MdY, MdZ, MdM, MdI, MdJ, MdK, MdL, MdV, FwZ. No conditions. -/
import Derived.Test.YtjbhobahebebkaaDoorK7
import Derived.Test.YtjbhobahebebkaaDoorK16
import Derived.Test.YtjbhobahebebkaaDoorK11
/- Plain laws of nearest points and of contacts. -/
set_option linter.unusedVariables false
set_option linter.unusedSimpArgs false
namespace Go.Bil
abbrev Pt := Int × Int
structure PtI (v : Pt) : Prop where
  x : -1082130432 ≤ v.1 ∧ v.1 ≤ 1082130432
  y : -1082130432 ≤ v.2 ∧ v.2 ≤ 1082130432
theorem PtI.i32 {v : Pt} (h : PtI v) : I32 v := ⟨by have := h.x; omega, by have := h.y; omega⟩
theorem PtI.inX {v u : Pt} (h : PtI v) (g : PtI u) : InD (u.1 - v.1) := by have := h.x; have := g.x; unfold InD; omega
theorem PtI.inY {v u : Pt} (h : PtI v) (g : PtI u) : InD (u.2 - v.2) := by have := h.y; have := g.y; unfold InD; omega
theorem mulB {a b : Int} {A B : Nat} (ha : a.natAbs ≤ A) (hb : b.natAbs ≤ B) : -((A * B : Nat) : Int) ≤ a * b ∧ a * b ≤ ((A * B : Nat) : Int) := by
  have h := Nat.mul_le_mul ha hb
  rw [← Int.natAbs_mul] at h
  omega
def parD (p q : Pt) : Int := (q.1 - p.1) * (q.1 - p.1) + (q.2 - p.2) * (q.2 - p.2)
def parN (p q c : Pt) : Int := max 0 (min ((c.1 - p.1) * (q.1 - p.1) + (c.2 - p.2) * (q.2 - p.2)) (parD p q))
def nearest (p q c : Pt) : Pt := if parD p q = 0 then p else (p.1 + (q.1 - p.1) * parN p q c / parD p q, p.2 + (q.2 - p.2) * parN p q c / parD p q)
/-- The pair of points chosen so far, with the square of their distance. -/
abbrev Ch := Pt × Pt × Nat
def chStep (s : Ch) (x y : Pt) : Ch := if lsq (y.1 - x.1) (y.2 - x.2) < s.2.2 then (x, y, lsq (y.1 - x.1) (y.2 - x.2)) else s
def ch0 : Ch := ((0, 0), (0, 0), 18446744073709551615)
def chosen (ap aq bp bq : Pt) : Ch := chStep (chStep (chStep (chStep ch0 ap (nearest bp bq ap)) aq (nearest bp bq aq)) (nearest ap aq bp) bp) (nearest ap aq bq) bq
structure ChI (s : Ch) : Prop where
  a : PtI s.1
  b : PtI s.2.1
  l : s.2.2 < 18446744073709551616
theorem ChI.step {s : Ch} {x y : Pt} (h : ChI s) (hx : PtI x) (hy : PtI y) : ChI (chStep s x y) := by
  unfold chStep
  split
  · exact ⟨hx, hy, (lsq_lt (hx.inX hy) (hx.inY hy)).1⟩
  · exact h
structure Con where
  low : Int
  high : Int
  nx : Int
  ny : Int
  depth : Int
deriving DecidableEq
end Go.Bil

/- Plain laws of the contacts of a view. -/
set_option linter.unusedVariables false
set_option linter.unusedSimpArgs false
namespace Go.Bil
/-! ### Moving all bodies -/
/-! ### The deepest contact -/
def deepG : Con → List Con → Con
  | b, [] => b
  | b, c :: l => deepG (if b.depth < c.depth then c else b) l
def deepC : List Con → Option Con
  | [] => none
  | c :: l => some (deepG c l)
end Go.Bil

/- Plain laws of the references of layers 1 to 14: numbers by digits of 16 bits, long division bit by bit, roots by halving. -/
set_option linter.unusedVariables false
set_option linter.unusedSimpArgs false
namespace Go.Bil
/-! ### Digits -/
/-! ### Long division, a bit a round -/
/-! ### The deepest contact is the first of its depth -/
theorem deepG_max : ∀ (l : List Con) (b : Con), b.depth ≤ (deepG b l).depth ∧ ∀ c ∈ l, c.depth ≤ (deepG b l).depth
  | [], b => ⟨Int.le_refl _, by simp⟩
  | x :: l, b => by
    have ih := deepG_max l (if b.depth < x.depth then x else b)
    have e : deepG b (x :: l) = deepG (if b.depth < x.depth then x else b) l := rfl
    rw [e]
    by_cases hx : b.depth < x.depth
    · rw [if_pos hx] at ih ⊢
      refine ⟨by omega, fun c hc => ?_⟩
      rcases List.mem_cons.1 hc with rfl | hc
      · exact ih.1
      · exact ih.2 c hc
    · rw [if_neg hx] at ih ⊢
      refine ⟨ih.1, fun c hc => ?_⟩
      rcases List.mem_cons.1 hc with rfl | hc
      · omega
      · exact ih.2 c hc
theorem deepG_at : ∀ (l : List Con) (b : Con), ∃ j : Nat, (b :: l)[j]? = some (deepG b l) ∧ ∀ (i : Nat) (c : Con), i < j → (b :: l)[i]? = some c → c.depth < (deepG b l).depth
  | [], b => ⟨0, rfl, fun i c h => by omega⟩
  | x :: l, b => by
    have e : deepG b (x :: l) = deepG (if b.depth < x.depth then x else b) l := rfl
    obtain ⟨j, h1, h2⟩ := deepG_at l (if b.depth < x.depth then x else b)
    have hm := deepG_max l (if b.depth < x.depth then x else b)
    rw [e]
    by_cases hc : b.depth < x.depth
    · rw [if_pos hc] at h1 h2 hm ⊢
      refine ⟨j + 1, by simpa using h1, fun i c hi hci => ?_⟩
      cases i with
      | zero => simp only [List.getElem?_cons_zero, Option.some.injEq] at hci; subst hci; omega
      | succ i => exact h2 i c (by omega) (by simpa using hci)
    · rw [if_neg hc] at h1 h2 hm ⊢
      cases j with
      | zero => exact ⟨0, by simpa using h1, fun i c h => by omega⟩
      | succ j =>
        have hb := h2 0 b (by omega) rfl
        refine ⟨j + 2, by simpa using h1, fun i c hi hci => ?_⟩
        match i, hci with
        | 0, hci => simp only [List.getElem?_cons_zero, Option.some.injEq] at hci; subst hci; exact hb
        | 1, hci => simp only [List.getElem?_cons_succ, List.getElem?_cons_zero, Option.some.injEq] at hci; subst hci; omega
        | i + 2, hci => exact h2 (i + 1) c (by omega) (by simpa using hci)
def zCon : Con := ⟨0, 0, 0, 0, 0⟩
theorem deepC_law {l : List Con} {d : Con} (hd : (deepC l).getD zCon = d) (hl : l ≠ []) : d ∈ l ∧ (∀ c ∈ l, c.depth ≤ d.depth) ∧ ∀ (i : Nat) (c : Con), l[i]? = some c → d ∉ l.take i → c.depth = d.depth → c = d := by
  cases l with
  | nil => exact absurd rfl hl
  | cons b l =>
    have hd' : deepG b l = d := hd
    obtain ⟨j, h1, h2⟩ := deepG_at l b
    have hm := deepG_max l b
    rw [hd'] at h1 h2 hm
    refine ⟨List.mem_of_getElem? h1, fun c hc => ?_, fun i c hi hn he => ?_⟩
    · rcases List.mem_cons.1 hc with rfl | hc
      · exact hm.1
      · exact hm.2 c hc
    · rcases Nat.lt_trichotomy i j with h | h | h
      · have := h2 i c h hi; omega
      · subst h; rw [hi] at h1; injection h1
      · refine absurd (List.mem_of_getElem? (i := j) ?_) hn
        rw [List.getElem?_take, if_pos h]; exact h1
/-! ### A root by halving -/
end Go.Bil

namespace Go.Bil
/-! ### The chosen points, by a list -/
structure ChL (s : Ch) : Prop where
  i : ChI s
  l : s.2.2 = lsq (s.2.1.1 - s.1.1) (s.2.1.2 - s.1.2)
theorem ChL.step {s : Ch} {x y : Pt} (h : ChL s) (hx : PtI x) (hy : PtI y) : ChL (chStep s x y) := by
  refine ⟨h.i.step hx hy, ?_⟩
  unfold chStep
  split
  · rfl
  · exact h.l
/-! ### Bodies in contact have boxes that overlap -/
end Go.Bil
namespace Go.Bil
end Go.Bil
namespace Go.Bil
end Go.Bil
namespace Go.Bil
end Go.Bil
namespace Go.Bil
/-! ### The best so far, by its place -/
structure BestC (ys : List Con) (i j : Nat) : Prop where
  lt : ys ≠ [] → j < ys.length
  z : i = 0 → j = 0
  ji : i ≠ 0 → j < i
  mx : ∀ (p : Nat) (x b : Con), p < i → ys[p]? = some x → ys[j]? = some b → x.depth ≤ b.depth ∧ (p < j → x.depth < b.depth)
theorem BestC.new {ys : List Con} {i j : Nat} {x b : Con} (h : BestC ys i j) (hx : ys[i]? = some x) (hb : ys[j]? = some b) (hc : x.depth > b.depth) : BestC ys (i + 1) i := by
  have hi := (List.getElem?_eq_some_iff.1 hx).1
  refine ⟨fun _ => hi, fun h => by omega, fun _ => by omega, fun p y c hp hy hcx => ?_⟩
  rw [hx] at hcx
  injection hcx with hcx
  subst hcx
  by_cases hpi : p = i
  · subst hpi
    rw [hx] at hy
    injection hy with hy
    subst hy
    exact ⟨Int.le_refl _, fun h => by omega⟩
  · have := (h.mx p y b (by omega) hy hb).1
    exact ⟨by omega, fun _ => by omega⟩
theorem BestC.old {ys : List Con} {i j : Nat} {x b : Con} (h : BestC ys i j) (hx : ys[i]? = some x) (hb : ys[j]? = some b) (hc : ¬ x.depth > b.depth) : BestC ys (i + 1) j := by
  refine ⟨h.lt, fun h => by omega, fun _ => ?_, fun p y c hp hy hcx => ?_⟩
  · by_cases hi : i = 0
    · have := h.z hi; omega
    · have := h.ji hi; omega
  · rw [hb] at hcx
    injection hcx with hcx
    subst hcx
    by_cases hpi : p = i
    · subst hpi
      rw [hx] at hy
      injection hy with hy
      subst hy
      refine ⟨by omega, fun hpj => ?_⟩
      by_cases hi : p = 0
      · have := h.z hi; omega
      · have := h.ji hi; omega
    · exact h.mx p y b (by omega) hy hb
theorem BestC.done {ys : List Con} {m j : Nat} {d : Con} (h : BestC ys m j) (hn : ys ≠ []) (hl : ys.length = m) (hd : (deepC ys).getD zCon = d) : ∃ x, ys[j]? = some x ∧ d = x := by
  have hj := h.lt hn
  refine ⟨ys[j], List.getElem?_eq_getElem hj, ?_⟩
  have hg := List.getElem?_eq_getElem hj
  obtain ⟨h1, h2, h3⟩ := deepC_law hd hn
  obtain ⟨p, hp⟩ := List.getElem?_of_mem h1
  have hpl := (List.getElem?_eq_some_iff.1 hp).1
  have e1 := (h.mx p d _ (by omega) hp hg).1
  have e2 := h2 _ (List.getElem_mem hj)
  refine (h3 j _ hg ?_ (by omega)).symm
  intro hm
  obtain ⟨q, hq⟩ := List.getElem?_of_mem hm
  rw [List.getElem?_take] at hq
  split at hq
  · have := (h.mx q d _ (by omega) hq hg).2 (by omega)
    omega
  · cases hq
/-! ### All contacts, by their pairs -/
end Go.Bil

/- Plain laws of measures. -/
set_option linter.unusedVariables false
set_option linter.unusedSimpArgs false
namespace Go.Bil
/-- A box as measures have them: the empty one, or one with points. -/
def GoodB (a : Bx) : Prop := a = noneB ∨ (a.x0 ≤ a.x1 ∧ a.y0 ≤ a.y1)
/-! ### Measures -/
structure Meas where
  nb : Int
  ns : Int
  sp : Nat
  sx : Int
  sy : Int
  bx : Bx
  ov : Int
deriving DecidableEq
/-- What a measure of at most k bodies is like. -/
structure OkM (k : Nat) (m : Meas) : Prop where
  g : GoodB m.bx
  x : m.bx = noneB ∨ Okx m.bx
  nb : 0 ≤ m.nb ∧ m.nb ≤ k
  ns : 0 ≤ m.ns ∧ m.ns ≤ m.nb
  sp : m.sp < 18446744073709551616
  sx : -(16777216 * (k : Int)) ≤ m.sx ∧ m.sx ≤ 16777216 * k
  sy : -(16777216 * (k : Int)) ≤ m.sy ∧ m.sy ≤ 16777216 * k
  ov : -(2147483648 * ((k : Int) * k)) ≤ m.ov ∧ m.ov ≤ 2147483648 * ((k : Int) * k)
theorem OkM.mono {j k : Nat} {a : Meas} (h : OkM j a) (hjk : j ≤ k) : OkM k a := by
  have n1 := h.nb; have x1 := h.sx; have y1 := h.sy; have o1 := h.ov
  have hsq : (j : Int) * j ≤ (k : Int) * k := Int.mul_le_mul (by omega) (by omega) (by omega) (by omega)
  refine ⟨h.g, h.x, by omega, h.ns, h.sp, by omega, by omega, ?_⟩
  generalize (j : Int) * j = J at *
  generalize (k : Int) * k = K at *
  omega
/-! ### The measure of a view -/
/-! ### Depths -/
/-! ### Quiet -/
/-! ### Moved -/
/-! ### Two parts of a view -/
end Go.Bil

/- Plain laws of islands: a forest of keys, and a matrix that is closed. -/
set_option linter.unusedVariables false
set_option linter.unusedSimpArgs false
namespace Go.Bil
/-! ### A forest -/
/-! ### The forest of a view and its contacts -/
end Go.Bil

/- Plain laws of islands: the lists, and the matrix of the reference. -/
set_option linter.unusedVariables false
set_option linter.unusedSimpArgs false
namespace Go.Bil
/-! ### The lists of the islands -/
/-! ### The matrix of the reference -/
end Go.Bil
namespace Go.Bil
/-- A contact as the laws of islands admit it. -/
structure RightOne (xs : List Body) (c : Con) : Prop where
  ne : ¬ c.low = c.high
  l : 0 ≤ findI c.low xs
  h : 0 ≤ findI c.high xs
instance (xs : List Body) (c : Con) : Decidable (RightOne xs c) := decidable_of_iff (¬ c.low = c.high ∧ 0 ≤ findI c.low xs ∧ 0 ≤ findI c.high xs) ⟨fun h => ⟨h.1, h.2.1, h.2.2⟩, fun h => ⟨h.1, h.2, h.3⟩⟩
end Go.Bil
namespace Go.Bil
end Go.Bil
namespace Go.Bil
end Go.Bil

/- Islands in memory: a row of slice headers, and the rows behind them. -/
set_option linter.unusedVariables false
set_option linter.unusedSimpArgs false
namespace Go.Bil
structure IslR (T : Nat) (rs : List Row) (L : List (List Int)) : Prop where
  len : rs.length = L.length
  row : ∀ (j : Nat) (r : Row) (l : List Int), rs[j]? = some r → L[j]? = some l → RowIs T 1 r.A r.n r.c (l.map keyCell) r.e
theorem IslR.nil (T : Nat) : IslR T [] [] := ⟨rfl, by simp⟩
theorem IslR.put {T : Nat} {rs : List Row} {L : List (List Int)} (h : IslR T rs L) {j : Nat} {r : Row} {l : List Int} (hj : j < L.length) (hr : RowIs T 1 r.A r.n r.c (l.map keyCell) r.e) : IslR T (rs.set j r) (L.set j l) := by
  refine ⟨by rw [List.length_set, List.length_set, h.len], fun k q m hq hm => ?_⟩
  rw [List.getElem?_set] at hq hm
  by_cases hk : j = k
  · subst hk
    rw [if_pos rfl, if_pos (by rw [h.len]; exact hj)] at hq
    rw [if_pos rfl, if_pos hj] at hm
    injection hq with hq
    injection hm with hm
    subst hq hm
    exact hr
  · rw [if_neg hk] at hq hm
    exact h.row k q m hq hm
end Go.Bil

/- The reference's islands: read off the closed matrix; they are the same lists. -/
set_option linter.unusedVariables false
set_option linter.unusedSimpArgs false
namespace Go.Bil
theorem IslR.add {T : Nat} {rs : List Row} {L : List (List Int)} {r : Row} {l : List Int} (h : IslR T rs L) (hr : RowIs T 1 r.A r.n r.c (l.map keyCell) r.e) : IslR T (rs ++ [r]) (L ++ [l]) := by
  refine ⟨by simp [h.len], fun j q k hq hk => ?_⟩
  by_cases hj : j < rs.length
  · rw [List.getElem?_append_left hj] at hq
    rw [List.getElem?_append_left (by rw [← h.len]; exact hj)] at hk
    exact h.row j q k hq hk
  · have hj2 : j = rs.length := by
      have := (List.getElem?_eq_some_iff.1 hq).1
      simp at this
      omega
    rw [hj2, List.getElem?_append_right (Nat.le_refl _), Nat.sub_self] at hq
    rw [hj2, h.len, List.getElem?_append_right (Nat.le_refl _), Nat.sub_self] at hk
    simp only [List.getElem?_cons_zero, Option.some.injEq] at hq hk
    subst hq hk
    exact hr
end Go.Bil

/- Plain laws of a grid that is filled with entries. -/
set_option linter.unusedVariables false
set_option linter.unusedSimpArgs false
namespace Go.Bil
/-- An entry: its key, its box. -/
abbrev GE := Int × Bx
def geCells (x : GE) : List Value := .int .u32 x.1 :: bxCells x.2
def bks (a : Bx) : List Nat := (cellsB a).map bucketI
theorem bks_lt {a : Bx} {n : Nat} (h : n ∈ bks a) : n < 1024 := by
  obtain ⟨c, _, rfl⟩ := List.mem_map.1 h
  exact bucket_lt c
def fillG (es : List GE) (g : Nat → List Int) : Nat → List Int := es.foldl (fun g x => addG g x.1 (bks x.2)) g
def noG : Nat → List Int := fun _ => []
theorem fillG_snoc {es : List GE} {k : Nat} {x : GE} (h : es[k]? = some x) (g : Nat → List Int) : fillG (es.take (k + 1)) g = addG (fillG (es.take k) g) x.1 (bks x.2) := by
  unfold fillG; rw [take_snoc h, List.foldl_append]; rfl
theorem fillG_app (es fs : List GE) (g : Nat → List Int) : fillG fs (fillG es g) = fillG (es ++ fs) g := by unfold fillG; rw [List.foldl_append]
theorem fillG_eq : ∀ (es : List GE) (g : Nat → List Int) (n : Nat), fillG es g n = g n ++ (es.filter (fun x => decide (n ∈ bks x.2))).map (·.1)
  | [], g, n => by simp [fillG]
  | x :: es, g, n => by
    have ih := fillG_eq es (addG g x.1 (bks x.2)) n
    show fillG es (addG g x.1 (bks x.2)) n = _
    rw [ih]
    unfold addG
    by_cases h : n ∈ bks x.2
    · rw [if_pos h, List.filter_cons_of_pos (by simpa using h)]; simp
    · rw [if_neg h, List.filter_cons_of_neg (by simpa using h)]
theorem mem_fill {es : List GE} {n : Nat} {k : Int} : k ∈ fillG es noG n ↔ ∃ x ∈ es, x.1 = k ∧ n ∈ bks x.2 := by
  rw [fillG_eq]
  simp only [noG, List.nil_append, List.mem_map, List.mem_filter, decide_eq_true_eq]
  exact ⟨fun ⟨x, ⟨h1, h2⟩, h3⟩ => ⟨x, h1, h3, h2⟩, fun ⟨x, h1, h2, h3⟩ => ⟨x, ⟨h1, h3⟩, h2⟩⟩
theorem fill_len (es : List GE) (n : Nat) : (fillG es noG n).length ≤ es.length := by
  rw [fillG_eq]
  simp only [noG, List.nil_append, List.length_map]
  exact List.length_filter_le _ _
theorem fill_lenG (es : List GE) (g : Nat → List Int) (n : Nat) : (fillG es g n).length ≤ (g n).length + es.length := by
  rw [fillG_eq, List.length_append, List.length_map]
  have := List.length_filter_le (fun x : GE => decide (n ∈ bks x.2)) es
  omega
/-! ### Candidates -/
def candP (es : List GE) (z : Int × Int) : Prop := z.1 < z.2 ∧ ∃ x ∈ es, ∃ y ∈ es, x.1 = z.1 ∧ y.1 = z.2 ∧ ∃ n, n ∈ bks x.2 ∧ n ∈ bks y.2
theorem cand_fill {es : List GE} {z : Int × Int} : z ∈ cands (fillG es noG) 1024 ↔ candP es z := by
  rw [mem_cands]
  unfold candP
  constructor
  · rintro ⟨n, hn, a, ha, b, hb, hne, rfl⟩
    obtain ⟨x, hx, rfl, hxn⟩ := mem_fill.1 ha
    obtain ⟨y, hy, rfl, hyn⟩ := mem_fill.1 hb
    unfold prI
    by_cases h : x.1 < y.1
    · exact ⟨by simp only; omega, x, hx, y, hy, by simp only; omega, by simp only; omega, n, hxn, hyn⟩
    · exact ⟨by simp only; omega, y, hy, x, hx, by simp only; omega, by simp only; omega, n, hyn, hxn⟩
  · rintro ⟨hlt, x, hx, y, hy, e1, e2, n, hxn, hyn⟩
    refine ⟨n, bks_lt hxn, x.1, mem_fill.2 ⟨x, hx, rfl, hxn⟩, y.1, mem_fill.2 ⟨y, hy, rfl, hyn⟩, by omega, ?_⟩
    unfold prI
    apply Prod.ext <;> simp only <;> omega
theorem cand_congr {es fs : List GE} (h : ∀ x, x ∈ es ↔ x ∈ fs) {z : Int × Int} : candP es z ↔ candP fs z := by
  unfold candP
  simp only [h]
/-! ### The keys at a point -/
def cellP (x y : Int) : Int × Int := (cdiv x, cdiv y)
abbrev AscI (l : List Int) : Prop := l.Pairwise (· < ·)
theorem ascI_unique : ∀ {l m : List Int}, AscI l → AscI m → (∀ z, z ∈ l ↔ z ∈ m) → l = m
  | [], [], _, _, _ => rfl
  | [], a :: m, _, _, h => by have := (h a).2 (by simp); cases this
  | a :: l, [], _, _, h => by have := (h a).1 (by simp); cases this
  | a :: l, b :: m, h1, h2, h => by
    obtain ⟨p1, q1⟩ := List.pairwise_cons.1 h1
    obtain ⟨p2, q2⟩ := List.pairwise_cons.1 h2
    have e : a = b := by
      rcases List.mem_cons.1 ((h a).1 (by simp)) with e | hm
      · exact e
      · rcases List.mem_cons.1 ((h b).2 (by simp)) with e | hl
        · exact e.symm
        · have := p1 b hl; have := p2 a hm; omega
    subst e
    congr 1
    refine ascI_unique q1 q2 (fun z => ⟨fun hz => ?_, fun hz => ?_⟩)
    · rcases List.mem_cons.1 ((h z).1 (List.mem_cons_of_mem _ hz)) with e | hm
      · subst e; have := p1 z hz; omega
      · exact hm
    · rcases List.mem_cons.1 ((h z).2 (List.mem_cons_of_mem _ hz)) with e | hm
      · subst e; have := p2 z hz; omega
      · exact hm
/-! ### A pair is put among others -/
/-! ### The reference's candidates -/
/-- The number of candidates. -/
theorem cand_len {es : List GE} {ps : List (Int × Int)} (ha : Asc ps) (h : ∀ z ∈ ps, z.1 ∈ es.map (·.1) ∧ z.2 ∈ es.map (·.1)) : ps.length ≤ es.length * es.length := by
  have := nodup_le (asc_nodup ha) (m := prodL (es.map (·.1))) (fun z hz => mem_prodL.2 (h z hz))
  rwa [prodL_len, List.length_map] at this
/-! ### A key is put among others -/
/-! ### The reference's keys at a point -/
/-! ### Compacting what is sorted -/
abbrev Ord (l : List Int) : Prop := l.Pairwise (· ≤ ·)
theorem ord_at {l : List Int} (h : Ord l) {i j : Nat} {a b : Int} (hij : i < j) (ha : l[i]? = some a) (hb : l[j]? = some b) : a ≤ b := by
  obtain ⟨h1, e1⟩ := List.getElem?_eq_some_iff.1 ha
  obtain ⟨h2, e2⟩ := List.getElem?_eq_some_iff.1 hb
  have := List.pairwise_iff_getElem.1 h i j h1 h2 hij
  rw [e1, e2] at this
  exact this
theorem mergeI_ord (l : List Int) : Ord (l.mergeSort (fun x y => decide (x ≤ y))) :=
  (List.pairwise_mergeSort (le := fun x y : Int => decide (x ≤ y)) (fun a b c h1 h2 => by simp only [decide_eq_true_eq] at *; omega) (fun a b => by simp only [Bool.or_eq_true, decide_eq_true_eq]; omega) l).imp (fun h => by simpa using h)
theorem mergeI_perm (l : List Int) : (l.mergeSort (fun x y => decide (x ≤ y))).Perm l := List.mergeSort_perm l _
/-- The first of the list so far, each once. -/
structure Cmp (l m : List Int) (j : Nat) : Prop where
  a : AscI m
  e : ∀ z, z ∈ m ↔ z ∈ l.take j
  t : ∀ z, l[j - 1]? = some z → ∃ q, m = q ++ [z]
theorem cmp_one {l : List Int} {z : Int} (h : l[0]? = some z) : Cmp l [z] 1 := by
  refine ⟨by simp, fun y => ?_, fun y hy => ?_⟩
  · rw [take_snoc h]; simp
  · rw [Nat.sub_self, h] at hy; injection hy with hy; subst hy; exact ⟨[], rfl⟩
theorem cmp_new {l m : List Int} {j : Nat} {x z : Int} (h : Cmp l m j) (hl : Ord l) (hj : 0 < j) (hx : l[j - 1]? = some x) (hz : l[j]? = some z) (hne : ¬ z = x) : Cmp l (m ++ [z]) (j + 1) := by
  obtain ⟨q, rfl⟩ := h.t x hx
  have hxz := ord_at hl (show j - 1 < j by omega) hx hz
  refine ⟨List.pairwise_append.2 ⟨h.a, by simp, fun a ha b hb => ?_⟩, fun y => ?_, fun y hy => ?_⟩
  · simp only [List.mem_singleton] at hb
    subst hb
    rcases List.mem_append.1 ha with ha | ha
    · have := (List.pairwise_append.1 h.a).2.2 a ha x (by simp); omega
    · simp only [List.mem_singleton] at ha; omega
  · rw [take_snoc hz]; exact ⟨fun r => (List.mem_append.1 r).elim (fun r => List.mem_append_left _ ((h.e y).1 r)) (fun r => List.mem_append_right _ r), fun r => (List.mem_append.1 r).elim (fun r => List.mem_append_left _ ((h.e y).2 r)) (fun r => List.mem_append_right _ r)⟩
  · rw [Nat.add_sub_cancel, hz] at hy; injection hy with hy; subst hy; exact ⟨_, rfl⟩
theorem cmp_old {l m : List Int} {j : Nat} {x z : Int} (h : Cmp l m j) (hx : l[j - 1]? = some x) (hz : l[j]? = some z) (he : z = x) (hj : 0 < j) : Cmp l m (j + 1) := by
  subst he
  refine ⟨h.a, fun y => ?_, fun y hy => ?_⟩
  · rw [take_snoc hz, List.mem_append, h.e y]
    refine ⟨.inl, fun r => r.elim id (fun r => ?_)⟩
    simp only [List.mem_singleton] at r
    subst r
    refine List.mem_of_getElem? (i := j - 1) ?_
    rw [List.getElem?_take_of_lt (by omega)]
    exact hx
  · rw [Nat.add_sub_cancel, hz] at hy
    exact h.t y (by rw [hx]; exact hy)
theorem cmp_take {l : List Int} {k : Nat} (hl : Ord l) (hk : 0 < k) (hkl : k ≤ l.length) (hne : ∀ (j : Nat) (x y : Int), 0 < j → j < k → l[j - 1]? = some x → l[j]? = some y → x ≠ y) : Cmp l (l.take k) k := by
  induction k with
  | zero => omega
  | succ k ih =>
    obtain ⟨z, hz⟩ : ∃ z, l[k]? = some z := ⟨_, List.getElem?_eq_getElem (by omega)⟩
    by_cases h0 : k = 0
    · subst h0
      rw [take_snoc hz]
      exact cmp_one hz
    · obtain ⟨x, hx⟩ : ∃ x, l[k - 1]? = some x := ⟨_, List.getElem?_eq_getElem (by omega)⟩
      have h1 := ih (by omega) (by omega) (fun j x y a b => hne j x y a (by omega))
      rw [take_snoc hz]
      exact cmp_new h1 hl (by omega) hx hz (fun e => hne k x z (by omega) (by omega) hx hz e.symm)
/-- What compacting a sorted list leaves. -/
structure Cpt (l m : List Int) : Prop where
  a : AscI m
  e : ∀ z, z ∈ m ↔ z ∈ l
theorem Cmp.done {l m : List Int} {j : Nat} (h : Cmp l m j) (hj : l.length ≤ j) : Cpt l m := ⟨h.a, fun z => by rw [h.e z, List.take_of_length_le hj]⟩
theorem cpt_small {l : List Int} (h : l.length < 2) : Cpt l l := by
  refine ⟨?_, fun _ => Iff.rfl⟩
  match l, h with
  | [], _ => simp
  | [a], _ => simp
theorem adjNextI {l : List Int} {k : Nat} {x0 y0 : Int} (h : ∀ (j : Nat) (x y : Int), 0 < j → j < k → l[j - 1]? = some x → l[j]? = some y → x ≠ y) (hx0 : l[k - 1]? = some x0) (hy0 : l[k]? = some y0) (hn : ¬ y0 = x0) : ∀ (j : Nat) (x y : Int), 0 < j → j < k + 1 → l[j - 1]? = some x → l[j]? = some y → x ≠ y := fun j x y h1 h2 hx hy => by
  by_cases hj : j < k
  · exact h j x y h1 hj hx hy
  · have e : j = k := by omega
    subst e
    rw [hx0] at hx
    rw [hy0] at hy
    injection hx with hx
    injection hy with hy
    omega
end Go.Bil

/- Memory with a grid behind; rows of rows of numbers. -/
set_option linter.unusedVariables false
set_option linter.unusedSimpArgs false
namespace Go.Bil
section
variable {w0 w w' : World} {X : List Nat}
theorem Mem.awayS {S S' : List Ent} {sz nn : Nat} {A : Option Addr} {ls : List (List Value)} (M : Mem w0 X S w) (R : Rd w0 sz A nn ls) (hd : 0 < nn → ∀ q off, A = some ⟨q, off, none⟩ → q ∉ X) (hs : ∀ e ∈ S', e ∈ S) : 0 < nn → ∀ q off, A = some ⟨q, off, none⟩ → q ∉ blks S' := by
  intro hn q off hA hq
  obtain ⟨o, ho⟩ := mem_blks.1 hq
  obtain ⟨b, off', hA', hlt, _⟩ := R.at_ hn
  rw [hA] at hA'
  injection hA' with hA'
  injection hA' with hA'
  subst hA'
  rcases (M.own _ _ (hs _ ho)).2 with h | h
  · omega
  · exact hd hn q off hA h
theorem Mem.gridSeg {g x : Ent} {T : List Ent} (M : Mem w0 X ([g, x] ++ T) w) : Own (g :: T) w := (M.sub (List.Sublist.cons_cons g (List.sublist_cons_self x T))).toOwn
theorem Mem.gridCall {g x g' : Ent} {T T' : List Ent} (M : Mem w0 X ([g, x] ++ T) w) (C : Mem w (blks (g :: T)) (g' :: T') w') : Mem w0 X ([g', x] ++ T') w' := by
  have h1 : Mem w0 X ([x] ++ (g :: T)) w := M.perm (List.Perm.swap x g T)
  exact (h1.tail C).perm (List.Perm.swap g' x T')
theorem Mem.gridAway {g x : Ent} {T : List Ent} {sz nn : Nat} {A : Option Addr} {ls : List (List Value)} (M : Mem w0 X ([g, x] ++ T) w) (R : Rd w0 sz A nn ls) (hd : 0 < nn → ∀ q off, A = some ⟨q, off, none⟩ → q ∉ X) : 0 < nn → ∀ q off, A = some ⟨q, off, none⟩ → q ∉ blks (g :: T) :=
  M.awayS R hd (fun e he => by
    rcases List.mem_cons.1 he with h | h
    · simp [h]
    · simp [h])
theorem Mem.last3 {a b x x' : Ent} {T : List Ent} (M : Mem w0 X ([a, b, x] ++ T) w) (C : Mem w (blks [x]) [x'] w') : Mem w0 X ([a, b, x'] ++ T) w' := by
  have h1 : Mem w0 X (([a, b] ++ T) ++ [x]) w := M.perm (by
    show ([a, b] ++ ([x] ++ T)).Perm _
    rw [List.append_assoc]
    exact List.Perm.append_left _ List.perm_append_comm)
  exact (h1.tail C).perm (by
    show (([a, b] ++ T) ++ [x']).Perm ([a, b] ++ ([x'] ++ T))
    rw [List.append_assoc]
    exact List.Perm.append_left _ List.perm_append_comm)
/-- What a call on a grid hands out besides it. -/
theorem Mem.gridGet {g x : Ent} {L T : List Ent} (M : Mem w0 X (L ++ (g :: T)) w) (C : Mem w (blks (g :: T)) ([g, x] ++ T) w') : Mem w0 X ((L ++ [x]) ++ (g :: T)) w' := by
  have h := M.tail C
  refine h.perm ?_
  rw [List.append_assoc]
  exact List.Perm.append_left L (List.Perm.swap x g T)
theorem Mem.tailA {L A B A' : List Ent} (M : Mem w0 X (L ++ (A ++ B)) w) (C : Mem w (blks A) A' w') : Mem w0 X (L ++ (A' ++ B)) w' := by
  have h1 : Mem w0 X ((L ++ B) ++ A) w := M.perm (by rw [List.append_assoc]; exact List.Perm.append_left L List.perm_append_comm)
  exact (h1.tail C).perm (by rw [List.append_assoc]; exact List.Perm.append_left L List.perm_append_comm)
theorem Mem.tailB {L A B B' : List Ent} (M : Mem w0 X (L ++ (A ++ B)) w) (C : Mem w (blks B) B' w') : Mem w0 X (L ++ (A ++ B')) w' := by
  have h1 : Mem w0 X ((L ++ A) ++ B) w := by rw [List.append_assoc]; exact M
  have h2 := h1.tail C
  rwa [List.append_assoc] at h2
theorem Mem.ownTA {L A B : List Ent} (M : Mem w0 X (L ++ (A ++ B)) w) : Own A w := (M.sub ((List.sublist_append_left A B).trans (List.sublist_append_right L _))).toOwn
theorem Mem.ownTB {L A B : List Ent} (M : Mem w0 X (L ++ (A ++ B)) w) : Own B w := (M.sub ((List.sublist_append_right A B).trans (List.sublist_append_right L _))).toOwn
theorem subk_get {α : Type} {f : α → List Value} {xs : List α} {a b i : Nat} {x : α} (h : xs[a + i]? = some x) (hk : i < b - a) : (((xs.map f).drop a).take (b - a))[i]? = some (f x) := by
  rw [List.getElem?_take, if_pos hk, List.getElem?_drop]
  exact mapGet f h
theorem Mem.asA {L A B : List Ent} (M : Mem w0 X (L ++ (A ++ B)) w) : Mem w0 X ((L ++ B) ++ A) w := M.perm (by rw [List.append_assoc]; exact List.Perm.append_left L List.perm_append_comm)
theorem Mem.asB {L A B : List Ent} (M : Mem w0 X (L ++ (A ++ B)) w) : Mem w0 X ((L ++ A) ++ B) w := by rw [List.append_assoc]; exact M
theorem Mem.getA {g x : Ent} {L T B : List Ent} (M : Mem w0 X (L ++ ((g :: T) ++ B)) w) (C : Mem w (blks (g :: T)) ([g, x] ++ T) w') : Mem w0 X ((L ++ [x]) ++ ((g :: T) ++ B)) w' := by
  have h := Mem.gridGet M.asA C
  refine h.perm ?_
  rw [List.append_assoc, List.append_assoc, List.append_assoc]
  refine List.Perm.append_left L ?_
  have p1 : (B ++ ([x] ++ (g :: T))).Perm ([x] ++ (B ++ (g :: T))) := by
    rw [← List.append_assoc, ← List.append_assoc]
    exact List.Perm.append_right _ List.perm_append_comm
  exact p1.trans (List.Perm.append_left _ List.perm_append_comm)
theorem Mem.getB {g x : Ent} {L A T : List Ent} (M : Mem w0 X (L ++ (A ++ (g :: T))) w) (C : Mem w (blks (g :: T)) ([g, x] ++ T) w') : Mem w0 X ((L ++ [x]) ++ (A ++ (g :: T))) w' := by
  have h := Mem.gridGet M.asB C
  refine h.perm ?_
  rw [List.append_assoc, List.append_assoc, List.append_assoc]
  refine List.Perm.append_left L ?_
  rw [← List.append_assoc, ← List.append_assoc]
  exact List.Perm.append_right _ List.perm_append_comm
/-- A second grid is made behind a first one. -/
theorem Mem.gridNew2 {L A : List Ent} {b T : Nat} (M : Mem w0 X ((L ++ [(some b, bc (gcells (List.replicate 1024 nilRow) 0) T)]) ++ A) w) : Mem w0 X (L ++ (A ++ ((some b, bc (gcells (List.replicate 1024 nilRow) 0) T) :: (List.replicate 1024 nilRow).map Row.e))) w := by
  have h1 := Mem.gridNew (M.front)
  rwa [List.append_assoc] at h1
theorem grid_noG (T : Nat) : GridRows T (List.replicate 1024 nilRow) noG := grid_new T
end
/-! ### Rows of rows of numbers -/
def numCell (n : Nat) : List Value := [.int .i64 (n : Int)]
structure NumR (T : Nat) (rs : List Row) (L : List (List Nat)) : Prop where
  len : rs.length = L.length
  row : ∀ (j : Nat) (r : Row) (l : List Nat), rs[j]? = some r → L[j]? = some l → RowIs T 1 r.A r.n r.c (l.map numCell) r.e
theorem NumR.nil (T : Nat) : NumR T [] [] := ⟨rfl, by simp⟩
theorem NumR.add {T : Nat} {rs : List Row} {L : List (List Nat)} {r : Row} {l : List Nat} (h : NumR T rs L) (hr : RowIs T 1 r.A r.n r.c (l.map numCell) r.e) : NumR T (rs ++ [r]) (L ++ [l]) := by
  refine ⟨by simp [h.len], fun j q m hq hm => ?_⟩
  by_cases hj : j < rs.length
  · rw [List.getElem?_append_left hj] at hq
    rw [List.getElem?_append_left (by rw [← h.len]; exact hj)] at hm
    exact h.row j q m hq hm
  · have hj2 : j = rs.length := by
      have := (List.getElem?_eq_some_iff.1 hq).1
      simp at this
      omega
    rw [hj2, List.getElem?_append_right (Nat.le_refl _), Nat.sub_self] at hq
    rw [hj2, h.len, List.getElem?_append_right (Nat.le_refl _), Nat.sub_self] at hm
    simp only [List.getElem?_cons_zero, Option.some.injEq] at hq hm
    subst hq hm
    exact hr
/-! ### The reference's exclusive or -/
theorem geOf (l : List Value) (h : Ints [.u32, .i32, .i32, .i32, .i32] l) : ∃ x : GE, l = geCells x ∧ Okx x.2 := by
  obtain ⟨z0, l0, rfl, w0, h0⟩ := ints_cons h
  obtain ⟨a, rfl, ha⟩ := bxOf l0 h0
  exact ⟨(z0, a), rfl, ha⟩
theorem cand_uni {es fs : List GE} {ps qs : List (Int × Int)} (h1 : Asc ps) (h2 : Asc qs) (m1 : ∀ z, z ∈ ps ↔ candP es z) (m2 : ∀ z, z ∈ qs ↔ candP fs z) (h : ∀ x, x ∈ es ↔ x ∈ fs) : ps = qs := asc_unique h1 h2 (fun z => by rw [m1 z, m2 z]; exact cand_congr h)
theorem keys_fill (es : List GE) : ∀ j, j < 1024 → ∀ x ∈ fillG es noG j, x ∈ es.map (·.1) := fun j _ x hx => by
  obtain ⟨y, hy, e, _⟩ := mem_fill.1 hx
  exact List.mem_map.2 ⟨y, hy, e⟩
theorem at_congr {es fs : List GE} {n : Nat} (h : ∀ x, x ∈ es ↔ x ∈ fs) {z : Int} : z ∈ fillG es noG n ↔ z ∈ fillG fs noG n := by
  rw [mem_fill, mem_fill]
  simp only [h]
theorem cand_few {es : List GE} {ps : List (Int × Int)} (ha : Asc ps) (h : ∀ z, z ∈ ps ↔ candP es z) : ps.length ≤ es.length * es.length := cand_len ha (fun z hz => by
  obtain ⟨_, x, hx, y, hy, e1, e2, _⟩ := (h z).1 hz
  exact ⟨List.mem_map.2 ⟨x, hx, e1⟩, List.mem_map.2 ⟨y, hy, e2⟩⟩)
end Go.Bil
