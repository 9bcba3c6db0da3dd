/- Part of the proof of the laws of this seat: MdX, MdY, MdZ, MdM, MdI, MdJ, MdK, MdL, MdO, MdT, FwW. No conditions. -/
import Derived.Test.YtmcddmhkjcgneaaGreatDoorK7
import Derived.Test.YtmcddmhkjcgneaaGreatDoorK15
import Derived.Test.YtmcddmhkjcgneaaGreatDoorK3
/- Plain laws of nearest points and of contacts. -/
set_option linter.unusedVariables false
set_option linter.unusedSimpArgs false
namespace Go.Bil
abbrev Pt := Int × Int
structure PtI (v : Pt) : Prop where
  x : -1082130432 ≤ v.1 ∧ v.1 ≤ 1082130432
  y : -1082130432 ≤ v.2 ∧ v.2 ≤ 1082130432
structure SgI (p q : Pt) : Prop where
  hp : PtI p
  hq : PtI q
  x : -16777216 ≤ q.1 - p.1 ∧ q.1 - p.1 ≤ 16777216
  y : -16777216 ≤ q.2 - p.2 ∧ q.2 - p.2 ≤ 16777216
theorem PtI.i32 {v : Pt} (h : PtI v) : I32 v := ⟨by have := h.x; omega, by have := h.y; omega⟩
theorem PtI.inX {v u : Pt} (h : PtI v) (g : PtI u) : InD (u.1 - v.1) := by have := h.x; have := g.x; unfold InD; omega
theorem PtI.inY {v u : Pt} (h : PtI v) (g : PtI u) : InD (u.2 - v.2) := by have := h.y; have := g.y; unfold InD; omega
theorem mulB {a b : Int} {A B : Nat} (ha : a.natAbs ≤ A) (hb : b.natAbs ≤ B) : -((A * B : Nat) : Int) ≤ a * b ∧ a * b ≤ ((A * B : Nat) : Int) := by
  have h := Nat.mul_le_mul ha hb
  rw [← Int.natAbs_mul] at h
  omega
theorem sqN (a : Int) : 0 ≤ a * a := by rw [← Int.natAbs_mul_self]; omega
def parD (p q : Pt) : Int := (q.1 - p.1) * (q.1 - p.1) + (q.2 - p.2) * (q.2 - p.2)
def parN (p q c : Pt) : Int := max 0 (min ((c.1 - p.1) * (q.1 - p.1) + (c.2 - p.2) * (q.2 - p.2)) (parD p q))
theorem parD_rng {p q : Pt} (h : SgI p q) : 0 ≤ parD p q ∧ parD p q ≤ 562949953421312 ∧ (0 ≤ (q.1 - p.1) * (q.1 - p.1) ∧ (q.1 - p.1) * (q.1 - p.1) ≤ 281474976710656) ∧ 0 ≤ (q.2 - p.2) * (q.2 - p.2) ∧ (q.2 - p.2) * (q.2 - p.2) ≤ 281474976710656 := by
  have hx := h.x
  have hy := h.y
  have a := mulB (a := q.1 - p.1) (b := q.1 - p.1) (A := 16777216) (B := 16777216) (by omega) (by omega)
  have b := mulB (a := q.2 - p.2) (b := q.2 - p.2) (A := 16777216) (B := 16777216) (by omega) (by omega)
  have c := sqN (q.1 - p.1)
  have d := sqN (q.2 - p.2)
  unfold parD
  omega
theorem parN_rng {p q c : Pt} (h : SgI p q) : 0 ≤ parN p q c ∧ parN p q c ≤ parD p q := by
  have := parD_rng h
  unfold parN
  omega
theorem cross_rng {p q c : Pt} (h : SgI p q) (hc : PtI c) : (-36310272144179200 ≤ (c.1 - p.1) * (q.1 - p.1) ∧ (c.1 - p.1) * (q.1 - p.1) ≤ 36310272144179200) ∧ -36310272144179200 ≤ (c.2 - p.2) * (q.2 - p.2) ∧ (c.2 - p.2) * (q.2 - p.2) ≤ 36310272144179200 := by
  have hx := h.x
  have hy := h.y
  have := hc.x; have := hc.y; have := h.hp.x; have := h.hp.y
  have a := mulB (a := c.1 - p.1) (b := q.1 - p.1) (A := 2164260864) (B := 16777216) (by omega) (by omega)
  have b := mulB (a := c.2 - p.2) (b := q.2 - p.2) (A := 2164260864) (B := 16777216) (by omega) (by omega)
  omega
theorem divB {a n d : Int} (hn : 0 ≤ n) (hnd : n ≤ d) (hd : 0 < d) : (0 ≤ a → 0 ≤ a * n / d ∧ a * n / d ≤ a) ∧ (a ≤ 0 → a ≤ a * n / d ∧ a * n / d ≤ 0) := by
  refine ⟨fun h => ⟨Int.ediv_nonneg (Int.mul_nonneg h hn) (Int.le_of_lt hd), ?_⟩, fun h => ⟨?_, ?_⟩⟩
  · exact Int.ediv_le_of_le_mul hd (Int.mul_le_mul_of_nonneg_left hnd h)
  · exact (Int.le_ediv_iff_mul_le hd).2 (Int.mul_le_mul_of_nonpos_left h hnd)
  · have h1 : a * n ≤ 0 := Int.mul_nonpos_of_nonpos_of_nonneg h hn
    exact Int.ediv_le_of_le_mul hd (by omega)
def nearest (p q c : Pt) : Pt := if parD p q = 0 then p else (p.1 + (q.1 - p.1) * parN p q c / parD p q, p.2 + (q.2 - p.2) * parN p q c / parD p q)
theorem near_rng {p q c : Pt} (h : SgI p q) (hd : parD p q ≠ 0) : ((-16777216 ≤ (q.1 - p.1) * parN p q c / parD p q ∧ (q.1 - p.1) * parN p q c / parD p q ≤ 16777216) ∧ -1082130432 ≤ p.1 + (q.1 - p.1) * parN p q c / parD p q ∧ p.1 + (q.1 - p.1) * parN p q c / parD p q ≤ 1082130432) ∧
    (-16777216 ≤ (q.2 - p.2) * parN p q c / parD p q ∧ (q.2 - p.2) * parN p q c / parD p q ≤ 16777216) ∧ -1082130432 ≤ p.2 + (q.2 - p.2) * parN p q c / parD p q ∧ p.2 + (q.2 - p.2) * parN p q c / parD p q ≤ 1082130432 := by
  have hn := parN_rng (c := c) h
  have hD := parD_rng h
  have a := divB (a := q.1 - p.1) hn.1 hn.2 (by omega)
  have b := divB (a := q.2 - p.2) hn.1 hn.2 (by omega)
  have := h.hp.x; have := h.hp.y; have := h.hq.x; have := h.hq.y; have := h.x; have := h.y
  generalize (q.1 - p.1) * parN p q c / parD p q = u at *
  generalize (q.2 - p.2) * parN p q c / parD p q = v at *
  omega
theorem nearest_in {p q c : Pt} (h : SgI p q) : PtI (nearest p q c) := by
  unfold nearest
  split
  · exact h.hp
  · rename_i hd
    have := near_rng (c := c) h hd
    exact ⟨this.1.2, this.2.2⟩
/-- The pair of points chosen so far, with the square of their distance. -/
abbrev Ch := Pt × Pt × Nat
def chStep (s : Ch) (x y : Pt) : Ch := if lsq (y.1 - x.1) (y.2 - x.2) < s.2.2 then (x, y, lsq (y.1 - x.1) (y.2 - x.2)) else s
def ch0 : Ch := ((0, 0), (0, 0), 18446744073709551615)
def chosen (ap aq bp bq : Pt) : Ch := chStep (chStep (chStep (chStep ch0 ap (nearest bp bq ap)) aq (nearest bp bq aq)) (nearest ap aq bp) bp) (nearest ap aq bq) bq
structure ChI (s : Ch) : Prop where
  a : PtI s.1
  b : PtI s.2.1
  l : s.2.2 < 18446744073709551616
theorem ChI.step {s : Ch} {x y : Pt} (h : ChI s) (hx : PtI x) (hy : PtI y) : ChI (chStep s x y) := by
  unfold chStep
  split
  · exact ⟨hx, hy, (lsq_lt (hx.inX hy) (hx.inY hy)).1⟩
  · exact h
theorem ch0_in : ChI ch0 := ⟨⟨by decide, by decide⟩, ⟨by decide, by decide⟩, by decide⟩
theorem chosen_in {ap aq bp bq : Pt} (h1 : SgI ap aq) (h2 : SgI bp bq) : ChI (chosen ap aq bp bq) :=
  (((ch0_in.step h1.hp (nearest_in h2)).step h1.hq (nearest_in h2)).step (nearest_in h1) h2.hp).step (nearest_in h1) h2.hq
def endP (b : Body) : Pt := (b.px - b.ax, b.py - b.ay)
def endQ (b : Body) : Pt := (b.px + b.ax, b.py + b.ay)
theorem ends_in {b : Body} (h : Okb b) : SgI (endP b) (endQ b) := by
  have := h.a; have := h.p
  refine ⟨⟨?_, ?_⟩, ⟨?_, ?_⟩, ?_, ?_⟩ <;> simp only [endP, endQ] <;> omega
structure Con where
  low : Int
  high : Int
  nx : Int
  ny : Int
  depth : Int
deriving DecidableEq
def conCells (c : Con) : List Value := [.int .u32 c.low, .int .u32 c.high, .int .i32 c.nx, .int .i32 c.ny, .int .i32 c.depth]
/-- The contact of two bodies, the one with the lesser key first. -/
def chB (a b : Body) : Ch := chosen (endP a) (endQ a) (endP b) (endQ b)
def chDx (s : Ch) : Int := s.2.1.1 - s.1.1
def chDy (s : Ch) : Int := s.2.1.2 - s.1.2
def conLow (a b : Body) : Option Con :=
  if (a.radius + b.radius).natAbs * (a.radius + b.radius).natAbs ≤ lsq (chDx (chB a b)) (chDy (chB a b)) then none
  else some ⟨a.key, b.key, (unitV (chDx (chB a b)) (chDy (chB a b))).1, (unitV (chDx (chB a b)) (chDy (chB a b))).2, IntKind.wrap .i32 (a.radius + b.radius - len (chDx (chB a b)) (chDy (chB a b)))⟩
def conOf (a b : Body) : Option Con := if b.key < a.key then conLow b a else conLow a b
def solidCells (b : Body) : List Value := bodyCells b ++ vecCells (endP b) ++ vecCells (endQ b)
def loB (a b : Body) : Body := if b.key < a.key then b else a
def hiB (a b : Body) : Body := if b.key < a.key then a else b
theorem conOf_lo (a b : Body) : conOf a b = conLow (loB a b) (hiB a b) := by unfold conOf loB hiB; split <;> rfl
theorem loB_ok {a b : Body} (ha : Okb a) (hb : Okb b) : Okb (loB a b) ∧ Okb (hiB a b) := by unfold loB hiB; split <;> exact ⟨by assumption, by assumption⟩
theorem chB_in {a b : Body} (ha : Okb a) (hb : Okb b) : ChI (chB a b) := chosen_in (ends_in ha) (ends_in hb)
theorem chB_d {a b : Body} (ha : Okb a) (hb : Okb b) : InD (chDx (chB a b)) ∧ InD (chDy (chB a b)) := ⟨(chB_in ha hb).a.inX (chB_in ha hb).b, (chB_in ha hb).a.inY (chB_in ha hb).b⟩
def conO (o : Option Con) : List Value := conCells (o.getD ⟨0, 0, 0, 0, 0⟩)
theorem sum_sq {a b : Body} (ha : Okb a) (hb : Okb b) : 0 ≤ (a.radius + b.radius) * (a.radius + b.radius) ∧ (a.radius + b.radius) * (a.radius + b.radius) ≤ 70368744177664 := by
  have := ha.r; have := hb.r
  have h := mulB (a := a.radius + b.radius) (b := a.radius + b.radius) (A := 8388608) (B := 8388608) (by omega) (by omega)
  have := sqN (a.radius + b.radius)
  omega
theorem sq_cast (s : Int) (h : 0 ≤ s * s ∧ s * s ≤ 70368744177664) : IntKind.wrap .u64 (s * s) = ((s.natAbs * s.natAbs : Nat) : Int) := by
  rw [wrU, Int.natAbs_mul_self]; omega
end Go.Bil

/- Plain laws of the contacts of a view. -/
set_option linter.unusedVariables false
set_option linter.unusedSimpArgs false
namespace Go.Bil
def encBo (b : Body) : Value := .agg (bodyCells b).toArray
def z0Bo : Body := ⟨0, 0, 0, 0, 0, 0, 0, 0, 0, 0⟩
def boM (xs : List Body) : Int → Option Body := fun k => xs.reverse.find? (fun b => decide (b.key = k))
theorem boM_nil (k : Int) : boM [] k = none := rfl
theorem boM_snoc {xs : List Body} {k : Nat} {b : Body} (h : xs[k]? = some b) (q : Int) : boM (xs.take (k + 1)) q = if q = b.key then some b else boM (xs.take k) q := by
  unfold boM
  rw [take_snoc h, List.reverse_append]
  simp only [List.reverse_cons, List.reverse_nil, List.nil_append, List.singleton_append, List.find?_cons]
  by_cases e : q = b.key
  · rw [if_pos e, decide_eq_true e.symm]
  · rw [if_neg e, decide_eq_false (fun h => e h.symm)]
theorem boM_get {xs : List Body} (hs : Sorted xs) {b : Body} (hb : b ∈ xs) : boM xs b.key = some b := by
  unfold boM
  cases hf : xs.reverse.find? (fun c => decide (c.key = b.key)) with
  | none =>
    have := List.find?_eq_none.1 hf b (by simpa using hb)
    simp at this
  | some c =>
    have hc := List.find?_some hf
    have hm : c ∈ xs := by simpa using List.mem_of_find?_eq_some hf
    simp only [decide_eq_true_eq] at hc
    rw [sorted_mem hs hm hb hc]
/-- The contact of a pair of keys. -/
def conP (f : Int → Option Body) (z : Int × Int) : Option Con := (f z.1).bind fun a => (f z.2).bind fun b => conOf a b
def allC (xs : List Body) : List Con := (findP xs).filterMap (conP (boM xs))
theorem pair_bodies {xs : List Body} (hs : Sorted xs) {z : Int × Int} (h : z ∈ findP xs) : ∃ a b, a ∈ xs ∧ b ∈ xs ∧ a.key < b.key ∧ z = (a.key, b.key) ∧ boM xs z.1 = some a ∧ boM xs z.2 = some b := by
  obtain ⟨a, ha, b, hb, h1, h2, rfl⟩ := (mem_findS hs).1 h
  exact ⟨a, b, ha, hb, h1, rfl, boM_get hs ha, boM_get hs hb⟩
theorem conP_eq {f : Int → Option Body} {z : Int × Int} {a b : Body} (h1 : f z.1 = some a) (h2 : f z.2 = some b) : conP f z = conOf a b := by simp [conP, h1, h2]
theorem fm_snoc {α β : Type} {l : List α} {k : Nat} {z : α} {g : α → Option β} (h : l[k]? = some z) : (l.take (k + 1)).filterMap g = (l.take k).filterMap g ++ (g z).toList := by
  rw [take_snoc h, List.filterMap_append]
  cases hg : g z <;> simp [hg]
/-! ### Moving all bodies -/
theorem Mem.orderC {w0 w : World} {X : List Nat} {a b c d : Ent} (M : Mem w0 X [a, b, c, d] w) : Mem w0 X [c, b, a, d] w :=
  M.perm ((List.Perm.swap b a [c, d]).trans (((List.Perm.swap c a [d]).cons b).trans (List.Perm.swap c b [a, d])))
/-! ### The deepest contact -/
def deepG : Con → List Con → Con
  | b, [] => b
  | b, c :: l => deepG (if b.depth < c.depth then c else b) l
def deepC : List Con → Option Con
  | [] => none
  | c :: l => some (deepG c l)
end Go.Bil

/- Plain laws of the references of layers 1 to 14: numbers by digits of 16 bits, long division bit by bit, roots by halving. -/
set_option linter.unusedVariables false
set_option linter.unusedSimpArgs false
namespace Go.Bil
/-! ### Digits -/
/-! ### Long division, a bit a round -/
/-! ### The deepest contact is the first of its depth -/
theorem deepG_max : ∀ (l : List Con) (b : Con), b.depth ≤ (deepG b l).depth ∧ ∀ c ∈ l, c.depth ≤ (deepG b l).depth
  | [], b => ⟨Int.le_refl _, by simp⟩
  | x :: l, b => by
    have ih := deepG_max l (if b.depth < x.depth then x else b)
    have e : deepG b (x :: l) = deepG (if b.depth < x.depth then x else b) l := rfl
    rw [e]
    by_cases hx : b.depth < x.depth
    · rw [if_pos hx] at ih ⊢
      refine ⟨by omega, fun c hc => ?_⟩
      rcases List.mem_cons.1 hc with rfl | hc
      · exact ih.1
      · exact ih.2 c hc
    · rw [if_neg hx] at ih ⊢
      refine ⟨ih.1, fun c hc => ?_⟩
      rcases List.mem_cons.1 hc with rfl | hc
      · omega
      · exact ih.2 c hc
theorem deepG_at : ∀ (l : List Con) (b : Con), ∃ j : Nat, (b :: l)[j]? = some (deepG b l) ∧ ∀ (i : Nat) (c : Con), i < j → (b :: l)[i]? = some c → c.depth < (deepG b l).depth
  | [], b => ⟨0, rfl, fun i c h => by omega⟩
  | x :: l, b => by
    have e : deepG b (x :: l) = deepG (if b.depth < x.depth then x else b) l := rfl
    obtain ⟨j, h1, h2⟩ := deepG_at l (if b.depth < x.depth then x else b)
    have hm := deepG_max l (if b.depth < x.depth then x else b)
    rw [e]
    by_cases hc : b.depth < x.depth
    · rw [if_pos hc] at h1 h2 hm ⊢
      refine ⟨j + 1, by simpa using h1, fun i c hi hci => ?_⟩
      cases i with
      | zero => simp only [List.getElem?_cons_zero, Option.some.injEq] at hci; subst hci; omega
      | succ i => exact h2 i c (by omega) (by simpa using hci)
    · rw [if_neg hc] at h1 h2 hm ⊢
      cases j with
      | zero => exact ⟨0, by simpa using h1, fun i c h => by omega⟩
      | succ j =>
        have hb := h2 0 b (by omega) rfl
        refine ⟨j + 2, by simpa using h1, fun i c hi hci => ?_⟩
        match i, hci with
        | 0, hci => simp only [List.getElem?_cons_zero, Option.some.injEq] at hci; subst hci; exact hb
        | 1, hci => simp only [List.getElem?_cons_succ, List.getElem?_cons_zero, Option.some.injEq] at hci; subst hci; omega
        | i + 2, hci => exact h2 (i + 1) c (by omega) (by simpa using hci)
def zCon : Con := ⟨0, 0, 0, 0, 0⟩
theorem deepC_law {l : List Con} {d : Con} (hd : (deepC l).getD zCon = d) (hl : l ≠ []) : d ∈ l ∧ (∀ c ∈ l, c.depth ≤ d.depth) ∧ ∀ (i : Nat) (c : Con), l[i]? = some c → d ∉ l.take i → c.depth = d.depth → c = d := by
  cases l with
  | nil => exact absurd rfl hl
  | cons b l =>
    have hd' : deepG b l = d := hd
    obtain ⟨j, h1, h2⟩ := deepG_at l b
    have hm := deepG_max l b
    rw [hd'] at h1 h2 hm
    refine ⟨List.mem_of_getElem? h1, fun c hc => ?_, fun i c hi hn he => ?_⟩
    · rcases List.mem_cons.1 hc with rfl | hc
      · exact hm.1
      · exact hm.2 c hc
    · rcases Nat.lt_trichotomy i j with h | h | h
      · have := h2 i c h hi; omega
      · subst h; rw [hi] at h1; injection h1
      · refine absurd (List.mem_of_getElem? (i := j) ?_) hn
        rw [List.getElem?_take, if_pos h]; exact h1
/-! ### A root by halving -/
end Go.Bil

namespace Go.Bil
/-! ### The chosen points, by a list -/
structure ChL (s : Ch) : Prop where
  i : ChI s
  l : s.2.2 = lsq (s.2.1.1 - s.1.1) (s.2.1.2 - s.1.2)
theorem ChL.step {s : Ch} {x y : Pt} (h : ChL s) (hx : PtI x) (hy : PtI y) : ChL (chStep s x y) := by
  refine ⟨h.i.step hx hy, ?_⟩
  unfold chStep
  split
  · rfl
  · exact h.l
/-! ### Bodies in contact have boxes that overlap -/
end Go.Bil
namespace Go.Bil
end Go.Bil
namespace Go.Bil
end Go.Bil
namespace Go.Bil
end Go.Bil
namespace Go.Bil
/-! ### The best so far, by its place -/
structure BestC (ys : List Con) (i j : Nat) : Prop where
  lt : ys ≠ [] → j < ys.length
  z : i = 0 → j = 0
  ji : i ≠ 0 → j < i
  mx : ∀ (p : Nat) (x b : Con), p < i → ys[p]? = some x → ys[j]? = some b → x.depth ≤ b.depth ∧ (p < j → x.depth < b.depth)
theorem BestC.new {ys : List Con} {i j : Nat} {x b : Con} (h : BestC ys i j) (hx : ys[i]? = some x) (hb : ys[j]? = some b) (hc : x.depth > b.depth) : BestC ys (i + 1) i := by
  have hi := (List.getElem?_eq_some_iff.1 hx).1
  refine ⟨fun _ => hi, fun h => by omega, fun _ => by omega, fun p y c hp hy hcx => ?_⟩
  rw [hx] at hcx
  injection hcx with hcx
  subst hcx
  by_cases hpi : p = i
  · subst hpi
    rw [hx] at hy
    injection hy with hy
    subst hy
    exact ⟨Int.le_refl _, fun h => by omega⟩
  · have := (h.mx p y b (by omega) hy hb).1
    exact ⟨by omega, fun _ => by omega⟩
theorem BestC.old {ys : List Con} {i j : Nat} {x b : Con} (h : BestC ys i j) (hx : ys[i]? = some x) (hb : ys[j]? = some b) (hc : ¬ x.depth > b.depth) : BestC ys (i + 1) j := by
  refine ⟨h.lt, fun h => by omega, fun _ => ?_, fun p y c hp hy hcx => ?_⟩
  · by_cases hi : i = 0
    · have := h.z hi; omega
    · have := h.ji hi; omega
  · rw [hb] at hcx
    injection hcx with hcx
    subst hcx
    by_cases hpi : p = i
    · subst hpi
      rw [hx] at hy
      injection hy with hy
      subst hy
      refine ⟨by omega, fun hpj => ?_⟩
      by_cases hi : p = 0
      · have := h.z hi; omega
      · have := h.ji hi; omega
    · exact h.mx p y b (by omega) hy hb
theorem BestC.done {ys : List Con} {m j : Nat} {d : Con} (h : BestC ys m j) (hn : ys ≠ []) (hl : ys.length = m) (hd : (deepC ys).getD zCon = d) : ∃ x, ys[j]? = some x ∧ d = x := by
  have hj := h.lt hn
  refine ⟨ys[j], List.getElem?_eq_getElem hj, ?_⟩
  have hg := List.getElem?_eq_getElem hj
  obtain ⟨h1, h2, h3⟩ := deepC_law hd hn
  obtain ⟨p, hp⟩ := List.getElem?_of_mem h1
  have hpl := (List.getElem?_eq_some_iff.1 hp).1
  have e1 := (h.mx p d _ (by omega) hp hg).1
  have e2 := h2 _ (List.getElem_mem hj)
  refine (h3 j _ hg ?_ (by omega)).symm
  intro hm
  obtain ⟨q, hq⟩ := List.getElem?_of_mem hm
  rw [List.getElem?_take] at hq
  split at hq
  · have := (h.mx q d _ (by omega) hq hg).2 (by omega)
    omega
  · cases hq
/-! ### All contacts, by their pairs -/
theorem conOf5 (l : List Value) (h : Ints [.u32, .u32, .i32, .i32, .i32] l) : ∃ c, l = conCells c ∧ True := by
  obtain ⟨z0, l0, rfl, w0, h0⟩ := ints_cons h
  obtain ⟨z1, l1, rfl, w1, h1⟩ := ints_cons h0
  obtain ⟨z2, l2, rfl, w2, h2⟩ := ints_cons h1
  obtain ⟨z3, l3, rfl, w3, h3⟩ := ints_cons h2
  obtain ⟨z4, l4, rfl, w4, h4⟩ := ints_cons h3
  obtain rfl := ints_nil h4
  exact ⟨⟨z0, z1, z2, z3, z4⟩, rfl, trivial⟩
end Go.Bil

/- Plain laws of measures. -/
set_option linter.unusedVariables false
set_option linter.unusedSimpArgs false
namespace Go.Bil
/-- A box as measures have them: the empty one, or one with points. -/
def GoodB (a : Bx) : Prop := a = noneB ∨ (a.x0 ≤ a.x1 ∧ a.y0 ≤ a.y1)
/-! ### Measures -/
structure Meas where
  nb : Int
  ns : Int
  sp : Nat
  sx : Int
  sy : Int
  bx : Bx
  ov : Int
deriving DecidableEq
/-- What a measure of at most k bodies is like. -/
structure OkM (k : Nat) (m : Meas) : Prop where
  g : GoodB m.bx
  x : m.bx = noneB ∨ Okx m.bx
  nb : 0 ≤ m.nb ∧ m.nb ≤ k
  ns : 0 ≤ m.ns ∧ m.ns ≤ m.nb
  sp : m.sp < 18446744073709551616
  sx : -(16777216 * (k : Int)) ≤ m.sx ∧ m.sx ≤ 16777216 * k
  sy : -(16777216 * (k : Int)) ≤ m.sy ∧ m.sy ≤ 16777216 * k
  ov : -(2147483648 * ((k : Int) * k)) ≤ m.ov ∧ m.ov ≤ 2147483648 * ((k : Int) * k)
theorem OkM.mono {j k : Nat} {a : Meas} (h : OkM j a) (hjk : j ≤ k) : OkM k a := by
  have n1 := h.nb; have x1 := h.sx; have y1 := h.sy; have o1 := h.ov
  have hsq : (j : Int) * j ≤ (k : Int) * k := Int.mul_le_mul (by omega) (by omega) (by omega) (by omega)
  refine ⟨h.g, h.x, by omega, h.ns, h.sp, by omega, by omega, ?_⟩
  generalize (j : Int) * j = J at *
  generalize (k : Int) * k = K at *
  omega
/-! ### The measure of a view -/
/-! ### Depths -/
/-! ### Quiet -/
/-! ### Moved -/
/-! ### Two parts of a view -/
end Go.Bil

/- Plain laws of islands: a forest of keys, and a matrix that is closed. -/
set_option linter.unusedVariables false
set_option linter.unusedSimpArgs false
namespace Go.Bil
abbrev KMap := Int → Option Int
/-! ### A forest -/
structure Forest (f : KMap) : Prop where
  le : ∀ k p, f k = some p → p ≤ k
  nn : ∀ k p, f k = some p → 0 ≤ k
  dom : ∀ k p, f k = some p → ∃ q, f p = some q
theorem Forest.pn {f : KMap} (h : Forest f) {k p : Int} (hf : f k = some p) : 0 ≤ p := by
  obtain ⟨q, hq⟩ := h.dom k p hf
  exact h.nn p q hq
def rootF (f : KMap) : Nat → Int → Int
  | 0, k => k
  | n + 1, k => match f k with
    | some p => if p = k then k else rootF f n p
    | none => k
def rt (f : KMap) (k : Int) : Int := rootF f (k.toNat + 1) k
theorem rootF_fuel {f : KMap} (hF : Forest f) : ∀ (n m : Nat) (k : Int), k.toNat < n → k.toNat < m → rootF f n k = rootF f m k
  | 0, m, k, h, _ => by omega
  | n + 1, 0, k, _, h => by omega
  | n + 1, m + 1, k, h1, h2 => by
    unfold rootF
    cases hf : f k with
    | none => rfl
    | some p =>
      by_cases hp : p = k
      · simp only [if_pos hp]
      · simp only [if_neg hp]
        have := hF.le k p hf
        have := hF.nn k p hf
        have := hF.pn hf
        exact rootF_fuel hF n m p (by omega) (by omega)
theorem rt_self {f : KMap} {k : Int} (h : f k = some k) : rt f k = k := by
  unfold rt rootF; rw [h]; simp
theorem rt_step {f : KMap} (hF : Forest f) {k p : Int} (h : f k = some p) : rt f k = rt f p := by
  by_cases hp : p = k
  · rw [hp]
  · have h1 := hF.le k p h
    have h2 := hF.nn k p h
    have h3 := hF.pn h
    have e : rt f k = rootF f k.toNat p := by
      unfold rt
      rw [rootF, h]
      simp only [if_neg hp]
    rw [e]
    exact rootF_fuel hF _ _ p (by omega) (by omega)
theorem rt_spec {f : KMap} (hF : Forest f) : ∀ (n : Nat) (k p : Int), k.toNat < n → f k = some p → f (rt f k) = some (rt f k) ∧ rt f k ≤ k
  | 0, k, p, h, _ => by omega
  | n + 1, k, p, h, hf => by
    by_cases hp : p = k
    · subst hp
      rw [rt_self hf]
      exact ⟨hf, Int.le_refl _⟩
    · have h1 := hF.le k p hf
      have h2 := hF.nn k p hf
      have h3 := hF.pn hf
      obtain ⟨q, hq⟩ := hF.dom k p hf
      rw [rt_step hF hf]
      have := rt_spec hF n p q (by omega) hq
      exact ⟨this.1, by omega⟩
theorem rt_root {f : KMap} (hF : Forest f) {k p : Int} (h : f k = some p) : f (rt f k) = some (rt f k) ∧ rt f k ≤ k := rt_spec hF _ k p (Nat.lt_succ_self _) h
theorem rt_idem {f : KMap} (hF : Forest f) {k p : Int} (h : f k = some p) : rt f (rt f k) = rt f k := rt_self (rt_root hF h).1
def updK (f : KMap) (k v : Int) : KMap := fun q => if q = k then some v else f q
/-- Two roots are joined. -/
theorem join_forest {f : KMap} (hF : Forest f) {x y : Int} (hx : f x = some x) (hy : f y = some y) : Forest (updK f (max x y) (min x y)) := by
  have nx := hF.nn _ _ hx
  have ny := hF.nn _ _ hy
  have hd : ∀ q v, f q = some v → ∃ u, updK f (max x y) (min x y) q = some u := fun q v h => by
    unfold updK; split
    · exact ⟨_, rfl⟩
    · exact ⟨v, h⟩
  refine ⟨fun k p h => ?_, fun k p h => ?_, fun k p h => ?_⟩
  · unfold updK at h
    split at h
    · injection h with h; omega
    · exact hF.le k p h
  · unfold updK at h
    split at h
    · omega
    · exact hF.nn k p h
  · unfold updK at h
    split at h
    · injection h with h
      subst h
      rcases Int.le_total x y with e | e
      · exact hd _ _ ((congrArg f (show min x y = x by omega)).trans hx)
      · exact hd _ _ ((congrArg f (show min x y = y by omega)).trans hy)
    · obtain ⟨q, hq⟩ := hF.dom k p h
      exact hd p q hq
theorem join_rt {f : KMap} (hF : Forest f) {x y : Int} (hx : f x = some x) (hy : f y = some y) : ∀ (n : Nat) (k p : Int), k.toNat < n → f k = some p → rt (updK f (max x y) (min x y)) k = if rt f k = max x y then min x y else rt f k
  | 0, k, p, h, _ => by omega
  | n + 1, k, p, h, hf => by
    have hF' := join_forest hF hx hy
    have hmin : rt (updK f (max x y) (min x y)) (min x y) = min x y := by
      refine rt_self ?_
      unfold updK
      split
      · rfl
      · rcases Int.le_total x y with e | e
        · rw [show min x y = x by omega]; exact hx
        · rw [show min x y = y by omega]; exact hy
    by_cases hk : k = max x y
    · subst hk
      have e1 : updK f (max x y) (min x y) (max x y) = some (min x y) := by unfold updK; rw [if_pos rfl]
      have e2 : f (max x y) = some (max x y) := by
        rcases Int.le_total x y with e | e
        · rw [show max x y = y by omega]; exact hy
        · rw [show max x y = x by omega]; exact hx
      rw [rt_step hF' e1, hmin, rt_self e2, if_pos rfl]
    · have e1 : updK f (max x y) (min x y) k = some p := by unfold updK; rw [if_neg hk]; exact hf
      by_cases hp : p = k
      · subst hp
        rw [rt_self e1, rt_self hf, if_neg hk]
      · have h1 := hF.le k p hf
        have h2 := hF.nn k p hf
        have h3 := hF.pn hf
        obtain ⟨q, hq⟩ := hF.dom k p hf
        rw [rt_step hF' e1, rt_step hF hf]
        exact join_rt hF hx hy n p q (by omega) hq
/-! ### The forest of a view and its contacts -/
def dynM (xs : List Body) : KMap := fun k => (xs.reverse.find? (fun b => decide (b.key = k ∧ b.mass ≠ 0))).map (·.key)
def joinK (f : KMap) (a b : Int) : KMap := updK f (max (rt f a) (rt f b)) (min (rt f a) (rt f b))
def linkK (f : KMap) (c : Con) : KMap := if (f c.low).isSome = true ∧ (f c.high).isSome = true then joinK f c.low c.high else f
def forestOf (xs : List Body) (l : List Con) : KMap := l.foldl linkK (dynM xs)
/-- A key that moves: that of a body that is not static. -/
def Dyn (xs : List Body) (k : Int) : Prop := ∃ b ∈ xs, b.key = k ∧ b.mass ≠ 0
theorem dynM_some {xs : List Body} {k p : Int} : dynM xs k = some p ↔ p = k ∧ Dyn xs k := by
  unfold dynM Dyn
  cases hf : xs.reverse.find? (fun b => decide (b.key = k ∧ b.mass ≠ 0)) with
  | none =>
    simp only [Option.map_none, reduceCtorEq, false_iff, not_and]
    rintro _ ⟨b, hb, h⟩
    have := List.find?_eq_none.1 hf b (by simpa using hb)
    simp only [decide_eq_true_eq] at this
    exact this h
  | some b =>
    have h1 := List.find?_some hf
    have h2 : b ∈ xs := by simpa using List.mem_of_find?_eq_some hf
    simp only [decide_eq_true_eq] at h1
    simp only [Option.map_some, Option.some.injEq]
    constructor
    · rintro rfl; exact ⟨h1.1, b, h2, h1.1 ▸ rfl, h1.2⟩
    · rintro ⟨rfl, _⟩; exact h1.1
theorem dynM_nil (q : Int) : dynM [] q = none := rfl
theorem dynM_snoc {xs : List Body} {k : Nat} {b : Body} (h : xs[k]? = some b) (q : Int) : dynM (xs.take (k + 1)) q = if q = b.key ∧ b.mass ≠ 0 then some b.key else dynM (xs.take k) q := by
  unfold dynM
  rw [take_snoc h, List.reverse_append]
  simp only [List.reverse_cons, List.reverse_nil, List.nil_append, List.singleton_append, List.find?_cons]
  by_cases e : b.key = q ∧ b.mass ≠ 0
  · rw [decide_eq_true e, if_pos ⟨e.1.symm, e.2⟩]; rfl
  · rw [decide_eq_false e, if_neg (fun h => e ⟨h.1.symm, h.2⟩)]
structure Fst (xs : List Body) (f : KMap) : Prop where
  F : Forest f
  dom : ∀ k, (∃ p, f k = some p) ↔ Dyn xs k
theorem dyn_fst {xs : List Body} (hk : ∀ b ∈ xs, 0 ≤ b.key) : Fst xs (dynM xs) := by
  refine ⟨⟨fun k p h => ?_, fun k p h => ?_, fun k p h => ?_⟩, fun k => ?_⟩
  · have := dynM_some.1 h; omega
  · obtain ⟨_, b, hb, e, _⟩ := dynM_some.1 h
    have := hk b hb; omega
  · obtain ⟨rfl, _⟩ := dynM_some.1 h
    exact ⟨_, h⟩
  · exact ⟨fun ⟨p, h⟩ => (dynM_some.1 h).2, fun h => ⟨k, dynM_some.2 ⟨rfl, h⟩⟩⟩
theorem join_fst {xs : List Body} {f : KMap} (h : Fst xs f) {a b : Int} (ha : Dyn xs a) (hb : Dyn xs b) : Fst xs (joinK f a b) ∧ ∀ k, Dyn xs k → rt (joinK f a b) k = if rt f k = max (rt f a) (rt f b) then min (rt f a) (rt f b) else rt f k := by
  obtain ⟨pa, hpa⟩ := (h.dom a).2 ha
  obtain ⟨pb, hpb⟩ := (h.dom b).2 hb
  have ra := rt_root h.F hpa
  have rb := rt_root h.F hpb
  refine ⟨⟨join_forest h.F ra.1 rb.1, fun k => ?_⟩, fun k hk => ?_⟩
  · rw [← h.dom k]
    unfold joinK updK
    split
    · rename_i e
      refine ⟨fun _ => ?_, fun _ => ⟨_, rfl⟩⟩
      rw [e]
      rcases Int.le_total (rt f a) (rt f b) with o | o
      · exact ⟨_, by rw [show max (rt f a) (rt f b) = rt f b by omega]; exact rb.1⟩
      · exact ⟨_, by rw [show max (rt f a) (rt f b) = rt f a by omega]; exact ra.1⟩
    · rfl
  · obtain ⟨p, hp⟩ := (h.dom k).2 hk
    exact join_rt h.F ra.1 rb.1 _ k p (Nat.lt_succ_self _) hp
theorem link_fst {xs : List Body} {f : KMap} (h : Fst xs f) (c : Con) : Fst xs (linkK f c) := by
  unfold linkK
  split
  · rename_i hc
    exact (join_fst h ((h.dom _).1 (Option.isSome_iff_exists.1 hc.1)) ((h.dom _).1 (Option.isSome_iff_exists.1 hc.2))).1
  · exact h
theorem fold_fst {xs : List Body} : ∀ (l : List Con) (f : KMap), Fst xs f → Fst xs (l.foldl linkK f)
  | [], f, h => h
  | c :: l, f, h => fold_fst l _ (link_fst h c)
theorem forest_fst {xs : List Body} (hk : ∀ b ∈ xs, 0 ≤ b.key) (l : List Con) : Fst xs (forestOf xs l) := fold_fst l _ (dyn_fst hk)
theorem forestOf_snoc {xs : List Body} {l : List Con} {k : Nat} {c : Con} (h : l[k]? = some c) : forestOf xs (l.take (k + 1)) = linkK (forestOf xs (l.take k)) c := by
  unfold forestOf; rw [take_snoc h, List.foldl_append]; rfl
/-- Keys with one root. -/
def Same (f : KMap) (a b : Int) : Prop := rt f a = rt f b
theorem link_same {xs : List Body} {f : KMap} (h : Fst xs f) {c : Con} (ha : Dyn xs c.low) (hb : Dyn xs c.high) : Same (linkK f c) c.low c.high := by
  have hc : (f c.low).isSome = true ∧ (f c.high).isSome = true := ⟨Option.isSome_iff_exists.2 ((h.dom _).2 ha), Option.isSome_iff_exists.2 ((h.dom _).2 hb)⟩
  have hj := (join_fst h ha hb).2
  unfold linkK Same
  rw [if_pos hc, hj _ ha, hj _ hb]
  split <;> split <;> omega
theorem rt_dyn {xs : List Body} {f : KMap} (h : Fst xs f) {k : Int} (hk : Dyn xs k) : Dyn xs (rt f k) := by
  obtain ⟨p, hp⟩ := (h.dom k).2 hk
  exact (h.dom _).1 ⟨_, (rt_root h.F hp).1⟩
end Go.Bil

/- Plain laws of islands: the lists, and the matrix of the reference. -/
set_option linter.unusedVariables false
set_option linter.unusedSimpArgs false
namespace Go.Bil
/-! ### The lists of the islands -/
def memR (f : KMap) (r : Int) (b : Body) : Bool := decide (b.mass ≠ 0 ∧ rt f b.key = r)
def rootB (f : KMap) (b : Body) : Bool := decide (b.mass ≠ 0 ∧ rt f b.key = b.key)
def rootsL (f : KMap) (ys : List Body) : List Int := (ys.filter (rootB f)).map (·.key)
def keysR (f : KMap) (ys : List Body) (r : Int) : List Int := (ys.filter (memR f r)).map (·.key)
def islL (f : KMap) (ys : List Body) : List (List Int) := (rootsL f ys).map (keysR f ys)
def atM (f : KMap) (ys : List Body) : Int → Option Int := fun k => if k ∈ rootsL f ys then some ((rootsL f ys).idxOf k : Int) else none
theorem islL_len (f : KMap) (ys : List Body) : (islL f ys).length = (rootsL f ys).length := by simp [islL]
theorem roots_len (f : KMap) (ys : List Body) : (rootsL f ys).length ≤ ys.length := by unfold rootsL; rw [List.length_map]; exact List.length_filter_le _ _
theorem keysR_len (f : KMap) (ys : List Body) (r : Int) : (keysR f ys r).length ≤ ys.length := by unfold keysR; rw [List.length_map]; exact List.length_filter_le _ _
theorem keysR_snoc (f : KMap) (ys : List Body) (b : Body) (r : Int) : keysR f (ys ++ [b]) r = keysR f ys r ++ (if b.mass ≠ 0 ∧ rt f b.key = r then [b.key] else []) := by
  unfold keysR
  rw [List.filter_append, List.map_append]
  congr 1
  by_cases h : b.mass ≠ 0 ∧ rt f b.key = r
  · rw [if_pos h]; simp [memR, h]
  · rw [if_neg h, List.filter_cons]; rw [show memR f r b = false from decide_eq_false h]; rfl
theorem roots_snoc (f : KMap) (ys : List Body) (b : Body) : rootsL f (ys ++ [b]) = rootsL f ys ++ (if b.mass ≠ 0 ∧ rt f b.key = b.key then [b.key] else []) := by
  unfold rootsL
  rw [List.filter_append, List.map_append]
  congr 1
  by_cases h : b.mass ≠ 0 ∧ rt f b.key = b.key
  · rw [if_pos h]; simp [rootB, h]
  · rw [if_neg h, List.filter_cons]; rw [show rootB f b = false from decide_eq_false h]; rfl
theorem isl_static {f : KMap} {ys : List Body} {b : Body} (h : b.mass = 0) : islL f (ys ++ [b]) = islL f ys ∧ rootsL f (ys ++ [b]) = rootsL f ys := by
  have e : rootsL f (ys ++ [b]) = rootsL f ys := by rw [roots_snoc, if_neg (fun x => x.1 h), List.append_nil]
  refine ⟨?_, e⟩
  unfold islL
  rw [e]
  refine List.map_congr_left fun r _ => ?_
  rw [keysR_snoc, if_neg (fun x => x.1 h), List.append_nil]
/-- A root joins: a list of its own. -/
theorem isl_root {xs : List Body} {f : KMap} (hf : Fst xs f) (hs : Sorted xs) {k : Nat} {b : Body} (hb : xs[k]? = some b) (hm : b.mass ≠ 0) (hr : rt f b.key = b.key) :
    islL f (xs.take (k + 1)) = islL f (xs.take k) ++ [[b.key]] ∧ rootsL f (xs.take (k + 1)) = rootsL f (xs.take k) ++ [b.key] := by
  have hlt : ∀ c ∈ xs.take k, c.key < b.key := fun c hc => by
    obtain ⟨i, hi⟩ := List.getElem?_of_mem hc
    rw [List.getElem?_take] at hi
    split at hi
    · exact sorted_lt hs (by assumption) hi hb
    · cases hi
  rw [take_snoc hb]
  have e : rootsL f (xs.take k ++ [b]) = rootsL f (xs.take k) ++ [b.key] := by rw [roots_snoc, if_pos ⟨hm, hr⟩]
  refine ⟨?_, e⟩
  unfold islL
  rw [e, List.map_append]
  congr 1
  · refine List.map_congr_left fun r hrr => ?_
    rw [keysR_snoc, if_neg, List.append_nil]
    rintro ⟨_, e2⟩
    obtain ⟨c, hc, rfl⟩ := List.mem_map.1 hrr
    have := hlt c (List.mem_filter.1 hc).1
    omega
  · simp only [List.map_cons, List.map_nil]
    rw [keysR_snoc, if_pos ⟨hm, hr⟩]
    have : keysR f (xs.take k) b.key = [] := by
      unfold keysR
      rw [List.map_eq_nil_iff, List.filter_eq_nil_iff]
      intro c hc hcm
      simp only [memR, decide_eq_true_eq] at hcm
      have hd : Dyn xs c.key := ⟨c, (List.take_sublist _ _).subset hc, rfl, hcm.1⟩
      obtain ⟨p, hp⟩ := (hf.dom _).2 hd
      have := (rt_root hf.F hp).2
      have := hlt c hc
      omega
    rw [this]; rfl
/-- Another body joins the list of its root. -/
theorem isl_other {xs : List Body} {f : KMap} (hf : Fst xs f) (hs : Sorted xs) {k : Nat} {b : Body} (hb : xs[k]? = some b) (hm : b.mass ≠ 0) (hr : rt f b.key ≠ b.key) :
    rootsL f (xs.take (k + 1)) = rootsL f (xs.take k) ∧ ∃ j : Nat, (rootsL f (xs.take k))[j]? = some (rt f b.key) ∧ islL f (xs.take (k + 1)) = (islL f (xs.take k)).set j (keysR f (xs.take k) (rt f b.key) ++ [b.key]) := by
  have hd : Dyn xs b.key := ⟨b, List.mem_of_getElem? hb, rfl, hm⟩
  obtain ⟨p, hp⟩ := (hf.dom _).2 hd
  obtain ⟨h1, h2⟩ := rt_root hf.F hp
  obtain ⟨c, hc, hck, hcm⟩ := rt_dyn hf hd
  obtain ⟨i, hi⟩ := List.getElem?_of_mem hc
  have hik : i < k := by
    rcases Nat.lt_trichotomy i k with h | h | h
    · exact h
    · subst h; rw [hi] at hb; injection hb with hb; subst hb; exact absurd hck.symm hr
    · have := sorted_lt hs h hb hi; omega
  have hct : c ∈ xs.take k := List.mem_of_getElem? (i := i) (by rw [List.getElem?_take, if_pos hik]; exact hi)
  have hmem : rt f b.key ∈ rootsL f (xs.take k) := List.mem_map.2 ⟨c, List.mem_filter.2 ⟨hct, decide_eq_true ⟨hcm, by rw [hck]; exact rt_self h1⟩⟩, hck⟩
  rw [take_snoc hb]
  have e : rootsL f (xs.take k ++ [b]) = rootsL f (xs.take k) := by rw [roots_snoc, if_neg (fun x => hr x.2), List.append_nil]
  refine ⟨e, ?_⟩
  obtain ⟨j, hj⟩ := List.getElem?_of_mem hmem
  refine ⟨j, hj, ?_⟩
  have hnd : (rootsL f (xs.take k)).Nodup := by
    have h3 : (xs.take k).Pairwise (fun a b => a.key < b.key) := hs.sublist (List.take_sublist _ _)
    unfold rootsL
    refine (List.Pairwise.sublist List.filter_sublist h3).map _ ?_
    intro a b h; omega
  unfold islL
  rw [e]
  refine List.ext_getElem? fun q => ?_
  rw [List.getElem?_set, List.getElem?_map, List.getElem?_map, List.length_map]
  have hjl := (List.getElem?_eq_some_iff.1 hj).1
  by_cases hq : j = q
  · subst hq
    rw [if_pos rfl, if_pos hjl, hj, Option.map_some, keysR_snoc, if_pos ⟨hm, rfl⟩]
  · rw [if_neg hq]
    cases hrq : (rootsL f (xs.take k))[q]? with
    | none => rfl
    | some r =>
      rw [Option.map_some, Option.map_some, keysR_snoc, if_neg, List.append_nil]
      rintro ⟨_, e2⟩
      have hql := (List.getElem?_eq_some_iff.1 hrq)
      have hjl' := (List.getElem?_eq_some_iff.1 hj)
      have hpw := List.pairwise_iff_getElem.1 hnd
      rcases Nat.lt_or_gt_of_ne hq with h | h
      · exact hpw j q hjl'.1 hql.1 h (hjl'.2.trans (e2.trans hql.2.symm))
      · exact hpw q j hql.1 hjl'.1 h (hql.2.trans (e2.symm.trans hjl'.2.symm))
theorem atM_get {f : KMap} {ys : List Body} {j : Nat} {r : Int} (hnd : (rootsL f ys).Nodup) (h : (rootsL f ys)[j]? = some r) : atM f ys r = some (j : Int) := by
  unfold atM
  rw [if_pos (List.mem_of_getElem? h)]
  obtain ⟨hj, e⟩ := List.getElem?_eq_some_iff.1 h
  congr 2
  rw [← e]
  exact hnd.idxOf_getElem j hj
theorem roots_nodup {xs : List Body} (hs : Sorted xs) (f : KMap) (k : Nat) : (rootsL f (xs.take k)).Nodup := by
  have h3 : (xs.take k).Pairwise (fun a b => a.key < b.key) := hs.sublist (List.take_sublist _ _)
  unfold rootsL
  refine (List.Pairwise.sublist List.filter_sublist h3).map _ ?_
  intro a b h; omega
theorem atM_root {f : KMap} {ys : List Body} {r : Int} (hn : r ∉ rootsL f ys) (q : Int) (ys' : List Body) (h : rootsL f ys' = rootsL f ys ++ [r]) : atM f ys' q = if q = r then some ((rootsL f ys).length : Int) else atM f ys q := by
  unfold atM
  rw [h]
  by_cases hq : q = r
  · subst hq
    rw [if_pos (by simp), if_pos rfl, List.idxOf_append, if_neg hn]
    simp
  · rw [if_neg hq]
    by_cases hm : q ∈ rootsL f ys
    · rw [if_pos (by simp [hm]), if_pos hm, List.idxOf_append, if_pos hm]
    · rw [if_neg (by simp [hm, hq]), if_neg hm]
/-! ### The matrix of the reference -/
end Go.Bil
namespace Go.Bil
/-- A contact as the laws of islands admit it. -/
structure RightOne (xs : List Body) (c : Con) : Prop where
  ne : ¬ c.low = c.high
  l : 0 ≤ findI c.low xs
  h : 0 ≤ findI c.high xs
instance (xs : List Body) (c : Con) : Decidable (RightOne xs c) := decidable_of_iff (¬ c.low = c.high ∧ 0 ≤ findI c.low xs ∧ 0 ≤ findI c.high xs) ⟨fun h => ⟨h.1, h.2.1, h.2.2⟩, fun h => ⟨h.1, h.2, h.3⟩⟩
abbrev RightC (xs : List Body) (cs : List Con) : Prop := cs.length ≤ 100 ∧ ∀ x ∈ cs, RightOne xs x
end Go.Bil
namespace Go.Bil
end Go.Bil
namespace Go.Bil
theorem find_at {xs : List Body} {k : Int} (h : 0 ≤ findI k xs) : ∃ (p : Nat) (x : Body), xs[p]? = some x ∧ x.key = k ∧ findI k xs = (p : Int) := (findI_cases k xs).elim (fun e => absurd e.1 (by omega)) id
end Go.Bil

/- Islands in memory: a row of slice headers, and the rows behind them. -/
set_option linter.unusedVariables false
set_option linter.unusedSimpArgs false
namespace Go.Bil
def hdr (r : Row) : List Value := [.slice r.A r.n r.c]
structure IslR (T : Nat) (rs : List Row) (L : List (List Int)) : Prop where
  len : rs.length = L.length
  row : ∀ (j : Nat) (r : Row) (l : List Int), rs[j]? = some r → L[j]? = some l → RowIs T 1 r.A r.n r.c (l.map keyCell) r.e
theorem IslR.nil (T : Nat) : IslR T [] [] := ⟨rfl, by simp⟩
theorem IslR.snoc {T : Nat} {rs : List Row} {L : List (List Int)} (h : IslR T rs L) : IslR T (rs ++ [nilRow]) (L ++ [[]]) := by
  refine ⟨by simp [h.len], fun j r l hr hl => ?_⟩
  by_cases hj : j < rs.length
  · rw [List.getElem?_append_left hj] at hr
    rw [List.getElem?_append_left (by rw [← h.len]; exact hj)] at hl
    exact h.row j r l hr hl
  · have hj2 : j = rs.length := by
      have := (List.getElem?_eq_some_iff.1 hr).1
      simp at this
      omega
    rw [hj2, List.getElem?_append_right (Nat.le_refl _), Nat.sub_self] at hr
    rw [hj2, h.len, List.getElem?_append_right (Nat.le_refl _), Nat.sub_self] at hl
    simp only [List.getElem?_cons_zero, Option.some.injEq] at hr hl
    subst hr hl
    exact RowIs.nil _ _ _
theorem IslR.put {T : Nat} {rs : List Row} {L : List (List Int)} (h : IslR T rs L) {j : Nat} {r : Row} {l : List Int} (hj : j < L.length) (hr : RowIs T 1 r.A r.n r.c (l.map keyCell) r.e) : IslR T (rs.set j r) (L.set j l) := by
  refine ⟨by rw [List.length_set, List.length_set, h.len], fun k q m hq hm => ?_⟩
  rw [List.getElem?_set] at hq hm
  by_cases hk : j = k
  · subst hk
    rw [if_pos rfl, if_pos (by rw [h.len]; exact hj)] at hq
    rw [if_pos rfl, if_pos hj] at hm
    injection hq with hq
    injection hm with hm
    subst hq hm
    exact hr
  · rw [if_neg hk] at hq hm
    exact h.row k q m hq hm
theorem Mem.dummyTail {w0 w : World} {X : List Nat} {L : List Ent} {rs : List Row} (M : Mem w0 X (L ++ rs.map Row.e) w) : Mem w0 X (L ++ (rs ++ [nilRow]).map Row.e) w := by
  have h := M.dummy default
  rw [List.append_assoc] at h
  rw [List.map_append]
  exact h
theorem dyn_iff {xs : List Body} (hs : Sorted xs) {b : Body} (hb : b ∈ xs) : Dyn xs b.key ↔ b.mass ≠ 0 := by
  constructor
  · rintro ⟨c, hc, hk, hm⟩
    have := sorted_mem hs hc hb hk
    subst this
    exact hm
  · exact fun h => ⟨b, hb, rfl, h⟩
theorem fst_none {xs : List Body} {f : KMap} (hf : Fst xs f) (hs : Sorted xs) {b : Body} (hb : b ∈ xs) (h : (f b.key).isSome = false) : b.mass = 0 := by
  refine Decidable.byContradiction fun hm => ?_
  obtain ⟨p, hp⟩ := (hf.dom _).2 ((dyn_iff hs hb).2 hm)
  rw [hp] at h
  cases h
theorem fst_some {xs : List Body} {f : KMap} (hf : Fst xs f) (hs : Sorted xs) {b : Body} (hb : b ∈ xs) {p : Int} (h : f b.key = some p) : b.mass ≠ 0 := (dyn_iff hs hb).1 ((hf.dom _).1 ⟨p, h⟩)
theorem atM_congr {f : KMap} {ys ys' : List Body} (h : rootsL f ys' = rootsL f ys) (q : Int) : atM f ys' q = atM f ys q := by unfold atM; rw [h]
/-- One body more: which list it joins. -/
theorem isl_next_root {xs : List Body} {f : KMap} (hf : Fst xs f) (hs : Sorted xs) {k : Nat} {b : Body} (hb : xs[k]? = some b) (hm : b.mass ≠ 0) (hr : rt f b.key = b.key) :
    ∃ l : List Int, l.length ≤ xs.length ∧ islL f (xs.take (k + 1)) = (islL f (xs.take k) ++ [[]]).set (islL f (xs.take k)).length (l ++ [b.key]) ∧ (islL f (xs.take k) ++ [[]])[(islL f (xs.take k)).length]? = some l ∧
    ∀ q, atM f (xs.take (k + 1)) q = if q = b.key then some ((islL f (xs.take k)).length : Int) else atM f (xs.take k) q := by
  obtain ⟨h1, h2⟩ := isl_root hf hs hb hm hr
  refine ⟨[], by simp, ?_, ?_, fun q => ?_⟩
  · rw [h1, List.set_append_right _ _ (Nat.le_refl _), Nat.sub_self]; rfl
  · rw [List.getElem?_append_right (Nat.le_refl _), Nat.sub_self]; rfl
  · rw [islL_len]
    refine atM_root ?_ q _ h2
    intro hmem
    have hnd := roots_nodup hs f (k + 1)
    rw [h2, List.nodup_append] at hnd
    exact hnd.2.2 _ hmem _ (by simp) rfl
theorem isl_next_other {xs : List Body} {f : KMap} (hf : Fst xs f) (hs : Sorted xs) {k : Nat} {b : Body} (hb : xs[k]? = some b) (hm : b.mass ≠ 0) (hr : rt f b.key ≠ b.key) :
    ∃ (j : Nat) (l : List Int), (islL f (xs.take k))[j]? = some l ∧ islL f (xs.take (k + 1)) = (islL f (xs.take k)).set j (l ++ [b.key]) ∧ atM f (xs.take k) (rt f b.key) = some (j : Int) ∧ (∀ q, atM f (xs.take (k + 1)) q = atM f (xs.take k) q) ∧ l.length ≤ xs.length := by
  obtain ⟨h1, j, h2, h3⟩ := isl_other hf hs hb hm hr
  refine ⟨j, keysR f (xs.take k) (rt f b.key), ?_, h3, atM_get (roots_nodup hs f k) h2, atM_congr h1, Nat.le_trans (keysR_len _ _ _) (by rw [List.length_take]; omega)⟩
  unfold islL
  rw [List.getElem?_map, h2]; rfl
theorem isl_next_static {xs : List Body} {f : KMap} {k : Nat} {b : Body} (hb : xs[k]? = some b) (hm : b.mass = 0) : islL f (xs.take (k + 1)) = islL f (xs.take k) ∧ ∀ q, atM f (xs.take (k + 1)) q = atM f (xs.take k) q := by
  rw [take_snoc hb]
  exact ⟨(isl_static hm).1, atM_congr (isl_static hm).2⟩
end Go.Bil

/- The reference's islands: read off the closed matrix; they are the same lists. -/
set_option linter.unusedVariables false
set_option linter.unusedSimpArgs false
namespace Go.Bil
theorem IslR.add {T : Nat} {rs : List Row} {L : List (List Int)} {r : Row} {l : List Int} (h : IslR T rs L) (hr : RowIs T 1 r.A r.n r.c (l.map keyCell) r.e) : IslR T (rs ++ [r]) (L ++ [l]) := by
  refine ⟨by simp [h.len], fun j q k hq hk => ?_⟩
  by_cases hj : j < rs.length
  · rw [List.getElem?_append_left hj] at hq
    rw [List.getElem?_append_left (by rw [← h.len]; exact hj)] at hk
    exact h.row j q k hq hk
  · have hj2 : j = rs.length := by
      have := (List.getElem?_eq_some_iff.1 hq).1
      simp at this
      omega
    rw [hj2, List.getElem?_append_right (Nat.le_refl _), Nat.sub_self] at hq
    rw [hj2, h.len, List.getElem?_append_right (Nat.le_refl _), Nat.sub_self] at hk
    simp only [List.getElem?_cons_zero, Option.some.injEq] at hq hk
    subst hq hk
    exact hr
end Go.Bil

/- Rows of rows, read alone. -/
set_option linter.unusedVariables false
set_option linter.unusedSimpArgs false
namespace Go.Bil
structure IslRd (w : World) (A : Option Addr) (n : Nat) (rs : List Row) (L : List (List Int)) : Prop where
  hd : Rd w 1 A n (rs.map hdr)
  len : rs.length = L.length
  row : ∀ (j : Nat) (r : Row) (l : List Int), rs[j]? = some r → L[j]? = some l → Rd w 1 r.A r.n (l.map keyCell)
theorem IslRd.mem {w0 w : World} {S : List Ent} {A : Option Addr} {n : Nat} {rs : List Row} {L : List (List Int)} (h : IslRd w0 A n rs L) (M : Mem w0 [] S w) : IslRd w A n rs L :=
  ⟨h.hd.mem M, h.len, fun j r l hr hl => (h.row j r l hr hl).mem M⟩
theorem IslRd.n_eq {w : World} {A : Option Addr} {n : Nat} {rs : List Row} {L : List (List Int)} (h : IslRd w A n rs L) : L.length = n ∧ rs.length = n := by
  have := h.hd.len
  rw [List.length_map] at this
  exact ⟨by rw [← h.len]; exact this, this⟩
theorem IslR.rd {w0 w : World} {X : List Nat} {S : List Ent} {T T' c n : Nat} {A : Option Addr} {e : Ent} {rs : List Row} {L : List (List Int)} (h : IslR T rs L) (hq : RowIs T' 1 A n c (rs.map hdr) e) (M : Mem w0 X S w) (he : e ∈ S) (ht : ∀ r ∈ rs, r.e ∈ S) : IslRd w A n rs L :=
  ⟨hq.rd M he, h.len, fun j r l hr hl => (h.row j r l hr hl).rd M (ht r (List.mem_of_getElem? hr))⟩
/-- The first list that has the key. -/
def findL (key : Int) : List (List Int) → Int
  | [] => -1
  | l :: L => if key ∈ l then 0 else if findL key L < 0 then -1 else findL key L + 1
theorem findL_neg {key : Int} : ∀ {L : List (List Int)}, (∀ l ∈ L, key ∉ l) → findL key L = -1
  | [], _ => rfl
  | l :: L, h => by
    unfold findL
    rw [if_neg (h l (by simp)), findL_neg (fun q hq => h q (List.mem_cons_of_mem _ hq))]
    rfl
theorem findL_at {key : Int} : ∀ {L : List (List Int)} {k : Nat} {l : List Int}, L[k]? = some l → key ∈ l → (∀ (j : Nat) (m : List Int), j < k → L[j]? = some m → key ∉ m) → findL key L = (k : Int)
  | [], k, l, h, _, _ => by simp at h
  | m :: L, 0, l, h, hm, _ => by
    simp only [List.getElem?_cons_zero, Option.some.injEq] at h
    unfold findL
    rw [if_pos (by rw [h]; exact hm)]
    rfl
  | m :: L, k + 1, l, h, hm, hn => by
    have ih := findL_at (L := L) (k := k) (l := l) (by simpa using h) hm (fun j q hj hq => hn (j + 1) q (by omega) (by simpa using hq))
    unfold findL
    rw [if_neg (hn 0 m (by omega) (by simp)), ih, if_neg (by omega)]
    omega
theorem findL_cases (key : Int) (L : List (List Int)) : (findL key L = -1 ∧ ∀ l ∈ L, key ∉ l) ∨ ∃ (k : Nat) (l : List Int), L[k]? = some l ∧ key ∈ l ∧ findL key L = (k : Int) ∧ ∀ (j : Nat) (m : List Int), j < k → L[j]? = some m → key ∉ m := by
  induction L with
  | nil => exact .inl ⟨rfl, by simp⟩
  | cons m L ih =>
    by_cases h : key ∈ m
    · exact .inr ⟨0, m, by simp, h, by unfold findL; rw [if_pos h]; rfl, fun j q hj => by omega⟩
    · rcases ih with ⟨h1, h2⟩ | ⟨k, l, h1, h2, h3, h4⟩
      · refine .inl ⟨by unfold findL; rw [if_neg h, h1]; rfl, fun l hl => ?_⟩
        rcases List.mem_cons.1 hl with rfl | hl
        · exact h
        · exact h2 l hl
      · refine .inr ⟨k + 1, l, by simpa using h1, h2, by unfold findL; rw [if_neg h, h3, if_neg (by omega)]; omega, fun j q hj hq => ?_⟩
        cases j with
        | zero => simp only [List.getElem?_cons_zero, Option.some.injEq] at hq; rw [← hq]; exact h
        | succ j => exact h4 j q (by omega) (by simpa using hq)
theorem Mem.call0T {w0 w w' : World} {X : List Nat} {S A T : List Ent} (M : Mem w0 X S w) (C : Mem w [] (A ++ T) w') : Mem w0 X ((S ++ T) ++ A) w' :=
  (M.call0 C).perm (by rw [List.append_assoc]; exact List.Perm.append_left S List.perm_append_comm)
theorem IslRd.one {w : World} {A A1 : Option Addr} {n1 c1 : Nat} {l1 : List Int} (h0 : Rd w 1 A 1 [[.slice A1 n1 c1]]) (h1 : Rd w 1 A1 n1 (l1.map keyCell)) : IslRd w A 1 [⟨A1, n1, c1, default⟩] [l1] := by
  refine ⟨h0, rfl, fun j r l hr hl => ?_⟩
  match j with
  | 0 => simp only [List.getElem?_cons_zero, Option.some.injEq] at hr hl; subst hr hl; exact h1
  | j + 1 => simp at hr
theorem IslRd.two {w : World} {A A1 A2 : Option Addr} {n1 c1 n2 c2 : Nat} {l1 l2 : List Int} (h0 : Rd w 1 A 2 [[.slice A1 n1 c1], [.slice A2 n2 c2]]) (h1 : Rd w 1 A1 n1 (l1.map keyCell)) (h2 : Rd w 1 A2 n2 (l2.map keyCell)) : IslRd w A 2 [⟨A1, n1, c1, default⟩, ⟨A2, n2, c2, default⟩] [l1, l2] := by
  refine ⟨h0, rfl, fun j r l hr hl => ?_⟩
  match j with
  | 0 => simp only [List.getElem?_cons_zero, Option.some.injEq] at hr hl; subst hr hl; exact h1
  | 1 => simp only [List.getElem?_cons_succ, List.getElem?_cons_zero, Option.some.injEq] at hr hl; subst hr hl; exact h2
  | j + 2 => simp at hr
theorem two_rows {rs : List Row} (h : rs.length = 2) : ∃ a b, rs = [a, b] := by
  match rs, h with
  | [a, b], _ => exact ⟨a, b, rfl⟩
theorem one_row {rs : List Row} (h : rs.length = 1) : ∃ a, rs = [a] := by
  match rs, h with
  | [a], _ => exact ⟨a, rfl⟩
end Go.Bil

/- Plain laws of the lists of islands: parts, orders, joins. -/
set_option linter.unusedVariables false
set_option linter.unusedSimpArgs false
namespace Go.Bil
theorem roots_mem {f : KMap} {ys : List Body} {r : Int} : r ∈ rootsL f ys ↔ ∃ b ∈ ys, b.mass ≠ 0 ∧ rt f b.key = b.key ∧ b.key = r := by
  unfold rootsL rootB
  simp only [List.mem_map, List.mem_filter, decide_eq_true_eq]
  exact ⟨fun ⟨b, ⟨h1, h2⟩, h3⟩ => ⟨b, h1, h2.1, h2.2, h3⟩, fun ⟨b, h1, h2, h3, h4⟩ => ⟨b, ⟨h1, h2, h3⟩, h4⟩⟩
theorem keysR_mem {f : KMap} {ys : List Body} {r k : Int} : k ∈ keysR f ys r ↔ ∃ b ∈ ys, b.mass ≠ 0 ∧ rt f b.key = r ∧ b.key = k := by
  unfold keysR memR
  simp only [List.mem_map, List.mem_filter, decide_eq_true_eq]
  exact ⟨fun ⟨b, ⟨h1, h2⟩, h3⟩ => ⟨b, h1, h2.1, h2.2, h3⟩, fun ⟨b, h1, h2, h3, h4⟩ => ⟨b, ⟨h1, h2, h3⟩, h4⟩⟩
theorem keysR_body {f : KMap} {xs : List Body} (hs : Sorted xs) {b : Body} (hb : b ∈ xs) {r : Int} : b.key ∈ keysR f xs r ↔ b.mass ≠ 0 ∧ rt f b.key = r := by
  rw [keysR_mem]
  constructor
  · rintro ⟨c, hc, hm, hr, hk⟩
    have := sorted_mem hs hc hb hk
    subst this
    exact ⟨hm, hr⟩
  · exact fun h => ⟨b, hb, h.1, h.2, rfl⟩
theorem keys_pw {xs : List Body} (hs : Sorted xs) (p : Body → Bool) : ((xs.filter p).map (·.key)).Pairwise (· < ·) := List.pairwise_map.2 (hs.sublist List.filter_sublist)
theorem roots_pw {xs : List Body} (hs : Sorted xs) (f : KMap) : (rootsL f xs).Pairwise (· < ·) := keys_pw hs _
theorem roots_nd {xs : List Body} (hs : Sorted xs) (f : KMap) : (rootsL f xs).Nodup := (roots_pw hs f).imp (fun h e => by omega)
theorem isl_at {f : KMap} {ys : List Body} {j : Nat} {l : List Int} (h : (islL f ys)[j]? = some l) : ∃ r, (rootsL f ys)[j]? = some r ∧ l = keysR f ys r := by
  unfold islL at h
  rw [List.getElem?_map] at h
  cases hr : (rootsL f ys)[j]? with
  | none => rw [hr] at h; cases h
  | some r => rw [hr] at h; injection h with h; exact ⟨r, rfl, h.symm⟩
/-- Every body that moves has its root among the roots. -/
theorem rt_mem {xs : List Body} {f : KMap} (hf : Fst xs f) {b : Body} (hb : b ∈ xs) (hm : b.mass ≠ 0) : rt f b.key ∈ rootsL f xs := by
  have hd : Dyn xs b.key := ⟨b, hb, rfl, hm⟩
  obtain ⟨c, hc, hk, hcm⟩ := rt_dyn hf hd
  obtain ⟨p, hp⟩ := (hf.dom _).2 hd
  exact roots_mem.2 ⟨c, hc, hcm, by rw [hk]; exact rt_idem hf.F hp, hk⟩
theorem findL_congr {a b : Int} : ∀ {L : List (List Int)}, (∀ l ∈ L, a ∈ l ↔ b ∈ l) → findL a L = findL b L
  | [], _ => rfl
  | l :: L, h => by
    have ih := findL_congr (fun m hm => h m (List.mem_cons_of_mem _ hm))
    unfold findL
    have h0 := h l (by simp)
    by_cases e : a ∈ l
    · rw [if_pos e, if_pos (h0.1 e)]
    · rw [if_neg e, if_neg (fun x => e (h0.2 x)), ih]
theorem findL_nn {key : Int} {L : List (List Int)} : 0 ≤ findL key L ↔ ∃ l ∈ L, key ∈ l := by
  rcases findL_cases key L with ⟨h1, h2⟩ | ⟨k, l, h1, h2, h3, _⟩
  · exact ⟨fun h => by omega, fun ⟨l, hl, hk⟩ => absurd hk (h2 l hl)⟩
  · exact ⟨fun _ => ⟨l, List.mem_of_getElem? h1, h2⟩, fun _ => by omega⟩
theorem findL_dyn {xs : List Body} {f : KMap} (hf : Fst xs f) (hs : Sorted xs) {b : Body} (hb : b ∈ xs) : 0 ≤ findL b.key (islL f xs) ↔ b.mass ≠ 0 := by
  rw [findL_nn]
  unfold islL
  constructor
  · rintro ⟨l, hl, hk⟩
    obtain ⟨r, _, rfl⟩ := List.mem_map.1 hl
    exact ((keysR_body hs hb).1 hk).1
  · exact fun hm => ⟨_, List.mem_map.2 ⟨_, rt_mem hf hb hm, rfl⟩, (keysR_body hs hb).2 ⟨hm, rfl⟩⟩
theorem findL_eq {xs : List Body} {f : KMap} (hf : Fst xs f) (hs : Sorted xs) {b c : Body} (hb : b ∈ xs) (hc : c ∈ xs) : (0 ≤ findL b.key (islL f xs) ∧ findL b.key (islL f xs) = findL c.key (islL f xs)) ↔ b.mass ≠ 0 ∧ c.mass ≠ 0 ∧ rt f b.key = rt f c.key := by
  constructor
  · rintro ⟨h0, h1⟩
    have m1 := (findL_dyn hf hs hb).1 h0
    have m2 := (findL_dyn hf hs hc).1 (by omega)
    refine ⟨m1, m2, ?_⟩
    rcases findL_cases b.key (islL f xs) with ⟨g, _⟩ | ⟨k, l, g1, g2, g3, _⟩
    · omega
    · rcases findL_cases c.key (islL f xs) with ⟨g, _⟩ | ⟨k', l', g1', g2', g3', _⟩
      · omega
      · have : k = k' := by omega
        subst this
        rw [g1] at g1'
        injection g1' with e
        subst e
        obtain ⟨r, _, rfl⟩ := isl_at g1
        rw [((keysR_body hs hb).1 g2).2, ((keysR_body hs hc).1 g2').2]
  · rintro ⟨m1, m2, hr⟩
    refine ⟨(findL_dyn hf hs hb).2 m1, findL_congr (fun l hl => ?_)⟩
    unfold islL at hl
    obtain ⟨r, _, rfl⟩ := List.mem_map.1 hl
    rw [keysR_body hs hb, keysR_body hs hc, hr]
    exact ⟨fun h => ⟨m2, h.2⟩, fun h => ⟨m1, h.2⟩⟩
/-! ### Sums -/
/-! ### Two forests -/
theorem islL_congr {xs : List Body} {f g : KMap} (h : ∀ k, Dyn xs k → rt f k = rt g k) : islL f xs = islL g xs := by
  have e1 : rootsL f xs = rootsL g xs := by
    unfold rootsL
    congr 1
    refine List.filter_congr (fun b hb => ?_)
    unfold rootB
    refine decide_eq_decide.2 ⟨fun ⟨m, e⟩ => ⟨m, ?_⟩, fun ⟨m, e⟩ => ⟨m, ?_⟩⟩
    · rw [← h b.key ⟨b, hb, rfl, m⟩]; exact e
    · rw [h b.key ⟨b, hb, rfl, m⟩]; exact e
  unfold islL
  rw [e1]
  refine List.map_congr_left (fun r _ => ?_)
  unfold keysR
  congr 1
  refine List.filter_congr (fun b hb => ?_)
  unfold memR
  refine decide_eq_decide.2 ⟨fun ⟨m, e⟩ => ⟨m, ?_⟩, fun ⟨m, e⟩ => ⟨m, ?_⟩⟩
  · rw [← h b.key ⟨b, hb, rfl, m⟩]; exact e
  · rw [h b.key ⟨b, hb, rfl, m⟩]; exact e
/-! ### One contact more -/
theorem dyn_find {xs : List Body} {f : KMap} (hf : Fst xs f) (hs : Sorted xs) {k : Int} (hk : 0 ≤ findI k xs) : (f k).isSome = true ↔ 0 ≤ findL k (islL f xs) := by
  obtain ⟨p, b, hb, rfl, _⟩ := find_at hk
  have hm := List.mem_of_getElem? hb
  rw [findL_dyn hf hs hm, ← dyn_iff hs hm, Option.isSome_iff_exists]
  exact hf.dom _
theorem forest_app {xs : List Body} {cs : List Con} {x : Con} : forestOf xs (cs ++ [x]) = linkK (forestOf xs cs) x := by unfold forestOf; rw [List.foldl_append]; rfl
theorem join_stay {xs : List Body} {f : KMap} (hf : Fst xs f) (hs : Sorted xs) {x : Con} (hl : 0 ≤ findI x.low xs) (hh : 0 ≤ findI x.high xs) (h : findL x.low (islL f xs) < 0 ∨ findL x.high (islL f xs) < 0 ∨ findL x.low (islL f xs) = findL x.high (islL f xs)) : islL f xs = islL (linkK f x) xs := by
  unfold linkK
  split
  · rename_i hc
    have d1 := (hf.dom _).1 (Option.isSome_iff_exists.1 hc.1)
    have d2 := (hf.dom _).1 (Option.isSome_iff_exists.1 hc.2)
    have n1 := (dyn_find hf hs hl).1 hc.1
    have n2 := (dyn_find hf hs hh).1 hc.2
    have e : findL x.low (islL f xs) = findL x.high (islL f xs) := by omega
    obtain ⟨p, b, hb, hbk, _⟩ := find_at hl
    obtain ⟨q, c, hc', hck, _⟩ := find_at hh
    have hr := ((findL_eq hf hs (List.mem_of_getElem? hb) (List.mem_of_getElem? hc')).1 (by rw [hbk, hck]; exact ⟨n1, e⟩)).2.2
    rw [hbk, hck] at hr
    refine islL_congr (fun k hk => ?_)
    rw [(join_fst hf d1 d2).2 k hk]
    split <;> omega
  · rfl
theorem filter_len {l : List Int} (hn : l.Nodup) {m : Int} (hm : m ∈ l) : (l.filter (fun k => decide (k ≠ m))).length + 1 = l.length := by
  induction l with
  | nil => cases hm
  | cons a l ih =>
    rw [List.nodup_cons] at hn
    by_cases e : a = m
    · subst e
      rw [List.filter_cons_of_neg (by simp), List.filter_eq_self.2 (fun k hk => by simp only [decide_eq_true_eq]; exact fun h => hn.1 (h ▸ hk)), List.length_cons]
    · rw [List.filter_cons_of_pos (by simpa using e), List.length_cons, List.length_cons, ih hn.2 (by rcases List.mem_cons.1 hm with h | h; exact absurd h.symm e; exact h)]
theorem join_two {xs : List Body} {f : KMap} (hf : Fst xs f) (hs : Sorted xs) {x : Con} (hl : 0 ≤ findI x.low xs) (hh : 0 ≤ findI x.high xs) (n1 : 0 ≤ findL x.low (islL f xs)) (n2 : 0 ≤ findL x.high (islL f xs)) (hne : findL x.low (islL f xs) ≠ findL x.high (islL f xs)) :
    (islL (linkK f x) xs).length + 1 = (islL f xs).length ∧ findL x.low (islL (linkK f x) xs) = findL x.high (islL (linkK f x) xs) := by
  have c1 := (dyn_find hf hs hl).2 n1
  have c2 := (dyn_find hf hs hh).2 n2
  have d1 := (hf.dom _).1 (Option.isSome_iff_exists.1 c1)
  have d2 := (hf.dom _).1 (Option.isSome_iff_exists.1 c2)
  obtain ⟨p, b, hb, hbk, _⟩ := find_at hl
  obtain ⟨q, c, hc, hck, _⟩ := find_at hh
  have mb := List.mem_of_getElem? hb
  have mc := List.mem_of_getElem? hc
  have m1 : b.mass ≠ 0 := (findL_dyn hf hs mb).1 (by rw [hbk]; exact n1)
  have m2 : c.mass ≠ 0 := (findL_dyn hf hs mc).1 (by rw [hck]; exact n2)
  have hr : rt f x.low ≠ rt f x.high := fun e => hne (by
    have := ((findL_eq hf hs mb mc).2 ⟨m1, m2, by rw [hbk, hck]; exact e⟩).2
    rw [hbk, hck] at this
    exact this)
  have r1 := rt_mem hf mb m1
  have r2 := rt_mem hf mc m2
  rw [hbk] at r1
  rw [hck] at r2
  have hg := link_fst hf x
  have hsame := link_same hf d1 d2
  have hj := (join_fst hf d1 d2).2
  have el : linkK f x = joinK f x.low x.high := by unfold linkK; rw [if_pos ⟨c1, c2⟩]
  rw [← el] at hj
  refine ⟨?_, ?_⟩
  · rw [islL_len, islL_len]
    have hmx : max (rt f x.low) (rt f x.high) ∈ rootsL f xs := by
      by_cases g : rt f x.low ≤ rt f x.high
      · rw [Int.max_eq_right g]; exact r2
      · rw [Int.max_eq_left (by omega)]; exact r1
    have hmn : min (rt f x.low) (rt f x.high) ∈ rootsL f xs := by
      by_cases g : rt f x.low ≤ rt f x.high
      · rw [Int.min_eq_left g]; exact r1
      · rw [Int.min_eq_right (by omega)]; exact r2
    have hlt : min (rt f x.low) (rt f x.high) < max (rt f x.low) (rt f x.high) := by omega
    generalize max (rt f x.low) (rt f x.high) = mx at *
    generalize min (rt f x.low) (rt f x.high) = mn at *
    have e : rootsL (linkK f x) xs = (rootsL f xs).filter (fun k => decide (k ≠ mx)) := by
      unfold rootsL
      rw [List.filter_map, List.filter_filter]
      congr 1
      refine List.filter_congr (fun z hz => ?_)
      unfold rootB
      simp only [Function.comp_apply]
      rw [← Bool.decide_and]
      refine decide_eq_decide.2 ⟨fun ⟨hm, e⟩ => ?_, fun ⟨hzk, hm, e⟩ => ⟨hm, ?_⟩⟩
      · rw [hj z.key ⟨z, hz, rfl, hm⟩] at e
        by_cases g : rt f z.key = mx
        · rw [if_pos g] at e
          obtain ⟨y, hy, hym, hyr, hyk⟩ := roots_mem.1 hmn
          rw [← e, ← hyk, hyr] at g
          omega
        · rw [if_neg g] at e
          exact ⟨by omega, hm, e⟩
      · rw [hj z.key ⟨z, hz, rfl, hm⟩, if_neg (by omega), e]
    rw [e]
    exact filter_len (roots_nd hs f) hmx
  · have := ((findL_eq hg hs mb mc).2 ⟨m1, m2, by rw [hbk, hck]; exact hsame⟩).2
    rw [hbk, hck] at this
    exact this
/-! ### Single bodies -/
/-! ### The contacts of a view are right ones -/
end Go.Bil

/- Arguments that are rows of rows of numbers, as a walk reads them. -/
set_option linter.unusedVariables false
set_option linter.unusedSimpArgs false
namespace Go.Bil
open Go Go.RowKit Go.Deep
section
variable {H : Type} {enc : TypeId × Value → H} {P : Program} {w : World} {base : Nat} {spare : Nat → Bool} {held : Bool}
end
/-- What a call hands out besides its rows joins what lies behind. -/
theorem Mem.call0U {w0 w w' : World} {X : List Nat} {L T A T' : List Ent} (M : Mem w0 X (L ++ T) w) (C : Mem w [] (A ++ T') w') : Mem w0 X ((L ++ (T ++ T')) ++ A) w' :=
  (M.call0 C).perm (by
    rw [List.append_assoc, List.append_assoc, List.append_assoc]
    refine List.Perm.append_left L (List.Perm.append_left T ?_)
    exact List.perm_append_comm)
theorem cons_one (m : List Con) : ∀ y ∈ m.map conCells, ∀ u ∈ y, one u = true := by
  intro y hy
  obtain ⟨b, _, rfl⟩ := List.mem_map.1 hy
  simp [conCells, Go.Bil.one]
end Go.Bil
