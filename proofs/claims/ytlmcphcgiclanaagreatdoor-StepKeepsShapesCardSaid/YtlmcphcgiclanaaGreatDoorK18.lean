/- Part of the proof of the laws of this seat: MdX, MdY, MdZ, MdM, MdI, MdJ, MdA, MdF, MdH. No conditions. -/
import Derived.Test.YtlmcphcgiclanaaGreatDoorK7
import Derived.Test.YtlmcphcgiclanaaGreatDoorK17
set_option linter.unusedVariables false
set_option linter.unusedSimpArgs false
set_option linter.unnecessarySimpa false
namespace Go.Bil
abbrev Pt := Int × Int
structure PtI (v : Pt) : Prop where
  x : -1082130432 ≤ v.1 ∧ v.1 ≤ 1082130432
  y : -1082130432 ≤ v.2 ∧ v.2 ≤ 1082130432
structure SgI (p q : Pt) : Prop where
  hp : PtI p
  hq : PtI q
  x : -16777216 ≤ q.1 - p.1 ∧ q.1 - p.1 ≤ 16777216
  y : -16777216 ≤ q.2 - p.2 ∧ q.2 - p.2 ≤ 16777216
theorem PtI.i32 {v : Pt} (h : PtI v) : I32 v := ⟨by have := h.x; omega, by have := h.y; omega⟩
theorem PtI.inX {v u : Pt} (h : PtI v) (g : PtI u) : sN (u.1 - v.1) := by have := h.x; have := g.x; unfold sN; omega
theorem PtI.inY {v u : Pt} (h : PtI v) (g : PtI u) : sN (u.2 - v.2) := by have := h.y; have := g.y; unfold sN; omega
theorem tS {a b : Int} {A B : Nat} (ha : a.natAbs ≤ A) (hb : b.natAbs ≤ B) : -((A * B : Nat) : Int) ≤ a * b ∧ a * b ≤ ((A * B : Nat) : Int) := by
  have h := Nat.mul_le_mul ha hb
  rw [← Int.natAbs_mul] at h
  omega
theorem sqN (a : Int) : 0 ≤ a * a := by rw [← Int.natAbs_mul_self]; omega
def iT (p q : Pt) : Int := (q.1 - p.1) * (q.1 - p.1) + (q.2 - p.2) * (q.2 - p.2)
def lY (p q c : Pt) : Int := max 0 (min ((c.1 - p.1) * (q.1 - p.1) + (c.2 - p.2) * (q.2 - p.2)) (iT p q))
theorem pG {p q : Pt} (h : SgI p q) : 0 ≤ iT p q ∧ iT p q ≤ 562949953421312 ∧ (0 ≤ (q.1 - p.1) * (q.1 - p.1) ∧ (q.1 - p.1) * (q.1 - p.1) ≤ 281474976710656) ∧ 0 ≤ (q.2 - p.2) * (q.2 - p.2) ∧ (q.2 - p.2) * (q.2 - p.2) ≤ 281474976710656 := by
  have hx := h.x
  have hy := h.y
  have a := tS (a := q.1 - p.1) (b := q.1 - p.1) (A := 16777216) (B := 16777216) (by omega) (by omega)
  have b := tS (a := q.2 - p.2) (b := q.2 - p.2) (A := 16777216) (B := 16777216) (by omega) (by omega)
  have c := sqN (q.1 - p.1)
  have d := sqN (q.2 - p.2)
  unfold iT
  omega
theorem aBr {p q c : Pt} (h : SgI p q) : 0 ≤ lY p q c ∧ lY p q c ≤ iT p q := by
  have := pG h
  unfold lY
  omega
theorem aIs {p q c : Pt} (h : SgI p q) (hc : PtI c) : (-36310272144179200 ≤ (c.1 - p.1) * (q.1 - p.1) ∧ (c.1 - p.1) * (q.1 - p.1) ≤ 36310272144179200) ∧ -36310272144179200 ≤ (c.2 - p.2) * (q.2 - p.2) ∧ (c.2 - p.2) * (q.2 - p.2) ≤ 36310272144179200 := by
  have hx := h.x
  have hy := h.y
  have := hc.x; have := hc.y; have := h.hp.x; have := h.hp.y
  have a := tS (a := c.1 - p.1) (b := q.1 - p.1) (A := 2164260864) (B := 16777216) (by omega) (by omega)
  have b := tS (a := c.2 - p.2) (b := q.2 - p.2) (A := 2164260864) (B := 16777216) (by omega) (by omega)
  omega
theorem aWk {a n d : Int} (hn : 0 ≤ n) (hnd : n ≤ d) (hd : 0 < d) : (0 ≤ a → 0 ≤ a * n / d ∧ a * n / d ≤ a) ∧ (a ≤ 0 → a ≤ a * n / d ∧ a * n / d ≤ 0) := by
  refine ⟨fun h => ⟨Int.ediv_nonneg (Int.mul_nonneg h hn) (Int.le_of_lt hd), ?_⟩, fun h => ⟨?_, ?_⟩⟩
  · exact Int.ediv_le_of_le_mul hd (Int.mul_le_mul_of_nonneg_left hnd h)
  · exact (Int.le_ediv_iff_mul_le hd).2 (Int.mul_le_mul_of_nonpos_left h hnd)
  · have h1 : a * n ≤ 0 := Int.mul_nonpos_of_nonpos_of_nonneg h hn
    exact Int.ediv_le_of_le_mul hd (by omega)
def dE (p q c : Pt) : Pt := if iT p q = 0 then p else (p.1 + (q.1 - p.1) * lY p q c / iT p q, p.2 + (q.2 - p.2) * lY p q c / iT p q)
theorem aBd {p q c : Pt} (h : SgI p q) (hd : iT p q ≠ 0) : ((-16777216 ≤ (q.1 - p.1) * lY p q c / iT p q ∧ (q.1 - p.1) * lY p q c / iT p q ≤ 16777216) ∧ -1082130432 ≤ p.1 + (q.1 - p.1) * lY p q c / iT p q ∧ p.1 + (q.1 - p.1) * lY p q c / iT p q ≤ 1082130432) ∧
    (-16777216 ≤ (q.2 - p.2) * lY p q c / iT p q ∧ (q.2 - p.2) * lY p q c / iT p q ≤ 16777216) ∧ -1082130432 ≤ p.2 + (q.2 - p.2) * lY p q c / iT p q ∧ p.2 + (q.2 - p.2) * lY p q c / iT p q ≤ 1082130432 := by
  have hn := aBr (c := c) h
  have hD := pG h
  have a := aWk (a := q.1 - p.1) hn.1 hn.2 (by omega)
  have b := aWk (a := q.2 - p.2) hn.1 hn.2 (by omega)
  have := h.hp.x; have := h.hp.y; have := h.hq.x; have := h.hq.y; have := h.x; have := h.y
  generalize (q.1 - p.1) * lY p q c / iT p q = u at *
  generalize (q.2 - p.2) * lY p q c / iT p q = v at *
  omega
theorem dX {p q c : Pt} (h : SgI p q) : PtI (dE p q c) := by
  unfold dE
  split
  · exact h.hp
  · rename_i hd
    have := aBd (c := c) h hd
    exact ⟨this.1.2, this.2.2⟩
abbrev Ch := Pt × Pt × Nat
def eL (s : Ch) (x y : Pt) : Ch := if vH (y.1 - x.1) (y.2 - x.2) < s.2.2 then (x, y, vH (y.1 - x.1) (y.2 - x.2)) else s
def ch0 : Ch := ((0, 0), (0, 0), 18446744073709551615)
def mB (ap aq bp bq : Pt) : Ch := eL (eL (eL (eL ch0 ap (dE bp bq ap)) aq (dE bp bq aq)) (dE ap aq bp) bp) (dE ap aq bq) bq
structure ChI (s : Ch) : Prop where
  a : PtI s.1
  b : PtI s.2.1
  l : s.2.2 < 18446744073709551616
theorem ChI.step {s : Ch} {x y : Pt} (h : ChI s) (hx : PtI x) (hy : PtI y) : ChI (eL s x y) := by
  unfold eL
  split
  · exact ⟨hx, hy, (vF (hx.inX hy) (hx.inY hy)).1⟩
  · exact h
theorem aLf : ChI ch0 := ⟨⟨by decide, by decide⟩, ⟨by decide, by decide⟩, by decide⟩
theorem aHe {ap aq bp bq : Pt} (h1 : SgI ap aq) (h2 : SgI bp bq) : ChI (mB ap aq bp bq) :=
  (((aLf.step h1.hp (dX h2)).step h1.hq (dX h2)).step (dX h1) h2.hp).step (dX h1) h2.hq
def aCf (b : Body) : Pt := (b.px - b.ax, b.py - b.ay)
def aAy (b : Body) : Pt := (b.px + b.ax, b.py + b.ay)
theorem sB {b : Body} (h : Okb b) : SgI (aCf b) (aAy b) := by
  have := h.a; have := h.p
  refine ⟨⟨?_, ?_⟩, ⟨?_, ?_⟩, ?_, ?_⟩ <;> simp only [aCf, aAy] <;> omega
structure Con where
  low : Int
  high : Int
  nx : Int
  ny : Int
  depth : Int
deriving DecidableEq
def bY (c : Con) : List Value := [.int .u32 c.low, .int .u32 c.high, .int .i32 c.nx, .int .i32 c.ny, .int .i32 c.depth]
def rG (a b : Body) : Ch := mB (aCf a) (aAy a) (aCf b) (aAy b)
def tJ (s : Ch) : Int := s.2.1.1 - s.1.1
def vD (s : Ch) : Int := s.2.1.2 - s.1.2
def kE (a b : Body) : Option Con :=
  if (a.radius + b.radius).natAbs * (a.radius + b.radius).natAbs ≤ vH (tJ (rG a b)) (vD (rG a b)) then none
  else some ⟨a.key, b.key, (iY (tJ (rG a b)) (vD (rG a b))).1, (iY (tJ (rG a b)) (vD (rG a b))).2, IntKind.wrap .i32 (a.radius + b.radius - len (tJ (rG a b)) (vD (rG a b)))⟩
def jP (a b : Body) : Option Con := if b.key < a.key then kE b a else kE a b
def jI (b : Body) : List Value := aI b ++ cA (aCf b) ++ cA (aAy b)
def loB (a b : Body) : Body := if b.key < a.key then b else a
def hiB (a b : Body) : Body := if b.key < a.key then a else b
theorem aBl (a b : Body) : jP a b = kE (loB a b) (hiB a b) := by unfold jP loB hiB; split <;> rfl
theorem aTq {a b : Body} (ha : Okb a) (hb : Okb b) : Okb (loB a b) ∧ Okb (hiB a b) := by unfold loB hiB; split <;> exact ⟨by assumption, by assumption⟩
theorem vB {a b : Body} (ha : Okb a) (hb : Okb b) : ChI (rG a b) := aHe (sB ha) (sB hb)
theorem aSd {a b : Body} (ha : Okb a) (hb : Okb b) : sN (tJ (rG a b)) ∧ sN (vD (rG a b)) := ⟨(vB ha hb).a.inX (vB ha hb).b, (vB ha hb).a.inY (vB ha hb).b⟩
def aTi (o : Option Con) : List Value := bY (o.getD ⟨0, 0, 0, 0, 0⟩)
theorem aTg {a b : Body} (ha : Okb a) (hb : Okb b) : 0 ≤ (a.radius + b.radius) * (a.radius + b.radius) ∧ (a.radius + b.radius) * (a.radius + b.radius) ≤ 70368744177664 := by
  have := ha.r; have := hb.r
  have h := tS (a := a.radius + b.radius) (b := a.radius + b.radius) (A := 8388608) (B := 8388608) (by omega) (by omega)
  have := sqN (a.radius + b.radius)
  omega
theorem aQl (s : Int) (h : 0 ≤ s * s ∧ s * s ≤ 70368744177664) : IntKind.wrap .u64 (s * s) = ((s.natAbs * s.natAbs : Nat) : Int) := by
  rw [oE, Int.natAbs_mul_self]; omega
end Go.Bil

namespace Go.Bil
def nU (b : Body) : Value := .agg (aI b).toArray
def aQe : Body := ⟨0, 0, 0, 0, 0, 0, 0, 0, 0, 0⟩
def boM (xs : List Body) : Int → Option Body := fun k => xs.reverse.find? (fun b => decide (b.key = k))
theorem aRd (k : Int) : boM [] k = none := rfl
theorem aLa {xs : List Body} {k : Nat} {b : Body} (h : xs[k]? = some b) (q : Int) : boM (xs.take (k + 1)) q = if q = b.key then some b else boM (xs.take k) q := by
  unfold boM
  rw [cJ h, List.reverse_append]
  simp only [List.reverse_cons, List.reverse_nil, List.nil_append, List.singleton_append, List.find?_cons]
  by_cases e : q = b.key
  · rw [if_pos e, decide_eq_true e.symm]
  · rw [if_neg e, decide_eq_false (fun h => e h.symm)]
theorem aFu {xs : List Body} (hs : bL xs) {b : Body} (hb : b ∈ xs) : boM xs b.key = some b := by
  unfold boM
  cases hf : xs.reverse.find? (fun c => decide (c.key = b.key)) with
  | none =>
    have := List.find?_eq_none.1 hf b (by simpa using hb)
    simp at this
  | some c =>
    have hc := List.find?_some hf
    have hm : c ∈ xs := by simpa using List.mem_of_find?_eq_some hf
    simp only [decide_eq_true_eq] at hc
    rw [iX hs hm hb hc]
def zD (f : Int → Option Body) (z : Int × Int) : Option Con := (f z.1).bind fun a => (f z.2).bind fun b => jP a b
def jN (xs : List Body) : List Con := (iQ xs).filterMap (zD (boM xs))
theorem rK {xs : List Body} (hs : bL xs) {z : Int × Int} (h : z ∈ iQ xs) : ∃ a b, a ∈ xs ∧ b ∈ xs ∧ a.key < b.key ∧ z = (a.key, b.key) ∧ boM xs z.1 = some a ∧ boM xs z.2 = some b := by
  obtain ⟨a, ha, b, hb, h1, h2, rfl⟩ := (aHx hs).1 h
  exact ⟨a, b, ha, hb, h1, rfl, aFu hs ha, aFu hs hb⟩
theorem mZ {f : Int → Option Body} {z : Int × Int} {a b : Body} (h1 : f z.1 = some a) (h2 : f z.2 = some b) : zD f z = jP a b := by simp [zD, h1, h2]
theorem aDb {a b : Body} {c : Con} (h : kE a b = some c) : c.low = a.key ∧ c.high = b.key := by
  unfold kE at h
  split at h
  · cases h
  · injection h with h; subst h; exact ⟨rfl, rfl⟩
theorem aJj {a b : Body} {c : Con} (hk : a.key < b.key) (h : jP a b = some c) : c.low = a.key ∧ c.high = b.key := by
  unfold jP at h
  rw [if_neg (by omega)] at h
  exact aDb h
theorem aRa {α β : Type} {l : List α} {k : Nat} {z : α} {g : α → Option β} (h : l[k]? = some z) : (l.take (k + 1)).filterMap g = (l.take k).filterMap g ++ (g z).toList := by
  rw [cJ h, List.filterMap_append]
  cases hg : g z <;> simp [hg]
theorem aAc (xs : List Body) : (jN xs).length ≤ (iQ xs).length := List.length_filterMap_le _ _
theorem Mem.orderC {w0 w : World} {X : List Nat} {a b c d : dL} (M : Mem w0 X [a, b, c, d] w) : Mem w0 X [c, b, a, d] w :=
  M.perm ((List.Perm.swap b a [c, d]).trans (((List.Perm.swap c a [d]).cons b).trans (List.Perm.swap c b [a, d])))
def mI : Con → List Con → Con
  | b, [] => b
  | b, c :: l => mI (if b.depth < c.depth then c else b) l
def aRk : List Con → Option Con
  | [] => none
  | c :: l => some (mI c l)
end Go.Bil

namespace Go.Bil
theorem qQ : ∀ (l : List Con) (b : Con), b.depth ≤ (mI b l).depth ∧ ∀ c ∈ l, c.depth ≤ (mI b l).depth
  | [], b => ⟨Int.le_refl _, by simp⟩
  | x :: l, b => by
    have ih := qQ l (if b.depth < x.depth then x else b)
    have e : mI b (x :: l) = mI (if b.depth < x.depth then x else b) l := rfl
    rw [e]
    by_cases hx : b.depth < x.depth
    · rw [if_pos hx] at ih ⊢
      refine ⟨by omega, fun c hc => ?_⟩
      rcases List.mem_cons.1 hc with rfl | hc
      · exact ih.1
      · exact ih.2 c hc
    · rw [if_neg hx] at ih ⊢
      refine ⟨ih.1, fun c hc => ?_⟩
      rcases List.mem_cons.1 hc with rfl | hc
      · omega
      · exact ih.2 c hc
theorem aBe : ∀ (l : List Con) (b : Con), ∃ j : Nat, (b :: l)[j]? = some (mI b l) ∧ ∀ (i : Nat) (c : Con), i < j → (b :: l)[i]? = some c → c.depth < (mI b l).depth
  | [], b => ⟨0, rfl, fun i c h => by omega⟩
  | x :: l, b => by
    have e : mI b (x :: l) = mI (if b.depth < x.depth then x else b) l := rfl
    obtain ⟨j, h1, h2⟩ := aBe l (if b.depth < x.depth then x else b)
    have hm := qQ l (if b.depth < x.depth then x else b)
    rw [e]
    by_cases hc : b.depth < x.depth
    · rw [if_pos hc] at h1 h2 hm ⊢
      refine ⟨j + 1, by simpa using h1, fun i c hi hci => ?_⟩
      cases i with
      | zero => simp only [List.getElem?_cons_zero, Option.some.injEq] at hci; subst hci; omega
      | succ i => exact h2 i c (by omega) (by simpa using hci)
    · rw [if_neg hc] at h1 h2 hm ⊢
      cases j with
      | zero => exact ⟨0, by simpa using h1, fun i c h => by omega⟩
      | succ j =>
        have hb := h2 0 b (by omega) rfl
        refine ⟨j + 2, by simpa using h1, fun i c hi hci => ?_⟩
        match i, hci with
        | 0, hci => simp only [List.getElem?_cons_zero, Option.some.injEq] at hci; subst hci; exact hb
        | 1, hci => simp only [List.getElem?_cons_succ, List.getElem?_cons_zero, Option.some.injEq] at hci; subst hci; omega
        | i + 2, hci => exact h2 (i + 1) c (by omega) (by simpa using hci)
def aXd : Con := ⟨0, 0, 0, 0, 0⟩
theorem aHh {l : List Con} {d : Con} (hd : (aRk l).getD aXd = d) (hl : l ≠ []) : d ∈ l ∧ (∀ c ∈ l, c.depth ≤ d.depth) ∧ ∀ (i : Nat) (c : Con), l[i]? = some c → d ∉ l.take i → c.depth = d.depth → c = d := by
  cases l with
  | nil => exact absurd rfl hl
  | cons b l =>
    have hd' : mI b l = d := hd
    obtain ⟨j, h1, h2⟩ := aBe l b
    have hm := qQ l b
    rw [hd'] at h1 h2 hm
    refine ⟨List.mem_of_getElem? h1, fun c hc => ?_, fun i c hi hn he => ?_⟩
    · rcases List.mem_cons.1 hc with rfl | hc
      · exact hm.1
      · exact hm.2 c hc
    · rcases Nat.lt_trichotomy i j with h | h | h
      · have := h2 i c h hi; omega
      · subst h; rw [hi] at h1; injection h1
      · refine absurd (List.mem_of_getElem? (i := j) ?_) hn
        rw [List.getElem?_take, if_pos h]; exact h1
end Go.Bil
namespace Go.Bil
structure ChL (s : Ch) : Prop where
  i : ChI s
  l : s.2.2 = vH (s.2.1.1 - s.1.1) (s.2.1.2 - s.1.2)
theorem ChL.step {s : Ch} {x y : Pt} (h : ChL s) (hx : PtI x) (hy : PtI y) : ChL (eL s x y) := by
  refine ⟨h.i.step hx hy, ?_⟩
  unfold eL
  split
  · rfl
  · exact h.l
end Go.Bil
namespace Go.Bil
end Go.Bil
namespace Go.Bil
end Go.Bil
namespace Go.Bil
end Go.Bil
namespace Go.Bil
structure BestC (ys : List Con) (i j : Nat) : Prop where
  lt : ys ≠ [] → j < ys.length
  z : i = 0 → j = 0
  ji : i ≠ 0 → j < i
  mx : ∀ (p : Nat) (x b : Con), p < i → ys[p]? = some x → ys[j]? = some b → x.depth ≤ b.depth ∧ (p < j → x.depth < b.depth)
theorem BestC.new {ys : List Con} {i j : Nat} {x b : Con} (h : BestC ys i j) (hx : ys[i]? = some x) (hb : ys[j]? = some b) (hc : x.depth > b.depth) : BestC ys (i + 1) i := by
  have hi := (List.getElem?_eq_some_iff.1 hx).1
  refine ⟨fun _ => hi, fun h => by omega, fun _ => by omega, fun p y c hp hy hcx => ?_⟩
  rw [hx] at hcx
  injection hcx with hcx
  subst hcx
  by_cases hpi : p = i
  · subst hpi
    rw [hx] at hy
    injection hy with hy
    subst hy
    exact ⟨Int.le_refl _, fun h => by omega⟩
  · have := (h.mx p y b (by omega) hy hb).1
    exact ⟨by omega, fun _ => by omega⟩
theorem BestC.old {ys : List Con} {i j : Nat} {x b : Con} (h : BestC ys i j) (hx : ys[i]? = some x) (hb : ys[j]? = some b) (hc : ¬ x.depth > b.depth) : BestC ys (i + 1) j := by
  refine ⟨h.lt, fun h => by omega, fun _ => ?_, fun p y c hp hy hcx => ?_⟩
  · by_cases hi : i = 0
    · have := h.z hi; omega
    · have := h.ji hi; omega
  · rw [hb] at hcx
    injection hcx with hcx
    subst hcx
    by_cases hpi : p = i
    · subst hpi
      rw [hx] at hy
      injection hy with hy
      subst hy
      refine ⟨by omega, fun hpj => ?_⟩
      by_cases hi : p = 0
      · have := h.z hi; omega
      · have := h.ji hi; omega
    · exact h.mx p y b (by omega) hy hb
theorem BestC.done {ys : List Con} {m j : Nat} {d : Con} (h : BestC ys m j) (hn : ys ≠ []) (hl : ys.length = m) (hd : (aRk ys).getD aXd = d) : ∃ x, ys[j]? = some x ∧ d = x := by
  have hj := h.lt hn
  refine ⟨ys[j], List.getElem?_eq_getElem hj, ?_⟩
  have hg := List.getElem?_eq_getElem hj
  obtain ⟨h1, h2, h3⟩ := aHh hd hn
  obtain ⟨p, hp⟩ := List.getElem?_of_mem h1
  have hpl := (List.getElem?_eq_some_iff.1 hp).1
  have e1 := (h.mx p d _ (by omega) hp hg).1
  have e2 := h2 _ (List.getElem_mem hj)
  refine (h3 j _ hg ?_ (by omega)).symm
  intro hm
  obtain ⟨q, hq⟩ := List.getElem?_of_mem hm
  rw [List.getElem?_take] at hq
  split at hq
  · have := (h.mx q d _ (by omega) hq hg).2 (by omega)
    omega
  · cases hq
theorem aOy {xs : List Body} (hs : bL xs) {c : Con} (h : c ∈ jN xs) : ∃ a b, a ∈ xs ∧ b ∈ xs ∧ a.key < b.key ∧ jP a b = some c ∧ c.low = a.key ∧ c.high = b.key := by
  obtain ⟨z, hz, hc⟩ := List.mem_filterMap.1 h
  obtain ⟨a, b, ha, hb, hk, rfl, h1, h2⟩ := rK hs hz
  rw [mZ h1 h2] at hc
  have := aJj hk hc
  exact ⟨a, b, ha, hb, hk, hc, this.1, this.2⟩
end Go.Bil

namespace Go.Bil
def aWv (a : Bx) : Prop := a = gT ∨ (a.x0 ≤ a.x1 ∧ a.y0 ≤ a.y1)
structure Meas where
  nb : Int
  ns : Int
  sp : Nat
  sx : Int
  sy : Int
  bx : Bx
  ov : Int
deriving DecidableEq
structure OkM (k : Nat) (m : Meas) : Prop where
  g : aWv m.bx
  x : m.bx = gT ∨ Okx m.bx
  nb : 0 ≤ m.nb ∧ m.nb ≤ k
  ns : 0 ≤ m.ns ∧ m.ns ≤ m.nb
  sp : m.sp < 18446744073709551616
  sx : -(16777216 * (k : Int)) ≤ m.sx ∧ m.sx ≤ 16777216 * k
  sy : -(16777216 * (k : Int)) ≤ m.sy ∧ m.sy ≤ 16777216 * k
  ov : -(2147483648 * ((k : Int) * k)) ≤ m.ov ∧ m.ov ≤ 2147483648 * ((k : Int) * k)
theorem OkM.mono {j k : Nat} {a : Meas} (h : OkM j a) (hjk : j ≤ k) : OkM k a := by
  have n1 := h.nb; have x1 := h.sx; have y1 := h.sy; have o1 := h.ov
  have hsq : (j : Int) * j ≤ (k : Int) * k := Int.mul_le_mul (by omega) (by omega) (by omega) (by omega)
  refine ⟨h.g, h.x, by omega, h.ns, h.sp, by omega, by omega, ?_⟩
  generalize (j : Int) * j = J at *
  generalize (k : Int) * k = K at *
  omega
theorem aPf {xs : List Body} : (jN xs).length ≤ xs.length * xs.length := Nat.le_trans (aAc xs) (wP xs xs.length)
end Go.Bil

namespace Go.Bil
end Go.Bil

namespace Go.Bil
end Go.Bil
namespace Go.Bil
structure RightOne (xs : List Body) (c : Con) : Prop where
  ne : ¬ c.low = c.high
  l : 0 ≤ cG c.low xs
  h : 0 ≤ cG c.high xs
instance (xs : List Body) (c : Con) : Decidable (RightOne xs c) := decidable_of_iff (¬ c.low = c.high ∧ 0 ≤ cG c.low xs ∧ 0 ≤ cG c.high xs) ⟨fun h => ⟨h.1, h.2.1, h.2.2⟩, fun h => ⟨h.1, h.2, h.3⟩⟩
end Go.Bil
namespace Go.Bil
theorem aOt {xs : List Body} {i : Nat} {b : Body} (h : xs[i]? = some b) : xs.getD i default = b := by rw [List.getD_eq_getElem?_getD, h]; rfl
end Go.Bil
namespace Go.Bil
theorem aFf {xs : List Body} {k : Int} (h : 0 ≤ cG k xs) : ∃ (p : Nat) (x : Body), xs[p]? = some x ∧ x.key = k ∧ cG k xs = (p : Int) := (dT k xs).elim (fun e => absurd e.1 (by omega)) id
end Go.Bil

namespace Go.Bil
def gY (n l : Int) : Int := max (-l) (min n l)
theorem eQ (n : Int) {l : Int} (h : 0 ≤ l) : -l ≤ gY n l ∧ gY n l ≤ l := by unfold gY; omega
theorem aLr {dx dy : Int} (hx : sN dx) (hy : sN dy) : (-65536 ≤ (iY dx dy).1 ∧ (iY dx dy).1 ≤ 65536) ∧ (-65536 ≤ (iY dx dy).2 ∧ (iY dx dy).2 ≤ 65536) := by
  have hl := yO hx hy
  unfold iY
  by_cases h0 : len dx dy = 0
  · rw [if_pos h0]; decide
  · rw [if_neg h0]
    have hs := (oQ (vH dx dy)).2
    have hle : ∀ a : Nat, a * a ≤ vH dx dy → a ≤ qM (vH dx dy) := fun a ha => by
      by_cases g : a ≤ qM (vH dx dy)
      · exact g
      · have := Nat.mul_le_mul (show qM (vH dx dy) + 1 ≤ a by omega) (show qM (vH dx dy) + 1 ≤ a by omega); omega
    have h1 := hle dx.natAbs (by unfold vH; omega)
    have h2 := hle dy.natAbs (by unfold vH; omega)
    have hp : 0 < len dx dy := by omega
    have key : ∀ d : Int, d.natAbs ≤ qM (vH dx dy) → -65536 ≤ d * 65536 / len dx dy ∧ d * 65536 / len dx dy ≤ 65536 := fun d hd => by
      have hd' : -(len dx dy) ≤ d ∧ d ≤ len dx dy := by unfold len; omega
      exact ⟨Int.le_ediv_of_mul_le hp (by omega), Int.ediv_le_of_le_mul hp (by omega)⟩
    have k1 := key dx h1
    have k2 := key dy h2
    rw [jM _ (by omega) (by omega), jM _ (by omega) (by omega)]
    exact ⟨k1, k2⟩
structure Okn (c : Con) : Prop where
  x : -65536 ≤ c.nx ∧ c.nx ≤ 65536
  y : -65536 ≤ c.ny ∧ c.ny ≤ 65536
  d : -2147483648 ≤ c.depth ∧ c.depth ≤ 2147483647
theorem aCu {a b : Body} {c : Con} (ha : Okb a) (hb : Okb b) (h : kE a b = some c) : Okn c := by
  have hw : ∀ x : Int, -2147483648 ≤ IntKind.wrap .i32 x ∧ IntKind.wrap .i32 x ≤ 2147483647 := fun x => by
    simp only [IntKind.wrap, IntKind.bits, IntKind.signed, Bool.true_and, decide_eq_true_eq, ge_iff_le]; split <;> omega
  have hd := aSd ha hb
  have hu := aLr hd.1 hd.2
  unfold kE at h
  split at h
  · cases h
  · injection h with h
    revert hu h
    generalize iY (tJ (rG a b)) (vD (rG a b)) = u
    generalize a.radius + b.radius - len (tJ (rG a b)) (vD (rG a b)) = q
    intro hu h
    subst h
    exact Okn.mk hu.1 hu.2 (hw q)
structure OkC (xs : List Body) (c : Con) : Prop where
  ne : c.low < c.high
  l : 0 ≤ cG c.low xs
  h : 0 ≤ cG c.high xs
  n : Okn c
theorem aAb {xs : List Body} {b : Body} (hb : b ∈ xs) : 0 ≤ cG b.key xs := by
  rcases dT b.key xs with ⟨_, g⟩ | ⟨i, y, _, _, g⟩
  · exact absurd rfl (g b hb)
  · omega
theorem sY {xs : List Body} (hs : bL xs) (hb : ∀ b ∈ xs, Okb b) : ∀ c ∈ jN xs, OkC xs c := fun c hc => by
  obtain ⟨a, b, ha, hb', hk, h, e1, e2⟩ := aOy hs hc
  have h' := h
  unfold jP at h'
  rw [if_neg (by omega)] at h'
  exact ⟨by omega, by rw [e1]; exact aAb ha, by rw [e2]; exact aAb hb', aCu (hb a ha) (hb b hb') h'⟩
def qH (c : Con) (a b : Body) : Int := ((b.vx - a.vx) * c.nx + (b.vy - a.vy) * c.ny) / 65536
def jK (c : Con) (a b : Body) : Int := if 0 ≤ qH c a b ∨ a.mass + b.mass = 0 then 0 else -qH c a b * (65536 + max a.bounce b.bounce) / (a.mass + b.mass)
def mO (j m n : Int) : Int := j * m / 65536 * n / 65536
theorem yW {c : Con} {a b : Body} (hc : Okn c) (ha : Okb a) (hb : Okb b) : (-2199023255552 ≤ (b.vx - a.vx) * c.nx ∧ (b.vx - a.vx) * c.nx ≤ 2199023255552) ∧ (-2199023255552 ≤ (b.vy - a.vy) * c.ny ∧ (b.vy - a.vy) * c.ny ≤ 2199023255552) ∧ -67108864 ≤ qH c a b ∧ qH c a b ≤ 67108864 := by
  have h1 := ha.v; have h2 := hb.v; have h3 := hc.x; have h4 := hc.y
  have m1 := tS (a := b.vx - a.vx) (b := c.nx) (A := 33554432) (B := 65536) (by omega) (by omega)
  have m2 := tS (a := b.vy - a.vy) (b := c.ny) (A := 33554432) (B := 65536) (by omega) (by omega)
  unfold qH
  omega
theorem zY {c : Con} {a b : Body} (hc : Okn c) (ha : Okb a) (hb : Okb b) (h : ¬ (0 ≤ qH c a b)) : 0 ≤ -qH c a b * (65536 + max a.bounce b.bounce) ∧ -qH c a b * (65536 + max a.bounce b.bounce) ≤ 8796093022208 := by
  have h1 := yW hc ha hb
  have h2 := ha.c; have h3 := hb.c
  have m := tS (a := -qH c a b) (b := 65536 + max a.bounce b.bounce) (A := 67108864) (B := 131072) (by omega) (by omega)
  have n := Int.mul_nonneg (a := -qH c a b) (b := 65536 + max a.bounce b.bounce) (by omega) (by omega)
  omega
theorem aBh {x s m : Int} (hx : 0 ≤ x) (hs : 0 < s) (hm : 0 ≤ m ∧ m ≤ s) : 0 ≤ x / s ∧ x / s ≤ x ∧ 0 ≤ x / s * m ∧ x / s * m ≤ x := by
  have h0 : 0 ≤ x / s := Int.ediv_nonneg hx (by omega)
  have h1 : x / s * s ≤ x := Int.ediv_mul_le x (by omega)
  have h2 : x / s * m ≤ x / s * s := Int.mul_le_mul_of_nonneg_left hm.2 h0
  have h3 : x / s * 1 ≤ x / s * s := Int.mul_le_mul_of_nonneg_left (by omega) h0
  have h4 : 0 ≤ x / s * m := Int.mul_nonneg h0 hm.1
  omega
theorem sD {c : Con} {a b : Body} (hc : Okn c) (ha : Okb a) (hb : Okb b) {m : Int} (hm : 0 ≤ m ∧ m ≤ a.mass + b.mass) : 0 ≤ jK c a b ∧ jK c a b ≤ 8796093022208 ∧ 0 ≤ jK c a b * m ∧ jK c a b * m ≤ 8796093022208 := by
  have h2 := ha.m; have h3 := hb.m
  unfold jK
  split
  · simp
  · rename_i h
    have hp := zY hc ha hb (fun g => h (.inl g))
    have hd := aBh hp.1 (s := a.mass + b.mass) (by omega) hm
    omega
theorem jS {j m n : Int} (h : 0 ≤ j * m ∧ j * m ≤ 8796093022208) (hn : -65536 ≤ n ∧ n ≤ 65536) : (0 ≤ j * m / 65536 ∧ j * m / 65536 ≤ 134217728) ∧ (-8796093022208 ≤ j * m / 65536 * n ∧ j * m / 65536 * n ≤ 8796093022208) ∧ -134217728 ≤ mO j m n ∧ mO j m n ≤ 134217728 := by
  have hk : 0 ≤ j * m / 65536 ∧ j * m / 65536 ≤ 134217728 := by omega
  have m1 := tS (a := j * m / 65536) (b := n) (A := 134217728) (B := 65536) (by omega) (by omega)
  unfold mO
  generalize j * m / 65536 = k at *
  omega
def tA (xs : List Body) (k : Int) : Body := xs.getD (cG k xs).toNat default
theorem aKy {xs : List Body} {k : Int} {p : Nat} {x : Body} (hx : xs[p]? = some x) (hp : cG k xs = (p : Int)) : tA xs k = x := by
  unfold tA
  rw [hp, Int.toNat_natCast, aOt hx]
theorem sE {xs : List Body} {k : Int} (h : 0 ≤ cG k xs) : tA xs k ∈ xs ∧ (tA xs k).key = k := by
  obtain ⟨p, x, hx, hk, hf⟩ := aFf h
  rw [aKy hx hf]
  exact ⟨List.mem_of_getElem? hx, hk⟩
def jV (xs : List Body) (c : Con) : Int := jK c (tA xs c.low) (tA xs c.high)
def ctr (xs : List Body) (g : Con → Int) (c : Con) (b : Body) : Int := if c.low = b.key then -mO (jV xs c) b.mass (g c) else if c.high = b.key then mO (jV xs c) b.mass (g c) else 0
def eM (xs : List Body) (cs : List Con) (g : Con → Int) (b : Body) : Int := (cs.map (fun c => ctr xs g c b)).sum
theorem aIb {xs : List Body} {cs : List Con} {k : Nat} {c : Con} (h : cs[k]? = some c) (g : Con → Int) (b : Body) : eM xs (cs.take (k + 1)) g b = eM xs (cs.take k) g b + ctr xs g c b := by
  unfold eM
  rw [cJ h, List.map_append, List.sum_append]
  simp
theorem aIt (xs : List Body) (cs : List Con) (g : Con → Int) (b : Body) : eM xs (cs.take 0) g b = 0 := by simp [eM]
theorem aPb {xs : List Body} {c : Con} {g : Con → Int} {b : Body} (hs : bL xs) (hx : ∀ b ∈ xs, Okb b) (hc : OkC xs c) (hg : -65536 ≤ g c ∧ g c ≤ 65536) (hb : b ∈ xs) : -134217728 ≤ ctr xs g c b ∧ ctr xs g c b ≤ 134217728 := by
  obtain ⟨l1, l2⟩ := sE hc.l
  obtain ⟨h1, h2⟩ := sE hc.h
  have ma := (hx _ l1).m; have mb := (hx _ h1).m
  unfold ctr
  split
  · rename_i e
    have : tA xs c.low = b := iX hs l1 hb (by rw [l2, e])
    have hr := sD hc.n (hx _ l1) (hx _ h1) (m := b.mass) (by rw [← this]; omega)
    have := (jS hr.2.2 hg).2.2
    unfold jV
    omega
  · split
    · rename_i e
      have : tA xs c.high = b := iX hs h1 hb (by rw [h2, e])
      have hr := sD hc.n (hx _ l1) (hx _ h1) (m := b.mass) (by rw [← this]; omega)
      have := (jS hr.2.2 hg).2.2
      unfold jV
      omega
    · omega
theorem aFp {cs : List Con} {f : Con → Int} {B : Int} (hB : 0 ≤ B) (h : ∀ c ∈ cs, -B ≤ f c ∧ f c ≤ B) : -(cs.length * B) ≤ (cs.map f).sum ∧ (cs.map f).sum ≤ cs.length * B := by
  induction cs with
  | nil => simp
  | cons c cs ih =>
    have h0 := h c (by simp)
    have h1 := ih (fun d hd => h d (by simp [hd]))
    rw [List.map_cons, List.sum_cons, List.length_cons, Int.natCast_add, Int.add_mul]
    omega
theorem oT {xs : List Body} {cs : List Con} {g : Con → Int} {b : Body} (hs : bL xs) (hx : ∀ b ∈ xs, Okb b) (hc : ∀ c ∈ cs, OkC xs c) (hg : ∀ c ∈ cs, -65536 ≤ g c ∧ g c ≤ 65536) (hb : b ∈ xs) : -(cs.length * 134217728) ≤ eM xs cs g b ∧ eM xs cs g b ≤ cs.length * 134217728 :=
  aFp (by decide) (fun c h => aPb hs hx (hc c h) (hg c h) hb)
def aBt (xs : List Body) (cs : List Con) (b : Body) : Body := { b with vx := gY (b.vx + eM xs cs (·.nx) b) 16777216, vy := gY (b.vy + eM xs cs (·.ny) b) 16777216 }
def aQv (xs : List Body) (cs : List Con) (b : Body) : Bool := decide (gY (b.vx + eM xs cs (·.nx) b) 16777216 ≠ b.vx + eM xs cs (·.nx) b) || decide (gY (b.vy + eM xs cs (·.ny) b) 16777216 ≠ b.vy + eM xs cs (·.ny) b)
def xU (xs : List Body) (cs : List Con) : List Body := xs.map (aBt xs cs)
def aMn (xs : List Body) (cs : List Con) : Bool := xs.any (aQv xs cs)
def fN (xs : List Body) (cs : List Con) : Nat → List Body × Bool
  | 0 => (xs, false)
  | k + 1 => (xU (fN xs cs k).1 cs, (fN xs cs k).2 || aMn (fN xs cs k).1 cs)
structure SameB (a b : Body) : Prop where
  key : a.key = b.key
  radius : a.radius = b.radius
  ax : a.ax = b.ax
  ay : a.ay = b.ay
  mass : a.mass = b.mass
  bounce : a.bounce = b.bounce
structure Like (xs ys : List Body) : Prop where
  len : ys.length = xs.length
  at_ : ∀ (i : Nat) (x y : Body), xs[i]? = some x → ys[i]? = some y → SameB y x
theorem Like.refl (xs : List Body) : Like xs xs := ⟨rfl, fun i x y h1 h2 => by rw [h1] at h2; injection h2 with h2; subst h2; exact ⟨rfl, rfl, rfl, rfl, rfl, rfl⟩⟩
theorem Like.trans {xs ys zs : List Body} (h : Like xs ys) (g : Like ys zs) : Like xs zs := ⟨by rw [g.len, h.len], fun i x z hx hz => by
  have hi := (List.getElem?_eq_some_iff.1 hx).1
  have hy : ys[i]? = some (ys[i]'(by rw [h.len]; exact hi)) := List.getElem?_eq_getElem _
  have a := h.at_ i x _ hx hy
  have b := g.at_ i _ z hy hz
  exact ⟨b.key.trans a.key, b.radius.trans a.radius, b.ax.trans a.ax, b.ay.trans a.ay, b.mass.trans a.mass, b.bounce.trans a.bounce⟩⟩
theorem Like.map {xs : List Body} {f : Body → Body} (h : ∀ b ∈ xs, SameB (f b) b) : Like xs (xs.map f) := ⟨by simp, fun i x y hx hy => by
  rw [List.getElem?_map, hx] at hy
  injection hy with hy
  subst hy
  exact h x (List.mem_of_getElem? hx)⟩
theorem Like.keys {xs ys : List Body} (h : Like xs ys) : ys.map (·.key) = xs.map (·.key) := by
  apply List.ext_getElem?
  intro i
  rw [List.getElem?_map, List.getElem?_map]
  by_cases hi : i < xs.length
  · have h1 : xs[i]? = some xs[i] := List.getElem?_eq_getElem hi
    have h2 : ys[i]? = some (ys[i]'(by rw [h.len]; exact hi)) := List.getElem?_eq_getElem _
    rw [h1, h2]
    exact congrArg some (h.at_ i _ _ h1 h2).key
  · have hl := h.len
    rw [List.getElem?_eq_none (show ys.length ≤ i by omega), List.getElem?_eq_none (show xs.length ≤ i by omega)]
theorem Like.sorted {xs ys : List Body} (h : Like xs ys) (hs : bL xs) : bL ys := by
  have := h.keys
  unfold bL at *
  have h1 : (xs.map (·.key)).Pairwise (· < ·) := List.pairwise_map.2 hs
  rw [← this] at h1
  exact List.pairwise_map.1 h1
theorem Like.find {xs ys : List Body} (h : Like xs ys) (k : Int) : cG k ys = cG k xs := oF k h.keys
theorem Like.okc {xs ys : List Body} (h : Like xs ys) {c : Con} (hc : OkC xs c) : OkC ys c := ⟨hc.ne, by rw [h.find]; exact hc.l, by rw [h.find]; exact hc.h, hc.n⟩
theorem aLz (xs : List Body) (cs : List Con) : Like xs (xU xs cs) := Like.map (fun b _ => ⟨rfl, rfl, rfl, rfl, rfl, rfl⟩)
theorem aTk {xs : List Body} {cs : List Con} (h : ∀ b ∈ xs, Okb b) : ∀ b ∈ xU xs cs, Okb b := fun b hb => by
  obtain ⟨x, hx, rfl⟩ := List.mem_map.1 hb
  have := h x hx
  exact ⟨this.r, this.a, this.m, this.c, this.p, ⟨(eQ _ (by decide)).1, (eQ _ (by decide)).2, (eQ _ (by decide)).1, (eQ _ (by decide)).2⟩⟩
theorem iA (xs : List Body) (cs : List Con) : ∀ k, Like xs (fN xs cs k).1
  | 0 => Like.refl xs
  | k + 1 => (iA xs cs k).trans (aLz _ cs)
theorem pJ {xs : List Body} {cs : List Con} (h : ∀ b ∈ xs, Okb b) : ∀ k, ∀ b ∈ (fN xs cs k).1, Okb b
  | 0 => h
  | k + 1 => aTk (pJ h k)
def iF (b : Body) : Body := if b.mass = 0 then b else { b with vy := gY (b.vy - 1024) 16777216 }
def mF (b : Body) : Bool := decide (b.mass ≠ 0) && decide (gY (b.vy - 1024) 16777216 ≠ b.vy - 1024)
def nZ (xs : List Body) : List Body := xs.map iF
theorem aGj (b : Body) : SameB (iF b) b := by unfold iF; split <;> exact ⟨rfl, rfl, rfl, rfl, rfl, rfl⟩
theorem kN (xs : List Body) : Like xs (nZ xs) := Like.map (fun b _ => aGj b)
theorem aBp {b : Body} (h : Okb b) : Okb (iF b) := by
  unfold iF
  split
  · exact h
  · exact ⟨h.r, h.a, h.m, h.c, h.p, ⟨h.v.1, h.v.2.1, (eQ _ (by decide)).1, (eQ _ (by decide)).2⟩⟩
theorem xY {xs : List Body} (h : ∀ b ∈ xs, Okb b) : ∀ b ∈ nZ xs, Okb b := fun b hb => by
  obtain ⟨x, hx, rfl⟩ := List.mem_map.1 hb
  exact aBp (h x hx)
def mC (c : Con) (a b : Body) : Int := if c.depth - 1024 ≤ 0 ∨ (a.mass = 0 ∧ b.mass = 0) then 0 else (c.depth - 1024) * 26214 / 65536
def lX (c : Con) (a b : Body) (m : Int) : Int := mC c a b * m / max 1 (a.mass + b.mass)
theorem xS {c : Con} {a b : Body} (hc : Okn c) : 0 ≤ mC c a b ∧ mC c a b ≤ 1073741824 := by
  have := hc.d
  unfold mC
  split <;> omega
theorem aPs {c : Con} {a b : Body} {m : Int} (hc : Okn c) (hm : 0 ≤ m ∧ m ≤ 1048576) : (0 ≤ mC c a b * m ∧ mC c a b * m ≤ 1125899906842624) ∧ 0 ≤ lX c a b m ∧ lX c a b m ≤ 1125899906842624 := by
  have h := xS (a := a) (b := b) hc
  have m1 := tS (a := mC c a b) (b := m) (A := 1073741824) (B := 1048576) (by omega) (by omega)
  have h0 := Int.mul_nonneg h.1 hm.1
  have hd := aBh h0 (s := max 1 (a.mass + b.mass)) (by omega) (m := 0) (by omega)
  unfold lX
  omega
theorem xP {c : Con} {a b : Body} {m : Int} (hc : Okn c) (hm : 0 ≤ m ∧ m ≤ a.mass + b.mass) : 0 ≤ lX c a b m ∧ lX c a b m ≤ 1073741824 := by
  have h := xS (a := a) (b := b) hc
  have hs : m ≤ max 1 (a.mass + b.mass) := by omega
  have h1 : mC c a b * m ≤ mC c a b * max 1 (a.mass + b.mass) := Int.mul_le_mul_of_nonneg_left hs h.1
  have h2 : lX c a b m ≤ mC c a b := Int.ediv_le_of_le_mul (by omega) h1
  have h3 : 0 ≤ lX c a b m := Int.ediv_nonneg (Int.mul_nonneg h.1 hm.1) (by omega)
  omega
def uW (xs : List Body) (g : Con → Int) (c : Con) (b : Body) : Int := if c.low = b.key then -(lX c (tA xs c.low) (tA xs c.high) b.mass * g c / 65536) else if c.high = b.key then lX c (tA xs c.low) (tA xs c.high) b.mass * g c / 65536 else 0
def oR (xs : List Body) (cs : List Con) (g : Con → Int) (b : Body) : Int := (cs.map (fun c => uW xs g c b)).sum
theorem wR {xs : List Body} {cs : List Con} {k : Nat} {c : Con} (h : cs[k]? = some c) (g : Con → Int) (b : Body) : oR xs (cs.take (k + 1)) g b = oR xs (cs.take k) g b + uW xs g c b := by
  unfold oR
  rw [cJ h, List.map_append, List.sum_append]
  simp
theorem wJ (xs : List Body) (cs : List Con) (g : Con → Int) (b : Body) : oR xs (cs.take 0) g b = 0 := by simp [oR]
theorem nE {s n : Int} (hs : 0 ≤ s ∧ s ≤ 1073741824) (hn : -65536 ≤ n ∧ n ≤ 65536) : (-70368744177664 ≤ s * n ∧ s * n ≤ 70368744177664) ∧ -1073741824 ≤ s * n / 65536 ∧ s * n / 65536 ≤ 1073741824 := by
  have m1 := tS (a := s) (b := n) (A := 1073741824) (B := 65536) (by omega) (by omega)
  omega
theorem aLq {xs : List Body} {c : Con} {g : Con → Int} {b : Body} (hs : bL xs) (hx : ∀ b ∈ xs, Okb b) (hc : OkC xs c) (hg : -65536 ≤ g c ∧ g c ≤ 65536) (hb : b ∈ xs) : -1073741824 ≤ uW xs g c b ∧ uW xs g c b ≤ 1073741824 := by
  obtain ⟨l1, l2⟩ := sE hc.l
  obtain ⟨h1, h2⟩ := sE hc.h
  have ma := (hx _ l1).m; have mb := (hx _ h1).m
  unfold uW
  split
  · rename_i e
    have : tA xs c.low = b := iX hs l1 hb (by rw [l2, e])
    have hr := xP (c := c) (a := tA xs c.low) (b := tA xs c.high) (m := b.mass) hc.n (by rw [← this]; omega)
    have := (nE hr hg).2
    omega
  · split
    · rename_i e
      have : tA xs c.high = b := iX hs h1 hb (by rw [h2, e])
      have hr := xP (c := c) (a := tA xs c.low) (b := tA xs c.high) (m := b.mass) hc.n (by rw [← this]; omega)
      have := (nE hr hg).2
      omega
    · omega
theorem aCc {xs : List Body} {cs : List Con} {g : Con → Int} {b : Body} (hs : bL xs) (hx : ∀ b ∈ xs, Okb b) (hc : ∀ c ∈ cs, OkC xs c) (hg : ∀ c ∈ cs, -65536 ≤ g c ∧ g c ≤ 65536) (hb : b ∈ xs) : -(cs.length * 1073741824) ≤ oR xs cs g b ∧ oR xs cs g b ≤ cs.length * 1073741824 :=
  aFp (by decide) (fun c h => aLq hs hx (hc c h) (hg c h) hb)
def aEx (b : Body) (s : Int) : Int := b.px + s + b.vx / 64
def aEl (b : Body) (s : Int) : Int := b.py + s + b.vy / 64
def pX (b : Body) (sx sy : Int) : Body := { b with px := gY (aEx b sx) 1073741824, py := gY (aEl b sy) 1073741824 }
def aHz (b : Body) (sx sy : Int) : Bool := decide (gY (aEx b sx) 1073741824 ≠ aEx b sx) || decide (gY (aEl b sy) 1073741824 ≠ aEl b sy)
def aFa (xs : List Body) (cs : List Con) (ys : List Body) : List Body := ys.map (fun b => pX b (oR xs cs (·.nx) b) (oR xs cs (·.ny) b))
def aNy (xs : List Body) (cs : List Con) (ys : List Body) : Bool := ys.any (fun b => aHz b (oR xs cs (·.nx) b) (oR xs cs (·.ny) b))
theorem aMh (b : Body) (sx sy : Int) : SameB (pX b sx sy) b := ⟨rfl, rfl, rfl, rfl, rfl, rfl⟩
theorem aIe (xs : List Body) (cs : List Con) (ys : List Body) : Like ys (aFa xs cs ys) := Like.map (fun b _ => aMh b _ _)
theorem aPp {b : Body} (h : Okb b) (sx sy : Int) : Okb (pX b sx sy) := ⟨h.r, h.a, h.m, h.c, ⟨(eQ _ (by decide)).1, (eQ _ (by decide)).2, (eQ _ (by decide)).1, (eQ _ (by decide)).2⟩, h.v⟩
theorem aPm {xs : List Body} {cs : List Con} {ys : List Body} (h : ∀ b ∈ ys, Okb b) : ∀ b ∈ aFa xs cs ys, Okb b := fun b hb => by
  obtain ⟨x, hx, rfl⟩ := List.mem_map.1 hb
  exact aPp (h x hx) _ _
def kA (xs : List Body) : List Body := (fN (nZ xs) (jN xs) 4).1
def oP (xs : List Body) : List Body := aFa xs (jN xs) (kA xs)
def rJ (xs : List Body) : Bool := (xs.any mF || (fN (nZ xs) (jN xs) 4).2) || aNy xs (jN xs) (kA xs)
def aAm (b : Body) : Body := pX (iF b) 0 0
theorem aGq (xs : List Body) : Like xs (oP xs) := (kN xs).trans ((iA _ _ 4).trans (aIe _ _ _))
theorem aQo {xs : List Body} (h : ∀ b ∈ xs, Okb b) : ∀ b ∈ oP xs, Okb b := aPm (pJ (xY h) 4)
end Go.Bil

namespace Go.Bil
structure Apart (xs : List Body) (cs : List Con) (k : Nat) (q : Int) : Prop where
  s : bL xs
  f : ∀ c ∈ cs, (c.low ≠ q ∧ 0 ≤ cG c.low xs) ∧ c.high ≠ q ∧ 0 ≤ cG c.high xs
  at_ : ∃ y, xs[k]? = some y ∧ y.key = q
theorem Apart.like {xs ys : List Body} {cs : List Con} {k : Nat} {q : Int} (h : Apart xs cs k q) (l : Like xs ys) : Apart ys cs k q := by
  refine ⟨l.sorted h.s, fun c hc => ?_, ?_⟩
  · rw [l.find, l.find]; exact h.f c hc
  · obtain ⟨y, hy, e⟩ := h.at_
    have hk := (List.getElem?_eq_some_iff.1 hy).1
    have h2 : ys[k]? = some (ys[k]'(by rw [l.len]; exact hk)) := List.getElem?_eq_getElem _
    exact ⟨_, h2, by rw [(l.at_ k _ _ hy h2).key, e]⟩
def fP (xs : List Body) : Nat → List Body
  | 0 => xs
  | k + 1 => oP (fP xs k)
def mM (xs : List Body) : Nat → Nat
  | 0 => 0
  | k + 1 => mM xs k + (jN (fP xs k)).length
def pW (xs : List Body) : Nat → Bool
  | 0 => false
  | k + 1 => pW xs k || rJ (fP xs k)
theorem lO (xs : List Body) : ∀ k, Like xs (fP xs k)
  | 0 => Like.refl xs
  | k + 1 => (lO xs k).trans (aGq _)
theorem sS {xs : List Body} (h : ∀ b ∈ xs, Okb b) : ∀ k, ∀ b ∈ fP xs k, Okb b
  | 0 => h
  | k + 1 => aQo (sS h k)
theorem oU {xs : List Body} (hs : bL xs) (k : Nat) : bL (fP xs k) := (lO xs k).sorted hs
end Go.Bil

namespace Go.Bil
theorem nL {xs : List Body} {k : Int} (hs : bL xs) (h : 0 ≤ cG k xs) : ∃ (p : Nat) (x : Body), xs[p]? = some x ∧ x.key = k ∧ rH k xs = p ∧ tA xs k = x ∧ x ∈ xs := by
  obtain ⟨p, x, hp, hk, hf⟩ := aFf h
  subst hk
  exact ⟨p, x, hp, rfl, pK (by have := (List.getElem?_eq_some_iff.1 hp).1; omega) (fun j c hj hc => dA hs hj hc hp) (fun j c hj hc => by have := qY hs hj hp hc; omega), aKy hp hf, List.mem_of_getElem? hp⟩
theorem aCj {α : Type} {xs : List Body} (hs : bL xs) {pa pb : Nat} {xa xb : Body} (ha : xs[pa]? = some xa) (hb : xs[pb]? = some xb) (hne : xa.key < xb.key) {F G : Body → α} (h : ∀ b ∈ xs, b.key ≠ xa.key → b.key ≠ xb.key → G b = F b) : ((xs.map F).set pa (G xa)).set pb (G xb) = xs.map G := by
  apply List.ext_getElem?
  intro i
  have la := (List.getElem?_eq_some_iff.1 ha).1
  have lb := (List.getElem?_eq_some_iff.1 hb).1
  by_cases h1 : pb = i
  · subst h1
    rw [List.getElem?_set_self (by simpa using lb), List.getElem?_map, hb]; rfl
  · rw [List.getElem?_set_ne h1]
    by_cases h2 : pa = i
    · subst h2
      rw [List.getElem?_set_self (by simpa using la), List.getElem?_map, ha]; rfl
    · rw [List.getElem?_set_ne h2, List.getElem?_map, List.getElem?_map]
      cases hi : xs[i]? with
      | none => rfl
      | some b =>
        have e1 : b.key ≠ xa.key := by
          rcases Nat.lt_or_gt_of_ne h2 with g | g
          · have := dA hs g ha hi; omega
          · have := dA hs g hi ha; omega
        have e2 : b.key ≠ xb.key := by
          rcases Nat.lt_or_gt_of_ne h1 with g | g
          · have := dA hs g hb hi; omega
          · have := dA hs g hi hb; omega
        exact congrArg some (h b (List.mem_of_getElem? hi) e1 e2).symm
def yC (xs : List Body) (g : Con → Int) (c : Con) (F : Body → Int) (b : Body) : Int := F b + ctr xs g c b
theorem aGc {xs : List Body} (hs : bL xs) {pa pb : Nat} {xa xb : Body} {c : Con} (ha : xs[pa]? = some xa) (hb : xs[pb]? = some xb) (ka : xa.key = c.low) (kb : xb.key = c.high) (hc : OkC xs c) (ba : tA xs c.low = xa) (bb : tA xs c.high = xb) (g : Con → Int) (F : Body → Int) :
    ((xs.map F).set pa (F xa - mO (jK c xa xb) xa.mass (g c))).set pb (F xb + mO (jK c xa xb) xb.mass (g c)) = xs.map (yC xs g c F) := by
  have hne := hc.ne
  have e1 : yC xs g c F xa = F xa - mO (jK c xa xb) xa.mass (g c) := by unfold yC ctr jV; rw [if_pos ka.symm, ba, bb]; omega
  have e2 : yC xs g c F xb = F xb + mO (jK c xa xb) xb.mass (g c) := by unfold yC ctr jV; rw [if_neg (by omega), if_pos kb.symm, ba, bb]
  rw [← e1, ← e2]
  exact aCj hs ha hb (by omega) (fun b _ h1 h2 => by unfold yC ctr; rw [if_neg (by omega), if_neg (by omega)]; omega)
theorem oH {α : Type} {l : List α} {i j : Nat} {x y : α} (h : l[j]? = some y) (hij : i ≠ j) : (l.set i x)[j]? = some y := by rw [List.getElem?_set_ne hij]; exact h
theorem wQ {xs : List Body} {cs : List Con} {k : Nat} {c : Con} (h : cs[k]? = some c) (g : Con → Int) : yC xs g c (fun b => eM xs (cs.take k) g b) = fun b => eM xs (cs.take (k + 1)) g b := funext fun b => (aIb h g b).symm
def bN (z : Int) : List Value := [.int .i64 z]
theorem aPw (k : Nat) : List.replicate k ([.int .i64 0] : List Value) = (List.replicate k (0 : Int)).map bN := by simp [bN]
theorem aFq {α β : Type} {l : List α} {n : Nat} (h : l.length = n) (z : β) : List.replicate n z = l.map (fun _ => z) := (List.eq_replicate_iff.2 ⟨by rw [List.length_map, h], fun b hb => by obtain ⟨_, _, e⟩ := List.mem_map.1 hb; exact e.symm⟩).symm
def bQ (z : Int × Int) : List Value := [.int .i64 z.1, .int .i64 z.2]
theorem aJr (l : List (Int × Int)) : ∀ y ∈ l.map bQ, y.length = 2 := by
  intro y hy
  obtain ⟨x, _, rfl⟩ := List.mem_map.1 hy
  rfl
theorem aOw (k : Nat) : List.replicate k ([.int .i64 0, .int .i64 0] : List Value) = (List.replicate k ((0, 0) : Int × Int)).map bQ := by simp [bQ]
def gB (xs : List Body) (cs : List Con) (b : Body) : Int × Int := (oR xs cs (·.nx) b, oR xs cs (·.ny) b)
def aCs (xs : List Body) (c : Con) (F : Body → Int × Int) (b : Body) : Int × Int := ((F b).1 + uW xs (·.nx) c b, (F b).2 + uW xs (·.ny) c b)
def aBf (s z : Int) (c : Con) (f : Int × Int) : Int × Int := (f.1 + z * (s * c.nx / 65536), f.2 + z * (s * c.ny / 65536))
theorem aPg {xs : List Body} (hs : bL xs) {pa pb : Nat} {xa xb : Body} {c : Con} (ha : xs[pa]? = some xa) (hb : xs[pb]? = some xb) (ka : xa.key = c.low) (kb : xb.key = c.high) (hc : OkC xs c) (ba : tA xs c.low = xa) (bb : tA xs c.high = xb) (F : Body → Int × Int) :
    ((xs.map F).set pa (aBf (lX c xa xb xa.mass) (-1) c (F xa))).set pb (aBf (lX c xa xb xb.mass) 1 c (F xb)) = xs.map (aCs xs c F) := by
  have hne := hc.ne
  have e1 : aCs xs c F xa = aBf (lX c xa xb xa.mass) (-1) c (F xa) := by unfold aCs uW aBf; rw [if_pos ka.symm, if_pos ka.symm, ba, bb]; apply Prod.ext <;> (try simp only) <;> omega
  have e2 : aCs xs c F xb = aBf (lX c xa xb xb.mass) 1 c (F xb) := by unfold aCs uW aBf; rw [if_neg (by omega), if_pos kb.symm, if_neg (by omega), if_pos kb.symm, ba, bb]; apply Prod.ext <;> (try simp only) <;> omega
  rw [← e1, ← e2]
  exact aCj hs ha hb (by omega) (fun b _ h1 h2 => by unfold aCs uW; rw [if_neg (by omega), if_neg (by omega), if_neg (by omega), if_neg (by omega)]; apply Prod.ext <;> (try simp only) <;> omega)
theorem aJc {xs : List Body} {cs : List Con} {k : Nat} {c : Con} (h : cs[k]? = some c) : aCs xs c (gB xs (cs.take k)) = gB xs (cs.take (k + 1)) := funext fun b => Prod.ext (wR h _ b).symm (wR h _ b).symm
theorem aX.awayB {w0 w : World} {X : List Nat} {S : List dL} {T sz : Nat} {A : Option Addr} {n c : Nat} {ls : List (List Value)} {e : dL} {b : Nat} {o : Obj} (h : aX T sz A n c ls e) (M : Mem w0 X S w) (i j : Nat) (hi : dV S i = some e) (hj : dV S j = some (some b, o)) (hij : Nat.beq i j = false) : 0 < n → ∀ q off, A = some ⟨q, off, none⟩ → q ∉ bU [(some b, o)] := by
  intro hn q off hA hq
  obtain ⟨b2, L, h1, h2, _, _⟩ := h.block hn
  rw [h1] at hA
  injection hA with hA
  injection hA with hA
  subst hA
  have hqb : b2 = b := by simpa [bU] using hq
  subst hqb
  rw [fJ] at hi hj
  have ha := M.apart
  have hne : i ≠ j := fun g => by subst g; simp at hij
  have hli := (List.getElem?_eq_some_iff.1 hi).1
  have hlj := (List.getElem?_eq_some_iff.1 hj).1
  have key : ∀ (a b : Nat) (x y : dL), a < b → S[a]? = some x → S[b]? = some y → x.1 = some b2 → y.1 = some b2 → False := fun p r x y hpr hx hy ex ey => by
    have e1 : S = S.take r ++ S.drop r := (List.take_append_drop r S).symm
    rw [e1, fO] at ha
    have m1 : b2 ∈ bU (S.take r) := eJ.2 ⟨x.2, by rw [← ex]; exact List.mem_of_getElem? (by rw [List.getElem?_take_of_lt hpr]; exact hx)⟩
    have m2 : b2 ∈ bU (S.drop r) := eJ.2 ⟨y.2, by rw [← ey]; exact List.mem_of_getElem? (i := 0) (by rw [List.getElem?_drop]; exact hy)⟩
    exact (List.nodup_append.1 ha).2.2 _ m1 _ m2 rfl
  rcases Nat.lt_or_gt_of_ne hne with g | g
  · exact key i j _ _ g hi hj (by rw [h2]) rfl
  · exact key j i _ _ g hj hi rfl (by rw [h2])
end Go.Bil
