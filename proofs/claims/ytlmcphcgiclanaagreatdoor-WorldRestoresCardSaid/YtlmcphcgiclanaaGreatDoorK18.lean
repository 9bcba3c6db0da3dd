/- Part of the proof of the laws of this seat: MdX, MdY, MdZ, MdM, MdI, MdJ, MdA, MdF, MdH, MdK, MdL, MdO, MdT, FwW. No conditions. -/
import Derived.Test.YtlmcphcgiclanaaGreatDoorK7
import Derived.Test.YtlmcphcgiclanaaGreatDoorK17
import Derived.Test.YtlmcphcgiclanaaGreatDoorK3
set_option linter.unusedVariables false
set_option linter.unusedSimpArgs false
set_option linter.unnecessarySimpa false
namespace Go.Bil
abbrev Pt := Int × Int
structure PtI (v : Pt) : Prop where
 x : -1082130432 ≤ v.1 ∧ v.1 ≤ 1082130432
 y : -1082130432 ≤ v.2 ∧ v.2 ≤ 1082130432
structure SgI (p q : Pt) : Prop where
 hp : PtI p
 hq : PtI q
 x : -16777216 ≤ q.1 - p.1 ∧ q.1 - p.1 ≤ 16777216
 y : -16777216 ≤ q.2 - p.2 ∧ q.2 - p.2 ≤ 16777216
theorem PtI.i32 {v : Pt} (h : PtI v) : I32 v := ⟨by have := h.x; omega, by have := h.y; omega⟩
theorem PtI.inX {v u : Pt} (h : PtI v) (g : PtI u) : wD (u.1 - v.1) := by have := h.x; have := g.x; unfold wD; omega
theorem PtI.inY {v u : Pt} (h : PtI v) (g : PtI u) : wD (u.2 - v.2) := by have := h.y; have := g.y; unfold wD; omega
theorem wW {a b : Int} {A B : Nat} (ha : a.natAbs ≤ A) (hb : b.natAbs ≤ B) : -((A * B : Nat) : Int) ≤ a * b ∧ a * b ≤ ((A * B : Nat) : Int) := by
 have h := Nat.mul_le_mul ha hb
 rw [← Int.natAbs_mul] at h
 omega
theorem sqN (a : Int) : 0 ≤ a * a := by rw [← Int.natAbs_mul_self]; omega
def lH (p q : Pt) : Int := (q.1 - p.1) * (q.1 - p.1) + (q.2 - p.2) * (q.2 - p.2)
def oI (p q c : Pt) : Int := max 0 (min ((c.1 - p.1) * (q.1 - p.1) + (c.2 - p.2) * (q.2 - p.2)) (lH p q))
theorem rR {p q : Pt} (h : SgI p q) : 0 ≤ lH p q ∧ lH p q ≤ 562949953421312 ∧ (0 ≤ (q.1 - p.1) * (q.1 - p.1) ∧ (q.1 - p.1) * (q.1 - p.1) ≤ 281474976710656) ∧ 0 ≤ (q.2 - p.2) * (q.2 - p.2) ∧ (q.2 - p.2) * (q.2 - p.2) ≤ 281474976710656 := by
 have hx := h.x
 have hy := h.y
 have a := wW (a := q.1 - p.1) (b := q.1 - p.1) (A := 16777216) (B := 16777216) (by omega) (by omega)
 have b := wW (a := q.2 - p.2) (b := q.2 - p.2) (A := 16777216) (B := 16777216) (by omega) (by omega)
 have c := sqN (q.1 - p.1)
 have d := sqN (q.2 - p.2)
 unfold lH
 omega
theorem aFg {p q c : Pt} (h : SgI p q) : 0 ≤ oI p q c ∧ oI p q c ≤ lH p q := by
 have := rR h
 unfold oI
 omega
theorem aNo {p q c : Pt} (h : SgI p q) (hc : PtI c) : (-36310272144179200 ≤ (c.1 - p.1) * (q.1 - p.1) ∧ (c.1 - p.1) * (q.1 - p.1) ≤ 36310272144179200) ∧ -36310272144179200 ≤ (c.2 - p.2) * (q.2 - p.2) ∧ (c.2 - p.2) * (q.2 - p.2) ≤ 36310272144179200 := by
 have hx := h.x
 have hy := h.y
 have := hc.x; have := hc.y; have := h.hp.x; have := h.hp.y
 have a := wW (a := c.1 - p.1) (b := q.1 - p.1) (A := 2164260864) (B := 16777216) (by omega) (by omega)
 have b := wW (a := c.2 - p.2) (b := q.2 - p.2) (A := 2164260864) (B := 16777216) (by omega) (by omega)
 omega
theorem bEd {a n d : Int} (hn : 0 ≤ n) (hnd : n ≤ d) (hd : 0 < d) : (0 ≤ a → 0 ≤ a * n / d ∧ a * n / d ≤ a) ∧ (a ≤ 0 → a ≤ a * n / d ∧ a * n / d ≤ 0) := by
 refine ⟨fun h => ⟨Int.ediv_nonneg (Int.mul_nonneg h hn) (Int.le_of_lt hd), ?_⟩, fun h => ⟨?_, ?_⟩⟩
 ·exact Int.ediv_le_of_le_mul hd (Int.mul_le_mul_of_nonneg_left hnd h)
 ·exact (Int.le_ediv_iff_mul_le hd).2 (Int.mul_le_mul_of_nonpos_left h hnd)
 ·have h1 : a * n ≤ 0 := Int.mul_nonpos_of_nonpos_of_nonneg h hn
  exact Int.ediv_le_of_le_mul hd (by omega)
def dV (p q c : Pt) : Pt := if lH p q = 0 then p else (p.1 + (q.1 - p.1) * oI p q c / lH p q, p.2 + (q.2 - p.2) * oI p q c / lH p q)
theorem aHw {p q c : Pt} (h : SgI p q) (hd : lH p q ≠ 0) : ((-16777216 ≤ (q.1 - p.1) * oI p q c / lH p q ∧ (q.1 - p.1) * oI p q c / lH p q ≤ 16777216) ∧ -1082130432 ≤ p.1 + (q.1 - p.1) * oI p q c / lH p q ∧ p.1 + (q.1 - p.1) * oI p q c / lH p q ≤ 1082130432) ∧
  (-16777216 ≤ (q.2 - p.2) * oI p q c / lH p q ∧ (q.2 - p.2) * oI p q c / lH p q ≤ 16777216) ∧ -1082130432 ≤ p.2 + (q.2 - p.2) * oI p q c / lH p q ∧ p.2 + (q.2 - p.2) * oI p q c / lH p q ≤ 1082130432 := by
 have hn := aFg (c := c) h
 have hD := rR h
 have a := bEd (a := q.1 - p.1) hn.1 hn.2 (by omega)
 have b := bEd (a := q.2 - p.2) hn.1 hn.2 (by omega)
 have := h.hp.x; have := h.hp.y; have := h.hq.x; have := h.hq.y; have := h.x; have := h.y
 generalize (q.1 - p.1) * oI p q c / lH p q = u at *
 generalize (q.2 - p.2) * oI p q c / lH p q = v at *
 omega
theorem eS {p q c : Pt} (h : SgI p q) : PtI (dV p q c) := by
 unfold dV
 split
 ·exact h.hp
 ·rename_i hd
  have := aHw (c := c) h hd
  exact ⟨this.1.2, this.2.2⟩
abbrev Ch := Pt × Pt × Nat
def fK (s : Ch) (x y : Pt) : Ch := if lsq (y.1 - x.1) (y.2 - x.2) < s.2.2 then (x, y, lsq (y.1 - x.1) (y.2 - x.2)) else s
def ch0 : Ch := ((0, 0), (0, 0), 18446744073709551615)
def oX (ap aq bp bq : Pt) : Ch := fK (fK (fK (fK ch0 ap (dV bp bq ap)) aq (dV bp bq aq)) (dV ap aq bp) bp) (dV ap aq bq) bq
structure ChI (s : Ch) : Prop where
 a : PtI s.1
 b : PtI s.2.1
 l : s.2.2 < 18446744073709551616
theorem ChI.step {s : Ch} {x y : Pt} (h : ChI s) (hx : PtI x) (hy : PtI y) : ChI (fK s x y) := by
 unfold fK
 split
 ·exact ⟨hx, hy, (xZ (hx.inX hy) (hx.inY hy)).1⟩
 ·exact h
theorem aUg : ChI ch0 := ⟨⟨by decide, by decide⟩, ⟨by decide, by decide⟩, by decide⟩
theorem aMy {ap aq bp bq : Pt} (h1 : SgI ap aq) (h2 : SgI bp bq) : ChI (oX ap aq bp bq) :=
 (((aUg.step h1.hp (eS h2)).step h1.hq (eS h2)).step (eS h1) h2.hp).step (eS h1) h2.hq
def aFd (b : Body) : Pt := (b.px - b.ax, b.py - b.ay)
def aFa (b : Body) : Pt := (b.px + b.ax, b.py + b.ay)
theorem wN {b : Body} (h : Okb b) : SgI (aFd b) (aFa b) := by
 have := h.a; have := h.p
 refine ⟨⟨?_, ?_⟩, ⟨?_, ?_⟩, ?_, ?_⟩ <;> simp only [aFd, aFa] <;> omega
structure Con where
 low : Int
 high : Int
 nx : Int
 ny : Int
 depth : Int
deriving DecidableEq
def cK (c : Con) : List Value := [.int .u32 c.low, .int .u32 c.high, .int .i32 c.nx, .int .i32 c.ny, .int .i32 c.depth]
def vO (a b : Body) : Ch := oX (aFd a) (aFa a) (aFd b) (aFa b)
def yE (s : Ch) : Int := s.2.1.1 - s.1.1
def xG (s : Ch) : Int := s.2.1.2 - s.1.2
def nM (a b : Body) : Option Con :=
 if (a.radius + b.radius).natAbs * (a.radius + b.radius).natAbs ≤ lsq (yE (vO a b)) (xG (vO a b)) then none
 else some ⟨a.key, b.key, (oY (yE (vO a b)) (xG (vO a b))).1, (oY (yE (vO a b)) (xG (vO a b))).2, IntKind.wrap .i32 (a.radius + b.radius - len (yE (vO a b)) (xG (vO a b)))⟩
def oD (a b : Body) : Option Con := if b.key < a.key then nM b a else nM a b
def lG (b : Body) : List Value := aF b ++ cL (aFd b) ++ cL (aFa b)
def loB (a b : Body) : Body := if b.key < a.key then b else a
def hiB (a b : Body) : Body := if b.key < a.key then a else b
theorem aGi (a b : Body) : oD a b = nM (loB a b) (hiB a b) := by unfold oD loB hiB; split <;> rfl
theorem bBe {a b : Body} (ha : Okb a) (hb : Okb b) : Okb (loB a b) ∧ Okb (hiB a b) := by unfold loB hiB; split <;> exact ⟨by assumption, by assumption⟩
theorem xV {a b : Body} (ha : Okb a) (hb : Okb b) : ChI (vO a b) := aMy (wN ha) (wN hb)
theorem aYy {a b : Body} (ha : Okb a) (hb : Okb b) : wD (yE (vO a b)) ∧ wD (xG (vO a b)) := ⟨(xV ha hb).a.inX (xV ha hb).b, (xV ha hb).a.inY (xV ha hb).b⟩
def bBv (o : Option Con) : List Value := cK (o.getD ⟨0, 0, 0, 0, 0⟩)
theorem bBl {a b : Body} (ha : Okb a) (hb : Okb b) : 0 ≤ (a.radius + b.radius) * (a.radius + b.radius) ∧ (a.radius + b.radius) * (a.radius + b.radius) ≤ 70368744177664 := by
 have := ha.r; have := hb.r
 have h := wW (a := a.radius + b.radius) (b := a.radius + b.radius) (A := 8388608) (B := 8388608) (by omega) (by omega)
 have := sqN (a.radius + b.radius)
 omega
theorem aYb (s : Int) (h : 0 ≤ s * s ∧ s * s ≤ 70368744177664) : IntKind.wrap .u64 (s * s) = ((s.natAbs * s.natAbs : Nat) : Int) := by
 rw [rD, Int.natAbs_mul_self]; omega
end Go.Bil

namespace Go.Bil
def qQ (b : Body) : Value := .agg (aF b).toArray
def aTn : Body := ⟨0, 0, 0, 0, 0, 0, 0, 0, 0, 0⟩
def boM (xs : List Body) : Int → Option Body := fun k => xs.reverse.find? (fun b => decide (b.key = k))
theorem aYo (k : Int) : boM [] k = none := rfl
theorem aSu {xs : List Body} {k : Nat} {b : Body} (h : xs[k]? = some b) (q : Int) : boM (xs.take (k + 1)) q = if q = b.key then some b else boM (xs.take k) q := by
 unfold boM
 rw [cV h, List.reverse_append]
 simp only [List.reverse_cons, List.reverse_nil, List.nil_append, List.singleton_append, List.find?_cons]
 by_cases e : q = b.key
 ·rw [if_pos e, decide_eq_true e.symm]
 ·rw [if_neg e, decide_eq_false (fun h => e h.symm)]
theorem aMd {xs : List Body} (hs : bW xs) {b : Body} (hb : b ∈ xs) : boM xs b.key = some b := by
 unfold boM
 cases hf : xs.reverse.find? (fun c => decide (c.key = b.key)) with
 | none =>
  have := List.find?_eq_none.1 hf b (by simpa using hb)
  simp at this
 | some c =>
  have hc := List.find?_some hf
  have hm : c ∈ xs := by simpa using List.mem_of_find?_eq_some hf
  simp only [decide_eq_true_eq] at hc
  rw [lE hs hm hb hc]
def aEv (f : Int → Option Body) (z : Int × Int) : Option Con := (f z.1).bind fun a => (f z.2).bind fun b => oD a b
def mI (xs : List Body) : List Con := (lN xs).filterMap (aEv (boM xs))
theorem vJ {xs : List Body} (hs : bW xs) {z : Int × Int} (h : z ∈ lN xs) : ∃ a b, a ∈ xs ∧ b ∈ xs ∧ a.key < b.key ∧ z = (a.key, b.key) ∧ boM xs z.1 = some a ∧ boM xs z.2 = some b := by
 obtain ⟨a, ha, b, hb, h1, h2, rfl⟩ := (aNc hs).1 h
 exact ⟨a, b, ha, hb, h1, rfl, aMd hs ha, aMd hs hb⟩
theorem tD {f : Int → Option Body} {z : Int × Int} {a b : Body} (h1 : f z.1 = some a) (h2 : f z.2 = some b) : aEv f z = oD a b := by simp [aEv, h1, h2]
theorem aKs {a b : Body} {c : Con} (h : nM a b = some c) : c.low = a.key ∧ c.high = b.key := by
 unfold nM at h
 split at h
 ·cases h
 ·injection h with h; subst h; exact ⟨rfl, rfl⟩
theorem aPj {a b : Body} {c : Con} (hk : a.key < b.key) (h : oD a b = some c) : c.low = a.key ∧ c.high = b.key := by
 unfold oD at h
 rw [if_neg (by omega)] at h
 exact aKs h
theorem aWw {α β : Type} {l : List α} {k : Nat} {z : α} {g : α → Option β} (h : l[k]? = some z) : (l.take (k + 1)).filterMap g = (l.take k).filterMap g ++ (g z).toList := by
 rw [cV h, List.filterMap_append]
 cases hg : g z <;> simp [hg]
theorem aGq (xs : List Body) : (mI xs).length ≤ (lN xs).length := List.length_filterMap_le _ _
theorem Mem.orderC {w0 w : World} {X : List Nat} {a b c d : dR} (M : Mem w0 X [a, b, c, d] w) : Mem w0 X [c, b, a, d] w :=
 M.perm ((List.Perm.swap b a [c, d]).trans (((List.Perm.swap c a [d]).cons b).trans (List.Perm.swap c b [a, d])))
def oW : Con → List Con → Con
 | b, [] => b
 | b, c :: l => oW (if b.depth < c.depth then c else b) l
def aZl : List Con → Option Con
 | [] => none
 | c :: l => some (oW c l)
end Go.Bil

namespace Go.Bil
theorem tU : ∀ (l : List Con) (b : Con), b.depth ≤ (oW b l).depth ∧ ∀ c ∈ l, c.depth ≤ (oW b l).depth
 | [], b => ⟨Int.le_refl _, by simp⟩
 | x :: l, b => by
  have ih := tU l (if b.depth < x.depth then x else b)
  have e : oW b (x :: l) = oW (if b.depth < x.depth then x else b) l := rfl
  rw [e]
  by_cases hx : b.depth < x.depth
  ·rw [if_pos hx] at ih ⊢
   refine ⟨by omega, fun c hc => ?_⟩
   rcases List.mem_cons.1 hc with rfl | hc
   ·exact ih.1
   ·exact ih.2 c hc
  ·rw [if_neg hx] at ih ⊢
   refine ⟨ih.1, fun c hc => ?_⟩
   rcases List.mem_cons.1 hc with rfl | hc
   ·omega
   ·exact ih.2 c hc
theorem aGs : ∀ (l : List Con) (b : Con), ∃ j : Nat, (b :: l)[j]? = some (oW b l) ∧ ∀ (i : Nat) (c : Con), i < j → (b :: l)[i]? = some c → c.depth < (oW b l).depth
 | [], b => ⟨0, rfl, fun i c h => by omega⟩
 | x :: l, b => by
  have e : oW b (x :: l) = oW (if b.depth < x.depth then x else b) l := rfl
  obtain ⟨j, h1, h2⟩ := aGs l (if b.depth < x.depth then x else b)
  have hm := tU l (if b.depth < x.depth then x else b)
  rw [e]
  by_cases hc : b.depth < x.depth
  ·rw [if_pos hc] at h1 h2 hm ⊢
   refine ⟨j + 1, by simpa using h1, fun i c hi hci => ?_⟩
   cases i with
   | zero => simp only [List.getElem?_cons_zero, Option.some.injEq] at hci; subst hci; omega
   | succ i => exact h2 i c (by omega) (by simpa using hci)
  ·rw [if_neg hc] at h1 h2 hm ⊢
   cases j with
   | zero => exact ⟨0, by simpa using h1, fun i c h => by omega⟩
   | succ j =>
    have hb := h2 0 b (by omega) rfl
    refine ⟨j + 2, by simpa using h1, fun i c hi hci => ?_⟩
    match i, hci with
    | 0, hci => simp only [List.getElem?_cons_zero, Option.some.injEq] at hci; subst hci; exact hb
    | 1, hci => simp only [List.getElem?_cons_succ, List.getElem?_cons_zero, Option.some.injEq] at hci; subst hci; omega
    | i + 2, hci => exact h2 (i + 1) c (by omega) (by simpa using hci)
def bFg : Con := ⟨0, 0, 0, 0, 0⟩
theorem aPt {l : List Con} {d : Con} (hd : (aZl l).getD bFg = d) (hl : l ≠ []) : d ∈ l ∧ (∀ c ∈ l, c.depth ≤ d.depth) ∧ ∀ (i : Nat) (c : Con), l[i]? = some c → d ∉ l.take i → c.depth = d.depth → c = d := by
 cases l with
 | nil => exact absurd rfl hl
 | cons b l =>
  have hd' : oW b l = d := hd
  obtain ⟨j, h1, h2⟩ := aGs l b
  have hm := tU l b
  rw [hd'] at h1 h2 hm
  refine ⟨List.mem_of_getElem? h1, fun c hc => ?_, fun i c hi hn he => ?_⟩
  ·rcases List.mem_cons.1 hc with rfl | hc
   ·exact hm.1
   ·exact hm.2 c hc
  ·rcases Nat.lt_trichotomy i j with h | h | h
   ·have := h2 i c h hi; omega
   ·subst h; rw [hi] at h1; injection h1
   ·refine absurd (List.mem_of_getElem? (i := j) ?_) hn
    rw [List.getElem?_take, if_pos h]; exact h1
end Go.Bil
namespace Go.Bil
structure ChL (s : Ch) : Prop where
 i : ChI s
 l : s.2.2 = lsq (s.2.1.1 - s.1.1) (s.2.1.2 - s.1.2)
theorem ChL.step {s : Ch} {x y : Pt} (h : ChL s) (hx : PtI x) (hy : PtI y) : ChL (fK s x y) := by
 refine ⟨h.i.step hx hy, ?_⟩
 unfold fK
 split
 ·rfl
 ·exact h.l
end Go.Bil
namespace Go.Bil
end Go.Bil
namespace Go.Bil
end Go.Bil
namespace Go.Bil
end Go.Bil
namespace Go.Bil
structure BestC (ys : List Con) (i j : Nat) : Prop where
 lt : ys ≠ [] → j < ys.length
 z : i = 0 → j = 0
 ji : i ≠ 0 → j < i
 mx : ∀ (p : Nat) (x b : Con), p < i → ys[p]? = some x → ys[j]? = some b → x.depth ≤ b.depth ∧ (p < j → x.depth < b.depth)
theorem BestC.new {ys : List Con} {i j : Nat} {x b : Con} (h : BestC ys i j) (hx : ys[i]? = some x) (hb : ys[j]? = some b) (hc : x.depth > b.depth) : BestC ys (i + 1) i := by
 have hi := (List.getElem?_eq_some_iff.1 hx).1
 refine ⟨fun _ => hi, fun h => by omega, fun _ => by omega, fun p y c hp hy hcx => ?_⟩
 rw [hx] at hcx
 injection hcx with hcx
 subst hcx
 by_cases hpi : p = i
 ·subst hpi
  rw [hx] at hy
  injection hy with hy
  subst hy
  exact ⟨Int.le_refl _, fun h => by omega⟩
 ·have := (h.mx p y b (by omega) hy hb).1
  exact ⟨by omega, fun _ => by omega⟩
theorem BestC.old {ys : List Con} {i j : Nat} {x b : Con} (h : BestC ys i j) (hx : ys[i]? = some x) (hb : ys[j]? = some b) (hc : ¬ x.depth > b.depth) : BestC ys (i + 1) j := by
 refine ⟨h.lt, fun h => by omega, fun _ => ?_, fun p y c hp hy hcx => ?_⟩
 ·by_cases hi : i = 0
  ·have := h.z hi; omega
  ·have := h.ji hi; omega
 ·rw [hb] at hcx
  injection hcx with hcx
  subst hcx
  by_cases hpi : p = i
  ·subst hpi
   rw [hx] at hy
   injection hy with hy
   subst hy
   refine ⟨by omega, fun hpj => ?_⟩
   by_cases hi : p = 0
   ·have := h.z hi; omega
   ·have := h.ji hi; omega
  ·exact h.mx p y b (by omega) hy hb
theorem BestC.done {ys : List Con} {m j : Nat} {d : Con} (h : BestC ys m j) (hn : ys ≠ []) (hl : ys.length = m) (hd : (aZl ys).getD bFg = d) : ∃ x, ys[j]? = some x ∧ d = x := by
 have hj := h.lt hn
 refine ⟨ys[j], List.getElem?_eq_getElem hj, ?_⟩
 have hg := List.getElem?_eq_getElem hj
 obtain ⟨h1, h2, h3⟩ := aPt hd hn
 obtain ⟨p, hp⟩ := List.getElem?_of_mem h1
 have hpl := (List.getElem?_eq_some_iff.1 hp).1
 have e1 := (h.mx p d _ (by omega) hp hg).1
 have e2 := h2 _ (List.getElem_mem hj)
 refine (h3 j _ hg ?_ (by omega)).symm
 intro hm
 obtain ⟨q, hq⟩ := List.getElem?_of_mem hm
 rw [List.getElem?_take] at hq
 split at hq
 ·have := (h.mx q d _ (by omega) hq hg).2 (by omega)
  omega
 ·cases hq
theorem aYr {xs : List Body} (hs : bW xs) {c : Con} (h : c ∈ mI xs) : ∃ a b, a ∈ xs ∧ b ∈ xs ∧ a.key < b.key ∧ oD a b = some c ∧ c.low = a.key ∧ c.high = b.key := by
 obtain ⟨z, hz, hc⟩ := List.mem_filterMap.1 h
 obtain ⟨a, b, ha, hb, hk, rfl, h1, h2⟩ := vJ hs hz
 rw [tD h1 h2] at hc
 have := aPj hk hc
 exact ⟨a, b, ha, hb, hk, hc, this.1, this.2⟩
end Go.Bil

namespace Go.Bil
def bEg (a : Bx) : Prop := a = iY ∨ (a.x0 ≤ a.x1 ∧ a.y0 ≤ a.y1)
structure Meas where
 nb : Int
 ns : Int
 sp : Nat
 sx : Int
 sy : Int
 bx : Bx
 ov : Int
deriving DecidableEq
structure OkM (k : Nat) (m : Meas) : Prop where
 g : bEg m.bx
 x : m.bx = iY ∨ Okx m.bx
 nb : 0 ≤ m.nb ∧ m.nb ≤ k
 ns : 0 ≤ m.ns ∧ m.ns ≤ m.nb
 sp : m.sp < 18446744073709551616
 sx : -(16777216 * (k : Int)) ≤ m.sx ∧ m.sx ≤ 16777216 * k
 sy : -(16777216 * (k : Int)) ≤ m.sy ∧ m.sy ≤ 16777216 * k
 ov : -(2147483648 * ((k : Int) * k)) ≤ m.ov ∧ m.ov ≤ 2147483648 * ((k : Int) * k)
theorem OkM.mono {j k : Nat} {a : Meas} (h : OkM j a) (hjk : j ≤ k) : OkM k a := by
 have n1 := h.nb; have x1 := h.sx; have y1 := h.sy; have o1 := h.ov
 have hsq : (j : Int) * j ≤ (k : Int) * k := Int.mul_le_mul (by omega) (by omega) (by omega) (by omega)
 refine ⟨h.g, h.x, by omega, h.ns, h.sp, by omega, by omega, ?_⟩
 generalize (j : Int) * j = J at *
 generalize (k : Int) * k = K at *
 omega
theorem aXy {xs : List Body} : (mI xs).length ≤ xs.length * xs.length := Nat.le_trans (aGq xs) (aAz xs xs.length)
end Go.Bil

namespace Go.Bil
end Go.Bil

namespace Go.Bil
end Go.Bil
namespace Go.Bil
structure RightOne (xs : List Body) (c : Con) : Prop where
 ne : ¬ c.low = c.high
 l : 0 ≤ cH c.low xs
 h : 0 ≤ cH c.high xs
instance (xs : List Body) (c : Con) : Decidable (RightOne xs c) := decidable_of_iff (¬ c.low = c.high ∧ 0 ≤ cH c.low xs ∧ 0 ≤ cH c.high xs) ⟨fun h => ⟨h.1, h.2.1, h.2.2⟩, fun h => ⟨h.1, h.2, h.3⟩⟩
end Go.Bil
namespace Go.Bil
theorem aWh {xs : List Body} {i : Nat} {b : Body} (h : xs[i]? = some b) : xs.getD i default = b := by rw [List.getD_eq_getElem?_getD, h]; rfl
end Go.Bil
namespace Go.Bil
theorem aLv {xs : List Body} {k : Int} (h : 0 ≤ cH k xs) : ∃ (p : Nat) (x : Body), xs[p]? = some x ∧ x.key = k ∧ cH k xs = (p : Int) := (dG k xs).elim (fun e => absurd e.1 (by omega)) id
end Go.Bil

namespace Go.Bil
def iL (n l : Int) : Int := max (-l) (min n l)
theorem dZ (n : Int) {l : Int} (h : 0 ≤ l) : -l ≤ iL n l ∧ iL n l ≤ l := by unfold iL; omega
theorem aQr {dx dy : Int} (hx : wD dx) (hy : wD dy) : (-65536 ≤ (oY dx dy).1 ∧ (oY dx dy).1 ≤ 65536) ∧ (-65536 ≤ (oY dx dy).2 ∧ (oY dx dy).2 ≤ 65536) := by
 have hl := aDz hx hy
 unfold oY
 by_cases h0 : len dx dy = 0
 ·rw [if_pos h0]; decide
 ·rw [if_neg h0]
  have hs := (sU (lsq dx dy)).2
  have hle : ∀ a : Nat, a * a ≤ lsq dx dy → a ≤ uS (lsq dx dy) := fun a ha => by
   by_cases g : a ≤ uS (lsq dx dy)
   ·exact g
   ·have := Nat.mul_le_mul (show uS (lsq dx dy) + 1 ≤ a by omega) (show uS (lsq dx dy) + 1 ≤ a by omega); omega
  have h1 := hle dx.natAbs (by unfold lsq; omega)
  have h2 := hle dy.natAbs (by unfold lsq; omega)
  have hp : 0 < len dx dy := by omega
  have key : ∀ d : Int, d.natAbs ≤ uS (lsq dx dy) → -65536 ≤ d * 65536 / len dx dy ∧ d * 65536 / len dx dy ≤ 65536 := fun d hd => by
   have hd' : -(len dx dy) ≤ d ∧ d ≤ len dx dy := by unfold len; omega
   exact ⟨Int.le_ediv_of_mul_le hp (by omega), Int.ediv_le_of_le_mul hp (by omega)⟩
  have k1 := key dx h1
  have k2 := key dy h2
  rw [lU _ (by omega) (by omega), lU _ (by omega) (by omega)]
  exact ⟨k1, k2⟩
structure Okn (c : Con) : Prop where
 x : -65536 ≤ c.nx ∧ c.nx ≤ 65536
 y : -65536 ≤ c.ny ∧ c.ny ≤ 65536
 d : -2147483648 ≤ c.depth ∧ c.depth ≤ 2147483647
theorem aJg {a b : Body} {c : Con} (ha : Okb a) (hb : Okb b) (h : nM a b = some c) : Okn c := by
 have hw : ∀ x : Int, -2147483648 ≤ IntKind.wrap .i32 x ∧ IntKind.wrap .i32 x ≤ 2147483647 := fun x => by
  simp only [IntKind.wrap, IntKind.bits, IntKind.signed, Bool.true_and, decide_eq_true_eq, ge_iff_le]; split <;> omega
 have hd := aYy ha hb
 have hu := aQr hd.1 hd.2
 unfold nM at h
 split at h
 ·cases h
 ·injection h with h
  revert hu h
  generalize oY (yE (vO a b)) (xG (vO a b)) = u
  generalize a.radius + b.radius - len (yE (vO a b)) (xG (vO a b)) = q
  intro hu h
  subst h
  exact Okn.mk hu.1 hu.2 (hw q)
structure OkC (xs : List Body) (c : Con) : Prop where
 ne : c.low < c.high
 l : 0 ≤ cH c.low xs
 h : 0 ≤ cH c.high xs
 n : Okn c
theorem aHu {xs : List Body} {b : Body} (hb : b ∈ xs) : 0 ≤ cH b.key xs := by
 rcases dG b.key xs with ⟨_, g⟩ | ⟨i, y, _, _, g⟩
 ·exact absurd rfl (g b hb)
 ·omega
theorem yX {xs : List Body} (hs : bW xs) (hb : ∀ b ∈ xs, Okb b) : ∀ c ∈ mI xs, OkC xs c := fun c hc => by
 obtain ⟨a, b, ha, hb', hk, h, e1, e2⟩ := aYr hs hc
 have h' := h
 unfold oD at h'
 rw [if_neg (by omega)] at h'
 exact ⟨by omega, by rw [e1]; exact aHu ha, by rw [e2]; exact aHu hb', aJg (hb a ha) (hb b hb') h'⟩
def tQ (c : Con) (a b : Body) : Int := ((b.vx - a.vx) * c.nx + (b.vy - a.vy) * c.ny) / 65536
def lS (c : Con) (a b : Body) : Int := if 0 ≤ tQ c a b ∨ a.mass + b.mass = 0 then 0 else -tQ c a b * (65536 + max a.bounce b.bounce) / (a.mass + b.mass)
def pD (j m n : Int) : Int := j * m / 65536 * n / 65536
theorem aDe {c : Con} {a b : Body} (hc : Okn c) (ha : Okb a) (hb : Okb b) : (-2199023255552 ≤ (b.vx - a.vx) * c.nx ∧ (b.vx - a.vx) * c.nx ≤ 2199023255552) ∧ (-2199023255552 ≤ (b.vy - a.vy) * c.ny ∧ (b.vy - a.vy) * c.ny ≤ 2199023255552) ∧ -67108864 ≤ tQ c a b ∧ tQ c a b ≤ 67108864 := by
 have h1 := ha.v; have h2 := hb.v; have h3 := hc.x; have h4 := hc.y
 have m1 := wW (a := b.vx - a.vx) (b := c.nx) (A := 33554432) (B := 65536) (by omega) (by omega)
 have m2 := wW (a := b.vy - a.vy) (b := c.ny) (A := 33554432) (B := 65536) (by omega) (by omega)
 unfold tQ
 omega
theorem aGw {c : Con} {a b : Body} (hc : Okn c) (ha : Okb a) (hb : Okb b) (h : ¬ (0 ≤ tQ c a b)) : 0 ≤ -tQ c a b * (65536 + max a.bounce b.bounce) ∧ -tQ c a b * (65536 + max a.bounce b.bounce) ≤ 8796093022208 := by
 have h1 := aDe hc ha hb
 have h2 := ha.c; have h3 := hb.c
 have m := wW (a := -tQ c a b) (b := 65536 + max a.bounce b.bounce) (A := 67108864) (B := 131072) (by omega) (by omega)
 have n := Int.mul_nonneg (a := -tQ c a b) (b := 65536 + max a.bounce b.bounce) (by omega) (by omega)
 omega
theorem aGv {x s m : Int} (hx : 0 ≤ x) (hs : 0 < s) (hm : 0 ≤ m ∧ m ≤ s) : 0 ≤ x / s ∧ x / s ≤ x ∧ 0 ≤ x / s * m ∧ x / s * m ≤ x := by
 have h0 : 0 ≤ x / s := Int.ediv_nonneg hx (by omega)
 have h1 : x / s * s ≤ x := Int.ediv_mul_le x (by omega)
 have h2 : x / s * m ≤ x / s * s := Int.mul_le_mul_of_nonneg_left hm.2 h0
 have h3 : x / s * 1 ≤ x / s * s := Int.mul_le_mul_of_nonneg_left (by omega) h0
 have h4 : 0 ≤ x / s * m := Int.mul_nonneg h0 hm.1
 omega
theorem wM {c : Con} {a b : Body} (hc : Okn c) (ha : Okb a) (hb : Okb b) {m : Int} (hm : 0 ≤ m ∧ m ≤ a.mass + b.mass) : 0 ≤ lS c a b ∧ lS c a b ≤ 8796093022208 ∧ 0 ≤ lS c a b * m ∧ lS c a b * m ≤ 8796093022208 := by
 have h2 := ha.m; have h3 := hb.m
 unfold lS
 split
 ·simp
 ·rename_i h
  have hp := aGw hc ha hb (fun g => h (.inl g))
  have hd := aGv hp.1 (s := a.mass + b.mass) (by omega) hm
  omega
theorem mC {j m n : Int} (h : 0 ≤ j * m ∧ j * m ≤ 8796093022208) (hn : -65536 ≤ n ∧ n ≤ 65536) : (0 ≤ j * m / 65536 ∧ j * m / 65536 ≤ 134217728) ∧ (-8796093022208 ≤ j * m / 65536 * n ∧ j * m / 65536 * n ≤ 8796093022208) ∧ -134217728 ≤ pD j m n ∧ pD j m n ≤ 134217728 := by
 have hk : 0 ≤ j * m / 65536 ∧ j * m / 65536 ≤ 134217728 := by omega
 have m1 := wW (a := j * m / 65536) (b := n) (A := 134217728) (B := 65536) (by omega) (by omega)
 unfold pD
 generalize j * m / 65536 = k at *
 omega
def yK (xs : List Body) (k : Int) : Body := xs.getD (cH k xs).toNat default
theorem aSs {xs : List Body} {k : Int} {p : Nat} {x : Body} (hx : xs[p]? = some x) (hp : cH k xs = (p : Int)) : yK xs k = x := by
 unfold yK
 rw [hp, Int.toNat_natCast, aWh hx]
theorem wG {xs : List Body} {k : Int} (h : 0 ≤ cH k xs) : yK xs k ∈ xs ∧ (yK xs k).key = k := by
 obtain ⟨p, x, hx, hk, hf⟩ := aLv h
 rw [aSs hx hf]
 exact ⟨List.mem_of_getElem? hx, hk⟩
def jV (xs : List Body) (c : Con) : Int := lS c (yK xs c.low) (yK xs c.high)
def ctr (xs : List Body) (g : Con → Int) (c : Con) (b : Body) : Int := if c.low = b.key then -pD (jV xs c) b.mass (g c) else if c.high = b.key then pD (jV xs c) b.mass (g c) else 0
def fM (xs : List Body) (cs : List Con) (g : Con → Int) (b : Body) : Int := (cs.map (fun c => ctr xs g c b)).sum
theorem aOc {xs : List Body} {cs : List Con} {k : Nat} {c : Con} (h : cs[k]? = some c) (g : Con → Int) (b : Body) : fM xs (cs.take (k + 1)) g b = fM xs (cs.take k) g b + ctr xs g c b := by
 unfold fM
 rw [cV h, List.map_append, List.sum_append]
 simp
theorem aNk (xs : List Body) (cs : List Con) (g : Con → Int) (b : Body) : fM xs (cs.take 0) g b = 0 := by simp [fM]
theorem aWt {xs : List Body} {c : Con} {g : Con → Int} {b : Body} (hs : bW xs) (hx : ∀ b ∈ xs, Okb b) (hc : OkC xs c) (hg : -65536 ≤ g c ∧ g c ≤ 65536) (hb : b ∈ xs) : -134217728 ≤ ctr xs g c b ∧ ctr xs g c b ≤ 134217728 := by
 obtain ⟨l1, l2⟩ := wG hc.l
 obtain ⟨h1, h2⟩ := wG hc.h
 have ma := (hx _ l1).m; have mb := (hx _ h1).m
 unfold ctr
 split
 ·rename_i e
  have : yK xs c.low = b := lE hs l1 hb (by rw [l2, e])
  have hr := wM hc.n (hx _ l1) (hx _ h1) (m := b.mass) (by rw [← this]; omega)
  have := (mC hr.2.2 hg).2.2
  unfold jV
  omega
 ·split
  ·rename_i e
   have : yK xs c.high = b := lE hs h1 hb (by rw [h2, e])
   have hr := wM hc.n (hx _ l1) (hx _ h1) (m := b.mass) (by rw [← this]; omega)
   have := (mC hr.2.2 hg).2.2
   unfold jV
   omega
  ·omega
theorem aLi {cs : List Con} {f : Con → Int} {B : Int} (hB : 0 ≤ B) (h : ∀ c ∈ cs, -B ≤ f c ∧ f c ≤ B) : -(cs.length * B) ≤ (cs.map f).sum ∧ (cs.map f).sum ≤ cs.length * B := by
 induction cs with
 | nil => simp
 | cons c cs ih =>
  have h0 := h c (by simp)
  have h1 := ih (fun d hd => h d (by simp [hd]))
  rw [List.map_cons, List.sum_cons, List.length_cons, Int.natCast_add, Int.add_mul]
  omega
theorem rU {xs : List Body} {cs : List Con} {g : Con → Int} {b : Body} (hs : bW xs) (hx : ∀ b ∈ xs, Okb b) (hc : ∀ c ∈ cs, OkC xs c) (hg : ∀ c ∈ cs, -65536 ≤ g c ∧ g c ≤ 65536) (hb : b ∈ xs) : -(cs.length * 134217728) ≤ fM xs cs g b ∧ fM xs cs g b ≤ cs.length * 134217728 :=
 aLi (by decide) (fun c h => aWt hs hx (hc c h) (hg c h) hb)
def aHh (xs : List Body) (cs : List Con) (b : Body) : Body := { b with vx := iL (b.vx + fM xs cs (·.nx) b) 16777216, vy := iL (b.vy + fM xs cs (·.ny) b) 16777216 }
def aXu (xs : List Body) (cs : List Con) (b : Body) : Bool := decide (iL (b.vx + fM xs cs (·.nx) b) 16777216 ≠ b.vx + fM xs cs (·.nx) b) || decide (iL (b.vy + fM xs cs (·.ny) b) 16777216 ≠ b.vy + fM xs cs (·.ny) b)
def aCu (xs : List Body) (cs : List Con) : List Body := xs.map (aHh xs cs)
def aQj (xs : List Body) (cs : List Con) : Bool := xs.any (aXu xs cs)
def gZ (xs : List Body) (cs : List Con) : Nat → List Body × Bool
 | 0 => (xs, false)
 | k + 1 => (aCu (gZ xs cs k).1 cs, (gZ xs cs k).2 || aQj (gZ xs cs k).1 cs)
structure SameB (a b : Body) : Prop where
 key : a.key = b.key
 radius : a.radius = b.radius
 ax : a.ax = b.ax
 ay : a.ay = b.ay
 mass : a.mass = b.mass
 bounce : a.bounce = b.bounce
structure Like (xs ys : List Body) : Prop where
 len : ys.length = xs.length
 at_ : ∀ (i : Nat) (x y : Body), xs[i]? = some x → ys[i]? = some y → SameB y x
theorem Like.refl (xs : List Body) : Like xs xs := ⟨rfl, fun i x y h1 h2 => by rw [h1] at h2; injection h2 with h2; subst h2; exact ⟨rfl, rfl, rfl, rfl, rfl, rfl⟩⟩
theorem Like.trans {xs ys zs : List Body} (h : Like xs ys) (g : Like ys zs) : Like xs zs := ⟨by rw [g.len, h.len], fun i x z hx hz => by
 have hi := (List.getElem?_eq_some_iff.1 hx).1
 have hy : ys[i]? = some (ys[i]'(by rw [h.len]; exact hi)) := List.getElem?_eq_getElem _
 have a := h.at_ i x _ hx hy
 have b := g.at_ i _ z hy hz
 exact ⟨b.key.trans a.key, b.radius.trans a.radius, b.ax.trans a.ax, b.ay.trans a.ay, b.mass.trans a.mass, b.bounce.trans a.bounce⟩⟩
theorem Like.map {xs : List Body} {f : Body → Body} (h : ∀ b ∈ xs, SameB (f b) b) : Like xs (xs.map f) := ⟨by simp, fun i x y hx hy => by
 rw [List.getElem?_map, hx] at hy
 injection hy with hy
 subst hy
 exact h x (List.mem_of_getElem? hx)⟩
theorem Like.keys {xs ys : List Body} (h : Like xs ys) : ys.map (·.key) = xs.map (·.key) := by
 apply List.ext_getElem?
 intro i
 rw [List.getElem?_map, List.getElem?_map]
 by_cases hi : i < xs.length
 ·have h1 : xs[i]? = some xs[i] := List.getElem?_eq_getElem hi
  have h2 : ys[i]? = some (ys[i]'(by rw [h.len]; exact hi)) := List.getElem?_eq_getElem _
  rw [h1, h2]
  exact congrArg some (h.at_ i _ _ h1 h2).key
 ·have hl := h.len
  rw [List.getElem?_eq_none (show ys.length ≤ i by omega), List.getElem?_eq_none (show xs.length ≤ i by omega)]
theorem Like.sorted {xs ys : List Body} (h : Like xs ys) (hs : bW xs) : bW ys := by
 have := h.keys
 unfold bW at *
 have h1 : (xs.map (·.key)).Pairwise (· < ·) := List.pairwise_map.2 hs
 rw [← this] at h1
 exact List.pairwise_map.1 h1
theorem Like.find {xs ys : List Body} (h : Like xs ys) (k : Int) : cH k ys = cH k xs := rN k h.keys
theorem Like.okc {xs ys : List Body} (h : Like xs ys) {c : Con} (hc : OkC xs c) : OkC ys c := ⟨hc.ne, by rw [h.find]; exact hc.l, by rw [h.find]; exact hc.h, hc.n⟩
theorem aUb (xs : List Body) (cs : List Con) : Like xs (aCu xs cs) := Like.map (fun b _ => ⟨rfl, rfl, rfl, rfl, rfl, rfl⟩)
theorem bBq {xs : List Body} {cs : List Con} (h : ∀ b ∈ xs, Okb b) : ∀ b ∈ aCu xs cs, Okb b := fun b hb => by
 obtain ⟨x, hx, rfl⟩ := List.mem_map.1 hb
 have := h x hx
 exact ⟨this.r, this.a, this.m, this.c, this.p, ⟨(dZ _ (by decide)).1, (dZ _ (by decide)).2, (dZ _ (by decide)).1, (dZ _ (by decide)).2⟩⟩
theorem jO (xs : List Body) (cs : List Con) : ∀ k, Like xs (gZ xs cs k).1
 | 0 => Like.refl xs
 | k + 1 => (jO xs cs k).trans (aUb _ cs)
theorem sO {xs : List Body} {cs : List Con} (h : ∀ b ∈ xs, Okb b) : ∀ k, ∀ b ∈ (gZ xs cs k).1, Okb b
 | 0 => h
 | k + 1 => bBq (sO h k)
def oM (b : Body) : Body := if b.mass = 0 then b else { b with vy := iL (b.vy - 1024) 16777216 }
def oS (b : Body) : Bool := decide (b.mass ≠ 0) && decide (iL (b.vy - 1024) 16777216 ≠ b.vy - 1024)
def qX (xs : List Body) : List Body := xs.map oM
theorem aNu (b : Body) : SameB (oM b) b := by unfold oM; split <;> exact ⟨rfl, rfl, rfl, rfl, rfl, rfl⟩
theorem mP (xs : List Body) : Like xs (qX xs) := Like.map (fun b _ => aNu b)
theorem aVk {b : Body} (h : Okb b) : Okb (oM b) := by
 unfold oM
 split
 ·exact h
 ·exact ⟨h.r, h.a, h.m, h.c, h.p, ⟨h.v.1, h.v.2.1, (dZ _ (by decide)).1, (dZ _ (by decide)).2⟩⟩
theorem aEh {xs : List Body} (h : ∀ b ∈ xs, Okb b) : ∀ b ∈ qX xs, Okb b := fun b hb => by
 obtain ⟨x, hx, rfl⟩ := List.mem_map.1 hb
 exact aVk (h x hx)
def pM (c : Con) (a b : Body) : Int := if c.depth - 1024 ≤ 0 ∨ (a.mass = 0 ∧ b.mass = 0) then 0 else (c.depth - 1024) * 26214 / 65536
def oG (c : Con) (a b : Body) (m : Int) : Int := pM c a b * m / max 1 (a.mass + b.mass)
theorem aDi {c : Con} {a b : Body} (hc : Okn c) : 0 ≤ pM c a b ∧ pM c a b ≤ 1073741824 := by
 have := hc.d
 unfold pM
 split <;> omega
theorem aXs {c : Con} {a b : Body} {m : Int} (hc : Okn c) (hm : 0 ≤ m ∧ m ≤ 1048576) : (0 ≤ pM c a b * m ∧ pM c a b * m ≤ 1125899906842624) ∧ 0 ≤ oG c a b m ∧ oG c a b m ≤ 1125899906842624 := by
 have h := aDi (a := a) (b := b) hc
 have m1 := wW (a := pM c a b) (b := m) (A := 1073741824) (B := 1048576) (by omega) (by omega)
 have h0 := Int.mul_nonneg h.1 hm.1
 have hd := aGv h0 (s := max 1 (a.mass + b.mass)) (by omega) (m := 0) (by omega)
 unfold oG
 omega
theorem aDl {c : Con} {a b : Body} {m : Int} (hc : Okn c) (hm : 0 ≤ m ∧ m ≤ a.mass + b.mass) : 0 ≤ oG c a b m ∧ oG c a b m ≤ 1073741824 := by
 have h := aDi (a := a) (b := b) hc
 have hs : m ≤ max 1 (a.mass + b.mass) := by omega
 have h1 : pM c a b * m ≤ pM c a b * max 1 (a.mass + b.mass) := Int.mul_le_mul_of_nonneg_left hs h.1
 have h2 : oG c a b m ≤ pM c a b := Int.ediv_le_of_le_mul (by omega) h1
 have h3 : 0 ≤ oG c a b m := Int.ediv_nonneg (Int.mul_nonneg h.1 hm.1) (by omega)
 omega
def yZ (xs : List Body) (g : Con → Int) (c : Con) (b : Body) : Int := if c.low = b.key then -(oG c (yK xs c.low) (yK xs c.high) b.mass * g c / 65536) else if c.high = b.key then oG c (yK xs c.low) (yK xs c.high) b.mass * g c / 65536 else 0
def sL (xs : List Body) (cs : List Con) (g : Con → Int) (b : Body) : Int := (cs.map (fun c => yZ xs g c b)).sum
theorem aBo {xs : List Body} {cs : List Con} {k : Nat} {c : Con} (h : cs[k]? = some c) (g : Con → Int) (b : Body) : sL xs (cs.take (k + 1)) g b = sL xs (cs.take k) g b + yZ xs g c b := by
 unfold sL
 rw [cV h, List.map_append, List.sum_append]
 simp
theorem aCb (xs : List Body) (cs : List Con) (g : Con → Int) (b : Body) : sL xs (cs.take 0) g b = 0 := by simp [sL]
theorem pS {s n : Int} (hs : 0 ≤ s ∧ s ≤ 1073741824) (hn : -65536 ≤ n ∧ n ≤ 65536) : (-70368744177664 ≤ s * n ∧ s * n ≤ 70368744177664) ∧ -1073741824 ≤ s * n / 65536 ∧ s * n / 65536 ≤ 1073741824 := by
 have m1 := wW (a := s) (b := n) (A := 1073741824) (B := 65536) (by omega) (by omega)
 omega
theorem aVd {xs : List Body} {c : Con} {g : Con → Int} {b : Body} (hs : bW xs) (hx : ∀ b ∈ xs, Okb b) (hc : OkC xs c) (hg : -65536 ≤ g c ∧ g c ≤ 65536) (hb : b ∈ xs) : -1073741824 ≤ yZ xs g c b ∧ yZ xs g c b ≤ 1073741824 := by
 obtain ⟨l1, l2⟩ := wG hc.l
 obtain ⟨h1, h2⟩ := wG hc.h
 have ma := (hx _ l1).m; have mb := (hx _ h1).m
 unfold yZ
 split
 ·rename_i e
  have : yK xs c.low = b := lE hs l1 hb (by rw [l2, e])
  have hr := aDl (c := c) (a := yK xs c.low) (b := yK xs c.high) (m := b.mass) hc.n (by rw [← this]; omega)
  have := (pS hr hg).2
  omega
 ·split
  ·rename_i e
   have : yK xs c.high = b := lE hs h1 hb (by rw [h2, e])
   have hr := aDl (c := c) (a := yK xs c.low) (b := yK xs c.high) (m := b.mass) hc.n (by rw [← this]; omega)
   have := (pS hr hg).2
   omega
  ·omega
theorem aFs {xs : List Body} {cs : List Con} {g : Con → Int} {b : Body} (hs : bW xs) (hx : ∀ b ∈ xs, Okb b) (hc : ∀ c ∈ cs, OkC xs c) (hg : ∀ c ∈ cs, -65536 ≤ g c ∧ g c ≤ 65536) (hb : b ∈ xs) : -(cs.length * 1073741824) ≤ sL xs cs g b ∧ sL xs cs g b ≤ cs.length * 1073741824 :=
 aLi (by decide) (fun c h => aVd hs hx (hc c h) (hg c h) hb)
def aIl (b : Body) (s : Int) : Int := b.px + s + b.vx / 64
def aJy (b : Body) (s : Int) : Int := b.py + s + b.vy / 64
def aDq (b : Body) (sx sy : Int) : Body := { b with px := iL (aIl b sx) 1073741824, py := iL (aJy b sy) 1073741824 }
def aOx (b : Body) (sx sy : Int) : Bool := decide (iL (aIl b sx) 1073741824 ≠ aIl b sx) || decide (iL (aJy b sy) 1073741824 ≠ aJy b sy)
def aLx (xs : List Body) (cs : List Con) (ys : List Body) : List Body := ys.map (fun b => aDq b (sL xs cs (·.nx) b) (sL xs cs (·.ny) b))
def aQm (xs : List Body) (cs : List Con) (ys : List Body) : Bool := ys.any (fun b => aOx b (sL xs cs (·.nx) b) (sL xs cs (·.ny) b))
theorem aRh (b : Body) (sx sy : Int) : SameB (aDq b sx sy) b := ⟨rfl, rfl, rfl, rfl, rfl, rfl⟩
theorem aOm (xs : List Body) (cs : List Con) (ys : List Body) : Like ys (aLx xs cs ys) := Like.map (fun b _ => aRh b _ _)
theorem aXt {b : Body} (h : Okb b) (sx sy : Int) : Okb (aDq b sx sy) := ⟨h.r, h.a, h.m, h.c, ⟨(dZ _ (by decide)).1, (dZ _ (by decide)).2, (dZ _ (by decide)).1, (dZ _ (by decide)).2⟩, h.v⟩
theorem aXi {xs : List Body} {cs : List Con} {ys : List Body} (h : ∀ b ∈ ys, Okb b) : ∀ b ∈ aLx xs cs ys, Okb b := fun b hb => by
 obtain ⟨x, hx, rfl⟩ := List.mem_map.1 hb
 exact aXt (h x hx) _ _
def mD (xs : List Body) : List Body := (gZ (qX xs) (mI xs) 4).1
def qR (xs : List Body) : List Body := aLx xs (mI xs) (mD xs)
def vH (xs : List Body) : Bool := (xs.any oS || (gZ (qX xs) (mI xs) 4).2) || aQm xs (mI xs) (mD xs)
theorem tH (xs : List Body) : Like xs (qR xs) := (mP xs).trans ((jO _ _ 4).trans (aOm _ _ _))
theorem aMe {xs : List Body} (h : ∀ b ∈ xs, Okb b) : ∀ b ∈ qR xs, Okb b := aXi (sO (aEh h) 4)
end Go.Bil

namespace Go.Bil
structure Apart (xs : List Body) (cs : List Con) (k : Nat) (q : Int) : Prop where
 s : bW xs
 f : ∀ c ∈ cs, (c.low ≠ q ∧ 0 ≤ cH c.low xs) ∧ c.high ≠ q ∧ 0 ≤ cH c.high xs
 at_ : ∃ y, xs[k]? = some y ∧ y.key = q
theorem Apart.like {xs ys : List Body} {cs : List Con} {k : Nat} {q : Int} (h : Apart xs cs k q) (l : Like xs ys) : Apart ys cs k q := by
 refine ⟨l.sorted h.s, fun c hc => ?_, ?_⟩
 ·rw [l.find, l.find]; exact h.f c hc
 ·obtain ⟨y, hy, e⟩ := h.at_
  have hk := (List.getElem?_eq_some_iff.1 hy).1
  have h2 : ys[k]? = some (ys[k]'(by rw [l.len]; exact hk)) := List.getElem?_eq_getElem _
  exact ⟨_, h2, by rw [(l.at_ k _ _ hy h2).key, e]⟩
end Go.Bil

namespace Go.Bil
theorem pV {xs : List Body} {k : Int} (hs : bW xs) (h : 0 ≤ cH k xs) : ∃ (p : Nat) (x : Body), xs[p]? = some x ∧ x.key = k ∧ uH k xs = p ∧ yK xs k = x ∧ x ∈ xs := by
 obtain ⟨p, x, hp, hk, hf⟩ := aLv h
 subst hk
 exact ⟨p, x, hp, rfl, rT (by have := (List.getElem?_eq_some_iff.1 hp).1; omega) (fun j c hj hc => dS hs hj hc hp) (fun j c hj hc => by have := uV hs hj hp hc; omega), aSs hp hf, List.mem_of_getElem? hp⟩
theorem aGk {α : Type} {xs : List Body} (hs : bW xs) {pa pb : Nat} {xa xb : Body} (ha : xs[pa]? = some xa) (hb : xs[pb]? = some xb) (hne : xa.key < xb.key) {F G : Body → α} (h : ∀ b ∈ xs, b.key ≠ xa.key → b.key ≠ xb.key → G b = F b) : ((xs.map F).set pa (G xa)).set pb (G xb) = xs.map G := by
 apply List.ext_getElem?
 intro i
 have la := (List.getElem?_eq_some_iff.1 ha).1
 have lb := (List.getElem?_eq_some_iff.1 hb).1
 by_cases h1 : pb = i
 ·subst h1
  rw [List.getElem?_set_self (by simpa using lb), List.getElem?_map, hb]; rfl
 ·rw [List.getElem?_set_ne h1]
  by_cases h2 : pa = i
  ·subst h2
   rw [List.getElem?_set_self (by simpa using la), List.getElem?_map, ha]; rfl
  ·rw [List.getElem?_set_ne h2, List.getElem?_map, List.getElem?_map]
   cases hi : xs[i]? with
   | none => rfl
   | some b =>
    have e1 : b.key ≠ xa.key := by
     rcases Nat.lt_or_gt_of_ne h2 with g | g
     ·have := dS hs g ha hi; omega
     ·have := dS hs g hi ha; omega
    have e2 : b.key ≠ xb.key := by
     rcases Nat.lt_or_gt_of_ne h1 with g | g
     ·have := dS hs g hb hi; omega
     ·have := dS hs g hi hb; omega
    exact congrArg some (h b (List.mem_of_getElem? hi) e1 e2).symm
def aCt (xs : List Body) (g : Con → Int) (c : Con) (F : Body → Int) (b : Body) : Int := F b + ctr xs g c b
theorem aLa {xs : List Body} (hs : bW xs) {pa pb : Nat} {xa xb : Body} {c : Con} (ha : xs[pa]? = some xa) (hb : xs[pb]? = some xb) (ka : xa.key = c.low) (kb : xb.key = c.high) (hc : OkC xs c) (ba : yK xs c.low = xa) (bb : yK xs c.high = xb) (g : Con → Int) (F : Body → Int) :
  ((xs.map F).set pa (F xa - pD (lS c xa xb) xa.mass (g c))).set pb (F xb + pD (lS c xa xb) xb.mass (g c)) = xs.map (aCt xs g c F) := by
 have hne := hc.ne
 have e1 : aCt xs g c F xa = F xa - pD (lS c xa xb) xa.mass (g c) := by unfold aCt ctr jV; rw [if_pos ka.symm, ba, bb]; omega
 have e2 : aCt xs g c F xb = F xb + pD (lS c xa xb) xb.mass (g c) := by unfold aCt ctr jV; rw [if_neg (by omega), if_pos kb.symm, ba, bb]
 rw [← e1, ← e2]
 exact aGk hs ha hb (by omega) (fun b _ h1 h2 => by unfold aCt ctr; rw [if_neg (by omega), if_neg (by omega)]; omega)
theorem rM {α : Type} {l : List α} {i j : Nat} {x y : α} (h : l[j]? = some y) (hij : i ≠ j) : (l.set i x)[j]? = some y := by rw [List.getElem?_set_ne hij]; exact h
theorem aBc {xs : List Body} {cs : List Con} {k : Nat} {c : Con} (h : cs[k]? = some c) (g : Con → Int) : aCt xs g c (fun b => fM xs (cs.take k) g b) = fun b => fM xs (cs.take (k + 1)) g b := funext fun b => (aOc h g b).symm
def cA (z : Int) : List Value := [.int .i64 z]
theorem aXn (k : Nat) : List.replicate k ([.int .i64 0] : List Value) = (List.replicate k (0 : Int)).map cA := by simp [cA]
theorem aMu {α β : Type} {l : List α} {n : Nat} (h : l.length = n) (z : β) : List.replicate n z = l.map (fun _ => z) := (List.eq_replicate_iff.2 ⟨by rw [List.length_map, h], fun b hb => by obtain ⟨_, _, e⟩ := List.mem_map.1 hb; exact e.symm⟩).symm
def cJ (z : Int × Int) : List Value := [.int .i64 z.1, .int .i64 z.2]
theorem aYf (k : Nat) : List.replicate k ([.int .i64 0, .int .i64 0] : List Value) = (List.replicate k ((0, 0) : Int × Int)).map cJ := by simp [cJ]
def iN (xs : List Body) (cs : List Con) (b : Body) : Int × Int := (sL xs cs (·.nx) b, sL xs cs (·.ny) b)
def aKv (xs : List Body) (c : Con) (F : Body → Int × Int) (b : Body) : Int × Int := ((F b).1 + yZ xs (·.nx) c b, (F b).2 + yZ xs (·.ny) c b)
def aHz (s z : Int) (c : Con) (f : Int × Int) : Int × Int := (f.1 + z * (s * c.nx / 65536), f.2 + z * (s * c.ny / 65536))
theorem aXf {xs : List Body} (hs : bW xs) {pa pb : Nat} {xa xb : Body} {c : Con} (ha : xs[pa]? = some xa) (hb : xs[pb]? = some xb) (ka : xa.key = c.low) (kb : xb.key = c.high) (hc : OkC xs c) (ba : yK xs c.low = xa) (bb : yK xs c.high = xb) (F : Body → Int × Int) :
  ((xs.map F).set pa (aHz (oG c xa xb xa.mass) (-1) c (F xa))).set pb (aHz (oG c xa xb xb.mass) 1 c (F xb)) = xs.map (aKv xs c F) := by
 have hne := hc.ne
 have e1 : aKv xs c F xa = aHz (oG c xa xb xa.mass) (-1) c (F xa) := by unfold aKv yZ aHz; rw [if_pos ka.symm, if_pos ka.symm, ba, bb]; apply Prod.ext <;> (try simp only) <;> omega
 have e2 : aKv xs c F xb = aHz (oG c xa xb xb.mass) 1 c (F xb) := by unfold aKv yZ aHz; rw [if_neg (by omega), if_pos kb.symm, if_neg (by omega), if_pos kb.symm, ba, bb]; apply Prod.ext <;> (try simp only) <;> omega
 rw [← e1, ← e2]
 exact aGk hs ha hb (by omega) (fun b _ h1 h2 => by unfold aKv yZ; rw [if_neg (by omega), if_neg (by omega), if_neg (by omega), if_neg (by omega)]; apply Prod.ext <;> (try simp only) <;> omega)
theorem aNn {xs : List Body} {cs : List Con} {k : Nat} {c : Con} (h : cs[k]? = some c) : aKv xs c (iN xs (cs.take k)) = iN xs (cs.take (k + 1)) := funext fun b => Prod.ext (aBo h _ b).symm (aBo h _ b).symm
theorem aX.awayB {w0 w : World} {X : List Nat} {S : List dR} {T sz : Nat} {A : Option Addr} {n c : Nat} {ls : List (List Value)} {e : dR} {b : Nat} {o : Obj} (h : aX T sz A n c ls e) (M : Mem w0 X S w) (i j : Nat) (hi : eC S i = some e) (hj : eC S j = some (some b, o)) (hij : Nat.beq i j = false) : 0 < n → ∀ q off, A = some ⟨q, off, none⟩ → q ∉ bS [(some b, o)] := by
 intro hn q off hA hq
 obtain ⟨b2, L, _, h1, h2, _⟩ := h.block hn
 rw [h1] at hA
 injection hA with hA
 injection hA with hA
 subst hA
 have hqb : b2 = b := by simpa [bS] using hq
 subst hqb
 rw [fO] at hi hj
 have ha := M.apart
 have hne : i ≠ j := fun g => by subst g; simp at hij
 have hli := (List.getElem?_eq_some_iff.1 hi).1
 have hlj := (List.getElem?_eq_some_iff.1 hj).1
 have key : ∀ (a b : Nat) (x y : dR), a < b → S[a]? = some x → S[b]? = some y → x.1 = some b2 → y.1 = some b2 → False := fun p r x y hpr hx hy ex ey => by
  have e1 : S = S.take r ++ S.drop r := (List.take_append_drop r S).symm
  rw [e1, gY] at ha
  have m1 : b2 ∈ bS (S.take r) := fD.2 ⟨x.2, by rw [← ex]; exact List.mem_of_getElem? (by rw [List.getElem?_take_of_lt hpr]; exact hx)⟩
  have m2 : b2 ∈ bS (S.drop r) := fD.2 ⟨y.2, by rw [← ey]; exact List.mem_of_getElem? (i := 0) (by rw [List.getElem?_drop]; exact hy)⟩
  exact (List.nodup_append.1 ha).2.2 _ m1 _ m2 rfl
 rcases Nat.lt_or_gt_of_ne hne with g | g
 ·exact key i j _ _ g hi hj (by rw [h2]) rfl
 ·exact key j i _ _ g hj hi rfl (by rw [h2])
end Go.Bil

namespace Go.Bil
def hdr (r : Row) : List Value := [.slice r.A r.n r.c]
structure IslR (T : Nat) (rs : List Row) (L : List (List Int)) : Prop where
 len : rs.length = L.length
 row : ∀ (j : Nat) (r : Row) (l : List Int), rs[j]? = some r → L[j]? = some l → aX T 1 r.A r.n r.c (l.map fA) r.e
theorem IslR.nil (T : Nat) : IslR T [] [] := ⟨rfl, by simp⟩
theorem IslR.snoc {T : Nat} {rs : List Row} {L : List (List Int)} (h : IslR T rs L) : IslR T (rs ++ [iK]) (L ++ [[]]) := by
 refine ⟨by simp [h.len], fun j r l hr hl => ?_⟩
 by_cases hj : j < rs.length
 ·rw [List.getElem?_append_left hj] at hr
  rw [List.getElem?_append_left (by rw [← h.len]; exact hj)] at hl
  exact h.row j r l hr hl
 ·have hj2 : j = rs.length := by
   have := (List.getElem?_eq_some_iff.1 hr).1
   simp at this
   omega
  rw [hj2, List.getElem?_append_right (Nat.le_refl _), Nat.sub_self] at hr
  rw [hj2, h.len, List.getElem?_append_right (Nat.le_refl _), Nat.sub_self] at hl
  simp only [List.getElem?_cons_zero, Option.some.injEq] at hr hl
  subst hr hl
  exact aX.nil _ _ _
theorem IslR.put {T : Nat} {rs : List Row} {L : List (List Int)} (h : IslR T rs L) {j : Nat} {r : Row} {l : List Int} (hj : j < L.length) (hr : aX T 1 r.A r.n r.c (l.map fA) r.e) : IslR T (rs.set j r) (L.set j l) := by
 refine ⟨by rw [List.length_set, List.length_set, h.len], fun k q m hq hm => ?_⟩
 rw [List.getElem?_set] at hq hm
 by_cases hk : j = k
 ·subst hk
  rw [if_pos rfl, if_pos (by rw [h.len]; exact hj)] at hq
  rw [if_pos rfl, if_pos hj] at hm
  injection hq with hq
  injection hm with hm
  subst hq hm
  exact hr
 ·rw [if_neg hk] at hq hm
  exact h.row k q m hq hm
end Go.Bil

namespace Go.Bil
theorem IslR.add {T : Nat} {rs : List Row} {L : List (List Int)} {r : Row} {l : List Int} (h : IslR T rs L) (hr : aX T 1 r.A r.n r.c (l.map fA) r.e) : IslR T (rs ++ [r]) (L ++ [l]) := by
 refine ⟨by simp [h.len], fun j q k hq hk => ?_⟩
 by_cases hj : j < rs.length
 ·rw [List.getElem?_append_left hj] at hq
  rw [List.getElem?_append_left (by rw [← h.len]; exact hj)] at hk
  exact h.row j q k hq hk
 ·have hj2 : j = rs.length := by
   have := (List.getElem?_eq_some_iff.1 hq).1
   simp at this
   omega
  rw [hj2, List.getElem?_append_right (Nat.le_refl _), Nat.sub_self] at hq
  rw [hj2, h.len, List.getElem?_append_right (Nat.le_refl _), Nat.sub_self] at hk
  simp only [List.getElem?_cons_zero, Option.some.injEq] at hq hk
  subst hq hk
  exact hr
end Go.Bil

namespace Go.Bil
structure IslRd (w : World) (A : Option Addr) (n : Nat) (rs : List Row) (L : List (List Int)) : Prop where
 hd : Rd w 1 A n (rs.map hdr)
 len : rs.length = L.length
 row : ∀ (j : Nat) (r : Row) (l : List Int), rs[j]? = some r → L[j]? = some l → Rd w 1 r.A r.n (l.map fA)
theorem IslRd.mem {w0 w : World} {S : List dR} {A : Option Addr} {n : Nat} {rs : List Row} {L : List (List Int)} (h : IslRd w0 A n rs L) (M : Mem w0 [] S w) : IslRd w A n rs L :=
 ⟨h.hd.mem M, h.len, fun j r l hr hl => (h.row j r l hr hl).mem M⟩
theorem IslR.rd {w0 w : World} {X : List Nat} {S : List dR} {T T' c n : Nat} {A : Option Addr} {e : dR} {rs : List Row} {L : List (List Int)} (h : IslR T rs L) (hq : aX T' 1 A n c (rs.map hdr) e) (M : Mem w0 X S w) (he : e ∈ S) (ht : ∀ r ∈ rs, r.e ∈ S) : IslRd w A n rs L :=
 ⟨hq.rd M he, h.len, fun j r l hr hl => (h.row j r l hr hl).rd M (ht r (List.mem_of_getElem? hr))⟩
theorem IslRd.one {w : World} {A A1 : Option Addr} {n1 c1 : Nat} {l1 : List Int} (h0 : Rd w 1 A 1 [[.slice A1 n1 c1]]) (h1 : Rd w 1 A1 n1 (l1.map fA)) : IslRd w A 1 [⟨A1, n1, c1, default⟩] [l1] := by
 refine ⟨h0, rfl, fun j r l hr hl => ?_⟩
 match j with
 | 0 => simp only [List.getElem?_cons_zero, Option.some.injEq] at hr hl; subst hr hl; exact h1
 | j + 1 => simp at hr
theorem IslRd.two {w : World} {A A1 A2 : Option Addr} {n1 c1 n2 c2 : Nat} {l1 l2 : List Int} (h0 : Rd w 1 A 2 [[.slice A1 n1 c1], [.slice A2 n2 c2]]) (h1 : Rd w 1 A1 n1 (l1.map fA)) (h2 : Rd w 1 A2 n2 (l2.map fA)) : IslRd w A 2 [⟨A1, n1, c1, default⟩, ⟨A2, n2, c2, default⟩] [l1, l2] := by
 refine ⟨h0, rfl, fun j r l hr hl => ?_⟩
 match j with
 | 0 => simp only [List.getElem?_cons_zero, Option.some.injEq] at hr hl; subst hr hl; exact h1
 | 1 => simp only [List.getElem?_cons_succ, List.getElem?_cons_zero, Option.some.injEq] at hr hl; subst hr hl; exact h2
 | j + 2 => simp at hr
end Go.Bil

namespace Go.Bil
end Go.Bil

namespace Go.Bil
open Go Go.RowKit Go.Deep
section
variable {H : Type} {enc : TypeId × Value → H} {P : Program} {w : World} {base : Nat} {spare : Nat → Bool} {held : Bool}
theorem aHy {sz len : Nat} {a : Addr} {Q : List Value → Prop} (hsz : 0 < sz) (hbig : len ≤ 281474976710656) (hall : ∀ i, i < len → ∃ cs' : List Value, cs'.length = sz ∧ (∀ j, j < sz → w.cell? (a.add (i * sz + j)) = cs'[j]?) ∧ Q cs') :
  ∃ ls : List (List Value), Rd w sz (some a) len ls ∧ ∀ l ∈ ls, Q l := by
 have hex : ∀ k, k ≤ len → ∃ ls : List (List Value), ls.length = k ∧ ∀ i l, ls[i]? = some l → l.length = sz ∧ (∀ j, j < sz → w.cell? (a.add (i * sz + j)) = l[j]?) ∧ Q l := by
  intro k
  induction k with
  | zero => intro _; exact ⟨[], rfl, by simp⟩
  | succ k ih =>
   intro hk'
   obtain ⟨ls, q1, q2⟩ := ih (by omega)
   obtain ⟨cs', r1, r2, r3⟩ := hall k (by omega)
   refine ⟨ls ++ [cs'], by simp [q1], fun i l hil => ?_⟩
   rw [List.getElem?_append] at hil
   split at hil
   ·exact q2 i l hil
   ·rename_i hge
    have hik : i = k := by
     have := (List.getElem?_eq_some_iff.1 hil).1
     simp at this
     omega
    subst hik
    simp only [q1, Nat.sub_self, List.getElem?_cons_zero, Option.some.injEq] at hil
    subst hil
    exact ⟨r1, r2, r3⟩
 obtain ⟨ls, q1, q2⟩ := hex len (Nat.le_refl _)
 refine ⟨ls, ⟨q1, fun l hl' => ?_, hbig, fun hpos => ?_⟩, fun l hl' => ?_⟩
 ·obtain ⟨i, hi⟩ := List.getElem?_of_mem hl'
  exact (q2 i l hi).1
 ·obtain ⟨l0, hl0⟩ : ∃ l0, ls[0]? = some l0 := ⟨ls[0]'(by omega), List.getElem?_eq_getElem _⟩
  obtain ⟨r1, r2, _⟩ := q2 0 l0 hl0
  have hc0 := r2 0 (by omega)
  have hl00 : l0[0]? = some (l0[0]'(by omega)) := List.getElem?_eq_getElem _
  rw [hl00] at hc0
  obtain ⟨b, off, spot⟩ := a
  have hs : spot = none := by
   cases spot with
   | none => rfl
   | some s =>
    exfalso
    simp only [World.cell?] at hc0
    split at hc0
    ·have : ((⟨b, off, some s⟩ : Addr).add (0 * sz + 0)).spot.isSome = true := by unfold Addr.add; split <;> simp_all
     rw [this] at hc0
     simp at hc0
    ·cases hc0
  subst hs
  refine ⟨b, off, rfl, ?_, fun i l hil j v hj => ?_⟩
  ·rw [dB] at hc0
   unfold World.cell? at hc0
   by_cases hlt : b < w.heap.size
   ·exact hlt
   ·rw [Array.getElem?_eq_none (Nat.le_of_not_lt hlt)] at hc0
    cases hc0
  ·obtain ⟨r1, r2, _⟩ := q2 i l hil
   have hj' : j < sz := by rw [← r1]; exact (List.getElem?_eq_some_iff.1 hj).1
   have := r2 j hj'
   rw [dB, ← Nat.add_assoc] at this
   rw [this, hj]
 ·obtain ⟨i, hi⟩ := List.getElem?_of_mem hl'
  exact (q2 i l hi).2.2
theorem vD {e : TypeId} : ∀ {l : List (DataW H)} {d : DataW H}, d ∈ l → ∀ n ∈ d.weights P e, n ∈ DataW.weightsAll P e l
 | x :: l, d, hd, n, hn => by
  simp only [DataW.weightsAll, List.mem_append]
  rcases List.mem_cons.1 hd with rfl | hd
  ·exact .inl hn
  ·exact .inr (vD hd n hn)
theorem qT {t e : TypeId} {elems sp : List (DataW H)} (hu : P.underlying t = some (.slice e)) (h : ∀ n ∈ (DataW.slice elems sp).weights P t, n ≤ reachBytes) : (elems.length + sp.length) * P.bytesOf e ≤ reachBytes ∧ ∀ d ∈ elems, ∀ n ∈ d.weights P e, n ≤ reachBytes := by
 simp only [DataW.weights, hu, List.mem_cons, List.mem_append] at h
 exact ⟨h _ (.inl rfl), fun d hd n hn => h n (.inr (.inl (vD hd n hn)))⟩
theorem uN {t e sz bytes : Nat} {A : Option Addr} {len cap : Nat} {d : DataW H} {ps : List MemPlace} (hw : ∀ n ∈ d.weights P t, n ≤ reachBytes) (hs : eD P t e sz bytes = true) (h : DataW.Trod enc P w base spare held t (.slice A len cap) d ps) : len * bytes ≤ 140737488351232 := by
 obtain ⟨h1, h2, h3, h4, h5, h6, zv, hzv, hzs⟩ := dX hs
 obtain ⟨fuel, hf⟩ := h
 rcases open_slice h1 hf with ⟨hcs, _⟩ | ⟨a, l, c, m', n, D, Pl, hcs, hb, hlc, _, hm, hx, _⟩
 ·simp only [Value.cells, List.cons.injEq, Value.slice.injEq, and_true] at hcs
  obtain ⟨rfl, rfl, rfl⟩ := hcs
  simp
 ·simp only [Value.cells, List.cons.injEq, Value.slice.injEq, and_true] at hcs
  obtain ⟨rfl, rfl, rfl⟩ := hcs
  obtain ⟨rfl, _⟩ := Prod.mk.inj hx
  have z := (qT h1 hw).1
  rw [h4] at z
  simp only [List.length_map, List.length_range] at z
  have hr : reachBytes = 140737488351232 := rfl
  rw [hr] at z
  exact Nat.le_trans (Nat.mul_le_mul_right _ (by omega)) z
end
end Go.Bil
