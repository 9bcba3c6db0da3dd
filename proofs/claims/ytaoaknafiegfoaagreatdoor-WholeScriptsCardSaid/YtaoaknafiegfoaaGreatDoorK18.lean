/- Part of the proof of the laws of this seat: MdX, MdY, MdZ, MdM, MdI, MdJ, MdA, MdF, MdH, MdK, MdL, MdO, MdT, FwW, Fx4. No conditions. -/
import Derived.Test.YtaoaknafiegfoaaGreatDoorK7
import Derived.Test.YtaoaknafiegfoaaGreatDoorK17
import Derived.Test.YtaoaknafiegfoaaGreatDoorK3
set_option linter.unusedVariables false
set_option linter.unusedSimpArgs false
set_option linter.unnecessarySimpa false
namespace Go.Bil
abbrev Pt := Int × Int
structure PtI (v : Pt) : Prop where
 x : -1082130432 ≤ v.1 ∧ v.1 ≤ 1082130432
 y : -1082130432 ≤ v.2 ∧ v.2 ≤ 1082130432
structure SgI (p q : Pt) : Prop where
 hp : PtI p
 hq : PtI q
 x : -16777216 ≤ q.1 - p.1 ∧ q.1 - p.1 ≤ 16777216
 y : -16777216 ≤ q.2 - p.2 ∧ q.2 - p.2 ≤ 16777216
theorem PtI.i32 {v : Pt} (h : PtI v) : I32 v := ⟨by have := h.x; omega, by have := h.y; omega⟩
theorem PtI.inX {v u : Pt} (h : PtI v) (g : PtI u) : vI (u.1 - v.1) := by have := h.x; have := g.x; unfold vI; omega
theorem PtI.inY {v u : Pt} (h : PtI v) (g : PtI u) : vI (u.2 - v.2) := by have := h.y; have := g.y; unfold vI; omega
theorem aDw {a b : Int} {A B : Nat} (ha : a.natAbs ≤ A) (hb : b.natAbs ≤ B) : -((A * B : Nat) : Int) ≤ a * b ∧ a * b ≤ ((A * B : Nat) : Int) := by
 have h := Nat.mul_le_mul ha hb
 rw [← Int.natAbs_mul] at h
 omega
theorem sqN (a : Int) : 0 ≤ a * a := by rw [← Int.natAbs_mul_self]; omega
def mF (p q : Pt) : Int := (q.1 - p.1) * (q.1 - p.1) + (q.2 - p.2) * (q.2 - p.2)
def pA (p q c : Pt) : Int := max 0 (min ((c.1 - p.1) * (q.1 - p.1) + (c.2 - p.2) * (q.2 - p.2)) (mF p q))
theorem nK {p q : Pt} (h : SgI p q) : 0 ≤ mF p q ∧ mF p q ≤ 562949953421312 ∧ (0 ≤ (q.1 - p.1) * (q.1 - p.1) ∧ (q.1 - p.1) * (q.1 - p.1) ≤ 281474976710656) ∧ 0 ≤ (q.2 - p.2) * (q.2 - p.2) ∧ (q.2 - p.2) * (q.2 - p.2) ≤ 281474976710656 := by
 have hx := h.x
 have hy := h.y
 have a := aDw (a := q.1 - p.1) (b := q.1 - p.1) (A := 16777216) (B := 16777216) (by omega) (by omega)
 have b := aDw (a := q.2 - p.2) (b := q.2 - p.2) (A := 16777216) (B := 16777216) (by omega) (by omega)
 have c := sqN (q.1 - p.1)
 have d := sqN (q.2 - p.2)
 unfold mF
 omega
theorem xA {p q c : Pt} (h : SgI p q) : 0 ≤ pA p q c ∧ pA p q c ≤ mF p q := by
 have := nK h
 unfold pA
 omega
theorem aHj {p q c : Pt} (h : SgI p q) (hc : PtI c) : (-36310272144179200 ≤ (c.1 - p.1) * (q.1 - p.1) ∧ (c.1 - p.1) * (q.1 - p.1) ≤ 36310272144179200) ∧ -36310272144179200 ≤ (c.2 - p.2) * (q.2 - p.2) ∧ (c.2 - p.2) * (q.2 - p.2) ≤ 36310272144179200 := by
 have hx := h.x
 have hy := h.y
 have := hc.x; have := hc.y; have := h.hp.x; have := h.hp.y
 have a := aDw (a := c.1 - p.1) (b := q.1 - p.1) (A := 2164260864) (B := 16777216) (by omega) (by omega)
 have b := aDw (a := c.2 - p.2) (b := q.2 - p.2) (A := 2164260864) (B := 16777216) (by omega) (by omega)
 omega
theorem bIb {a n d : Int} (hn : 0 ≤ n) (hnd : n ≤ d) (hd : 0 < d) : (0 ≤ a → 0 ≤ a * n / d ∧ a * n / d ≤ a) ∧ (a ≤ 0 → a ≤ a * n / d ∧ a * n / d ≤ 0) := by
 refine ⟨fun h => ⟨Int.ediv_nonneg (Int.mul_nonneg h hn) (Int.le_of_lt hd), ?_⟩, fun h => ⟨?_, ?_⟩⟩
 ·exact Int.ediv_le_of_le_mul hd (Int.mul_le_mul_of_nonneg_left hnd h)
 ·exact (Int.le_ediv_iff_mul_le hd).2 (Int.mul_le_mul_of_nonpos_left h hnd)
 ·have h1 : a * n ≤ 0 := Int.mul_nonpos_of_nonpos_of_nonneg h hn
  exact Int.ediv_le_of_le_mul hd (by omega)
def cB (p q c : Pt) : Pt := if mF p q = 0 then p else (p.1 + (q.1 - p.1) * pA p q c / mF p q, p.2 + (q.2 - p.2) * pA p q c / mF p q)
theorem aEg {p q c : Pt} (h : SgI p q) (hd : mF p q ≠ 0) : ((-16777216 ≤ (q.1 - p.1) * pA p q c / mF p q ∧ (q.1 - p.1) * pA p q c / mF p q ≤ 16777216) ∧ -1082130432 ≤ p.1 + (q.1 - p.1) * pA p q c / mF p q ∧ p.1 + (q.1 - p.1) * pA p q c / mF p q ≤ 1082130432) ∧
  (-16777216 ≤ (q.2 - p.2) * pA p q c / mF p q ∧ (q.2 - p.2) * pA p q c / mF p q ≤ 16777216) ∧ -1082130432 ≤ p.2 + (q.2 - p.2) * pA p q c / mF p q ∧ p.2 + (q.2 - p.2) * pA p q c / mF p q ≤ 1082130432 := by
 have hn := xA (c := c) h
 have hD := nK h
 have a := bIb (a := q.1 - p.1) hn.1 hn.2 (by omega)
 have b := bIb (a := q.2 - p.2) hn.1 hn.2 (by omega)
 have := h.hp.x; have := h.hp.y; have := h.hq.x; have := h.hq.y; have := h.x; have := h.y
 generalize (q.1 - p.1) * pA p q c / mF p q = u at *
 generalize (q.2 - p.2) * pA p q c / mF p q = v at *
 omega
theorem eV {p q c : Pt} (h : SgI p q) : PtI (cB p q c) := by
 unfold cB
 split
 ·exact h.hp
 ·rename_i hd
  have := aEg (c := c) h hd
  exact ⟨this.1.2, this.2.2⟩
abbrev Ch := Pt × Pt × Nat
def fS (s : Ch) (x y : Pt) : Ch := if pP (y.1 - x.1) (y.2 - x.2) < s.2.2 then (x, y, pP (y.1 - x.1) (y.2 - x.2)) else s
def ch0 : Ch := ((0, 0), (0, 0), 18446744073709551615)
def mS (ap aq bp bq : Pt) : Ch := fS (fS (fS (fS ch0 ap (cB bp bq ap)) aq (cB bp bq aq)) (cB ap aq bp) bp) (cB ap aq bq) bq
structure ChI (s : Ch) : Prop where
 a : PtI s.1
 b : PtI s.2.1
 l : s.2.2 < 18446744073709551616
theorem ChI.step {s : Ch} {x y : Pt} (h : ChI s) (hx : PtI x) (hy : PtI y) : ChI (fS s x y) := by
 unfold fS
 split
 ·exact ⟨hx, hy, (rL (hx.inX hy) (hx.inY hy)).1⟩
 ·exact h
theorem bFc : ChI ch0 := ⟨⟨by decide, by decide⟩, ⟨by decide, by decide⟩, by decide⟩
theorem aVr {ap aq bp bq : Pt} (h1 : SgI ap aq) (h2 : SgI bp bq) : ChI (mS ap aq bp bq) :=
 (((bFc.step h1.hp (eV h2)).step h1.hq (eV h2)).step (eV h1) h2.hp).step (eV h1) h2.hq
def yY (b : Body) : Pt := (b.px - b.ax, b.py - b.ay)
def yV (b : Body) : Pt := (b.px + b.ax, b.py + b.ay)
theorem pM {b : Body} (h : Okb b) : SgI (yY b) (yV b) := by
 have := h.a; have := h.p
 refine ⟨⟨?_, ?_⟩, ⟨?_, ?_⟩, ?_, ?_⟩ <;> simp only [yY, yV] <;> omega
structure Con where
 low : Int
 high : Int
 nx : Int
 ny : Int
 depth : Int
deriving DecidableEq
def cH (c : Con) : List Value := [.int .u32 c.low, .int .u32 c.high, .int .i32 c.nx, .int .i32 c.ny, .int .i32 c.depth]
def oC (a b : Body) : Ch := mS (yY a) (yV a) (yY b) (yV b)
def pZ (s : Ch) : Int := s.2.1.1 - s.1.1
def rE (s : Ch) : Int := s.2.1.2 - s.1.2
def jI (a b : Body) : Option Con :=
 if (a.radius + b.radius).natAbs * (a.radius + b.radius).natAbs ≤ pP (pZ (oC a b)) (rE (oC a b)) then none
 else some ⟨a.key, b.key, (mI (pZ (oC a b)) (rE (oC a b))).1, (mI (pZ (oC a b)) (rE (oC a b))).2, IntKind.wrap .i32 (a.radius + b.radius - len (pZ (oC a b)) (rE (oC a b)))⟩
def jY (a b : Body) : Option Con := if b.key < a.key then jI b a else jI a b
def oW (b : Body) : List Value := aF b ++ cI (yY b) ++ cI (yV b)
def loB (a b : Body) : Body := if b.key < a.key then b else a
def hiB (a b : Body) : Body := if b.key < a.key then a else b
theorem aOq (a b : Body) : jY a b = jI (loB a b) (hiB a b) := by unfold jY loB hiB; split <;> rfl
theorem bOw {a b : Body} (ha : Okb a) (hb : Okb b) : Okb (loB a b) ∧ Okb (hiB a b) := by unfold loB hiB; split <;> exact ⟨by assumption, by assumption⟩
theorem zC {a b : Body} (ha : Okb a) (hb : Okb b) : ChI (oC a b) := aVr (pM ha) (pM hb)
theorem bEf {a b : Body} (ha : Okb a) (hb : Okb b) : vI (pZ (oC a b)) ∧ vI (rE (oC a b)) := ⟨(zC ha hb).a.inX (zC ha hb).b, (zC ha hb).a.inY (zC ha hb).b⟩
def aNb (o : Option Con) : List Value := cH (o.getD ⟨0, 0, 0, 0, 0⟩)
theorem bBt {a b : Body} (ha : Okb a) (hb : Okb b) : 0 ≤ (a.radius + b.radius) * (a.radius + b.radius) ∧ (a.radius + b.radius) * (a.radius + b.radius) ≤ 70368744177664 := by
 have := ha.r; have := hb.r
 have h := aDw (a := a.radius + b.radius) (b := a.radius + b.radius) (A := 8388608) (B := 8388608) (by omega) (by omega)
 have := sqN (a.radius + b.radius)
 omega
theorem bHl (s : Int) (h : 0 ≤ s * s ∧ s * s ≤ 70368744177664) : IntKind.wrap .u64 (s * s) = ((s.natAbs * s.natAbs : Nat) : Int) := by
 rw [gB, Int.natAbs_mul_self]; omega
end Go.Bil

namespace Go.Bil
def vH (b : Body) : Value := .agg (aF b).toArray
def bBn : Body := ⟨0, 0, 0, 0, 0, 0, 0, 0, 0, 0⟩
def boM (xs : List Body) : Int → Option Body := fun k => xs.reverse.find? (fun b => decide (b.key = k))
theorem bFr (k : Int) : boM [] k = none := rfl
theorem bDy {xs : List Body} {k : Nat} {b : Body} (h : xs[k]? = some b) (q : Int) : boM (xs.take (k + 1)) q = if q = b.key then some b else boM (xs.take k) q := by
 unfold boM
 rw [cP h, List.reverse_append]
 simp only [List.reverse_cons, List.reverse_nil, List.nil_append, List.singleton_append, List.find?_cons]
 by_cases e : q = b.key
 ·rw [if_pos e, decide_eq_true e.symm]
 ·rw [if_neg e, decide_eq_false (fun h => e h.symm)]
theorem aCf {xs : List Body} (hs : cW xs) {b : Body} (hb : b ∈ xs) : boM xs b.key = some b := by
 unfold boM
 cases hf : xs.reverse.find? (fun c => decide (c.key = b.key)) with
 | none =>
  have := List.find?_eq_none.1 hf b (by simpa using hb)
  simp at this
 | some c =>
  have hc := List.find?_some hf
  have hm : c ∈ xs := by simpa using List.mem_of_find?_eq_some hf
  simp only [decide_eq_true_eq] at hc
  rw [lN hs hm hb hc]
def aBn (f : Int → Option Body) (z : Int × Int) : Option Con := (f z.1).bind fun a => (f z.2).bind fun b => jY a b
def kL (xs : List Body) : List Con := (nH xs).filterMap (aBn (boM xs))
theorem aAy {xs : List Body} (hs : cW xs) {z : Int × Int} (h : z ∈ nH xs) : ∃ a b, a ∈ xs ∧ b ∈ xs ∧ a.key < b.key ∧ z = (a.key, b.key) ∧ boM xs z.1 = some a ∧ boM xs z.2 = some b := by
 obtain ⟨a, ha, b, hb, h1, h2, rfl⟩ := (aWh hs).1 h
 exact ⟨a, b, ha, hb, h1, rfl, aCf hs ha, aCf hs hb⟩
theorem sE {f : Int → Option Body} {z : Int × Int} {a b : Body} (h1 : f z.1 = some a) (h2 : f z.2 = some b) : aBn f z = jY a b := by simp [aBn, h1, h2]
theorem aQn {a b : Body} {c : Con} (h : jI a b = some c) : c.low = a.key ∧ c.high = b.key := by
 unfold jI at h
 split at h
 ·cases h
 ·injection h with h; subst h; exact ⟨rfl, rfl⟩
theorem aVm {a b : Body} {c : Con} (hk : a.key < b.key) (h : jY a b = some c) : c.low = a.key ∧ c.high = b.key := by
 unfold jY at h
 rw [if_neg (by omega)] at h
 exact aQn h
theorem bIc {α β : Type} {l : List α} {k : Nat} {z : α} {g : α → Option β} (h : l[k]? = some z) : (l.take (k + 1)).filterMap g = (l.take k).filterMap g ++ (g z).toList := by
 rw [cP h, List.filterMap_append]
 cases hg : g z <;> simp [hg]
theorem aDj (xs : List Body) : (kL xs).length ≤ (nH xs).length := List.length_filterMap_le _ _
theorem wN {x y : Pt} (hx : PtI x) (hy : PtI y) : fS ch0 x y = (x, y, pP (y.1 - x.1) (y.2 - x.2)) := by
 have := rL (hx.inX hy) (hx.inY hy)
 have h : pP (y.1 - x.1) (y.2 - x.2) < 18446744073709551615 := by unfold pP at *; omega
 exact if_pos h
theorem Mem.orderC {w0 w : World} {X : List Nat} {a b c d : eZ} (M : Mem w0 X [a, b, c, d] w) : Mem w0 X [c, b, a, d] w :=
 M.perm ((List.Perm.swap b a [c, d]).trans (((List.Perm.swap c a [d]).cons b).trans (List.Perm.swap c b [a, d])))
def tM : Con → List Con → Con
 | b, [] => b
 | b, c :: l => tM (if b.depth < c.depth then c else b) l
def bJd : List Con → Option Con
 | [] => none
 | c :: l => some (tM c l)
end Go.Bil

namespace Go.Bil
def tX : List Nat → Nat
 | [] => 0
 | d :: l => d + 65536 * tX l
def lI (d : Nat) : Value := .int .u64 (d : Int)
def bRb (m : Nat) : List Nat := [m % 65536, m / 65536 % 65536, m / 65536 / 65536 % 65536, m / 65536 / 65536 / 65536 % 65536, 0, 0, 0, 0]
theorem aCe {z0 z1 z2 z3 p0 p1 p2 p3 t0 t1 t2 t3 : Nat} (h0 : t0 = z0 + p0 + 0) (h1 : t1 = z1 + p1 + t0 / 65536) (h2 : t2 = z2 + p2 + t1 / 65536) (h3 : t3 = z3 + p3 + t2 / 65536) :
  t0 % 65536 + 65536 * (t1 % 65536 + 65536 * (t2 % 65536 + 65536 * (t3 % 65536 + 65536 * (t3 / 65536)))) = (z0 + 65536 * (z1 + 65536 * (z2 + 65536 * z3))) + (p0 + 65536 * (p1 + 65536 * (p2 + 65536 * p3))) := by omega
theorem aZo {z p c x y : Nat} (hz : z < 65536) (hc : c < 65536) (hx : x < 65536) (hy : y < 65536) (hp : x * y = p) : p ≤ 4294836225 ∧ z + p + c < 4294967296 ∧ (z + p + c) / 65536 < 65536 := by
 have : x * y ≤ 65535 * 65535 := Nat.mul_le_mul (by omega) (by omega)
 omega
theorem xK (x y0 y1 y2 y3 : Nat) : x * (y0 + 65536 * (y1 + 65536 * (y2 + 65536 * y3))) = x * y0 + 65536 * (x * y1 + 65536 * (x * y2 + 65536 * (x * y3))) := by
 simp only [Nat.mul_add, Nat.mul_left_comm x 65536]
theorem bCz (x0 x1 x2 x3 Y : Nat) : (x0 + 65536 * (x1 + 65536 * (x2 + 65536 * x3))) * Y = x0 * Y + 65536 * (x1 * Y + 65536 * (x2 * Y + 65536 * (x3 * Y))) := by
 simp only [Nat.add_mul, Nat.mul_assoc]
theorem bIg {x0 x1 x2 x3 y0 y1 y2 y3 a0 a1 a2 a3 b0 b1 b2 b3 c0 c1 c2 c3 d0 d1 d2 d3 : Nat}
  (ha0 : a0 = 0 + x0 * y0 + 0) (ha1 : a1 = 0 + x0 * y1 + a0 / 65536) (ha2 : a2 = 0 + x0 * y2 + a1 / 65536) (ha3 : a3 = 0 + x0 * y3 + a2 / 65536)
  (hb0 : b0 = a1 % 65536 + x1 * y0 + 0) (hb1 : b1 = a2 % 65536 + x1 * y1 + b0 / 65536) (hb2 : b2 = a3 % 65536 + x1 * y2 + b1 / 65536) (hb3 : b3 = a3 / 65536 + x1 * y3 + b2 / 65536)
  (hc0 : c0 = b1 % 65536 + x2 * y0 + 0) (hc1 : c1 = b2 % 65536 + x2 * y1 + c0 / 65536) (hc2 : c2 = b3 % 65536 + x2 * y2 + c1 / 65536) (hc3 : c3 = b3 / 65536 + x2 * y3 + c2 / 65536)
  (hd0 : d0 = c1 % 65536 + x3 * y0 + 0) (hd1 : d1 = c2 % 65536 + x3 * y1 + d0 / 65536) (hd2 : d2 = c3 % 65536 + x3 * y2 + d1 / 65536) (hd3 : d3 = c3 / 65536 + x3 * y3 + d2 / 65536) :
  tX [a0 % 65536, b0 % 65536, c0 % 65536, d0 % 65536, d1 % 65536, d2 % 65536, d3 % 65536, d3 / 65536] = (x0 + 65536 * (x1 + 65536 * (x2 + 65536 * x3))) * (y0 + 65536 * (y1 + 65536 * (y2 + 65536 * y3))) := by
 have ra := aCe ha0 ha1 ha2 ha3
 have rb := aCe hb0 hb1 hb2 hb3
 have rc := aCe hc0 hc1 hc2 hc3
 have rd := aCe hd0 hd1 hd2 hd3
 rw [bCz, xK x0, xK x1, xK x2, xK x3]
 simp only [tX, Nat.mul_zero, Nat.add_zero]
 clear ha0 ha1 ha2 ha3 hb0 hb1 hb2 hb3 hc0 hc1 hc2 hc3 hd0 hd1 hd2 hd3
 generalize x0 * y0 + 65536 * (x0 * y1 + 65536 * (x0 * y2 + 65536 * (x0 * y3))) = A at *
 generalize x1 * y0 + 65536 * (x1 * y1 + 65536 * (x1 * y2 + 65536 * (x1 * y3))) = B at *
 generalize x2 * y0 + 65536 * (x2 * y1 + 65536 * (x2 * y2 + 65536 * (x2 * y3))) = C at *
 generalize x3 * y0 + 65536 * (x3 * y1 + 65536 * (x3 * y2 + 65536 * (x3 * y3))) = D at *
 omega
theorem aMq : ∀ (l : List Nat) (j : Nat) (d : Nat), (∀ x ∈ l, x < 65536) → l[j]? = some d → tX l / 65536 ^ j % 65536 = d
 | [], j, d, _, h => by simp at h
 | x :: l, 0, d, hd, h => by
  simp only [List.getElem?_cons_zero, Option.some.injEq] at h
  subst h
  have := hd x (by simp)
  simp only [tX, Nat.pow_zero, Nat.div_one]
  omega
 | x :: l, j + 1, d, hd, h => by
  have ih := aMq l j d (fun y hy => hd y (by simp [hy])) (by simpa using h)
  have hx := hd x (by simp)
  rw [Nat.pow_succ, Nat.mul_comm, ← Nat.div_div_eq_div_mul]
  simp only [tX]
  rw [show (x + 65536 * tX l) / 65536 = tX l by omega]
  exact ih
theorem bLv (x i j s d : Nat) (hi : i = 16 * j + s) (hs : s < 16) (hd : x / 65536 ^ j % 65536 = d) : d / 2 ^ s % 2 = x / 2 ^ i % 2 := by
 subst hd
 have e : (65536 : Nat) ^ j = 2 ^ (16 * j) := by rw [Nat.pow_mul]
 rw [e]
 have h1 : (x / 2 ^ (16 * j) % 2 ^ 16) / 2 ^ s % 2 = x / 2 ^ (16 * j) / 2 ^ s % 2 := by
  rw [show (2 : Nat) ^ 16 = 2 ^ s * 2 ^ (16 - s) by rw [← Nat.pow_add]; congr 1; omega, Nat.mod_mul_right_div_self]
  exact Nat.mod_mod_of_dvd _ ⟨2 ^ (16 - s - 1), by rw [← Nat.pow_succ']; congr 1; omega⟩
 rw [show (65536 : Nat) = 2 ^ 16 by decide, h1, Nat.div_div_eq_div_mul, ← Nat.pow_add, hi]
structure Lb (X d i q r : Nat) : Prop where
 q : q = X / 2 ^ i / d
 r : r = X / 2 ^ i % d
theorem bBo (X i : Nat) : X / 2 ^ i = 2 * (X / 2 ^ (i + 1)) + X / 2 ^ i % 2 := by
 rw [Nat.pow_succ, ← Nat.div_div_eq_div_mul]; omega
theorem bIt {X d i q r b : Nat} (hd : 0 < d) (h : Lb X d (i + 1) q r) (hb : X / 2 ^ i % 2 = b) : r < d ∧ b < 2 ∧ 2 * q ≤ X / 2 ^ i / d ∧ (d ≤ 2 * r + b → Lb X d i (2 * q + 1) (2 * r + b - d)) ∧ (¬ d ≤ 2 * r + b → Lb X d i (2 * q) (2 * r + b)) := by
 have hp := bBo X i
 rw [hb] at hp
 have hr : r < d := by rw [h.r]; exact Nat.mod_lt _ hd
 have hb2 : b < 2 := by omega
 have e := Nat.div_add_mod (X / 2 ^ (i + 1)) d
 rw [← h.q, ← h.r] at e
 have hP : X / 2 ^ i = d * (2 * q) + (2 * r + b) := by rw [Nat.mul_left_comm]; omega
 refine ⟨hr, hb2, ?_, fun hc => ?_, fun hc => ?_⟩
 ·rw [Nat.le_div_iff_mul_le hd, hP, Nat.mul_comm]; omega
 ·have e2 : X / 2 ^ i = (2 * r + b - d) + d * (2 * q + 1) := by rw [hP, Nat.mul_add d]; omega
  exact ⟨by rw [e2, Nat.add_mul_div_left _ _ hd, Nat.div_eq_of_lt (by omega), Nat.zero_add], by rw [e2, Nat.add_mul_mod_self_left, Nat.mod_eq_of_lt (by omega)]⟩
 ·have e2 : X / 2 ^ i = (2 * r + b) + d * (2 * q) := by rw [hP]; omega
  exact ⟨by rw [e2, Nat.add_mul_div_left _ _ hd, Nat.div_eq_of_lt (by omega), Nat.zero_add], by rw [e2, Nat.add_mul_mod_self_left, Nat.mod_eq_of_lt (by omega)]⟩
theorem bGv {X d : Nat} (hd : 0 < d) (hX : X < 340282366920938463463374607431768211456) : Lb X d 128 0 0 := by
 have : X / 2 ^ 128 = 0 := Nat.div_eq_of_lt hX
 exact ⟨by rw [this, Nat.zero_div], by rw [this, Nat.zero_mod]⟩
theorem bDh {X d i m : Nat} (h : X / d ≤ m) : X / 2 ^ i / d ≤ m := by
 refine Nat.le_trans (Nat.div_le_div_right (Nat.div_le_self _ _)) h
theorem bGx {X d q r : Nat} (h : Lb X d 0 q r) : q = X / d ∧ r = X % d := by
 have h1 := h.q; have h2 := h.r
 rw [Nat.pow_zero, Nat.div_one] at h1 h2
 exact ⟨h1, h2⟩
theorem yT : ∀ (l : List Con) (b : Con), b.depth ≤ (tM b l).depth ∧ ∀ c ∈ l, c.depth ≤ (tM b l).depth
 | [], b => ⟨Int.le_refl _, by simp⟩
 | x :: l, b => by
  have ih := yT l (if b.depth < x.depth then x else b)
  have e : tM b (x :: l) = tM (if b.depth < x.depth then x else b) l := rfl
  rw [e]
  by_cases hx : b.depth < x.depth
  ·rw [if_pos hx] at ih ⊢
   refine ⟨by omega, fun c hc => ?_⟩
   rcases List.mem_cons.1 hc with rfl | hc
   ·exact ih.1
   ·exact ih.2 c hc
  ·rw [if_neg hx] at ih ⊢
   refine ⟨ih.1, fun c hc => ?_⟩
   rcases List.mem_cons.1 hc with rfl | hc
   ·omega
   ·exact ih.2 c hc
theorem aMb : ∀ (l : List Con) (b : Con), ∃ j : Nat, (b :: l)[j]? = some (tM b l) ∧ ∀ (i : Nat) (c : Con), i < j → (b :: l)[i]? = some c → c.depth < (tM b l).depth
 | [], b => ⟨0, rfl, fun i c h => by omega⟩
 | x :: l, b => by
  have e : tM b (x :: l) = tM (if b.depth < x.depth then x else b) l := rfl
  obtain ⟨j, h1, h2⟩ := aMb l (if b.depth < x.depth then x else b)
  have hm := yT l (if b.depth < x.depth then x else b)
  rw [e]
  by_cases hc : b.depth < x.depth
  ·rw [if_pos hc] at h1 h2 hm ⊢
   refine ⟨j + 1, by simpa using h1, fun i c hi hci => ?_⟩
   cases i with
   | zero => simp only [List.getElem?_cons_zero, Option.some.injEq] at hci; subst hci; omega
   | succ i => exact h2 i c (by omega) (by simpa using hci)
  ·rw [if_neg hc] at h1 h2 hm ⊢
   cases j with
   | zero => exact ⟨0, by simpa using h1, fun i c h => by omega⟩
   | succ j =>
    have hb := h2 0 b (by omega) rfl
    refine ⟨j + 2, by simpa using h1, fun i c hi hci => ?_⟩
    match i, hci with
    | 0, hci => simp only [List.getElem?_cons_zero, Option.some.injEq] at hci; subst hci; exact hb
    | 1, hci => simp only [List.getElem?_cons_succ, List.getElem?_cons_zero, Option.some.injEq] at hci; subst hci; omega
    | i + 2, hci => exact h2 (i + 1) c (by omega) (by simpa using hci)
def bQa : Con := ⟨0, 0, 0, 0, 0⟩
theorem aXl {l : List Con} {d : Con} (hd : (bJd l).getD bQa = d) (hl : l ≠ []) : d ∈ l ∧ (∀ c ∈ l, c.depth ≤ d.depth) ∧ ∀ (i : Nat) (c : Con), l[i]? = some c → d ∉ l.take i → c.depth = d.depth → c = d := by
 cases l with
 | nil => exact absurd rfl hl
 | cons b l =>
  have hd' : tM b l = d := hd
  obtain ⟨j, h1, h2⟩ := aMb l b
  have hm := yT l b
  rw [hd'] at h1 h2 hm
  refine ⟨List.mem_of_getElem? h1, fun c hc => ?_, fun i c hi hn he => ?_⟩
  ·rcases List.mem_cons.1 hc with rfl | hc
   ·exact hm.1
   ·exact hm.2 c hc
  ·rcases Nat.lt_trichotomy i j with h | h | h
   ·have := h2 i c h hi; omega
   ·subst h; rw [hi] at h1; injection h1
   ·refine absurd (List.mem_of_getElem? (i := j) ?_) hn
    rw [List.getElem?_take, if_pos h]; exact h1
theorem bHa {n m : Nat} : (m * m ≤ n → m ≤ vA n) ∧ (¬ m * m ≤ n → vA n < m) := by
 have h := qG n
 refine ⟨fun hc => ?_, fun hc => aIe (by omega)⟩
 have := aIe (Nat.lt_of_le_of_lt hc h.2)
 omega
end Go.Bil
namespace Go.Bil
theorem bJp {m : Nat} (h : m < 18446744073709551616) : ∃ x0 x1 x2 x3 : Nat, bRb m = [x0, x1, x2, x3, 0, 0, 0, 0] ∧ x0 < 65536 ∧ x1 < 65536 ∧ x2 < 65536 ∧ x3 < 65536 ∧ x0 + 65536 * (x1 + 65536 * (x2 + 65536 * x3)) = m :=
 ⟨_, _, _, _, rfl, by omega, by omega, by omega, by omega, by omega⟩
theorem bKj {l : List Nat} (h : l.length = 8) : ∃ d0 d1 d2 d3 d4 d5 d6 d7, l = [d0, d1, d2, d3, d4, d5, d6, d7] := by
 rcases l with _ | ⟨a0, _ | ⟨a1, _ | ⟨a2, _ | ⟨a3, _ | ⟨a4, _ | ⟨a5, _ | ⟨a6, _ | ⟨a7, _ | ⟨a8, l⟩⟩⟩⟩⟩⟩⟩⟩⟩ <;> first | exact ⟨_, _, _, _, _, _, _, _, rfl⟩ | (simp at h)
theorem bGc {D : List Nat} {j d : Nat} (h : D[j]? = some d) : nth (D.map lI) (0 + j * 1) = some (.int .u64 (d : Int)) := by
 rw [mW, Nat.zero_add, Nat.mul_one]; exact aG lI h
theorem bSn (a b : Nat) (h : a ≤ 4611686018427387904) : IntKind.i64.wrap ((a : Int).tdiv (b : Int)) = ((a / b : Nat) : Int) := by
 have e : (a : Int).tdiv (b : Int) = ((a / b : Nat) : Int) := (Int.ofNat_tdiv a b).symm
 have hq := Nat.div_le_self a b
 rw [e]
 generalize a / b = c at *
 exact fH _ (by omega) (by omega)
theorem aYx (dx dy : Int) : len dx dy = 0 ↔ dx = 0 ∧ dy = 0 := by
 have h := qG (pP dx dy)
 unfold len
 constructor
 ·intro h0
  have h1 : vA (pP dx dy) = 0 := by omega
  rw [h1] at h
  have h2 : pP dx dy = 0 := by omega
  unfold pP at h2
  have a : dx.natAbs * dx.natAbs = 0 := by omega
  have b : dy.natAbs * dy.natAbs = 0 := by omega
  have a' := (Nat.mul_eq_zero.1 a).elim id id
  have b' := (Nat.mul_eq_zero.1 b).elim id id
  omega
 ·rintro ⟨rfl, rfl⟩
  rfl
def fV (z : Pt × Pt) : List Value := cI z.1 ++ cI z.2
theorem bIm (m : List (Pt × Pt)) : ∀ y ∈ m.map fV, y.length = 4 := by
 intro y hy
 obtain ⟨x, _, rfl⟩ := List.mem_map.1 hy
 rfl
def tC (l : List (Pt × Pt)) : Ch := l.foldl (fun s z => fS s z.1 z.2) ch0
theorem zW {l : List (Pt × Pt)} {k : Nat} {z : Pt × Pt} (h : l[k]? = some z) : tC (l.take (k + 1)) = fS (tC (l.take k)) z.1 z.2 := by
 unfold tC
 rw [cP h, List.foldl_append]; rfl
structure ChL (s : Ch) : Prop where
 i : ChI s
 l : s.2.2 = pP (s.2.1.1 - s.1.1) (s.2.1.2 - s.1.2)
theorem ChL.step {s : Ch} {x y : Pt} (h : ChL s) (hx : PtI x) (hy : PtI y) : ChL (fS s x y) := by
 refine ⟨h.i.step hx hy, ?_⟩
 unfold fS
 split
 ·rfl
 ·exact h.l
theorem aHy {x y : Pt} (hx : PtI x) (hy : PtI y) : tC [(x, y)] = (x, y, pP (y.1 - x.1) (y.2 - x.2)) ∧ ChL (tC [(x, y)]) := by
 have e : tC [(x, y)] = (x, y, pP (y.1 - x.1) (y.2 - x.2)) := wN hx hy
 rw [e]
 exact ⟨rfl, ⟨hx, hy, (rL (hx.inX hy) (hx.inY hy)).1⟩, rfl⟩
structure Btw (p q z : Pt) : Prop where
 x : min p.1 q.1 ≤ z.1 ∧ z.1 ≤ max p.1 q.1
 y : min p.2 q.2 ≤ z.2 ∧ z.2 ≤ max p.2 q.2
theorem pT {p q c : Pt} (h : SgI p q) : Btw p q (cB p q c) := by
 unfold cB
 split
 ·exact ⟨by omega, by omega⟩
 ·rename_i hd
  have hn := xA (c := c) h
  have hD := nK h
  have a := bIb (a := q.1 - p.1) hn.1 hn.2 (by omega)
  have b := bIb (a := q.2 - p.2) hn.1 hn.2 (by omega)
  generalize (q.1 - p.1) * pA p q c / mF p q = u at *
  generalize (q.2 - p.2) * pA p q c / mF p q = v at *
  refine ⟨?_, ?_⟩ <;> simp only <;> omega
theorem bJk (p q : Pt) : Btw p q p := ⟨by omega, by omega⟩
theorem bJq (p q : Pt) : Btw p q q := ⟨by omega, by omega⟩
theorem aQb {ap aq bp bq : Pt} (h1 : SgI ap aq) (h2 : SgI bp bq) : Btw ap aq (mS ap aq bp bq).1 ∧ Btw bp bq (mS ap aq bp bq).2.1 := by
 have st : ∀ (s : Ch) (x y : Pt), Btw ap aq s.1 ∧ Btw bp bq s.2.1 → Btw ap aq x → Btw bp bq y → Btw ap aq (fS s x y).1 ∧ Btw bp bq (fS s x y).2.1 := by
  intro s x y hs hx hy
  unfold fS
  split
  ·exact ⟨hx, hy⟩
  ·exact hs
 unfold mS
 refine st _ _ _ (st _ _ _ (st _ _ _ ?_ (bJq _ _) (pT h2)) (pT h1) (bJk _ _)) (pT h1) (bJq _ _)
 rw [wN h1.hp (eV h2)]
 exact ⟨bJk _ _, pT h2⟩
theorem wP {d : Int} {e r : Nat} (h : d.natAbs * d.natAbs + e < r * r) : d.natAbs < r := aIe (by omega)
theorem bKy {a b : Body} {s t : Pt} (ra : 0 < a.radius) (rb : 0 < b.radius) (x1 : a.px - max a.ax (-a.ax) ≤ s.1 ∧ s.1 ≤ a.px + max a.ax (-a.ax)) (y1 : a.py - max a.ay (-a.ay) ≤ s.2 ∧ s.2 ≤ a.py + max a.ay (-a.ay))
  (x2 : b.px - max b.ax (-b.ax) ≤ t.1 ∧ t.1 ≤ b.px + max b.ax (-b.ax)) (y2 : b.py - max b.ay (-b.ay) ≤ t.2 ∧ t.2 ≤ b.py + max b.ay (-b.ay)) (hx : (t.1 - s.1).natAbs < (a.radius + b.radius).natAbs) (hy : (t.2 - s.2).natAbs < (a.radius + b.radius).natAbs) : ovl (gJ a) (gJ b) := by
 simp only [ovl, gJ, jL, aQt, aPa]
 generalize max a.ax (-a.ax) = p at *
 generalize max a.ay (-a.ay) = q at *
 generalize max b.ax (-b.ax) = u at *
 generalize max b.ay (-b.ay) = v at *
 have hx' : -(a.radius + b.radius) < t.1 - s.1 ∧ t.1 - s.1 < a.radius + b.radius := by omega
 have hy' : -(a.radius + b.radius) < t.2 - s.2 ∧ t.2 - s.2 < a.radius + b.radius := by omega
 clear hx hy
 refine ⟨⟨?_, ?_⟩, ⟨?_, ?_⟩, ?_, ?_, ?_, ?_⟩ <;> omega
theorem aUc {b : Body} {z : Pt} (h : Btw (yY b) (yV b) z) : (b.px - max b.ax (-b.ax) ≤ z.1 ∧ z.1 ≤ b.px + max b.ax (-b.ax)) ∧ b.py - max b.ay (-b.ay) ≤ z.2 ∧ z.2 ≤ b.py + max b.ay (-b.ay) := by
 have hx := h.x
 have hy := h.y
 simp only [yY, yV] at hx hy
 omega
theorem bIe {a b : Body} (ha : Okb a) (hb : Okb b) (h : (jI a b).isSome = true) : ovl (gJ a) (gJ b) := by
 have w := aQb (pM ha) (pM hb)
 have hc : ¬ ((a.radius + b.radius).natAbs * (a.radius + b.radius).natAbs ≤ pP (pZ (oC a b)) (rE (oC a b))) := by
  intro hc
  unfold jI at h
  rw [if_pos hc] at h
  cases h
 clear h
 have hl : (pZ (oC a b)).natAbs * (pZ (oC a b)).natAbs + (rE (oC a b)).natAbs * (rE (oC a b)).natAbs < (a.radius + b.radius).natAbs * (a.radius + b.radius).natAbs := Nat.lt_of_not_le hc
 have hx : (pZ (oC a b)).natAbs < (a.radius + b.radius).natAbs := wP hl
 have hy : (rE (oC a b)).natAbs < (a.radius + b.radius).natAbs := wP (e := (pZ (oC a b)).natAbs * (pZ (oC a b)).natAbs) (by rw [Nat.add_comm]; exact hl)
 have ra := ha.r
 have rb := hb.r
 have w1 := aUc w.1
 have w2 := aUc w.2
 exact bKy (by omega) (by omega) w1.1 w1.2 w2.1 w2.2 hx hy
theorem aRs {a b : Body} (ha : Okb a) (hb : Okb b) (hk : a.key < b.key) (h : ¬ ovl (gJ a) (gJ b)) : jY a b = none := by
 unfold jY
 rw [if_neg (by omega)]
 cases hc : jI a b with
 | none => rfl
 | some c => exact absurd (bIe ha hb (by rw [hc]; rfl)) h
def aQg (xs : List Body) (i : Nat) : List Con := (tQ xs i).filterMap (aBn (boM xs))
def aGl (xs : List Body) (i k : Nat) : List Con := (uZ xs i k).filterMap (aBn (boM xs))
theorem uP {xs : List Body} (hs : cW xs) (hb : ∀ b ∈ xs, Okb b) {i k : Nat} {a b : Body} (ha : xs[i]? = some a) (h : xs[k]? = some b) (hi : i + 1 ≤ k) : aGl xs i (k + 1) = aGl xs i k ++ (jY a b).toList := by
 have hk := fG hs (show i < k by omega) ha h
 unfold aGl
 by_cases ho : ovl (gJ a) (gJ b)
 ·rw [bEw ha h hi ho, List.filterMap_append]
  congr 1
  have e : aBn (boM xs) (a.key, b.key) = jY a b := sE (aCf hs (List.mem_of_getElem? ha)) (aCf hs (List.mem_of_getElem? h))
  cases hc : jY a b <;> simp [e, hc]
 ·rw [bFp ha h hi ho, aRs (hb a (List.mem_of_getElem? ha)) (hb b (List.mem_of_getElem? h)) hk ho]
  simp
theorem aPw (xs : List Body) (i : Nat) : aGl xs i (i + 1) = [] := by unfold aGl; rw [aQu]; rfl
theorem aXu (xs : List Body) (i : Nat) : aQg xs (i + 1) = aQg xs i ++ aGl xs i xs.length := by unfold aQg aGl; rw [vQ, List.filterMap_append]
theorem bCs (xs : List Body) (i : Nat) : (aQg xs i).length ≤ i * xs.length := Nat.le_trans (List.length_filterMap_le _ _) (zE xs i)
theorem bAb (xs : List Body) (i k : Nat) : (aGl xs i k).length ≤ xs.length := Nat.le_trans (List.length_filterMap_le _ _) (aMe xs i k)
end Go.Bil
namespace Go.Bil
theorem bEr {a : Int} {m z q r : Nat} (hq : a.natAbs * m / z = q) (hr : a.natAbs * m % z = r) (hz : 0 < (z : Int)) :
  (if decide (a < 0) = true then (if 0 < r then -(q : Int) - 1 else -(q : Int)) else (q : Int)) = a * (m : Int) / (z : Int) := by
 by_cases ha : a < 0
 ·rw [if_pos (decide_eq_true ha), aJq ha (by omega), hq, hr]
  by_cases h0 : r = 0
  ·rw [if_neg (by omega), if_pos h0]
  ·rw [if_pos (by omega), if_neg h0]
 ·rw [if_neg (by simpa using ha), ← aKj (by omega), hq]
theorem aPl {ap aq bp bq : Pt} (h1 : SgI ap aq) (h2 : SgI bp bq) : ∀ z ∈ ([(ap, cB bp bq ap), (aq, cB bp bq aq), (cB ap aq bp, bp), (cB ap aq bq, bq)] : List (Pt × Pt)), PtI z.1 ∧ PtI z.2 := by
 intro z hz
 simp only [List.mem_cons, List.not_mem_nil, or_false] at hz
 rcases hz with rfl | rfl | rfl | rfl
 ·exact ⟨h1.hp, eV h2⟩
 ·exact ⟨h1.hq, eV h2⟩
 ·exact ⟨eV h1, h2.hp⟩
 ·exact ⟨eV h1, h2.hq⟩
end Go.Bil
namespace Go.Bil
theorem lB (a b : Nat) (h : a + b < 18446744073709551616) : IntKind.wrap .u64 ((a : Int) + (b : Int)) = ((a + b : Nat) : Int) := by rw [gB]; omega
theorem fW {z c x y : Nat} (hz : z < 65536) (hc : c < 65536) (hx : x < 65536) (hy : y < 65536) : ∃ t, t = z + x * y + c ∧ x * y < 18446744073709551616 ∧ z + x * y < 18446744073709551616 ∧ z + x * y + c < 18446744073709551616 ∧ t < 18446744073709551616 ∧ t / 65536 < 65536 := by
 have := aZo hz hc hx hy rfl
 exact ⟨_, rfl, by omega, by omega, by omega, by omega, this.2.2⟩
end Go.Bil
namespace Go.Bil
theorem bSl {a0 a1 a2 a3 a4 a5 a6 a7 : Nat} (h0 : a0 < 65536) (h1 : a1 < 65536) (h2 : a2 < 65536) (h3 : a3 < 65536) (h4 : a4 < 65536) (h5 : a5 < 65536) (h6 : a6 < 65536) (h7 : a7 < 65536) : ∀ x ∈ [a0, a1, a2, a3, a4, a5, a6, a7], x < 65536 := by
 intro x hx
 simp only [List.mem_cons, List.not_mem_nil, or_false] at hx
 omega
end Go.Bil
namespace Go.Bil
structure BestC (ys : List Con) (i j : Nat) : Prop where
 lt : ys ≠ [] → j < ys.length
 z : i = 0 → j = 0
 ji : i ≠ 0 → j < i
 mx : ∀ (p : Nat) (x b : Con), p < i → ys[p]? = some x → ys[j]? = some b → x.depth ≤ b.depth ∧ (p < j → x.depth < b.depth)
theorem BestC.new {ys : List Con} {i j : Nat} {x b : Con} (h : BestC ys i j) (hx : ys[i]? = some x) (hb : ys[j]? = some b) (hc : x.depth > b.depth) : BestC ys (i + 1) i := by
 have hi := (List.getElem?_eq_some_iff.1 hx).1
 refine ⟨fun _ => hi, fun h => by omega, fun _ => by omega, fun p y c hp hy hcx => ?_⟩
 rw [hx] at hcx
 injection hcx with hcx
 subst hcx
 by_cases hpi : p = i
 ·subst hpi
  rw [hx] at hy
  injection hy with hy
  subst hy
  exact ⟨Int.le_refl _, fun h => by omega⟩
 ·have := (h.mx p y b (by omega) hy hb).1
  exact ⟨by omega, fun _ => by omega⟩
theorem BestC.old {ys : List Con} {i j : Nat} {x b : Con} (h : BestC ys i j) (hx : ys[i]? = some x) (hb : ys[j]? = some b) (hc : ¬ x.depth > b.depth) : BestC ys (i + 1) j := by
 refine ⟨h.lt, fun h => by omega, fun _ => ?_, fun p y c hp hy hcx => ?_⟩
 ·by_cases hi : i = 0
  ·have := h.z hi; omega
  ·have := h.ji hi; omega
 ·rw [hb] at hcx
  injection hcx with hcx
  subst hcx
  by_cases hpi : p = i
  ·subst hpi
   rw [hx] at hy
   injection hy with hy
   subst hy
   refine ⟨by omega, fun hpj => ?_⟩
   by_cases hi : p = 0
   ·have := h.z hi; omega
   ·have := h.ji hi; omega
  ·exact h.mx p y b (by omega) hy hb
theorem BestC.done {ys : List Con} {m j : Nat} {d : Con} (h : BestC ys m j) (hn : ys ≠ []) (hl : ys.length = m) (hd : (bJd ys).getD bQa = d) : ∃ x, ys[j]? = some x ∧ d = x := by
 have hj := h.lt hn
 refine ⟨ys[j], List.getElem?_eq_getElem hj, ?_⟩
 have hg := List.getElem?_eq_getElem hj
 obtain ⟨h1, h2, h3⟩ := aXl hd hn
 obtain ⟨p, hp⟩ := List.getElem?_of_mem h1
 have hpl := (List.getElem?_eq_some_iff.1 hp).1
 have e1 := (h.mx p d _ (by omega) hp hg).1
 have e2 := h2 _ (List.getElem_mem hj)
 refine (h3 j _ hg ?_ (by omega)).symm
 intro hm
 obtain ⟨q, hq⟩ := List.getElem?_of_mem hm
 rw [List.getElem?_take] at hq
 split at hq
 ·have := (h.mx q d _ (by omega) hq hg).2 (by omega)
  omega
 ·cases hq
theorem bGm {xs : List Body} (hs : cW xs) {c : Con} (h : c ∈ kL xs) : ∃ a b, a ∈ xs ∧ b ∈ xs ∧ a.key < b.key ∧ jY a b = some c ∧ c.low = a.key ∧ c.high = b.key := by
 obtain ⟨z, hz, hc⟩ := List.mem_filterMap.1 h
 obtain ⟨a, b, ha, hb, hk, rfl, h1, h2⟩ := aAy hs hz
 rw [sE h1 h2] at hc
 have := aVm hk hc
 exact ⟨a, b, ha, hb, hk, hc, this.1, this.2⟩
end Go.Bil

namespace Go.Bil
def bQt (a : Bx) : Prop := a = jO ∨ (a.x0 ≤ a.x1 ∧ a.y0 ≤ a.y1)
structure Meas where
 nb : Int
 ns : Int
 sp : Nat
 sx : Int
 sy : Int
 bx : Bx
 ov : Int
deriving DecidableEq
structure OkM (k : Nat) (m : Meas) : Prop where
 g : bQt m.bx
 x : m.bx = jO ∨ Okx m.bx
 nb : 0 ≤ m.nb ∧ m.nb ≤ k
 ns : 0 ≤ m.ns ∧ m.ns ≤ m.nb
 sp : m.sp < 18446744073709551616
 sx : -(16777216 * (k : Int)) ≤ m.sx ∧ m.sx ≤ 16777216 * k
 sy : -(16777216 * (k : Int)) ≤ m.sy ∧ m.sy ≤ 16777216 * k
 ov : -(2147483648 * ((k : Int) * k)) ≤ m.ov ∧ m.ov ≤ 2147483648 * ((k : Int) * k)
theorem OkM.mono {j k : Nat} {a : Meas} (h : OkM j a) (hjk : j ≤ k) : OkM k a := by
 have n1 := h.nb; have x1 := h.sx; have y1 := h.sy; have o1 := h.ov
 have hsq : (j : Int) * j ≤ (k : Int) * k := Int.mul_le_mul (by omega) (by omega) (by omega) (by omega)
 refine ⟨h.g, h.x, by omega, h.ns, h.sp, by omega, by omega, ?_⟩
 generalize (j : Int) * j = J at *
 generalize (k : Int) * k = K at *
 omega
theorem aUi {xs : List Body} : (kL xs).length ≤ xs.length * xs.length := Nat.le_trans (aDj xs) (zE xs xs.length)
end Go.Bil

namespace Go.Bil
end Go.Bil

namespace Go.Bil
end Go.Bil
namespace Go.Bil
structure RightOne (xs : List Body) (c : Con) : Prop where
 ne : ¬ c.low = c.high
 l : 0 ≤ dI c.low xs
 h : 0 ≤ dI c.high xs
instance (xs : List Body) (c : Con) : Decidable (RightOne xs c) := decidable_of_iff (¬ c.low = c.high ∧ 0 ≤ dI c.low xs ∧ 0 ≤ dI c.high xs) ⟨fun h => ⟨h.1, h.2.1, h.2.2⟩, fun h => ⟨h.1, h.2, h.3⟩⟩
end Go.Bil
namespace Go.Bil
theorem bGf {xs : List Body} {i : Nat} {b : Body} (h : xs[i]? = some b) : xs.getD i default = b := by rw [List.getD_eq_getElem?_getD, h]; rfl
end Go.Bil
namespace Go.Bil
theorem tZ {xs : List Body} {k : Int} (h : 0 ≤ dI k xs) : ∃ (p : Nat) (x : Body), xs[p]? = some x ∧ x.key = k ∧ dI k xs = (p : Int) := (eJ k xs).elim (fun e => absurd e.1 (by omega)) id
end Go.Bil

namespace Go.Bil
def iS (n l : Int) : Int := max (-l) (min n l)
theorem eP (n : Int) {l : Int} (h : 0 ≤ l) : -l ≤ iS n l ∧ iS n l ≤ l := by unfold iS; omega
theorem aZn {dx dy : Int} (hx : vI dx) (hy : vI dy) : (-65536 ≤ (mI dx dy).1 ∧ (mI dx dy).1 ≤ 65536) ∧ (-65536 ≤ (mI dx dy).2 ∧ (mI dx dy).2 ≤ 65536) := by
 have hl := vV hx hy
 unfold mI
 by_cases h0 : len dx dy = 0
 ·rw [if_pos h0]; decide
 ·rw [if_neg h0]
  have hs := (qG (pP dx dy)).2
  have hle : ∀ a : Nat, a * a ≤ pP dx dy → a ≤ vA (pP dx dy) := fun a ha => by
   by_cases g : a ≤ vA (pP dx dy)
   ·exact g
   ·have := Nat.mul_le_mul (show vA (pP dx dy) + 1 ≤ a by omega) (show vA (pP dx dy) + 1 ≤ a by omega); omega
  have h1 := hle dx.natAbs (by unfold pP; omega)
  have h2 := hle dy.natAbs (by unfold pP; omega)
  have hp : 0 < len dx dy := by omega
  have key : ∀ d : Int, d.natAbs ≤ vA (pP dx dy) → -65536 ≤ d * 65536 / len dx dy ∧ d * 65536 / len dx dy ≤ 65536 := fun d hd => by
   have hd' : -(len dx dy) ≤ d ∧ d ≤ len dx dy := by unfold len; omega
   exact ⟨Int.le_ediv_of_mul_le hp (by omega), Int.ediv_le_of_le_mul hp (by omega)⟩
  have k1 := key dx h1
  have k2 := key dy h2
  rw [iW _ (by omega) (by omega), iW _ (by omega) (by omega)]
  exact ⟨k1, k2⟩
structure Okn (c : Con) : Prop where
 x : -65536 ≤ c.nx ∧ c.nx ≤ 65536
 y : -65536 ≤ c.ny ∧ c.ny ≤ 65536
 d : -2147483648 ≤ c.depth ∧ c.depth ≤ 2147483647
theorem aPi {a b : Body} {c : Con} (ha : Okb a) (hb : Okb b) (h : jI a b = some c) : Okn c := by
 have hw : ∀ x : Int, -2147483648 ≤ IntKind.wrap .i32 x ∧ IntKind.wrap .i32 x ≤ 2147483647 := fun x => by
  simp only [IntKind.wrap, IntKind.bits, IntKind.signed, Bool.true_and, decide_eq_true_eq, ge_iff_le]; split <;> omega
 have hd := bEf ha hb
 have hu := aZn hd.1 hd.2
 unfold jI at h
 split at h
 ·cases h
 ·injection h with h
  revert hu h
  generalize mI (pZ (oC a b)) (rE (oC a b)) = u
  generalize a.radius + b.radius - len (pZ (oC a b)) (rE (oC a b)) = q
  intro hu h
  subst h
  exact Okn.mk hu.1 hu.2 (hw q)
structure OkC (xs : List Body) (c : Con) : Prop where
 ne : c.low < c.high
 l : 0 ≤ dI c.low xs
 h : 0 ≤ dI c.high xs
 n : Okn c
theorem aOl {xs : List Body} {b : Body} (hb : b ∈ xs) : 0 ≤ dI b.key xs := by
 rcases eJ b.key xs with ⟨_, g⟩ | ⟨i, y, _, _, g⟩
 ·exact absurd rfl (g b hb)
 ·omega
theorem qL {xs : List Body} (hs : cW xs) (hb : ∀ b ∈ xs, Okb b) : ∀ c ∈ kL xs, OkC xs c := fun c hc => by
 obtain ⟨a, b, ha, hb', hk, h, e1, e2⟩ := bGm hs hc
 have h' := h
 unfold jY at h'
 rw [if_neg (by omega)] at h'
 exact ⟨by omega, by rw [e1]; exact aOl ha, by rw [e2]; exact aOl hb', aPi (hb a ha) (hb b hb') h'⟩
def wE (c : Con) (a b : Body) : Int := ((b.vx - a.vx) * c.nx + (b.vy - a.vy) * c.ny) / 65536
def kP (c : Con) (a b : Body) : Int := if 0 ≤ wE c a b ∨ a.mass + b.mass = 0 then 0 else -wE c a b * (65536 + max a.bounce b.bounce) / (a.mass + b.mass)
def nG (j m n : Int) : Int := j * m / 65536 * n / 65536
theorem yE {c : Con} {a b : Body} (hc : Okn c) (ha : Okb a) (hb : Okb b) : (-2199023255552 ≤ (b.vx - a.vx) * c.nx ∧ (b.vx - a.vx) * c.nx ≤ 2199023255552) ∧ (-2199023255552 ≤ (b.vy - a.vy) * c.ny ∧ (b.vy - a.vy) * c.ny ≤ 2199023255552) ∧ -67108864 ≤ wE c a b ∧ wE c a b ≤ 67108864 := by
 have h1 := ha.v; have h2 := hb.v; have h3 := hc.x; have h4 := hc.y
 have m1 := aDw (a := b.vx - a.vx) (b := c.nx) (A := 33554432) (B := 65536) (by omega) (by omega)
 have m2 := aDw (a := b.vy - a.vy) (b := c.ny) (A := 33554432) (B := 65536) (by omega) (by omega)
 unfold wE
 omega
theorem aDk {c : Con} {a b : Body} (hc : Okn c) (ha : Okb a) (hb : Okb b) (h : ¬ (0 ≤ wE c a b)) : 0 ≤ -wE c a b * (65536 + max a.bounce b.bounce) ∧ -wE c a b * (65536 + max a.bounce b.bounce) ≤ 8796093022208 := by
 have h1 := yE hc ha hb
 have h2 := ha.c; have h3 := hb.c
 have m := aDw (a := -wE c a b) (b := 65536 + max a.bounce b.bounce) (A := 67108864) (B := 131072) (by omega) (by omega)
 have n := Int.mul_nonneg (a := -wE c a b) (b := 65536 + max a.bounce b.bounce) (by omega) (by omega)
 omega
theorem aNl {x s m : Int} (hx : 0 ≤ x) (hs : 0 < s) (hm : 0 ≤ m ∧ m ≤ s) : 0 ≤ x / s ∧ x / s ≤ x ∧ 0 ≤ x / s * m ∧ x / s * m ≤ x := by
 have h0 : 0 ≤ x / s := Int.ediv_nonneg hx (by omega)
 have h1 : x / s * s ≤ x := Int.ediv_mul_le x (by omega)
 have h2 : x / s * m ≤ x / s * s := Int.mul_le_mul_of_nonneg_left hm.2 h0
 have h3 : x / s * 1 ≤ x / s * s := Int.mul_le_mul_of_nonneg_left (by omega) h0
 have h4 : 0 ≤ x / s * m := Int.mul_nonneg h0 hm.1
 omega
theorem pS {c : Con} {a b : Body} (hc : Okn c) (ha : Okb a) (hb : Okb b) {m : Int} (hm : 0 ≤ m ∧ m ≤ a.mass + b.mass) : 0 ≤ kP c a b ∧ kP c a b ≤ 8796093022208 ∧ 0 ≤ kP c a b * m ∧ kP c a b * m ≤ 8796093022208 := by
 have h2 := ha.m; have h3 := hb.m
 unfold kP
 split
 ·simp
 ·rename_i h
  have hp := aDk hc ha hb (fun g => h (.inl g))
  have hd := aNl hp.1 (s := a.mass + b.mass) (by omega) hm
  omega
theorem kK {j m n : Int} (h : 0 ≤ j * m ∧ j * m ≤ 8796093022208) (hn : -65536 ≤ n ∧ n ≤ 65536) : (0 ≤ j * m / 65536 ∧ j * m / 65536 ≤ 134217728) ∧ (-8796093022208 ≤ j * m / 65536 * n ∧ j * m / 65536 * n ≤ 8796093022208) ∧ -134217728 ≤ nG j m n ∧ nG j m n ≤ 134217728 := by
 have hk : 0 ≤ j * m / 65536 ∧ j * m / 65536 ≤ 134217728 := by omega
 have m1 := aDw (a := j * m / 65536) (b := n) (A := 134217728) (B := 65536) (by omega) (by omega)
 unfold nG
 generalize j * m / 65536 = k at *
 omega
def bdy (xs : List Body) (k : Int) : Body := xs.getD (dI k xs).toNat default
theorem zM {xs : List Body} {k : Int} {p : Nat} {x : Body} (hx : xs[p]? = some x) (hp : dI k xs = (p : Int)) : bdy xs k = x := by
 unfold bdy
 rw [hp, Int.toNat_natCast, bGf hx]
theorem aBw {xs : List Body} {k : Int} (h : 0 ≤ dI k xs) : bdy xs k ∈ xs ∧ (bdy xs k).key = k := by
 obtain ⟨p, x, hx, hk, hf⟩ := tZ h
 rw [zM hx hf]
 exact ⟨List.mem_of_getElem? hx, hk⟩
def jV (xs : List Body) (c : Con) : Int := kP c (bdy xs c.low) (bdy xs c.high)
def ctr (xs : List Body) (g : Con → Int) (c : Con) (b : Body) : Int := if c.low = b.key then -nG (jV xs c) b.mass (g c) else if c.high = b.key then nG (jV xs c) b.mass (g c) else 0
def gW (xs : List Body) (cs : List Con) (g : Con → Int) (b : Body) : Int := (cs.map (fun c => ctr xs g c b)).sum
theorem jU {xs : List Body} {cs : List Con} {k : Nat} {c : Con} (h : cs[k]? = some c) (g : Con → Int) (b : Body) : gW xs (cs.take (k + 1)) g b = gW xs (cs.take k) g b + ctr xs g c b := by
 unfold gW
 rw [cP h, List.map_append, List.sum_append]
 simp
theorem aIa (xs : List Body) (cs : List Con) (g : Con → Int) (b : Body) : gW xs (cs.take 0) g b = 0 := by simp [gW]
theorem bFi {xs : List Body} {c : Con} {g : Con → Int} {b : Body} (hs : cW xs) (hx : ∀ b ∈ xs, Okb b) (hc : OkC xs c) (hg : -65536 ≤ g c ∧ g c ≤ 65536) (hb : b ∈ xs) : -134217728 ≤ ctr xs g c b ∧ ctr xs g c b ≤ 134217728 := by
 obtain ⟨l1, l2⟩ := aBw hc.l
 obtain ⟨h1, h2⟩ := aBw hc.h
 have ma := (hx _ l1).m; have mb := (hx _ h1).m
 unfold ctr
 split
 ·rename_i e
  have : bdy xs c.low = b := lN hs l1 hb (by rw [l2, e])
  have hr := pS hc.n (hx _ l1) (hx _ h1) (m := b.mass) (by rw [← this]; omega)
  have := (kK hr.2.2 hg).2.2
  unfold jV
  omega
 ·split
  ·rename_i e
   have : bdy xs c.high = b := lN hs h1 hb (by rw [h2, e])
   have hr := pS hc.n (hx _ l1) (hx _ h1) (m := b.mass) (by rw [← this]; omega)
   have := (kK hr.2.2 hg).2.2
   unfold jV
   omega
  ·omega
theorem aTp {cs : List Con} {f : Con → Int} {B : Int} (hB : 0 ≤ B) (h : ∀ c ∈ cs, -B ≤ f c ∧ f c ≤ B) : -(cs.length * B) ≤ (cs.map f).sum ∧ (cs.map f).sum ≤ cs.length * B := by
 induction cs with
 | nil => simp
 | cons c cs ih =>
  have h0 := h c (by simp)
  have h1 := ih (fun d hd => h d (by simp [hd]))
  rw [List.map_cons, List.sum_cons, List.length_cons, Int.natCast_add, Int.add_mul]
  omega
theorem sY {xs : List Body} {cs : List Con} {g : Con → Int} {b : Body} (hs : cW xs) (hx : ∀ b ∈ xs, Okb b) (hc : ∀ c ∈ cs, OkC xs c) (hg : ∀ c ∈ cs, -65536 ≤ g c ∧ g c ≤ 65536) (hb : b ∈ xs) : -(cs.length * 134217728) ≤ gW xs cs g b ∧ gW xs cs g b ≤ cs.length * 134217728 :=
 aTp (by decide) (fun c h => bFi hs hx (hc c h) (hg c h) hb)
def vX (xs : List Body) (cs : List Con) (b : Body) : Body := { b with vx := iS (b.vx + gW xs cs (·.nx) b) 16777216, vy := iS (b.vy + gW xs cs (·.ny) b) 16777216 }
def aPn (xs : List Body) (cs : List Con) (b : Body) : Bool := decide (iS (b.vx + gW xs cs (·.nx) b) 16777216 ≠ b.vx + gW xs cs (·.nx) b) || decide (iS (b.vy + gW xs cs (·.ny) b) 16777216 ≠ b.vy + gW xs cs (·.ny) b)
def aEp (xs : List Body) (cs : List Con) : List Body := xs.map (vX xs cs)
def aRo (xs : List Body) (cs : List Con) : Bool := xs.any (aPn xs cs)
def gR (xs : List Body) (cs : List Con) : Nat → List Body × Bool
 | 0 => (xs, false)
 | k + 1 => (aEp (gR xs cs k).1 cs, (gR xs cs k).2 || aRo (gR xs cs k).1 cs)
structure SameB (a b : Body) : Prop where
 key : a.key = b.key
 radius : a.radius = b.radius
 ax : a.ax = b.ax
 ay : a.ay = b.ay
 mass : a.mass = b.mass
 bounce : a.bounce = b.bounce
structure Like (xs ys : List Body) : Prop where
 len : ys.length = xs.length
 at_ : ∀ (i : Nat) (x y : Body), xs[i]? = some x → ys[i]? = some y → SameB y x
theorem Like.refl (xs : List Body) : Like xs xs := ⟨rfl, fun i x y h1 h2 => by rw [h1] at h2; injection h2 with h2; subst h2; exact ⟨rfl, rfl, rfl, rfl, rfl, rfl⟩⟩
theorem Like.trans {xs ys zs : List Body} (h : Like xs ys) (g : Like ys zs) : Like xs zs := ⟨by rw [g.len, h.len], fun i x z hx hz => by
 have hi := (List.getElem?_eq_some_iff.1 hx).1
 have hy : ys[i]? = some (ys[i]'(by rw [h.len]; exact hi)) := List.getElem?_eq_getElem _
 have a := h.at_ i x _ hx hy
 have b := g.at_ i _ z hy hz
 exact ⟨b.key.trans a.key, b.radius.trans a.radius, b.ax.trans a.ax, b.ay.trans a.ay, b.mass.trans a.mass, b.bounce.trans a.bounce⟩⟩
theorem Like.map {xs : List Body} {f : Body → Body} (h : ∀ b ∈ xs, SameB (f b) b) : Like xs (xs.map f) := ⟨by simp, fun i x y hx hy => by
 rw [List.getElem?_map, hx] at hy
 injection hy with hy
 subst hy
 exact h x (List.mem_of_getElem? hx)⟩
theorem Like.keys {xs ys : List Body} (h : Like xs ys) : ys.map (·.key) = xs.map (·.key) := by
 apply List.ext_getElem?
 intro i
 rw [List.getElem?_map, List.getElem?_map]
 by_cases hi : i < xs.length
 ·have h1 : xs[i]? = some xs[i] := List.getElem?_eq_getElem hi
  have h2 : ys[i]? = some (ys[i]'(by rw [h.len]; exact hi)) := List.getElem?_eq_getElem _
  rw [h1, h2]
  exact congrArg some (h.at_ i _ _ h1 h2).key
 ·have hl := h.len
  rw [List.getElem?_eq_none (show ys.length ≤ i by omega), List.getElem?_eq_none (show xs.length ≤ i by omega)]
theorem Like.sorted {xs ys : List Body} (h : Like xs ys) (hs : cW xs) : cW ys := by
 have := h.keys
 unfold cW at *
 have h1 : (xs.map (·.key)).Pairwise (· < ·) := List.pairwise_map.2 hs
 rw [← this] at h1
 exact List.pairwise_map.1 h1
theorem Like.find {xs ys : List Body} (h : Like xs ys) (k : Int) : dI k ys = dI k xs := wD k h.keys
theorem Like.okc {xs ys : List Body} (h : Like xs ys) {c : Con} (hc : OkC xs c) : OkC ys c := ⟨hc.ne, by rw [h.find]; exact hc.l, by rw [h.find]; exact hc.h, hc.n⟩
theorem bBh (xs : List Body) (cs : List Con) : Like xs (aEp xs cs) := Like.map (fun b _ => ⟨rfl, rfl, rfl, rfl, rfl, rfl⟩)
theorem bOf {xs : List Body} {cs : List Con} (h : ∀ b ∈ xs, Okb b) : ∀ b ∈ aEp xs cs, Okb b := fun b hb => by
 obtain ⟨x, hx, rfl⟩ := List.mem_map.1 hb
 have := h x hx
 exact ⟨this.r, this.a, this.m, this.c, this.p, ⟨(eP _ (by decide)).1, (eP _ (by decide)).2, (eP _ (by decide)).1, (eP _ (by decide)).2⟩⟩
theorem iY (xs : List Body) (cs : List Con) : ∀ k, Like xs (gR xs cs k).1
 | 0 => Like.refl xs
 | k + 1 => (iY xs cs k).trans (bBh _ cs)
theorem qV {xs : List Body} {cs : List Con} (h : ∀ b ∈ xs, Okb b) : ∀ k, ∀ b ∈ (gR xs cs k).1, Okb b
 | 0 => h
 | k + 1 => bOf (qV h k)
def oD (b : Body) : Body := if b.mass = 0 then b else { b with vy := iS (b.vy - 1024) 16777216 }
def lR (b : Body) : Bool := decide (b.mass ≠ 0) && decide (iS (b.vy - 1024) 16777216 ≠ b.vy - 1024)
def pJ (xs : List Body) : List Body := xs.map oD
theorem aWv (b : Body) : SameB (oD b) b := by unfold oD; split <;> exact ⟨rfl, rfl, rfl, rfl, rfl, rfl⟩
theorem kQ (xs : List Body) : Like xs (pJ xs) := Like.map (fun b _ => aWv b)
theorem bAj {b : Body} (h : Okb b) : Okb (oD b) := by
 unfold oD
 split
 ·exact h
 ·exact ⟨h.r, h.a, h.m, h.c, h.p, ⟨h.v.1, h.v.2.1, (eP _ (by decide)).1, (eP _ (by decide)).2⟩⟩
theorem xQ {xs : List Body} (h : ∀ b ∈ xs, Okb b) : ∀ b ∈ pJ xs, Okb b := fun b hb => by
 obtain ⟨x, hx, rfl⟩ := List.mem_map.1 hb
 exact bAj (h x hx)
def oY (c : Con) (a b : Body) : Int := if c.depth - 1024 ≤ 0 ∨ (a.mass = 0 ∧ b.mass = 0) then 0 else (c.depth - 1024) * 26214 / 65536
def pY (c : Con) (a b : Body) (m : Int) : Int := oY c a b * m / max 1 (a.mass + b.mass)
theorem aCb {c : Con} {a b : Body} (hc : Okn c) : 0 ≤ oY c a b ∧ oY c a b ≤ 1073741824 := by
 have := hc.d
 unfold oY
 split <;> omega
theorem aSr {c : Con} {a b : Body} {m : Int} (hc : Okn c) (hm : 0 ≤ m ∧ m ≤ 1048576) : (0 ≤ oY c a b * m ∧ oY c a b * m ≤ 1125899906842624) ∧ 0 ≤ pY c a b m ∧ pY c a b m ≤ 1125899906842624 := by
 have h := aCb (a := a) (b := b) hc
 have m1 := aDw (a := oY c a b) (b := m) (A := 1073741824) (B := 1048576) (by omega) (by omega)
 have h0 := Int.mul_nonneg h.1 hm.1
 have hd := aNl h0 (s := max 1 (a.mass + b.mass)) (by omega) (m := 0) (by omega)
 unfold pY
 omega
theorem zI {c : Con} {a b : Body} {m : Int} (hc : Okn c) (hm : 0 ≤ m ∧ m ≤ a.mass + b.mass) : 0 ≤ pY c a b m ∧ pY c a b m ≤ 1073741824 := by
 have h := aCb (a := a) (b := b) hc
 have hs : m ≤ max 1 (a.mass + b.mass) := by omega
 have h1 : oY c a b * m ≤ oY c a b * max 1 (a.mass + b.mass) := Int.mul_le_mul_of_nonneg_left hs h.1
 have h2 : pY c a b m ≤ oY c a b := Int.ediv_le_of_le_mul (by omega) h1
 have h3 : 0 ≤ pY c a b m := Int.ediv_nonneg (Int.mul_nonneg h.1 hm.1) (by omega)
 omega
def uX (xs : List Body) (g : Con → Int) (c : Con) (b : Body) : Int := if c.low = b.key then -(pY c (bdy xs c.low) (bdy xs c.high) b.mass * g c / 65536) else if c.high = b.key then pY c (bdy xs c.low) (bdy xs c.high) b.mass * g c / 65536 else 0
def uY (xs : List Body) (cs : List Con) (g : Con → Int) (b : Body) : Int := (cs.map (fun c => uX xs g c b)).sum
theorem iN {xs : List Body} {cs : List Con} {k : Nat} {c : Con} (h : cs[k]? = some c) (g : Con → Int) (b : Body) : uY xs (cs.take (k + 1)) g b = uY xs (cs.take k) g b + uX xs g c b := by
 unfold uY
 rw [cP h, List.map_append, List.sum_append]
 simp
theorem uJ (xs : List Body) (cs : List Con) (g : Con → Int) (b : Body) : uY xs (cs.take 0) g b = 0 := by simp [uY]
theorem lS {s n : Int} (hs : 0 ≤ s ∧ s ≤ 1073741824) (hn : -65536 ≤ n ∧ n ≤ 65536) : (-70368744177664 ≤ s * n ∧ s * n ≤ 70368744177664) ∧ -1073741824 ≤ s * n / 65536 ∧ s * n / 65536 ≤ 1073741824 := by
 have m1 := aDw (a := s) (b := n) (A := 1073741824) (B := 65536) (by omega) (by omega)
 omega
theorem aZi {xs : List Body} {c : Con} {g : Con → Int} {b : Body} (hs : cW xs) (hx : ∀ b ∈ xs, Okb b) (hc : OkC xs c) (hg : -65536 ≤ g c ∧ g c ≤ 65536) (hb : b ∈ xs) : -1073741824 ≤ uX xs g c b ∧ uX xs g c b ≤ 1073741824 := by
 obtain ⟨l1, l2⟩ := aBw hc.l
 obtain ⟨h1, h2⟩ := aBw hc.h
 have ma := (hx _ l1).m; have mb := (hx _ h1).m
 unfold uX
 split
 ·rename_i e
  have : bdy xs c.low = b := lN hs l1 hb (by rw [l2, e])
  have hr := zI (c := c) (a := bdy xs c.low) (b := bdy xs c.high) (m := b.mass) hc.n (by rw [← this]; omega)
  have := (lS hr hg).2
  omega
 ·split
  ·rename_i e
   have : bdy xs c.high = b := lN hs h1 hb (by rw [h2, e])
   have hr := zI (c := c) (a := bdy xs c.low) (b := bdy xs c.high) (m := b.mass) hc.n (by rw [← this]; omega)
   have := (lS hr hg).2
   omega
  ·omega
theorem aLf {xs : List Body} {cs : List Con} {g : Con → Int} {b : Body} (hs : cW xs) (hx : ∀ b ∈ xs, Okb b) (hc : ∀ c ∈ cs, OkC xs c) (hg : ∀ c ∈ cs, -65536 ≤ g c ∧ g c ≤ 65536) (hb : b ∈ xs) : -(cs.length * 1073741824) ≤ uY xs cs g b ∧ uY xs cs g b ≤ cs.length * 1073741824 :=
 aTp (by decide) (fun c h => aZi hs hx (hc c h) (hg c h) hb)
def aFr (b : Body) (s : Int) : Int := b.px + s + b.vx / 64
def aGp (b : Body) (s : Int) : Int := b.py + s + b.vy / 64
def tB (b : Body) (sx sy : Int) : Body := { b with px := iS (aFr b sx) 1073741824, py := iS (aGp b sy) 1073741824 }
def aFy (b : Body) (sx sy : Int) : Bool := decide (iS (aFr b sx) 1073741824 ≠ aFr b sx) || decide (iS (aGp b sy) 1073741824 ≠ aGp b sy)
def aUu (xs : List Body) (cs : List Con) (ys : List Body) : List Body := ys.map (fun b => tB b (uY xs cs (·.nx) b) (uY xs cs (·.ny) b))
def aTg (xs : List Body) (cs : List Con) (ys : List Body) : Bool := ys.any (fun b => aFy b (uY xs cs (·.nx) b) (uY xs cs (·.ny) b))
theorem bAn (b : Body) (sx sy : Int) : SameB (tB b sx sy) b := ⟨rfl, rfl, rfl, rfl, rfl, rfl⟩
theorem aVn (xs : List Body) (cs : List Con) (ys : List Body) : Like ys (aUu xs cs ys) := Like.map (fun b _ => bAn b _ _)
theorem bIy {b : Body} (h : Okb b) (sx sy : Int) : Okb (tB b sx sy) := ⟨h.r, h.a, h.m, h.c, ⟨(eP _ (by decide)).1, (eP _ (by decide)).2, (eP _ (by decide)).1, (eP _ (by decide)).2⟩, h.v⟩
theorem bHk {xs : List Body} {cs : List Con} {ys : List Body} (h : ∀ b ∈ ys, Okb b) : ∀ b ∈ aUu xs cs ys, Okb b := fun b hb => by
 obtain ⟨x, hx, rfl⟩ := List.mem_map.1 hb
 exact bIy (h x hx) _ _
def lJ (xs : List Body) : List Body := (gR (pJ xs) (kL xs) 4).1
def pU (xs : List Body) : List Body := aUu xs (kL xs) (lJ xs)
def sJ (xs : List Body) : Bool := (xs.any lR || (gR (pJ xs) (kL xs) 4).2) || aTg xs (kL xs) (lJ xs)
theorem zK (xs : List Body) : Like xs (pU xs) := (kQ xs).trans ((iY _ _ 4).trans (aVn _ _ _))
theorem aTi {xs : List Body} (h : ∀ b ∈ xs, Okb b) : ∀ b ∈ pU xs, Okb b := bHk (qV (xQ h) 4)
end Go.Bil

namespace Go.Bil
structure Apart (xs : List Body) (cs : List Con) (k : Nat) (q : Int) : Prop where
 s : cW xs
 f : ∀ c ∈ cs, (c.low ≠ q ∧ 0 ≤ dI c.low xs) ∧ c.high ≠ q ∧ 0 ≤ dI c.high xs
 at_ : ∃ y, xs[k]? = some y ∧ y.key = q
theorem Apart.like {xs ys : List Body} {cs : List Con} {k : Nat} {q : Int} (h : Apart xs cs k q) (l : Like xs ys) : Apart ys cs k q := by
 refine ⟨l.sorted h.s, fun c hc => ?_, ?_⟩
 ·rw [l.find, l.find]; exact h.f c hc
 ·obtain ⟨y, hy, e⟩ := h.at_
  have hk := (List.getElem?_eq_some_iff.1 hy).1
  have h2 : ys[k]? = some (ys[k]'(by rw [l.len]; exact hk)) := List.getElem?_eq_getElem _
  exact ⟨_, h2, by rw [(l.at_ k _ _ hy h2).key, e]⟩
end Go.Bil

namespace Go.Bil
theorem uA {xs : List Body} {k : Int} (hs : cW xs) (h : 0 ≤ dI k xs) : ∃ (p : Nat) (x : Body), xs[p]? = some x ∧ x.key = k ∧ aAc k xs = p ∧ bdy xs k = x ∧ x ∈ xs := by
 obtain ⟨p, x, hp, hk, hf⟩ := tZ h
 subst hk
 exact ⟨p, x, hp, rfl, xW (by have := (List.getElem?_eq_some_iff.1 hp).1; omega) (fun j c hj hc => fG hs hj hc hp) (fun j c hj hc => by have := aAl hs hj hp hc; omega), zM hp hf, List.mem_of_getElem? hp⟩
theorem aLu {α : Type} {xs : List Body} (hs : cW xs) {pa pb : Nat} {xa xb : Body} (ha : xs[pa]? = some xa) (hb : xs[pb]? = some xb) (hne : xa.key < xb.key) {F G : Body → α} (h : ∀ b ∈ xs, b.key ≠ xa.key → b.key ≠ xb.key → G b = F b) : ((xs.map F).set pa (G xa)).set pb (G xb) = xs.map G := by
 apply List.ext_getElem?
 intro i
 have la := (List.getElem?_eq_some_iff.1 ha).1
 have lb := (List.getElem?_eq_some_iff.1 hb).1
 by_cases h1 : pb = i
 ·subst h1
  rw [List.getElem?_set_self (by simpa using lb), List.getElem?_map, hb]; rfl
 ·rw [List.getElem?_set_ne h1]
  by_cases h2 : pa = i
  ·subst h2
   rw [List.getElem?_set_self (by simpa using la), List.getElem?_map, ha]; rfl
  ·rw [List.getElem?_set_ne h2, List.getElem?_map, List.getElem?_map]
   cases hi : xs[i]? with
   | none => rfl
   | some b =>
    have e1 : b.key ≠ xa.key := by
     rcases Nat.lt_or_gt_of_ne h2 with g | g
     ·have := fG hs g ha hi; omega
     ·have := fG hs g hi ha; omega
    have e2 : b.key ≠ xb.key := by
     rcases Nat.lt_or_gt_of_ne h1 with g | g
     ·have := fG hs g hb hi; omega
     ·have := fG hs g hi hb; omega
    exact congrArg some (h b (List.mem_of_getElem? hi) e1 e2).symm
def aJx (xs : List Body) (g : Con → Int) (c : Con) (F : Body → Int) (b : Body) : Int := F b + ctr xs g c b
theorem aTn {xs : List Body} (hs : cW xs) {pa pb : Nat} {xa xb : Body} {c : Con} (ha : xs[pa]? = some xa) (hb : xs[pb]? = some xb) (ka : xa.key = c.low) (kb : xb.key = c.high) (hc : OkC xs c) (ba : bdy xs c.low = xa) (bb : bdy xs c.high = xb) (g : Con → Int) (F : Body → Int) :
  ((xs.map F).set pa (F xa - nG (kP c xa xb) xa.mass (g c))).set pb (F xb + nG (kP c xa xb) xb.mass (g c)) = xs.map (aJx xs g c F) := by
 have hne := hc.ne
 have e1 : aJx xs g c F xa = F xa - nG (kP c xa xb) xa.mass (g c) := by unfold aJx ctr jV; rw [if_pos ka.symm, ba, bb]; omega
 have e2 : aJx xs g c F xb = F xb + nG (kP c xa xb) xb.mass (g c) := by unfold aJx ctr jV; rw [if_neg (by omega), if_pos kb.symm, ba, bb]
 rw [← e1, ← e2]
 exact aLu hs ha hb (by omega) (fun b _ h1 h2 => by unfold aJx ctr; rw [if_neg (by omega), if_neg (by omega)]; omega)
theorem wB {α : Type} {l : List α} {i j : Nat} {x y : α} (h : l[j]? = some y) (hij : i ≠ j) : (l.set i x)[j]? = some y := by rw [List.getElem?_set_ne hij]; exact h
theorem aHw {xs : List Body} {cs : List Con} {k : Nat} {c : Con} (h : cs[k]? = some c) (g : Con → Int) : aJx xs g c (fun b => gW xs (cs.take k) g b) = fun b => gW xs (cs.take (k + 1)) g b := funext fun b => (jU h g b).symm
def dE (z : Int) : List Value := [.int .i64 z]
theorem bGr (k : Nat) : List.replicate k ([.int .i64 0] : List Value) = (List.replicate k (0 : Int)).map dE := by simp [dE]
theorem aUf {α β : Type} {l : List α} {n : Nat} (h : l.length = n) (z : β) : List.replicate n z = l.map (fun _ => z) := (List.eq_replicate_iff.2 ⟨by rw [List.length_map, h], fun b hb => by obtain ⟨_, _, e⟩ := List.mem_map.1 hb; exact e.symm⟩).symm
def cK (z : Int × Int) : List Value := [.int .i64 z.1, .int .i64 z.2]
theorem bGs (k : Nat) : List.replicate k ([.int .i64 0, .int .i64 0] : List Value) = (List.replicate k ((0, 0) : Int × Int)).map cK := by simp [cK]
def jT (xs : List Body) (cs : List Con) (b : Body) : Int × Int := (uY xs cs (·.nx) b, uY xs cs (·.ny) b)
def aRj (xs : List Body) (c : Con) (F : Body → Int × Int) (b : Body) : Int × Int := ((F b).1 + uX xs (·.nx) c b, (F b).2 + uX xs (·.ny) c b)
def aLv (s z : Int) (c : Con) (f : Int × Int) : Int × Int := (f.1 + z * (s * c.nx / 65536), f.2 + z * (s * c.ny / 65536))
theorem bGh {xs : List Body} (hs : cW xs) {pa pb : Nat} {xa xb : Body} {c : Con} (ha : xs[pa]? = some xa) (hb : xs[pb]? = some xb) (ka : xa.key = c.low) (kb : xb.key = c.high) (hc : OkC xs c) (ba : bdy xs c.low = xa) (bb : bdy xs c.high = xb) (F : Body → Int × Int) :
  ((xs.map F).set pa (aLv (pY c xa xb xa.mass) (-1) c (F xa))).set pb (aLv (pY c xa xb xb.mass) 1 c (F xb)) = xs.map (aRj xs c F) := by
 have hne := hc.ne
 have e1 : aRj xs c F xa = aLv (pY c xa xb xa.mass) (-1) c (F xa) := by unfold aRj uX aLv; rw [if_pos ka.symm, if_pos ka.symm, ba, bb]; apply Prod.ext <;> (try simp only) <;> omega
 have e2 : aRj xs c F xb = aLv (pY c xa xb xb.mass) 1 c (F xb) := by unfold aRj uX aLv; rw [if_neg (by omega), if_pos kb.symm, if_neg (by omega), if_pos kb.symm, ba, bb]; apply Prod.ext <;> (try simp only) <;> omega
 rw [← e1, ← e2]
 exact aLu hs ha hb (by omega) (fun b _ h1 h2 => by unfold aRj uX; rw [if_neg (by omega), if_neg (by omega), if_neg (by omega), if_neg (by omega)]; apply Prod.ext <;> (try simp only) <;> omega)
theorem aXk {xs : List Body} {cs : List Con} {k : Nat} {c : Con} (h : cs[k]? = some c) : aRj xs c (jT xs (cs.take k)) = jT xs (cs.take (k + 1)) := funext fun b => Prod.ext (iN h _ b).symm (iN h _ b).symm
theorem bC.awayB {w0 w : World} {X : List Nat} {S : List eZ} {T sz : Nat} {A : Option Addr} {n c : Nat} {ls : List (List Value)} {e : eZ} {b : Nat} {o : Obj} (h : bC T sz A n c ls e) (M : Mem w0 X S w) (i j : Nat) (hi : fT S i = some e) (hj : fT S j = some (some b, o)) (hij : Nat.beq i j = false) : 0 < n → ∀ q off, A = some ⟨q, off, none⟩ → q ∉ cE [(some b, o)] := by
 intro hn q off hA hq
 obtain ⟨b2, L, _, h1, h2, _⟩ := h.block hn
 rw [h1] at hA
 injection hA with hA
 injection hA with hA
 subst hA
 have hqb : b2 = b := by simpa [cE] using hq
 subst hqb
 rw [jC] at hi hj
 have ha := M.apart
 have hne : i ≠ j := fun g => by subst g; simp at hij
 have hli := (List.getElem?_eq_some_iff.1 hi).1
 have hlj := (List.getElem?_eq_some_iff.1 hj).1
 have key : ∀ (a b : Nat) (x y : eZ), a < b → S[a]? = some x → S[b]? = some y → x.1 = some b2 → y.1 = some b2 → False := fun p r x y hpr hx hy ex ey => by
  have e1 : S = S.take r ++ S.drop r := (List.take_append_drop r S).symm
  rw [e1, kF] at ha
  have m1 : b2 ∈ cE (S.take r) := iF.2 ⟨x.2, by rw [← ex]; exact List.mem_of_getElem? (by rw [List.getElem?_take_of_lt hpr]; exact hx)⟩
  have m2 : b2 ∈ cE (S.drop r) := iF.2 ⟨y.2, by rw [← ey]; exact List.mem_of_getElem? (i := 0) (by rw [List.getElem?_drop]; exact hy)⟩
  exact (List.nodup_append.1 ha).2.2 _ m1 _ m2 rfl
 rcases Nat.lt_or_gt_of_ne hne with g | g
 ·exact key i j _ _ g hi hj (by rw [h2]) rfl
 ·exact key j i _ _ g hj hi rfl (by rw [h2])
end Go.Bil

namespace Go.Bil
def hdr (r : Row) : List Value := [.slice r.A r.n r.c]
structure IslR (T : Nat) (rs : List Row) (L : List (List Int)) : Prop where
 len : rs.length = L.length
 row : ∀ (j : Nat) (r : Row) (l : List Int), rs[j]? = some r → L[j]? = some l → bC T 1 r.A r.n r.c (l.map hJ) r.e
theorem IslR.nil (T : Nat) : IslR T [] [] := ⟨rfl, by simp⟩
theorem IslR.snoc {T : Nat} {rs : List Row} {L : List (List Int)} (h : IslR T rs L) : IslR T (rs ++ [gT]) (L ++ [[]]) := by
 refine ⟨by simp [h.len], fun j r l hr hl => ?_⟩
 by_cases hj : j < rs.length
 ·rw [List.getElem?_append_left hj] at hr
  rw [List.getElem?_append_left (by rw [← h.len]; exact hj)] at hl
  exact h.row j r l hr hl
 ·have hj2 : j = rs.length := by
   have := (List.getElem?_eq_some_iff.1 hr).1
   simp at this
   omega
  rw [hj2, List.getElem?_append_right (Nat.le_refl _), Nat.sub_self] at hr
  rw [hj2, h.len, List.getElem?_append_right (Nat.le_refl _), Nat.sub_self] at hl
  simp only [List.getElem?_cons_zero, Option.some.injEq] at hr hl
  subst hr hl
  exact bC.nil _ _ _
theorem IslR.put {T : Nat} {rs : List Row} {L : List (List Int)} (h : IslR T rs L) {j : Nat} {r : Row} {l : List Int} (hj : j < L.length) (hr : bC T 1 r.A r.n r.c (l.map hJ) r.e) : IslR T (rs.set j r) (L.set j l) := by
 refine ⟨by rw [List.length_set, List.length_set, h.len], fun k q m hq hm => ?_⟩
 rw [List.getElem?_set] at hq hm
 by_cases hk : j = k
 ·subst hk
  rw [if_pos rfl, if_pos (by rw [h.len]; exact hj)] at hq
  rw [if_pos rfl, if_pos hj] at hm
  injection hq with hq
  injection hm with hm
  subst hq hm
  exact hr
 ·rw [if_neg hk] at hq hm
  exact h.row k q m hq hm
end Go.Bil

namespace Go.Bil
theorem Mem.pushNew {w0 w : World} {X : List Nat} {L : List eZ} {rs : List Row} (r : Row) (M : Mem w0 X ((L ++ [r.e]) ++ rs.map Row.e) w) : Mem w0 X (L ++ (rs ++ [r]).map Row.e) w :=
 M.perm (by rw [List.append_assoc, List.map_append]; exact List.Perm.append_left L List.perm_append_comm)
theorem IslR.add {T : Nat} {rs : List Row} {L : List (List Int)} {r : Row} {l : List Int} (h : IslR T rs L) (hr : bC T 1 r.A r.n r.c (l.map hJ) r.e) : IslR T (rs ++ [r]) (L ++ [l]) := by
 refine ⟨by simp [h.len], fun j q k hq hk => ?_⟩
 by_cases hj : j < rs.length
 ·rw [List.getElem?_append_left hj] at hq
  rw [List.getElem?_append_left (by rw [← h.len]; exact hj)] at hk
  exact h.row j q k hq hk
 ·have hj2 : j = rs.length := by
   have := (List.getElem?_eq_some_iff.1 hq).1
   simp at this
   omega
  rw [hj2, List.getElem?_append_right (Nat.le_refl _), Nat.sub_self] at hq
  rw [hj2, h.len, List.getElem?_append_right (Nat.le_refl _), Nat.sub_self] at hk
  simp only [List.getElem?_cons_zero, Option.some.injEq] at hq hk
  subst hq hk
  exact hr
end Go.Bil

namespace Go.Bil
structure IslRd (w : World) (A : Option Addr) (n : Nat) (rs : List Row) (L : List (List Int)) : Prop where
 hd : Rd w 1 A n (rs.map hdr)
 len : rs.length = L.length
 row : ∀ (j : Nat) (r : Row) (l : List Int), rs[j]? = some r → L[j]? = some l → Rd w 1 r.A r.n (l.map hJ)
theorem IslRd.mem {w0 w : World} {S : List eZ} {A : Option Addr} {n : Nat} {rs : List Row} {L : List (List Int)} (h : IslRd w0 A n rs L) (M : Mem w0 [] S w) : IslRd w A n rs L :=
 ⟨h.hd.mem M, h.len, fun j r l hr hl => (h.row j r l hr hl).mem M⟩
theorem IslRd.n_eq {w : World} {A : Option Addr} {n : Nat} {rs : List Row} {L : List (List Int)} (h : IslRd w A n rs L) : L.length = n ∧ rs.length = n := by
 have := h.hd.len
 rw [List.length_map] at this
 exact ⟨by rw [← h.len]; exact this, this⟩
theorem IslR.rd {w0 w : World} {X : List Nat} {S : List eZ} {T T' c n : Nat} {A : Option Addr} {e : eZ} {rs : List Row} {L : List (List Int)} (h : IslR T rs L) (hq : bC T' 1 A n c (rs.map hdr) e) (M : Mem w0 X S w) (he : e ∈ S) (ht : ∀ r ∈ rs, r.e ∈ S) : IslRd w A n rs L :=
 ⟨hq.rd M he, h.len, fun j r l hr hl => (h.row j r l hr hl).rd M (ht r (List.mem_of_getElem? hr))⟩
theorem IslRd.one {w : World} {A A1 : Option Addr} {n1 c1 : Nat} {l1 : List Int} (h0 : Rd w 1 A 1 [[.slice A1 n1 c1]]) (h1 : Rd w 1 A1 n1 (l1.map hJ)) : IslRd w A 1 [⟨A1, n1, c1, default⟩] [l1] := by
 refine ⟨h0, rfl, fun j r l hr hl => ?_⟩
 match j with
 | 0 => simp only [List.getElem?_cons_zero, Option.some.injEq] at hr hl; subst hr hl; exact h1
 | j + 1 => simp at hr
theorem IslRd.two {w : World} {A A1 A2 : Option Addr} {n1 c1 n2 c2 : Nat} {l1 l2 : List Int} (h0 : Rd w 1 A 2 [[.slice A1 n1 c1], [.slice A2 n2 c2]]) (h1 : Rd w 1 A1 n1 (l1.map hJ)) (h2 : Rd w 1 A2 n2 (l2.map hJ)) : IslRd w A 2 [⟨A1, n1, c1, default⟩, ⟨A2, n2, c2, default⟩] [l1, l2] := by
 refine ⟨h0, rfl, fun j r l hr hl => ?_⟩
 match j with
 | 0 => simp only [List.getElem?_cons_zero, Option.some.injEq] at hr hl; subst hr hl; exact h1
 | 1 => simp only [List.getElem?_cons_succ, List.getElem?_cons_zero, Option.some.injEq] at hr hl; subst hr hl; exact h2
 | j + 2 => simp at hr
end Go.Bil

namespace Go.Bil
end Go.Bil

namespace Go.Bil
open Go Go.RowKit Go.Deep
section
variable {H : Type} {enc : TypeId × Value → H} {P : Program} {w : World} {base : Nat} {spare : Nat → Bool} {held : Bool}
theorem aLh {sz len : Nat} {a : Addr} {Q : List Value → Prop} (hsz : 0 < sz) (hbig : len ≤ 281474976710656) (hall : ∀ i, i < len → ∃ cs' : List Value, cs'.length = sz ∧ (∀ j, j < sz → w.cell? (a.add (i * sz + j)) = cs'[j]?) ∧ Q cs') :
  ∃ ls : List (List Value), Rd w sz (some a) len ls ∧ ∀ l ∈ ls, Q l := by
 have hex : ∀ k, k ≤ len → ∃ ls : List (List Value), ls.length = k ∧ ∀ i l, ls[i]? = some l → l.length = sz ∧ (∀ j, j < sz → w.cell? (a.add (i * sz + j)) = l[j]?) ∧ Q l := by
  intro k
  induction k with
  | zero => intro _; exact ⟨[], rfl, by simp⟩
  | succ k ih =>
   intro hk'
   obtain ⟨ls, q1, q2⟩ := ih (by omega)
   obtain ⟨cs', r1, r2, r3⟩ := hall k (by omega)
   refine ⟨ls ++ [cs'], by simp [q1], fun i l hil => ?_⟩
   rw [List.getElem?_append] at hil
   split at hil
   ·exact q2 i l hil
   ·rename_i hge
    have hik : i = k := by
     have := (List.getElem?_eq_some_iff.1 hil).1
     simp at this
     omega
    subst hik
    simp only [q1, Nat.sub_self, List.getElem?_cons_zero, Option.some.injEq] at hil
    subst hil
    exact ⟨r1, r2, r3⟩
 obtain ⟨ls, q1, q2⟩ := hex len (Nat.le_refl _)
 refine ⟨ls, ⟨q1, fun l hl' => ?_, hbig, fun hpos => ?_⟩, fun l hl' => ?_⟩
 ·obtain ⟨i, hi⟩ := List.getElem?_of_mem hl'
  exact (q2 i l hi).1
 ·obtain ⟨l0, hl0⟩ : ∃ l0, ls[0]? = some l0 := ⟨ls[0]'(by omega), List.getElem?_eq_getElem _⟩
  obtain ⟨r1, r2, _⟩ := q2 0 l0 hl0
  have hc0 := r2 0 (by omega)
  have hl00 : l0[0]? = some (l0[0]'(by omega)) := List.getElem?_eq_getElem _
  rw [hl00] at hc0
  obtain ⟨b, off, spot⟩ := a
  have hs : spot = none := by
   cases spot with
   | none => rfl
   | some s =>
    exfalso
    simp only [World.cell?] at hc0
    split at hc0
    ·have : ((⟨b, off, some s⟩ : Addr).add (0 * sz + 0)).spot.isSome = true := by unfold Addr.add; split <;> simp_all
     rw [this] at hc0
     simp at hc0
    ·cases hc0
  subst hs
  refine ⟨b, off, rfl, ?_, fun i l hil j v hj => ?_⟩
  ·rw [eO] at hc0
   unfold World.cell? at hc0
   by_cases hlt : b < w.heap.size
   ·exact hlt
   ·rw [Array.getElem?_eq_none (Nat.le_of_not_lt hlt)] at hc0
    cases hc0
  ·obtain ⟨r1, r2, _⟩ := q2 i l hil
   have hj' : j < sz := by rw [← r1]; exact (List.getElem?_eq_some_iff.1 hj).1
   have := r2 j hj'
   rw [eO, ← Nat.add_assoc] at this
   rw [this, hj]
 ·obtain ⟨i, hi⟩ := List.getElem?_of_mem hl'
  exact (q2 i l hi).2.2
theorem aAk {e : TypeId} : ∀ {l : List (DataW H)} {d : DataW H}, d ∈ l → ∀ n ∈ d.weights P e, n ∈ DataW.weightsAll P e l
 | x :: l, d, hd, n, hn => by
  simp only [DataW.weightsAll, List.mem_append]
  rcases List.mem_cons.1 hd with rfl | hd
  ·exact .inl hn
  ·exact .inr (aAk hd n hn)
theorem vG {t e : TypeId} {elems sp : List (DataW H)} (hu : P.underlying t = some (.slice e)) (h : ∀ n ∈ (DataW.slice elems sp).weights P t, n ≤ reachBytes) : (elems.length + sp.length) * P.bytesOf e ≤ reachBytes ∧ ∀ d ∈ elems, ∀ n ∈ d.weights P e, n ≤ reachBytes := by
 simp only [DataW.weights, hu, List.mem_cons, List.mem_append] at h
 exact ⟨h _ (.inl rfl), fun d hd n hn => h n (.inr (.inl (aAk hd n hn)))⟩
theorem aAa {t e sz bytes : Nat} {A : Option Addr} {len cap : Nat} {d : DataW H} {ps : List MemPlace} (hw : ∀ n ∈ d.weights P t, n ≤ reachBytes) (hs : fR P t e sz bytes = true) (h : DataW.Trod enc P w base spare held t (.slice A len cap) d ps) : len * bytes ≤ 140737488351232 := by
 obtain ⟨h1, h2, h3, h4, h5, h6, zv, hzv, hzs⟩ := gK hs
 obtain ⟨fuel, hf⟩ := h
 rcases open_slice h1 hf with ⟨hcs, _⟩ | ⟨a, l, c, m', n, D, Pl, hcs, hb, hlc, _, hm, hx, _⟩
 ·simp only [Value.cells, List.cons.injEq, Value.slice.injEq, and_true] at hcs
  obtain ⟨rfl, rfl, rfl⟩ := hcs
  simp
 ·simp only [Value.cells, List.cons.injEq, Value.slice.injEq, and_true] at hcs
  obtain ⟨rfl, rfl, rfl⟩ := hcs
  obtain ⟨rfl, _⟩ := Prod.mk.inj hx
  have z := (vG h1 hw).1
  rw [h4] at z
  simp only [List.length_map, List.length_range] at z
  have hr : reachBytes = 140737488351232 := rfl
  rw [hr] at z
  exact Nat.le_trans (Nat.mul_le_mul_right _ (by omega)) z
end
end Go.Bil

namespace Go.Bil
open Go Go.RowKit
variable {P : Program} {n : Nat} {Q : Exit → fF → World → Prop} {ρ : fF} {w : World} {l0 rest : List Oper}
section
variable {d : Nat} {ty : TypeId} {pos : String} {af : Array Edge} {gd : Option (Nat × Bool)}
variable {w0 : World} {X : List Nat} {S : List eZ}
variable {β : Type}
theorem oK (i : Nat) {t kt et : Nat} {kk : IntKind} {enc : β → Value} {x y u : Operand} {f : Int → Option β} {p : Option Nat} {e : eZ} {k : Int} {v : β} (ht : zA P t kt et kk = true) (M : Mem w0 X S w) (hg : mL l0 ρ gd = true) (hi : fT S i = some e) (hm : kG kk enc f p e) (hp : p.isSome = true)
  (hx : ev ρ x = .map p) (hy : ev ρ y = .int kk k) (hu : ev ρ u = enc v)
  (h : ∀ e' w', kG kk enc (fun a => if a = k then some v else f a) p e' → Mem w0 X (S.set i e') w' → wl P n l0 rest Q ρ w') : wl P n l0 (⟨none, .insert t x y u, ty, pos, af, gd⟩ :: rest) Q ρ w := by
 obtain ⟨h1, h2⟩ := tY ht
 rcases hm with ⟨rfl, _⟩ | ⟨b, o, rfl, rfl, l, clock, rfl, hn, hf⟩
 ·simp at hp
 ·have hck : (Instr.checkKey false 10000 kt (.int kk k)).run P w = .ok () w := MapKept.run_checkKey (d := .int kk) h2 (by simp [MapKept.IsKey]) false 9999
  have hfk := MapKept.run_findKey (P := P) (w := w) h2 (nN kk enc k l 0)
  have hb := M.at_ hi
  cases hq : lki k l 0 with
  | none =>
   have hnot := yH hq
   obtain ⟨w', hw', M'⟩ := kI (P := P) (o' := .map ((l ++ [(k, v, clock)]).map (oF kk enc)).toArray (clock + 1)) M hi ⟨_, _, rfl⟩
   refine pQ hg ?_ (h _ w' (.inr ⟨b, _, rfl, rfl, l ++ [(k, v, clock)], clock + 1, rfl, ?_, ?_⟩) M')
   ·have e1 : (l.map (oF kk enc)).toArray.push { key := .int kk k, val := enc v, born := clock } = ((l ++ [(k, v, clock)]).map (oF kk enc)).toArray := by simp [oF]
    simp only [execOp, hx, hy, hu, Instr.mapUpdate, Sem.run_bind, bV h1, Result.andThen_ok, MapKept.run_getObj_map hb, hck, List.toList_toArray, hfk, hq, Option.map_none, e1, hw', Sem.run_pure]
   ·rw [List.map_append, List.nodup_append]
    refine ⟨hn, by simp, ?_⟩
    intro a ha c hc hac
    simp only [List.map_cons, List.map_nil, List.mem_singleton] at hc
    obtain ⟨q, hq1, hq2⟩ := List.mem_map.1 ha
    exact hnot q hq1 (by rw [hq2, hac, hc])
   ·intro a
    show (if a = k then some v else f a) = _
    rw [yX, ← hf a]
    by_cases ha : a = k
    ·rw [if_pos ha, ha, hf k, vN hnot]
     simp [lk]
    ·rw [if_neg ha]
     have : lk a [(k, v, clock)] = none := vN (by simpa using fun e => ha e.symm)
     rw [this]; simp
  | some q =>
   obtain ⟨j, v0⟩ := q
   obtain ⟨_, p0, hj, hp0, _⟩ := xN hq
   rw [Nat.sub_zero] at hj
   obtain ⟨w', hw', M'⟩ := kI (P := P) (o' := .map ((l.set j (k, v, p0.2.2)).map (oF kk enc)).toArray clock) M hi ⟨_, _, rfl⟩
   refine pQ hg ?_ (h _ w' (.inr ⟨b, _, rfl, rfl, l.set j (k, v, p0.2.2), clock, rfl, by rw [aNg hj hp0]; exact hn, fun a => by rw [aRq hj hp0 hn a, ← hf a]⟩) M')
   have hold : ((((l.map (oF kk enc)).toArray[j]?).map (·.key)).getD (.int kk k)) = .int kk k := by simp [hj, oF, hp0]
   have hkey : (Instr.keyThatStays (.int kk k) (.int kk k)).run P w = .ok (.int kk k) w := MapKept.run_keyThatStays (d := .int kk) (by simp [MapKept.IsKey])
   simp only [execOp, hx, hy, hu, Instr.mapUpdate, Sem.run_bind, bV h1, Result.andThen_ok, MapKept.run_getObj_map hb, hck, List.toList_toArray, hfk, hq, Option.map_some, hold, hkey, aAg hj, hw', Sem.run_pure]
end
theorem aEc : ∀ (S : List eZ) (ks : List Bool), ks.length = S.length → S.Perm (nI S ks ++ nI S (ks.map (!·)))
 | [], [], _ => List.Perm.nil
 | e :: S, b :: ks, h => by
  have ih := aEc S ks (by simpa using h)
  cases b
  ·simp only [nI, List.map_cons, Bool.not_false, cond_false, cond_true]
   exact (List.Perm.cons e ih).trans List.perm_middle.symm
  ·simp only [nI, List.map_cons, Bool.not_true, cond_false, cond_true, List.cons_append]
   exact List.Perm.cons e ih
theorem Mem.ownK {w0 w : World} {X : List Nat} {S : List eZ} (ks : List Bool) (M : Mem w0 X S w) : Own (nI S ks) w := (M.keep ks).toOwn
theorem Mem.callK {w0 w w' : World} {X : List Nat} {S A' : List eZ} (ks : List Bool) (hk : ks.length = S.length) (M : Mem w0 X S w) (C : Mem w (cE (nI S ks)) A' w') : Mem w0 X (A' ++ nI S (ks.map (!·))) w' :=
 (M.perm (aEc S ks hk)).call C
theorem Mem.awayK {w0 w : World} {X : List Nat} {S : List eZ} {sz nn : Nat} {A : Option Addr} {ls : List (List Value)} (ks : List Bool) (M : Mem w0 X S w) (R : Rd w0 sz A nn ls) (hd : 0 < nn → ∀ q off, A = some ⟨q, off, none⟩ → q ∉ X) : 0 < nn → ∀ q off, A = some ⟨q, off, none⟩ → q ∉ cE (nI S ks) :=
 (M.keep ks).away 0 (nI S ks).length R hd |> fun h hn q off hA hq => h hn q off hA (by simpa using hq)
end Go.Bil
