/- Part of the proof of the laws of this seat: MdX, MdY, MdZ, MdM, MdI, MdJ, MdA, MdF, MdH. No conditions. -/
import Derived.Test.YtlmcphcgiclanaaGreatDoorK7
import Derived.Test.YtlmcphcgiclanaaGreatDoorK17
set_option linter.unusedVariables false
set_option linter.unusedSimpArgs false
set_option linter.unnecessarySimpa false
namespace Go.Bil
abbrev Pt := Int × Int
structure PtI (v : Pt) : Prop where
  x : -1082130432 ≤ v.1 ∧ v.1 ≤ 1082130432
  y : -1082130432 ≤ v.2 ∧ v.2 ≤ 1082130432
structure SgI (p q : Pt) : Prop where
  hp : PtI p
  hq : PtI q
  x : -16777216 ≤ q.1 - p.1 ∧ q.1 - p.1 ≤ 16777216
  y : -16777216 ≤ q.2 - p.2 ∧ q.2 - p.2 ≤ 16777216
theorem PtI.i32 {v : Pt} (h : PtI v) : I32 v := ⟨by have := h.x; omega, by have := h.y; omega⟩
theorem PtI.inX {v u : Pt} (h : PtI v) (g : PtI u) : qW (u.1 - v.1) := by have := h.x; have := g.x; unfold qW; omega
theorem PtI.inY {v u : Pt} (h : PtI v) (g : PtI u) : qW (u.2 - v.2) := by have := h.y; have := g.y; unfold qW; omega
theorem wH {a b : Int} {A B : Nat} (ha : a.natAbs ≤ A) (hb : b.natAbs ≤ B) : -((A * B : Nat) : Int) ≤ a * b ∧ a * b ≤ ((A * B : Nat) : Int) := by
  have h := Nat.mul_le_mul ha hb
  rw [← Int.natAbs_mul] at h
  omega
theorem sqN (a : Int) : 0 ≤ a * a := by rw [← Int.natAbs_mul_self]; omega
def jT (p q : Pt) : Int := (q.1 - p.1) * (q.1 - p.1) + (q.2 - p.2) * (q.2 - p.2)
def lS (p q c : Pt) : Int := max 0 (min ((c.1 - p.1) * (q.1 - p.1) + (c.2 - p.2) * (q.2 - p.2)) (jT p q))
theorem kO {p q : Pt} (h : SgI p q) : 0 ≤ jT p q ∧ jT p q ≤ 562949953421312 ∧ (0 ≤ (q.1 - p.1) * (q.1 - p.1) ∧ (q.1 - p.1) * (q.1 - p.1) ≤ 281474976710656) ∧ 0 ≤ (q.2 - p.2) * (q.2 - p.2) ∧ (q.2 - p.2) * (q.2 - p.2) ≤ 281474976710656 := by
  have hx := h.x
  have hy := h.y
  have a := wH (a := q.1 - p.1) (b := q.1 - p.1) (A := 16777216) (B := 16777216) (by omega) (by omega)
  have b := wH (a := q.2 - p.2) (b := q.2 - p.2) (A := 16777216) (B := 16777216) (by omega) (by omega)
  have c := sqN (q.1 - p.1)
  have d := sqN (q.2 - p.2)
  unfold jT
  omega
theorem sD {p q c : Pt} (h : SgI p q) : 0 ≤ lS p q c ∧ lS p q c ≤ jT p q := by
  have := kO h
  unfold lS
  omega
theorem aAv {p q c : Pt} (h : SgI p q) (hc : PtI c) : (-36310272144179200 ≤ (c.1 - p.1) * (q.1 - p.1) ∧ (c.1 - p.1) * (q.1 - p.1) ≤ 36310272144179200) ∧ -36310272144179200 ≤ (c.2 - p.2) * (q.2 - p.2) ∧ (c.2 - p.2) * (q.2 - p.2) ≤ 36310272144179200 := by
  have hx := h.x
  have hy := h.y
  have := hc.x; have := hc.y; have := h.hp.x; have := h.hp.y
  have a := wH (a := c.1 - p.1) (b := q.1 - p.1) (A := 2164260864) (B := 16777216) (by omega) (by omega)
  have b := wH (a := c.2 - p.2) (b := q.2 - p.2) (A := 2164260864) (B := 16777216) (by omega) (by omega)
  omega
theorem aVn {a n d : Int} (hn : 0 ≤ n) (hnd : n ≤ d) (hd : 0 < d) : (0 ≤ a → 0 ≤ a * n / d ∧ a * n / d ≤ a) ∧ (a ≤ 0 → a ≤ a * n / d ∧ a * n / d ≤ 0) := by
  refine ⟨fun h => ⟨Int.ediv_nonneg (Int.mul_nonneg h hn) (Int.le_of_lt hd), ?_⟩, fun h => ⟨?_, ?_⟩⟩
  · exact Int.ediv_le_of_le_mul hd (Int.mul_le_mul_of_nonneg_left hnd h)
  · exact (Int.le_ediv_iff_mul_le hd).2 (Int.mul_le_mul_of_nonpos_left h hnd)
  · have h1 : a * n ≤ 0 := Int.mul_nonpos_of_nonpos_of_nonneg h hn
    exact Int.ediv_le_of_le_mul hd (by omega)
def bR (p q c : Pt) : Pt := if jT p q = 0 then p else (p.1 + (q.1 - p.1) * lS p q c / jT p q, p.2 + (q.2 - p.2) * lS p q c / jT p q)
theorem yN {p q c : Pt} (h : SgI p q) (hd : jT p q ≠ 0) : ((-16777216 ≤ (q.1 - p.1) * lS p q c / jT p q ∧ (q.1 - p.1) * lS p q c / jT p q ≤ 16777216) ∧ -1082130432 ≤ p.1 + (q.1 - p.1) * lS p q c / jT p q ∧ p.1 + (q.1 - p.1) * lS p q c / jT p q ≤ 1082130432) ∧
    (-16777216 ≤ (q.2 - p.2) * lS p q c / jT p q ∧ (q.2 - p.2) * lS p q c / jT p q ≤ 16777216) ∧ -1082130432 ≤ p.2 + (q.2 - p.2) * lS p q c / jT p q ∧ p.2 + (q.2 - p.2) * lS p q c / jT p q ≤ 1082130432 := by
  have hn := sD (c := c) h
  have hD := kO h
  have a := aVn (a := q.1 - p.1) hn.1 hn.2 (by omega)
  have b := aVn (a := q.2 - p.2) hn.1 hn.2 (by omega)
  have := h.hp.x; have := h.hp.y; have := h.hq.x; have := h.hq.y; have := h.x; have := h.y
  generalize (q.1 - p.1) * lS p q c / jT p q = u at *
  generalize (q.2 - p.2) * lS p q c / jT p q = v at *
  omega
theorem dQ {p q c : Pt} (h : SgI p q) : PtI (bR p q c) := by
  unfold bR
  split
  · exact h.hp
  · rename_i hd
    have := yN (c := c) h hd
    exact ⟨this.1.2, this.2.2⟩
abbrev Ch := Pt × Pt × Nat
def eL (s : Ch) (x y : Pt) : Ch := if mI (y.1 - x.1) (y.2 - x.2) < s.2.2 then (x, y, mI (y.1 - x.1) (y.2 - x.2)) else s
def ch0 : Ch := ((0, 0), (0, 0), 18446744073709551615)
def kE (ap aq bp bq : Pt) : Ch := eL (eL (eL (eL ch0 ap (bR bp bq ap)) aq (bR bp bq aq)) (bR ap aq bp) bp) (bR ap aq bq) bq
structure ChI (s : Ch) : Prop where
  a : PtI s.1
  b : PtI s.2.1
  l : s.2.2 < 18446744073709551616
theorem ChI.step {s : Ch} {x y : Pt} (h : ChI s) (hx : PtI x) (hy : PtI y) : ChI (eL s x y) := by
  unfold eL
  split
  · exact ⟨hx, hy, (nT (hx.inX hy) (hx.inY hy)).1⟩
  · exact h
theorem aPx : ChI ch0 := ⟨⟨by decide, by decide⟩, ⟨by decide, by decide⟩, by decide⟩
theorem aNp {ap aq bp bq : Pt} (h1 : SgI ap aq) (h2 : SgI bp bq) : ChI (kE ap aq bp bq) :=
  (((aPx.step h1.hp (dQ h2)).step h1.hq (dQ h2)).step (dQ h1) h2.hp).step (dQ h1) h2.hq
def tU (b : Body) : Pt := (b.px - b.ax, b.py - b.ay)
def tK (b : Body) : Pt := (b.px + b.ax, b.py + b.ay)
theorem mG {b : Body} (h : Okb b) : SgI (tU b) (tK b) := by
  have := h.a; have := h.p
  refine ⟨⟨?_, ?_⟩, ⟨?_, ?_⟩, ?_, ?_⟩ <;> simp only [tU, tK] <;> omega
structure Con where
  low : Int
  high : Int
  nx : Int
  ny : Int
  depth : Int
deriving DecidableEq
def bW (c : Con) : List Value := [.int .u32 c.low, .int .u32 c.high, .int .i32 c.nx, .int .i32 c.ny, .int .i32 c.depth]
def lB (a b : Body) : Ch := kE (tU a) (tK a) (tU b) (tK b)
def mP (s : Ch) : Int := s.2.1.1 - s.1.1
def nN (s : Ch) : Int := s.2.1.2 - s.1.2
def gO (a b : Body) : Option Con :=
  if (a.radius + b.radius).natAbs * (a.radius + b.radius).natAbs ≤ mI (mP (lB a b)) (nN (lB a b)) then none
  else some ⟨a.key, b.key, (jW (mP (lB a b)) (nN (lB a b))).1, (jW (mP (lB a b)) (nN (lB a b))).2, IntKind.wrap .i32 (a.radius + b.radius - len (mP (lB a b)) (nN (lB a b)))⟩
def iC (a b : Body) : Option Con := if b.key < a.key then gO b a else gO a b
def lI (b : Body) : List Value := aI b ++ bV (tU b) ++ bV (tK b)
def loB (a b : Body) : Body := if b.key < a.key then b else a
def hiB (a b : Body) : Body := if b.key < a.key then a else b
theorem aDs (a b : Body) : iC a b = gO (loB a b) (hiB a b) := by unfold iC loB hiB; split <;> rfl
theorem aYr {a b : Body} (ha : Okb a) (hb : Okb b) : Okb (loB a b) ∧ Okb (hiB a b) := by unfold loB hiB; split <;> exact ⟨by assumption, by assumption⟩
theorem tQ {a b : Body} (ha : Okb a) (hb : Okb b) : ChI (lB a b) := aNp (mG ha) (mG hb)
theorem aPv {a b : Body} (ha : Okb a) (hb : Okb b) : qW (mP (lB a b)) ∧ qW (nN (lB a b)) := ⟨(tQ ha hb).a.inX (tQ ha hb).b, (tQ ha hb).a.inY (tQ ha hb).b⟩
def aEm (o : Option Con) : List Value := bW (o.getD ⟨0, 0, 0, 0, 0⟩)
theorem aSn {a b : Body} (ha : Okb a) (hb : Okb b) : 0 ≤ (a.radius + b.radius) * (a.radius + b.radius) ∧ (a.radius + b.radius) * (a.radius + b.radius) ≤ 70368744177664 := by
  have := ha.r; have := hb.r
  have h := wH (a := a.radius + b.radius) (b := a.radius + b.radius) (A := 8388608) (B := 8388608) (by omega) (by omega)
  have := sqN (a.radius + b.radius)
  omega
theorem aUc (s : Int) (h : 0 ≤ s * s ∧ s * s ≤ 70368744177664) : IntKind.wrap .u64 (s * s) = ((s.natAbs * s.natAbs : Nat) : Int) := by
  rw [eX, Int.natAbs_mul_self]; omega
end Go.Bil

namespace Go.Bil
def qU (b : Body) : Value := .agg (aI b).toArray
def aVx : Body := ⟨0, 0, 0, 0, 0, 0, 0, 0, 0, 0⟩
def boM (xs : List Body) : Int → Option Body := fun k => xs.reverse.find? (fun b => decide (b.key = k))
theorem aTs (k : Int) : boM [] k = none := rfl
theorem aPo {xs : List Body} {k : Nat} {b : Body} (h : xs[k]? = some b) (q : Int) : boM (xs.take (k + 1)) q = if q = b.key then some b else boM (xs.take k) q := by
  unfold boM
  rw [cE h, List.reverse_append]
  simp only [List.reverse_cons, List.reverse_nil, List.nil_append, List.singleton_append, List.find?_cons]
  by_cases e : q = b.key
  · rw [if_pos e, decide_eq_true e.symm]
  · rw [if_neg e, decide_eq_false (fun h => e h.symm)]
theorem vQ {xs : List Body} (hs : cG xs) {b : Body} (hb : b ∈ xs) : boM xs b.key = some b := by
  unfold boM
  cases hf : xs.reverse.find? (fun c => decide (c.key = b.key)) with
  | none =>
    have := List.find?_eq_none.1 hf b (by simpa using hb)
    simp at this
  | some c =>
    have hc := List.find?_some hf
    have hm : c ∈ xs := by simpa using List.mem_of_find?_eq_some hf
    simp only [decide_eq_true_eq] at hc
    rw [jF hs hm hb hc]
def vI (f : Int → Option Body) (z : Int × Int) : Option Con := (f z.1).bind fun a => (f z.2).bind fun b => iC a b
def jG (xs : List Body) : List Con := (kP xs).filterMap (vI (boM xs))
theorem uK {xs : List Body} (hs : cG xs) {z : Int × Int} (h : z ∈ kP xs) : ∃ a b, a ∈ xs ∧ b ∈ xs ∧ a.key < b.key ∧ z = (a.key, b.key) ∧ boM xs z.1 = some a ∧ boM xs z.2 = some b := by
  obtain ⟨a, ha, b, hb, h1, h2, rfl⟩ := (aLt hs).1 h
  exact ⟨a, b, ha, hb, h1, rfl, vQ hs ha, vQ hs hb⟩
theorem nZ {f : Int → Option Body} {z : Int × Int} {a b : Body} (h1 : f z.1 = some a) (h2 : f z.2 = some b) : vI f z = iC a b := by simp [vI, h1, h2]
theorem aIx {a b : Body} {c : Con} (h : gO a b = some c) : c.low = a.key ∧ c.high = b.key := by
  unfold gO at h
  split at h
  · cases h
  · injection h with h; subst h; exact ⟨rfl, rfl⟩
theorem aMw {a b : Body} {c : Con} (hk : a.key < b.key) (h : iC a b = some c) : c.low = a.key ∧ c.high = b.key := by
  unfold iC at h
  rw [if_neg (by omega)] at h
  exact aIx h
theorem aTv {α β : Type} {l : List α} {k : Nat} {z : α} {g : α → Option β} (h : l[k]? = some z) : (l.take (k + 1)).filterMap g = (l.take k).filterMap g ++ (g z).toList := by
  rw [cE h, List.filterMap_append]
  cases hg : g z <;> simp [hg]
theorem yG (xs : List Body) : (jG xs).length ≤ (kP xs).length := List.length_filterMap_le _ _
theorem sO {x y : Pt} (hx : PtI x) (hy : PtI y) : eL ch0 x y = (x, y, mI (y.1 - x.1) (y.2 - x.2)) := by
  have := nT (hx.inX hy) (hx.inY hy)
  have h : mI (y.1 - x.1) (y.2 - x.2) < 18446744073709551615 := by unfold mI at *; omega
  exact if_pos h
theorem Mem.orderC {w0 w : World} {X : List Nat} {a b c d : eQ} (M : Mem w0 X [a, b, c, d] w) : Mem w0 X [c, b, a, d] w :=
  M.perm ((List.Perm.swap b a [c, d]).trans (((List.Perm.swap c a [d]).cons b).trans (List.Perm.swap c b [a, d])))
def pH : Con → List Con → Con
  | b, [] => b
  | b, c :: l => pH (if b.depth < c.depth then c else b) l
def aWt : List Con → Option Con
  | [] => none
  | c :: l => some (pH c l)
end Go.Bil

namespace Go.Bil
def oO : List Nat → Nat
  | [] => 0
  | d :: l => d + 65536 * oO l
def jB (d : Nat) : Value := .int .u64 (d : Int)
def bBt (m : Nat) : List Nat := [m % 65536, m / 65536 % 65536, m / 65536 / 65536 % 65536, m / 65536 / 65536 / 65536 % 65536, 0, 0, 0, 0]
theorem vT {z0 z1 z2 z3 p0 p1 p2 p3 t0 t1 t2 t3 : Nat} (h0 : t0 = z0 + p0 + 0) (h1 : t1 = z1 + p1 + t0 / 65536) (h2 : t2 = z2 + p2 + t1 / 65536) (h3 : t3 = z3 + p3 + t2 / 65536) :
    t0 % 65536 + 65536 * (t1 % 65536 + 65536 * (t2 % 65536 + 65536 * (t3 % 65536 + 65536 * (t3 / 65536)))) = (z0 + 65536 * (z1 + 65536 * (z2 + 65536 * z3))) + (p0 + 65536 * (p1 + 65536 * (p2 + 65536 * p3))) := by omega
theorem aRk {z p c x y : Nat} (hz : z < 65536) (hc : c < 65536) (hx : x < 65536) (hy : y < 65536) (hp : x * y = p) : p ≤ 4294836225 ∧ z + p + c < 4294967296 ∧ (z + p + c) / 65536 < 65536 := by
  have : x * y ≤ 65535 * 65535 := Nat.mul_le_mul (by omega) (by omega)
  omega
theorem sN (x y0 y1 y2 y3 : Nat) : x * (y0 + 65536 * (y1 + 65536 * (y2 + 65536 * y3))) = x * y0 + 65536 * (x * y1 + 65536 * (x * y2 + 65536 * (x * y3))) := by
  simp only [Nat.mul_add, Nat.mul_left_comm x 65536]
theorem aNv (x0 x1 x2 x3 Y : Nat) : (x0 + 65536 * (x1 + 65536 * (x2 + 65536 * x3))) * Y = x0 * Y + 65536 * (x1 * Y + 65536 * (x2 * Y + 65536 * (x3 * Y))) := by
  simp only [Nat.add_mul, Nat.mul_assoc]
theorem aTl {x0 x1 x2 x3 y0 y1 y2 y3 a0 a1 a2 a3 b0 b1 b2 b3 c0 c1 c2 c3 d0 d1 d2 d3 : Nat}
    (ha0 : a0 = 0 + x0 * y0 + 0) (ha1 : a1 = 0 + x0 * y1 + a0 / 65536) (ha2 : a2 = 0 + x0 * y2 + a1 / 65536) (ha3 : a3 = 0 + x0 * y3 + a2 / 65536)
    (hb0 : b0 = a1 % 65536 + x1 * y0 + 0) (hb1 : b1 = a2 % 65536 + x1 * y1 + b0 / 65536) (hb2 : b2 = a3 % 65536 + x1 * y2 + b1 / 65536) (hb3 : b3 = a3 / 65536 + x1 * y3 + b2 / 65536)
    (hc0 : c0 = b1 % 65536 + x2 * y0 + 0) (hc1 : c1 = b2 % 65536 + x2 * y1 + c0 / 65536) (hc2 : c2 = b3 % 65536 + x2 * y2 + c1 / 65536) (hc3 : c3 = b3 / 65536 + x2 * y3 + c2 / 65536)
    (hd0 : d0 = c1 % 65536 + x3 * y0 + 0) (hd1 : d1 = c2 % 65536 + x3 * y1 + d0 / 65536) (hd2 : d2 = c3 % 65536 + x3 * y2 + d1 / 65536) (hd3 : d3 = c3 / 65536 + x3 * y3 + d2 / 65536) :
    oO [a0 % 65536, b0 % 65536, c0 % 65536, d0 % 65536, d1 % 65536, d2 % 65536, d3 % 65536, d3 / 65536] = (x0 + 65536 * (x1 + 65536 * (x2 + 65536 * x3))) * (y0 + 65536 * (y1 + 65536 * (y2 + 65536 * y3))) := by
  have ra := vT ha0 ha1 ha2 ha3
  have rb := vT hb0 hb1 hb2 hb3
  have rc := vT hc0 hc1 hc2 hc3
  have rd := vT hd0 hd1 hd2 hd3
  rw [aNv, sN x0, sN x1, sN x2, sN x3]
  simp only [oO, Nat.mul_zero, Nat.add_zero]
  clear ha0 ha1 ha2 ha3 hb0 hb1 hb2 hb3 hc0 hc1 hc2 hc3 hd0 hd1 hd2 hd3
  generalize x0 * y0 + 65536 * (x0 * y1 + 65536 * (x0 * y2 + 65536 * (x0 * y3))) = A at *
  generalize x1 * y0 + 65536 * (x1 * y1 + 65536 * (x1 * y2 + 65536 * (x1 * y3))) = B at *
  generalize x2 * y0 + 65536 * (x2 * y1 + 65536 * (x2 * y2 + 65536 * (x2 * y3))) = C at *
  generalize x3 * y0 + 65536 * (x3 * y1 + 65536 * (x3 * y2 + 65536 * (x3 * y3))) = D at *
  omega
theorem aFj : ∀ (l : List Nat) (j : Nat) (d : Nat), (∀ x ∈ l, x < 65536) → l[j]? = some d → oO l / 65536 ^ j % 65536 = d
  | [], j, d, _, h => by simp at h
  | x :: l, 0, d, hd, h => by
    simp only [List.getElem?_cons_zero, Option.some.injEq] at h
    subst h
    have := hd x (by simp)
    simp only [oO, Nat.pow_zero, Nat.div_one]
    omega
  | x :: l, j + 1, d, hd, h => by
    have ih := aFj l j d (fun y hy => hd y (by simp [hy])) (by simpa using h)
    have hx := hd x (by simp)
    rw [Nat.pow_succ, Nat.mul_comm, ← Nat.div_div_eq_div_mul]
    simp only [oO]
    rw [show (x + 65536 * oO l) / 65536 = oO l by omega]
    exact ih
theorem bAb (x i j s d : Nat) (hi : i = 16 * j + s) (hs : s < 16) (hd : x / 65536 ^ j % 65536 = d) : d / 2 ^ s % 2 = x / 2 ^ i % 2 := by
  subst hd
  have e : (65536 : Nat) ^ j = 2 ^ (16 * j) := by rw [Nat.pow_mul]
  rw [e]
  have h1 : (x / 2 ^ (16 * j) % 2 ^ 16) / 2 ^ s % 2 = x / 2 ^ (16 * j) / 2 ^ s % 2 := by
    rw [show (2 : Nat) ^ 16 = 2 ^ s * 2 ^ (16 - s) by rw [← Nat.pow_add]; congr 1; omega, Nat.mod_mul_right_div_self]
    exact Nat.mod_mod_of_dvd _ ⟨2 ^ (16 - s - 1), by rw [← Nat.pow_succ']; congr 1; omega⟩
  rw [show (65536 : Nat) = 2 ^ 16 by decide, h1, Nat.div_div_eq_div_mul, ← Nat.pow_add, hi]
structure Lb (X d i q r : Nat) : Prop where
  q : q = X / 2 ^ i / d
  r : r = X / 2 ^ i % d
theorem aRn (X i : Nat) : X / 2 ^ i = 2 * (X / 2 ^ (i + 1)) + X / 2 ^ i % 2 := by
  rw [Nat.pow_succ, ← Nat.div_div_eq_div_mul]; omega
theorem aTb {X d i q r b : Nat} (hd : 0 < d) (h : Lb X d (i + 1) q r) (hb : X / 2 ^ i % 2 = b) : r < d ∧ b < 2 ∧ 2 * q ≤ X / 2 ^ i / d ∧ (d ≤ 2 * r + b → Lb X d i (2 * q + 1) (2 * r + b - d)) ∧ (¬ d ≤ 2 * r + b → Lb X d i (2 * q) (2 * r + b)) := by
  have hp := aRn X i
  rw [hb] at hp
  have hr : r < d := by rw [h.r]; exact Nat.mod_lt _ hd
  have hb2 : b < 2 := by omega
  have e := Nat.div_add_mod (X / 2 ^ (i + 1)) d
  rw [← h.q, ← h.r] at e
  have hP : X / 2 ^ i = d * (2 * q) + (2 * r + b) := by rw [Nat.mul_left_comm]; omega
  refine ⟨hr, hb2, ?_, fun hc => ?_, fun hc => ?_⟩
  · rw [Nat.le_div_iff_mul_le hd, hP, Nat.mul_comm]; omega
  · have e2 : X / 2 ^ i = (2 * r + b - d) + d * (2 * q + 1) := by rw [hP, Nat.mul_add d]; omega
    exact ⟨by rw [e2, Nat.add_mul_div_left _ _ hd, Nat.div_eq_of_lt (by omega), Nat.zero_add], by rw [e2, Nat.add_mul_mod_self_left, Nat.mod_eq_of_lt (by omega)]⟩
  · have e2 : X / 2 ^ i = (2 * r + b) + d * (2 * q) := by rw [hP]; omega
    exact ⟨by rw [e2, Nat.add_mul_div_left _ _ hd, Nat.div_eq_of_lt (by omega), Nat.zero_add], by rw [e2, Nat.add_mul_mod_self_left, Nat.mod_eq_of_lt (by omega)]⟩
theorem aTj {X d : Nat} (hd : 0 < d) (hX : X < 340282366920938463463374607431768211456) : Lb X d 128 0 0 := by
  have : X / 2 ^ 128 = 0 := Nat.div_eq_of_lt hX
  exact ⟨by rw [this, Nat.zero_div], by rw [this, Nat.zero_mod]⟩
theorem aRy {X d i m : Nat} (h : X / d ≤ m) : X / 2 ^ i / d ≤ m := by
  refine Nat.le_trans (Nat.div_le_div_right (Nat.div_le_self _ _)) h
theorem aVv {X d q r : Nat} (h : Lb X d 0 q r) : q = X / d ∧ r = X % d := by
  have h1 := h.q; have h2 := h.r
  rw [Nat.pow_zero, Nat.div_one] at h1 h2
  exact ⟨h1, h2⟩
theorem tJ : ∀ (l : List Con) (b : Con), b.depth ≤ (pH b l).depth ∧ ∀ c ∈ l, c.depth ≤ (pH b l).depth
  | [], b => ⟨Int.le_refl _, by simp⟩
  | x :: l, b => by
    have ih := tJ l (if b.depth < x.depth then x else b)
    have e : pH b (x :: l) = pH (if b.depth < x.depth then x else b) l := rfl
    rw [e]
    by_cases hx : b.depth < x.depth
    · rw [if_pos hx] at ih ⊢
      refine ⟨by omega, fun c hc => ?_⟩
      rcases List.mem_cons.1 hc with rfl | hc
      · exact ih.1
      · exact ih.2 c hc
    · rw [if_neg hx] at ih ⊢
      refine ⟨ih.1, fun c hc => ?_⟩
      rcases List.mem_cons.1 hc with rfl | hc
      · omega
      · exact ih.2 c hc
theorem aFe : ∀ (l : List Con) (b : Con), ∃ j : Nat, (b :: l)[j]? = some (pH b l) ∧ ∀ (i : Nat) (c : Con), i < j → (b :: l)[i]? = some c → c.depth < (pH b l).depth
  | [], b => ⟨0, rfl, fun i c h => by omega⟩
  | x :: l, b => by
    have e : pH b (x :: l) = pH (if b.depth < x.depth then x else b) l := rfl
    obtain ⟨j, h1, h2⟩ := aFe l (if b.depth < x.depth then x else b)
    have hm := tJ l (if b.depth < x.depth then x else b)
    rw [e]
    by_cases hc : b.depth < x.depth
    · rw [if_pos hc] at h1 h2 hm ⊢
      refine ⟨j + 1, by simpa using h1, fun i c hi hci => ?_⟩
      cases i with
      | zero => simp only [List.getElem?_cons_zero, Option.some.injEq] at hci; subst hci; omega
      | succ i => exact h2 i c (by omega) (by simpa using hci)
    · rw [if_neg hc] at h1 h2 hm ⊢
      cases j with
      | zero => exact ⟨0, by simpa using h1, fun i c h => by omega⟩
      | succ j =>
        have hb := h2 0 b (by omega) rfl
        refine ⟨j + 2, by simpa using h1, fun i c hi hci => ?_⟩
        match i, hci with
        | 0, hci => simp only [List.getElem?_cons_zero, Option.some.injEq] at hci; subst hci; exact hb
        | 1, hci => simp only [List.getElem?_cons_succ, List.getElem?_cons_zero, Option.some.injEq] at hci; subst hci; omega
        | i + 2, hci => exact h2 (i + 1) c (by omega) (by simpa using hci)
def bBg : Con := ⟨0, 0, 0, 0, 0⟩
theorem aKz {l : List Con} {d : Con} (hd : (aWt l).getD bBg = d) (hl : l ≠ []) : d ∈ l ∧ (∀ c ∈ l, c.depth ≤ d.depth) ∧ ∀ (i : Nat) (c : Con), l[i]? = some c → d ∉ l.take i → c.depth = d.depth → c = d := by
  cases l with
  | nil => exact absurd rfl hl
  | cons b l =>
    have hd' : pH b l = d := hd
    obtain ⟨j, h1, h2⟩ := aFe l b
    have hm := tJ l b
    rw [hd'] at h1 h2 hm
    refine ⟨List.mem_of_getElem? h1, fun c hc => ?_, fun i c hi hn he => ?_⟩
    · rcases List.mem_cons.1 hc with rfl | hc
      · exact hm.1
      · exact hm.2 c hc
    · rcases Nat.lt_trichotomy i j with h | h | h
      · have := h2 i c h hi; omega
      · subst h; rw [hi] at h1; injection h1
      · refine absurd (List.mem_of_getElem? (i := j) ?_) hn
        rw [List.getElem?_take, if_pos h]; exact h1
theorem aUw {n m : Nat} : (m * m ≤ n → m ≤ qJ n) ∧ (¬ m * m ≤ n → qJ n < m) := by
  have h := mW n
  refine ⟨fun hc => ?_, fun hc => aAs (by omega)⟩
  have := aAs (Nat.lt_of_le_of_lt hc h.2)
  omega
end Go.Bil
namespace Go.Bil
theorem aWn {m : Nat} (h : m < 18446744073709551616) : ∃ x0 x1 x2 x3 : Nat, bBt m = [x0, x1, x2, x3, 0, 0, 0, 0] ∧ x0 < 65536 ∧ x1 < 65536 ∧ x2 < 65536 ∧ x3 < 65536 ∧ x0 + 65536 * (x1 + 65536 * (x2 + 65536 * x3)) = m :=
  ⟨_, _, _, _, rfl, by omega, by omega, by omega, by omega, by omega⟩
theorem aWp {l : List Nat} (h : l.length = 8) : ∃ d0 d1 d2 d3 d4 d5 d6 d7, l = [d0, d1, d2, d3, d4, d5, d6, d7] := by
  rcases l with _ | ⟨a0, _ | ⟨a1, _ | ⟨a2, _ | ⟨a3, _ | ⟨a4, _ | ⟨a5, _ | ⟨a6, _ | ⟨a7, _ | ⟨a8, l⟩⟩⟩⟩⟩⟩⟩⟩⟩ <;> first | exact ⟨_, _, _, _, _, _, _, _, rfl⟩ | (simp at h)
theorem aUh {D : List Nat} {j d : Nat} (h : D[j]? = some d) : nth (D.map jB) (0 + j * 1) = some (.int .u64 (d : Int)) := by
  rw [lR, Nat.zero_add, Nat.mul_one]; exact aJ jB h
theorem bDb (a b : Nat) (h : a ≤ 4611686018427387904) : IntKind.i64.wrap ((a : Int).tdiv (b : Int)) = ((a / b : Nat) : Int) := by
  have e : (a : Int).tdiv (b : Int) = ((a / b : Nat) : Int) := (Int.ofNat_tdiv a b).symm
  have hq := Nat.div_le_self a b
  rw [e]
  generalize a / b = c at *
  exact eT _ (by omega) (by omega)
theorem aPj (dx dy : Int) : len dx dy = 0 ↔ dx = 0 ∧ dy = 0 := by
  have h := mW (mI dx dy)
  unfold len
  constructor
  · intro h0
    have h1 : qJ (mI dx dy) = 0 := by omega
    rw [h1] at h
    have h2 : mI dx dy = 0 := by omega
    unfold mI at h2
    have a : dx.natAbs * dx.natAbs = 0 := by omega
    have b : dy.natAbs * dy.natAbs = 0 := by omega
    have a' := (Nat.mul_eq_zero.1 a).elim id id
    have b' := (Nat.mul_eq_zero.1 b).elim id id
    omega
  · rintro ⟨rfl, rfl⟩
    rfl
def eP (z : Pt × Pt) : List Value := bV z.1 ++ bV z.2
theorem aTd (m : List (Pt × Pt)) : ∀ y ∈ m.map eP, y.length = 4 := by
  intro y hy
  obtain ⟨x, _, rfl⟩ := List.mem_map.1 hy
  rfl
def oQ (l : List (Pt × Pt)) : Ch := l.foldl (fun s z => eL s z.1 z.2) ch0
theorem uV {l : List (Pt × Pt)} {k : Nat} {z : Pt × Pt} (h : l[k]? = some z) : oQ (l.take (k + 1)) = eL (oQ (l.take k)) z.1 z.2 := by
  unfold oQ
  rw [cE h, List.foldl_append]; rfl
structure ChL (s : Ch) : Prop where
  i : ChI s
  l : s.2.2 = mI (s.2.1.1 - s.1.1) (s.2.1.2 - s.1.2)
theorem ChL.step {s : Ch} {x y : Pt} (h : ChL s) (hx : PtI x) (hy : PtI y) : ChL (eL s x y) := by
  refine ⟨h.i.step hx hy, ?_⟩
  unfold eL
  split
  · rfl
  · exact h.l
theorem aAn {x y : Pt} (hx : PtI x) (hy : PtI y) : oQ [(x, y)] = (x, y, mI (y.1 - x.1) (y.2 - x.2)) ∧ ChL (oQ [(x, y)]) := by
  have e : oQ [(x, y)] = (x, y, mI (y.1 - x.1) (y.2 - x.2)) := sO hx hy
  rw [e]
  exact ⟨rfl, ⟨hx, hy, (nT (hx.inX hy) (hx.inY hy)).1⟩, rfl⟩
structure Btw (p q z : Pt) : Prop where
  x : min p.1 q.1 ≤ z.1 ∧ z.1 ≤ max p.1 q.1
  y : min p.2 q.2 ≤ z.2 ∧ z.2 ≤ max p.2 q.2
theorem lZ {p q c : Pt} (h : SgI p q) : Btw p q (bR p q c) := by
  unfold bR
  split
  · exact ⟨by omega, by omega⟩
  · rename_i hd
    have hn := sD (c := c) h
    have hD := kO h
    have a := aVn (a := q.1 - p.1) hn.1 hn.2 (by omega)
    have b := aVn (a := q.2 - p.2) hn.1 hn.2 (by omega)
    generalize (q.1 - p.1) * lS p q c / jT p q = u at *
    generalize (q.2 - p.2) * lS p q c / jT p q = v at *
    refine ⟨?_, ?_⟩ <;> simp only <;> omega
theorem aWb (p q : Pt) : Btw p q p := ⟨by omega, by omega⟩
theorem aWh (p q : Pt) : Btw p q q := ⟨by omega, by omega⟩
theorem aHt {ap aq bp bq : Pt} (h1 : SgI ap aq) (h2 : SgI bp bq) : Btw ap aq (kE ap aq bp bq).1 ∧ Btw bp bq (kE ap aq bp bq).2.1 := by
  have st : ∀ (s : Ch) (x y : Pt), Btw ap aq s.1 ∧ Btw bp bq s.2.1 → Btw ap aq x → Btw bp bq y → Btw ap aq (eL s x y).1 ∧ Btw bp bq (eL s x y).2.1 := by
    intro s x y hs hx hy
    unfold eL
    split
    · exact ⟨hx, hy⟩
    · exact hs
  unfold kE
  refine st _ _ _ (st _ _ _ (st _ _ _ ?_ (aWh _ _) (lZ h2)) (lZ h1) (aWb _ _)) (lZ h1) (aWh _ _)
  rw [sO h1.hp (dQ h2)]
  exact ⟨aWb _ _, lZ h2⟩
theorem sZ {d : Int} {e r : Nat} (h : d.natAbs * d.natAbs + e < r * r) : d.natAbs < r := aAs (by omega)
theorem bAh {a b : Body} {s t : Pt} (ra : 0 < a.radius) (rb : 0 < b.radius) (x1 : a.px - max a.ax (-a.ax) ≤ s.1 ∧ s.1 ≤ a.px + max a.ax (-a.ax)) (y1 : a.py - max a.ay (-a.ay) ≤ s.2 ∧ s.2 ≤ a.py + max a.ay (-a.ay))
    (x2 : b.px - max b.ax (-b.ax) ≤ t.1 ∧ t.1 ≤ b.px + max b.ax (-b.ax)) (y2 : b.py - max b.ay (-b.ay) ≤ t.2 ∧ t.2 ≤ b.py + max b.ay (-b.ay)) (hx : (t.1 - s.1).natAbs < (a.radius + b.radius).natAbs) (hy : (t.2 - s.2).natAbs < (a.radius + b.radius).natAbs) : ovl (fE a) (fE b) := by
  simp only [ovl, fE, gP, aIm, aHu]
  generalize max a.ax (-a.ax) = p at *
  generalize max a.ay (-a.ay) = q at *
  generalize max b.ax (-b.ax) = u at *
  generalize max b.ay (-b.ay) = v at *
  have hx' : -(a.radius + b.radius) < t.1 - s.1 ∧ t.1 - s.1 < a.radius + b.radius := by omega
  have hy' : -(a.radius + b.radius) < t.2 - s.2 ∧ t.2 - s.2 < a.radius + b.radius := by omega
  clear hx hy
  refine ⟨⟨?_, ?_⟩, ⟨?_, ?_⟩, ?_, ?_, ?_, ?_⟩ <;> omega
theorem aKo {b : Body} {z : Pt} (h : Btw (tU b) (tK b) z) : (b.px - max b.ax (-b.ax) ≤ z.1 ∧ z.1 ≤ b.px + max b.ax (-b.ax)) ∧ b.py - max b.ay (-b.ay) ≤ z.2 ∧ z.2 ≤ b.py + max b.ay (-b.ay) := by
  have hx := h.x
  have hy := h.y
  simp only [tU, tK] at hx hy
  omega
theorem aVu {a b : Body} (ha : Okb a) (hb : Okb b) (h : (gO a b).isSome = true) : ovl (fE a) (fE b) := by
  have w := aHt (mG ha) (mG hb)
  have hc : ¬ ((a.radius + b.radius).natAbs * (a.radius + b.radius).natAbs ≤ mI (mP (lB a b)) (nN (lB a b))) := by
    intro hc
    unfold gO at h
    rw [if_pos hc] at h
    cases h
  clear h
  have hl : (mP (lB a b)).natAbs * (mP (lB a b)).natAbs + (nN (lB a b)).natAbs * (nN (lB a b)).natAbs < (a.radius + b.radius).natAbs * (a.radius + b.radius).natAbs := Nat.lt_of_not_le hc
  have hx : (mP (lB a b)).natAbs < (a.radius + b.radius).natAbs := sZ hl
  have hy : (nN (lB a b)).natAbs < (a.radius + b.radius).natAbs := sZ (e := (mP (lB a b)).natAbs * (mP (lB a b)).natAbs) (by rw [Nat.add_comm]; exact hl)
  have ra := ha.r
  have rb := hb.r
  have w1 := aKo w.1
  have w2 := aKo w.2
  exact bAh (by omega) (by omega) w1.1 w1.2 w2.1 w2.2 hx hy
theorem aHn {a b : Body} (ha : Okb a) (hb : Okb b) (hk : a.key < b.key) (h : ¬ ovl (fE a) (fE b)) : iC a b = none := by
  unfold iC
  rw [if_neg (by omega)]
  cases hc : gO a b with
  | none => rfl
  | some c => exact absurd (aVu ha hb (by rw [hc]; rfl)) h
def aGx (xs : List Body) (i : Nat) : List Con := (pG xs i).filterMap (vI (boM xs))
def yV (xs : List Body) (i k : Nat) : List Con := (qN xs i k).filterMap (vI (boM xs))
theorem qD {xs : List Body} (hs : cG xs) (hb : ∀ b ∈ xs, Okb b) {i k : Nat} {a b : Body} (ha : xs[i]? = some a) (h : xs[k]? = some b) (hi : i + 1 ≤ k) : yV xs i (k + 1) = yV xs i k ++ (iC a b).toList := by
  have hk := dY hs (show i < k by omega) ha h
  unfold yV
  by_cases ho : ovl (fE a) (fE b)
  · rw [aQb ha h hi ho, List.filterMap_append]
    congr 1
    have e : vI (boM xs) (a.key, b.key) = iC a b := nZ (vQ hs (List.mem_of_getElem? ha)) (vQ hs (List.mem_of_getElem? h))
    cases hc : iC a b <;> simp [e, hc]
  · rw [aTu ha h hi ho, aHn (hb a (List.mem_of_getElem? ha)) (hb b (List.mem_of_getElem? h)) hk ho]
    simp
theorem aHz (xs : List Body) (i : Nat) : yV xs i (i + 1) = [] := by unfold yV; rw [aGp]; rfl
theorem aMm (xs : List Body) (i : Nat) : aGx xs (i + 1) = aGx xs i ++ yV xs i xs.length := by unfold aGx yV; rw [rH, List.filterMap_append]
theorem aRg (xs : List Body) (i : Nat) : (aGx xs i).length ≤ i * xs.length := Nat.le_trans (List.length_filterMap_le _ _) (tH xs i)
theorem aOf (xs : List Body) (i k : Nat) : (yV xs i k).length ≤ xs.length := Nat.le_trans (List.length_filterMap_le _ _) (aFk xs i k)
end Go.Bil
namespace Go.Bil
theorem aOx {a : Int} {m z q r : Nat} (hq : a.natAbs * m / z = q) (hr : a.natAbs * m % z = r) (hz : 0 < (z : Int)) :
    (if decide (a < 0) = true then (if 0 < r then -(q : Int) - 1 else -(q : Int)) else (q : Int)) = a * (m : Int) / (z : Int) := by
  by_cases ha : a < 0
  · rw [if_pos (decide_eq_true ha), aCv ha (by omega), hq, hr]
    by_cases h0 : r = 0
    · rw [if_neg (by omega), if_pos h0]
    · rw [if_pos (by omega), if_neg h0]
  · rw [if_neg (by simpa using ha), ← aBj (by omega), hq]
theorem aHj {ap aq bp bq : Pt} (h1 : SgI ap aq) (h2 : SgI bp bq) : ∀ z ∈ ([(ap, bR bp bq ap), (aq, bR bp bq aq), (bR ap aq bp, bp), (bR ap aq bq, bq)] : List (Pt × Pt)), PtI z.1 ∧ PtI z.2 := by
  intro z hz
  simp only [List.mem_cons, List.not_mem_nil, or_false] at hz
  rcases hz with rfl | rfl | rfl | rfl
  · exact ⟨h1.hp, dQ h2⟩
  · exact ⟨h1.hq, dQ h2⟩
  · exact ⟨dQ h1, h2.hp⟩
  · exact ⟨dQ h1, h2.hq⟩
end Go.Bil
namespace Go.Bil
theorem iU (a b : Nat) (h : a + b < 18446744073709551616) : IntKind.wrap .u64 ((a : Int) + (b : Int)) = ((a + b : Nat) : Int) := by rw [eX]; omega
theorem eS {z c x y : Nat} (hz : z < 65536) (hc : c < 65536) (hx : x < 65536) (hy : y < 65536) : ∃ t, t = z + x * y + c ∧ x * y < 18446744073709551616 ∧ z + x * y < 18446744073709551616 ∧ z + x * y + c < 18446744073709551616 ∧ t < 18446744073709551616 ∧ t / 65536 < 65536 := by
  have := aRk hz hc hx hy rfl
  exact ⟨_, rfl, by omega, by omega, by omega, by omega, this.2.2⟩
end Go.Bil
namespace Go.Bil
theorem bCv {a0 a1 a2 a3 a4 a5 a6 a7 : Nat} (h0 : a0 < 65536) (h1 : a1 < 65536) (h2 : a2 < 65536) (h3 : a3 < 65536) (h4 : a4 < 65536) (h5 : a5 < 65536) (h6 : a6 < 65536) (h7 : a7 < 65536) : ∀ x ∈ [a0, a1, a2, a3, a4, a5, a6, a7], x < 65536 := by
  intro x hx
  simp only [List.mem_cons, List.not_mem_nil, or_false] at hx
  omega
end Go.Bil
namespace Go.Bil
structure BestC (ys : List Con) (i j : Nat) : Prop where
  lt : ys ≠ [] → j < ys.length
  z : i = 0 → j = 0
  ji : i ≠ 0 → j < i
  mx : ∀ (p : Nat) (x b : Con), p < i → ys[p]? = some x → ys[j]? = some b → x.depth ≤ b.depth ∧ (p < j → x.depth < b.depth)
theorem BestC.new {ys : List Con} {i j : Nat} {x b : Con} (h : BestC ys i j) (hx : ys[i]? = some x) (hb : ys[j]? = some b) (hc : x.depth > b.depth) : BestC ys (i + 1) i := by
  have hi := (List.getElem?_eq_some_iff.1 hx).1
  refine ⟨fun _ => hi, fun h => by omega, fun _ => by omega, fun p y c hp hy hcx => ?_⟩
  rw [hx] at hcx
  injection hcx with hcx
  subst hcx
  by_cases hpi : p = i
  · subst hpi
    rw [hx] at hy
    injection hy with hy
    subst hy
    exact ⟨Int.le_refl _, fun h => by omega⟩
  · have := (h.mx p y b (by omega) hy hb).1
    exact ⟨by omega, fun _ => by omega⟩
theorem BestC.old {ys : List Con} {i j : Nat} {x b : Con} (h : BestC ys i j) (hx : ys[i]? = some x) (hb : ys[j]? = some b) (hc : ¬ x.depth > b.depth) : BestC ys (i + 1) j := by
  refine ⟨h.lt, fun h => by omega, fun _ => ?_, fun p y c hp hy hcx => ?_⟩
  · by_cases hi : i = 0
    · have := h.z hi; omega
    · have := h.ji hi; omega
  · rw [hb] at hcx
    injection hcx with hcx
    subst hcx
    by_cases hpi : p = i
    · subst hpi
      rw [hx] at hy
      injection hy with hy
      subst hy
      refine ⟨by omega, fun hpj => ?_⟩
      by_cases hi : p = 0
      · have := h.z hi; omega
      · have := h.ji hi; omega
    · exact h.mx p y b (by omega) hy hb
theorem BestC.done {ys : List Con} {m j : Nat} {d : Con} (h : BestC ys m j) (hn : ys ≠ []) (hl : ys.length = m) (hd : (aWt ys).getD bBg = d) : ∃ x, ys[j]? = some x ∧ d = x := by
  have hj := h.lt hn
  refine ⟨ys[j], List.getElem?_eq_getElem hj, ?_⟩
  have hg := List.getElem?_eq_getElem hj
  obtain ⟨h1, h2, h3⟩ := aKz hd hn
  obtain ⟨p, hp⟩ := List.getElem?_of_mem h1
  have hpl := (List.getElem?_eq_some_iff.1 hp).1
  have e1 := (h.mx p d _ (by omega) hp hg).1
  have e2 := h2 _ (List.getElem_mem hj)
  refine (h3 j _ hg ?_ (by omega)).symm
  intro hm
  obtain ⟨q, hq⟩ := List.getElem?_of_mem hm
  rw [List.getElem?_take] at hq
  split at hq
  · have := (h.mx q d _ (by omega) hq hg).2 (by omega)
    omega
  · cases hq
theorem aVk {xs : List Body} (hs : cG xs) {c : Con} (h : c ∈ jG xs) : ∃ a b, a ∈ xs ∧ b ∈ xs ∧ a.key < b.key ∧ iC a b = some c ∧ c.low = a.key ∧ c.high = b.key := by
  obtain ⟨z, hz, hc⟩ := List.mem_filterMap.1 h
  obtain ⟨a, b, ha, hb, hk, rfl, h1, h2⟩ := uK hs hz
  rw [nZ h1 h2] at hc
  have := aMw hk hc
  exact ⟨a, b, ha, hb, hk, hc, this.1, this.2⟩
end Go.Bil

namespace Go.Bil
def bBm (a : Bx) : Prop := a = kA ∨ (a.x0 ≤ a.x1 ∧ a.y0 ≤ a.y1)
structure Meas where
  nb : Int
  ns : Int
  sp : Nat
  sx : Int
  sy : Int
  bx : Bx
  ov : Int
deriving DecidableEq
structure OkM (k : Nat) (m : Meas) : Prop where
  g : bBm m.bx
  x : m.bx = kA ∨ Okx m.bx
  nb : 0 ≤ m.nb ∧ m.nb ≤ k
  ns : 0 ≤ m.ns ∧ m.ns ≤ m.nb
  sp : m.sp < 18446744073709551616
  sx : -(16777216 * (k : Int)) ≤ m.sx ∧ m.sx ≤ 16777216 * k
  sy : -(16777216 * (k : Int)) ≤ m.sy ∧ m.sy ≤ 16777216 * k
  ov : -(2147483648 * ((k : Int) * k)) ≤ m.ov ∧ m.ov ≤ 2147483648 * ((k : Int) * k)
theorem OkM.mono {j k : Nat} {a : Meas} (h : OkM j a) (hjk : j ≤ k) : OkM k a := by
  have n1 := h.nb; have x1 := h.sx; have y1 := h.sy; have o1 := h.ov
  have hsq : (j : Int) * j ≤ (k : Int) * k := Int.mul_le_mul (by omega) (by omega) (by omega) (by omega)
  refine ⟨h.g, h.x, by omega, h.ns, h.sp, by omega, by omega, ?_⟩
  generalize (j : Int) * j = J at *
  generalize (k : Int) * k = K at *
  omega
theorem aJm {xs : List Body} : (jG xs).length ≤ xs.length * xs.length := Nat.le_trans (yG xs) (tH xs xs.length)
end Go.Bil

namespace Go.Bil
end Go.Bil

namespace Go.Bil
end Go.Bil
namespace Go.Bil
structure RightOne (xs : List Body) (c : Con) : Prop where
  ne : ¬ c.low = c.high
  l : 0 ≤ dK c.low xs
  h : 0 ≤ dK c.high xs
instance (xs : List Body) (c : Con) : Decidable (RightOne xs c) := decidable_of_iff (¬ c.low = c.high ∧ 0 ≤ dK c.low xs ∧ 0 ≤ dK c.high xs) ⟨fun h => ⟨h.1, h.2.1, h.2.2⟩, fun h => ⟨h.1, h.2, h.3⟩⟩
end Go.Bil
namespace Go.Bil
theorem aTz {xs : List Body} {i : Nat} {b : Body} (h : xs[i]? = some b) : xs.getD i default = b := by rw [List.getD_eq_getElem?_getD, h]; rfl
end Go.Bil
namespace Go.Bil
theorem pS {xs : List Body} {k : Int} (h : 0 ≤ dK k xs) : ∃ (p : Nat) (x : Body), xs[p]? = some x ∧ x.key = k ∧ dK k xs = (p : Int) := (fF k xs).elim (fun e => absurd e.1 (by omega)) id
end Go.Bil

namespace Go.Bil
def gV (n l : Int) : Int := max (-l) (min n l)
theorem fA (n : Int) {l : Int} (h : 0 ≤ l) : -l ≤ gV n l ∧ gV n l ≤ l := by unfold gV; omega
theorem aOz {dx dy : Int} (hx : qW dx) (hy : qW dy) : (-65536 ≤ (jW dx dy).1 ∧ (jW dx dy).1 ≤ 65536) ∧ (-65536 ≤ (jW dx dy).2 ∧ (jW dx dy).2 ≤ 65536) := by
  have hl := rI hx hy
  unfold jW
  by_cases h0 : len dx dy = 0
  · rw [if_pos h0]; decide
  · rw [if_neg h0]
    have hs := (mW (mI dx dy)).2
    have hle : ∀ a : Nat, a * a ≤ mI dx dy → a ≤ qJ (mI dx dy) := fun a ha => by
      by_cases g : a ≤ qJ (mI dx dy)
      · exact g
      · have := Nat.mul_le_mul (show qJ (mI dx dy) + 1 ≤ a by omega) (show qJ (mI dx dy) + 1 ≤ a by omega); omega
    have h1 := hle dx.natAbs (by unfold mI; omega)
    have h2 := hle dy.natAbs (by unfold mI; omega)
    have hp : 0 < len dx dy := by omega
    have key : ∀ d : Int, d.natAbs ≤ qJ (mI dx dy) → -65536 ≤ d * 65536 / len dx dy ∧ d * 65536 / len dx dy ≤ 65536 := fun d hd => by
      have hd' : -(len dx dy) ≤ d ∧ d ≤ len dx dy := by unfold len; omega
      exact ⟨Int.le_ediv_of_mul_le hp (by omega), Int.ediv_le_of_le_mul hp (by omega)⟩
    have k1 := key dx h1
    have k2 := key dy h2
    rw [iF _ (by omega) (by omega), iF _ (by omega) (by omega)]
    exact ⟨k1, k2⟩
structure Okn (c : Con) : Prop where
  x : -65536 ≤ c.nx ∧ c.nx ≤ 65536
  y : -65536 ≤ c.ny ∧ c.ny ≤ 65536
  d : -2147483648 ≤ c.depth ∧ c.depth ≤ 2147483647
theorem aGs {a b : Body} {c : Con} (ha : Okb a) (hb : Okb b) (h : gO a b = some c) : Okn c := by
  have hw : ∀ x : Int, -2147483648 ≤ IntKind.wrap .i32 x ∧ IntKind.wrap .i32 x ≤ 2147483647 := fun x => by
    simp only [IntKind.wrap, IntKind.bits, IntKind.signed, Bool.true_and, decide_eq_true_eq, ge_iff_le]; split <;> omega
  have hd := aPv ha hb
  have hu := aOz hd.1 hd.2
  unfold gO at h
  split at h
  · cases h
  · injection h with h
    revert hu h
    generalize jW (mP (lB a b)) (nN (lB a b)) = u
    generalize a.radius + b.radius - len (mP (lB a b)) (nN (lB a b)) = q
    intro hu h
    subst h
    exact Okn.mk hu.1 hu.2 (hw q)
structure OkC (xs : List Body) (c : Con) : Prop where
  ne : c.low < c.high
  l : 0 ≤ dK c.low xs
  h : 0 ≤ dK c.high xs
  n : Okn c
theorem aDn {xs : List Body} {b : Body} (hb : b ∈ xs) : 0 ≤ dK b.key xs := by
  rcases fF b.key xs with ⟨_, g⟩ | ⟨i, y, _, _, g⟩
  · exact absurd rfl (g b hb)
  · omega
theorem nB {xs : List Body} (hs : cG xs) (hb : ∀ b ∈ xs, Okb b) : ∀ c ∈ jG xs, OkC xs c := fun c hc => by
  obtain ⟨a, b, ha, hb', hk, h, e1, e2⟩ := aVk hs hc
  have h' := h
  unfold iC at h'
  rw [if_neg (by omega)] at h'
  exact ⟨by omega, by rw [e1]; exact aDn ha, by rw [e2]; exact aDn hb', aGs (hb a ha) (hb b hb') h'⟩
def qY (c : Con) (a b : Body) : Int := ((b.vx - a.vx) * c.nx + (b.vy - a.vy) * c.ny) / 65536
def iL (c : Con) (a b : Body) : Int := if 0 ≤ qY c a b ∨ a.mass + b.mass = 0 then 0 else -qY c a b * (65536 + max a.bounce b.bounce) / (a.mass + b.mass)
def kR (j m n : Int) : Int := j * m / 65536 * n / 65536
theorem sF {c : Con} {a b : Body} (hc : Okn c) (ha : Okb a) (hb : Okb b) : (-2199023255552 ≤ (b.vx - a.vx) * c.nx ∧ (b.vx - a.vx) * c.nx ≤ 2199023255552) ∧ (-2199023255552 ≤ (b.vy - a.vy) * c.ny ∧ (b.vy - a.vy) * c.ny ≤ 2199023255552) ∧ -67108864 ≤ qY c a b ∧ qY c a b ≤ 67108864 := by
  have h1 := ha.v; have h2 := hb.v; have h3 := hc.x; have h4 := hc.y
  have m1 := wH (a := b.vx - a.vx) (b := c.nx) (A := 33554432) (B := 65536) (by omega) (by omega)
  have m2 := wH (a := b.vy - a.vy) (b := c.ny) (A := 33554432) (B := 65536) (by omega) (by omega)
  unfold qY
  omega
theorem wL {c : Con} {a b : Body} (hc : Okn c) (ha : Okb a) (hb : Okb b) (h : ¬ (0 ≤ qY c a b)) : 0 ≤ -qY c a b * (65536 + max a.bounce b.bounce) ∧ -qY c a b * (65536 + max a.bounce b.bounce) ≤ 8796093022208 := by
  have h1 := sF hc ha hb
  have h2 := ha.c; have h3 := hb.c
  have m := wH (a := -qY c a b) (b := 65536 + max a.bounce b.bounce) (A := 67108864) (B := 131072) (by omega) (by omega)
  have n := Int.mul_nonneg (a := -qY c a b) (b := 65536 + max a.bounce b.bounce) (by omega) (by omega)
  omega
theorem aDg {x s m : Int} (hx : 0 ≤ x) (hs : 0 < s) (hm : 0 ≤ m ∧ m ≤ s) : 0 ≤ x / s ∧ x / s ≤ x ∧ 0 ≤ x / s * m ∧ x / s * m ≤ x := by
  have h0 : 0 ≤ x / s := Int.ediv_nonneg hx (by omega)
  have h1 : x / s * s ≤ x := Int.ediv_mul_le x (by omega)
  have h2 : x / s * m ≤ x / s * s := Int.mul_le_mul_of_nonneg_left hm.2 h0
  have h3 : x / s * 1 ≤ x / s * s := Int.mul_le_mul_of_nonneg_left (by omega) h0
  have h4 : 0 ≤ x / s * m := Int.mul_nonneg h0 hm.1
  omega
theorem lY {c : Con} {a b : Body} (hc : Okn c) (ha : Okb a) (hb : Okb b) {m : Int} (hm : 0 ≤ m ∧ m ≤ a.mass + b.mass) : 0 ≤ iL c a b ∧ iL c a b ≤ 8796093022208 ∧ 0 ≤ iL c a b * m ∧ iL c a b * m ≤ 8796093022208 := by
  have h2 := ha.m; have h3 := hb.m
  unfold iL
  split
  · simp
  · rename_i h
    have hp := wL hc ha hb (fun g => h (.inl g))
    have hd := aDg hp.1 (s := a.mass + b.mass) (by omega) hm
    omega
theorem iK {j m n : Int} (h : 0 ≤ j * m ∧ j * m ≤ 8796093022208) (hn : -65536 ≤ n ∧ n ≤ 65536) : (0 ≤ j * m / 65536 ∧ j * m / 65536 ≤ 134217728) ∧ (-8796093022208 ≤ j * m / 65536 * n ∧ j * m / 65536 * n ≤ 8796093022208) ∧ -134217728 ≤ kR j m n ∧ kR j m n ≤ 134217728 := by
  have hk : 0 ≤ j * m / 65536 ∧ j * m / 65536 ≤ 134217728 := by omega
  have m1 := wH (a := j * m / 65536) (b := n) (A := 134217728) (B := 65536) (by omega) (by omega)
  unfold kR
  generalize j * m / 65536 = k at *
  omega
def xG (xs : List Body) (k : Int) : Body := xs.getD (dK k xs).toNat default
theorem tR {xs : List Body} {k : Int} {p : Nat} {x : Body} (hx : xs[p]? = some x) (hp : dK k xs = (p : Int)) : xG xs k = x := by
  unfold xG
  rw [hp, Int.toNat_natCast, aTz hx]
theorem vS {xs : List Body} {k : Int} (h : 0 ≤ dK k xs) : xG xs k ∈ xs ∧ (xG xs k).key = k := by
  obtain ⟨p, x, hx, hk, hf⟩ := pS h
  rw [tR hx hf]
  exact ⟨List.mem_of_getElem? hx, hk⟩
def jV (xs : List Body) (c : Con) : Int := iL c (xG xs c.low) (xG xs c.high)
def ctr (xs : List Body) (g : Con → Int) (c : Con) (b : Body) : Int := if c.low = b.key then -kR (jV xs c) b.mass (g c) else if c.high = b.key then kR (jV xs c) b.mass (g c) else 0
def fM (xs : List Body) (cs : List Con) (g : Con → Int) (b : Body) : Int := (cs.map (fun c => ctr xs g c b)).sum
theorem gZ {xs : List Body} {cs : List Con} {k : Nat} {c : Con} (h : cs[k]? = some c) (g : Con → Int) (b : Body) : fM xs (cs.take (k + 1)) g b = fM xs (cs.take k) g b + ctr xs g c b := by
  unfold fM
  rw [cE h, List.map_append, List.sum_append]
  simp
theorem aAu (xs : List Body) (cs : List Con) (g : Con → Int) (b : Body) : fM xs (cs.take 0) g b = 0 := by simp [fM]
theorem aTm {xs : List Body} {c : Con} {g : Con → Int} {b : Body} (hs : cG xs) (hx : ∀ b ∈ xs, Okb b) (hc : OkC xs c) (hg : -65536 ≤ g c ∧ g c ≤ 65536) (hb : b ∈ xs) : -134217728 ≤ ctr xs g c b ∧ ctr xs g c b ≤ 134217728 := by
  obtain ⟨l1, l2⟩ := vS hc.l
  obtain ⟨h1, h2⟩ := vS hc.h
  have ma := (hx _ l1).m; have mb := (hx _ h1).m
  unfold ctr
  split
  · rename_i e
    have : xG xs c.low = b := jF hs l1 hb (by rw [l2, e])
    have hr := lY hc.n (hx _ l1) (hx _ h1) (m := b.mass) (by rw [← this]; omega)
    have := (iK hr.2.2 hg).2.2
    unfold jV
    omega
  · split
    · rename_i e
      have : xG xs c.high = b := jF hs h1 hb (by rw [h2, e])
      have hr := lY hc.n (hx _ l1) (hx _ h1) (m := b.mass) (by rw [← this]; omega)
      have := (iK hr.2.2 hg).2.2
      unfold jV
      omega
    · omega
theorem aJw {cs : List Con} {f : Con → Int} {B : Int} (hB : 0 ≤ B) (h : ∀ c ∈ cs, -B ≤ f c ∧ f c ≤ B) : -(cs.length * B) ≤ (cs.map f).sum ∧ (cs.map f).sum ≤ cs.length * B := by
  induction cs with
  | nil => simp
  | cons c cs ih =>
    have h0 := h c (by simp)
    have h1 := ih (fun d hd => h d (by simp [hd]))
    rw [List.map_cons, List.sum_cons, List.length_cons, Int.natCast_add, Int.add_mul]
    omega
theorem pA {xs : List Body} {cs : List Con} {g : Con → Int} {b : Body} (hs : cG xs) (hx : ∀ b ∈ xs, Okb b) (hc : ∀ c ∈ cs, OkC xs c) (hg : ∀ c ∈ cs, -65536 ≤ g c ∧ g c ≤ 65536) (hb : b ∈ xs) : -(cs.length * 134217728) ≤ fM xs cs g b ∧ fM xs cs g b ≤ cs.length * 134217728 :=
  aJw (by decide) (fun c h => aTm hs hx (hc c h) (hg c h) hb)
def rE (xs : List Body) (cs : List Con) (b : Body) : Body := { b with vx := gV (b.vx + fM xs cs (·.nx) b) 16777216, vy := gV (b.vy + fM xs cs (·.ny) b) 16777216 }
def aHs (xs : List Body) (cs : List Con) (b : Body) : Bool := decide (gV (b.vx + fM xs cs (·.nx) b) 16777216 ≠ b.vx + fM xs cs (·.nx) b) || decide (gV (b.vy + fM xs cs (·.ny) b) 16777216 ≠ b.vy + fM xs cs (·.ny) b)
def yF (xs : List Body) (cs : List Con) : List Body := xs.map (rE xs cs)
def aIo (xs : List Body) (cs : List Con) : Bool := xs.any (aHs xs cs)
def fL (xs : List Body) (cs : List Con) : Nat → List Body × Bool
  | 0 => (xs, false)
  | k + 1 => (yF (fL xs cs k).1 cs, (fL xs cs k).2 || aIo (fL xs cs k).1 cs)
structure SameB (a b : Body) : Prop where
  key : a.key = b.key
  radius : a.radius = b.radius
  ax : a.ax = b.ax
  ay : a.ay = b.ay
  mass : a.mass = b.mass
  bounce : a.bounce = b.bounce
structure Like (xs ys : List Body) : Prop where
  len : ys.length = xs.length
  at_ : ∀ (i : Nat) (x y : Body), xs[i]? = some x → ys[i]? = some y → SameB y x
theorem Like.refl (xs : List Body) : Like xs xs := ⟨rfl, fun i x y h1 h2 => by rw [h1] at h2; injection h2 with h2; subst h2; exact ⟨rfl, rfl, rfl, rfl, rfl, rfl⟩⟩
theorem Like.trans {xs ys zs : List Body} (h : Like xs ys) (g : Like ys zs) : Like xs zs := ⟨by rw [g.len, h.len], fun i x z hx hz => by
  have hi := (List.getElem?_eq_some_iff.1 hx).1
  have hy : ys[i]? = some (ys[i]'(by rw [h.len]; exact hi)) := List.getElem?_eq_getElem _
  have a := h.at_ i x _ hx hy
  have b := g.at_ i _ z hy hz
  exact ⟨b.key.trans a.key, b.radius.trans a.radius, b.ax.trans a.ax, b.ay.trans a.ay, b.mass.trans a.mass, b.bounce.trans a.bounce⟩⟩
theorem Like.map {xs : List Body} {f : Body → Body} (h : ∀ b ∈ xs, SameB (f b) b) : Like xs (xs.map f) := ⟨by simp, fun i x y hx hy => by
  rw [List.getElem?_map, hx] at hy
  injection hy with hy
  subst hy
  exact h x (List.mem_of_getElem? hx)⟩
theorem Like.keys {xs ys : List Body} (h : Like xs ys) : ys.map (·.key) = xs.map (·.key) := by
  apply List.ext_getElem?
  intro i
  rw [List.getElem?_map, List.getElem?_map]
  by_cases hi : i < xs.length
  · have h1 : xs[i]? = some xs[i] := List.getElem?_eq_getElem hi
    have h2 : ys[i]? = some (ys[i]'(by rw [h.len]; exact hi)) := List.getElem?_eq_getElem _
    rw [h1, h2]
    exact congrArg some (h.at_ i _ _ h1 h2).key
  · have hl := h.len
    rw [List.getElem?_eq_none (show ys.length ≤ i by omega), List.getElem?_eq_none (show xs.length ≤ i by omega)]
theorem Like.sorted {xs ys : List Body} (h : Like xs ys) (hs : cG xs) : cG ys := by
  have := h.keys
  unfold cG at *
  have h1 : (xs.map (·.key)).Pairwise (· < ·) := List.pairwise_map.2 hs
  rw [← this] at h1
  exact List.pairwise_map.1 h1
theorem Like.find {xs ys : List Body} (h : Like xs ys) (k : Int) : dK k ys = dK k xs := rG k h.keys
theorem Like.okc {xs ys : List Body} (h : Like xs ys) {c : Con} (hc : OkC xs c) : OkC ys c := ⟨hc.ne, by rw [h.find]; exact hc.l, by rw [h.find]; exact hc.h, hc.n⟩
theorem aPk (xs : List Body) (cs : List Con) : Like xs (yF xs cs) := Like.map (fun b _ => ⟨rfl, rfl, rfl, rfl, rfl, rfl⟩)
theorem aZc {xs : List Body} {cs : List Con} (h : ∀ b ∈ xs, Okb b) : ∀ b ∈ yF xs cs, Okb b := fun b hb => by
  obtain ⟨x, hx, rfl⟩ := List.mem_map.1 hb
  have := h x hx
  exact ⟨this.r, this.a, this.m, this.c, this.p, ⟨(fA _ (by decide)).1, (fA _ (by decide)).2, (fA _ (by decide)).1, (fA _ (by decide)).2⟩⟩
theorem gB (xs : List Body) (cs : List Con) : ∀ k, Like xs (fL xs cs k).1
  | 0 => Like.refl xs
  | k + 1 => (gB xs cs k).trans (aPk _ cs)
theorem mX {xs : List Body} {cs : List Con} (h : ∀ b ∈ xs, Okb b) : ∀ k, ∀ b ∈ (fL xs cs k).1, Okb b
  | 0 => h
  | k + 1 => aZc (mX h k)
def iQ (b : Body) : Body := if b.mass = 0 then b else { b with vy := gV (b.vy - 1024) 16777216 }
def jS (b : Body) : Bool := decide (b.mass ≠ 0) && decide (gV (b.vy - 1024) 16777216 ≠ b.vy - 1024)
def lX (xs : List Body) : List Body := xs.map iQ
theorem aMx (b : Body) : SameB (iQ b) b := by unfold iQ; split <;> exact ⟨rfl, rfl, rfl, rfl, rfl, rfl⟩
theorem iP (xs : List Body) : Like xs (lX xs) := Like.map (fun b _ => aMx b)
theorem aEy {b : Body} (h : Okb b) : Okb (iQ b) := by
  unfold iQ
  split
  · exact h
  · exact ⟨h.r, h.a, h.m, h.c, h.p, ⟨h.v.1, h.v.2.1, (fA _ (by decide)).1, (fA _ (by decide)).2⟩⟩
theorem sR {xs : List Body} (h : ∀ b ∈ xs, Okb b) : ∀ b ∈ lX xs, Okb b := fun b hb => by
  obtain ⟨x, hx, rfl⟩ := List.mem_map.1 hb
  exact aEy (h x hx)
def lO (c : Con) (a b : Body) : Int := if c.depth - 1024 ≤ 0 ∨ (a.mass = 0 ∧ b.mass = 0) then 0 else (c.depth - 1024) * 26214 / 65536
def mV (c : Con) (a b : Body) (m : Int) : Int := lO c a b * m / max 1 (a.mass + b.mass)
theorem vK {c : Con} {a b : Body} (hc : Okn c) : 0 ≤ lO c a b ∧ lO c a b ≤ 1073741824 := by
  have := hc.d
  unfold lO
  split <;> omega
theorem aJf {c : Con} {a b : Body} {m : Int} (hc : Okn c) (hm : 0 ≤ m ∧ m ≤ 1048576) : (0 ≤ lO c a b * m ∧ lO c a b * m ≤ 1125899906842624) ∧ 0 ≤ mV c a b m ∧ mV c a b m ≤ 1125899906842624 := by
  have h := vK (a := a) (b := b) hc
  have m1 := wH (a := lO c a b) (b := m) (A := 1073741824) (B := 1048576) (by omega) (by omega)
  have h0 := Int.mul_nonneg h.1 hm.1
  have hd := aDg h0 (s := max 1 (a.mass + b.mass)) (by omega) (m := 0) (by omega)
  unfold mV
  omega
theorem uA {c : Con} {a b : Body} {m : Int} (hc : Okn c) (hm : 0 ≤ m ∧ m ≤ a.mass + b.mass) : 0 ≤ mV c a b m ∧ mV c a b m ≤ 1073741824 := by
  have h := vK (a := a) (b := b) hc
  have hs : m ≤ max 1 (a.mass + b.mass) := by omega
  have h1 : lO c a b * m ≤ lO c a b * max 1 (a.mass + b.mass) := Int.mul_le_mul_of_nonneg_left hs h.1
  have h2 : mV c a b m ≤ lO c a b := Int.ediv_le_of_le_mul (by omega) h1
  have h3 : 0 ≤ mV c a b m := Int.ediv_nonneg (Int.mul_nonneg h.1 hm.1) (by omega)
  omega
def qL (xs : List Body) (g : Con → Int) (c : Con) (b : Body) : Int := if c.low = b.key then -(mV c (xG xs c.low) (xG xs c.high) b.mass * g c / 65536) else if c.high = b.key then mV c (xG xs c.low) (xG xs c.high) b.mass * g c / 65536 else 0
def qK (xs : List Body) (cs : List Con) (g : Con → Int) (b : Body) : Int := (cs.map (fun c => qL xs g c b)).sum
theorem fT {xs : List Body} {cs : List Con} {k : Nat} {c : Con} (h : cs[k]? = some c) (g : Con → Int) (b : Body) : qK xs (cs.take (k + 1)) g b = qK xs (cs.take k) g b + qL xs g c b := by
  unfold qK
  rw [cE h, List.map_append, List.sum_append]
  simp
theorem qF (xs : List Body) (cs : List Con) (g : Con → Int) (b : Body) : qK xs (cs.take 0) g b = 0 := by simp [qK]
theorem jO {s n : Int} (hs : 0 ≤ s ∧ s ≤ 1073741824) (hn : -65536 ≤ n ∧ n ≤ 65536) : (-70368744177664 ≤ s * n ∧ s * n ≤ 70368744177664) ∧ -1073741824 ≤ s * n / 65536 ∧ s * n / 65536 ≤ 1073741824 := by
  have m1 := wH (a := s) (b := n) (A := 1073741824) (B := 65536) (by omega) (by omega)
  omega
theorem aSv {xs : List Body} {c : Con} {g : Con → Int} {b : Body} (hs : cG xs) (hx : ∀ b ∈ xs, Okb b) (hc : OkC xs c) (hg : -65536 ≤ g c ∧ g c ≤ 65536) (hb : b ∈ xs) : -1073741824 ≤ qL xs g c b ∧ qL xs g c b ≤ 1073741824 := by
  obtain ⟨l1, l2⟩ := vS hc.l
  obtain ⟨h1, h2⟩ := vS hc.h
  have ma := (hx _ l1).m; have mb := (hx _ h1).m
  unfold qL
  split
  · rename_i e
    have : xG xs c.low = b := jF hs l1 hb (by rw [l2, e])
    have hr := uA (c := c) (a := xG xs c.low) (b := xG xs c.high) (m := b.mass) hc.n (by rw [← this]; omega)
    have := (jO hr hg).2
    omega
  · split
    · rename_i e
      have : xG xs c.high = b := jF hs h1 hb (by rw [h2, e])
      have hr := uA (c := c) (a := xG xs c.low) (b := xG xs c.high) (m := b.mass) hc.n (by rw [← this]; omega)
      have := (jO hr hg).2
      omega
    · omega
theorem aGf {xs : List Body} {cs : List Con} {g : Con → Int} {b : Body} (hs : cG xs) (hx : ∀ b ∈ xs, Okb b) (hc : ∀ c ∈ cs, OkC xs c) (hg : ∀ c ∈ cs, -65536 ≤ g c ∧ g c ≤ 65536) (hb : b ∈ xs) : -(cs.length * 1073741824) ≤ qK xs cs g b ∧ qK xs cs g b ≤ cs.length * 1073741824 :=
  aJw (by decide) (fun c h => aSv hs hx (hc c h) (hg c h) hb)
def zA (b : Body) (s : Int) : Int := b.px + s + b.vx / 64
def yW (b : Body) (s : Int) : Int := b.py + s + b.vy / 64
def mM (b : Body) (sx sy : Int) : Body := { b with px := gV (zA b sx) 1073741824, py := gV (yW b sy) 1073741824 }
def yT (b : Body) (sx sy : Int) : Bool := decide (gV (zA b sx) 1073741824 ≠ zA b sx) || decide (gV (yW b sy) 1073741824 ≠ yW b sy)
def aJs (xs : List Body) (cs : List Con) (ys : List Body) : List Body := ys.map (fun b => mM b (qK xs cs (·.nx) b) (qK xs cs (·.ny) b))
def aJz (xs : List Body) (cs : List Con) (ys : List Body) : Bool := ys.any (fun b => yT b (qK xs cs (·.nx) b) (qK xs cs (·.ny) b))
theorem aPl (b : Body) (sx sy : Int) : SameB (mM b sx sy) b := ⟨rfl, rfl, rfl, rfl, rfl, rfl⟩
theorem aNc (xs : List Body) (cs : List Con) (ys : List Body) : Like ys (aJs xs cs ys) := Like.map (fun b _ => aPl b _ _)
theorem aUt {b : Body} (h : Okb b) (sx sy : Int) : Okb (mM b sx sy) := ⟨h.r, h.a, h.m, h.c, ⟨(fA _ (by decide)).1, (fA _ (by decide)).2, (fA _ (by decide)).1, (fA _ (by decide)).2⟩, h.v⟩
theorem aUd {xs : List Body} {cs : List Con} {ys : List Body} (h : ∀ b ∈ ys, Okb b) : ∀ b ∈ aJs xs cs ys, Okb b := fun b hb => by
  obtain ⟨x, hx, rfl⟩ := List.mem_map.1 hb
  exact aUt (h x hx) _ _
def jC (xs : List Body) : List Body := (fL (lX xs) (jG xs) 4).1
def oT (xs : List Body) : List Body := aJs xs (jG xs) (jC xs)
def qQ (xs : List Body) : Bool := (xs.any jS || (fL (lX xs) (jG xs) 4).2) || aJz xs (jG xs) (jC xs)
def aGb (b : Body) : Body := mM (iQ b) 0 0
theorem aAi (xs : List Body) : Like xs (oT xs) := (iP xs).trans ((gB _ _ 4).trans (aNc _ _ _))
theorem aUu {xs : List Body} (h : ∀ b ∈ xs, Okb b) : ∀ b ∈ oT xs, Okb b := aUd (mX (sR h) 4)
end Go.Bil

namespace Go.Bil
structure Apart (xs : List Body) (cs : List Con) (k : Nat) (q : Int) : Prop where
  s : cG xs
  f : ∀ c ∈ cs, (c.low ≠ q ∧ 0 ≤ dK c.low xs) ∧ c.high ≠ q ∧ 0 ≤ dK c.high xs
  at_ : ∃ y, xs[k]? = some y ∧ y.key = q
theorem Apart.like {xs ys : List Body} {cs : List Con} {k : Nat} {q : Int} (h : Apart xs cs k q) (l : Like xs ys) : Apart ys cs k q := by
  refine ⟨l.sorted h.s, fun c hc => ?_, ?_⟩
  · rw [l.find, l.find]; exact h.f c hc
  · obtain ⟨y, hy, e⟩ := h.at_
    have hk := (List.getElem?_eq_some_iff.1 hy).1
    have h2 : ys[k]? = some (ys[k]'(by rw [l.len]; exact hk)) := List.getElem?_eq_getElem _
    exact ⟨_, h2, by rw [(l.at_ k _ _ hy h2).key, e]⟩
def jU (xs : List Body) : Nat → List Body
  | 0 => xs
  | k + 1 => oT (jU xs k)
def rC (xs : List Body) : Nat → Nat
  | 0 => 0
  | k + 1 => rC xs k + (jG (jU xs k)).length
def yM (xs : List Body) : Nat → Bool
  | 0 => false
  | k + 1 => yM xs k || qQ (jU xs k)
theorem rJ (xs : List Body) : ∀ k, Like xs (jU xs k)
  | 0 => Like.refl xs
  | k + 1 => (rJ xs k).trans (aAi _)
theorem aEp {xs : List Body} (h : ∀ b ∈ xs, Okb b) : ∀ k, ∀ b ∈ jU xs k, Okb b
  | 0 => h
  | k + 1 => aUu (aEp h k)
theorem aBz {xs : List Body} (hs : cG xs) (k : Nat) : cG (jU xs k) := (rJ xs k).sorted hs
end Go.Bil

namespace Go.Bil
theorem pJ {xs : List Body} {k : Int} (hs : cG xs) (h : 0 ≤ dK k xs) : ∃ (p : Nat) (x : Body), xs[p]? = some x ∧ x.key = k ∧ uC k xs = p ∧ xG xs k = x ∧ x ∈ xs := by
  obtain ⟨p, x, hp, hk, hf⟩ := pS h
  subst hk
  exact ⟨p, x, hp, rfl, rU (by have := (List.getElem?_eq_some_iff.1 hp).1; omega) (fun j c hj hc => dY hs hj hc hp) (fun j c hj hc => by have := uG hs hj hp hc; omega), tR hp hf, List.mem_of_getElem? hp⟩
theorem aDv {α : Type} {xs : List Body} (hs : cG xs) {pa pb : Nat} {xa xb : Body} (ha : xs[pa]? = some xa) (hb : xs[pb]? = some xb) (hne : xa.key < xb.key) {F G : Body → α} (h : ∀ b ∈ xs, b.key ≠ xa.key → b.key ≠ xb.key → G b = F b) : ((xs.map F).set pa (G xa)).set pb (G xb) = xs.map G := by
  apply List.ext_getElem?
  intro i
  have la := (List.getElem?_eq_some_iff.1 ha).1
  have lb := (List.getElem?_eq_some_iff.1 hb).1
  by_cases h1 : pb = i
  · subst h1
    rw [List.getElem?_set_self (by simpa using lb), List.getElem?_map, hb]; rfl
  · rw [List.getElem?_set_ne h1]
    by_cases h2 : pa = i
    · subst h2
      rw [List.getElem?_set_self (by simpa using la), List.getElem?_map, ha]; rfl
    · rw [List.getElem?_set_ne h2, List.getElem?_map, List.getElem?_map]
      cases hi : xs[i]? with
      | none => rfl
      | some b =>
        have e1 : b.key ≠ xa.key := by
          rcases Nat.lt_or_gt_of_ne h2 with g | g
          · have := dY hs g ha hi; omega
          · have := dY hs g hi ha; omega
        have e2 : b.key ≠ xb.key := by
          rcases Nat.lt_or_gt_of_ne h1 with g | g
          · have := dY hs g hb hi; omega
          · have := dY hs g hi hb; omega
        exact congrArg some (h b (List.mem_of_getElem? hi) e1 e2).symm
def aBe (xs : List Body) (g : Con → Int) (c : Con) (F : Body → Int) (b : Body) : Int := F b + ctr xs g c b
theorem aKr {xs : List Body} (hs : cG xs) {pa pb : Nat} {xa xb : Body} {c : Con} (ha : xs[pa]? = some xa) (hb : xs[pb]? = some xb) (ka : xa.key = c.low) (kb : xb.key = c.high) (hc : OkC xs c) (ba : xG xs c.low = xa) (bb : xG xs c.high = xb) (g : Con → Int) (F : Body → Int) :
    ((xs.map F).set pa (F xa - kR (iL c xa xb) xa.mass (g c))).set pb (F xb + kR (iL c xa xb) xb.mass (g c)) = xs.map (aBe xs g c F) := by
  have hne := hc.ne
  have e1 : aBe xs g c F xa = F xa - kR (iL c xa xb) xa.mass (g c) := by unfold aBe ctr jV; rw [if_pos ka.symm, ba, bb]; omega
  have e2 : aBe xs g c F xb = F xb + kR (iL c xa xb) xb.mass (g c) := by unfold aBe ctr jV; rw [if_neg (by omega), if_pos kb.symm, ba, bb]
  rw [← e1, ← e2]
  exact aDv hs ha hb (by omega) (fun b _ h1 h2 => by unfold aBe ctr; rw [if_neg (by omega), if_neg (by omega)]; omega)
theorem qZ {α : Type} {l : List α} {i j : Nat} {x y : α} (h : l[j]? = some y) (hij : i ≠ j) : (l.set i x)[j]? = some y := by rw [List.getElem?_set_ne hij]; exact h
theorem zZ {xs : List Body} {cs : List Con} {k : Nat} {c : Con} (h : cs[k]? = some c) (g : Con → Int) : aBe xs g c (fun b => fM xs (cs.take k) g b) = fun b => fM xs (cs.take (k + 1)) g b := funext fun b => (gZ h g b).symm
def cK (z : Int) : List Value := [.int .i64 z]
theorem aVi (k : Nat) : List.replicate k ([.int .i64 0] : List Value) = (List.replicate k (0 : Int)).map cK := by simp [cK]
theorem aKa {α β : Type} {l : List α} {n : Nat} (h : l.length = n) (z : β) : List.replicate n z = l.map (fun _ => z) := (List.eq_replicate_iff.2 ⟨by rw [List.length_map, h], fun b hb => by obtain ⟨_, _, e⟩ := List.mem_map.1 hb; exact e.symm⟩).symm
def bU (z : Int × Int) : List Value := [.int .i64 z.1, .int .i64 z.2]
theorem aQi (l : List (Int × Int)) : ∀ y ∈ l.map bU, y.length = 2 := by
  intro y hy
  obtain ⟨x, _, rfl⟩ := List.mem_map.1 hy
  rfl
theorem aVe (k : Nat) : List.replicate k ([.int .i64 0, .int .i64 0] : List Value) = (List.replicate k ((0, 0) : Int × Int)).map bU := by simp [bU]
def gY (xs : List Body) (cs : List Con) (b : Body) : Int × Int := (qK xs cs (·.nx) b, qK xs cs (·.ny) b)
def aIy (xs : List Body) (c : Con) (F : Body → Int × Int) (b : Body) : Int × Int := ((F b).1 + qL xs (·.nx) c b, (F b).2 + qL xs (·.ny) c b)
def aGg (s z : Int) (c : Con) (f : Int × Int) : Int × Int := (f.1 + z * (s * c.nx / 65536), f.2 + z * (s * c.ny / 65536))
theorem aTi {xs : List Body} (hs : cG xs) {pa pb : Nat} {xa xb : Body} {c : Con} (ha : xs[pa]? = some xa) (hb : xs[pb]? = some xb) (ka : xa.key = c.low) (kb : xb.key = c.high) (hc : OkC xs c) (ba : xG xs c.low = xa) (bb : xG xs c.high = xb) (F : Body → Int × Int) :
    ((xs.map F).set pa (aGg (mV c xa xb xa.mass) (-1) c (F xa))).set pb (aGg (mV c xa xb xb.mass) 1 c (F xb)) = xs.map (aIy xs c F) := by
  have hne := hc.ne
  have e1 : aIy xs c F xa = aGg (mV c xa xb xa.mass) (-1) c (F xa) := by unfold aIy qL aGg; rw [if_pos ka.symm, if_pos ka.symm, ba, bb]; apply Prod.ext <;> (try simp only) <;> omega
  have e2 : aIy xs c F xb = aGg (mV c xa xb xb.mass) 1 c (F xb) := by unfold aIy qL aGg; rw [if_neg (by omega), if_pos kb.symm, if_neg (by omega), if_pos kb.symm, ba, bb]; apply Prod.ext <;> (try simp only) <;> omega
  rw [← e1, ← e2]
  exact aDv hs ha hb (by omega) (fun b _ h1 h2 => by unfold aIy qL; rw [if_neg (by omega), if_neg (by omega), if_neg (by omega), if_neg (by omega)]; apply Prod.ext <;> (try simp only) <;> omega)
theorem aLo {xs : List Body} {cs : List Con} {k : Nat} {c : Con} (h : cs[k]? = some c) : aIy xs c (gY xs (cs.take k)) = gY xs (cs.take (k + 1)) := funext fun b => Prod.ext (fT h _ b).symm (fT h _ b).symm
theorem bK.awayB {w0 w : World} {X : List Nat} {S : List eQ} {T sz : Nat} {A : Option Addr} {n c : Nat} {ls : List (List Value)} {e : eQ} {b : Nat} {o : Obj} (h : bK T sz A n c ls e) (M : Mem w0 X S w) (i j : Nat) (hi : fJ S i = some e) (hj : fJ S j = some (some b, o)) (hij : Nat.beq i j = false) : 0 < n → ∀ q off, A = some ⟨q, off, none⟩ → q ∉ cT [(some b, o)] := by
  intro hn q off hA hq
  obtain ⟨b2, L, h1, h2, _, _⟩ := h.block hn
  rw [h1] at hA
  injection hA with hA
  injection hA with hA
  subst hA
  have hqb : b2 = b := by simpa [cT] using hq
  subst hqb
  rw [iD] at hi hj
  have ha := M.apart
  have hne : i ≠ j := fun g => by subst g; simp at hij
  have hli := (List.getElem?_eq_some_iff.1 hi).1
  have hlj := (List.getElem?_eq_some_iff.1 hj).1
  have key : ∀ (a b : Nat) (x y : eQ), a < b → S[a]? = some x → S[b]? = some y → x.1 = some b2 → y.1 = some b2 → False := fun p r x y hpr hx hy ex ey => by
    have e1 : S = S.take r ++ S.drop r := (List.take_append_drop r S).symm
    rw [e1, iH] at ha
    have m1 : b2 ∈ cT (S.take r) := fW.2 ⟨x.2, by rw [← ex]; exact List.mem_of_getElem? (by rw [List.getElem?_take_of_lt hpr]; exact hx)⟩
    have m2 : b2 ∈ cT (S.drop r) := fW.2 ⟨y.2, by rw [← ey]; exact List.mem_of_getElem? (i := 0) (by rw [List.getElem?_drop]; exact hy)⟩
    exact (List.nodup_append.1 ha).2.2 _ m1 _ m2 rfl
  rcases Nat.lt_or_gt_of_ne hne with g | g
  · exact key i j _ _ g hi hj (by rw [h2]) rfl
  · exact key j i _ _ g hj hi rfl (by rw [h2])
end Go.Bil
