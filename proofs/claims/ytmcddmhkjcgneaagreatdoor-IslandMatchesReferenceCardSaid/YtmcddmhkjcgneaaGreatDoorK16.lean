/- Part of the proof of the laws of this seat: MdX, MdY, MdZ, MdM, MdI, MdJ, MdK, MdL, MdO, MdT, FwW. No conditions. -/
import Derived.Test.YtmcddmhkjcgneaaGreatDoorK7
import Derived.Test.YtmcddmhkjcgneaaGreatDoorK15
import Derived.Test.YtmcddmhkjcgneaaGreatDoorK3
/- Plain laws of nearest points and of contacts. -/
set_option linter.unusedVariables false
set_option linter.unusedSimpArgs false
namespace Go.Bil
abbrev Pt := Int × Int
structure PtI (v : Pt) : Prop where
  x : -1082130432 ≤ v.1 ∧ v.1 ≤ 1082130432
  y : -1082130432 ≤ v.2 ∧ v.2 ≤ 1082130432
structure SgI (p q : Pt) : Prop where
  hp : PtI p
  hq : PtI q
  x : -16777216 ≤ q.1 - p.1 ∧ q.1 - p.1 ≤ 16777216
  y : -16777216 ≤ q.2 - p.2 ∧ q.2 - p.2 ≤ 16777216
theorem PtI.i32 {v : Pt} (h : PtI v) : I32 v := ⟨by have := h.x; omega, by have := h.y; omega⟩
theorem PtI.inX {v u : Pt} (h : PtI v) (g : PtI u) : InD (u.1 - v.1) := by have := h.x; have := g.x; unfold InD; omega
theorem PtI.inY {v u : Pt} (h : PtI v) (g : PtI u) : InD (u.2 - v.2) := by have := h.y; have := g.y; unfold InD; omega
theorem mulB {a b : Int} {A B : Nat} (ha : a.natAbs ≤ A) (hb : b.natAbs ≤ B) : -((A * B : Nat) : Int) ≤ a * b ∧ a * b ≤ ((A * B : Nat) : Int) := by
  have h := Nat.mul_le_mul ha hb
  rw [← Int.natAbs_mul] at h
  omega
theorem sqN (a : Int) : 0 ≤ a * a := by rw [← Int.natAbs_mul_self]; omega
def parD (p q : Pt) : Int := (q.1 - p.1) * (q.1 - p.1) + (q.2 - p.2) * (q.2 - p.2)
def parN (p q c : Pt) : Int := max 0 (min ((c.1 - p.1) * (q.1 - p.1) + (c.2 - p.2) * (q.2 - p.2)) (parD p q))
theorem parD_rng {p q : Pt} (h : SgI p q) : 0 ≤ parD p q ∧ parD p q ≤ 562949953421312 ∧ (0 ≤ (q.1 - p.1) * (q.1 - p.1) ∧ (q.1 - p.1) * (q.1 - p.1) ≤ 281474976710656) ∧ 0 ≤ (q.2 - p.2) * (q.2 - p.2) ∧ (q.2 - p.2) * (q.2 - p.2) ≤ 281474976710656 := by
  have hx := h.x
  have hy := h.y
  have a := mulB (a := q.1 - p.1) (b := q.1 - p.1) (A := 16777216) (B := 16777216) (by omega) (by omega)
  have b := mulB (a := q.2 - p.2) (b := q.2 - p.2) (A := 16777216) (B := 16777216) (by omega) (by omega)
  have c := sqN (q.1 - p.1)
  have d := sqN (q.2 - p.2)
  unfold parD
  omega
theorem parN_rng {p q c : Pt} (h : SgI p q) : 0 ≤ parN p q c ∧ parN p q c ≤ parD p q := by
  have := parD_rng h
  unfold parN
  omega
theorem cross_rng {p q c : Pt} (h : SgI p q) (hc : PtI c) : (-36310272144179200 ≤ (c.1 - p.1) * (q.1 - p.1) ∧ (c.1 - p.1) * (q.1 - p.1) ≤ 36310272144179200) ∧ -36310272144179200 ≤ (c.2 - p.2) * (q.2 - p.2) ∧ (c.2 - p.2) * (q.2 - p.2) ≤ 36310272144179200 := by
  have hx := h.x
  have hy := h.y
  have := hc.x; have := hc.y; have := h.hp.x; have := h.hp.y
  have a := mulB (a := c.1 - p.1) (b := q.1 - p.1) (A := 2164260864) (B := 16777216) (by omega) (by omega)
  have b := mulB (a := c.2 - p.2) (b := q.2 - p.2) (A := 2164260864) (B := 16777216) (by omega) (by omega)
  omega
theorem divB {a n d : Int} (hn : 0 ≤ n) (hnd : n ≤ d) (hd : 0 < d) : (0 ≤ a → 0 ≤ a * n / d ∧ a * n / d ≤ a) ∧ (a ≤ 0 → a ≤ a * n / d ∧ a * n / d ≤ 0) := by
  refine ⟨fun h => ⟨Int.ediv_nonneg (Int.mul_nonneg h hn) (Int.le_of_lt hd), ?_⟩, fun h => ⟨?_, ?_⟩⟩
  · exact Int.ediv_le_of_le_mul hd (Int.mul_le_mul_of_nonneg_left hnd h)
  · exact (Int.le_ediv_iff_mul_le hd).2 (Int.mul_le_mul_of_nonpos_left h hnd)
  · have h1 : a * n ≤ 0 := Int.mul_nonpos_of_nonpos_of_nonneg h hn
    exact Int.ediv_le_of_le_mul hd (by omega)
def nearest (p q c : Pt) : Pt := if parD p q = 0 then p else (p.1 + (q.1 - p.1) * parN p q c / parD p q, p.2 + (q.2 - p.2) * parN p q c / parD p q)
theorem near_rng {p q c : Pt} (h : SgI p q) (hd : parD p q ≠ 0) : ((-16777216 ≤ (q.1 - p.1) * parN p q c / parD p q ∧ (q.1 - p.1) * parN p q c / parD p q ≤ 16777216) ∧ -1082130432 ≤ p.1 + (q.1 - p.1) * parN p q c / parD p q ∧ p.1 + (q.1 - p.1) * parN p q c / parD p q ≤ 1082130432) ∧
    (-16777216 ≤ (q.2 - p.2) * parN p q c / parD p q ∧ (q.2 - p.2) * parN p q c / parD p q ≤ 16777216) ∧ -1082130432 ≤ p.2 + (q.2 - p.2) * parN p q c / parD p q ∧ p.2 + (q.2 - p.2) * parN p q c / parD p q ≤ 1082130432 := by
  have hn := parN_rng (c := c) h
  have hD := parD_rng h
  have a := divB (a := q.1 - p.1) hn.1 hn.2 (by omega)
  have b := divB (a := q.2 - p.2) hn.1 hn.2 (by omega)
  have := h.hp.x; have := h.hp.y; have := h.hq.x; have := h.hq.y; have := h.x; have := h.y
  generalize (q.1 - p.1) * parN p q c / parD p q = u at *
  generalize (q.2 - p.2) * parN p q c / parD p q = v at *
  omega
theorem nearest_in {p q c : Pt} (h : SgI p q) : PtI (nearest p q c) := by
  unfold nearest
  split
  · exact h.hp
  · rename_i hd
    have := near_rng (c := c) h hd
    exact ⟨this.1.2, this.2.2⟩
/-- The pair of points chosen so far, with the square of their distance. -/
abbrev Ch := Pt × Pt × Nat
def chStep (s : Ch) (x y : Pt) : Ch := if lsq (y.1 - x.1) (y.2 - x.2) < s.2.2 then (x, y, lsq (y.1 - x.1) (y.2 - x.2)) else s
def ch0 : Ch := ((0, 0), (0, 0), 18446744073709551615)
def chosen (ap aq bp bq : Pt) : Ch := chStep (chStep (chStep (chStep ch0 ap (nearest bp bq ap)) aq (nearest bp bq aq)) (nearest ap aq bp) bp) (nearest ap aq bq) bq
structure ChI (s : Ch) : Prop where
  a : PtI s.1
  b : PtI s.2.1
  l : s.2.2 < 18446744073709551616
theorem ChI.step {s : Ch} {x y : Pt} (h : ChI s) (hx : PtI x) (hy : PtI y) : ChI (chStep s x y) := by
  unfold chStep
  split
  · exact ⟨hx, hy, (lsq_lt (hx.inX hy) (hx.inY hy)).1⟩
  · exact h
theorem ch0_in : ChI ch0 := ⟨⟨by decide, by decide⟩, ⟨by decide, by decide⟩, by decide⟩
theorem chosen_in {ap aq bp bq : Pt} (h1 : SgI ap aq) (h2 : SgI bp bq) : ChI (chosen ap aq bp bq) :=
  (((ch0_in.step h1.hp (nearest_in h2)).step h1.hq (nearest_in h2)).step (nearest_in h1) h2.hp).step (nearest_in h1) h2.hq
def endP (b : Body) : Pt := (b.px - b.ax, b.py - b.ay)
def endQ (b : Body) : Pt := (b.px + b.ax, b.py + b.ay)
theorem ends_in {b : Body} (h : Okb b) : SgI (endP b) (endQ b) := by
  have := h.a; have := h.p
  refine ⟨⟨?_, ?_⟩, ⟨?_, ?_⟩, ?_, ?_⟩ <;> simp only [endP, endQ] <;> omega
structure Con where
  low : Int
  high : Int
  nx : Int
  ny : Int
  depth : Int
deriving DecidableEq
def conCells (c : Con) : List Value := [.int .u32 c.low, .int .u32 c.high, .int .i32 c.nx, .int .i32 c.ny, .int .i32 c.depth]
/-- The contact of two bodies, the one with the lesser key first. -/
def chB (a b : Body) : Ch := chosen (endP a) (endQ a) (endP b) (endQ b)
def chDx (s : Ch) : Int := s.2.1.1 - s.1.1
def chDy (s : Ch) : Int := s.2.1.2 - s.1.2
def conLow (a b : Body) : Option Con :=
  if (a.radius + b.radius).natAbs * (a.radius + b.radius).natAbs ≤ lsq (chDx (chB a b)) (chDy (chB a b)) then none
  else some ⟨a.key, b.key, (unitV (chDx (chB a b)) (chDy (chB a b))).1, (unitV (chDx (chB a b)) (chDy (chB a b))).2, IntKind.wrap .i32 (a.radius + b.radius - len (chDx (chB a b)) (chDy (chB a b)))⟩
def conOf (a b : Body) : Option Con := if b.key < a.key then conLow b a else conLow a b
def solidCells (b : Body) : List Value := bodyCells b ++ vecCells (endP b) ++ vecCells (endQ b)
def loB (a b : Body) : Body := if b.key < a.key then b else a
def hiB (a b : Body) : Body := if b.key < a.key then a else b
theorem conOf_lo (a b : Body) : conOf a b = conLow (loB a b) (hiB a b) := by unfold conOf loB hiB; split <;> rfl
theorem loB_ok {a b : Body} (ha : Okb a) (hb : Okb b) : Okb (loB a b) ∧ Okb (hiB a b) := by unfold loB hiB; split <;> exact ⟨by assumption, by assumption⟩
theorem chB_in {a b : Body} (ha : Okb a) (hb : Okb b) : ChI (chB a b) := chosen_in (ends_in ha) (ends_in hb)
theorem chB_d {a b : Body} (ha : Okb a) (hb : Okb b) : InD (chDx (chB a b)) ∧ InD (chDy (chB a b)) := ⟨(chB_in ha hb).a.inX (chB_in ha hb).b, (chB_in ha hb).a.inY (chB_in ha hb).b⟩
def conO (o : Option Con) : List Value := conCells (o.getD ⟨0, 0, 0, 0, 0⟩)
theorem sum_sq {a b : Body} (ha : Okb a) (hb : Okb b) : 0 ≤ (a.radius + b.radius) * (a.radius + b.radius) ∧ (a.radius + b.radius) * (a.radius + b.radius) ≤ 70368744177664 := by
  have := ha.r; have := hb.r
  have h := mulB (a := a.radius + b.radius) (b := a.radius + b.radius) (A := 8388608) (B := 8388608) (by omega) (by omega)
  have := sqN (a.radius + b.radius)
  omega
theorem sq_cast (s : Int) (h : 0 ≤ s * s ∧ s * s ≤ 70368744177664) : IntKind.wrap .u64 (s * s) = ((s.natAbs * s.natAbs : Nat) : Int) := by
  rw [wrU, Int.natAbs_mul_self]; omega
end Go.Bil

/- Plain laws of the contacts of a view. -/
set_option linter.unusedVariables false
set_option linter.unusedSimpArgs false
namespace Go.Bil
def encBo (b : Body) : Value := .agg (bodyCells b).toArray
def z0Bo : Body := ⟨0, 0, 0, 0, 0, 0, 0, 0, 0, 0⟩
def boM (xs : List Body) : Int → Option Body := fun k => xs.reverse.find? (fun b => decide (b.key = k))
theorem boM_nil (k : Int) : boM [] k = none := rfl
theorem boM_snoc {xs : List Body} {k : Nat} {b : Body} (h : xs[k]? = some b) (q : Int) : boM (xs.take (k + 1)) q = if q = b.key then some b else boM (xs.take k) q := by
  unfold boM
  rw [take_snoc h, List.reverse_append]
  simp only [List.reverse_cons, List.reverse_nil, List.nil_append, List.singleton_append, List.find?_cons]
  by_cases e : q = b.key
  · rw [if_pos e, decide_eq_true e.symm]
  · rw [if_neg e, decide_eq_false (fun h => e h.symm)]
theorem boM_get {xs : List Body} (hs : Sorted xs) {b : Body} (hb : b ∈ xs) : boM xs b.key = some b := by
  unfold boM
  cases hf : xs.reverse.find? (fun c => decide (c.key = b.key)) with
  | none =>
    have := List.find?_eq_none.1 hf b (by simpa using hb)
    simp at this
  | some c =>
    have hc := List.find?_some hf
    have hm : c ∈ xs := by simpa using List.mem_of_find?_eq_some hf
    simp only [decide_eq_true_eq] at hc
    rw [sorted_mem hs hm hb hc]
/-- The contact of a pair of keys. -/
def conP (f : Int → Option Body) (z : Int × Int) : Option Con := (f z.1).bind fun a => (f z.2).bind fun b => conOf a b
def allC (xs : List Body) : List Con := (findP xs).filterMap (conP (boM xs))
theorem pair_bodies {xs : List Body} (hs : Sorted xs) {z : Int × Int} (h : z ∈ findP xs) : ∃ a b, a ∈ xs ∧ b ∈ xs ∧ a.key < b.key ∧ z = (a.key, b.key) ∧ boM xs z.1 = some a ∧ boM xs z.2 = some b := by
  obtain ⟨a, ha, b, hb, h1, h2, rfl⟩ := (mem_findS hs).1 h
  exact ⟨a, b, ha, hb, h1, rfl, boM_get hs ha, boM_get hs hb⟩
theorem conP_eq {f : Int → Option Body} {z : Int × Int} {a b : Body} (h1 : f z.1 = some a) (h2 : f z.2 = some b) : conP f z = conOf a b := by simp [conP, h1, h2]
theorem conLow_key {a b : Body} {c : Con} (h : conLow a b = some c) : c.low = a.key ∧ c.high = b.key := by
  unfold conLow at h
  split at h
  · cases h
  · injection h with h; subst h; exact ⟨rfl, rfl⟩
theorem conOf_key {a b : Body} {c : Con} (hk : a.key < b.key) (h : conOf a b = some c) : c.low = a.key ∧ c.high = b.key := by
  unfold conOf at h
  rw [if_neg (by omega)] at h
  exact conLow_key h
theorem fm_snoc {α β : Type} {l : List α} {k : Nat} {z : α} {g : α → Option β} (h : l[k]? = some z) : (l.take (k + 1)).filterMap g = (l.take k).filterMap g ++ (g z).toList := by
  rw [take_snoc h, List.filterMap_append]
  cases hg : g z <;> simp [hg]
/-! ### Moving all bodies -/
theorem chStep_first {x y : Pt} (hx : PtI x) (hy : PtI y) : chStep ch0 x y = (x, y, lsq (y.1 - x.1) (y.2 - x.2)) := by
  have := lsq_lt (hx.inX hy) (hx.inY hy)
  have h : lsq (y.1 - x.1) (y.2 - x.2) < 18446744073709551615 := by unfold lsq at *; omega
  exact if_pos h
theorem Mem.orderC {w0 w : World} {X : List Nat} {a b c d : Ent} (M : Mem w0 X [a, b, c, d] w) : Mem w0 X [c, b, a, d] w :=
  M.perm ((List.Perm.swap b a [c, d]).trans (((List.Perm.swap c a [d]).cons b).trans (List.Perm.swap c b [a, d])))
/-! ### The deepest contact -/
def deepG : Con → List Con → Con
  | b, [] => b
  | b, c :: l => deepG (if b.depth < c.depth then c else b) l
def deepC : List Con → Option Con
  | [] => none
  | c :: l => some (deepG c l)
end Go.Bil

/- Plain laws of the references of layers 1 to 14: numbers by digits of 16 bits, long division bit by bit, roots by halving. -/
set_option linter.unusedVariables false
set_option linter.unusedSimpArgs false
namespace Go.Bil
/-! ### Digits -/
def valD : List Nat → Nat
  | [] => 0
  | d :: l => d + 65536 * valD l
def u64Cell (d : Nat) : Value := .int .u64 (d : Int)
def digs (m : Nat) : List Nat := [m % 65536, m / 65536 % 65536, m / 65536 / 65536 % 65536, m / 65536 / 65536 / 65536 % 65536, 0, 0, 0, 0]
/-- One row of a product by digits. -/
theorem mul_row {z0 z1 z2 z3 p0 p1 p2 p3 t0 t1 t2 t3 : Nat} (h0 : t0 = z0 + p0 + 0) (h1 : t1 = z1 + p1 + t0 / 65536) (h2 : t2 = z2 + p2 + t1 / 65536) (h3 : t3 = z3 + p3 + t2 / 65536) :
    t0 % 65536 + 65536 * (t1 % 65536 + 65536 * (t2 % 65536 + 65536 * (t3 % 65536 + 65536 * (t3 / 65536)))) = (z0 + 65536 * (z1 + 65536 * (z2 + 65536 * z3))) + (p0 + 65536 * (p1 + 65536 * (p2 + 65536 * p3))) := by omega
theorem mul_step {z p c x y : Nat} (hz : z < 65536) (hc : c < 65536) (hx : x < 65536) (hy : y < 65536) (hp : x * y = p) : p ≤ 4294836225 ∧ z + p + c < 4294967296 ∧ (z + p + c) / 65536 < 65536 := by
  have : x * y ≤ 65535 * 65535 := Nat.mul_le_mul (by omega) (by omega)
  omega
theorem mul_digs (x y0 y1 y2 y3 : Nat) : x * (y0 + 65536 * (y1 + 65536 * (y2 + 65536 * y3))) = x * y0 + 65536 * (x * y1 + 65536 * (x * y2 + 65536 * (x * y3))) := by
  simp only [Nat.mul_add, Nat.mul_left_comm x 65536]
theorem digs_mul (x0 x1 x2 x3 Y : Nat) : (x0 + 65536 * (x1 + 65536 * (x2 + 65536 * x3))) * Y = x0 * Y + 65536 * (x1 * Y + 65536 * (x2 * Y + 65536 * (x3 * Y))) := by
  simp only [Nat.add_mul, Nat.mul_assoc]
/-- The digits of a product, as they come. -/
theorem mul_all {x0 x1 x2 x3 y0 y1 y2 y3 a0 a1 a2 a3 b0 b1 b2 b3 c0 c1 c2 c3 d0 d1 d2 d3 : Nat}
    (ha0 : a0 = 0 + x0 * y0 + 0) (ha1 : a1 = 0 + x0 * y1 + a0 / 65536) (ha2 : a2 = 0 + x0 * y2 + a1 / 65536) (ha3 : a3 = 0 + x0 * y3 + a2 / 65536)
    (hb0 : b0 = a1 % 65536 + x1 * y0 + 0) (hb1 : b1 = a2 % 65536 + x1 * y1 + b0 / 65536) (hb2 : b2 = a3 % 65536 + x1 * y2 + b1 / 65536) (hb3 : b3 = a3 / 65536 + x1 * y3 + b2 / 65536)
    (hc0 : c0 = b1 % 65536 + x2 * y0 + 0) (hc1 : c1 = b2 % 65536 + x2 * y1 + c0 / 65536) (hc2 : c2 = b3 % 65536 + x2 * y2 + c1 / 65536) (hc3 : c3 = b3 / 65536 + x2 * y3 + c2 / 65536)
    (hd0 : d0 = c1 % 65536 + x3 * y0 + 0) (hd1 : d1 = c2 % 65536 + x3 * y1 + d0 / 65536) (hd2 : d2 = c3 % 65536 + x3 * y2 + d1 / 65536) (hd3 : d3 = c3 / 65536 + x3 * y3 + d2 / 65536) :
    valD [a0 % 65536, b0 % 65536, c0 % 65536, d0 % 65536, d1 % 65536, d2 % 65536, d3 % 65536, d3 / 65536] = (x0 + 65536 * (x1 + 65536 * (x2 + 65536 * x3))) * (y0 + 65536 * (y1 + 65536 * (y2 + 65536 * y3))) := by
  have ra := mul_row ha0 ha1 ha2 ha3
  have rb := mul_row hb0 hb1 hb2 hb3
  have rc := mul_row hc0 hc1 hc2 hc3
  have rd := mul_row hd0 hd1 hd2 hd3
  rw [digs_mul, mul_digs x0, mul_digs x1, mul_digs x2, mul_digs x3]
  simp only [valD, Nat.mul_zero, Nat.add_zero]
  clear ha0 ha1 ha2 ha3 hb0 hb1 hb2 hb3 hc0 hc1 hc2 hc3 hd0 hd1 hd2 hd3
  generalize x0 * y0 + 65536 * (x0 * y1 + 65536 * (x0 * y2 + 65536 * (x0 * y3))) = A at *
  generalize x1 * y0 + 65536 * (x1 * y1 + 65536 * (x1 * y2 + 65536 * (x1 * y3))) = B at *
  generalize x2 * y0 + 65536 * (x2 * y1 + 65536 * (x2 * y2 + 65536 * (x2 * y3))) = C at *
  generalize x3 * y0 + 65536 * (x3 * y1 + 65536 * (x3 * y2 + 65536 * (x3 * y3))) = D at *
  omega
/-- The bits of a number, by its digits. -/
theorem valD_div : ∀ (l : List Nat) (j : Nat) (d : Nat), (∀ x ∈ l, x < 65536) → l[j]? = some d → valD l / 65536 ^ j % 65536 = d
  | [], j, d, _, h => by simp at h
  | x :: l, 0, d, hd, h => by
    simp only [List.getElem?_cons_zero, Option.some.injEq] at h
    subst h
    have := hd x (by simp)
    simp only [valD, Nat.pow_zero, Nat.div_one]
    omega
  | x :: l, j + 1, d, hd, h => by
    have ih := valD_div l j d (fun y hy => hd y (by simp [hy])) (by simpa using h)
    have hx := hd x (by simp)
    rw [Nat.pow_succ, Nat.mul_comm, ← Nat.div_div_eq_div_mul]
    simp only [valD]
    rw [show (x + 65536 * valD l) / 65536 = valD l by omega]
    exact ih
theorem bit_eq (x i j s d : Nat) (hi : i = 16 * j + s) (hs : s < 16) (hd : x / 65536 ^ j % 65536 = d) : d / 2 ^ s % 2 = x / 2 ^ i % 2 := by
  subst hd
  have e : (65536 : Nat) ^ j = 2 ^ (16 * j) := by rw [Nat.pow_mul]
  rw [e]
  have h1 : (x / 2 ^ (16 * j) % 2 ^ 16) / 2 ^ s % 2 = x / 2 ^ (16 * j) / 2 ^ s % 2 := by
    rw [show (2 : Nat) ^ 16 = 2 ^ s * 2 ^ (16 - s) by rw [← Nat.pow_add]; congr 1; omega, Nat.mod_mul_right_div_self]
    exact Nat.mod_mod_of_dvd _ ⟨2 ^ (16 - s - 1), by rw [← Nat.pow_succ']; congr 1; omega⟩
  rw [show (65536 : Nat) = 2 ^ 16 by decide, h1, Nat.div_div_eq_div_mul, ← Nat.pow_add, hi]
/-! ### Long division, a bit a round -/
structure Lb (X d i q r : Nat) : Prop where
  q : q = X / 2 ^ i / d
  r : r = X / 2 ^ i % d
theorem half_pow (X i : Nat) : X / 2 ^ i = 2 * (X / 2 ^ (i + 1)) + X / 2 ^ i % 2 := by
  rw [Nat.pow_succ, ← Nat.div_div_eq_div_mul]; omega
theorem lb_step {X d i q r b : Nat} (hd : 0 < d) (h : Lb X d (i + 1) q r) (hb : X / 2 ^ i % 2 = b) : r < d ∧ b < 2 ∧ 2 * q ≤ X / 2 ^ i / d ∧ (d ≤ 2 * r + b → Lb X d i (2 * q + 1) (2 * r + b - d)) ∧ (¬ d ≤ 2 * r + b → Lb X d i (2 * q) (2 * r + b)) := by
  have hp := half_pow X i
  rw [hb] at hp
  have hr : r < d := by rw [h.r]; exact Nat.mod_lt _ hd
  have hb2 : b < 2 := by omega
  have e := Nat.div_add_mod (X / 2 ^ (i + 1)) d
  rw [← h.q, ← h.r] at e
  have hP : X / 2 ^ i = d * (2 * q) + (2 * r + b) := by rw [Nat.mul_left_comm]; omega
  refine ⟨hr, hb2, ?_, fun hc => ?_, fun hc => ?_⟩
  · rw [Nat.le_div_iff_mul_le hd, hP, Nat.mul_comm]; omega
  · have e2 : X / 2 ^ i = (2 * r + b - d) + d * (2 * q + 1) := by rw [hP, Nat.mul_add d]; omega
    exact ⟨by rw [e2, Nat.add_mul_div_left _ _ hd, Nat.div_eq_of_lt (by omega), Nat.zero_add], by rw [e2, Nat.add_mul_mod_self_left, Nat.mod_eq_of_lt (by omega)]⟩
  · have e2 : X / 2 ^ i = (2 * r + b) + d * (2 * q) := by rw [hP]; omega
    exact ⟨by rw [e2, Nat.add_mul_div_left _ _ hd, Nat.div_eq_of_lt (by omega), Nat.zero_add], by rw [e2, Nat.add_mul_mod_self_left, Nat.mod_eq_of_lt (by omega)]⟩
theorem lb_init {X d : Nat} (hd : 0 < d) (hX : X < 340282366920938463463374607431768211456) : Lb X d 128 0 0 := by
  have : X / 2 ^ 128 = 0 := Nat.div_eq_of_lt hX
  exact ⟨by rw [this, Nat.zero_div], by rw [this, Nat.zero_mod]⟩
theorem lb_small {X d i m : Nat} (h : X / d ≤ m) : X / 2 ^ i / d ≤ m := by
  refine Nat.le_trans (Nat.div_le_div_right (Nat.div_le_self _ _)) h
theorem lb_done {X d q r : Nat} (h : Lb X d 0 q r) : q = X / d ∧ r = X % d := by
  have h1 := h.q; have h2 := h.r
  rw [Nat.pow_zero, Nat.div_one] at h1 h2
  exact ⟨h1, h2⟩
/-! ### The deepest contact is the first of its depth -/
theorem deepG_max : ∀ (l : List Con) (b : Con), b.depth ≤ (deepG b l).depth ∧ ∀ c ∈ l, c.depth ≤ (deepG b l).depth
  | [], b => ⟨Int.le_refl _, by simp⟩
  | x :: l, b => by
    have ih := deepG_max l (if b.depth < x.depth then x else b)
    have e : deepG b (x :: l) = deepG (if b.depth < x.depth then x else b) l := rfl
    rw [e]
    by_cases hx : b.depth < x.depth
    · rw [if_pos hx] at ih ⊢
      refine ⟨by omega, fun c hc => ?_⟩
      rcases List.mem_cons.1 hc with rfl | hc
      · exact ih.1
      · exact ih.2 c hc
    · rw [if_neg hx] at ih ⊢
      refine ⟨ih.1, fun c hc => ?_⟩
      rcases List.mem_cons.1 hc with rfl | hc
      · omega
      · exact ih.2 c hc
theorem deepG_at : ∀ (l : List Con) (b : Con), ∃ j : Nat, (b :: l)[j]? = some (deepG b l) ∧ ∀ (i : Nat) (c : Con), i < j → (b :: l)[i]? = some c → c.depth < (deepG b l).depth
  | [], b => ⟨0, rfl, fun i c h => by omega⟩
  | x :: l, b => by
    have e : deepG b (x :: l) = deepG (if b.depth < x.depth then x else b) l := rfl
    obtain ⟨j, h1, h2⟩ := deepG_at l (if b.depth < x.depth then x else b)
    have hm := deepG_max l (if b.depth < x.depth then x else b)
    rw [e]
    by_cases hc : b.depth < x.depth
    · rw [if_pos hc] at h1 h2 hm ⊢
      refine ⟨j + 1, by simpa using h1, fun i c hi hci => ?_⟩
      cases i with
      | zero => simp only [List.getElem?_cons_zero, Option.some.injEq] at hci; subst hci; omega
      | succ i => exact h2 i c (by omega) (by simpa using hci)
    · rw [if_neg hc] at h1 h2 hm ⊢
      cases j with
      | zero => exact ⟨0, by simpa using h1, fun i c h => by omega⟩
      | succ j =>
        have hb := h2 0 b (by omega) rfl
        refine ⟨j + 2, by simpa using h1, fun i c hi hci => ?_⟩
        match i, hci with
        | 0, hci => simp only [List.getElem?_cons_zero, Option.some.injEq] at hci; subst hci; exact hb
        | 1, hci => simp only [List.getElem?_cons_succ, List.getElem?_cons_zero, Option.some.injEq] at hci; subst hci; omega
        | i + 2, hci => exact h2 (i + 1) c (by omega) (by simpa using hci)
def zCon : Con := ⟨0, 0, 0, 0, 0⟩
theorem deepC_law {l : List Con} {d : Con} (hd : (deepC l).getD zCon = d) (hl : l ≠ []) : d ∈ l ∧ (∀ c ∈ l, c.depth ≤ d.depth) ∧ ∀ (i : Nat) (c : Con), l[i]? = some c → d ∉ l.take i → c.depth = d.depth → c = d := by
  cases l with
  | nil => exact absurd rfl hl
  | cons b l =>
    have hd' : deepG b l = d := hd
    obtain ⟨j, h1, h2⟩ := deepG_at l b
    have hm := deepG_max l b
    rw [hd'] at h1 h2 hm
    refine ⟨List.mem_of_getElem? h1, fun c hc => ?_, fun i c hi hn he => ?_⟩
    · rcases List.mem_cons.1 hc with rfl | hc
      · exact hm.1
      · exact hm.2 c hc
    · rcases Nat.lt_trichotomy i j with h | h | h
      · have := h2 i c h hi; omega
      · subst h; rw [hi] at h1; injection h1
      · refine absurd (List.mem_of_getElem? (i := j) ?_) hn
        rw [List.getElem?_take, if_pos h]; exact h1
/-! ### A root by halving -/
theorem isq_mid {n m : Nat} : (m * m ≤ n → m ≤ isq n) ∧ (¬ m * m ≤ n → isq n < m) := by
  have h := isq_spec n
  refine ⟨fun hc => ?_, fun hc => sq_lt (by omega)⟩
  have := sq_lt (Nat.lt_of_le_of_lt hc h.2)
  omega
end Go.Bil

namespace Go.Bil
theorem digs4 {m : Nat} (h : m < 18446744073709551616) : ∃ x0 x1 x2 x3 : Nat, digs m = [x0, x1, x2, x3, 0, 0, 0, 0] ∧ x0 < 65536 ∧ x1 < 65536 ∧ x2 < 65536 ∧ x3 < 65536 ∧ x0 + 65536 * (x1 + 65536 * (x2 + 65536 * x3)) = m :=
  ⟨_, _, _, _, rfl, by omega, by omega, by omega, by omega, by omega⟩
theorem eight {l : List Nat} (h : l.length = 8) : ∃ d0 d1 d2 d3 d4 d5 d6 d7, l = [d0, d1, d2, d3, d4, d5, d6, d7] := by
  rcases l with _ | ⟨a0, _ | ⟨a1, _ | ⟨a2, _ | ⟨a3, _ | ⟨a4, _ | ⟨a5, _ | ⟨a6, _ | ⟨a7, _ | ⟨a8, l⟩⟩⟩⟩⟩⟩⟩⟩⟩ <;> first | exact ⟨_, _, _, _, _, _, _, _, rfl⟩ | (simp at h)
theorem u64_nth {D : List Nat} {j d : Nat} (h : D[j]? = some d) : nth (D.map u64Cell) (0 + j * 1) = some (.int .u64 (d : Int)) := by
  rw [nth_eq, Nat.zero_add, Nat.mul_one]; exact mapGet u64Cell h
theorem quoN (a b : Nat) (h : a ≤ 4611686018427387904) : IntKind.i64.wrap ((a : Int).tdiv (b : Int)) = ((a / b : Nat) : Int) := by
  have e : (a : Int).tdiv (b : Int) = ((a / b : Nat) : Int) := (Int.ofNat_tdiv a b).symm
  have hq := Nat.div_le_self a b
  rw [e]
  generalize a / b = c at *
  exact w64 _ (by omega) (by omega)
theorem len_zero (dx dy : Int) : len dx dy = 0 ↔ dx = 0 ∧ dy = 0 := by
  have h := isq_spec (lsq dx dy)
  unfold len
  constructor
  · intro h0
    have h1 : isq (lsq dx dy) = 0 := by omega
    rw [h1] at h
    have h2 : lsq dx dy = 0 := by omega
    unfold lsq at h2
    have a : dx.natAbs * dx.natAbs = 0 := by omega
    have b : dy.natAbs * dy.natAbs = 0 := by omega
    have a' := (Nat.mul_eq_zero.1 a).elim id id
    have b' := (Nat.mul_eq_zero.1 b).elim id id
    omega
  · rintro ⟨rfl, rfl⟩
    rfl
/-! ### The chosen points, by a list -/
def twoCells (z : Pt × Pt) : List Value := vecCells z.1 ++ vecCells z.2
theorem two_len (m : List (Pt × Pt)) : ∀ y ∈ m.map twoCells, y.length = 4 := by
  intro y hy
  obtain ⟨x, _, rfl⟩ := List.mem_map.1 hy
  rfl
def chFold (l : List (Pt × Pt)) : Ch := l.foldl (fun s z => chStep s z.1 z.2) ch0
theorem chFold_snoc {l : List (Pt × Pt)} {k : Nat} {z : Pt × Pt} (h : l[k]? = some z) : chFold (l.take (k + 1)) = chStep (chFold (l.take k)) z.1 z.2 := by
  unfold chFold
  rw [take_snoc h, List.foldl_append]; rfl
structure ChL (s : Ch) : Prop where
  i : ChI s
  l : s.2.2 = lsq (s.2.1.1 - s.1.1) (s.2.1.2 - s.1.2)
theorem ChL.step {s : Ch} {x y : Pt} (h : ChL s) (hx : PtI x) (hy : PtI y) : ChL (chStep s x y) := by
  refine ⟨h.i.step hx hy, ?_⟩
  unfold chStep
  split
  · rfl
  · exact h.l
theorem chL_first {x y : Pt} (hx : PtI x) (hy : PtI y) : chFold [(x, y)] = (x, y, lsq (y.1 - x.1) (y.2 - x.2)) ∧ ChL (chFold [(x, y)]) := by
  have e : chFold [(x, y)] = (x, y, lsq (y.1 - x.1) (y.2 - x.2)) := chStep_first hx hy
  rw [e]
  exact ⟨rfl, ⟨hx, hy, (lsq_lt (hx.inX hy) (hx.inY hy)).1⟩, rfl⟩
/-! ### Bodies in contact have boxes that overlap -/
structure Btw (p q z : Pt) : Prop where
  x : min p.1 q.1 ≤ z.1 ∧ z.1 ≤ max p.1 q.1
  y : min p.2 q.2 ≤ z.2 ∧ z.2 ≤ max p.2 q.2
theorem nearest_btw {p q c : Pt} (h : SgI p q) : Btw p q (nearest p q c) := by
  unfold nearest
  split
  · exact ⟨by omega, by omega⟩
  · rename_i hd
    have hn := parN_rng (c := c) h
    have hD := parD_rng h
    have a := divB (a := q.1 - p.1) hn.1 hn.2 (by omega)
    have b := divB (a := q.2 - p.2) hn.1 hn.2 (by omega)
    generalize (q.1 - p.1) * parN p q c / parD p q = u at *
    generalize (q.2 - p.2) * parN p q c / parD p q = v at *
    refine ⟨?_, ?_⟩ <;> simp only <;> omega
theorem btw_l (p q : Pt) : Btw p q p := ⟨by omega, by omega⟩
theorem btw_r (p q : Pt) : Btw p q q := ⟨by omega, by omega⟩
theorem chosen_btw {ap aq bp bq : Pt} (h1 : SgI ap aq) (h2 : SgI bp bq) : Btw ap aq (chosen ap aq bp bq).1 ∧ Btw bp bq (chosen ap aq bp bq).2.1 := by
  have st : ∀ (s : Ch) (x y : Pt), Btw ap aq s.1 ∧ Btw bp bq s.2.1 → Btw ap aq x → Btw bp bq y → Btw ap aq (chStep s x y).1 ∧ Btw bp bq (chStep s x y).2.1 := by
    intro s x y hs hx hy
    unfold chStep
    split
    · exact ⟨hx, hy⟩
    · exact hs
  unfold chosen
  refine st _ _ _ (st _ _ _ (st _ _ _ ?_ (btw_r _ _) (nearest_btw h2)) (nearest_btw h1) (btw_l _ _)) (nearest_btw h1) (btw_r _ _)
  rw [chStep_first h1.hp (nearest_in h2)]
  exact ⟨btw_l _ _, nearest_btw h2⟩
theorem abs_lt_of_sq {d : Int} {e r : Nat} (h : d.natAbs * d.natAbs + e < r * r) : d.natAbs < r := sq_lt (by omega)
theorem ovl_of {a b : Body} {s t : Pt} (ra : 0 < a.radius) (rb : 0 < b.radius) (x1 : a.px - max a.ax (-a.ax) ≤ s.1 ∧ s.1 ≤ a.px + max a.ax (-a.ax)) (y1 : a.py - max a.ay (-a.ay) ≤ s.2 ∧ s.2 ≤ a.py + max a.ay (-a.ay))
    (x2 : b.px - max b.ax (-b.ax) ≤ t.1 ∧ t.1 ≤ b.px + max b.ax (-b.ax)) (y2 : b.py - max b.ay (-b.ay) ≤ t.2 ∧ t.2 ≤ b.py + max b.ay (-b.ay)) (hx : (t.1 - s.1).natAbs < (a.radius + b.radius).natAbs) (hy : (t.2 - s.2).natAbs < (a.radius + b.radius).natAbs) : ovl (boxOf a) (boxOf b) := by
  simp only [ovl, boxOf, emptyB, extX, extY]
  generalize max a.ax (-a.ax) = p at *
  generalize max a.ay (-a.ay) = q at *
  generalize max b.ax (-b.ax) = u at *
  generalize max b.ay (-b.ay) = v at *
  have hx' : -(a.radius + b.radius) < t.1 - s.1 ∧ t.1 - s.1 < a.radius + b.radius := by omega
  have hy' : -(a.radius + b.radius) < t.2 - s.2 ∧ t.2 - s.2 < a.radius + b.radius := by omega
  clear hx hy
  refine ⟨⟨?_, ?_⟩, ⟨?_, ?_⟩, ?_, ?_, ?_, ?_⟩ <;> omega
theorem btw_end {b : Body} {z : Pt} (h : Btw (endP b) (endQ b) z) : (b.px - max b.ax (-b.ax) ≤ z.1 ∧ z.1 ≤ b.px + max b.ax (-b.ax)) ∧ b.py - max b.ay (-b.ay) ≤ z.2 ∧ z.2 ≤ b.py + max b.ay (-b.ay) := by
  have hx := h.x
  have hy := h.y
  simp only [endP, endQ] at hx hy
  omega
theorem con_ovl {a b : Body} (ha : Okb a) (hb : Okb b) (h : (conLow a b).isSome = true) : ovl (boxOf a) (boxOf b) := by
  have w := chosen_btw (ends_in ha) (ends_in hb)
  have hc : ¬ ((a.radius + b.radius).natAbs * (a.radius + b.radius).natAbs ≤ lsq (chDx (chB a b)) (chDy (chB a b))) := by
    intro hc
    unfold conLow at h
    rw [if_pos hc] at h
    cases h
  clear h
  have hl : (chDx (chB a b)).natAbs * (chDx (chB a b)).natAbs + (chDy (chB a b)).natAbs * (chDy (chB a b)).natAbs < (a.radius + b.radius).natAbs * (a.radius + b.radius).natAbs := Nat.lt_of_not_le hc
  have hx : (chDx (chB a b)).natAbs < (a.radius + b.radius).natAbs := abs_lt_of_sq hl
  have hy : (chDy (chB a b)).natAbs < (a.radius + b.radius).natAbs := abs_lt_of_sq (e := (chDx (chB a b)).natAbs * (chDx (chB a b)).natAbs) (by rw [Nat.add_comm]; exact hl)
  have ra := ha.r
  have rb := hb.r
  have w1 := btw_end w.1
  have w2 := btw_end w.2
  exact ovl_of (by omega) (by omega) w1.1 w1.2 w2.1 w2.2 hx hy
theorem conOf_none {a b : Body} (ha : Okb a) (hb : Okb b) (hk : a.key < b.key) (h : ¬ ovl (boxOf a) (boxOf b)) : conOf a b = none := by
  unfold conOf
  rw [if_neg (by omega)]
  cases hc : conLow a b with
  | none => rfl
  | some c => exact absurd (con_ovl ha hb (by rw [hc]; rfl)) h
/-- The contacts of all pairs, one after the other. -/
def allK (xs : List Body) (i : Nat) : List Con := (findK xs i).filterMap (conP (boM xs))
def rowQ (xs : List Body) (i k : Nat) : List Con := (rowK xs i k).filterMap (conP (boM xs))
theorem rowQ_snoc {xs : List Body} (hs : Sorted xs) (hb : ∀ b ∈ xs, Okb b) {i k : Nat} {a b : Body} (ha : xs[i]? = some a) (h : xs[k]? = some b) (hi : i + 1 ≤ k) : rowQ xs i (k + 1) = rowQ xs i k ++ (conOf a b).toList := by
  have hk := sorted_lt hs (show i < k by omega) ha h
  unfold rowQ
  by_cases ho : ovl (boxOf a) (boxOf b)
  · rw [rowK_yes ha h hi ho, List.filterMap_append]
    congr 1
    have e : conP (boM xs) (a.key, b.key) = conOf a b := conP_eq (boM_get hs (List.mem_of_getElem? ha)) (boM_get hs (List.mem_of_getElem? h))
    cases hc : conOf a b <;> simp [e, hc]
  · rw [rowK_no ha h hi ho, conOf_none (hb a (List.mem_of_getElem? ha)) (hb b (List.mem_of_getElem? h)) hk ho]
    simp
theorem rowQ_start (xs : List Body) (i : Nat) : rowQ xs i (i + 1) = [] := by unfold rowQ; rw [rowK_start]; rfl
theorem allK_succ (xs : List Body) (i : Nat) : allK xs (i + 1) = allK xs i ++ rowQ xs i xs.length := by unfold allK rowQ; rw [findK_succ, List.filterMap_append]
theorem allK_len (xs : List Body) (i : Nat) : (allK xs i).length ≤ i * xs.length := Nat.le_trans (List.length_filterMap_le _ _) (findK_len xs i)
theorem rowQ_len (xs : List Body) (i k : Nat) : (rowQ xs i k).length ≤ xs.length := Nat.le_trans (List.length_filterMap_le _ _) (rowK_len xs i k)
end Go.Bil
namespace Go.Bil
theorem md_floor {a : Int} {m z q r : Nat} (hq : a.natAbs * m / z = q) (hr : a.natAbs * m % z = r) (hz : 0 < (z : Int)) :
    (if decide (a < 0) = true then (if 0 < r then -(q : Int) - 1 else -(q : Int)) else (q : Int)) = a * (m : Int) / (z : Int) := by
  by_cases ha : a < 0
  · rw [if_pos (decide_eq_true ha), md_neg ha (by omega), hq, hr]
    by_cases h0 : r = 0
    · rw [if_neg (by omega), if_pos h0]
    · rw [if_pos (by omega), if_neg h0]
  · rw [if_neg (by simpa using ha), ← md_pos (by omega), hq]
theorem chosen_ins {ap aq bp bq : Pt} (h1 : SgI ap aq) (h2 : SgI bp bq) : ∀ z ∈ ([(ap, nearest bp bq ap), (aq, nearest bp bq aq), (nearest ap aq bp, bp), (nearest ap aq bq, bq)] : List (Pt × Pt)), PtI z.1 ∧ PtI z.2 := by
  intro z hz
  simp only [List.mem_cons, List.not_mem_nil, or_false] at hz
  rcases hz with rfl | rfl | rfl | rfl
  · exact ⟨h1.hp, nearest_in h2⟩
  · exact ⟨h1.hq, nearest_in h2⟩
  · exact ⟨nearest_in h1, h2.hp⟩
  · exact ⟨nearest_in h1, h2.hq⟩
end Go.Bil
namespace Go.Bil
theorem addU (a b : Nat) (h : a + b < 18446744073709551616) : IntKind.wrap .u64 ((a : Int) + (b : Int)) = ((a + b : Nat) : Int) := by rw [wrU]; omega
theorem mul_step2 {z c x y : Nat} (hz : z < 65536) (hc : c < 65536) (hx : x < 65536) (hy : y < 65536) : ∃ t, t = z + x * y + c ∧ x * y < 18446744073709551616 ∧ z + x * y < 18446744073709551616 ∧ z + x * y + c < 18446744073709551616 ∧ t < 18446744073709551616 ∧ t / 65536 < 65536 := by
  have := mul_step hz hc hx hy rfl
  exact ⟨_, rfl, by omega, by omega, by omega, by omega, this.2.2⟩
end Go.Bil
namespace Go.Bil
theorem all8 {a0 a1 a2 a3 a4 a5 a6 a7 : Nat} (h0 : a0 < 65536) (h1 : a1 < 65536) (h2 : a2 < 65536) (h3 : a3 < 65536) (h4 : a4 < 65536) (h5 : a5 < 65536) (h6 : a6 < 65536) (h7 : a7 < 65536) : ∀ x ∈ [a0, a1, a2, a3, a4, a5, a6, a7], x < 65536 := by
  intro x hx
  simp only [List.mem_cons, List.not_mem_nil, or_false] at hx
  omega
end Go.Bil
namespace Go.Bil
/-! ### The best so far, by its place -/
structure BestC (ys : List Con) (i j : Nat) : Prop where
  lt : ys ≠ [] → j < ys.length
  z : i = 0 → j = 0
  ji : i ≠ 0 → j < i
  mx : ∀ (p : Nat) (x b : Con), p < i → ys[p]? = some x → ys[j]? = some b → x.depth ≤ b.depth ∧ (p < j → x.depth < b.depth)
theorem BestC.new {ys : List Con} {i j : Nat} {x b : Con} (h : BestC ys i j) (hx : ys[i]? = some x) (hb : ys[j]? = some b) (hc : x.depth > b.depth) : BestC ys (i + 1) i := by
  have hi := (List.getElem?_eq_some_iff.1 hx).1
  refine ⟨fun _ => hi, fun h => by omega, fun _ => by omega, fun p y c hp hy hcx => ?_⟩
  rw [hx] at hcx
  injection hcx with hcx
  subst hcx
  by_cases hpi : p = i
  · subst hpi
    rw [hx] at hy
    injection hy with hy
    subst hy
    exact ⟨Int.le_refl _, fun h => by omega⟩
  · have := (h.mx p y b (by omega) hy hb).1
    exact ⟨by omega, fun _ => by omega⟩
theorem BestC.old {ys : List Con} {i j : Nat} {x b : Con} (h : BestC ys i j) (hx : ys[i]? = some x) (hb : ys[j]? = some b) (hc : ¬ x.depth > b.depth) : BestC ys (i + 1) j := by
  refine ⟨h.lt, fun h => by omega, fun _ => ?_, fun p y c hp hy hcx => ?_⟩
  · by_cases hi : i = 0
    · have := h.z hi; omega
    · have := h.ji hi; omega
  · rw [hb] at hcx
    injection hcx with hcx
    subst hcx
    by_cases hpi : p = i
    · subst hpi
      rw [hx] at hy
      injection hy with hy
      subst hy
      refine ⟨by omega, fun hpj => ?_⟩
      by_cases hi : p = 0
      · have := h.z hi; omega
      · have := h.ji hi; omega
    · exact h.mx p y b (by omega) hy hb
theorem BestC.done {ys : List Con} {m j : Nat} {d : Con} (h : BestC ys m j) (hn : ys ≠ []) (hl : ys.length = m) (hd : (deepC ys).getD zCon = d) : ∃ x, ys[j]? = some x ∧ d = x := by
  have hj := h.lt hn
  refine ⟨ys[j], List.getElem?_eq_getElem hj, ?_⟩
  have hg := List.getElem?_eq_getElem hj
  obtain ⟨h1, h2, h3⟩ := deepC_law hd hn
  obtain ⟨p, hp⟩ := List.getElem?_of_mem h1
  have hpl := (List.getElem?_eq_some_iff.1 hp).1
  have e1 := (h.mx p d _ (by omega) hp hg).1
  have e2 := h2 _ (List.getElem_mem hj)
  refine (h3 j _ hg ?_ (by omega)).symm
  intro hm
  obtain ⟨q, hq⟩ := List.getElem?_of_mem hm
  rw [List.getElem?_take] at hq
  split at hq
  · have := (h.mx q d _ (by omega) hq hg).2 (by omega)
    omega
  · cases hq
/-! ### All contacts, by their pairs -/
theorem con_key {xs : List Body} (hs : Sorted xs) {c : Con} (h : c ∈ allC xs) : ∃ a b, a ∈ xs ∧ b ∈ xs ∧ a.key < b.key ∧ conOf a b = some c ∧ c.low = a.key ∧ c.high = b.key := by
  obtain ⟨z, hz, hc⟩ := List.mem_filterMap.1 h
  obtain ⟨a, b, ha, hb, hk, rfl, h1, h2⟩ := pair_bodies hs hz
  rw [conP_eq h1 h2] at hc
  have := conOf_key hk hc
  exact ⟨a, b, ha, hb, hk, hc, this.1, this.2⟩
theorem conOf5 (l : List Value) (h : Ints [.u32, .u32, .i32, .i32, .i32] l) : ∃ c, l = conCells c ∧ True := by
  obtain ⟨z0, l0, rfl, w0, h0⟩ := ints_cons h
  obtain ⟨z1, l1, rfl, w1, h1⟩ := ints_cons h0
  obtain ⟨z2, l2, rfl, w2, h2⟩ := ints_cons h1
  obtain ⟨z3, l3, rfl, w3, h3⟩ := ints_cons h2
  obtain ⟨z4, l4, rfl, w4, h4⟩ := ints_cons h3
  obtain rfl := ints_nil h4
  exact ⟨⟨z0, z1, z2, z3, z4⟩, rfl, trivial⟩
end Go.Bil

/- Plain laws of measures. -/
set_option linter.unusedVariables false
set_option linter.unusedSimpArgs false
namespace Go.Bil
/-- A box as measures have them: the empty one, or one with points. -/
def GoodB (a : Bx) : Prop := a = noneB ∨ (a.x0 ≤ a.x1 ∧ a.y0 ≤ a.y1)
/-! ### Measures -/
structure Meas where
  nb : Int
  ns : Int
  sp : Nat
  sx : Int
  sy : Int
  bx : Bx
  ov : Int
deriving DecidableEq
/-- What a measure of at most k bodies is like. -/
structure OkM (k : Nat) (m : Meas) : Prop where
  g : GoodB m.bx
  x : m.bx = noneB ∨ Okx m.bx
  nb : 0 ≤ m.nb ∧ m.nb ≤ k
  ns : 0 ≤ m.ns ∧ m.ns ≤ m.nb
  sp : m.sp < 18446744073709551616
  sx : -(16777216 * (k : Int)) ≤ m.sx ∧ m.sx ≤ 16777216 * k
  sy : -(16777216 * (k : Int)) ≤ m.sy ∧ m.sy ≤ 16777216 * k
  ov : -(2147483648 * ((k : Int) * k)) ≤ m.ov ∧ m.ov ≤ 2147483648 * ((k : Int) * k)
theorem OkM.mono {j k : Nat} {a : Meas} (h : OkM j a) (hjk : j ≤ k) : OkM k a := by
  have n1 := h.nb; have x1 := h.sx; have y1 := h.sy; have o1 := h.ov
  have hsq : (j : Int) * j ≤ (k : Int) * k := Int.mul_le_mul (by omega) (by omega) (by omega) (by omega)
  refine ⟨h.g, h.x, by omega, h.ns, h.sp, by omega, by omega, ?_⟩
  generalize (j : Int) * j = J at *
  generalize (k : Int) * k = K at *
  omega
/-! ### The measure of a view -/
/-! ### Depths -/
/-! ### Quiet -/
/-! ### Moved -/
/-! ### Two parts of a view -/
theorem mem_allC {xs : List Body} (hs : Sorted xs) (hb : ∀ b ∈ xs, Okb b) {c : Con} : c ∈ allC xs ↔ ∃ a b, a ∈ xs ∧ b ∈ xs ∧ a.key < b.key ∧ conOf a b = some c := by
  constructor
  · intro h
    obtain ⟨a, b, ha, hb, hk, hc, _⟩ := con_key hs h
    exact ⟨a, b, ha, hb, hk, hc⟩
  · rintro ⟨a, b, ha, hb', hk, hc⟩
    refine List.mem_filterMap.2 ⟨(a.key, b.key), (mem_findS hs).2 ⟨a, ha, b, hb', hk, ?_, rfl⟩, ?_⟩
    · by_cases ho : ovl (boxOf a) (boxOf b)
      · exact ho
      · rw [conOf_none (hb a ha) (hb b hb') hk ho] at hc; cases hc
    · rw [conP_eq (boM_get hs ha) (boM_get hs hb')]; exact hc
end Go.Bil

/- Plain laws of islands: a forest of keys, and a matrix that is closed. -/
set_option linter.unusedVariables false
set_option linter.unusedSimpArgs false
namespace Go.Bil
abbrev KMap := Int → Option Int
/-! ### A forest -/
structure Forest (f : KMap) : Prop where
  le : ∀ k p, f k = some p → p ≤ k
  nn : ∀ k p, f k = some p → 0 ≤ k
  dom : ∀ k p, f k = some p → ∃ q, f p = some q
theorem Forest.pn {f : KMap} (h : Forest f) {k p : Int} (hf : f k = some p) : 0 ≤ p := by
  obtain ⟨q, hq⟩ := h.dom k p hf
  exact h.nn p q hq
def rootF (f : KMap) : Nat → Int → Int
  | 0, k => k
  | n + 1, k => match f k with
    | some p => if p = k then k else rootF f n p
    | none => k
def rt (f : KMap) (k : Int) : Int := rootF f (k.toNat + 1) k
theorem rootF_fuel {f : KMap} (hF : Forest f) : ∀ (n m : Nat) (k : Int), k.toNat < n → k.toNat < m → rootF f n k = rootF f m k
  | 0, m, k, h, _ => by omega
  | n + 1, 0, k, _, h => by omega
  | n + 1, m + 1, k, h1, h2 => by
    unfold rootF
    cases hf : f k with
    | none => rfl
    | some p =>
      by_cases hp : p = k
      · simp only [if_pos hp]
      · simp only [if_neg hp]
        have := hF.le k p hf
        have := hF.nn k p hf
        have := hF.pn hf
        exact rootF_fuel hF n m p (by omega) (by omega)
theorem rt_self {f : KMap} {k : Int} (h : f k = some k) : rt f k = k := by
  unfold rt rootF; rw [h]; simp
theorem rt_step {f : KMap} (hF : Forest f) {k p : Int} (h : f k = some p) : rt f k = rt f p := by
  by_cases hp : p = k
  · rw [hp]
  · have h1 := hF.le k p h
    have h2 := hF.nn k p h
    have h3 := hF.pn h
    have e : rt f k = rootF f k.toNat p := by
      unfold rt
      rw [rootF, h]
      simp only [if_neg hp]
    rw [e]
    exact rootF_fuel hF _ _ p (by omega) (by omega)
theorem rt_spec {f : KMap} (hF : Forest f) : ∀ (n : Nat) (k p : Int), k.toNat < n → f k = some p → f (rt f k) = some (rt f k) ∧ rt f k ≤ k
  | 0, k, p, h, _ => by omega
  | n + 1, k, p, h, hf => by
    by_cases hp : p = k
    · subst hp
      rw [rt_self hf]
      exact ⟨hf, Int.le_refl _⟩
    · have h1 := hF.le k p hf
      have h2 := hF.nn k p hf
      have h3 := hF.pn hf
      obtain ⟨q, hq⟩ := hF.dom k p hf
      rw [rt_step hF hf]
      have := rt_spec hF n p q (by omega) hq
      exact ⟨this.1, by omega⟩
theorem rt_root {f : KMap} (hF : Forest f) {k p : Int} (h : f k = some p) : f (rt f k) = some (rt f k) ∧ rt f k ≤ k := rt_spec hF _ k p (Nat.lt_succ_self _) h
def updK (f : KMap) (k v : Int) : KMap := fun q => if q = k then some v else f q
/-- Two roots are joined. -/
theorem join_forest {f : KMap} (hF : Forest f) {x y : Int} (hx : f x = some x) (hy : f y = some y) : Forest (updK f (max x y) (min x y)) := by
  have nx := hF.nn _ _ hx
  have ny := hF.nn _ _ hy
  have hd : ∀ q v, f q = some v → ∃ u, updK f (max x y) (min x y) q = some u := fun q v h => by
    unfold updK; split
    · exact ⟨_, rfl⟩
    · exact ⟨v, h⟩
  refine ⟨fun k p h => ?_, fun k p h => ?_, fun k p h => ?_⟩
  · unfold updK at h
    split at h
    · injection h with h; omega
    · exact hF.le k p h
  · unfold updK at h
    split at h
    · omega
    · exact hF.nn k p h
  · unfold updK at h
    split at h
    · injection h with h
      subst h
      rcases Int.le_total x y with e | e
      · exact hd _ _ ((congrArg f (show min x y = x by omega)).trans hx)
      · exact hd _ _ ((congrArg f (show min x y = y by omega)).trans hy)
    · obtain ⟨q, hq⟩ := hF.dom k p h
      exact hd p q hq
theorem join_rt {f : KMap} (hF : Forest f) {x y : Int} (hx : f x = some x) (hy : f y = some y) : ∀ (n : Nat) (k p : Int), k.toNat < n → f k = some p → rt (updK f (max x y) (min x y)) k = if rt f k = max x y then min x y else rt f k
  | 0, k, p, h, _ => by omega
  | n + 1, k, p, h, hf => by
    have hF' := join_forest hF hx hy
    have hmin : rt (updK f (max x y) (min x y)) (min x y) = min x y := by
      refine rt_self ?_
      unfold updK
      split
      · rfl
      · rcases Int.le_total x y with e | e
        · rw [show min x y = x by omega]; exact hx
        · rw [show min x y = y by omega]; exact hy
    by_cases hk : k = max x y
    · subst hk
      have e1 : updK f (max x y) (min x y) (max x y) = some (min x y) := by unfold updK; rw [if_pos rfl]
      have e2 : f (max x y) = some (max x y) := by
        rcases Int.le_total x y with e | e
        · rw [show max x y = y by omega]; exact hy
        · rw [show max x y = x by omega]; exact hx
      rw [rt_step hF' e1, hmin, rt_self e2, if_pos rfl]
    · have e1 : updK f (max x y) (min x y) k = some p := by unfold updK; rw [if_neg hk]; exact hf
      by_cases hp : p = k
      · subst hp
        rw [rt_self e1, rt_self hf, if_neg hk]
      · have h1 := hF.le k p hf
        have h2 := hF.nn k p hf
        have h3 := hF.pn hf
        obtain ⟨q, hq⟩ := hF.dom k p hf
        rw [rt_step hF' e1, rt_step hF hf]
        exact join_rt hF hx hy n p q (by omega) hq
/-! ### The forest of a view and its contacts -/
def dynM (xs : List Body) : KMap := fun k => (xs.reverse.find? (fun b => decide (b.key = k ∧ b.mass ≠ 0))).map (·.key)
def joinK (f : KMap) (a b : Int) : KMap := updK f (max (rt f a) (rt f b)) (min (rt f a) (rt f b))
def linkK (f : KMap) (c : Con) : KMap := if (f c.low).isSome = true ∧ (f c.high).isSome = true then joinK f c.low c.high else f
def forestOf (xs : List Body) (l : List Con) : KMap := l.foldl linkK (dynM xs)
/-- A key that moves: that of a body that is not static. -/
def Dyn (xs : List Body) (k : Int) : Prop := ∃ b ∈ xs, b.key = k ∧ b.mass ≠ 0
theorem dynM_some {xs : List Body} {k p : Int} : dynM xs k = some p ↔ p = k ∧ Dyn xs k := by
  unfold dynM Dyn
  cases hf : xs.reverse.find? (fun b => decide (b.key = k ∧ b.mass ≠ 0)) with
  | none =>
    simp only [Option.map_none, reduceCtorEq, false_iff, not_and]
    rintro _ ⟨b, hb, h⟩
    have := List.find?_eq_none.1 hf b (by simpa using hb)
    simp only [decide_eq_true_eq] at this
    exact this h
  | some b =>
    have h1 := List.find?_some hf
    have h2 : b ∈ xs := by simpa using List.mem_of_find?_eq_some hf
    simp only [decide_eq_true_eq] at h1
    simp only [Option.map_some, Option.some.injEq]
    constructor
    · rintro rfl; exact ⟨h1.1, b, h2, h1.1 ▸ rfl, h1.2⟩
    · rintro ⟨rfl, _⟩; exact h1.1
theorem dynM_nil (q : Int) : dynM [] q = none := rfl
theorem dynM_snoc {xs : List Body} {k : Nat} {b : Body} (h : xs[k]? = some b) (q : Int) : dynM (xs.take (k + 1)) q = if q = b.key ∧ b.mass ≠ 0 then some b.key else dynM (xs.take k) q := by
  unfold dynM
  rw [take_snoc h, List.reverse_append]
  simp only [List.reverse_cons, List.reverse_nil, List.nil_append, List.singleton_append, List.find?_cons]
  by_cases e : b.key = q ∧ b.mass ≠ 0
  · rw [decide_eq_true e, if_pos ⟨e.1.symm, e.2⟩]; rfl
  · rw [decide_eq_false e, if_neg (fun h => e ⟨h.1.symm, h.2⟩)]
structure Fst (xs : List Body) (f : KMap) : Prop where
  F : Forest f
  dom : ∀ k, (∃ p, f k = some p) ↔ Dyn xs k
theorem dyn_fst {xs : List Body} (hk : ∀ b ∈ xs, 0 ≤ b.key) : Fst xs (dynM xs) := by
  refine ⟨⟨fun k p h => ?_, fun k p h => ?_, fun k p h => ?_⟩, fun k => ?_⟩
  · have := dynM_some.1 h; omega
  · obtain ⟨_, b, hb, e, _⟩ := dynM_some.1 h
    have := hk b hb; omega
  · obtain ⟨rfl, _⟩ := dynM_some.1 h
    exact ⟨_, h⟩
  · exact ⟨fun ⟨p, h⟩ => (dynM_some.1 h).2, fun h => ⟨k, dynM_some.2 ⟨rfl, h⟩⟩⟩
theorem join_fst {xs : List Body} {f : KMap} (h : Fst xs f) {a b : Int} (ha : Dyn xs a) (hb : Dyn xs b) : Fst xs (joinK f a b) ∧ ∀ k, Dyn xs k → rt (joinK f a b) k = if rt f k = max (rt f a) (rt f b) then min (rt f a) (rt f b) else rt f k := by
  obtain ⟨pa, hpa⟩ := (h.dom a).2 ha
  obtain ⟨pb, hpb⟩ := (h.dom b).2 hb
  have ra := rt_root h.F hpa
  have rb := rt_root h.F hpb
  refine ⟨⟨join_forest h.F ra.1 rb.1, fun k => ?_⟩, fun k hk => ?_⟩
  · rw [← h.dom k]
    unfold joinK updK
    split
    · rename_i e
      refine ⟨fun _ => ?_, fun _ => ⟨_, rfl⟩⟩
      rw [e]
      rcases Int.le_total (rt f a) (rt f b) with o | o
      · exact ⟨_, by rw [show max (rt f a) (rt f b) = rt f b by omega]; exact rb.1⟩
      · exact ⟨_, by rw [show max (rt f a) (rt f b) = rt f a by omega]; exact ra.1⟩
    · rfl
  · obtain ⟨p, hp⟩ := (h.dom k).2 hk
    exact join_rt h.F ra.1 rb.1 _ k p (Nat.lt_succ_self _) hp
theorem link_fst {xs : List Body} {f : KMap} (h : Fst xs f) (c : Con) : Fst xs (linkK f c) := by
  unfold linkK
  split
  · rename_i hc
    exact (join_fst h ((h.dom _).1 (Option.isSome_iff_exists.1 hc.1)) ((h.dom _).1 (Option.isSome_iff_exists.1 hc.2))).1
  · exact h
theorem fold_fst {xs : List Body} : ∀ (l : List Con) (f : KMap), Fst xs f → Fst xs (l.foldl linkK f)
  | [], f, h => h
  | c :: l, f, h => fold_fst l _ (link_fst h c)
theorem forest_fst {xs : List Body} (hk : ∀ b ∈ xs, 0 ≤ b.key) (l : List Con) : Fst xs (forestOf xs l) := fold_fst l _ (dyn_fst hk)
theorem forestOf_snoc {xs : List Body} {l : List Con} {k : Nat} {c : Con} (h : l[k]? = some c) : forestOf xs (l.take (k + 1)) = linkK (forestOf xs (l.take k)) c := by
  unfold forestOf; rw [take_snoc h, List.foldl_append]; rfl
/-- Keys with one root. -/
def Same (f : KMap) (a b : Int) : Prop := rt f a = rt f b
theorem link_mono {xs : List Body} {f : KMap} (h : Fst xs f) (c : Con) {a b : Int} (ha : Dyn xs a) (hb : Dyn xs b) (hs : Same f a b) : Same (linkK f c) a b := by
  unfold linkK
  split
  · rename_i hc
    have hj := (join_fst h ((h.dom _).1 (Option.isSome_iff_exists.1 hc.1)) ((h.dom _).1 (Option.isSome_iff_exists.1 hc.2))).2
    unfold Same at *
    rw [hj a ha, hj b hb, hs]
  · exact hs
theorem fold_mono {xs : List Body} : ∀ (l : List Con) (f : KMap), Fst xs f → ∀ {a b : Int}, Dyn xs a → Dyn xs b → Same f a b → Same (l.foldl linkK f) a b
  | [], f, _, _, _, _, _, hs => hs
  | c :: l, f, h, a, b, ha, hb, hs => fold_mono l _ (link_fst h c) ha hb (link_mono h c ha hb hs)
theorem link_same {xs : List Body} {f : KMap} (h : Fst xs f) {c : Con} (ha : Dyn xs c.low) (hb : Dyn xs c.high) : Same (linkK f c) c.low c.high := by
  have hc : (f c.low).isSome = true ∧ (f c.high).isSome = true := ⟨Option.isSome_iff_exists.2 ((h.dom _).2 ha), Option.isSome_iff_exists.2 ((h.dom _).2 hb)⟩
  have hj := (join_fst h ha hb).2
  unfold linkK Same
  rw [if_pos hc, hj _ ha, hj _ hb]
  split <;> split <;> omega
/-- Every contact of bodies that move joins. -/
theorem forest_joins {xs : List Body} (hk : ∀ b ∈ xs, 0 ≤ b.key) : ∀ (l : List Con) (f : KMap), Fst xs f → ∀ c ∈ l, Dyn xs c.low → Dyn xs c.high → Same (l.foldl linkK f) c.low c.high
  | c' :: l, f, h, c, hc, ha, hb => by
    rcases List.mem_cons.1 hc with rfl | hc
    · exact fold_mono l _ (link_fst h c) ha hb (link_same h ha hb)
    · exact forest_joins hk l _ (link_fst h c') c hc ha hb
/-- What every equivalence with the contacts contains. -/
structure Eqv (xs : List Body) (R : Int → Int → Prop) : Prop where
  r : ∀ a, Dyn xs a → R a a
  s : ∀ a b, Dyn xs a → Dyn xs b → R a b → R b a
  t : ∀ a b c, Dyn xs a → Dyn xs b → Dyn xs c → R a b → R b c → R a c
theorem rt_dyn {xs : List Body} {f : KMap} (h : Fst xs f) {k : Int} (hk : Dyn xs k) : Dyn xs (rt f k) := by
  obtain ⟨p, hp⟩ := (h.dom k).2 hk
  exact (h.dom _).1 ⟨_, (rt_root h.F hp).1⟩
theorem forest_least {xs : List Body} {R : Int → Int → Prop} (hR : Eqv xs R) : ∀ (l : List Con) (f : KMap), Fst xs f → (∀ c ∈ l, Dyn xs c.low → Dyn xs c.high → R c.low c.high) → (∀ k, Dyn xs k → R k (rt f k)) → ∀ k, Dyn xs k → R k (rt (l.foldl linkK f) k)
  | [], f, _, _, h0, k, hk => h0 k hk
  | c :: l, f, h, hc, h0, k, hk => by
    refine forest_least hR l _ (link_fst h c) (fun d hd => hc d (by simp [hd])) (fun q hq => ?_) k hk
    unfold linkK
    split
    · rename_i hcc
      have ha := (h.dom _).1 (Option.isSome_iff_exists.1 hcc.1)
      have hb := (h.dom _).1 (Option.isSome_iff_exists.1 hcc.2)
      have hj := (join_fst h ha hb).2
      have da := rt_dyn h ha
      have db := rt_dyn h hb
      rw [hj q hq]
      split
      · rename_i e
        have hxy : R (rt f c.low) (rt f c.high) := hR.t _ _ _ da hb db (hR.t _ _ _ da ha hb (hR.s _ _ ha da (h0 _ ha)) (hc c (by simp) ha hb)) (h0 _ hb)
        have hq0 := h0 q hq
        rcases Int.le_total (rt f c.low) (rt f c.high) with o | o
        · rw [show min (rt f c.low) (rt f c.high) = rt f c.low by omega]
          rw [show rt f q = rt f c.high by omega] at hq0
          exact hR.t _ _ _ hq db da hq0 (hR.s _ _ da db hxy)
        · rw [show min (rt f c.low) (rt f c.high) = rt f c.high by omega]
          rw [show rt f q = rt f c.low by omega] at hq0
          exact hR.t _ _ _ hq da db hq0 hxy
      · exact h0 q hq
    · exact h0 q hq
theorem same_least {xs : List Body} {R : Int → Int → Prop} (hR : Eqv xs R) (hk : ∀ b ∈ xs, 0 ≤ b.key) {l : List Con} (hc : ∀ c ∈ l, Dyn xs c.low → Dyn xs c.high → R c.low c.high) {a b : Int} (ha : Dyn xs a) (hb : Dyn xs b) (h : Same (forestOf xs l) a b) : R a b := by
  have hf := dyn_fst hk
  have h0 : ∀ k, Dyn xs k → R k (rt (dynM xs) k) := fun k hk' => by rw [rt_self (dynM_some.2 ⟨rfl, hk'⟩)]; exact hR.r k hk'
  have h1 := forest_least hR l _ hf hc h0 a ha
  have h2 := forest_least hR l _ hf hc h0 b hb
  have dr := rt_dyn (forest_fst hk l) ha
  unfold Same at h
  have h' : rt (l.foldl linkK (dynM xs)) a = rt (l.foldl linkK (dynM xs)) b := h
  rw [← h'] at h2
  exact hR.t _ _ _ ha dr hb h1 (hR.s _ _ hb dr h2)
end Go.Bil

/- Plain laws of islands: the lists, and the matrix of the reference. -/
set_option linter.unusedVariables false
set_option linter.unusedSimpArgs false
namespace Go.Bil
/-! ### The lists of the islands -/
def memR (f : KMap) (r : Int) (b : Body) : Bool := decide (b.mass ≠ 0 ∧ rt f b.key = r)
def rootB (f : KMap) (b : Body) : Bool := decide (b.mass ≠ 0 ∧ rt f b.key = b.key)
def rootsL (f : KMap) (ys : List Body) : List Int := (ys.filter (rootB f)).map (·.key)
def keysR (f : KMap) (ys : List Body) (r : Int) : List Int := (ys.filter (memR f r)).map (·.key)
def islL (f : KMap) (ys : List Body) : List (List Int) := (rootsL f ys).map (keysR f ys)
def atM (f : KMap) (ys : List Body) : Int → Option Int := fun k => if k ∈ rootsL f ys then some ((rootsL f ys).idxOf k : Int) else none
theorem islL_len (f : KMap) (ys : List Body) : (islL f ys).length = (rootsL f ys).length := by simp [islL]
theorem roots_len (f : KMap) (ys : List Body) : (rootsL f ys).length ≤ ys.length := by unfold rootsL; rw [List.length_map]; exact List.length_filter_le _ _
theorem keysR_len (f : KMap) (ys : List Body) (r : Int) : (keysR f ys r).length ≤ ys.length := by unfold keysR; rw [List.length_map]; exact List.length_filter_le _ _
theorem keysR_snoc (f : KMap) (ys : List Body) (b : Body) (r : Int) : keysR f (ys ++ [b]) r = keysR f ys r ++ (if b.mass ≠ 0 ∧ rt f b.key = r then [b.key] else []) := by
  unfold keysR
  rw [List.filter_append, List.map_append]
  congr 1
  by_cases h : b.mass ≠ 0 ∧ rt f b.key = r
  · rw [if_pos h]; simp [memR, h]
  · rw [if_neg h, List.filter_cons]; rw [show memR f r b = false from decide_eq_false h]; rfl
theorem roots_snoc (f : KMap) (ys : List Body) (b : Body) : rootsL f (ys ++ [b]) = rootsL f ys ++ (if b.mass ≠ 0 ∧ rt f b.key = b.key then [b.key] else []) := by
  unfold rootsL
  rw [List.filter_append, List.map_append]
  congr 1
  by_cases h : b.mass ≠ 0 ∧ rt f b.key = b.key
  · rw [if_pos h]; simp [rootB, h]
  · rw [if_neg h, List.filter_cons]; rw [show rootB f b = false from decide_eq_false h]; rfl
theorem isl_static {f : KMap} {ys : List Body} {b : Body} (h : b.mass = 0) : islL f (ys ++ [b]) = islL f ys ∧ rootsL f (ys ++ [b]) = rootsL f ys := by
  have e : rootsL f (ys ++ [b]) = rootsL f ys := by rw [roots_snoc, if_neg (fun x => x.1 h), List.append_nil]
  refine ⟨?_, e⟩
  unfold islL
  rw [e]
  refine List.map_congr_left fun r _ => ?_
  rw [keysR_snoc, if_neg (fun x => x.1 h), List.append_nil]
/-- A root joins: a list of its own. -/
theorem isl_root {xs : List Body} {f : KMap} (hf : Fst xs f) (hs : Sorted xs) {k : Nat} {b : Body} (hb : xs[k]? = some b) (hm : b.mass ≠ 0) (hr : rt f b.key = b.key) :
    islL f (xs.take (k + 1)) = islL f (xs.take k) ++ [[b.key]] ∧ rootsL f (xs.take (k + 1)) = rootsL f (xs.take k) ++ [b.key] := by
  have hlt : ∀ c ∈ xs.take k, c.key < b.key := fun c hc => by
    obtain ⟨i, hi⟩ := List.getElem?_of_mem hc
    rw [List.getElem?_take] at hi
    split at hi
    · exact sorted_lt hs (by assumption) hi hb
    · cases hi
  rw [take_snoc hb]
  have e : rootsL f (xs.take k ++ [b]) = rootsL f (xs.take k) ++ [b.key] := by rw [roots_snoc, if_pos ⟨hm, hr⟩]
  refine ⟨?_, e⟩
  unfold islL
  rw [e, List.map_append]
  congr 1
  · refine List.map_congr_left fun r hrr => ?_
    rw [keysR_snoc, if_neg, List.append_nil]
    rintro ⟨_, e2⟩
    obtain ⟨c, hc, rfl⟩ := List.mem_map.1 hrr
    have := hlt c (List.mem_filter.1 hc).1
    omega
  · simp only [List.map_cons, List.map_nil]
    rw [keysR_snoc, if_pos ⟨hm, hr⟩]
    have : keysR f (xs.take k) b.key = [] := by
      unfold keysR
      rw [List.map_eq_nil_iff, List.filter_eq_nil_iff]
      intro c hc hcm
      simp only [memR, decide_eq_true_eq] at hcm
      have hd : Dyn xs c.key := ⟨c, (List.take_sublist _ _).subset hc, rfl, hcm.1⟩
      obtain ⟨p, hp⟩ := (hf.dom _).2 hd
      have := (rt_root hf.F hp).2
      have := hlt c hc
      omega
    rw [this]; rfl
/-- Another body joins the list of its root. -/
theorem isl_other {xs : List Body} {f : KMap} (hf : Fst xs f) (hs : Sorted xs) {k : Nat} {b : Body} (hb : xs[k]? = some b) (hm : b.mass ≠ 0) (hr : rt f b.key ≠ b.key) :
    rootsL f (xs.take (k + 1)) = rootsL f (xs.take k) ∧ ∃ j : Nat, (rootsL f (xs.take k))[j]? = some (rt f b.key) ∧ islL f (xs.take (k + 1)) = (islL f (xs.take k)).set j (keysR f (xs.take k) (rt f b.key) ++ [b.key]) := by
  have hd : Dyn xs b.key := ⟨b, List.mem_of_getElem? hb, rfl, hm⟩
  obtain ⟨p, hp⟩ := (hf.dom _).2 hd
  obtain ⟨h1, h2⟩ := rt_root hf.F hp
  obtain ⟨c, hc, hck, hcm⟩ := rt_dyn hf hd
  obtain ⟨i, hi⟩ := List.getElem?_of_mem hc
  have hik : i < k := by
    rcases Nat.lt_trichotomy i k with h | h | h
    · exact h
    · subst h; rw [hi] at hb; injection hb with hb; subst hb; exact absurd hck.symm hr
    · have := sorted_lt hs h hb hi; omega
  have hct : c ∈ xs.take k := List.mem_of_getElem? (i := i) (by rw [List.getElem?_take, if_pos hik]; exact hi)
  have hmem : rt f b.key ∈ rootsL f (xs.take k) := List.mem_map.2 ⟨c, List.mem_filter.2 ⟨hct, decide_eq_true ⟨hcm, by rw [hck]; exact rt_self h1⟩⟩, hck⟩
  rw [take_snoc hb]
  have e : rootsL f (xs.take k ++ [b]) = rootsL f (xs.take k) := by rw [roots_snoc, if_neg (fun x => hr x.2), List.append_nil]
  refine ⟨e, ?_⟩
  obtain ⟨j, hj⟩ := List.getElem?_of_mem hmem
  refine ⟨j, hj, ?_⟩
  have hnd : (rootsL f (xs.take k)).Nodup := by
    have h3 : (xs.take k).Pairwise (fun a b => a.key < b.key) := hs.sublist (List.take_sublist _ _)
    unfold rootsL
    refine (List.Pairwise.sublist List.filter_sublist h3).map _ ?_
    intro a b h; omega
  unfold islL
  rw [e]
  refine List.ext_getElem? fun q => ?_
  rw [List.getElem?_set, List.getElem?_map, List.getElem?_map, List.length_map]
  have hjl := (List.getElem?_eq_some_iff.1 hj).1
  by_cases hq : j = q
  · subst hq
    rw [if_pos rfl, if_pos hjl, hj, Option.map_some, keysR_snoc, if_pos ⟨hm, rfl⟩]
  · rw [if_neg hq]
    cases hrq : (rootsL f (xs.take k))[q]? with
    | none => rfl
    | some r =>
      rw [Option.map_some, Option.map_some, keysR_snoc, if_neg, List.append_nil]
      rintro ⟨_, e2⟩
      have hql := (List.getElem?_eq_some_iff.1 hrq)
      have hjl' := (List.getElem?_eq_some_iff.1 hj)
      have hpw := List.pairwise_iff_getElem.1 hnd
      rcases Nat.lt_or_gt_of_ne hq with h | h
      · exact hpw j q hjl'.1 hql.1 h (hjl'.2.trans (e2.trans hql.2.symm))
      · exact hpw q j hql.1 hjl'.1 h (hql.2.trans (e2.symm.trans hjl'.2.symm))
theorem atM_get {f : KMap} {ys : List Body} {j : Nat} {r : Int} (hnd : (rootsL f ys).Nodup) (h : (rootsL f ys)[j]? = some r) : atM f ys r = some (j : Int) := by
  unfold atM
  rw [if_pos (List.mem_of_getElem? h)]
  obtain ⟨hj, e⟩ := List.getElem?_eq_some_iff.1 h
  congr 2
  rw [← e]
  exact hnd.idxOf_getElem j hj
theorem roots_nodup {xs : List Body} (hs : Sorted xs) (f : KMap) (k : Nat) : (rootsL f (xs.take k)).Nodup := by
  have h3 : (xs.take k).Pairwise (fun a b => a.key < b.key) := hs.sublist (List.take_sublist _ _)
  unfold rootsL
  refine (List.Pairwise.sublist List.filter_sublist h3).map _ ?_
  intro a b h; omega
theorem atM_root {f : KMap} {ys : List Body} {r : Int} (hn : r ∉ rootsL f ys) (q : Int) (ys' : List Body) (h : rootsL f ys' = rootsL f ys ++ [r]) : atM f ys' q = if q = r then some ((rootsL f ys).length : Int) else atM f ys q := by
  unfold atM
  rw [h]
  by_cases hq : q = r
  · subst hq
    rw [if_pos (by simp), if_pos rfl, List.idxOf_append, if_neg hn]
    simp
  · rw [if_neg hq]
    by_cases hm : q ∈ rootsL f ys
    · rw [if_pos (by simp [hm]), if_pos hm, List.idxOf_append, if_pos hm]
    · rw [if_neg (by simp [hm, hq]), if_neg hm]
/-! ### The matrix of the reference -/
def mget (n : Nat) (m : List Bool) (a b : Nat) : Bool := m.getD (a * n + b) false
theorem midx {n a b c d : Nat} (hb : b < n) (hd : d < n) : a * n + b = c * n + d ↔ a = c ∧ b = d := by
  constructor
  · intro h
    have h1 : (a * n + b) / n = a := by rw [Nat.mul_comm, Nat.mul_add_div (by omega), Nat.div_eq_of_lt hb, Nat.add_zero]
    have h2 : (c * n + d) / n = c := by rw [Nat.mul_comm, Nat.mul_add_div (by omega), Nat.div_eq_of_lt hd, Nat.add_zero]
    have e : a = c := by rw [← h1, ← h2, h]
    subst e
    exact ⟨rfl, by omega⟩
  · rintro ⟨rfl, rfl⟩; rfl
theorem midx_lt {n a b : Nat} (ha : a < n) (hb : b < n) : a * n + b < n * n := by
  have : (a + 1) * n ≤ n * n := Nat.mul_le_mul_right _ ha
  rw [Nat.add_mul, Nat.one_mul] at this
  omega
theorem mget_set {n : Nat} {m : List Bool} {a b : Nat} {v : Bool} (hl : m.length = n * n) (ha : a < n) (hb : b < n) (c d : Nat) (hd : d < n) : mget n (m.set (a * n + b) v) c d = if c = a ∧ d = b then v else mget n m c d := by
  unfold mget
  rw [List.getD_eq_getElem?_getD, List.getD_eq_getElem?_getD, List.getElem?_set]
  by_cases h : c = a ∧ d = b
  · rw [if_pos h, if_pos ((midx hb hd).2 ⟨h.1.symm, h.2.symm⟩), if_pos (by rw [hl]; exact midx_lt ha hb)]; rfl
  · rw [if_neg h, if_neg (fun e => h (by have := (midx hb hd).1 e; omega))]
theorem mget_at {n : Nat} {m : List Bool} {a b : Nat} (hl : m.length = n * n) (ha : a < n) (hb : b < n) : m[a * n + b]? = some (mget n m a b) := by
  have := midx_lt ha hb
  unfold mget
  rw [List.getD_eq_getElem?_getD, List.getElem?_eq_getElem (by omega)]
  rfl
/-- The body at a place. -/
abbrev keyAt (xs : List Body) (i : Nat) : Int := (xs.getD i default).key
abbrev dynAt (xs : List Body) (i : Nat) : Prop := (xs.getD i default).mass ≠ 0
/-- What holds of the matrix: true entries stand for bodies that move, with one root. -/
structure Snd (xs : List Body) (f : KMap) (m : List Bool) : Prop where
  len : m.length = xs.length * xs.length
  s : ∀ a b, a < xs.length → b < xs.length → mget xs.length m a b = true → dynAt xs a ∧ dynAt xs b ∧ rt f (keyAt xs a) = rt f (keyAt xs b)
  y : ∀ a b, a < xs.length → b < xs.length → mget xs.length m a b = mget xs.length m b a
def TrK (n : Nat) (m : List Bool) (k : Nat) : Prop := ∀ j, j < k → ∀ a b, a < n → b < n → mget n m a j = true → mget n m j b = true → mget n m a b = true
/-- Within the rounds of k: the entries before place p have been looked at. -/
structure Ph (n : Nat) (m0 m : List Bool) (k p : Nat) : Prop where
  len : m.length = n * n
  e : ∀ a b, a < n → b < n → mget n m a b = (mget n m0 a b || (decide (a * n + b < p) && mget n m0 a k && mget n m0 k b))
theorem ph_init {n : Nat} {m0 : List Bool} (hl : m0.length = n * n) (k : Nat) : Ph n m0 m0 k 0 := ⟨hl, fun a b _ _ => by simp⟩
theorem ph_read {n : Nat} {m0 m : List Bool} {k p : Nat} (h : Ph n m0 m k p) (hk : k < n) {a : Nat} (ha : a < n) : mget n m a k = mget n m0 a k ∧ mget n m k a = mget n m0 k a := by
  rw [h.e a k ha hk, h.e k a hk ha]
  cases mget n m0 a k <;> cases mget n m0 k a <;> simp
theorem ph_step {n : Nat} {m0 m : List Bool} {k a b : Nat} (h : Ph n m0 m k (a * n + b)) (hk : k < n) (ha : a < n) (hb : b < n) :
    ((mget n m a k = true ∧ mget n m k b = true) → Ph n m0 (m.set (a * n + b) true) k (a * n + b + 1)) ∧ (¬ (mget n m a k = true ∧ mget n m k b = true) → Ph n m0 m k (a * n + b + 1)) := by
  have r1 := (ph_read h hk ha).1
  have r2 := (ph_read h hk hb).2
  constructor
  · rintro ⟨h1, h2⟩
    refine ⟨by rw [List.length_set]; exact h.len, fun c d hc hd => ?_⟩
    rw [mget_set h.len ha hb c d hd]
    split
    · rename_i e
      obtain ⟨rfl, rfl⟩ := e
      rw [← r1, ← r2, h1, h2]
      simp
    · rename_i e
      rw [h.e c d hc hd]
      have : decide (c * n + d < a * n + b) = decide (c * n + d < a * n + b + 1) := decide_eq_decide.2 ⟨fun _ => by omega, fun hlt => by
        have : c * n + d ≠ a * n + b := fun e2 => e ((midx hd hb).1 e2)
        omega⟩
      rw [this]
  · intro hn
    refine ⟨h.len, fun c d hc hd => ?_⟩
    rw [h.e c d hc hd]
    by_cases e : c = a ∧ d = b
    · obtain ⟨rfl, rfl⟩ := e
      rw [r1, r2] at hn
      cases h1 : mget n m0 c k <;> cases h2 : mget n m0 k d <;> simp [h1, h2] at hn ⊢
    · have : decide (c * n + d < a * n + b) = decide (c * n + d < a * n + b + 1) := decide_eq_decide.2 ⟨fun _ => by omega, fun hlt => by
        have : c * n + d ≠ a * n + b := fun e2 => e ((midx hd hb).1 e2)
        omega⟩
      rw [this]
theorem ph_done {n : Nat} {m0 m : List Bool} {k : Nat} (h : Ph n m0 m k (n * n)) {a b : Nat} (ha : a < n) (hb : b < n) : mget n m a b = true ↔ mget n m0 a b = true ∨ (mget n m0 a k = true ∧ mget n m0 k b = true) := by
  rw [h.e a b ha hb, decide_eq_true (midx_lt ha hb)]
  simp
theorem ph_tr {n : Nat} {m0 m : List Bool} {k : Nat} (h : Ph n m0 m k (n * n)) (hk : k < n) (hT : TrK n m0 k) : TrK n m (k + 1) := by
  intro j hj a b ha hb h1 h2
  have hjn : j < n := by omega
  rw [ph_done h ha hjn] at h1
  rw [ph_done h hjn hb] at h2
  rw [ph_done h ha hb]
  by_cases hjk : j = k
  · subst hjk
    exact .inr ⟨h1.elim id (·.1), h2.elim id (·.2)⟩
  · have hjk' : j < k := by omega
    rcases h1 with h1 | ⟨h1, h3⟩
    · rcases h2 with h2 | ⟨h2, h4⟩
      · exact .inl (hT j hjk' a b ha hb h1 h2)
      · exact .inr ⟨hT j hjk' a k ha hk h1 h2, h4⟩
    · rcases h2 with h2 | ⟨h2, h4⟩
      · exact .inr ⟨h1, hT j hjk' k b hk hb h3 h2⟩
      · exact .inr ⟨h1, h4⟩
theorem ph_snd {xs : List Body} {f : KMap} {m0 m : List Bool} {k : Nat} (h : Ph xs.length m0 m k (xs.length * xs.length)) (hk : k < xs.length) (hS : Snd xs f m0) : Snd xs f m := by
  refine ⟨h.len, fun a b ha hb hab => ?_, fun a b ha hb => ?_⟩
  · rcases (ph_done h ha hb).1 hab with h1 | ⟨h1, h2⟩
    · exact hS.s a b ha hb h1
    · have q1 := hS.s a k ha hk h1
      have q2 := hS.s k b hk hb h2
      exact ⟨q1.1, q2.2.1, q1.2.2.trans q2.2.2⟩
  · rw [Bool.eq_iff_iff, ph_done h ha hb, ph_done h hb ha, hS.y a b ha hb, hS.y a k ha hk, hS.y k b hk hb]
    exact ⟨fun h => h.imp id fun h => ⟨h.2, h.1⟩, fun h => h.imp id fun h => ⟨h.2, h.1⟩⟩
theorem ph_le {n : Nat} {m0 m : List Bool} {k p : Nat} (h : Ph n m0 m k p) {a b : Nat} (ha : a < n) (hb : b < n) (h0 : mget n m0 a b = true) : mget n m a b = true := by rw [h.e a b ha hb, h0]; simp
end Go.Bil
namespace Go.Bil
/-- A contact as the laws of islands admit it. -/
structure RightOne (xs : List Body) (c : Con) : Prop where
  ne : ¬ c.low = c.high
  l : 0 ≤ findI c.low xs
  h : 0 ≤ findI c.high xs
instance (xs : List Body) (c : Con) : Decidable (RightOne xs c) := decidable_of_iff (¬ c.low = c.high ∧ 0 ≤ findI c.low xs ∧ 0 ≤ findI c.high xs) ⟨fun h => ⟨h.1, h.2.1, h.2.2⟩, fun h => ⟨h.1, h.2, h.3⟩⟩
abbrev RightC (xs : List Body) (cs : List Con) : Prop := cs.length ≤ 100 ∧ ∀ x ∈ cs, RightOne xs x
end Go.Bil
namespace Go.Bil
def boolCell (b : Bool) : List Value := [.bool b]
theorem rep_bool (k : Nat) : List.replicate k ([.bool false] : List Value) = (List.replicate k false).map boolCell := by simp [boolCell]
/-- The diagonal, so far. -/
structure Dg0 (xs : List Body) (m : List Bool) (i : Nat) : Prop where
  len : m.length = xs.length * xs.length
  e : ∀ a b, a < xs.length → b < xs.length → mget xs.length m a b = decide (a = b ∧ a < i ∧ dynAt xs a)
theorem dg0_init (xs : List Body) : Dg0 xs (List.replicate (xs.length * xs.length) false) 0 := by
  refine ⟨by simp, fun a b ha hb => ?_⟩
  rw [decide_eq_false (fun h => by omega)]
  unfold mget
  rw [List.getD_eq_getElem?_getD, List.getElem?_replicate]
  split <;> rfl
theorem getD_at {xs : List Body} {i : Nat} {b : Body} (h : xs[i]? = some b) : xs.getD i default = b := by rw [List.getD_eq_getElem?_getD, h]; rfl
theorem dg0_step {xs : List Body} {m : List Bool} {i : Nat} {x : Body} (hx : xs[i]? = some x) (hm : 0 ≤ x.mass) (h : Dg0 xs m i) : Dg0 xs (m.set (i * xs.length + i) (decide (x.mass > 0))) (i + 1) := by
  have hi := (List.getElem?_eq_some_iff.1 hx).1
  refine ⟨by rw [List.length_set]; exact h.len, fun a b ha hb => ?_⟩
  rw [mget_set h.len hi hi a b hb]
  split
  · rename_i e
    obtain ⟨rfl, rfl⟩ := e
    have hd : dynAt xs b ↔ x.mass ≠ 0 := by show (xs.getD b default).mass ≠ 0 ↔ _; rw [getD_at hx]
    rw [decide_eq_decide, hd]
    exact ⟨fun h => ⟨rfl, by omega, by omega⟩, fun h => by have := h.2.2; omega⟩
  · rename_i e
    rw [h.e a b ha hb, decide_eq_decide]
    constructor
    · rintro ⟨h1, h2, h3⟩; exact ⟨h1, by omega, h3⟩
    · rintro ⟨h1, h2, h3⟩; exact ⟨h1, by omega, h3⟩
/-- With the links of the first k contacts. -/
structure Lk (xs : List Body) (f : KMap) (cs : List Con) (m : List Bool) (k : Nat) : Prop where
  snd : Snd xs f m
  d : ∀ a, a < xs.length → dynAt xs a → mget xs.length m a a = true
  l : ∀ j c, j < k → cs[j]? = some c → ∀ p q : Nat, p < xs.length → q < xs.length → keyAt xs p = c.low → keyAt xs q = c.high → dynAt xs p → dynAt xs q → mget xs.length m p q = true
theorem lk_init {xs : List Body} {m : List Bool} (f : KMap) (cs : List Con) (h : Dg0 xs m xs.length) : Lk xs f cs m 0 := by
  refine ⟨⟨h.len, fun a b ha hb hab => ?_, fun a b ha hb => ?_⟩, fun a ha hd => by rw [h.e a a ha ha, decide_eq_true ⟨rfl, ha, hd⟩], fun j c hj => by omega⟩
  · rw [h.e a b ha hb, decide_eq_true_iff] at hab
    obtain ⟨rfl, _, hd⟩ := hab
    exact ⟨hd, hd, rfl⟩
  · rw [h.e a b ha hb, h.e b a hb ha, decide_eq_decide]
    constructor
    · rintro ⟨rfl, h2⟩; exact ⟨rfl, h2⟩
    · rintro ⟨rfl, h2⟩; exact ⟨rfl, h2⟩
theorem key_inj {xs : List Body} (hs : Sorted xs) {p q : Nat} (hp : p < xs.length) (hq : q < xs.length) (h : keyAt xs p = keyAt xs q) : p = q := by
  have e1 := List.getElem?_eq_getElem hp
  have e2 := List.getElem?_eq_getElem hq
  unfold keyAt at h
  rw [getD_at e1, getD_at e2] at h
  rcases Nat.lt_trichotomy p q with o | o | o
  · have := sorted_lt hs o e1 e2; omega
  · exact o
  · have := sorted_lt hs o e2 e1; omega
theorem lk_step {xs : List Body} (hs : Sorted xs) {f : KMap} {cs : List Con} {m : List Bool} {k : Nat} (h : Lk xs f cs m k) {c : Con} (hc : cs[k]? = some c) {p q : Nat} (hp : p < xs.length) (hq : q < xs.length) (kp : keyAt xs p = c.low) (kq : keyAt xs q = c.high) (dp : dynAt xs p) (dq : dynAt xs q) (hr : Same f c.low c.high) :
    Lk xs f cs ((m.set (p * xs.length + q) true).set (q * xs.length + p) true) (k + 1) := by
  have l1 : (m.set (p * xs.length + q) true).length = xs.length * xs.length := by rw [List.length_set]; exact h.snd.len
  have e : ∀ a b, b < xs.length → mget xs.length ((m.set (p * xs.length + q) true).set (q * xs.length + p) true) a b = if a = q ∧ b = p then true else if a = p ∧ b = q then true else mget xs.length m a b := fun a b hb => by
    rw [mget_set l1 hq hp a b hb, mget_set h.snd.len hp hq a b hb]
  unfold Same at hr
  refine ⟨⟨by rw [List.length_set]; exact l1, fun a b ha hb hab => ?_, fun a b ha hb => ?_⟩, fun a ha hd => ?_, fun j d hj hd p' q' hp' hq' kp' kq' dp' dq' => ?_⟩
  · rw [e a b hb] at hab
    split at hab
    · rename_i e1; obtain ⟨rfl, rfl⟩ := e1; exact ⟨dq, dp, by rw [kp, kq]; exact hr.symm⟩
    · split at hab
      · rename_i e1; obtain ⟨rfl, rfl⟩ := e1; exact ⟨dp, dq, by rw [kp, kq]; exact hr⟩
      · exact h.snd.s a b ha hb hab
  · rw [e a b hb, e b a ha, h.snd.y a b ha hb]
    by_cases h1 : a = q ∧ b = p
    · rw [if_pos h1]
      by_cases h2 : b = q ∧ a = p
      · rw [if_pos h2]
      · rw [if_neg h2, if_pos ⟨h1.2, h1.1⟩]
    · rw [if_neg h1]
      by_cases h2 : a = p ∧ b = q
      · rw [if_pos h2, if_pos ⟨h2.2, h2.1⟩]
      · rw [if_neg h2, if_neg (fun x => h2 ⟨x.2, x.1⟩), if_neg (fun x => h1 ⟨x.2, x.1⟩)]
  · rw [e a a ha, h.d a ha hd]; simp
  · rw [e p' q' hq']
    by_cases hjk : j < k
    · rw [h.l j d hjk hd p' q' hp' hq' kp' kq' dp' dq']; simp
    · obtain rfl : j = k := by omega
      rw [hc] at hd
      injection hd with hd
      subst hd
      have a1 := key_inj hs hp' hp (kp'.trans kp.symm)
      have a2 := key_inj hs hq' hq (kq'.trans kq.symm)
      subst a1 a2
      simp
theorem lk_skip {xs : List Body} (hs : Sorted xs) {f : KMap} {cs : List Con} {m : List Bool} {k : Nat} (h : Lk xs f cs m k) {c : Con} (hc : cs[k]? = some c) {p q : Nat} (hp : p < xs.length) (hq : q < xs.length) (kp : keyAt xs p = c.low) (kq : keyAt xs q = c.high) (hn : ¬ (dynAt xs p ∧ dynAt xs q)) : Lk xs f cs m (k + 1) := by
  refine ⟨h.snd, h.d, fun j d hj hd p' q' hp' hq' kp' kq' dp' dq' => ?_⟩
  by_cases hjk : j < k
  · exact h.l j d hjk hd p' q' hp' hq' kp' kq' dp' dq'
  · obtain rfl : j = k := by omega
    rw [hc] at hd
    injection hd with hd
    subst hd
    have a1 := key_inj hs hp' hp (kp'.trans kp.symm)
    have a2 := key_inj hs hq' hq (kq'.trans kq.symm)
    subst a1 a2
    exact absurd ⟨dp', dq'⟩ hn
/-- Closed under the bodies before k. -/
structure Cl (xs : List Body) (f : KMap) (cs : List Con) (m : List Bool) (k : Nat) : Prop where
  lk : Lk xs f cs m cs.length
  tr : TrK xs.length m k
theorem cl_init {xs : List Body} {f : KMap} {cs : List Con} {m : List Bool} (h : Lk xs f cs m cs.length) : Cl xs f cs m 0 := ⟨h, fun j hj => by omega⟩
theorem cl_step {xs : List Body} {f : KMap} {cs : List Con} {m0 m : List Bool} {k : Nat} (h : Cl xs f cs m0 k) (hk : k < xs.length) (hp : Ph xs.length m0 m k (xs.length * xs.length)) : Cl xs f cs m (k + 1) :=
  ⟨⟨ph_snd hp hk h.lk.snd, fun a ha hd => ph_le hp ha ha (h.lk.d a ha hd), fun j c hj hc p q hp' hq kp kq dp dq => ph_le hp hp' hq (h.lk.l j c hj hc p q hp' hq kp kq dp dq)⟩, ph_tr hp hk h.tr⟩
/-- The closed matrix: one root. -/
theorem cl_iff {xs : List Body} (hs : Sorted xs) (hk0 : ∀ b ∈ xs, 0 ≤ b.key) {cs : List Con} {m : List Bool} (h : Cl xs (forestOf xs cs) cs m xs.length) {a b : Nat} (ha : a < xs.length) (hb : b < xs.length) :
    mget xs.length m a b = true ↔ dynAt xs a ∧ dynAt xs b ∧ rt (forestOf xs cs) (keyAt xs a) = rt (forestOf xs cs) (keyAt xs b) := by
  refine ⟨h.lk.snd.s a b ha hb, fun ⟨da, db, hr⟩ => ?_⟩
  have at_ : ∀ i, i < xs.length → ∃ x, xs[i]? = some x ∧ xs.getD i default = x := fun i hi => ⟨_, List.getElem?_eq_getElem hi, getD_at (List.getElem?_eq_getElem hi)⟩
  have place : ∀ k, Dyn xs k → ∃ p, p < xs.length ∧ keyAt xs p = k ∧ dynAt xs p := by
    rintro k ⟨x, hx, rfl, hm⟩
    obtain ⟨p, hp⟩ := List.getElem?_of_mem hx
    exact ⟨p, (List.getElem?_eq_some_iff.1 hp).1, by unfold keyAt; rw [getD_at hp], by unfold dynAt; rw [getD_at hp]; exact hm⟩
  have dyn_of : ∀ i, i < xs.length → dynAt xs i → Dyn xs (keyAt xs i) := fun i hi hd => by
    obtain ⟨x, hx, e⟩ := at_ i hi
    unfold dynAt at hd
    unfold keyAt
    rw [e] at hd ⊢
    exact ⟨x, List.mem_of_getElem? hx, rfl, hd⟩
  let R : Int → Int → Prop := fun x y => ∃ p q, p < xs.length ∧ q < xs.length ∧ keyAt xs p = x ∧ keyAt xs q = y ∧ mget xs.length m p q = true
  have hR : Eqv xs R := by
    refine ⟨fun x hx => ?_, fun x y _ _ ⟨p, q, hp, hq, kp, kq, hm⟩ => ⟨q, p, hq, hp, kq, kp, by rw [← h.lk.snd.y p q hp hq]; exact hm⟩, fun x y z _ _ _ ⟨p, q, hp, hq, kp, kq, hm⟩ ⟨p', q', hp', hq', kp', kq', hm'⟩ => ?_⟩
    · obtain ⟨p, hp, kp, dp⟩ := place x hx
      exact ⟨p, p, hp, hp, kp, kp, h.lk.d p hp dp⟩
    · have e := key_inj hs hq hp' (kq.trans kp'.symm)
      subst e
      exact ⟨p, q', hp, hq', kp, kq', h.tr q hq p q' hp hq' hm hm'⟩
  have hc : ∀ c ∈ cs, Dyn xs c.low → Dyn xs c.high → R c.low c.high := fun c hc hl hh => by
    obtain ⟨j, hj⟩ := List.getElem?_of_mem hc
    obtain ⟨p, hp, kp, dp⟩ := place _ hl
    obtain ⟨q, hq, kq, dq⟩ := place _ hh
    exact ⟨p, q, hp, hq, kp, kq, h.lk.l j c (List.getElem?_eq_some_iff.1 hj).1 hj p q hp hq kp kq dp dq⟩
  obtain ⟨p, q, hp, hq, kp, kq, hm⟩ := same_least hR hk0 hc (dyn_of a ha da) (dyn_of b hb db) hr
  have a1 := key_inj hs hp ha kp
  have a2 := key_inj hs hq hb kq
  subst a1 a2
  exact hm
end Go.Bil
namespace Go.Bil
theorem find_at {xs : List Body} {k : Int} (h : 0 ≤ findI k xs) : ∃ (p : Nat) (x : Body), xs[p]? = some x ∧ x.key = k ∧ findI k xs = (p : Int) := (findI_cases k xs).elim (fun e => absurd e.1 (by omega)) id
end Go.Bil

/- Islands in memory: a row of slice headers, and the rows behind them. -/
set_option linter.unusedVariables false
set_option linter.unusedSimpArgs false
namespace Go.Bil
def hdr (r : Row) : List Value := [.slice r.A r.n r.c]
structure IslR (T : Nat) (rs : List Row) (L : List (List Int)) : Prop where
  len : rs.length = L.length
  row : ∀ (j : Nat) (r : Row) (l : List Int), rs[j]? = some r → L[j]? = some l → RowIs T 1 r.A r.n r.c (l.map keyCell) r.e
theorem IslR.nil (T : Nat) : IslR T [] [] := ⟨rfl, by simp⟩
theorem IslR.snoc {T : Nat} {rs : List Row} {L : List (List Int)} (h : IslR T rs L) : IslR T (rs ++ [nilRow]) (L ++ [[]]) := by
  refine ⟨by simp [h.len], fun j r l hr hl => ?_⟩
  by_cases hj : j < rs.length
  · rw [List.getElem?_append_left hj] at hr
    rw [List.getElem?_append_left (by rw [← h.len]; exact hj)] at hl
    exact h.row j r l hr hl
  · have hj2 : j = rs.length := by
      have := (List.getElem?_eq_some_iff.1 hr).1
      simp at this
      omega
    rw [hj2, List.getElem?_append_right (Nat.le_refl _), Nat.sub_self] at hr
    rw [hj2, h.len, List.getElem?_append_right (Nat.le_refl _), Nat.sub_self] at hl
    simp only [List.getElem?_cons_zero, Option.some.injEq] at hr hl
    subst hr hl
    exact RowIs.nil _ _ _
theorem IslR.put {T : Nat} {rs : List Row} {L : List (List Int)} (h : IslR T rs L) {j : Nat} {r : Row} {l : List Int} (hj : j < L.length) (hr : RowIs T 1 r.A r.n r.c (l.map keyCell) r.e) : IslR T (rs.set j r) (L.set j l) := by
  refine ⟨by rw [List.length_set, List.length_set, h.len], fun k q m hq hm => ?_⟩
  rw [List.getElem?_set] at hq hm
  by_cases hk : j = k
  · subst hk
    rw [if_pos rfl, if_pos (by rw [h.len]; exact hj)] at hq
    rw [if_pos rfl, if_pos hj] at hm
    injection hq with hq
    injection hm with hm
    subst hq hm
    exact hr
  · rw [if_neg hk] at hq hm
    exact h.row k q m hq hm
theorem Mem.dummyTail {w0 w : World} {X : List Nat} {L : List Ent} {rs : List Row} (M : Mem w0 X (L ++ rs.map Row.e) w) : Mem w0 X (L ++ (rs ++ [nilRow]).map Row.e) w := by
  have h := M.dummy default
  rw [List.append_assoc] at h
  rw [List.map_append]
  exact h
theorem dyn_iff {xs : List Body} (hs : Sorted xs) {b : Body} (hb : b ∈ xs) : Dyn xs b.key ↔ b.mass ≠ 0 := by
  constructor
  · rintro ⟨c, hc, hk, hm⟩
    have := sorted_mem hs hc hb hk
    subst this
    exact hm
  · exact fun h => ⟨b, hb, rfl, h⟩
theorem fst_none {xs : List Body} {f : KMap} (hf : Fst xs f) (hs : Sorted xs) {b : Body} (hb : b ∈ xs) (h : (f b.key).isSome = false) : b.mass = 0 := by
  refine Decidable.byContradiction fun hm => ?_
  obtain ⟨p, hp⟩ := (hf.dom _).2 ((dyn_iff hs hb).2 hm)
  rw [hp] at h
  cases h
theorem fst_some {xs : List Body} {f : KMap} (hf : Fst xs f) (hs : Sorted xs) {b : Body} (hb : b ∈ xs) {p : Int} (h : f b.key = some p) : b.mass ≠ 0 := (dyn_iff hs hb).1 ((hf.dom _).1 ⟨p, h⟩)
theorem atM_congr {f : KMap} {ys ys' : List Body} (h : rootsL f ys' = rootsL f ys) (q : Int) : atM f ys' q = atM f ys q := by unfold atM; rw [h]
/-- One body more: which list it joins. -/
theorem isl_next_root {xs : List Body} {f : KMap} (hf : Fst xs f) (hs : Sorted xs) {k : Nat} {b : Body} (hb : xs[k]? = some b) (hm : b.mass ≠ 0) (hr : rt f b.key = b.key) :
    ∃ l : List Int, l.length ≤ xs.length ∧ islL f (xs.take (k + 1)) = (islL f (xs.take k) ++ [[]]).set (islL f (xs.take k)).length (l ++ [b.key]) ∧ (islL f (xs.take k) ++ [[]])[(islL f (xs.take k)).length]? = some l ∧
    ∀ q, atM f (xs.take (k + 1)) q = if q = b.key then some ((islL f (xs.take k)).length : Int) else atM f (xs.take k) q := by
  obtain ⟨h1, h2⟩ := isl_root hf hs hb hm hr
  refine ⟨[], by simp, ?_, ?_, fun q => ?_⟩
  · rw [h1, List.set_append_right _ _ (Nat.le_refl _), Nat.sub_self]; rfl
  · rw [List.getElem?_append_right (Nat.le_refl _), Nat.sub_self]; rfl
  · rw [islL_len]
    refine atM_root ?_ q _ h2
    intro hmem
    have hnd := roots_nodup hs f (k + 1)
    rw [h2, List.nodup_append] at hnd
    exact hnd.2.2 _ hmem _ (by simp) rfl
theorem isl_next_other {xs : List Body} {f : KMap} (hf : Fst xs f) (hs : Sorted xs) {k : Nat} {b : Body} (hb : xs[k]? = some b) (hm : b.mass ≠ 0) (hr : rt f b.key ≠ b.key) :
    ∃ (j : Nat) (l : List Int), (islL f (xs.take k))[j]? = some l ∧ islL f (xs.take (k + 1)) = (islL f (xs.take k)).set j (l ++ [b.key]) ∧ atM f (xs.take k) (rt f b.key) = some (j : Int) ∧ (∀ q, atM f (xs.take (k + 1)) q = atM f (xs.take k) q) ∧ l.length ≤ xs.length := by
  obtain ⟨h1, j, h2, h3⟩ := isl_other hf hs hb hm hr
  refine ⟨j, keysR f (xs.take k) (rt f b.key), ?_, h3, atM_get (roots_nodup hs f k) h2, atM_congr h1, Nat.le_trans (keysR_len _ _ _) (by rw [List.length_take]; omega)⟩
  unfold islL
  rw [List.getElem?_map, h2]; rfl
theorem isl_next_static {xs : List Body} {f : KMap} {k : Nat} {b : Body} (hb : xs[k]? = some b) (hm : b.mass = 0) : islL f (xs.take (k + 1)) = islL f (xs.take k) ∧ ∀ q, atM f (xs.take (k + 1)) q = atM f (xs.take k) q := by
  rw [take_snoc hb]
  exact ⟨(isl_static hm).1, atM_congr (isl_static hm).2⟩
end Go.Bil

/- The reference's islands: read off the closed matrix; they are the same lists. -/
set_option linter.unusedVariables false
set_option linter.unusedSimpArgs false
namespace Go.Bil
def rowM (xs : List Body) (n : Nat) (m : List Bool) (i j : Nat) : List Int := ((List.range j).filter (fun q => mget n m i q)).map (keyAt xs)
def firstM (n : Nat) (m : List Bool) (i j : Nat) : Bool := decide (∀ q, q < j → mget n m i q = true → i ≤ q)
theorem rowM_yes {xs : List Body} {n : Nat} {m : List Bool} {i j : Nat} {b : Body} (hb : xs[j]? = some b) (h : mget n m i j = true) : rowM xs n m i (j + 1) = rowM xs n m i j ++ [b.key] := by
  unfold rowM
  rw [List.range_succ, List.filter_append, List.map_append]
  congr 1
  rw [List.filter_cons, if_pos h]
  show [keyAt xs j] = [b.key]
  unfold keyAt
  rw [getD_at hb]
theorem rowM_no {xs : List Body} {n : Nat} {m : List Bool} {i j : Nat} (h : mget n m i j = false) : rowM xs n m i (j + 1) = rowM xs n m i j := by
  unfold rowM
  rw [List.range_succ, List.filter_append, List.map_append, List.filter_cons, if_neg (by rw [h]; simp)]
  simp
theorem rowM_len (xs : List Body) (n : Nat) (m : List Bool) (i j : Nat) : (rowM xs n m i j).length ≤ j := by
  unfold rowM
  rw [List.length_map]
  exact Nat.le_trans (List.length_filter_le _ _) (by simp)
theorem firstM_zero (n : Nat) (m : List Bool) (i : Nat) : firstM n m i 0 = true := decide_eq_true (fun q h => by omega)
theorem firstM_no {n : Nat} {m : List Bool} {i j : Nat} (h : mget n m i j = false) : firstM n m i (j + 1) = firstM n m i j := by
  unfold firstM
  refine decide_eq_decide.2 ⟨fun g q hq => g q (by omega), fun g q hq hm => ?_⟩
  by_cases e : q = j
  · subst e; rw [h] at hm; cases hm
  · exact g q (by omega) hm
theorem firstM_old {n : Nat} {m : List Bool} {i j : Nat} (h : firstM n m i j = false) : firstM n m i (j + 1) = false := by
  refine decide_eq_false (fun g => ?_)
  have := of_decide_eq_false h
  exact this (fun q hq => g q (by omega))
theorem firstM_yes {n : Nat} {m : List Bool} {i j : Nat} (h : mget n m i j = true) (h1 : firstM n m i j = true) : firstM n m i (j + 1) = decide (i ≤ j) := by
  have h2 := of_decide_eq_true h1
  refine decide_eq_decide.2 ⟨fun g => g j (by omega) h, fun g q hq hm => ?_⟩
  by_cases e : q = j
  · omega
  · exact h2 q (by omega) hm
/-- Row i of the closed matrix: the keys of its island. -/
theorem rowM_keys {xs : List Body} (hs : Sorted xs) (hk0 : ∀ b ∈ xs, 0 ≤ b.key) {cs : List Con} {m : List Bool} (h : Cl xs (forestOf xs cs) cs m xs.length) {i : Nat} {x : Body} (hx : xs[i]? = some x) (hm : x.mass ≠ 0) :
    ∀ j, j ≤ xs.length → rowM xs xs.length m i j = keysR (forestOf xs cs) (xs.take j) (rt (forestOf xs cs) x.key)
  | 0, _ => rfl
  | j + 1, hj => by
    have hi := (List.getElem?_eq_some_iff.1 hx).1
    have ih := rowM_keys hs hk0 h hx hm j (by omega)
    obtain ⟨b, hb⟩ : ∃ b, xs[j]? = some b := ⟨_, List.getElem?_eq_getElem (by omega)⟩
    have hc := cl_iff hs hk0 h hi (show j < xs.length by omega)
    unfold dynAt keyAt at hc
    rw [getD_at hx, getD_at hb] at hc
    rw [take_snoc hb, keysR_snoc, ← ih]
    by_cases g : mget xs.length m i j = true
    · have h3 := hc.1 g
      rw [rowM_yes hb g, if_pos ⟨h3.2.1, h3.2.2.symm⟩]
    · rw [rowM_no (by simpa using g), if_neg (fun e => g (hc.2 ⟨hm, e.1, e.2.symm⟩)), List.append_nil]
theorem rowM_static {xs : List Body} (hs : Sorted xs) (hk0 : ∀ b ∈ xs, 0 ≤ b.key) {cs : List Con} {m : List Bool} (h : Cl xs (forestOf xs cs) cs m xs.length) {i : Nat} {x : Body} (hx : xs[i]? = some x) (hm : x.mass = 0) :
    ∀ j, j ≤ xs.length → rowM xs xs.length m i j = []
  | 0, _ => rfl
  | j + 1, hj => by
    have hi := (List.getElem?_eq_some_iff.1 hx).1
    have hc := cl_iff hs hk0 h hi (show j < xs.length by omega)
    rw [rowM_no (by
      refine Bool.eq_false_iff.2 (fun g => ?_)
      have := (hc.1 g).1
      unfold dynAt at this
      rw [getD_at hx] at this
      exact this hm)]
    exact rowM_static hs hk0 h hx hm j (by omega)
/-- The first of its island is the root. -/
theorem firstM_root {xs : List Body} (hs : Sorted xs) (hk0 : ∀ b ∈ xs, 0 ≤ b.key) {cs : List Con} {m : List Bool} (h : Cl xs (forestOf xs cs) cs m xs.length) {i : Nat} {x : Body} (hx : xs[i]? = some x) (hm : x.mass ≠ 0) :
    firstM xs.length m i xs.length = true ↔ rt (forestOf xs cs) x.key = x.key := by
  have hF := forest_fst hk0 cs
  have hi := (List.getElem?_eq_some_iff.1 hx).1
  have hd : Dyn xs x.key := ⟨x, List.mem_of_getElem? hx, rfl, hm⟩
  obtain ⟨p, hp⟩ := (hF.dom _).2 hd
  obtain ⟨hr1, hr2⟩ := rt_root hF.F hp
  have lt_of : ∀ a b : Nat, a < b → b < xs.length → keyAt xs a < keyAt xs b := fun a b hab hb => by
    have := List.pairwise_iff_getElem.1 hs a b (by omega) hb hab
    unfold keyAt
    rw [getD_at (List.getElem?_eq_getElem (show a < xs.length by omega)), getD_at (List.getElem?_eq_getElem hb)]
    exact this
  have kx : keyAt xs i = x.key := by unfold keyAt; rw [getD_at hx]
  constructor
  · intro g
    have g := of_decide_eq_true g
    obtain ⟨y, hy, hyk, hym⟩ := (hF.dom _).1 ⟨_, hr1⟩
    obtain ⟨q, hq⟩ := List.getElem?_of_mem hy
    have hql := (List.getElem?_eq_some_iff.1 hq).1
    have kq : keyAt xs q = y.key := by unfold keyAt; rw [getD_at hq]
    have hmq := (cl_iff hs hk0 h hi hql).2 ⟨by unfold dynAt; rw [getD_at hx]; exact hm, by unfold dynAt; rw [getD_at hq]; exact hym, by rw [kx, kq, hyk]; exact (rt_self hr1).symm⟩
    have hiq := g q hql hmq
    by_cases e : i = q
    · rw [← hyk, ← kq, ← kx, e]
    · have := lt_of i q (by omega) hql
      rw [kx, kq, hyk] at this
      omega
  · intro g
    refine decide_eq_true (fun q hq hmq => ?_)
    have h3 := (cl_iff hs hk0 h hi hq).1 hmq
    rw [kx, g] at h3
    obtain ⟨y, hy⟩ : ∃ y, xs[q]? = some y := ⟨_, List.getElem?_eq_getElem hq⟩
    have kq : keyAt xs q = y.key := by unfold keyAt; rw [getD_at hy]
    have hdy : y.mass ≠ 0 := by have := h3.2.1; unfold dynAt at this; rw [getD_at hy] at this; exact this
    obtain ⟨p2, hp2⟩ := (hF.dom y.key).2 ⟨y, List.mem_of_getElem? hy, rfl, hdy⟩
    have hle := (rt_root hF.F hp2).2
    rw [← kq, ← h3.2.2] at hle
    refine Decidable.byContradiction fun hlt => ?_
    have := lt_of q i (by omega) hi
    rw [kx] at this
    omega
/-- The reference's lists after i bodies. -/
def isl0 (f : KMap) (xs : List Body) (i : Nat) : List (List Int) := (rootsL f (xs.take i)).map (keysR f xs)
theorem isl0_all (f : KMap) (xs : List Body) : isl0 f xs xs.length = islL f xs := by unfold isl0 islL; rw [List.take_length]
theorem isl0_len (f : KMap) (xs : List Body) (i : Nat) : (isl0 f xs i).length ≤ xs.length := by
  unfold isl0
  rw [List.length_map]
  exact Nat.le_trans (roots_len _ _) (by rw [List.length_take]; omega)
theorem isl0_yes {xs : List Body} (hs : Sorted xs) (hk0 : ∀ b ∈ xs, 0 ≤ b.key) {cs : List Con} {m : List Bool} (h : Cl xs (forestOf xs cs) cs m xs.length) {i : Nat} {x : Body} (hx : xs[i]? = some x)
    (h1 : firstM xs.length m i xs.length = true) (h2 : 0 < (rowM xs xs.length m i xs.length).length) : isl0 (forestOf xs cs) xs (i + 1) = isl0 (forestOf xs cs) xs i ++ [rowM xs xs.length m i xs.length] := by
  have hm : x.mass ≠ 0 := fun e => by rw [rowM_static hs hk0 h hx e _ (Nat.le_refl _)] at h2; simp at h2
  have hr := (firstM_root hs hk0 h hx hm).1 h1
  unfold isl0
  rw [take_snoc hx, roots_snoc, if_pos ⟨hm, hr⟩, List.map_append, rowM_keys hs hk0 h hx hm _ (Nat.le_refl _), List.take_length, hr]
  rfl
theorem isl0_no {xs : List Body} (hs : Sorted xs) (hk0 : ∀ b ∈ xs, 0 ≤ b.key) {cs : List Con} {m : List Bool} (h : Cl xs (forestOf xs cs) cs m xs.length) {i : Nat} {x : Body} (hx : xs[i]? = some x)
    (h1 : ¬ (firstM xs.length m i xs.length = true ∧ 0 < (rowM xs xs.length m i xs.length).length)) : isl0 (forestOf xs cs) xs (i + 1) = isl0 (forestOf xs cs) xs i := by
  unfold isl0
  rw [take_snoc hx, roots_snoc, if_neg, List.append_nil]
  rintro ⟨hm, hr⟩
  refine h1 ⟨(firstM_root hs hk0 h hx hm).2 hr, ?_⟩
  rw [rowM_keys hs hk0 h hx hm _ (Nat.le_refl _), List.take_length]
  refine List.length_pos_iff.2 (fun e => ?_)
  have : x.key ∈ keysR (forestOf xs cs) xs (rt (forestOf xs cs) x.key) := by
    unfold keysR
    exact List.mem_map.2 ⟨x, List.mem_filter.2 ⟨List.mem_of_getElem? hx, decide_eq_true ⟨hm, rfl⟩⟩, rfl⟩
  rw [e] at this
  cases this
theorem Mem.dummyL {w0 w : World} {X : List Nat} {L T : List Ent} (M : Mem w0 X (L ++ T) w) (o : Obj) : Mem w0 X ((L ++ [(none, o)]) ++ T) w :=
  (M.dummy o).perm (by rw [List.append_assoc, List.append_assoc]; exact List.Perm.append_left L List.perm_append_comm)
theorem Mem.pushNew {w0 w : World} {X : List Nat} {L : List Ent} {rs : List Row} (r : Row) (M : Mem w0 X ((L ++ [r.e]) ++ rs.map Row.e) w) : Mem w0 X (L ++ (rs ++ [r]).map Row.e) w :=
  M.perm (by rw [List.append_assoc, List.map_append]; exact List.Perm.append_left L List.perm_append_comm)
theorem IslR.add {T : Nat} {rs : List Row} {L : List (List Int)} {r : Row} {l : List Int} (h : IslR T rs L) (hr : RowIs T 1 r.A r.n r.c (l.map keyCell) r.e) : IslR T (rs ++ [r]) (L ++ [l]) := by
  refine ⟨by simp [h.len], fun j q k hq hk => ?_⟩
  by_cases hj : j < rs.length
  · rw [List.getElem?_append_left hj] at hq
    rw [List.getElem?_append_left (by rw [← h.len]; exact hj)] at hk
    exact h.row j q k hq hk
  · have hj2 : j = rs.length := by
      have := (List.getElem?_eq_some_iff.1 hq).1
      simp at this
      omega
    rw [hj2, List.getElem?_append_right (Nat.le_refl _), Nat.sub_self] at hq
    rw [hj2, h.len, List.getElem?_append_right (Nat.le_refl _), Nat.sub_self] at hk
    simp only [List.getElem?_cons_zero, Option.some.injEq] at hq hk
    subst hq hk
    exact hr
end Go.Bil

/- Rows of rows, read alone. -/
set_option linter.unusedVariables false
set_option linter.unusedSimpArgs false
namespace Go.Bil
structure IslRd (w : World) (A : Option Addr) (n : Nat) (rs : List Row) (L : List (List Int)) : Prop where
  hd : Rd w 1 A n (rs.map hdr)
  len : rs.length = L.length
  row : ∀ (j : Nat) (r : Row) (l : List Int), rs[j]? = some r → L[j]? = some l → Rd w 1 r.A r.n (l.map keyCell)
theorem IslRd.mem {w0 w : World} {S : List Ent} {A : Option Addr} {n : Nat} {rs : List Row} {L : List (List Int)} (h : IslRd w0 A n rs L) (M : Mem w0 [] S w) : IslRd w A n rs L :=
  ⟨h.hd.mem M, h.len, fun j r l hr hl => (h.row j r l hr hl).mem M⟩
theorem IslRd.n_eq {w : World} {A : Option Addr} {n : Nat} {rs : List Row} {L : List (List Int)} (h : IslRd w A n rs L) : L.length = n ∧ rs.length = n := by
  have := h.hd.len
  rw [List.length_map] at this
  exact ⟨by rw [← h.len]; exact this, this⟩
theorem IslR.rd {w0 w : World} {X : List Nat} {S : List Ent} {T T' c n : Nat} {A : Option Addr} {e : Ent} {rs : List Row} {L : List (List Int)} (h : IslR T rs L) (hq : RowIs T' 1 A n c (rs.map hdr) e) (M : Mem w0 X S w) (he : e ∈ S) (ht : ∀ r ∈ rs, r.e ∈ S) : IslRd w A n rs L :=
  ⟨hq.rd M he, h.len, fun j r l hr hl => (h.row j r l hr hl).rd M (ht r (List.mem_of_getElem? hr))⟩
/-- The first list that has the key. -/
def findL (key : Int) : List (List Int) → Int
  | [] => -1
  | l :: L => if key ∈ l then 0 else if findL key L < 0 then -1 else findL key L + 1
theorem findL_neg {key : Int} : ∀ {L : List (List Int)}, (∀ l ∈ L, key ∉ l) → findL key L = -1
  | [], _ => rfl
  | l :: L, h => by
    unfold findL
    rw [if_neg (h l (by simp)), findL_neg (fun q hq => h q (List.mem_cons_of_mem _ hq))]
    rfl
theorem findL_at {key : Int} : ∀ {L : List (List Int)} {k : Nat} {l : List Int}, L[k]? = some l → key ∈ l → (∀ (j : Nat) (m : List Int), j < k → L[j]? = some m → key ∉ m) → findL key L = (k : Int)
  | [], k, l, h, _, _ => by simp at h
  | m :: L, 0, l, h, hm, _ => by
    simp only [List.getElem?_cons_zero, Option.some.injEq] at h
    unfold findL
    rw [if_pos (by rw [h]; exact hm)]
    rfl
  | m :: L, k + 1, l, h, hm, hn => by
    have ih := findL_at (L := L) (k := k) (l := l) (by simpa using h) hm (fun j q hj hq => hn (j + 1) q (by omega) (by simpa using hq))
    unfold findL
    rw [if_neg (hn 0 m (by omega) (by simp)), ih, if_neg (by omega)]
    omega
theorem findL_cases (key : Int) (L : List (List Int)) : (findL key L = -1 ∧ ∀ l ∈ L, key ∉ l) ∨ ∃ (k : Nat) (l : List Int), L[k]? = some l ∧ key ∈ l ∧ findL key L = (k : Int) ∧ ∀ (j : Nat) (m : List Int), j < k → L[j]? = some m → key ∉ m := by
  induction L with
  | nil => exact .inl ⟨rfl, by simp⟩
  | cons m L ih =>
    by_cases h : key ∈ m
    · exact .inr ⟨0, m, by simp, h, by unfold findL; rw [if_pos h]; rfl, fun j q hj => by omega⟩
    · rcases ih with ⟨h1, h2⟩ | ⟨k, l, h1, h2, h3, h4⟩
      · refine .inl ⟨by unfold findL; rw [if_neg h, h1]; rfl, fun l hl => ?_⟩
        rcases List.mem_cons.1 hl with rfl | hl
        · exact h
        · exact h2 l hl
      · refine .inr ⟨k + 1, l, by simpa using h1, h2, by unfold findL; rw [if_neg h, h3, if_neg (by omega)]; omega, fun j q hj hq => ?_⟩
        cases j with
        | zero => simp only [List.getElem?_cons_zero, Option.some.injEq] at hq; rw [← hq]; exact h
        | succ j => exact h4 j q (by omega) (by simpa using hq)
theorem Mem.call0T {w0 w w' : World} {X : List Nat} {S A T : List Ent} (M : Mem w0 X S w) (C : Mem w [] (A ++ T) w') : Mem w0 X ((S ++ T) ++ A) w' :=
  (M.call0 C).perm (by rw [List.append_assoc]; exact List.Perm.append_left S List.perm_append_comm)
theorem IslRd.one {w : World} {A A1 : Option Addr} {n1 c1 : Nat} {l1 : List Int} (h0 : Rd w 1 A 1 [[.slice A1 n1 c1]]) (h1 : Rd w 1 A1 n1 (l1.map keyCell)) : IslRd w A 1 [⟨A1, n1, c1, default⟩] [l1] := by
  refine ⟨h0, rfl, fun j r l hr hl => ?_⟩
  match j with
  | 0 => simp only [List.getElem?_cons_zero, Option.some.injEq] at hr hl; subst hr hl; exact h1
  | j + 1 => simp at hr
theorem IslRd.two {w : World} {A A1 A2 : Option Addr} {n1 c1 n2 c2 : Nat} {l1 l2 : List Int} (h0 : Rd w 1 A 2 [[.slice A1 n1 c1], [.slice A2 n2 c2]]) (h1 : Rd w 1 A1 n1 (l1.map keyCell)) (h2 : Rd w 1 A2 n2 (l2.map keyCell)) : IslRd w A 2 [⟨A1, n1, c1, default⟩, ⟨A2, n2, c2, default⟩] [l1, l2] := by
  refine ⟨h0, rfl, fun j r l hr hl => ?_⟩
  match j with
  | 0 => simp only [List.getElem?_cons_zero, Option.some.injEq] at hr hl; subst hr hl; exact h1
  | 1 => simp only [List.getElem?_cons_succ, List.getElem?_cons_zero, Option.some.injEq] at hr hl; subst hr hl; exact h2
  | j + 2 => simp at hr
theorem two_rows {rs : List Row} (h : rs.length = 2) : ∃ a b, rs = [a, b] := by
  match rs, h with
  | [a, b], _ => exact ⟨a, b, rfl⟩
theorem one_row {rs : List Row} (h : rs.length = 1) : ∃ a, rs = [a] := by
  match rs, h with
  | [a], _ => exact ⟨a, rfl⟩
end Go.Bil

/- Plain laws of the lists of islands: parts, orders, joins. -/
set_option linter.unusedVariables false
set_option linter.unusedSimpArgs false
namespace Go.Bil
theorem findL_lt (key : Int) (L : List (List Int)) : -1 ≤ findL key L ∧ findL key L < L.length := by
  rcases findL_cases key L with ⟨h1, h2⟩ | ⟨k, l, h1, h2, h3, _⟩
  · omega
  · have := (List.getElem?_eq_some_iff.1 h1).1; omega
/-! ### Sums -/
/-! ### Two forests -/
/-! ### One contact more -/
/-! ### Single bodies -/
/-! ### The contacts of a view are right ones -/
theorem allC_right {xs : List Body} (hs : Sorted xs) (hb : ∀ b ∈ xs, Okb b) : ∀ c ∈ allC xs, RightOne xs c := fun c hc => by
  obtain ⟨a, b, ha, hb', hk, h⟩ := (mem_allC hs hb).1 hc
  obtain ⟨e1, e2⟩ := conOf_key hk h
  have nn : ∀ x ∈ xs, 0 ≤ findI x.key xs := fun x hx => by
    rcases findI_cases x.key xs with ⟨_, g⟩ | ⟨i, y, _, _, g⟩
    · exact absurd rfl (g x hx)
    · omega
  exact ⟨by omega, by rw [e1]; exact nn a ha, by rw [e2]; exact nn b hb'⟩
end Go.Bil

/- Arguments that are rows of rows of numbers, as a walk reads them. -/
set_option linter.unusedVariables false
set_option linter.unusedSimpArgs false
namespace Go.Bil
open Go Go.RowKit Go.Deep
section
variable {H : Type} {enc : TypeId × Value → H} {P : Program} {w : World} {base : Nat} {spare : Nat → Bool} {held : Bool}
theorem rd_of_cells {sz len : Nat} {a : Addr} {Q : List Value → Prop} (hsz : 0 < sz) (hbig : len ≤ 281474976710656) (hall : ∀ i, i < len → ∃ cs' : List Value, cs'.length = sz ∧ (∀ j, j < sz → w.cell? (a.add (i * sz + j)) = cs'[j]?) ∧ Q cs') :
    ∃ ls : List (List Value), Rd w sz (some a) len ls ∧ ∀ l ∈ ls, Q l := by
  have hex : ∀ k, k ≤ len → ∃ ls : List (List Value), ls.length = k ∧ ∀ i l, ls[i]? = some l → l.length = sz ∧ (∀ j, j < sz → w.cell? (a.add (i * sz + j)) = l[j]?) ∧ Q l := by
    intro k
    induction k with
    | zero => intro _; exact ⟨[], rfl, by simp⟩
    | succ k ih =>
      intro hk'
      obtain ⟨ls, q1, q2⟩ := ih (by omega)
      obtain ⟨cs', r1, r2, r3⟩ := hall k (by omega)
      refine ⟨ls ++ [cs'], by simp [q1], fun i l hil => ?_⟩
      rw [List.getElem?_append] at hil
      split at hil
      · exact q2 i l hil
      · rename_i hge
        have hik : i = k := by
          have := (List.getElem?_eq_some_iff.1 hil).1
          simp at this
          omega
        subst hik
        simp only [q1, Nat.sub_self, List.getElem?_cons_zero, Option.some.injEq] at hil
        subst hil
        exact ⟨r1, r2, r3⟩
  obtain ⟨ls, q1, q2⟩ := hex len (Nat.le_refl _)
  refine ⟨ls, ⟨q1, fun l hl' => ?_, hbig, fun hpos => ?_⟩, fun l hl' => ?_⟩
  · obtain ⟨i, hi⟩ := List.getElem?_of_mem hl'
    exact (q2 i l hi).1
  · obtain ⟨l0, hl0⟩ : ∃ l0, ls[0]? = some l0 := ⟨ls[0]'(by omega), List.getElem?_eq_getElem _⟩
    obtain ⟨r1, r2, _⟩ := q2 0 l0 hl0
    have hc0 := r2 0 (by omega)
    have hl00 : l0[0]? = some (l0[0]'(by omega)) := List.getElem?_eq_getElem _
    rw [hl00] at hc0
    obtain ⟨b, off, spot⟩ := a
    have hs : spot = none := by
      cases spot with
      | none => rfl
      | some s =>
        exfalso
        simp only [World.cell?] at hc0
        split at hc0
        · have : ((⟨b, off, some s⟩ : Addr).add (0 * sz + 0)).spot.isSome = true := by unfold Addr.add; split <;> simp_all
          rw [this] at hc0
          simp at hc0
        · cases hc0
    subst hs
    refine ⟨b, off, rfl, ?_, fun i l hil j v hj => ?_⟩
    · rw [add_none] at hc0
      unfold World.cell? at hc0
      by_cases hlt : b < w.heap.size
      · exact hlt
      · rw [Array.getElem?_eq_none (Nat.le_of_not_lt hlt)] at hc0
        cases hc0
    · obtain ⟨r1, r2, _⟩ := q2 i l hil
      have hj' : j < sz := by rw [← r1]; exact (List.getElem?_eq_some_iff.1 hj).1
      have := r2 j hj'
      rw [add_none, ← Nat.add_assoc] at this
      rw [this, hj]
  · obtain ⟨i, hi⟩ := List.getElem?_of_mem hl'
    exact (q2 i l hi).2.2
theorem weights_all {e : TypeId} : ∀ {l : List (DataW H)} {d : DataW H}, d ∈ l → ∀ n ∈ d.weights P e, n ∈ DataW.weightsAll P e l
  | x :: l, d, hd, n, hn => by
    simp only [DataW.weightsAll, List.mem_append]
    rcases List.mem_cons.1 hd with rfl | hd
    · exact .inl hn
    · exact .inr (weights_all hd n hn)
theorem weights_slice {t e : TypeId} {elems sp : List (DataW H)} (hu : P.underlying t = some (.slice e)) (h : ∀ n ∈ (DataW.slice elems sp).weights P t, n ≤ reachBytes) : (elems.length + sp.length) * P.bytesOf e ≤ reachBytes ∧ ∀ d ∈ elems, ∀ n ∈ d.weights P e, n ≤ reachBytes := by
  simp only [DataW.weights, hu, List.mem_cons, List.mem_append] at h
  exact ⟨h _ (.inl rfl), fun d hd n hn => h n (.inr (.inl (weights_all hd n hn)))⟩
theorem sized_rowsW {t e sz bytes : Nat} {A : Option Addr} {len cap : Nat} {d : DataW H} {ps : List MemPlace} (hw : ∀ n ∈ d.weights P t, n ≤ reachBytes) (hs : sliceB P t e sz bytes = true) (h : DataW.Trod enc P w base spare held t (.slice A len cap) d ps) : len * bytes ≤ 140737488351232 := by
  obtain ⟨h1, h2, h3, h4, h5, h6, zv, hzv, hzs⟩ := sliceB_spec hs
  obtain ⟨fuel, hf⟩ := h
  rcases open_slice h1 hf with ⟨hcs, _⟩ | ⟨a, l, c, m', n, D, Pl, hcs, hb, hlc, _, hm, hx, _⟩
  · simp only [Value.cells, List.cons.injEq, Value.slice.injEq, and_true] at hcs
    obtain ⟨rfl, rfl, rfl⟩ := hcs
    simp
  · simp only [Value.cells, List.cons.injEq, Value.slice.injEq, and_true] at hcs
    obtain ⟨rfl, rfl, rfl⟩ := hcs
    obtain ⟨rfl, _⟩ := Prod.mk.inj hx
    have z := (weights_slice h1 hw).1
    rw [h4] at z
    simp only [List.length_map, List.length_range] at z
    have hr : reachBytes = 140737488351232 := rfl
    rw [hr] at z
    exact Nat.le_trans (Nat.mul_le_mul_right _ (by omega)) z
theorem u32_list : ∀ ls : List (List Value), (∀ l ∈ ls, Ints [.u32] l) → ∃ xs : List Int, ls = xs.map keyCell ∧ ∀ x ∈ xs, 0 ≤ x ∧ x ≤ 4294967295 := fun ls h =>
  list_of (p := fun x : Int => 0 ≤ x ∧ x ≤ 4294967295) (fun l hl => by
    obtain ⟨z, l', rfl, hz, hl'⟩ := ints_cons hl
    obtain rfl := ints_nil hl'
    exact ⟨z, rfl, hz⟩) ls h
theorem rows_split : ∀ ls : List (List Value), (∀ l ∈ ls, ∃ (r : Row) (k : List Int), l = hdr r ∧ Rd w 1 r.A r.n (k.map keyCell)) → ∃ (rs : List Row) (L : List (List Int)), ls = rs.map hdr ∧ rs.length = L.length ∧ ∀ (j : Nat) (r : Row) (k : List Int), rs[j]? = some r → L[j]? = some k → Rd w 1 r.A r.n (k.map keyCell)
  | [], _ => ⟨[], [], rfl, rfl, by simp⟩
  | l :: ls, h => by
    obtain ⟨r, k, rfl, hr⟩ := h l (by simp)
    obtain ⟨rs, L, rfl, hl, hh⟩ := rows_split ls (fun q hq => h q (by simp [hq]))
    refine ⟨r :: rs, k :: L, rfl, by simp [hl], fun j q m hq hm => ?_⟩
    cases j with
    | zero =>
      simp only [List.getElem?_cons_zero, Option.some.injEq] at hq hm
      subst hq hm
      exact hr
    | succ j => exact hh j q m (by simpa using hq) (by simpa using hm)
/-- A slice of slices of numbers. -/
theorem open_rows2 {t t1 e b1 b0 m : Nat} {A : Option Addr} {len cap : Nat} {d : DataW H} {ps : List MemPlace} (ht : sliceB P t t1 1 b1 = true) (ht1 : sliceB P t1 e 1 b0 = true) (he : leaves P m e = some [.u32]) (hw : ∀ n ∈ d.weights P t, n ≤ reachBytes)
    (h : DataW.Trod enc P w base spare held t (.slice A len cap) d ps) : ∃ (rs : List Row) (L : List (List Int)), IslRd w A len rs L := by
  have hbig := sized_rowsW hw ht h
  obtain ⟨h1, h2, h3, h4, h5, h6, zv, hzv, hzs⟩ := sliceB_spec ht
  obtain ⟨g1, g2, g3, g4, g5, g6, yv, hyv, hys⟩ := sliceB_spec ht1
  obtain ⟨fuel, hf⟩ := h
  have hle : len ≤ 140737488351232 := Nat.le_trans (Nat.le_mul_of_pos_right _ (Nat.pos_of_ne_zero h6)) hbig
  rcases open_slice1 h1 h3 hf with ⟨hcs, _⟩ | ⟨a, l, c, m', n, V, D, Pl, hcs, hb, hlc, _, hm, hx0, hx⟩
  · simp only [Value.cells, List.cons.injEq, Value.slice.injEq, and_true] at hcs
    obtain ⟨rfl, rfl, rfl⟩ := hcs
    exact ⟨[], [], Rd.nil w 1 none, rfl, by simp⟩
  · simp only [Value.cells, List.cons.injEq, Value.slice.injEq, and_true] at hcs
    obtain ⟨rfl, rfl, rfl⟩ := hcs
    obtain ⟨rfl, _⟩ := Prod.mk.inj hx0
    have hlm : len ≤ m' := by rw [hm]; split <;> omega
    have hww := (weights_slice h1 hw).2
    have hall : ∀ i, i < len → ∃ cs' : List Value, cs'.length = 1 ∧ (∀ j, j < 1 → w.cell? (a.add (i * 1 + j)) = cs'[j]?) ∧ (∃ (r : Row) (k : List Int), cs' = hdr r ∧ Rd w 1 r.A r.n (k.map keyCell)) := fun i hi => by
      obtain ⟨hc, ht'⟩ := hx i (by omega)
      have hV : ∃ A' n' c', V i = .slice A' n' c' := by
        rcases open_slice g1 ht' with ⟨q, _⟩ | ⟨a', l', c', _, _, _, _, q, _⟩
        · simp only [List.cons.injEq, and_true] at q; exact ⟨_, _, _, q⟩
        · simp only [List.cons.injEq, and_true] at q; exact ⟨_, _, _, q⟩
      obtain ⟨A', n', c', hV⟩ := hV
      have hT : DataW.Trod enc P w base spare held t1 (.slice A' n' c') (D i) (Pl i) := ⟨n, by rw [hV] at ht'; exact ht'⟩
      have hs := sized_rowsW (hww (D i) (List.mem_map.2 ⟨i, List.mem_range.2 hi, rfl⟩)) ht1 hT
      obtain ⟨ls, R, hI⟩ := open_rows ht1 he rfl hs hT
      obtain ⟨xs, rfl, _⟩ := u32_list ls hI
      refine ⟨[V i], rfl, fun j hj => ?_, ⟨A', n', c', default⟩, xs, by rw [hV]; rfl, R⟩
      obtain rfl : j = 0 := by omega
      rw [Nat.mul_one, Nat.add_zero, hc]
      rfl
    obtain ⟨ls, R, hQ⟩ := rd_of_cells (by omega) (by omega) hall
    obtain ⟨rs, L, rfl, hl, hh⟩ := rows_split ls hQ
    exact ⟨rs, L, R, hl, hh⟩
end
/-- What a call hands out besides its rows joins what lies behind. -/
theorem Mem.call0U {w0 w w' : World} {X : List Nat} {L T A T' : List Ent} (M : Mem w0 X (L ++ T) w) (C : Mem w [] (A ++ T') w') : Mem w0 X ((L ++ (T ++ T')) ++ A) w' :=
  (M.call0 C).perm (by
    rw [List.append_assoc, List.append_assoc, List.append_assoc]
    refine List.Perm.append_left L (List.Perm.append_left T ?_)
    exact List.perm_append_comm)
theorem findL_snoc {key : Int} : ∀ {L : List (List Int)} {i : Nat} {l : List Int}, L[i]? = some l → findL key (L.take i) < 0 → findL key (L.take (i + 1)) = if key ∈ l then (i : Int) else -1
  | [], i, l, h, _ => by simp at h
  | m :: L, 0, l, h, _ => by
    simp only [List.getElem?_cons_zero, Option.some.injEq] at h
    subst h
    simp [findL]
  | m :: L, i + 1, l, h, hn => by
    rw [List.take_succ_cons] at hn ⊢
    unfold findL at hn ⊢
    by_cases e : key ∈ m
    · rw [if_pos e] at hn; omega
    · rw [if_neg e] at hn ⊢
      have hl := findL_lt key (L.take i)
      have h0 : findL key (L.take i) < 0 := by
        by_cases g : findL key (L.take i) < 0
        · exact g
        · rw [if_neg g] at hn; omega
      rw [findL_snoc (L := L) (by simpa using h) h0]
      split <;> split <;> omega
theorem findL_stop {key : Int} : ∀ {L : List (List Int)} {i : Nat}, ¬ findL key (L.take i) < 0 → findL key L = findL key (L.take i)
  | [], i, _ => by simp
  | m :: L, 0, h => by simp [findL] at h
  | m :: L, i + 1, h => by
    rw [List.take_succ_cons] at h ⊢
    unfold findL at h ⊢
    by_cases e : key ∈ m
    · rw [if_pos e, if_pos e]
    · rw [if_neg e] at h ⊢
      rw [if_neg e]
      have h0 : ¬ findL key (L.take i) < 0 := fun g => by rw [if_pos g] at h; omega
      rw [findL_stop h0]
end Go.Bil
