/- Part of the proof of the laws of this seat: MdX, MdY, MdZ, MdM. No conditions. -/
import Derived.Test.YtmcddmhkjcgneaaGreatDoorK7
import Derived.Test.YtmcddmhkjcgneaaGreatDoorK15
/- Plain laws of nearest points and of contacts. -/
set_option linter.unusedVariables false
set_option linter.unusedSimpArgs false
namespace Go.Bil
abbrev Pt := Int × Int
structure PtI (v : Pt) : Prop where
  x : -1082130432 ≤ v.1 ∧ v.1 ≤ 1082130432
  y : -1082130432 ≤ v.2 ∧ v.2 ≤ 1082130432
structure SgI (p q : Pt) : Prop where
  hp : PtI p
  hq : PtI q
  x : -16777216 ≤ q.1 - p.1 ∧ q.1 - p.1 ≤ 16777216
  y : -16777216 ≤ q.2 - p.2 ∧ q.2 - p.2 ≤ 16777216
theorem PtI.i32 {v : Pt} (h : PtI v) : I32 v := ⟨by have := h.x; omega, by have := h.y; omega⟩
theorem PtI.inX {v u : Pt} (h : PtI v) (g : PtI u) : InD (u.1 - v.1) := by have := h.x; have := g.x; unfold InD; omega
theorem PtI.inY {v u : Pt} (h : PtI v) (g : PtI u) : InD (u.2 - v.2) := by have := h.y; have := g.y; unfold InD; omega
theorem mulB {a b : Int} {A B : Nat} (ha : a.natAbs ≤ A) (hb : b.natAbs ≤ B) : -((A * B : Nat) : Int) ≤ a * b ∧ a * b ≤ ((A * B : Nat) : Int) := by
  have h := Nat.mul_le_mul ha hb
  rw [← Int.natAbs_mul] at h
  omega
theorem sqN (a : Int) : 0 ≤ a * a := by rw [← Int.natAbs_mul_self]; omega
def parD (p q : Pt) : Int := (q.1 - p.1) * (q.1 - p.1) + (q.2 - p.2) * (q.2 - p.2)
def parN (p q c : Pt) : Int := max 0 (min ((c.1 - p.1) * (q.1 - p.1) + (c.2 - p.2) * (q.2 - p.2)) (parD p q))
theorem parD_rng {p q : Pt} (h : SgI p q) : 0 ≤ parD p q ∧ parD p q ≤ 562949953421312 ∧ (0 ≤ (q.1 - p.1) * (q.1 - p.1) ∧ (q.1 - p.1) * (q.1 - p.1) ≤ 281474976710656) ∧ 0 ≤ (q.2 - p.2) * (q.2 - p.2) ∧ (q.2 - p.2) * (q.2 - p.2) ≤ 281474976710656 := by
  have hx := h.x
  have hy := h.y
  have a := mulB (a := q.1 - p.1) (b := q.1 - p.1) (A := 16777216) (B := 16777216) (by omega) (by omega)
  have b := mulB (a := q.2 - p.2) (b := q.2 - p.2) (A := 16777216) (B := 16777216) (by omega) (by omega)
  have c := sqN (q.1 - p.1)
  have d := sqN (q.2 - p.2)
  unfold parD
  omega
theorem parN_rng {p q c : Pt} (h : SgI p q) : 0 ≤ parN p q c ∧ parN p q c ≤ parD p q := by
  have := parD_rng h
  unfold parN
  omega
theorem cross_rng {p q c : Pt} (h : SgI p q) (hc : PtI c) : (-36310272144179200 ≤ (c.1 - p.1) * (q.1 - p.1) ∧ (c.1 - p.1) * (q.1 - p.1) ≤ 36310272144179200) ∧ -36310272144179200 ≤ (c.2 - p.2) * (q.2 - p.2) ∧ (c.2 - p.2) * (q.2 - p.2) ≤ 36310272144179200 := by
  have hx := h.x
  have hy := h.y
  have := hc.x; have := hc.y; have := h.hp.x; have := h.hp.y
  have a := mulB (a := c.1 - p.1) (b := q.1 - p.1) (A := 2164260864) (B := 16777216) (by omega) (by omega)
  have b := mulB (a := c.2 - p.2) (b := q.2 - p.2) (A := 2164260864) (B := 16777216) (by omega) (by omega)
  omega
theorem divB {a n d : Int} (hn : 0 ≤ n) (hnd : n ≤ d) (hd : 0 < d) : (0 ≤ a → 0 ≤ a * n / d ∧ a * n / d ≤ a) ∧ (a ≤ 0 → a ≤ a * n / d ∧ a * n / d ≤ 0) := by
  refine ⟨fun h => ⟨Int.ediv_nonneg (Int.mul_nonneg h hn) (Int.le_of_lt hd), ?_⟩, fun h => ⟨?_, ?_⟩⟩
  · exact Int.ediv_le_of_le_mul hd (Int.mul_le_mul_of_nonneg_left hnd h)
  · exact (Int.le_ediv_iff_mul_le hd).2 (Int.mul_le_mul_of_nonpos_left h hnd)
  · have h1 : a * n ≤ 0 := Int.mul_nonpos_of_nonpos_of_nonneg h hn
    exact Int.ediv_le_of_le_mul hd (by omega)
def nearest (p q c : Pt) : Pt := if parD p q = 0 then p else (p.1 + (q.1 - p.1) * parN p q c / parD p q, p.2 + (q.2 - p.2) * parN p q c / parD p q)
theorem near_rng {p q c : Pt} (h : SgI p q) (hd : parD p q ≠ 0) : ((-16777216 ≤ (q.1 - p.1) * parN p q c / parD p q ∧ (q.1 - p.1) * parN p q c / parD p q ≤ 16777216) ∧ -1082130432 ≤ p.1 + (q.1 - p.1) * parN p q c / parD p q ∧ p.1 + (q.1 - p.1) * parN p q c / parD p q ≤ 1082130432) ∧
    (-16777216 ≤ (q.2 - p.2) * parN p q c / parD p q ∧ (q.2 - p.2) * parN p q c / parD p q ≤ 16777216) ∧ -1082130432 ≤ p.2 + (q.2 - p.2) * parN p q c / parD p q ∧ p.2 + (q.2 - p.2) * parN p q c / parD p q ≤ 1082130432 := by
  have hn := parN_rng (c := c) h
  have hD := parD_rng h
  have a := divB (a := q.1 - p.1) hn.1 hn.2 (by omega)
  have b := divB (a := q.2 - p.2) hn.1 hn.2 (by omega)
  have := h.hp.x; have := h.hp.y; have := h.hq.x; have := h.hq.y; have := h.x; have := h.y
  generalize (q.1 - p.1) * parN p q c / parD p q = u at *
  generalize (q.2 - p.2) * parN p q c / parD p q = v at *
  omega
theorem nearest_in {p q c : Pt} (h : SgI p q) : PtI (nearest p q c) := by
  unfold nearest
  split
  · exact h.hp
  · rename_i hd
    have := near_rng (c := c) h hd
    exact ⟨this.1.2, this.2.2⟩
/-- The pair of points chosen so far, with the square of their distance. -/
abbrev Ch := Pt × Pt × Nat
def chStep (s : Ch) (x y : Pt) : Ch := if lsq (y.1 - x.1) (y.2 - x.2) < s.2.2 then (x, y, lsq (y.1 - x.1) (y.2 - x.2)) else s
def ch0 : Ch := ((0, 0), (0, 0), 18446744073709551615)
def chosen (ap aq bp bq : Pt) : Ch := chStep (chStep (chStep (chStep ch0 ap (nearest bp bq ap)) aq (nearest bp bq aq)) (nearest ap aq bp) bp) (nearest ap aq bq) bq
structure ChI (s : Ch) : Prop where
  a : PtI s.1
  b : PtI s.2.1
  l : s.2.2 < 18446744073709551616
theorem ChI.step {s : Ch} {x y : Pt} (h : ChI s) (hx : PtI x) (hy : PtI y) : ChI (chStep s x y) := by
  unfold chStep
  split
  · exact ⟨hx, hy, (lsq_lt (hx.inX hy) (hx.inY hy)).1⟩
  · exact h
theorem ch0_in : ChI ch0 := ⟨⟨by decide, by decide⟩, ⟨by decide, by decide⟩, by decide⟩
theorem chosen_in {ap aq bp bq : Pt} (h1 : SgI ap aq) (h2 : SgI bp bq) : ChI (chosen ap aq bp bq) :=
  (((ch0_in.step h1.hp (nearest_in h2)).step h1.hq (nearest_in h2)).step (nearest_in h1) h2.hp).step (nearest_in h1) h2.hq
def endP (b : Body) : Pt := (b.px - b.ax, b.py - b.ay)
def endQ (b : Body) : Pt := (b.px + b.ax, b.py + b.ay)
theorem ends_in {b : Body} (h : Okb b) : SgI (endP b) (endQ b) := by
  have := h.a; have := h.p
  refine ⟨⟨?_, ?_⟩, ⟨?_, ?_⟩, ?_, ?_⟩ <;> simp only [endP, endQ] <;> omega
structure Con where
  low : Int
  high : Int
  nx : Int
  ny : Int
  depth : Int
deriving DecidableEq
def conCells (c : Con) : List Value := [.int .u32 c.low, .int .u32 c.high, .int .i32 c.nx, .int .i32 c.ny, .int .i32 c.depth]
/-- The contact of two bodies, the one with the lesser key first. -/
def chB (a b : Body) : Ch := chosen (endP a) (endQ a) (endP b) (endQ b)
def chDx (s : Ch) : Int := s.2.1.1 - s.1.1
def chDy (s : Ch) : Int := s.2.1.2 - s.1.2
def conLow (a b : Body) : Option Con :=
  if (a.radius + b.radius).natAbs * (a.radius + b.radius).natAbs ≤ lsq (chDx (chB a b)) (chDy (chB a b)) then none
  else some ⟨a.key, b.key, (unitV (chDx (chB a b)) (chDy (chB a b))).1, (unitV (chDx (chB a b)) (chDy (chB a b))).2, IntKind.wrap .i32 (a.radius + b.radius - len (chDx (chB a b)) (chDy (chB a b)))⟩
def conOf (a b : Body) : Option Con := if b.key < a.key then conLow b a else conLow a b
def solidCells (b : Body) : List Value := bodyCells b ++ vecCells (endP b) ++ vecCells (endQ b)
def loB (a b : Body) : Body := if b.key < a.key then b else a
def hiB (a b : Body) : Body := if b.key < a.key then a else b
theorem conOf_lo (a b : Body) : conOf a b = conLow (loB a b) (hiB a b) := by unfold conOf loB hiB; split <;> rfl
theorem loB_ok {a b : Body} (ha : Okb a) (hb : Okb b) : Okb (loB a b) ∧ Okb (hiB a b) := by unfold loB hiB; split <;> exact ⟨by assumption, by assumption⟩
theorem chB_in {a b : Body} (ha : Okb a) (hb : Okb b) : ChI (chB a b) := chosen_in (ends_in ha) (ends_in hb)
theorem chB_d {a b : Body} (ha : Okb a) (hb : Okb b) : InD (chDx (chB a b)) ∧ InD (chDy (chB a b)) := ⟨(chB_in ha hb).a.inX (chB_in ha hb).b, (chB_in ha hb).a.inY (chB_in ha hb).b⟩
def conO (o : Option Con) : List Value := conCells (o.getD ⟨0, 0, 0, 0, 0⟩)
theorem sum_sq {a b : Body} (ha : Okb a) (hb : Okb b) : 0 ≤ (a.radius + b.radius) * (a.radius + b.radius) ∧ (a.radius + b.radius) * (a.radius + b.radius) ≤ 70368744177664 := by
  have := ha.r; have := hb.r
  have h := mulB (a := a.radius + b.radius) (b := a.radius + b.radius) (A := 8388608) (B := 8388608) (by omega) (by omega)
  have := sqN (a.radius + b.radius)
  omega
theorem sq_cast (s : Int) (h : 0 ≤ s * s ∧ s * s ≤ 70368744177664) : IntKind.wrap .u64 (s * s) = ((s.natAbs * s.natAbs : Nat) : Int) := by
  rw [wrU, Int.natAbs_mul_self]; omega
end Go.Bil

/- Plain laws of the contacts of a view. -/
set_option linter.unusedVariables false
set_option linter.unusedSimpArgs false
namespace Go.Bil
def encBo (b : Body) : Value := .agg (bodyCells b).toArray
def z0Bo : Body := ⟨0, 0, 0, 0, 0, 0, 0, 0, 0, 0⟩
def boM (xs : List Body) : Int → Option Body := fun k => xs.reverse.find? (fun b => decide (b.key = k))
theorem boM_nil (k : Int) : boM [] k = none := rfl
theorem boM_snoc {xs : List Body} {k : Nat} {b : Body} (h : xs[k]? = some b) (q : Int) : boM (xs.take (k + 1)) q = if q = b.key then some b else boM (xs.take k) q := by
  unfold boM
  rw [take_snoc h, List.reverse_append]
  simp only [List.reverse_cons, List.reverse_nil, List.nil_append, List.singleton_append, List.find?_cons]
  by_cases e : q = b.key
  · rw [if_pos e, decide_eq_true e.symm]
  · rw [if_neg e, decide_eq_false (fun h => e h.symm)]
theorem boM_get {xs : List Body} (hs : Sorted xs) {b : Body} (hb : b ∈ xs) : boM xs b.key = some b := by
  unfold boM
  cases hf : xs.reverse.find? (fun c => decide (c.key = b.key)) with
  | none =>
    have := List.find?_eq_none.1 hf b (by simpa using hb)
    simp at this
  | some c =>
    have hc := List.find?_some hf
    have hm : c ∈ xs := by simpa using List.mem_of_find?_eq_some hf
    simp only [decide_eq_true_eq] at hc
    rw [sorted_mem hs hm hb hc]
/-- The contact of a pair of keys. -/
def conP (f : Int → Option Body) (z : Int × Int) : Option Con := (f z.1).bind fun a => (f z.2).bind fun b => conOf a b
def allC (xs : List Body) : List Con := (findP xs).filterMap (conP (boM xs))
theorem pair_bodies {xs : List Body} (hs : Sorted xs) {z : Int × Int} (h : z ∈ findP xs) : ∃ a b, a ∈ xs ∧ b ∈ xs ∧ a.key < b.key ∧ z = (a.key, b.key) ∧ boM xs z.1 = some a ∧ boM xs z.2 = some b := by
  obtain ⟨a, ha, b, hb, h1, h2, rfl⟩ := (mem_findS hs).1 h
  exact ⟨a, b, ha, hb, h1, rfl, boM_get hs ha, boM_get hs hb⟩
theorem conP_eq {f : Int → Option Body} {z : Int × Int} {a b : Body} (h1 : f z.1 = some a) (h2 : f z.2 = some b) : conP f z = conOf a b := by simp [conP, h1, h2]
theorem conLow_key {a b : Body} {c : Con} (h : conLow a b = some c) : c.low = a.key ∧ c.high = b.key := by
  unfold conLow at h
  split at h
  · cases h
  · injection h with h; subst h; exact ⟨rfl, rfl⟩
theorem conOf_key {a b : Body} {c : Con} (hk : a.key < b.key) (h : conOf a b = some c) : c.low = a.key ∧ c.high = b.key := by
  unfold conOf at h
  rw [if_neg (by omega)] at h
  exact conLow_key h
theorem conP_key {xs : List Body} (hs : Sorted xs) {z : Int × Int} (h : z ∈ findP xs) {c : Con} (hc : conP (boM xs) z = some c) : c.low = z.1 ∧ c.high = z.2 := by
  obtain ⟨a, b, _, _, hk, rfl, h1, h2⟩ := pair_bodies hs h
  rw [conP_eq h1 h2] at hc
  exact conOf_key hk hc
theorem fm_snoc {α β : Type} {l : List α} {k : Nat} {z : α} {g : α → Option β} (h : l[k]? = some z) : (l.take (k + 1)).filterMap g = (l.take k).filterMap g ++ (g z).toList := by
  rw [take_snoc h, List.filterMap_append]
  cases hg : g z <;> simp [hg]
theorem fm_filter {α β : Type} {g g' : α → Option β} {p : α → Bool} {q : β → Bool} : ∀ {l : List α}, (∀ z ∈ l, (p z = true → g' z = g z) ∧ ∀ c, g z = some c → q c = p z) → (l.filter p).filterMap g' = (l.filterMap g).filter q
  | [], _ => rfl
  | z :: l, h => by
    have ih := fm_filter (l := l) fun y hy => h y (by simp [hy])
    have hz := h z (by simp)
    cases hp : p z with
    | true =>
      rw [List.filter_cons, hp, if_pos rfl, List.filterMap_cons, List.filterMap_cons, hz.1 hp]
      cases hg : g z with
      | none => simpa using ih
      | some c =>
        simp only [List.filter_cons]
        rw [hz.2 c hg, hp, if_pos rfl, ih]
    | false =>
      rw [List.filter_cons, hp, if_neg (by simp), List.filterMap_cons, ih]
      cases hg : g z with
      | none => rfl
      | some c =>
        simp only [List.filter_cons]
        rw [hz.2 c hg, hp, if_neg (by simp)]
def hasC (key : Int) (c : Con) : Bool := decide (c.low = key ∨ c.high = key)
def withC (key : Int) (l : List Con) : List Con := l.filter (hasC key)
def restC (key : Int) (l : List Con) : List Con := l.filter (fun c => decide (c.low ≠ key ∧ c.high ≠ key))
theorem withC_yes {key : Int} {l : List Con} {k : Nat} {c : Con} (h : l[k]? = some c) (h1 : c.low = key ∨ c.high = key) : withC key (l.take (k + 1)) = withC key (l.take k) ++ [c] := by
  unfold withC
  rw [take_snoc h, List.filter_append]
  congr 1
  simp [hasC, h1]
theorem withC_no {key : Int} {l : List Con} {k : Nat} {c : Con} (h : l[k]? = some c) (h1 : ¬ (c.low = key ∨ c.high = key)) : withC key (l.take (k + 1)) = withC key (l.take k) := by
  unfold withC
  rw [take_snoc h, List.filter_append]
  simp [hasC, h1]
theorem restC_yes {key : Int} {l : List Con} {k : Nat} {c : Con} (h : l[k]? = some c) (h1 : c.low ≠ key) (h2 : c.high ≠ key) : restC key (l.take (k + 1)) = restC key (l.take k) ++ [c] := by
  unfold restC
  rw [take_snoc h, List.filter_append]
  congr 1
  simp [h1, h2]
theorem restC_no {key : Int} {l : List Con} {k : Nat} {c : Con} (h : l[k]? = some c) (h1 : ¬ (c.low ≠ key ∧ c.high ≠ key)) : restC key (l.take (k + 1)) = restC key (l.take k) := by
  unfold restC
  rw [take_snoc h, List.filter_append]
  simp only [List.filter_cons, decide_eq_false h1, Bool.false_eq_true, if_false, List.filter_nil, List.append_nil]
theorem restC_len (key : Int) (l : List Con) : (restC key l).length ≤ l.length := List.length_filter_le _ _
theorem withC_len (key : Int) (l : List Con) : (withC key l).length ≤ l.length := List.length_filter_le _ _
theorem with_rest (key : Int) : ∀ l : List Con, (withC key l).length + (restC key l).length = l.length
  | [] => rfl
  | c :: l => by
    have ih := with_rest key l
    unfold withC restC at *
    by_cases h : c.low = key ∨ c.high = key
    · have h' : ¬ (c.low ≠ key ∧ c.high ≠ key) := fun h'' => h.elim h''.1 h''.2
      rw [List.filter_cons, List.filter_cons, if_pos (by simp [hasC, h]), if_neg (by simpa using fun a b => h' ⟨a, b⟩), List.length_cons, List.length_cons]
      omega
    · have h' : c.low ≠ key ∧ c.high ≠ key := ⟨fun e => h (.inl e), fun e => h (.inr e)⟩
      rw [List.filter_cons, List.filter_cons, if_neg (by simp [hasC, h]), if_pos (by simp [h']), List.length_cons, List.length_cons]
      omega
theorem allC_cut {xs : List Body} (hs : Sorted xs) {k : Nat} {y : Body} (hy : xs[k]? = some y) : allC (xs.eraseIdx k) = restC y.key (allC xs) := by
  have hc := erase_sorted hs k
  unfold allC restC
  rw [find_cut hs hy]
  unfold restP
  refine fm_filter fun z hz => ⟨fun hp => ?_, fun c hc' => ?_⟩
  · obtain ⟨a, b, ha, hb, hk, rfl, h1, h2⟩ := pair_bodies hs hz
    simp only [decide_eq_true_eq] at hp
    have e1 := boM_get hc ((mem_erase_key hs hy).2 ⟨ha, hp.1⟩)
    have e2 := boM_get hc ((mem_erase_key hs hy).2 ⟨hb, hp.2⟩)
    rw [conP_eq h1 h2, conP_eq e1 e2]
  · have := conP_key hs hz hc'
    rw [this.1, this.2]
theorem with_lonely {xs : List Body} (hV : View xs) {k : Nat} {y : Body} (hy : xs[k]? = some y) (h : lonB xs y.key = true) : withC y.key (allC xs) = [] := by
  have hs := hV.s
  rw [lon_rest hV hy, decide_eq_true_iff] at h
  have hall : ∀ z ∈ findP xs, z.1 ≠ y.key ∧ z.2 ≠ y.key := by
    unfold restP at h
    have := List.length_filter_eq_length_iff.1 h
    intro z hz
    simpa using this z hz
  unfold withC
  refine List.filter_eq_nil_iff.2 fun c hc => ?_
  obtain ⟨z, hz, hcz⟩ := List.mem_filterMap.1 hc
  have := conP_key hs hz hcz
  have h2 := hall z hz
  simp only [hasC, this.1, this.2, decide_eq_true_eq]
  exact fun h => h.elim h2.1 h2.2
theorem allC_len (xs : List Body) : (allC xs).length ≤ (findP xs).length := List.length_filterMap_le _ _
theorem fm_congr {α β : Type} {g g' : α → Option β} : ∀ {l : List α}, (∀ z ∈ l, g z = g' z) → l.filterMap g = l.filterMap g'
  | [], _ => rfl
  | z :: l, h => by rw [List.filterMap_cons, List.filterMap_cons, h z (by simp), fm_congr (l := l) fun y hy => h y (by simp [hy])]
/-! ### Moving all bodies -/
def mvP (dx dy : Int) (p : Pt) : Pt := (p.1 + dx, p.2 + dy)
theorem parD_mv (dx dy : Int) (p q : Pt) : parD (mvP dx dy p) (mvP dx dy q) = parD p q := by
  unfold parD mvP
  rw [show q.1 + dx - (p.1 + dx) = q.1 - p.1 by omega, show q.2 + dy - (p.2 + dy) = q.2 - p.2 by omega]
theorem parN_mv (dx dy : Int) (p q c : Pt) : parN (mvP dx dy p) (mvP dx dy q) (mvP dx dy c) = parN p q c := by
  unfold parN
  rw [parD_mv]
  unfold mvP
  rw [show q.1 + dx - (p.1 + dx) = q.1 - p.1 by omega, show q.2 + dy - (p.2 + dy) = q.2 - p.2 by omega, show c.1 + dx - (p.1 + dx) = c.1 - p.1 by omega, show c.2 + dy - (p.2 + dy) = c.2 - p.2 by omega]
theorem nearest_mv (dx dy : Int) (p q c : Pt) : nearest (mvP dx dy p) (mvP dx dy q) (mvP dx dy c) = mvP dx dy (nearest p q c) := by
  unfold nearest
  rw [parD_mv, parN_mv]
  split
  · rfl
  · unfold mvP
    rw [show q.1 + dx - (p.1 + dx) = q.1 - p.1 by omega, show q.2 + dy - (p.2 + dy) = q.2 - p.2 by omega]
    exact Prod.ext (by simp only []; omega) (by simp only []; omega)
def mvC (dx dy : Int) (s : Ch) : Ch := (mvP dx dy s.1, mvP dx dy s.2.1, s.2.2)
theorem chStep_mv (dx dy : Int) (s : Ch) (x y : Pt) : chStep (mvC dx dy s) (mvP dx dy x) (mvP dx dy y) = mvC dx dy (chStep s x y) := by
  have e : lsq ((mvP dx dy y).1 - (mvP dx dy x).1) ((mvP dx dy y).2 - (mvP dx dy x).2) = lsq (y.1 - x.1) (y.2 - x.2) := by
    unfold mvP
    rw [show y.1 + dx - (x.1 + dx) = y.1 - x.1 by omega, show y.2 + dy - (x.2 + dy) = y.2 - x.2 by omega]
  unfold chStep
  rw [e, show (mvC dx dy s).2.2 = s.2.2 from rfl]
  split <;> rfl
theorem chStep_first {x y : Pt} (hx : PtI x) (hy : PtI y) : chStep ch0 x y = (x, y, lsq (y.1 - x.1) (y.2 - x.2)) := by
  have := lsq_lt (hx.inX hy) (hx.inY hy)
  have h : lsq (y.1 - x.1) (y.2 - x.2) < 18446744073709551615 := by unfold lsq at *; omega
  exact if_pos h
theorem chosen_mv {dx dy : Int} {ap aq bp bq : Pt} (h1 : SgI ap aq) (h2 : SgI bp bq) (g1 : SgI (mvP dx dy ap) (mvP dx dy aq)) (g2 : SgI (mvP dx dy bp) (mvP dx dy bq)) :
    chosen (mvP dx dy ap) (mvP dx dy aq) (mvP dx dy bp) (mvP dx dy bq) = mvC dx dy (chosen ap aq bp bq) := by
  unfold chosen
  have e0 : chStep ch0 (mvP dx dy ap) (nearest (mvP dx dy bp) (mvP dx dy bq) (mvP dx dy ap)) = mvC dx dy (chStep ch0 ap (nearest bp bq ap)) := by
    rw [chStep_first g1.hp (nearest_in g2), chStep_first h1.hp (nearest_in h2), nearest_mv]
    refine Prod.ext rfl (Prod.ext rfl ?_)
    simp only [mvC, mvP]
    rw [show (nearest bp bq ap).1 + dx - (ap.1 + dx) = (nearest bp bq ap).1 - ap.1 by omega, show (nearest bp bq ap).2 + dy - (ap.2 + dy) = (nearest bp bq ap).2 - ap.2 by omega]
  rw [e0, nearest_mv, chStep_mv, nearest_mv, chStep_mv, nearest_mv, chStep_mv]
theorem endP_mv (dx dy : Int) (b : Body) : endP (mvB dx dy b) = mvP dx dy (endP b) := Prod.ext (by simp only [endP, mvB, mvP]; omega) (by simp only [endP, mvB, mvP]; omega)
theorem endQ_mv (dx dy : Int) (b : Body) : endQ (mvB dx dy b) = mvP dx dy (endQ b) := Prod.ext (by simp only [endQ, mvB, mvP]; omega) (by simp only [endQ, mvB, mvP]; omega)
theorem conLow_mv {dx dy : Int} {a b : Body} (ha : Okb a) (hb : Okb b) (ga : Okb (mvB dx dy a)) (gb : Okb (mvB dx dy b)) : conLow (mvB dx dy a) (mvB dx dy b) = conLow a b := by
  have e : chB (mvB dx dy a) (mvB dx dy b) = mvC dx dy (chB a b) := by
    have g1 := ends_in ga; have g2 := ends_in gb
    unfold chB
    rw [endP_mv, endQ_mv] at g1 g2
    rw [endP_mv, endQ_mv, endP_mv, endQ_mv]
    exact chosen_mv (ends_in ha) (ends_in hb) g1 g2
  have e1 : chDx (chB (mvB dx dy a) (mvB dx dy b)) = chDx (chB a b) := by rw [e]; simp only [chDx, mvC, mvP]; omega
  have e2 : chDy (chB (mvB dx dy a) (mvB dx dy b)) = chDy (chB a b) := by rw [e]; simp only [chDy, mvC, mvP]; omega
  unfold conLow
  rw [e1, e2]
  rfl
theorem allC_mv {dx dy : Int} {xs : List Body} (hs : Sorted xs) (h : ∀ b ∈ xs, Okb b) (g : ∀ b ∈ xs, Okb (mvB dx dy b)) : allC (xs.map (mvB dx dy)) = allC xs := by
  unfold allC
  rw [mv_find hs]
  refine fm_congr fun z hz => ?_
  obtain ⟨a, b, ha, hb, hk, rfl, h1, h2⟩ := pair_bodies hs hz
  have e1 : boM (xs.map (mvB dx dy)) a.key = some (mvB dx dy a) := boM_get (b := mvB dx dy a) (mv_sorted hs) (List.mem_map_of_mem ha)
  have e2 : boM (xs.map (mvB dx dy)) b.key = some (mvB dx dy b) := boM_get (b := mvB dx dy b) (mv_sorted hs) (List.mem_map_of_mem hb)
  rw [conP_eq h1 h2, conP_eq e1 e2]
  unfold conOf
  rw [if_neg (show ¬ b.key < a.key by omega), if_neg (show ¬ (mvB dx dy b).key < (mvB dx dy a).key by show ¬ b.key < a.key; omega)]
  exact conLow_mv (h a ha) (h b hb) (g a ha) (g b hb)
theorem Mem.orderC {w0 w : World} {X : List Nat} {a b c d : Ent} (M : Mem w0 X [a, b, c, d] w) : Mem w0 X [c, b, a, d] w :=
  M.perm ((List.Perm.swap b a [c, d]).trans (((List.Perm.swap c a [d]).cons b).trans (List.Perm.swap c b [a, d])))
theorem con_ext {a b : Con} : (a.low = b.low ∧ a.high = b.high ∧ a.nx = b.nx ∧ a.ny = b.ny ∧ a.depth = b.depth) ↔ a = b := by
  constructor
  · rintro ⟨h1, h2, h3, h4, h5⟩; cases a; cases b; simp_all
  · rintro rfl; exact ⟨rfl, rfl, rfl, rfl, rfl⟩
/-! ### The deepest contact -/
def deepG : Con → List Con → Con
  | b, [] => b
  | b, c :: l => deepG (if b.depth < c.depth then c else b) l
def deepC : List Con → Option Con
  | [] => none
  | c :: l => some (deepG c l)
theorem deepG_snoc (b : Con) : ∀ (l : List Con) (c : Con), deepG b (l ++ [c]) = if (deepG b l).depth < c.depth then c else deepG b l := by
  intro l
  induction l generalizing b with
  | nil => intro c; rfl
  | cons x l ih => intro c; exact ih _ c
theorem tail_get {α : Type} {xs : List α} {k : Nat} {x : α} (h : xs[k + 1]? = some x) : xs.tail[k]? = some x := by cases xs with
  | nil => cases h
  | cons y l => simpa using h
theorem sub_get {α : Type} {f : α → List Value} {xs : List α} {k n : Nat} {x : α} (h : xs[k + 1]? = some x) (hk : k < n - 1) : (((xs.map f).drop 1).take (n - 1))[k]? = some (f x) := by
  rw [List.getElem?_take, if_pos hk, List.getElem?_drop, show 1 + k = k + 1 by omega]
  exact mapGet f h
theorem deepC_at {xs : List Con} {x : Con} (h : xs[0]? = some x) : deepC xs = some (deepG x xs.tail) := by
  cases xs with
  | nil => cases h
  | cons y l => simp only [List.getElem?_cons_zero, Option.some.injEq] at h; subst h; rfl
end Go.Bil

/- Plain laws of the references of layers 1 to 14: numbers by digits of 16 bits, long division bit by bit, roots by halving. -/
set_option linter.unusedVariables false
set_option linter.unusedSimpArgs false
namespace Go.Bil
/-! ### Digits -/
def valD : List Nat → Nat
  | [] => 0
  | d :: l => d + 65536 * valD l
def u64Cell (d : Nat) : Value := .int .u64 (d : Int)
def digs (m : Nat) : List Nat := [m % 65536, m / 65536 % 65536, m / 65536 / 65536 % 65536, m / 65536 / 65536 / 65536 % 65536, 0, 0, 0, 0]
theorem valD_digs {m : Nat} (h : m < 18446744073709551616) : valD (digs m) = m := by
  simp only [digs, valD]; omega
/-- One row of a product by digits. -/
theorem mul_row {z0 z1 z2 z3 p0 p1 p2 p3 t0 t1 t2 t3 : Nat} (h0 : t0 = z0 + p0 + 0) (h1 : t1 = z1 + p1 + t0 / 65536) (h2 : t2 = z2 + p2 + t1 / 65536) (h3 : t3 = z3 + p3 + t2 / 65536) :
    t0 % 65536 + 65536 * (t1 % 65536 + 65536 * (t2 % 65536 + 65536 * (t3 % 65536 + 65536 * (t3 / 65536)))) = (z0 + 65536 * (z1 + 65536 * (z2 + 65536 * z3))) + (p0 + 65536 * (p1 + 65536 * (p2 + 65536 * p3))) := by omega
theorem mul_step {z p c x y : Nat} (hz : z < 65536) (hc : c < 65536) (hx : x < 65536) (hy : y < 65536) (hp : x * y = p) : p ≤ 4294836225 ∧ z + p + c < 4294967296 ∧ (z + p + c) / 65536 < 65536 := by
  have : x * y ≤ 65535 * 65535 := Nat.mul_le_mul (by omega) (by omega)
  omega
theorem mul_digs (x y0 y1 y2 y3 : Nat) : x * (y0 + 65536 * (y1 + 65536 * (y2 + 65536 * y3))) = x * y0 + 65536 * (x * y1 + 65536 * (x * y2 + 65536 * (x * y3))) := by
  simp only [Nat.mul_add, Nat.mul_left_comm x 65536]
theorem digs_mul (x0 x1 x2 x3 Y : Nat) : (x0 + 65536 * (x1 + 65536 * (x2 + 65536 * x3))) * Y = x0 * Y + 65536 * (x1 * Y + 65536 * (x2 * Y + 65536 * (x3 * Y))) := by
  simp only [Nat.add_mul, Nat.mul_assoc]
/-- The digits of a product, as they come. -/
theorem mul_all {x0 x1 x2 x3 y0 y1 y2 y3 a0 a1 a2 a3 b0 b1 b2 b3 c0 c1 c2 c3 d0 d1 d2 d3 : Nat}
    (ha0 : a0 = 0 + x0 * y0 + 0) (ha1 : a1 = 0 + x0 * y1 + a0 / 65536) (ha2 : a2 = 0 + x0 * y2 + a1 / 65536) (ha3 : a3 = 0 + x0 * y3 + a2 / 65536)
    (hb0 : b0 = a1 % 65536 + x1 * y0 + 0) (hb1 : b1 = a2 % 65536 + x1 * y1 + b0 / 65536) (hb2 : b2 = a3 % 65536 + x1 * y2 + b1 / 65536) (hb3 : b3 = a3 / 65536 + x1 * y3 + b2 / 65536)
    (hc0 : c0 = b1 % 65536 + x2 * y0 + 0) (hc1 : c1 = b2 % 65536 + x2 * y1 + c0 / 65536) (hc2 : c2 = b3 % 65536 + x2 * y2 + c1 / 65536) (hc3 : c3 = b3 / 65536 + x2 * y3 + c2 / 65536)
    (hd0 : d0 = c1 % 65536 + x3 * y0 + 0) (hd1 : d1 = c2 % 65536 + x3 * y1 + d0 / 65536) (hd2 : d2 = c3 % 65536 + x3 * y2 + d1 / 65536) (hd3 : d3 = c3 / 65536 + x3 * y3 + d2 / 65536) :
    valD [a0 % 65536, b0 % 65536, c0 % 65536, d0 % 65536, d1 % 65536, d2 % 65536, d3 % 65536, d3 / 65536] = (x0 + 65536 * (x1 + 65536 * (x2 + 65536 * x3))) * (y0 + 65536 * (y1 + 65536 * (y2 + 65536 * y3))) := by
  have ra := mul_row ha0 ha1 ha2 ha3
  have rb := mul_row hb0 hb1 hb2 hb3
  have rc := mul_row hc0 hc1 hc2 hc3
  have rd := mul_row hd0 hd1 hd2 hd3
  rw [digs_mul, mul_digs x0, mul_digs x1, mul_digs x2, mul_digs x3]
  simp only [valD, Nat.mul_zero, Nat.add_zero]
  clear ha0 ha1 ha2 ha3 hb0 hb1 hb2 hb3 hc0 hc1 hc2 hc3 hd0 hd1 hd2 hd3
  generalize x0 * y0 + 65536 * (x0 * y1 + 65536 * (x0 * y2 + 65536 * (x0 * y3))) = A at *
  generalize x1 * y0 + 65536 * (x1 * y1 + 65536 * (x1 * y2 + 65536 * (x1 * y3))) = B at *
  generalize x2 * y0 + 65536 * (x2 * y1 + 65536 * (x2 * y2 + 65536 * (x2 * y3))) = C at *
  generalize x3 * y0 + 65536 * (x3 * y1 + 65536 * (x3 * y2 + 65536 * (x3 * y3))) = D at *
  omega
/-- The bits of a number, by its digits. -/
theorem valD_div : ∀ (l : List Nat) (j : Nat) (d : Nat), (∀ x ∈ l, x < 65536) → l[j]? = some d → valD l / 65536 ^ j % 65536 = d
  | [], j, d, _, h => by simp at h
  | x :: l, 0, d, hd, h => by
    simp only [List.getElem?_cons_zero, Option.some.injEq] at h
    subst h
    have := hd x (by simp)
    simp only [valD, Nat.pow_zero, Nat.div_one]
    omega
  | x :: l, j + 1, d, hd, h => by
    have ih := valD_div l j d (fun y hy => hd y (by simp [hy])) (by simpa using h)
    have hx := hd x (by simp)
    rw [Nat.pow_succ, Nat.mul_comm, ← Nat.div_div_eq_div_mul]
    simp only [valD]
    rw [show (x + 65536 * valD l) / 65536 = valD l by omega]
    exact ih
theorem bit_eq (x i j s d : Nat) (hi : i = 16 * j + s) (hs : s < 16) (hd : x / 65536 ^ j % 65536 = d) : d / 2 ^ s % 2 = x / 2 ^ i % 2 := by
  subst hd
  have e : (65536 : Nat) ^ j = 2 ^ (16 * j) := by rw [Nat.pow_mul]
  rw [e]
  have h1 : (x / 2 ^ (16 * j) % 2 ^ 16) / 2 ^ s % 2 = x / 2 ^ (16 * j) / 2 ^ s % 2 := by
    rw [show (2 : Nat) ^ 16 = 2 ^ s * 2 ^ (16 - s) by rw [← Nat.pow_add]; congr 1; omega, Nat.mod_mul_right_div_self]
    exact Nat.mod_mod_of_dvd _ ⟨2 ^ (16 - s - 1), by rw [← Nat.pow_succ']; congr 1; omega⟩
  rw [show (65536 : Nat) = 2 ^ 16 by decide, h1, Nat.div_div_eq_div_mul, ← Nat.pow_add, hi]
/-! ### Long division, a bit a round -/
structure Lb (X d i q r : Nat) : Prop where
  q : q = X / 2 ^ i / d
  r : r = X / 2 ^ i % d
theorem half_pow (X i : Nat) : X / 2 ^ i = 2 * (X / 2 ^ (i + 1)) + X / 2 ^ i % 2 := by
  rw [Nat.pow_succ, ← Nat.div_div_eq_div_mul]; omega
theorem lb_step {X d i q r b : Nat} (hd : 0 < d) (h : Lb X d (i + 1) q r) (hb : X / 2 ^ i % 2 = b) : r < d ∧ b < 2 ∧ 2 * q ≤ X / 2 ^ i / d ∧ (d ≤ 2 * r + b → Lb X d i (2 * q + 1) (2 * r + b - d)) ∧ (¬ d ≤ 2 * r + b → Lb X d i (2 * q) (2 * r + b)) := by
  have hp := half_pow X i
  rw [hb] at hp
  have hr : r < d := by rw [h.r]; exact Nat.mod_lt _ hd
  have hb2 : b < 2 := by omega
  have e := Nat.div_add_mod (X / 2 ^ (i + 1)) d
  rw [← h.q, ← h.r] at e
  have hP : X / 2 ^ i = d * (2 * q) + (2 * r + b) := by rw [Nat.mul_left_comm]; omega
  refine ⟨hr, hb2, ?_, fun hc => ?_, fun hc => ?_⟩
  · rw [Nat.le_div_iff_mul_le hd, hP, Nat.mul_comm]; omega
  · have e2 : X / 2 ^ i = (2 * r + b - d) + d * (2 * q + 1) := by rw [hP, Nat.mul_add d]; omega
    exact ⟨by rw [e2, Nat.add_mul_div_left _ _ hd, Nat.div_eq_of_lt (by omega), Nat.zero_add], by rw [e2, Nat.add_mul_mod_self_left, Nat.mod_eq_of_lt (by omega)]⟩
  · have e2 : X / 2 ^ i = (2 * r + b) + d * (2 * q) := by rw [hP]; omega
    exact ⟨by rw [e2, Nat.add_mul_div_left _ _ hd, Nat.div_eq_of_lt (by omega), Nat.zero_add], by rw [e2, Nat.add_mul_mod_self_left, Nat.mod_eq_of_lt (by omega)]⟩
theorem lb_init {X d : Nat} (hd : 0 < d) (hX : X < 340282366920938463463374607431768211456) : Lb X d 128 0 0 := by
  have : X / 2 ^ 128 = 0 := Nat.div_eq_of_lt hX
  exact ⟨by rw [this, Nat.zero_div], by rw [this, Nat.zero_mod]⟩
theorem lb_small {X d i m : Nat} (h : X / d ≤ m) : X / 2 ^ i / d ≤ m := by
  refine Nat.le_trans (Nat.div_le_div_right (Nat.div_le_self _ _)) h
theorem lb_done {X d q r : Nat} (h : Lb X d 0 q r) : q = X / d ∧ r = X % d := by
  have h1 := h.q; have h2 := h.r
  rw [Nat.pow_zero, Nat.div_one] at h1 h2
  exact ⟨h1, h2⟩
/-! ### The deepest contact is the first of its depth -/
theorem deepG_max : ∀ (l : List Con) (b : Con), b.depth ≤ (deepG b l).depth ∧ ∀ c ∈ l, c.depth ≤ (deepG b l).depth
  | [], b => ⟨Int.le_refl _, by simp⟩
  | x :: l, b => by
    have ih := deepG_max l (if b.depth < x.depth then x else b)
    have e : deepG b (x :: l) = deepG (if b.depth < x.depth then x else b) l := rfl
    rw [e]
    by_cases hx : b.depth < x.depth
    · rw [if_pos hx] at ih ⊢
      refine ⟨by omega, fun c hc => ?_⟩
      rcases List.mem_cons.1 hc with rfl | hc
      · exact ih.1
      · exact ih.2 c hc
    · rw [if_neg hx] at ih ⊢
      refine ⟨ih.1, fun c hc => ?_⟩
      rcases List.mem_cons.1 hc with rfl | hc
      · omega
      · exact ih.2 c hc
theorem deepG_at : ∀ (l : List Con) (b : Con), ∃ j : Nat, (b :: l)[j]? = some (deepG b l) ∧ ∀ (i : Nat) (c : Con), i < j → (b :: l)[i]? = some c → c.depth < (deepG b l).depth
  | [], b => ⟨0, rfl, fun i c h => by omega⟩
  | x :: l, b => by
    have e : deepG b (x :: l) = deepG (if b.depth < x.depth then x else b) l := rfl
    obtain ⟨j, h1, h2⟩ := deepG_at l (if b.depth < x.depth then x else b)
    have hm := deepG_max l (if b.depth < x.depth then x else b)
    rw [e]
    by_cases hc : b.depth < x.depth
    · rw [if_pos hc] at h1 h2 hm ⊢
      refine ⟨j + 1, by simpa using h1, fun i c hi hci => ?_⟩
      cases i with
      | zero => simp only [List.getElem?_cons_zero, Option.some.injEq] at hci; subst hci; omega
      | succ i => exact h2 i c (by omega) (by simpa using hci)
    · rw [if_neg hc] at h1 h2 hm ⊢
      cases j with
      | zero => exact ⟨0, by simpa using h1, fun i c h => by omega⟩
      | succ j =>
        have hb := h2 0 b (by omega) rfl
        refine ⟨j + 2, by simpa using h1, fun i c hi hci => ?_⟩
        match i, hci with
        | 0, hci => simp only [List.getElem?_cons_zero, Option.some.injEq] at hci; subst hci; exact hb
        | 1, hci => simp only [List.getElem?_cons_succ, List.getElem?_cons_zero, Option.some.injEq] at hci; subst hci; omega
        | i + 2, hci => exact h2 (i + 1) c (by omega) (by simpa using hci)
def zCon : Con := ⟨0, 0, 0, 0, 0⟩
theorem deepC_law {l : List Con} {d : Con} (hd : (deepC l).getD zCon = d) (hl : l ≠ []) : d ∈ l ∧ (∀ c ∈ l, c.depth ≤ d.depth) ∧ ∀ (i : Nat) (c : Con), l[i]? = some c → d ∉ l.take i → c.depth = d.depth → c = d := by
  cases l with
  | nil => exact absurd rfl hl
  | cons b l =>
    have hd' : deepG b l = d := hd
    obtain ⟨j, h1, h2⟩ := deepG_at l b
    have hm := deepG_max l b
    rw [hd'] at h1 h2 hm
    refine ⟨List.mem_of_getElem? h1, fun c hc => ?_, fun i c hi hn he => ?_⟩
    · rcases List.mem_cons.1 hc with rfl | hc
      · exact hm.1
      · exact hm.2 c hc
    · rcases Nat.lt_trichotomy i j with h | h | h
      · have := h2 i c h hi; omega
      · subst h; rw [hi] at h1; injection h1
      · refine absurd (List.mem_of_getElem? (i := j) ?_) hn
        rw [List.getElem?_take, if_pos h]; exact h1
theorem deepC_all {l : List Con} {d : Con} {i : Nat} (hd : (deepC l).getD zCon = d) (hi : l.length ≤ i) : d ∈ l.take i ↔ l ≠ [] := by
  rw [List.take_of_length_le hi]
  exact ⟨fun h e => (by rw [e] at h; cases h), fun h => (deepC_law hd h).1⟩
theorem ne_len {α : Type} {l : List α} {n : Nat} (h : l.length = n) : l ≠ [] ↔ (0 : Int) < (n : Int) := by
  rw [← h]
  exact ⟨fun h => by have := List.length_pos_iff.2 h; omega, fun h => List.length_pos_iff.1 (by omega)⟩
theorem mv_allok {dx dy : Int} {l : List Body} {n : Nat} (hn : l.length = n) (hvo : ∀ b ∈ l, Okb b) (h : ∀ (j : Nat) (c : Body), j < n → l[j]? = some c → (-1073741824 ≤ c.px + dx ∧ c.px + dx ≤ 1073741824) ∧ (-1073741824 ≤ c.py + dy ∧ c.py + dy ≤ 1073741824)) : ∀ b ∈ l, Okb (mvB dx dy b) := by
  intro c hc
  obtain ⟨j, hj⟩ := List.getElem?_of_mem hc
  have := h j c (by have := (List.getElem?_eq_some_iff.1 hj).1; omega) hj
  exact mv_ok (hvo c hc) this.1 this.2
theorem mem_take_snocC {l : List Con} {k : Nat} {z x : Con} (h : l[k]? = some z) : x ∈ l.take (k + 1) ↔ x ∈ l.take k ∨ z = x := by
  rw [take_snoc h, List.mem_append, List.mem_singleton]
  exact ⟨fun h => h.imp id Eq.symm, fun h => h.imp id Eq.symm⟩
/-! ### A root by halving -/
theorem sq_le {a b : Nat} (h : a ≤ b) : a * a ≤ b * b := Nat.mul_le_mul h h
theorem isq_mid {n m : Nat} : (m * m ≤ n → m ≤ isq n) ∧ (¬ m * m ≤ n → isq n < m) := by
  have h := isq_spec n
  refine ⟨fun hc => ?_, fun hc => sq_lt (by omega)⟩
  have := sq_lt (Nat.lt_of_le_of_lt hc h.2)
  omega
end Go.Bil

namespace Go.Bil
theorem digs4 {m : Nat} (h : m < 18446744073709551616) : ∃ x0 x1 x2 x3 : Nat, digs m = [x0, x1, x2, x3, 0, 0, 0, 0] ∧ x0 < 65536 ∧ x1 < 65536 ∧ x2 < 65536 ∧ x3 < 65536 ∧ x0 + 65536 * (x1 + 65536 * (x2 + 65536 * x3)) = m :=
  ⟨_, _, _, _, rfl, by omega, by omega, by omega, by omega, by omega⟩
theorem eight {l : List Nat} (h : l.length = 8) : ∃ d0 d1 d2 d3 d4 d5 d6 d7, l = [d0, d1, d2, d3, d4, d5, d6, d7] := by
  rcases l with _ | ⟨a0, _ | ⟨a1, _ | ⟨a2, _ | ⟨a3, _ | ⟨a4, _ | ⟨a5, _ | ⟨a6, _ | ⟨a7, _ | ⟨a8, l⟩⟩⟩⟩⟩⟩⟩⟩⟩ <;> first | exact ⟨_, _, _, _, _, _, _, _, rfl⟩ | (simp at h)
theorem u64_nth {D : List Nat} {j d : Nat} (h : D[j]? = some d) : nth (D.map u64Cell) (0 + j * 1) = some (.int .u64 (d : Int)) := by
  rw [nth_eq, Nat.zero_add, Nat.mul_one]; exact mapGet u64Cell h
theorem quoN (a b : Nat) (h : a ≤ 4611686018427387904) : IntKind.i64.wrap ((a : Int).tdiv (b : Int)) = ((a / b : Nat) : Int) := by
  have e : (a : Int).tdiv (b : Int) = ((a / b : Nat) : Int) := (Int.ofNat_tdiv a b).symm
  have hq := Nat.div_le_self a b
  rw [e]
  generalize a / b = c at *
  exact w64 _ (by omega) (by omega)
theorem len_zero (dx dy : Int) : len dx dy = 0 ↔ dx = 0 ∧ dy = 0 := by
  have h := isq_spec (lsq dx dy)
  unfold len
  constructor
  · intro h0
    have h1 : isq (lsq dx dy) = 0 := by omega
    rw [h1] at h
    have h2 : lsq dx dy = 0 := by omega
    unfold lsq at h2
    have a : dx.natAbs * dx.natAbs = 0 := by omega
    have b : dy.natAbs * dy.natAbs = 0 := by omega
    have a' := (Nat.mul_eq_zero.1 a).elim id id
    have b' := (Nat.mul_eq_zero.1 b).elim id id
    omega
  · rintro ⟨rfl, rfl⟩
    rfl
/-! ### The chosen points, by a list -/
def twoCells (z : Pt × Pt) : List Value := vecCells z.1 ++ vecCells z.2
theorem two_len (m : List (Pt × Pt)) : ∀ y ∈ m.map twoCells, y.length = 4 := by
  intro y hy
  obtain ⟨x, _, rfl⟩ := List.mem_map.1 hy
  rfl
def chFold (l : List (Pt × Pt)) : Ch := l.foldl (fun s z => chStep s z.1 z.2) ch0
theorem chFold_snoc {l : List (Pt × Pt)} {k : Nat} {z : Pt × Pt} (h : l[k]? = some z) : chFold (l.take (k + 1)) = chStep (chFold (l.take k)) z.1 z.2 := by
  unfold chFold
  rw [take_snoc h, List.foldl_append]; rfl
structure ChL (s : Ch) : Prop where
  i : ChI s
  l : s.2.2 = lsq (s.2.1.1 - s.1.1) (s.2.1.2 - s.1.2)
theorem ChL.step {s : Ch} {x y : Pt} (h : ChL s) (hx : PtI x) (hy : PtI y) : ChL (chStep s x y) := by
  refine ⟨h.i.step hx hy, ?_⟩
  unfold chStep
  split
  · rfl
  · exact h.l
theorem chL_first {x y : Pt} (hx : PtI x) (hy : PtI y) : chFold [(x, y)] = (x, y, lsq (y.1 - x.1) (y.2 - x.2)) ∧ ChL (chFold [(x, y)]) := by
  have e : chFold [(x, y)] = (x, y, lsq (y.1 - x.1) (y.2 - x.2)) := chStep_first hx hy
  rw [e]
  exact ⟨rfl, ⟨hx, hy, (lsq_lt (hx.inX hy) (hx.inY hy)).1⟩, rfl⟩
/-! ### Bodies in contact have boxes that overlap -/
structure Btw (p q z : Pt) : Prop where
  x : min p.1 q.1 ≤ z.1 ∧ z.1 ≤ max p.1 q.1
  y : min p.2 q.2 ≤ z.2 ∧ z.2 ≤ max p.2 q.2
theorem nearest_btw {p q c : Pt} (h : SgI p q) : Btw p q (nearest p q c) := by
  unfold nearest
  split
  · exact ⟨by omega, by omega⟩
  · rename_i hd
    have hn := parN_rng (c := c) h
    have hD := parD_rng h
    have a := divB (a := q.1 - p.1) hn.1 hn.2 (by omega)
    have b := divB (a := q.2 - p.2) hn.1 hn.2 (by omega)
    generalize (q.1 - p.1) * parN p q c / parD p q = u at *
    generalize (q.2 - p.2) * parN p q c / parD p q = v at *
    refine ⟨?_, ?_⟩ <;> simp only <;> omega
theorem btw_l (p q : Pt) : Btw p q p := ⟨by omega, by omega⟩
theorem btw_r (p q : Pt) : Btw p q q := ⟨by omega, by omega⟩
theorem chosen_btw {ap aq bp bq : Pt} (h1 : SgI ap aq) (h2 : SgI bp bq) : Btw ap aq (chosen ap aq bp bq).1 ∧ Btw bp bq (chosen ap aq bp bq).2.1 := by
  have st : ∀ (s : Ch) (x y : Pt), Btw ap aq s.1 ∧ Btw bp bq s.2.1 → Btw ap aq x → Btw bp bq y → Btw ap aq (chStep s x y).1 ∧ Btw bp bq (chStep s x y).2.1 := by
    intro s x y hs hx hy
    unfold chStep
    split
    · exact ⟨hx, hy⟩
    · exact hs
  unfold chosen
  refine st _ _ _ (st _ _ _ (st _ _ _ ?_ (btw_r _ _) (nearest_btw h2)) (nearest_btw h1) (btw_l _ _)) (nearest_btw h1) (btw_r _ _)
  rw [chStep_first h1.hp (nearest_in h2)]
  exact ⟨btw_l _ _, nearest_btw h2⟩
theorem abs_lt_of_sq {d : Int} {e r : Nat} (h : d.natAbs * d.natAbs + e < r * r) : d.natAbs < r := sq_lt (by omega)
theorem ovl_of {a b : Body} {s t : Pt} (ra : 0 < a.radius) (rb : 0 < b.radius) (x1 : a.px - max a.ax (-a.ax) ≤ s.1 ∧ s.1 ≤ a.px + max a.ax (-a.ax)) (y1 : a.py - max a.ay (-a.ay) ≤ s.2 ∧ s.2 ≤ a.py + max a.ay (-a.ay))
    (x2 : b.px - max b.ax (-b.ax) ≤ t.1 ∧ t.1 ≤ b.px + max b.ax (-b.ax)) (y2 : b.py - max b.ay (-b.ay) ≤ t.2 ∧ t.2 ≤ b.py + max b.ay (-b.ay)) (hx : (t.1 - s.1).natAbs < (a.radius + b.radius).natAbs) (hy : (t.2 - s.2).natAbs < (a.radius + b.radius).natAbs) : ovl (boxOf a) (boxOf b) := by
  simp only [ovl, boxOf, emptyB, extX, extY]
  generalize max a.ax (-a.ax) = p at *
  generalize max a.ay (-a.ay) = q at *
  generalize max b.ax (-b.ax) = u at *
  generalize max b.ay (-b.ay) = v at *
  have hx' : -(a.radius + b.radius) < t.1 - s.1 ∧ t.1 - s.1 < a.radius + b.radius := by omega
  have hy' : -(a.radius + b.radius) < t.2 - s.2 ∧ t.2 - s.2 < a.radius + b.radius := by omega
  clear hx hy
  refine ⟨⟨?_, ?_⟩, ⟨?_, ?_⟩, ?_, ?_, ?_, ?_⟩ <;> omega
theorem btw_end {b : Body} {z : Pt} (h : Btw (endP b) (endQ b) z) : (b.px - max b.ax (-b.ax) ≤ z.1 ∧ z.1 ≤ b.px + max b.ax (-b.ax)) ∧ b.py - max b.ay (-b.ay) ≤ z.2 ∧ z.2 ≤ b.py + max b.ay (-b.ay) := by
  have hx := h.x
  have hy := h.y
  simp only [endP, endQ] at hx hy
  omega
theorem con_ovl {a b : Body} (ha : Okb a) (hb : Okb b) (h : (conLow a b).isSome = true) : ovl (boxOf a) (boxOf b) := by
  have w := chosen_btw (ends_in ha) (ends_in hb)
  have hc : ¬ ((a.radius + b.radius).natAbs * (a.radius + b.radius).natAbs ≤ lsq (chDx (chB a b)) (chDy (chB a b))) := by
    intro hc
    unfold conLow at h
    rw [if_pos hc] at h
    cases h
  clear h
  have hl : (chDx (chB a b)).natAbs * (chDx (chB a b)).natAbs + (chDy (chB a b)).natAbs * (chDy (chB a b)).natAbs < (a.radius + b.radius).natAbs * (a.radius + b.radius).natAbs := Nat.lt_of_not_le hc
  have hx : (chDx (chB a b)).natAbs < (a.radius + b.radius).natAbs := abs_lt_of_sq hl
  have hy : (chDy (chB a b)).natAbs < (a.radius + b.radius).natAbs := abs_lt_of_sq (e := (chDx (chB a b)).natAbs * (chDx (chB a b)).natAbs) (by rw [Nat.add_comm]; exact hl)
  have ra := ha.r
  have rb := hb.r
  have w1 := btw_end w.1
  have w2 := btw_end w.2
  exact ovl_of (by omega) (by omega) w1.1 w1.2 w2.1 w2.2 hx hy
theorem conOf_none {a b : Body} (ha : Okb a) (hb : Okb b) (hk : a.key < b.key) (h : ¬ ovl (boxOf a) (boxOf b)) : conOf a b = none := by
  unfold conOf
  rw [if_neg (by omega)]
  cases hc : conLow a b with
  | none => rfl
  | some c => exact absurd (con_ovl ha hb (by rw [hc]; rfl)) h
/-- The contacts of all pairs, one after the other. -/
def allK (xs : List Body) (i : Nat) : List Con := (findK xs i).filterMap (conP (boM xs))
def rowQ (xs : List Body) (i k : Nat) : List Con := (rowK xs i k).filterMap (conP (boM xs))
theorem rowQ_snoc {xs : List Body} (hs : Sorted xs) (hb : ∀ b ∈ xs, Okb b) {i k : Nat} {a b : Body} (ha : xs[i]? = some a) (h : xs[k]? = some b) (hi : i + 1 ≤ k) : rowQ xs i (k + 1) = rowQ xs i k ++ (conOf a b).toList := by
  have hk := sorted_lt hs (show i < k by omega) ha h
  unfold rowQ
  by_cases ho : ovl (boxOf a) (boxOf b)
  · rw [rowK_yes ha h hi ho, List.filterMap_append]
    congr 1
    have e : conP (boM xs) (a.key, b.key) = conOf a b := conP_eq (boM_get hs (List.mem_of_getElem? ha)) (boM_get hs (List.mem_of_getElem? h))
    cases hc : conOf a b <;> simp [e, hc]
  · rw [rowK_no ha h hi ho, conOf_none (hb a (List.mem_of_getElem? ha)) (hb b (List.mem_of_getElem? h)) hk ho]
    simp
theorem rowQ_start (xs : List Body) (i : Nat) : rowQ xs i (i + 1) = [] := by unfold rowQ; rw [rowK_start]; rfl
theorem allK_succ (xs : List Body) (i : Nat) : allK xs (i + 1) = allK xs i ++ rowQ xs i xs.length := by unfold allK rowQ; rw [findK_succ, List.filterMap_append]
theorem allK_len (xs : List Body) (i : Nat) : (allK xs i).length ≤ i * xs.length := Nat.le_trans (List.length_filterMap_le _ _) (findK_len xs i)
theorem rowQ_len (xs : List Body) (i k : Nat) : (rowQ xs i k).length ≤ xs.length := Nat.le_trans (List.length_filterMap_le _ _) (rowK_len xs i k)
end Go.Bil
namespace Go.Bil
theorem md_floor {a : Int} {m z q r : Nat} (hq : a.natAbs * m / z = q) (hr : a.natAbs * m % z = r) (hz : 0 < (z : Int)) :
    (if decide (a < 0) = true then (if 0 < r then -(q : Int) - 1 else -(q : Int)) else (q : Int)) = a * (m : Int) / (z : Int) := by
  by_cases ha : a < 0
  · rw [if_pos (decide_eq_true ha), md_neg ha (by omega), hq, hr]
    by_cases h0 : r = 0
    · rw [if_neg (by omega), if_pos h0]
    · rw [if_pos (by omega), if_neg h0]
  · rw [if_neg (by simpa using ha), ← md_pos (by omega), hq]
theorem chosen_ins {ap aq bp bq : Pt} (h1 : SgI ap aq) (h2 : SgI bp bq) : ∀ z ∈ ([(ap, nearest bp bq ap), (aq, nearest bp bq aq), (nearest ap aq bp, bp), (nearest ap aq bq, bq)] : List (Pt × Pt)), PtI z.1 ∧ PtI z.2 := by
  intro z hz
  simp only [List.mem_cons, List.not_mem_nil, or_false] at hz
  rcases hz with rfl | rfl | rfl | rfl
  · exact ⟨h1.hp, nearest_in h2⟩
  · exact ⟨h1.hq, nearest_in h2⟩
  · exact ⟨nearest_in h1, h2.hp⟩
  · exact ⟨nearest_in h1, h2.hq⟩
end Go.Bil
namespace Go.Bil
theorem addU (a b : Nat) (h : a + b < 18446744073709551616) : IntKind.wrap .u64 ((a : Int) + (b : Int)) = ((a + b : Nat) : Int) := by rw [wrU]; omega
theorem mul_step2 {z c x y : Nat} (hz : z < 65536) (hc : c < 65536) (hx : x < 65536) (hy : y < 65536) : ∃ t, t = z + x * y + c ∧ x * y < 18446744073709551616 ∧ z + x * y < 18446744073709551616 ∧ z + x * y + c < 18446744073709551616 ∧ t < 18446744073709551616 ∧ t / 65536 < 65536 := by
  have := mul_step hz hc hx hy rfl
  exact ⟨_, rfl, by omega, by omega, by omega, by omega, this.2.2⟩
end Go.Bil
namespace Go.Bil
theorem all8 {a0 a1 a2 a3 a4 a5 a6 a7 : Nat} (h0 : a0 < 65536) (h1 : a1 < 65536) (h2 : a2 < 65536) (h3 : a3 < 65536) (h4 : a4 < 65536) (h5 : a5 < 65536) (h6 : a6 < 65536) (h7 : a7 < 65536) : ∀ x ∈ [a0, a1, a2, a3, a4, a5, a6, a7], x < 65536 := by
  intro x hx
  simp only [List.mem_cons, List.not_mem_nil, or_false] at hx
  omega
end Go.Bil
namespace Go.Bil
/-! ### The best so far, by its place -/
structure BestC (ys : List Con) (i j : Nat) : Prop where
  lt : ys ≠ [] → j < ys.length
  z : i = 0 → j = 0
  ji : i ≠ 0 → j < i
  mx : ∀ (p : Nat) (x b : Con), p < i → ys[p]? = some x → ys[j]? = some b → x.depth ≤ b.depth ∧ (p < j → x.depth < b.depth)
theorem BestC.ltm {ys : List Con} {i j m : Nat} (h : BestC ys i j) (hl : ys.length = m) (hi : i < m) : j < m := by
  have := h.lt (fun e => by rw [e] at hl; simp at hl; omega)
  omega
theorem bestC_init (ys : List Con) : BestC ys 0 0 := ⟨fun h => List.length_pos_iff.2 h, fun _ => rfl, fun h => absurd rfl h, fun p _ _ h => by omega⟩
theorem BestC.new {ys : List Con} {i j : Nat} {x b : Con} (h : BestC ys i j) (hx : ys[i]? = some x) (hb : ys[j]? = some b) (hc : x.depth > b.depth) : BestC ys (i + 1) i := by
  have hi := (List.getElem?_eq_some_iff.1 hx).1
  refine ⟨fun _ => hi, fun h => by omega, fun _ => by omega, fun p y c hp hy hcx => ?_⟩
  rw [hx] at hcx
  injection hcx with hcx
  subst hcx
  by_cases hpi : p = i
  · subst hpi
    rw [hx] at hy
    injection hy with hy
    subst hy
    exact ⟨Int.le_refl _, fun h => by omega⟩
  · have := (h.mx p y b (by omega) hy hb).1
    exact ⟨by omega, fun _ => by omega⟩
theorem BestC.old {ys : List Con} {i j : Nat} {x b : Con} (h : BestC ys i j) (hx : ys[i]? = some x) (hb : ys[j]? = some b) (hc : ¬ x.depth > b.depth) : BestC ys (i + 1) j := by
  refine ⟨h.lt, fun h => by omega, fun _ => ?_, fun p y c hp hy hcx => ?_⟩
  · by_cases hi : i = 0
    · have := h.z hi; omega
    · have := h.ji hi; omega
  · rw [hb] at hcx
    injection hcx with hcx
    subst hcx
    by_cases hpi : p = i
    · subst hpi
      rw [hx] at hy
      injection hy with hy
      subst hy
      refine ⟨by omega, fun hpj => ?_⟩
      by_cases hi : p = 0
      · have := h.z hi; omega
      · have := h.ji hi; omega
    · exact h.mx p y b (by omega) hy hb
theorem BestC.done {ys : List Con} {m j : Nat} {d : Con} (h : BestC ys m j) (hn : ys ≠ []) (hl : ys.length = m) (hd : (deepC ys).getD zCon = d) : ∃ x, ys[j]? = some x ∧ d = x := by
  have hj := h.lt hn
  refine ⟨ys[j], List.getElem?_eq_getElem hj, ?_⟩
  have hg := List.getElem?_eq_getElem hj
  obtain ⟨h1, h2, h3⟩ := deepC_law hd hn
  obtain ⟨p, hp⟩ := List.getElem?_of_mem h1
  have hpl := (List.getElem?_eq_some_iff.1 hp).1
  have e1 := (h.mx p d _ (by omega) hp hg).1
  have e2 := h2 _ (List.getElem_mem hj)
  refine (h3 j _ hg ?_ (by omega)).symm
  intro hm
  obtain ⟨q, hq⟩ := List.getElem?_of_mem hm
  rw [List.getElem?_take] at hq
  split at hq
  · have := (h.mx q d _ (by omega) hq hg).2 (by omega)
    omega
  · cases hq
/-! ### All contacts, by their pairs -/
theorem con_key {xs : List Body} (hs : Sorted xs) {c : Con} (h : c ∈ allC xs) : ∃ a b, a ∈ xs ∧ b ∈ xs ∧ a.key < b.key ∧ conOf a b = some c ∧ c.low = a.key ∧ c.high = b.key := by
  obtain ⟨z, hz, hc⟩ := List.mem_filterMap.1 h
  obtain ⟨a, b, ha, hb, hk, rfl, h1, h2⟩ := pair_bodies hs hz
  rw [conP_eq h1 h2] at hc
  have := conOf_key hk hc
  exact ⟨a, b, ha, hb, hk, hc, this.1, this.2⟩
theorem allC_pw {xs : List Body} (hs : Sorted xs) : (allC xs).Pairwise (fun c d => ltP (c.low, c.high) (d.low, d.high)) := by
  unfold allC
  have h := findP_asc hs
  refine List.Pairwise.filterMap (R := fun z y => ltP z y ∧ z ∈ findP xs ∧ y ∈ findP xs) _ ?_ ?_
  · intro z y hzy c hc d hd
    have h1 := conP_key hs hzy.2.1 hc
    have h2 := conP_key hs hzy.2.2 hd
    rw [h1.1, h1.2, h2.1, h2.2]
    exact hzy.1
  · exact (List.pairwise_iff_forall_sublist.2 fun {a b} hab => ⟨List.pairwise_iff_forall_sublist.1 h hab, hab.subset (by simp), hab.subset (by simp)⟩)
theorem allC_asc {xs : List Body} (hs : Sorted xs) {i j : Nat} {c d : Con} (hij : i < j) (hc : (allC xs)[i]? = some c) (hd : (allC xs)[j]? = some d) : ltP (c.low, c.high) (d.low, d.high) := by
  have hi := List.getElem?_eq_some_iff.1 hc
  have hj := List.getElem?_eq_some_iff.1 hd
  have := List.pairwise_iff_getElem.1 (allC_pw hs) i j hi.1 hj.1 hij
  rwa [hi.2, hj.2] at this
theorem find_place {xs : List Body} (hs : Sorted xs) {a : Body} (ha : a ∈ xs) : ∃ p : Nat, xs[p]? = some a ∧ findI a.key xs = (p : Int) := by
  rcases findI_cases a.key xs with ⟨_, h⟩ | ⟨p, c, hp, hk, hf⟩
  · exact absurd rfl (h a ha)
  · have : c = a := sorted_mem hs (List.mem_of_getElem? hp) ha hk
    subst this
    exact ⟨p, hp, hf⟩
theorem allC_at {xs : List Body} (hs : Sorted xs) (hb : ∀ b ∈ xs, Okb b) {c : Con} (h : c ∈ allC xs) :
    ∃ (p q : Nat) (a b : Body), xs[p]? = some a ∧ xs[q]? = some b ∧ p < q ∧ findI c.low xs = (p : Int) ∧ findI c.high xs = (q : Int) ∧ conOf a b = some c ∧ c.low = a.key ∧ c.high = b.key := by
  obtain ⟨a, b, ha, hb', hk, hc, h1, h2⟩ := con_key hs h
  obtain ⟨p, hp, hfp⟩ := find_place hs ha
  obtain ⟨q, hq, hfq⟩ := find_place hs hb'
  refine ⟨p, q, a, b, hp, hq, ?_, by rw [h1, hfp], by rw [h2, hfq], hc, h1, h2⟩
  rcases Nat.lt_trichotomy p q with e | e | e
  · exact e
  · subst e; rw [hp] at hq; injection hq with hq; subst hq; omega
  · have := sorted_lt hs e hq hp; omega
theorem conOf5 (l : List Value) (h : Ints [.u32, .u32, .i32, .i32, .i32] l) : ∃ c, l = conCells c ∧ True := by
  obtain ⟨z0, l0, rfl, w0, h0⟩ := ints_cons h
  obtain ⟨z1, l1, rfl, w1, h1⟩ := ints_cons h0
  obtain ⟨z2, l2, rfl, w2, h2⟩ := ints_cons h1
  obtain ⟨z3, l3, rfl, w3, h3⟩ := ints_cons h2
  obtain ⟨z4, l4, rfl, w4, h4⟩ := ints_cons h3
  obtain rfl := ints_nil h4
  exact ⟨⟨z0, z1, z2, z3, z4⟩, rfl, trivial⟩
end Go.Bil

/- Plain laws of measures. -/
set_option linter.unusedVariables false
set_option linter.unusedSimpArgs false
namespace Go.Bil
def unionB (a b : Bx) : Bx := if emptyB a ∧ emptyB b then noneB else if emptyB a then b else if emptyB b then a else ⟨min a.x0 b.x0, min a.y0 b.y0, max a.x1 b.x1, max a.y1 b.y1⟩
/-- A box as measures have them: the empty one, or one with points. -/
def GoodB (a : Bx) : Prop := a = noneB ∨ (a.x0 ≤ a.x1 ∧ a.y0 ≤ a.y1)
theorem good_empty {a : Bx} (h : GoodB a) : emptyB a ↔ a = noneB := by
  constructor
  · intro he
    rcases h with h | h
    · exact h
    · unfold emptyB at he; omega
  · rintro rfl; decide
theorem union_cases {a b : Bx} (ha : GoodB a) (hb : GoodB b) : (a = noneB → unionB a b = b) ∧ (b = noneB → unionB a b = a) ∧ (a ≠ noneB → b ≠ noneB → unionB a b = ⟨min a.x0 b.x0, min a.y0 b.y0, max a.x1 b.x1, max a.y1 b.y1⟩) := by
  have ea := good_empty ha
  have eb := good_empty hb
  refine ⟨fun h => ?_, fun h => ?_, fun h h' => ?_⟩
  · unfold unionB
    by_cases hb' : b = noneB
    · rw [if_pos ⟨ea.2 h, eb.2 hb'⟩, hb']
    · rw [if_neg (fun x => hb' (eb.1 x.2)), if_pos (ea.2 h)]
  · unfold unionB
    by_cases ha' : a = noneB
    · rw [if_pos ⟨ea.2 ha', eb.2 h⟩, ha']
    · rw [if_neg (fun x => ha' (ea.1 x.1)), if_neg (fun x => ha' (ea.1 x)), if_pos (eb.2 h)]
  · unfold unionB
    rw [if_neg (fun x => h (ea.1 x.1)), if_neg (fun x => h (ea.1 x)), if_neg (fun x => h' (eb.1 x))]
theorem good_full {a : Bx} (h : GoodB a) (hn : a ≠ noneB) : a.x0 ≤ a.x1 ∧ a.y0 ≤ a.y1 := h.resolve_left hn
theorem full_ne {a : Bx} (h : a.x0 ≤ a.x1 ∧ a.y0 ≤ a.y1) : a ≠ noneB := by rintro rfl; simp only [noneB] at h; omega
theorem union_good {a b : Bx} (ha : GoodB a) (hb : GoodB b) : GoodB (unionB a b) := by
  obtain ⟨h1, h2, h3⟩ := union_cases ha hb
  by_cases ea : a = noneB
  · rw [h1 ea]; exact hb
  · by_cases eb : b = noneB
    · rw [h2 eb]; exact ha
    · rw [h3 ea eb]
      have fa := good_full ha ea
      have fb := good_full hb eb
      exact .inr ⟨by simp only []; omega, by simp only []; omega⟩
theorem union_comm {a b : Bx} (ha : GoodB a) (hb : GoodB b) : unionB a b = unionB b a := by
  obtain ⟨h1, h2, h3⟩ := union_cases ha hb
  obtain ⟨g1, g2, g3⟩ := union_cases hb ha
  by_cases ea : a = noneB
  · rw [h1 ea, g2 ea]
  · by_cases eb : b = noneB
    · rw [h2 eb, g1 eb]
    · rw [h3 ea eb, g3 eb ea]
      exact bx_ext.2 ⟨by simp only []; omega, by simp only []; omega, by simp only []; omega, by simp only []; omega⟩
theorem union_ne {a b : Bx} (ha : GoodB a) (hb : GoodB b) (h : a ≠ noneB) : unionB a b ≠ noneB := by
  obtain ⟨h1, h2, h3⟩ := union_cases ha hb
  by_cases eb : b = noneB
  · rw [h2 eb]; exact h
  · rw [h3 h eb]
    have fa := good_full ha h
    have fb := good_full hb eb
    exact full_ne ⟨by simp only []; omega, by simp only []; omega⟩
theorem union_assoc {a b c : Bx} (ha : GoodB a) (hb : GoodB b) (hc : GoodB c) : unionB (unionB a b) c = unionB a (unionB b c) := by
  obtain ⟨h1, h2, h3⟩ := union_cases ha hb
  obtain ⟨g1, g2, g3⟩ := union_cases hb hc
  obtain ⟨k1, k2, k3⟩ := union_cases (union_good ha hb) hc
  obtain ⟨l1, l2, l3⟩ := union_cases ha (union_good hb hc)
  by_cases ea : a = noneB
  · rw [l1 ea, h1 ea]
  · by_cases eb : b = noneB
    · rw [h2 eb, g1 eb]
    · by_cases ec : c = noneB
      · rw [k2 ec, g2 ec]
      · have n1 := union_ne ha hb ea
        have n2 := union_ne hb hc eb
        rw [k3 n1 ec, l3 ea n2, h3 ea eb, g3 eb ec]
        exact bx_ext.2 ⟨by simp only []; omega, by simp only []; omega, by simp only []; omega, by simp only []; omega⟩
theorem good_none : GoodB noneB := .inl rfl
theorem good_box {b : Body} (h : Okb b) : GoodB (boxOf b) := .inr (box_full h)
/-! ### Measures -/
structure Meas where
  nb : Int
  ns : Int
  sp : Nat
  sx : Int
  sy : Int
  bx : Bx
  ov : Int
deriving DecidableEq
def meCells (m : Meas) : List Value := [.int .i64 m.nb, .int .i64 m.ns, .int .u64 (m.sp : Int), .int .i64 m.sx, .int .i64 m.sy, .int .i32 m.bx.x0, .int .i32 m.bx.y0, .int .i32 m.bx.x1, .int .i32 m.bx.y1, .int .i64 m.ov]
theorem me_ext {a b : Meas} : a = b ↔ (a.nb = b.nb ∧ a.ns = b.ns ∧ (a.sp : Int) = (b.sp : Int) ∧ a.sx = b.sx ∧ a.sy = b.sy ∧ a.bx.x0 = b.bx.x0 ∧ a.bx.y0 = b.bx.y0 ∧ a.bx.x1 = b.bx.x1 ∧ a.bx.y1 = b.bx.y1 ∧ a.ov = b.ov) := by
  constructor
  · rintro rfl; simp
  · rintro ⟨h1, h2, h3, h4, h5, h6, h7, h8, h9, h10⟩
    have hb : a.bx = b.bx := bx_ext.2 ⟨h6, h7, h8, h9⟩
    have hs : a.sp = b.sp := by omega
    cases a; cases b
    simp only at h1 h2 hs h4 h5 hb h10
    subst h1 h2 hs h4 h5 hb h10
    rfl
def none0 : Meas := ⟨0, 0, 0, 0, 0, noneB, 0⟩
def singleM (b : Body) : Meas := ⟨1, if b.mass = 0 then 1 else 0, lsq b.vx b.vy, b.vx, b.vy, boxOf b, 0⟩
def mergeM (a b : Meas) : Meas := ⟨a.nb + b.nb, a.ns + b.ns, max a.sp b.sp, a.sx + b.sx, a.sy + b.sy, unionB a.bx b.bx, a.ov + b.ov⟩
/-- What a measure of at most k bodies is like. -/
structure OkM (k : Nat) (m : Meas) : Prop where
  g : GoodB m.bx
  x : m.bx = noneB ∨ Okx m.bx
  nb : 0 ≤ m.nb ∧ m.nb ≤ k
  ns : 0 ≤ m.ns ∧ m.ns ≤ m.nb
  sp : m.sp < 18446744073709551616
  sx : -(16777216 * (k : Int)) ≤ m.sx ∧ m.sx ≤ 16777216 * k
  sy : -(16777216 * (k : Int)) ≤ m.sy ∧ m.sy ≤ 16777216 * k
  ov : -(2147483648 * ((k : Int) * k)) ≤ m.ov ∧ m.ov ≤ 2147483648 * ((k : Int) * k)
theorem OkM.bxOk {k : Nat} {m : Meas} (h : OkM k m) : Okx m.bx := h.x.elim (fun e => by rw [e]; exact ⟨by decide, by decide, by decide, by decide⟩) id
theorem vel_in {b : Body} (h : Okb b) : InD b.vx ∧ InD b.vy := by have := h.v; unfold InD; omega
theorem okM_none : OkM 0 none0 := ⟨good_none, .inl rfl, by decide, by decide, by decide, by decide, by decide, by decide⟩
theorem okM_single {b : Body} (h : Okb b) : OkM 1 (singleM b) := by
  have hv := h.v
  refine ⟨good_box h, .inr (box_ok h), by simp [singleM], ?_, (lsq_lt (vel_in h).1 (vel_in h).2).1, ?_, ?_, by simp [singleM]⟩
  · simp only [singleM]; split <;> omega
  · simp only [singleM]; omega
  · simp only [singleM]; omega
theorem okM_merge {j k : Nat} {a b : Meas} (ha : OkM j a) (hb : OkM k b) : OkM (j + k) (mergeM a b) := by
  have hg := union_good ha.g hb.g
  obtain ⟨h1, h2, h3⟩ := union_cases ha.g hb.g
  have n1 := ha.nb; have n2 := hb.nb; have s1 := ha.ns; have s2 := hb.ns; have p1 := ha.sp; have p2 := hb.sp
  have x1 := ha.sx; have x2 := hb.sx; have y1 := ha.sy; have y2 := hb.sy; have o1 := ha.ov; have o2 := hb.ov
  have hk : ((j + k : Nat) : Int) = (j : Int) + k := by omega
  have hsq : ((j + k : Nat) : Int) * ((j + k : Nat) : Int) = (j : Int) * j + (k : Int) * k + 2 * ((j : Int) * k) := by
    rw [hk, Int.add_mul, Int.mul_add, Int.mul_add, Int.mul_comm (k : Int) j]; omega
  have hjk : 0 ≤ (j : Int) * k := Int.mul_nonneg (by omega) (by omega)
  refine ⟨hg, ?_, by simp only [mergeM]; omega, by simp only [mergeM]; omega, by simp only [mergeM]; omega, by simp only [mergeM]; omega, by simp only [mergeM]; omega, ?_⟩
  · by_cases ea : a.bx = noneB
    · show unionB a.bx b.bx = noneB ∨ Okx (unionB a.bx b.bx); rw [h1 ea]; exact hb.x
    · by_cases eb : b.bx = noneB
      · show unionB a.bx b.bx = noneB ∨ Okx (unionB a.bx b.bx); rw [h2 eb]; exact ha.x
      · have q1 := ha.bxOk
        have q2 := hb.bxOk
        refine .inr ?_
        show Okx (unionB a.bx b.bx)
        rw [h3 ea eb]
        exact ⟨by have := q1.x0; have := q2.x0; simp only []; omega, by have := q1.y0; have := q2.y0; simp only []; omega, by have := q1.x1; have := q2.x1; simp only []; omega, by have := q1.y1; have := q2.y1; simp only []; omega⟩
  · simp only [mergeM]
    rw [hsq]
    generalize (j : Int) * j = J at *
    generalize (k : Int) * k = K at *
    generalize (j : Int) * k = L at *
    omega
theorem OkM.mono {j k : Nat} {a : Meas} (h : OkM j a) (hjk : j ≤ k) : OkM k a := by
  have n1 := h.nb; have x1 := h.sx; have y1 := h.sy; have o1 := h.ov
  have hsq : (j : Int) * j ≤ (k : Int) * k := Int.mul_le_mul (by omega) (by omega) (by omega) (by omega)
  refine ⟨h.g, h.x, by omega, h.ns, h.sp, by omega, by omega, ?_⟩
  generalize (j : Int) * j = J at *
  generalize (k : Int) * k = K at *
  omega
theorem merge_comm {a b : Meas} (ha : GoodB a.bx) (hb : GoodB b.bx) : mergeM a b = mergeM b a := by
  unfold mergeM
  rw [Int.add_comm a.nb, Int.add_comm a.ns, Nat.max_comm, Int.add_comm a.sx, Int.add_comm a.sy, union_comm ha hb, Int.add_comm a.ov]
theorem merge_assoc {a b c : Meas} (ha : GoodB a.bx) (hb : GoodB b.bx) (hc : GoodB c.bx) : mergeM (mergeM a b) c = mergeM a (mergeM b c) := by
  simp only [mergeM]
  rw [union_assoc ha hb hc, Nat.max_assoc]
  simp only [Int.add_assoc]
theorem merge_none {a : Meas} (ha : GoodB a.bx) : mergeM a none0 = a := by
  have := (union_cases ha good_none).2.1 rfl
  simp only [mergeM, none0, this, Int.add_zero, Nat.max_zero]
theorem none_merge {a : Meas} (ha : GoodB a.bx) : mergeM none0 a = a := by rw [merge_comm good_none ha, merge_none ha]
/-! ### The measure of a view -/
def meF (xs : List Body) : Meas := xs.foldl (fun m b => mergeM m (singleM b)) none0
theorem meF_snoc {xs : List Body} {k : Nat} {b : Body} (h : xs[k]? = some b) : meF (xs.take (k + 1)) = mergeM (meF (xs.take k)) (singleM b) := by
  unfold meF
  rw [take_snoc h, List.foldl_append]; rfl
theorem okM_fold : ∀ (xs : List Body) (m : Meas) (j : Nat), OkM j m → (∀ b ∈ xs, Okb b) → OkM (j + xs.length) (xs.foldl (fun m b => mergeM m (singleM b)) m)
  | [], m, j, h, _ => h
  | b :: xs, m, j, h, hb => by
    have := okM_fold xs _ _ (okM_merge h (okM_single (hb b (by simp)))) fun c hc => hb c (by simp [hc])
    rw [show j + 1 + xs.length = j + (b :: xs).length by simp; omega] at this
    exact this
theorem okM_meF {xs : List Body} (hb : ∀ b ∈ xs, Okb b) : OkM xs.length (meF xs) := by
  have := okM_fold xs none0 0 okM_none hb
  rwa [Nat.zero_add] at this
theorem fold_merge : ∀ (xs : List Body) (m : Meas), GoodB m.bx → (∀ b ∈ xs, Okb b) → xs.foldl (fun m b => mergeM m (singleM b)) m = mergeM m (meF xs) ∧ GoodB (meF xs).bx
  | [], m, h, _ => ⟨(merge_none h).symm, good_none⟩
  | b :: xs, m, h, hb => by
    have gs : GoodB (singleM b).bx := good_box (hb b (by simp))
    have hx : ∀ c ∈ xs, Okb c := fun c hc => hb c (by simp [hc])
    obtain ⟨e1, g1⟩ := fold_merge xs (mergeM m (singleM b)) (union_good h gs) hx
    obtain ⟨e2, g2⟩ := fold_merge xs (mergeM none0 (singleM b)) (union_good good_none gs) hx
    have e : meF (b :: xs) = mergeM (singleM b) (meF xs) := by
      show xs.foldl _ (mergeM none0 (singleM b)) = _
      rw [e2, none_merge gs]
    refine ⟨?_, by rw [e]; exact union_good gs g1⟩
    show xs.foldl _ (mergeM m (singleM b)) = _
    rw [e1, e, merge_assoc h gs g1]
theorem meF_append {xs ys : List Body} (hx : ∀ b ∈ xs, Okb b) (hy : ∀ b ∈ ys, Okb b) : meF (xs ++ ys) = mergeM (meF xs) (meF ys) := by
  have g := (fold_merge xs none0 good_none hx).2
  unfold meF
  rw [List.foldl_append]
  exact (fold_merge ys _ g hy).1
/-! ### Depths -/
def dsum (l : List Con) : Int := l.foldl (fun s c => s + c.depth) 0
theorem dsum_snoc {l : List Con} {k : Nat} {c : Con} (h : l[k]? = some c) : dsum (l.take (k + 1)) = dsum (l.take k) + c.depth := by
  unfold dsum; rw [take_snoc h, List.foldl_append]; rfl
theorem dfold : ∀ (l : List Con) (s : Int), l.foldl (fun s c => s + c.depth) s = s + dsum l
  | [], s => by simp [dsum]
  | c :: l, s => by
    show l.foldl _ (s + c.depth) = _
    rw [dfold l, show dsum (c :: l) = l.foldl (fun s c => s + c.depth) (0 + c.depth) from rfl, dfold l]
    omega
theorem dsum_append (l m : List Con) : dsum (l ++ m) = dsum l + dsum m := by unfold dsum; rw [List.foldl_append, dfold]; rfl
theorem dsum_cons (c : Con) (l : List Con) : dsum (c :: l) = c.depth + dsum l := by show l.foldl _ (0 + c.depth) = _; rw [dfold]; omega
theorem dsum_perm {l m : List Con} (h : l.Perm m) : dsum l = dsum m := by
  induction h with
  | nil => rfl
  | cons x _ ih => rw [dsum_cons, dsum_cons, ih]
  | swap x y l => rw [dsum_cons, dsum_cons, dsum_cons, dsum_cons]; omega
  | trans _ _ h1 h2 => exact h1.trans h2
theorem dsum_le {l : List Con} (h : ∀ c ∈ l, -2147483648 ≤ c.depth ∧ c.depth ≤ 2147483647) : -(2147483648 * (l.length : Int)) ≤ dsum l ∧ dsum l ≤ 2147483648 * (l.length : Int) := by
  induction l with
  | nil => simp [dsum]
  | cons c l ih =>
    have h1 := h c (by simp)
    have h2 := ih fun d hd => h d (by simp [hd])
    rw [dsum_cons, List.length_cons]
    omega
theorem conOf_depth {a b : Body} {c : Con} (h : conOf a b = some c) : -2147483648 ≤ c.depth ∧ c.depth ≤ 2147483647 := by
  have hw : ∀ x : Int, -2147483648 ≤ IntKind.wrap .i32 x ∧ IntKind.wrap .i32 x ≤ 2147483647 := fun x => by
    simp only [IntKind.wrap, IntKind.bits, IntKind.signed, Bool.true_and, decide_eq_true_eq, ge_iff_le]; split <;> omega
  have key : ∀ a b : Body, conLow a b = some c → -2147483648 ≤ c.depth ∧ c.depth ≤ 2147483647 := by
    intro a b h
    unfold conLow at h
    split at h
    · cases h
    · injection h with h; subst h; exact hw _
  unfold conOf at h
  split at h
  · exact key _ _ h
  · exact key _ _ h
theorem allC_depth {xs : List Body} (hs : Sorted xs) : ∀ c ∈ allC xs, -2147483648 ≤ c.depth ∧ c.depth ≤ 2147483647 := by
  intro c hc
  obtain ⟨a, b, _, _, _, h, _⟩ := con_key hs hc
  exact conOf_depth h
def meOf (xs : List Body) : Meas := { meF xs with ov := dsum (allC xs) }
theorem allC_sq {xs : List Body} : (allC xs).length ≤ xs.length * xs.length := Nat.le_trans (allC_len xs) (findK_len xs xs.length)
theorem okM_of {xs : List Body} (hs : Sorted xs) (hb : ∀ b ∈ xs, Okb b) : OkM xs.length (meOf xs) := by
  have h := okM_meF hb
  have hd := dsum_le (allC_depth hs)
  have hl := allC_sq (xs := xs)
  have hl' : ((allC xs).length : Int) ≤ (xs.length : Int) * xs.length := by rw [← Int.natCast_mul]; omega
  refine ⟨h.g, h.x, h.nb, h.ns, h.sp, h.sx, h.sy, ?_⟩
  show _ ≤ dsum (allC xs) ∧ dsum (allC xs) ≤ _
  generalize (xs.length : Int) * xs.length = K at *
  omega
/-! ### Quiet -/
theorem sp_le : ∀ (xs : List Body) (m : Meas) (L : Nat), (xs.foldl (fun m b => mergeM m (singleM b)) m).sp ≤ L ↔ m.sp ≤ L ∧ ∀ b ∈ xs, lsq b.vx b.vy ≤ L
  | [], m, L => by simp
  | b :: xs, m, L => by
    rw [List.foldl_cons, sp_le xs]
    simp only [mergeM, singleM, List.mem_cons, forall_eq_or_imp]
    constructor
    · rintro ⟨h1, h2⟩; exact ⟨by omega, by omega, h2⟩
    · rintro ⟨h1, h2, h3⟩; exact ⟨by omega, h3⟩
theorem meF_sp (xs : List Body) (L : Nat) : (meF xs).sp ≤ L ↔ ∀ b ∈ xs, lsq b.vx b.vy ≤ L := by
  unfold meF
  rw [sp_le]
  exact ⟨fun h => h.2, fun h => ⟨Nat.zero_le _, h⟩⟩
/-! ### Moved -/
def mvX (dx dy : Int) (a : Bx) : Bx := ⟨a.x0 + dx, a.y0 + dy, a.x1 + dx, a.y1 + dy⟩
theorem box_mv (dx dy : Int) (b : Body) : boxOf (mvB dx dy b) = mvX dx dy (boxOf b) := by
  refine bx_ext.2 ⟨?_, ?_, ?_, ?_⟩ <;> simp only [boxOf, mvX, mvB, extX, extY] <;> omega
theorem union_mv {dx dy : Int} {a b : Bx} (ha : a.x0 ≤ a.x1 ∧ a.y0 ≤ a.y1) (hb : b.x0 ≤ b.x1 ∧ b.y0 ≤ b.y1) : unionB (mvX dx dy a) (mvX dx dy b) = mvX dx dy (unionB a b) ∧ (unionB a b).x0 ≤ (unionB a b).x1 ∧ (unionB a b).y0 ≤ (unionB a b).y1 := by
  have fa : (mvX dx dy a).x0 ≤ (mvX dx dy a).x1 ∧ (mvX dx dy a).y0 ≤ (mvX dx dy a).y1 := by simp only [mvX]; omega
  have fb : (mvX dx dy b).x0 ≤ (mvX dx dy b).x1 ∧ (mvX dx dy b).y0 ≤ (mvX dx dy b).y1 := by simp only [mvX]; omega
  rw [(union_cases (.inr fa) (.inr fb)).2.2 (full_ne fa) (full_ne fb), (union_cases (.inr ha) (.inr hb)).2.2 (full_ne ha) (full_ne hb)]
  exact ⟨bx_ext.2 ⟨by simp only [mvX]; omega, by simp only [mvX]; omega, by simp only [mvX]; omega, by simp only [mvX]; omega⟩, by simp only []; omega, by simp only []; omega⟩
def mvM (dx dy : Int) (m : Meas) : Meas := { m with bx := mvX dx dy m.bx }
theorem fold_mv {dx dy : Int} : ∀ (xs : List Body) (m : Meas), (m.bx.x0 ≤ m.bx.x1 ∧ m.bx.y0 ≤ m.bx.y1) → (∀ b ∈ xs, Okb b) → (xs.map (mvB dx dy)).foldl (fun m b => mergeM m (singleM b)) (mvM dx dy m) = mvM dx dy (xs.foldl (fun m b => mergeM m (singleM b)) m)
  | [], m, _, _ => rfl
  | b :: xs, m, h, hb => by
    have hu := union_mv (dx := dx) (dy := dy) h (box_full (hb b (by simp)))
    have e : mergeM (mvM dx dy m) (singleM (mvB dx dy b)) = mvM dx dy (mergeM m (singleM b)) := by
      simp only [mergeM, mvM, singleM]
      rw [box_mv, hu.1]
      rfl
    show (xs.map (mvB dx dy)).foldl _ (mergeM (mvM dx dy m) (singleM (mvB dx dy b))) = _
    rw [e]
    exact fold_mv xs _ hu.2 fun c hc => hb c (by simp [hc])
theorem meF_mv {dx dy : Int} {xs : List Body} (hb : ∀ b ∈ xs, Okb b) (hm : ∀ b ∈ xs, Okb (mvB dx dy b)) (hn : xs ≠ []) : meF (xs.map (mvB dx dy)) = mvM dx dy (meF xs) := by
  cases xs with
  | nil => exact absurd rfl hn
  | cons b xs =>
    have gs : GoodB (singleM b).bx := good_box (hb b (by simp))
    have gm : GoodB (singleM (mvB dx dy b)).bx := good_box (hm b (by simp))
    have e : singleM (mvB dx dy b) = mvM dx dy (singleM b) := by simp only [singleM, mvM]; rw [box_mv]; rfl
    show (xs.map (mvB dx dy)).foldl _ (mergeM none0 (singleM (mvB dx dy b))) = mvM dx dy (xs.foldl _ (mergeM none0 (singleM b)))
    rw [none_merge gm, none_merge gs, e]
    exact fold_mv xs _ (box_full (hb b (by simp))) fun c hc => hb c (by simp [hc])
theorem meOf_mv {dx dy : Int} {xs : List Body} (hs : Sorted xs) (hb : ∀ b ∈ xs, Okb b) (hm : ∀ b ∈ xs, Okb (mvB dx dy b)) (hn : xs ≠ []) : meOf (xs.map (mvB dx dy)) = mvM dx dy (meOf xs) := by
  unfold meOf
  rw [meF_mv hb hm hn, allC_mv hs hb hm]
  rfl
/-! ### Two parts of a view -/
theorem mem_allC {xs : List Body} (hs : Sorted xs) (hb : ∀ b ∈ xs, Okb b) {c : Con} : c ∈ allC xs ↔ ∃ a b, a ∈ xs ∧ b ∈ xs ∧ a.key < b.key ∧ conOf a b = some c := by
  constructor
  · intro h
    obtain ⟨a, b, ha, hb, hk, hc, _⟩ := con_key hs h
    exact ⟨a, b, ha, hb, hk, hc⟩
  · rintro ⟨a, b, ha, hb', hk, hc⟩
    refine List.mem_filterMap.2 ⟨(a.key, b.key), (mem_findS hs).2 ⟨a, ha, b, hb', hk, ?_, rfl⟩, ?_⟩
    · by_cases ho : ovl (boxOf a) (boxOf b)
      · exact ho
      · rw [conOf_none (hb a ha) (hb b hb') hk ho] at hc; cases hc
    · rw [conP_eq (boM_get hs ha) (boM_get hs hb')]; exact hc
theorem allC_nodup {xs : List Body} (hs : Sorted xs) : (allC xs).Nodup := by
  refine (allC_pw hs).imp fun {c d} h e => ?_
  subst e
  simp only [ltP] at h
  omega
theorem perm_of_sub {α : Type} [DecidableEq α] : ∀ {a l : List α}, a.Nodup → (∀ x ∈ a, x ∈ l) → l.length = a.length → a.Perm l
  | [], l, _, _, hn => by
    have e : l = [] := List.eq_nil_of_length_eq_zero (by simpa using hn)
    rw [e]
  | x :: a, l, hd, hs, hn => by
    have hx := hs x (by simp)
    have hp := List.perm_cons_erase hx
    rw [List.nodup_cons] at hd
    refine (List.Perm.cons x (perm_of_sub hd.2 (fun y hy => ?_) ?_)).trans hp.symm
    · exact (List.mem_erase_of_ne (fun e : y = x => hd.1 (e ▸ hy))).2 (hs y (by simp [hy]))
    · rw [List.length_erase_of_mem hx, hn]; simp
theorem nodup_split {l a b : List Con} (hl : l.Nodup) (ha : a.Nodup) (hb : b.Nodup) (hd : ∀ x ∈ a, x ∉ b) (hs : ∀ x ∈ a ++ b, x ∈ l) (hn : l.length = a.length + b.length) : (a ++ b).Perm l :=
  perm_of_sub (List.nodup_append.2 ⟨ha, hb, fun x hx y hy e => hd x hx (by rw [e]; exact hy)⟩) hs (by rw [List.length_append]; omega)
theorem apart_sum {xs : List Body} (hs : Sorted xs) (hb : ∀ b ∈ xs, Okb b) (k : Nat) (hn : (allC xs).length = (allC (xs.take k)).length + (allC (xs.drop k)).length) : dsum (allC xs) = dsum (allC (xs.take k)) + dsum (allC (xs.drop k)) := by
  have s1 : Sorted (xs.take k) := hs.sublist (List.take_sublist _ _)
  have s2 : Sorted (xs.drop k) := hs.sublist (List.drop_sublist _ _)
  have m1 : ∀ {b}, b ∈ xs.take k → b ∈ xs := fun h => (List.take_sublist _ _).subset h
  have m2 : ∀ {b}, b ∈ xs.drop k → b ∈ xs := fun h => (List.drop_sublist _ _).subset h
  have b1 : ∀ b ∈ xs.take k, Okb b := fun b h => hb b (m1 h)
  have b2 : ∀ b ∈ xs.drop k, Okb b := fun b h => hb b (m2 h)
  rw [← dsum_append]
  refine dsum_perm (nodup_split (allC_nodup hs) (allC_nodup s1) (allC_nodup s2) ?_ ?_ hn).symm
  · intro c h1 h2
    obtain ⟨a, b, ha, _, _, _, hl, _⟩ := con_key s1 h1
    obtain ⟨a', b', ha', _, _, _, hl', _⟩ := con_key s2 h2
    obtain ⟨i, hi⟩ := List.getElem?_of_mem ha
    obtain ⟨j, hj⟩ := List.getElem?_of_mem ha'
    rw [List.getElem?_take] at hi
    split at hi
    · rw [List.getElem?_drop] at hj
      have := sorted_lt hs (show i < k + j by omega) hi hj
      omega
    · cases hi
  · intro c hc
    rcases List.mem_append.1 hc with h | h
    · obtain ⟨a, b, ha, hb', hk, e⟩ := (mem_allC s1 b1).1 h
      exact (mem_allC hs hb).2 ⟨a, b, m1 ha, m1 hb', hk, e⟩
    · obtain ⟨a, b, ha, hb', hk, e⟩ := (mem_allC s2 b2).1 h
      exact (mem_allC hs hb).2 ⟨a, b, m2 ha, m2 hb', hk, e⟩
theorem okM_bnd {k : Nat} {m : Meas} (h : OkM k m) (hk : k ≤ 32768) : (0 ≤ m.nb ∧ m.nb ≤ 32768) ∧ (0 ≤ m.ns ∧ m.ns ≤ 32768) ∧ (-549755813888 ≤ m.sx ∧ m.sx ≤ 549755813888) ∧ (-549755813888 ≤ m.sy ∧ m.sy ≤ 549755813888) ∧ -2305843009213693952 ≤ m.ov ∧ m.ov ≤ 2305843009213693952 := by
  have h1 := h.nb; have h2 := h.ns; have h3 := h.sx; have h4 := h.sy; have h5 := h.ov
  have hk2 : (k : Int) * k ≤ 32768 * 32768 := Int.mul_le_mul (by omega) (by omega) (by omega) (by omega)
  generalize (k : Int) * k = K at *
  omega
def quietP (L : Nat) (xs : List Body) : Bool := xs.all (fun b => decide (lsq b.vx b.vy ≤ L))
theorem quietP_snoc {L : Nat} {xs : List Body} {k : Nat} {b : Body} (h : xs[k]? = some b) : quietP L (xs.take (k + 1)) = (quietP L (xs.take k) && decide (lsq b.vx b.vy ≤ L)) := by
  unfold quietP
  rw [take_snoc h, List.all_append]; simp
theorem quiet_eq {L : Nat} {xs : List Body} {s : Int} (h : ¬ s < 0) : ((decide (0 ≤ s) && quietP L xs) == decide (((meOf xs).sp : Int) ≤ (L : Int))) = true := by
  have e : quietP L xs = decide (((meOf xs).sp : Int) ≤ (L : Int)) := by
    rw [Bool.eq_iff_iff, decide_eq_true_iff]
    unfold quietP
    simp only [List.all_eq_true, decide_eq_true_eq]
    have := meF_sp xs L
    constructor
    · intro h2; have := this.2 h2; show ((meF xs).sp : Int) ≤ _; omega
    · intro h2; exact this.1 (by have h3 : ((meF xs).sp : Int) ≤ _ := h2; omega)
  rw [e, decide_eq_true (by omega : 0 ≤ s)]
  simp
theorem meF_cons {b : Body} {xs : List Body} (hb : Okb b) (hx : ∀ c ∈ xs, Okb c) : meF (b :: xs) = mergeM (singleM b) (meF xs) := by
  have gs : GoodB (singleM b).bx := good_box hb
  show xs.foldl _ (mergeM none0 (singleM b)) = _
  rw [none_merge gs, (fold_merge xs _ gs hx).1]
theorem meF_ne {xs : List Body} (hb : ∀ b ∈ xs, Okb b) (h : xs ≠ []) : (meF xs).bx ≠ noneB := by
  cases xs with
  | nil => exact absurd rfl h
  | cons b xs =>
    have hx : ∀ c ∈ xs, Okb c := fun c hc => hb c (by simp [hc])
    have h1 := hb b (by simp)
    rw [meF_cons h1 hx]
    exact union_ne (good_box h1) (fold_merge xs none0 good_none hx).2 (full_ne (box_full h1))
theorem fold_nb : ∀ (xs : List Body) (m : Meas), (xs.foldl (fun m b => mergeM m (singleM b)) m).nb = m.nb + xs.length ∧ (xs.foldl (fun m b => mergeM m (singleM b)) m).ov = m.ov
  | [], m => by simp
  | b :: xs, m => by
    have := fold_nb xs (mergeM m (singleM b))
    rw [List.foldl_cons, this.1, this.2, List.length_cons]
    simp only [mergeM, singleM]
    exact ⟨by omega, by omega⟩
theorem meF_nb (xs : List Body) : (meF xs).nb = xs.length ∧ (meF xs).ov = 0 := by
  have := fold_nb xs none0
  unfold meF
  rw [this.1, this.2]
  simp [none0]
theorem sums_eq {xs : List Body} (hb : ∀ b ∈ xs, Okb b) (k : Nat) : mergeM (meOf (xs.take k)) (meOf (xs.drop k)) = { meF xs with ov := dsum (allC (xs.take k)) + dsum (allC (xs.drop k)) } := by
  have h := meF_append (xs := xs.take k) (ys := xs.drop k) (fun b h => hb b ((List.take_sublist _ _).subset h)) (fun b h => hb b ((List.drop_sublist _ _).subset h))
  rw [List.take_append_drop] at h
  rw [h]
  rfl
theorem sums_apart {xs : List Body} (hs : Sorted xs) (hb : ∀ b ∈ xs, Okb b) {k : Nat} (hn : (allC xs).length = (allC (xs.take k)).length + (allC (xs.drop k)).length) : meOf xs = mergeM (meOf (xs.take k)) (meOf (xs.drop k)) := by
  rw [sums_eq hb, ← apart_sum hs hb k hn]; rfl
theorem sums_any {xs : List Body} (hb : ∀ b ∈ xs, Okb b) (k : Nat) : meOf xs = { mergeM (meOf (xs.take k)) (meOf (xs.drop k)) with ov := (meOf xs).ov } := by
  rw [sums_eq hb]; rfl
theorem Rd.cast {w : World} {sz n : Nat} {A : Option Addr} {ls ls' : List (List Value)} (R : Rd w sz A n ls) (h : ls = ls') : Rd w sz A n ls' := h ▸ R
theorem take_map0 {α β : Type} (f : α → β) (xs : List α) (k : Nat) : ((xs.map f).drop 0).take (k - 0) = (xs.take k).map f := by simp [List.map_take]
theorem drop_map1 {α β : Type} (f : α → β) {xs : List α} {n : Nat} (k : Nat) (hn : xs.length = n) : ((xs.map f).drop k).take (n - k) = (xs.drop k).map f := by
  rw [List.take_of_length_le (by simp; omega), List.map_drop]
theorem mv_okx {dx dy : Int} {xs : List Body} {ma : Meas} (hs : Sorted xs) (hm : ∀ b ∈ xs, Okb (mvB dx dy b)) (h : meOf (xs.map (mvB dx dy)) = mvM dx dy ma) : Okx (mvX dx dy ma.bx) := by
  have h2 := (okM_of (mv_sorted (dx := dx) (dy := dy) hs) (fun b hb => by obtain ⟨c, hc, rfl⟩ := List.mem_map.1 hb; exact hm c hc)).bxOk
  rw [h] at h2
  exact h2
end Go.Bil
