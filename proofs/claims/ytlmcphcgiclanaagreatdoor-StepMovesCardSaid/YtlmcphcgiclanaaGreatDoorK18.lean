/- Part of the proof of the laws of this seat: MdX, MdY, MdZ, MdM, MdI, MdJ, MdA, MdF, MdH. No conditions. -/
import Derived.Test.YtlmcphcgiclanaaGreatDoorK7
import Derived.Test.YtlmcphcgiclanaaGreatDoorK17
set_option linter.unusedVariables false
set_option linter.unusedSimpArgs false
set_option linter.unnecessarySimpa false
namespace Go.Bil
abbrev Pt := Int × Int
structure PtI (v : Pt) : Prop where
  x : -1082130432 ≤ v.1 ∧ v.1 ≤ 1082130432
  y : -1082130432 ≤ v.2 ∧ v.2 ≤ 1082130432
structure SgI (p q : Pt) : Prop where
  hp : PtI p
  hq : PtI q
  x : -16777216 ≤ q.1 - p.1 ∧ q.1 - p.1 ≤ 16777216
  y : -16777216 ≤ q.2 - p.2 ∧ q.2 - p.2 ≤ 16777216
theorem PtI.i32 {v : Pt} (h : PtI v) : I32 v := ⟨by have := h.x; omega, by have := h.y; omega⟩
theorem PtI.inX {v u : Pt} (h : PtI v) (g : PtI u) : tE (u.1 - v.1) := by have := h.x; have := g.x; unfold tE; omega
theorem PtI.inY {v u : Pt} (h : PtI v) (g : PtI u) : tE (u.2 - v.2) := by have := h.y; have := g.y; unfold tE; omega
theorem vO {a b : Int} {A B : Nat} (ha : a.natAbs ≤ A) (hb : b.natAbs ≤ B) : -((A * B : Nat) : Int) ≤ a * b ∧ a * b ≤ ((A * B : Nat) : Int) := by
  have h := Nat.mul_le_mul ha hb
  rw [← Int.natAbs_mul] at h
  omega
theorem sqN (a : Int) : 0 ≤ a * a := by rw [← Int.natAbs_mul_self]; omega
def iP (p q : Pt) : Int := (q.1 - p.1) * (q.1 - p.1) + (q.2 - p.2) * (q.2 - p.2)
def lA (p q c : Pt) : Int := max 0 (min ((c.1 - p.1) * (q.1 - p.1) + (c.2 - p.2) * (q.2 - p.2)) (iP p q))
theorem pB {p q : Pt} (h : SgI p q) : 0 ≤ iP p q ∧ iP p q ≤ 562949953421312 ∧ (0 ≤ (q.1 - p.1) * (q.1 - p.1) ∧ (q.1 - p.1) * (q.1 - p.1) ≤ 281474976710656) ∧ 0 ≤ (q.2 - p.2) * (q.2 - p.2) ∧ (q.2 - p.2) * (q.2 - p.2) ≤ 281474976710656 := by
  have hx := h.x
  have hy := h.y
  have a := vO (a := q.1 - p.1) (b := q.1 - p.1) (A := 16777216) (B := 16777216) (by omega) (by omega)
  have b := vO (a := q.2 - p.2) (b := q.2 - p.2) (A := 16777216) (B := 16777216) (by omega) (by omega)
  have c := sqN (q.1 - p.1)
  have d := sqN (q.2 - p.2)
  unfold iP
  omega
theorem aAo {p q c : Pt} (h : SgI p q) : 0 ≤ lA p q c ∧ lA p q c ≤ iP p q := by
  have := pB h
  unfold lA
  omega
theorem aJx {p q c : Pt} (h : SgI p q) (hc : PtI c) : (-36310272144179200 ≤ (c.1 - p.1) * (q.1 - p.1) ∧ (c.1 - p.1) * (q.1 - p.1) ≤ 36310272144179200) ∧ -36310272144179200 ≤ (c.2 - p.2) * (q.2 - p.2) ∧ (c.2 - p.2) * (q.2 - p.2) ≤ 36310272144179200 := by
  have hx := h.x
  have hy := h.y
  have := hc.x; have := hc.y; have := h.hp.x; have := h.hp.y
  have a := vO (a := c.1 - p.1) (b := q.1 - p.1) (A := 2164260864) (B := 16777216) (by omega) (by omega)
  have b := vO (a := c.2 - p.2) (b := q.2 - p.2) (A := 2164260864) (B := 16777216) (by omega) (by omega)
  omega
theorem aYa {a n d : Int} (hn : 0 ≤ n) (hnd : n ≤ d) (hd : 0 < d) : (0 ≤ a → 0 ≤ a * n / d ∧ a * n / d ≤ a) ∧ (a ≤ 0 → a ≤ a * n / d ∧ a * n / d ≤ 0) := by
  refine ⟨fun h => ⟨Int.ediv_nonneg (Int.mul_nonneg h hn) (Int.le_of_lt hd), ?_⟩, fun h => ⟨?_, ?_⟩⟩
  · exact Int.ediv_le_of_le_mul hd (Int.mul_le_mul_of_nonneg_left hnd h)
  · exact (Int.le_ediv_iff_mul_le hd).2 (Int.mul_le_mul_of_nonpos_left h hnd)
  · have h1 : a * n ≤ 0 := Int.mul_nonpos_of_nonpos_of_nonneg h hn
    exact Int.ediv_le_of_le_mul hd (by omega)
def cK (p q c : Pt) : Pt := if iP p q = 0 then p else (p.1 + (q.1 - p.1) * lA p q c / iP p q, p.2 + (q.2 - p.2) * lA p q c / iP p q)
theorem aCu {p q c : Pt} (h : SgI p q) (hd : iP p q ≠ 0) : ((-16777216 ≤ (q.1 - p.1) * lA p q c / iP p q ∧ (q.1 - p.1) * lA p q c / iP p q ≤ 16777216) ∧ -1082130432 ≤ p.1 + (q.1 - p.1) * lA p q c / iP p q ∧ p.1 + (q.1 - p.1) * lA p q c / iP p q ≤ 1082130432) ∧
    (-16777216 ≤ (q.2 - p.2) * lA p q c / iP p q ∧ (q.2 - p.2) * lA p q c / iP p q ≤ 16777216) ∧ -1082130432 ≤ p.2 + (q.2 - p.2) * lA p q c / iP p q ∧ p.2 + (q.2 - p.2) * lA p q c / iP p q ≤ 1082130432 := by
  have hn := aAo (c := c) h
  have hD := pB h
  have a := aYa (a := q.1 - p.1) hn.1 hn.2 (by omega)
  have b := aYa (a := q.2 - p.2) hn.1 hn.2 (by omega)
  have := h.hp.x; have := h.hp.y; have := h.hq.x; have := h.hq.y; have := h.x; have := h.y
  generalize (q.1 - p.1) * lA p q c / iP p q = u at *
  generalize (q.2 - p.2) * lA p q c / iP p q = v at *
  omega
theorem dP {p q c : Pt} (h : SgI p q) : PtI (cK p q c) := by
  unfold cK
  split
  · exact h.hp
  · rename_i hd
    have := aCu (c := c) h hd
    exact ⟨this.1.2, this.2.2⟩
abbrev Ch := Pt × Pt × Nat
def dS (s : Ch) (x y : Pt) : Ch := if qQ (y.1 - x.1) (y.2 - x.2) < s.2.2 then (x, y, qQ (y.1 - x.1) (y.2 - x.2)) else s
def ch0 : Ch := ((0, 0), (0, 0), 18446744073709551615)
def jL (ap aq bp bq : Pt) : Ch := dS (dS (dS (dS ch0 ap (cK bp bq ap)) aq (cK bp bq aq)) (cK ap aq bp) bp) (cK ap aq bq) bq
structure ChI (s : Ch) : Prop where
  a : PtI s.1
  b : PtI s.2.1
  l : s.2.2 < 18446744073709551616
theorem ChI.step {s : Ch} {x y : Pt} (h : ChI s) (hx : PtI x) (hy : PtI y) : ChI (dS s x y) := by
  unfold dS
  split
  · exact ⟨hx, hy, (qR (hx.inX hy) (hx.inY hy)).1⟩
  · exact h
theorem aMi : ChI ch0 := ⟨⟨by decide, by decide⟩, ⟨by decide, by decide⟩, by decide⟩
theorem aJy {ap aq bp bq : Pt} (h1 : SgI ap aq) (h2 : SgI bp bq) : ChI (jL ap aq bp bq) :=
  (((aMi.step h1.hp (dP h2)).step h1.hq (dP h2)).step (dP h1) h2.hp).step (dP h1) h2.hq
def sK (b : Body) : Pt := (b.px - b.ax, b.py - b.ay)
def sO (b : Body) : Pt := (b.px + b.ax, b.py + b.ay)
theorem kD {b : Body} (h : Okb b) : SgI (sK b) (sO b) := by
  have := h.a; have := h.p
  refine ⟨⟨?_, ?_⟩, ⟨?_, ?_⟩, ?_, ?_⟩ <;> simp only [sK, sO] <;> omega
structure Con where
  low : Int
  high : Int
  nx : Int
  ny : Int
  depth : Int
deriving DecidableEq
def bZ (c : Con) : List Value := [.int .u32 c.low, .int .u32 c.high, .int .i32 c.nx, .int .i32 c.ny, .int .i32 c.depth]
def oH (a b : Body) : Ch := jL (sK a) (sO a) (sK b) (sO b)
def pL (s : Ch) : Int := s.2.1.1 - s.1.1
def pW (s : Ch) : Int := s.2.1.2 - s.1.2
def iI (a b : Body) : Option Con :=
  if (a.radius + b.radius).natAbs * (a.radius + b.radius).natAbs ≤ qQ (pL (oH a b)) (pW (oH a b)) then none
  else some ⟨a.key, b.key, (jE (pL (oH a b)) (pW (oH a b))).1, (jE (pL (oH a b)) (pW (oH a b))).2, IntKind.wrap .i32 (a.radius + b.radius - len (pL (oH a b)) (pW (oH a b)))⟩
def jS (a b : Body) : Option Con := if b.key < a.key then iI b a else iI a b
def jD (b : Body) : List Value := aI b ++ cA (sK b) ++ cA (sO b)
def loB (a b : Body) : Body := if b.key < a.key then b else a
def hiB (a b : Body) : Body := if b.key < a.key then a else b
theorem aCp (a b : Body) : jS a b = iI (loB a b) (hiB a b) := by unfold jS loB hiB; split <;> rfl
theorem aWi {a b : Body} (ha : Okb a) (hb : Okb b) : Okb (loB a b) ∧ Okb (hiB a b) := by unfold loB hiB; split <;> exact ⟨by assumption, by assumption⟩
theorem uD {a b : Body} (ha : Okb a) (hb : Okb b) : ChI (oH a b) := aJy (kD ha) (kD hb)
theorem aSa {a b : Body} (ha : Okb a) (hb : Okb b) : tE (pL (oH a b)) ∧ tE (pW (oH a b)) := ⟨(uD ha hb).a.inX (uD ha hb).b, (uD ha hb).a.inY (uD ha hb).b⟩
def aUs (o : Option Con) : List Value := bZ (o.getD ⟨0, 0, 0, 0, 0⟩)
theorem aWc {a b : Body} (ha : Okb a) (hb : Okb b) : 0 ≤ (a.radius + b.radius) * (a.radius + b.radius) ∧ (a.radius + b.radius) * (a.radius + b.radius) ≤ 70368744177664 := by
  have := ha.r; have := hb.r
  have h := vO (a := a.radius + b.radius) (b := a.radius + b.radius) (A := 8388608) (B := 8388608) (by omega) (by omega)
  have := sqN (a.radius + b.radius)
  omega
theorem aPp (s : Int) (h : 0 ≤ s * s ∧ s * s ≤ 70368744177664) : IntKind.wrap .u64 (s * s) = ((s.natAbs * s.natAbs : Nat) : Int) := by
  rw [oT, Int.natAbs_mul_self]; omega
end Go.Bil

namespace Go.Bil
def oL (b : Body) : Value := .agg (aI b).toArray
def aQg : Body := ⟨0, 0, 0, 0, 0, 0, 0, 0, 0, 0⟩
def boM (xs : List Body) : Int → Option Body := fun k => xs.reverse.find? (fun b => decide (b.key = k))
theorem aRc (k : Int) : boM [] k = none := rfl
theorem aKy {xs : List Body} {k : Nat} {b : Body} (h : xs[k]? = some b) (q : Int) : boM (xs.take (k + 1)) q = if q = b.key then some b else boM (xs.take k) q := by
  unfold boM
  rw [cI h, List.reverse_append]
  simp only [List.reverse_cons, List.reverse_nil, List.nil_append, List.singleton_append, List.find?_cons]
  by_cases e : q = b.key
  · rw [if_pos e, decide_eq_true e.symm]
  · rw [if_neg e, decide_eq_false (fun h => e h.symm)]
theorem sX {xs : List Body} (hs : bK xs) {b : Body} (hb : b ∈ xs) : boM xs b.key = some b := by
  unfold boM
  cases hf : xs.reverse.find? (fun c => decide (c.key = b.key)) with
  | none =>
    have := List.find?_eq_none.1 hf b (by simpa using hb)
    simp at this
  | some c =>
    have hc := List.find?_some hf
    have hm : c ∈ xs := by simpa using List.mem_of_find?_eq_some hf
    simp only [decide_eq_true_eq] at hc
    rw [jT hs hm hb hc]
def yH (f : Int → Option Body) (z : Int × Int) : Option Con := (f z.1).bind fun a => (f z.2).bind fun b => jS a b
def fG (xs : List Body) : List Con := (iC xs).filterMap (yH (boM xs))
theorem mW {xs : List Body} (hs : bK xs) {z : Int × Int} (h : z ∈ iC xs) : ∃ a b, a ∈ xs ∧ b ∈ xs ∧ a.key < b.key ∧ z = (a.key, b.key) ∧ boM xs z.1 = some a ∧ boM xs z.2 = some b := by
  obtain ⟨a, ha, b, hb, h1, h2, rfl⟩ := (rC hs).1 h
  exact ⟨a, b, ha, hb, h1, rfl, sX hs ha, sX hs hb⟩
theorem kC {f : Int → Option Body} {z : Int × Int} {a b : Body} (h1 : f z.1 = some a) (h2 : f z.2 = some b) : yH f z = jS a b := by simp [yH, h1, h2]
theorem aDt {a b : Body} {c : Con} (h : iI a b = some c) : c.low = a.key ∧ c.high = b.key := by
  unfold iI at h
  split at h
  · cases h
  · injection h with h; subst h; exact ⟨rfl, rfl⟩
theorem aJf {a b : Body} {c : Con} (hk : a.key < b.key) (h : jS a b = some c) : c.low = a.key ∧ c.high = b.key := by
  unfold jS at h
  rw [if_neg (by omega)] at h
  exact aDt h
theorem aRn {α β : Type} {l : List α} {k : Nat} {z : α} {g : α → Option β} (h : l[k]? = some z) : (l.take (k + 1)).filterMap g = (l.take k).filterMap g ++ (g z).toList := by
  rw [cI h, List.filterMap_append]
  cases hg : g z <;> simp [hg]
theorem aCq (xs : List Body) : (fG xs).length ≤ (iC xs).length := List.length_filterMap_le _ _
theorem aAk {α β : Type} {g g' : α → Option β} : ∀ {l : List α}, (∀ z ∈ l, g z = g' z) → l.filterMap g = l.filterMap g'
  | [], _ => rfl
  | z :: l, h => by rw [List.filterMap_cons, List.filterMap_cons, h z (by simp), aAk (l := l) fun y hy => h y (by simp [hy])]
def lB (dx dy : Int) (p : Pt) : Pt := (p.1 + dx, p.2 + dy)
theorem aFw (dx dy : Int) (p q : Pt) : iP (lB dx dy p) (lB dx dy q) = iP p q := by
  unfold iP lB
  rw [show q.1 + dx - (p.1 + dx) = q.1 - p.1 by omega, show q.2 + dy - (p.2 + dy) = q.2 - p.2 by omega]
theorem aRg (dx dy : Int) (p q c : Pt) : lA (lB dx dy p) (lB dx dy q) (lB dx dy c) = lA p q c := by
  unfold lA
  rw [aFw]
  unfold lB
  rw [show q.1 + dx - (p.1 + dx) = q.1 - p.1 by omega, show q.2 + dy - (p.2 + dy) = q.2 - p.2 by omega, show c.1 + dx - (p.1 + dx) = c.1 - p.1 by omega, show c.2 + dy - (p.2 + dy) = c.2 - p.2 by omega]
theorem mH (dx dy : Int) (p q c : Pt) : cK (lB dx dy p) (lB dx dy q) (lB dx dy c) = lB dx dy (cK p q c) := by
  unfold cK
  rw [aFw, aRg]
  split
  · rfl
  · unfold lB
    rw [show q.1 + dx - (p.1 + dx) = q.1 - p.1 by omega, show q.2 + dy - (p.2 + dy) = q.2 - p.2 by omega]
    exact Prod.ext (by simp only []; omega) (by simp only []; omega)
def mvC (dx dy : Int) (s : Ch) : Ch := (lB dx dy s.1, lB dx dy s.2.1, s.2.2)
theorem qU (dx dy : Int) (s : Ch) (x y : Pt) : dS (mvC dx dy s) (lB dx dy x) (lB dx dy y) = mvC dx dy (dS s x y) := by
  have e : qQ ((lB dx dy y).1 - (lB dx dy x).1) ((lB dx dy y).2 - (lB dx dy x).2) = qQ (y.1 - x.1) (y.2 - x.2) := by
    unfold lB
    rw [show y.1 + dx - (x.1 + dx) = y.1 - x.1 by omega, show y.2 + dy - (x.2 + dy) = y.2 - x.2 by omega]
  unfold dS
  rw [e, show (mvC dx dy s).2.2 = s.2.2 from rfl]
  split <;> rfl
theorem qD {x y : Pt} (hx : PtI x) (hy : PtI y) : dS ch0 x y = (x, y, qQ (y.1 - x.1) (y.2 - x.2)) := by
  have := qR (hx.inX hy) (hx.inY hy)
  have h : qQ (y.1 - x.1) (y.2 - x.2) < 18446744073709551615 := by unfold qQ at *; omega
  exact if_pos h
theorem aIh {dx dy : Int} {ap aq bp bq : Pt} (h1 : SgI ap aq) (h2 : SgI bp bq) (g1 : SgI (lB dx dy ap) (lB dx dy aq)) (g2 : SgI (lB dx dy bp) (lB dx dy bq)) :
    jL (lB dx dy ap) (lB dx dy aq) (lB dx dy bp) (lB dx dy bq) = mvC dx dy (jL ap aq bp bq) := by
  unfold jL
  have e0 : dS ch0 (lB dx dy ap) (cK (lB dx dy bp) (lB dx dy bq) (lB dx dy ap)) = mvC dx dy (dS ch0 ap (cK bp bq ap)) := by
    rw [qD g1.hp (dP g2), qD h1.hp (dP h2), mH]
    refine Prod.ext rfl (Prod.ext rfl ?_)
    simp only [mvC, lB]
    rw [show (cK bp bq ap).1 + dx - (ap.1 + dx) = (cK bp bq ap).1 - ap.1 by omega, show (cK bp bq ap).2 + dy - (ap.2 + dy) = (cK bp bq ap).2 - ap.2 by omega]
  rw [e0, mH, qU, mH, qU, mH, qU]
theorem zD (dx dy : Int) (b : Body) : sK (eQ dx dy b) = lB dx dy (sK b) := Prod.ext (by simp only [sK, eQ, lB]; omega) (by simp only [sK, eQ, lB]; omega)
theorem yK (dx dy : Int) (b : Body) : sO (eQ dx dy b) = lB dx dy (sO b) := Prod.ext (by simp only [sO, eQ, lB]; omega) (by simp only [sO, eQ, lB]; omega)
theorem aJz {dx dy : Int} {a b : Body} (ha : Okb a) (hb : Okb b) (ga : Okb (eQ dx dy a)) (gb : Okb (eQ dx dy b)) : iI (eQ dx dy a) (eQ dx dy b) = iI a b := by
  have e : oH (eQ dx dy a) (eQ dx dy b) = mvC dx dy (oH a b) := by
    have g1 := kD ga; have g2 := kD gb
    unfold oH
    rw [zD, yK] at g1 g2
    rw [zD, yK, zD, yK]
    exact aIh (kD ha) (kD hb) g1 g2
  have e1 : pL (oH (eQ dx dy a) (eQ dx dy b)) = pL (oH a b) := by rw [e]; simp only [pL, mvC, lB]; omega
  have e2 : pW (oH (eQ dx dy a) (eQ dx dy b)) = pW (oH a b) := by rw [e]; simp only [pW, mvC, lB]; omega
  unfold iI
  rw [e1, e2]
  rfl
theorem aGa {dx dy : Int} {xs : List Body} (hs : bK xs) (h : ∀ b ∈ xs, Okb b) (g : ∀ b ∈ xs, Okb (eQ dx dy b)) : fG (xs.map (eQ dx dy)) = fG xs := by
  unfold fG
  rw [aPy hs]
  refine aAk fun z hz => ?_
  obtain ⟨a, b, ha, hb, hk, rfl, h1, h2⟩ := mW hs hz
  have e1 : boM (xs.map (eQ dx dy)) a.key = some (eQ dx dy a) := sX (b := eQ dx dy a) (lM hs) (List.mem_map_of_mem ha)
  have e2 : boM (xs.map (eQ dx dy)) b.key = some (eQ dx dy b) := sX (b := eQ dx dy b) (lM hs) (List.mem_map_of_mem hb)
  rw [kC h1 h2, kC e1 e2]
  unfold jS
  rw [if_neg (show ¬ b.key < a.key by omega), if_neg (show ¬ (eQ dx dy b).key < (eQ dx dy a).key by show ¬ b.key < a.key; omega)]
  exact aJz (h a ha) (h b hb) (g a ha) (g b hb)
theorem Mem.orderC {w0 w : World} {X : List Nat} {a b c d : dQ} (M : Mem w0 X [a, b, c, d] w) : Mem w0 X [c, b, a, d] w :=
  M.perm ((List.Perm.swap b a [c, d]).trans (((List.Perm.swap c a [d]).cons b).trans (List.Perm.swap c b [a, d])))
def mY : Con → List Con → Con
  | b, [] => b
  | b, c :: l => mY (if b.depth < c.depth then c else b) l
def aSi : List Con → Option Con
  | [] => none
  | c :: l => some (mY c l)
end Go.Bil

namespace Go.Bil
theorem qT : ∀ (l : List Con) (b : Con), b.depth ≤ (mY b l).depth ∧ ∀ c ∈ l, c.depth ≤ (mY b l).depth
  | [], b => ⟨Int.le_refl _, by simp⟩
  | x :: l, b => by
    have ih := qT l (if b.depth < x.depth then x else b)
    have e : mY b (x :: l) = mY (if b.depth < x.depth then x else b) l := rfl
    rw [e]
    by_cases hx : b.depth < x.depth
    · rw [if_pos hx] at ih ⊢
      refine ⟨by omega, fun c hc => ?_⟩
      rcases List.mem_cons.1 hc with rfl | hc
      · exact ih.1
      · exact ih.2 c hc
    · rw [if_neg hx] at ih ⊢
      refine ⟨ih.1, fun c hc => ?_⟩
      rcases List.mem_cons.1 hc with rfl | hc
      · omega
      · exact ih.2 c hc
theorem aAy : ∀ (l : List Con) (b : Con), ∃ j : Nat, (b :: l)[j]? = some (mY b l) ∧ ∀ (i : Nat) (c : Con), i < j → (b :: l)[i]? = some c → c.depth < (mY b l).depth
  | [], b => ⟨0, rfl, fun i c h => by omega⟩
  | x :: l, b => by
    have e : mY b (x :: l) = mY (if b.depth < x.depth then x else b) l := rfl
    obtain ⟨j, h1, h2⟩ := aAy l (if b.depth < x.depth then x else b)
    have hm := qT l (if b.depth < x.depth then x else b)
    rw [e]
    by_cases hc : b.depth < x.depth
    · rw [if_pos hc] at h1 h2 hm ⊢
      refine ⟨j + 1, by simpa using h1, fun i c hi hci => ?_⟩
      cases i with
      | zero => simp only [List.getElem?_cons_zero, Option.some.injEq] at hci; subst hci; omega
      | succ i => exact h2 i c (by omega) (by simpa using hci)
    · rw [if_neg hc] at h1 h2 hm ⊢
      cases j with
      | zero => exact ⟨0, by simpa using h1, fun i c h => by omega⟩
      | succ j =>
        have hb := h2 0 b (by omega) rfl
        refine ⟨j + 2, by simpa using h1, fun i c hi hci => ?_⟩
        match i, hci with
        | 0, hci => simp only [List.getElem?_cons_zero, Option.some.injEq] at hci; subst hci; exact hb
        | 1, hci => simp only [List.getElem?_cons_succ, List.getElem?_cons_zero, Option.some.injEq] at hci; subst hci; omega
        | i + 2, hci => exact h2 (i + 1) c (by omega) (by simpa using hci)
def aXs : Con := ⟨0, 0, 0, 0, 0⟩
theorem aIs {l : List Con} {d : Con} (hd : (aSi l).getD aXs = d) (hl : l ≠ []) : d ∈ l ∧ (∀ c ∈ l, c.depth ≤ d.depth) ∧ ∀ (i : Nat) (c : Con), l[i]? = some c → d ∉ l.take i → c.depth = d.depth → c = d := by
  cases l with
  | nil => exact absurd rfl hl
  | cons b l =>
    have hd' : mY b l = d := hd
    obtain ⟨j, h1, h2⟩ := aAy l b
    have hm := qT l b
    rw [hd'] at h1 h2 hm
    refine ⟨List.mem_of_getElem? h1, fun c hc => ?_, fun i c hi hn he => ?_⟩
    · rcases List.mem_cons.1 hc with rfl | hc
      · exact hm.1
      · exact hm.2 c hc
    · rcases Nat.lt_trichotomy i j with h | h | h
      · have := h2 i c h hi; omega
      · subst h; rw [hi] at h1; injection h1
      · refine absurd (List.mem_of_getElem? (i := j) ?_) hn
        rw [List.getElem?_take, if_pos h]; exact h1
end Go.Bil
namespace Go.Bil
structure ChL (s : Ch) : Prop where
  i : ChI s
  l : s.2.2 = qQ (s.2.1.1 - s.1.1) (s.2.1.2 - s.1.2)
theorem ChL.step {s : Ch} {x y : Pt} (h : ChL s) (hx : PtI x) (hy : PtI y) : ChL (dS s x y) := by
  refine ⟨h.i.step hx hy, ?_⟩
  unfold dS
  split
  · rfl
  · exact h.l
end Go.Bil
namespace Go.Bil
end Go.Bil
namespace Go.Bil
end Go.Bil
namespace Go.Bil
end Go.Bil
namespace Go.Bil
structure BestC (ys : List Con) (i j : Nat) : Prop where
  lt : ys ≠ [] → j < ys.length
  z : i = 0 → j = 0
  ji : i ≠ 0 → j < i
  mx : ∀ (p : Nat) (x b : Con), p < i → ys[p]? = some x → ys[j]? = some b → x.depth ≤ b.depth ∧ (p < j → x.depth < b.depth)
theorem BestC.new {ys : List Con} {i j : Nat} {x b : Con} (h : BestC ys i j) (hx : ys[i]? = some x) (hb : ys[j]? = some b) (hc : x.depth > b.depth) : BestC ys (i + 1) i := by
  have hi := (List.getElem?_eq_some_iff.1 hx).1
  refine ⟨fun _ => hi, fun h => by omega, fun _ => by omega, fun p y c hp hy hcx => ?_⟩
  rw [hx] at hcx
  injection hcx with hcx
  subst hcx
  by_cases hpi : p = i
  · subst hpi
    rw [hx] at hy
    injection hy with hy
    subst hy
    exact ⟨Int.le_refl _, fun h => by omega⟩
  · have := (h.mx p y b (by omega) hy hb).1
    exact ⟨by omega, fun _ => by omega⟩
theorem BestC.old {ys : List Con} {i j : Nat} {x b : Con} (h : BestC ys i j) (hx : ys[i]? = some x) (hb : ys[j]? = some b) (hc : ¬ x.depth > b.depth) : BestC ys (i + 1) j := by
  refine ⟨h.lt, fun h => by omega, fun _ => ?_, fun p y c hp hy hcx => ?_⟩
  · by_cases hi : i = 0
    · have := h.z hi; omega
    · have := h.ji hi; omega
  · rw [hb] at hcx
    injection hcx with hcx
    subst hcx
    by_cases hpi : p = i
    · subst hpi
      rw [hx] at hy
      injection hy with hy
      subst hy
      refine ⟨by omega, fun hpj => ?_⟩
      by_cases hi : p = 0
      · have := h.z hi; omega
      · have := h.ji hi; omega
    · exact h.mx p y b (by omega) hy hb
theorem BestC.done {ys : List Con} {m j : Nat} {d : Con} (h : BestC ys m j) (hn : ys ≠ []) (hl : ys.length = m) (hd : (aSi ys).getD aXs = d) : ∃ x, ys[j]? = some x ∧ d = x := by
  have hj := h.lt hn
  refine ⟨ys[j], List.getElem?_eq_getElem hj, ?_⟩
  have hg := List.getElem?_eq_getElem hj
  obtain ⟨h1, h2, h3⟩ := aIs hd hn
  obtain ⟨p, hp⟩ := List.getElem?_of_mem h1
  have hpl := (List.getElem?_eq_some_iff.1 hp).1
  have e1 := (h.mx p d _ (by omega) hp hg).1
  have e2 := h2 _ (List.getElem_mem hj)
  refine (h3 j _ hg ?_ (by omega)).symm
  intro hm
  obtain ⟨q, hq⟩ := List.getElem?_of_mem hm
  rw [List.getElem?_take] at hq
  split at hq
  · have := (h.mx q d _ (by omega) hq hg).2 (by omega)
    omega
  · cases hq
theorem aQw {xs : List Body} (hs : bK xs) {c : Con} (h : c ∈ fG xs) : ∃ a b, a ∈ xs ∧ b ∈ xs ∧ a.key < b.key ∧ jS a b = some c ∧ c.low = a.key ∧ c.high = b.key := by
  obtain ⟨z, hz, hc⟩ := List.mem_filterMap.1 h
  obtain ⟨a, b, ha, hb, hk, rfl, h1, h2⟩ := mW hs hz
  rw [kC h1 h2] at hc
  have := aJf hk hc
  exact ⟨a, b, ha, hb, hk, hc, this.1, this.2⟩
end Go.Bil

namespace Go.Bil
def aWo (a : Bx) : Prop := a = iA ∨ (a.x0 ≤ a.x1 ∧ a.y0 ≤ a.y1)
structure Meas where
  nb : Int
  ns : Int
  sp : Nat
  sx : Int
  sy : Int
  bx : Bx
  ov : Int
deriving DecidableEq
structure OkM (k : Nat) (m : Meas) : Prop where
  g : aWo m.bx
  x : m.bx = iA ∨ Okx m.bx
  nb : 0 ≤ m.nb ∧ m.nb ≤ k
  ns : 0 ≤ m.ns ∧ m.ns ≤ m.nb
  sp : m.sp < 18446744073709551616
  sx : -(16777216 * (k : Int)) ≤ m.sx ∧ m.sx ≤ 16777216 * k
  sy : -(16777216 * (k : Int)) ≤ m.sy ∧ m.sy ≤ 16777216 * k
  ov : -(2147483648 * ((k : Int) * k)) ≤ m.ov ∧ m.ov ≤ 2147483648 * ((k : Int) * k)
theorem OkM.mono {j k : Nat} {a : Meas} (h : OkM j a) (hjk : j ≤ k) : OkM k a := by
  have n1 := h.nb; have x1 := h.sx; have y1 := h.sy; have o1 := h.ov
  have hsq : (j : Int) * j ≤ (k : Int) * k := Int.mul_le_mul (by omega) (by omega) (by omega) (by omega)
  refine ⟨h.g, h.x, by omega, h.ns, h.sp, by omega, by omega, ?_⟩
  generalize (j : Int) * j = J at *
  generalize (k : Int) * k = K at *
  omega
theorem aQs {xs : List Body} : (fG xs).length ≤ xs.length * xs.length := Nat.le_trans (aCq xs) (xV xs xs.length)
end Go.Bil

namespace Go.Bil
end Go.Bil

namespace Go.Bil
end Go.Bil
namespace Go.Bil
structure RightOne (xs : List Body) (c : Con) : Prop where
  ne : ¬ c.low = c.high
  l : 0 ≤ cD c.low xs
  h : 0 ≤ cD c.high xs
instance (xs : List Body) (c : Con) : Decidable (RightOne xs c) := decidable_of_iff (¬ c.low = c.high ∧ 0 ≤ cD c.low xs ∧ 0 ≤ cD c.high xs) ⟨fun h => ⟨h.1, h.2.1, h.2.2⟩, fun h => ⟨h.1, h.2, h.3⟩⟩
end Go.Bil
namespace Go.Bil
theorem aRh {xs : List Body} {i : Nat} {b : Body} (h : xs[i]? = some b) : xs.getD i default = b := by rw [List.getD_eq_getElem?_getD, h]; rfl
end Go.Bil
namespace Go.Bil
theorem aGk {xs : List Body} {k : Int} (h : 0 ≤ cD k xs) : ∃ (p : Nat) (x : Body), xs[p]? = some x ∧ x.key = k ∧ cD k xs = (p : Int) := (dW k xs).elim (fun e => absurd e.1 (by omega)) id
end Go.Bil

namespace Go.Bil
def gP (n l : Int) : Int := max (-l) (min n l)
theorem eX (n : Int) {l : Int} (h : 0 ≤ l) : -l ≤ gP n l ∧ gP n l ≤ l := by unfold gP; omega
theorem aGr {n l : Int} (h0 : 0 ≤ l) (h : gP n l = n) : -l ≤ n ∧ n ≤ l := by unfold gP at h; omega
theorem aLs {dx dy : Int} (hx : tE dx) (hy : tE dy) : (-65536 ≤ (jE dx dy).1 ∧ (jE dx dy).1 ≤ 65536) ∧ (-65536 ≤ (jE dx dy).2 ∧ (jE dx dy).2 ≤ 65536) := by
  have hl := yU hx hy
  unfold jE
  by_cases h0 : len dx dy = 0
  · rw [if_pos h0]; decide
  · rw [if_neg h0]
    have hs := (pS (qQ dx dy)).2
    have hle : ∀ a : Nat, a * a ≤ qQ dx dy → a ≤ qX (qQ dx dy) := fun a ha => by
      by_cases g : a ≤ qX (qQ dx dy)
      · exact g
      · have := Nat.mul_le_mul (show qX (qQ dx dy) + 1 ≤ a by omega) (show qX (qQ dx dy) + 1 ≤ a by omega); omega
    have h1 := hle dx.natAbs (by unfold qQ; omega)
    have h2 := hle dy.natAbs (by unfold qQ; omega)
    have hp : 0 < len dx dy := by omega
    have key : ∀ d : Int, d.natAbs ≤ qX (qQ dx dy) → -65536 ≤ d * 65536 / len dx dy ∧ d * 65536 / len dx dy ≤ 65536 := fun d hd => by
      have hd' : -(len dx dy) ≤ d ∧ d ≤ len dx dy := by unfold len; omega
      exact ⟨Int.le_ediv_of_mul_le hp (by omega), Int.ediv_le_of_le_mul hp (by omega)⟩
    have k1 := key dx h1
    have k2 := key dy h2
    rw [iY _ (by omega) (by omega), iY _ (by omega) (by omega)]
    exact ⟨k1, k2⟩
structure Okn (c : Con) : Prop where
  x : -65536 ≤ c.nx ∧ c.nx ≤ 65536
  y : -65536 ≤ c.ny ∧ c.ny ≤ 65536
  d : -2147483648 ≤ c.depth ∧ c.depth ≤ 2147483647
theorem aFa {a b : Body} {c : Con} (ha : Okb a) (hb : Okb b) (h : iI a b = some c) : Okn c := by
  have hw : ∀ x : Int, -2147483648 ≤ IntKind.wrap .i32 x ∧ IntKind.wrap .i32 x ≤ 2147483647 := fun x => by
    simp only [IntKind.wrap, IntKind.bits, IntKind.signed, Bool.true_and, decide_eq_true_eq, ge_iff_le]; split <;> omega
  have hd := aSa ha hb
  have hu := aLs hd.1 hd.2
  unfold iI at h
  split at h
  · cases h
  · injection h with h
    revert hu h
    generalize jE (pL (oH a b)) (pW (oH a b)) = u
    generalize a.radius + b.radius - len (pL (oH a b)) (pW (oH a b)) = q
    intro hu h
    subst h
    exact Okn.mk hu.1 hu.2 (hw q)
structure OkC (xs : List Body) (c : Con) : Prop where
  ne : c.low < c.high
  l : 0 ≤ cD c.low xs
  h : 0 ≤ cD c.high xs
  n : Okn c
theorem aBq {xs : List Body} {b : Body} (hb : b ∈ xs) : 0 ≤ cD b.key xs := by
  rcases dW b.key xs with ⟨_, g⟩ | ⟨i, y, _, _, g⟩
  · exact absurd rfl (g b hb)
  · omega
theorem uO {xs : List Body} (hs : bK xs) (hb : ∀ b ∈ xs, Okb b) : ∀ c ∈ fG xs, OkC xs c := fun c hc => by
  obtain ⟨a, b, ha, hb', hk, h, e1, e2⟩ := aQw hs hc
  have h' := h
  unfold jS at h'
  rw [if_neg (by omega)] at h'
  exact ⟨by omega, by rw [e1]; exact aBq ha, by rw [e2]; exact aBq hb', aFa (hb a ha) (hb b hb') h'⟩
def rD (c : Con) (a b : Body) : Int := ((b.vx - a.vx) * c.nx + (b.vy - a.vy) * c.ny) / 65536
def jY (c : Con) (a b : Body) : Int := if 0 ≤ rD c a b ∨ a.mass + b.mass = 0 then 0 else -rD c a b * (65536 + max a.bounce b.bounce) / (a.mass + b.mass)
def nL (j m n : Int) : Int := j * m / 65536 * n / 65536
theorem zP {c : Con} {a b : Body} (hc : Okn c) (ha : Okb a) (hb : Okb b) : (-2199023255552 ≤ (b.vx - a.vx) * c.nx ∧ (b.vx - a.vx) * c.nx ≤ 2199023255552) ∧ (-2199023255552 ≤ (b.vy - a.vy) * c.ny ∧ (b.vy - a.vy) * c.ny ≤ 2199023255552) ∧ -67108864 ≤ rD c a b ∧ rD c a b ≤ 67108864 := by
  have h1 := ha.v; have h2 := hb.v; have h3 := hc.x; have h4 := hc.y
  have m1 := vO (a := b.vx - a.vx) (b := c.nx) (A := 33554432) (B := 65536) (by omega) (by omega)
  have m2 := vO (a := b.vy - a.vy) (b := c.ny) (A := 33554432) (B := 65536) (by omega) (by omega)
  unfold rD
  omega
theorem aBk {c : Con} {a b : Body} (hc : Okn c) (ha : Okb a) (hb : Okb b) (h : ¬ (0 ≤ rD c a b)) : 0 ≤ -rD c a b * (65536 + max a.bounce b.bounce) ∧ -rD c a b * (65536 + max a.bounce b.bounce) ≤ 8796093022208 := by
  have h1 := zP hc ha hb
  have h2 := ha.c; have h3 := hb.c
  have m := vO (a := -rD c a b) (b := 65536 + max a.bounce b.bounce) (A := 67108864) (B := 131072) (by omega) (by omega)
  have n := Int.mul_nonneg (a := -rD c a b) (b := 65536 + max a.bounce b.bounce) (by omega) (by omega)
  omega
theorem aDc {x s m : Int} (hx : 0 ≤ x) (hs : 0 < s) (hm : 0 ≤ m ∧ m ≤ s) : 0 ≤ x / s ∧ x / s ≤ x ∧ 0 ≤ x / s * m ∧ x / s * m ≤ x := by
  have h0 : 0 ≤ x / s := Int.ediv_nonneg hx (by omega)
  have h1 : x / s * s ≤ x := Int.ediv_mul_le x (by omega)
  have h2 : x / s * m ≤ x / s * s := Int.mul_le_mul_of_nonneg_left hm.2 h0
  have h3 : x / s * 1 ≤ x / s * s := Int.mul_le_mul_of_nonneg_left (by omega) h0
  have h4 : 0 ≤ x / s * m := Int.mul_nonneg h0 hm.1
  omega
theorem tG {c : Con} {a b : Body} (hc : Okn c) (ha : Okb a) (hb : Okb b) {m : Int} (hm : 0 ≤ m ∧ m ≤ a.mass + b.mass) : 0 ≤ jY c a b ∧ jY c a b ≤ 8796093022208 ∧ 0 ≤ jY c a b * m ∧ jY c a b * m ≤ 8796093022208 := by
  have h2 := ha.m; have h3 := hb.m
  unfold jY
  split
  · simp
  · rename_i h
    have hp := aBk hc ha hb (fun g => h (.inl g))
    have hd := aDc hp.1 (s := a.mass + b.mass) (by omega) hm
    omega
theorem kO {j m n : Int} (h : 0 ≤ j * m ∧ j * m ≤ 8796093022208) (hn : -65536 ≤ n ∧ n ≤ 65536) : (0 ≤ j * m / 65536 ∧ j * m / 65536 ≤ 134217728) ∧ (-8796093022208 ≤ j * m / 65536 * n ∧ j * m / 65536 * n ≤ 8796093022208) ∧ -134217728 ≤ nL j m n ∧ nL j m n ≤ 134217728 := by
  have hk : 0 ≤ j * m / 65536 ∧ j * m / 65536 ≤ 134217728 := by omega
  have m1 := vO (a := j * m / 65536) (b := n) (A := 134217728) (B := 65536) (by omega) (by omega)
  unfold nL
  generalize j * m / 65536 = k at *
  omega
def mP (xs : List Body) (k : Int) : Body := xs.getD (cD k xs).toNat default
theorem aLa {xs : List Body} {k : Int} {p : Nat} {x : Body} (hx : xs[p]? = some x) (hp : cD k xs = (p : Int)) : mP xs k = x := by
  unfold mP
  rw [hp, Int.toNat_natCast, aRh hx]
theorem tA {xs : List Body} {k : Int} (h : 0 ≤ cD k xs) : mP xs k ∈ xs ∧ (mP xs k).key = k := by
  obtain ⟨p, x, hx, hk, hf⟩ := aGk h
  rw [aLa hx hf]
  exact ⟨List.mem_of_getElem? hx, hk⟩
def jV (xs : List Body) (c : Con) : Int := jY c (mP xs c.low) (mP xs c.high)
def ctr (xs : List Body) (g : Con → Int) (c : Con) (b : Body) : Int := if c.low = b.key then -nL (jV xs c) b.mass (g c) else if c.high = b.key then nL (jV xs c) b.mass (g c) else 0
def eH (xs : List Body) (cs : List Con) (g : Con → Int) (b : Body) : Int := (cs.map (fun c => ctr xs g c b)).sum
theorem aJt {xs : List Body} {cs : List Con} {k : Nat} {c : Con} (h : cs[k]? = some c) (g : Con → Int) (b : Body) : eH xs (cs.take (k + 1)) g b = eH xs (cs.take k) g b + ctr xs g c b := by
  unfold eH
  rw [cI h, List.map_append, List.sum_append]
  simp
theorem aHq (xs : List Body) (cs : List Con) (g : Con → Int) (b : Body) : eH xs (cs.take 0) g b = 0 := by simp [eH]
theorem aPs {xs : List Body} {c : Con} {g : Con → Int} {b : Body} (hs : bK xs) (hx : ∀ b ∈ xs, Okb b) (hc : OkC xs c) (hg : -65536 ≤ g c ∧ g c ≤ 65536) (hb : b ∈ xs) : -134217728 ≤ ctr xs g c b ∧ ctr xs g c b ≤ 134217728 := by
  obtain ⟨l1, l2⟩ := tA hc.l
  obtain ⟨h1, h2⟩ := tA hc.h
  have ma := (hx _ l1).m; have mb := (hx _ h1).m
  unfold ctr
  split
  · rename_i e
    have : mP xs c.low = b := jT hs l1 hb (by rw [l2, e])
    have hr := tG hc.n (hx _ l1) (hx _ h1) (m := b.mass) (by rw [← this]; omega)
    have := (kO hr.2.2 hg).2.2
    unfold jV
    omega
  · split
    · rename_i e
      have : mP xs c.high = b := jT hs h1 hb (by rw [h2, e])
      have hr := tG hc.n (hx _ l1) (hx _ h1) (m := b.mass) (by rw [← this]; omega)
      have := (kO hr.2.2 hg).2.2
      unfold jV
      omega
    · omega
theorem aGj {cs : List Con} {f : Con → Int} {B : Int} (hB : 0 ≤ B) (h : ∀ c ∈ cs, -B ≤ f c ∧ f c ≤ B) : -(cs.length * B) ≤ (cs.map f).sum ∧ (cs.map f).sum ≤ cs.length * B := by
  induction cs with
  | nil => simp
  | cons c cs ih =>
    have h0 := h c (by simp)
    have h1 := ih (fun d hd => h d (by simp [hd]))
    rw [List.map_cons, List.sum_cons, List.length_cons, Int.natCast_add, Int.add_mul]
    omega
theorem qE {xs : List Body} {cs : List Con} {g : Con → Int} {b : Body} (hs : bK xs) (hx : ∀ b ∈ xs, Okb b) (hc : ∀ c ∈ cs, OkC xs c) (hg : ∀ c ∈ cs, -65536 ≤ g c ∧ g c ≤ 65536) (hb : b ∈ xs) : -(cs.length * 134217728) ≤ eH xs cs g b ∧ eH xs cs g b ≤ cs.length * 134217728 :=
  aGj (by decide) (fun c h => aPs hs hx (hc c h) (hg c h) hb)
def zL (xs : List Body) (cs : List Con) (b : Body) : Body := { b with vx := gP (b.vx + eH xs cs (·.nx) b) 16777216, vy := gP (b.vy + eH xs cs (·.ny) b) 16777216 }
def aRl (xs : List Body) (cs : List Con) (b : Body) : Bool := decide (gP (b.vx + eH xs cs (·.nx) b) 16777216 ≠ b.vx + eH xs cs (·.nx) b) || decide (gP (b.vy + eH xs cs (·.ny) b) 16777216 ≠ b.vy + eH xs cs (·.ny) b)
def nF (xs : List Body) (cs : List Con) : List Body := xs.map (zL xs cs)
def aKv (xs : List Body) (cs : List Con) : Bool := xs.any (aRl xs cs)
def eV (xs : List Body) (cs : List Con) : Nat → List Body × Bool
  | 0 => (xs, false)
  | k + 1 => (nF (eV xs cs k).1 cs, (eV xs cs k).2 || aKv (eV xs cs k).1 cs)
structure SameB (a b : Body) : Prop where
  key : a.key = b.key
  radius : a.radius = b.radius
  ax : a.ax = b.ax
  ay : a.ay = b.ay
  mass : a.mass = b.mass
  bounce : a.bounce = b.bounce
structure Like (xs ys : List Body) : Prop where
  len : ys.length = xs.length
  at_ : ∀ (i : Nat) (x y : Body), xs[i]? = some x → ys[i]? = some y → SameB y x
theorem Like.refl (xs : List Body) : Like xs xs := ⟨rfl, fun i x y h1 h2 => by rw [h1] at h2; injection h2 with h2; subst h2; exact ⟨rfl, rfl, rfl, rfl, rfl, rfl⟩⟩
theorem Like.trans {xs ys zs : List Body} (h : Like xs ys) (g : Like ys zs) : Like xs zs := ⟨by rw [g.len, h.len], fun i x z hx hz => by
  have hi := (List.getElem?_eq_some_iff.1 hx).1
  have hy : ys[i]? = some (ys[i]'(by rw [h.len]; exact hi)) := List.getElem?_eq_getElem _
  have a := h.at_ i x _ hx hy
  have b := g.at_ i _ z hy hz
  exact ⟨b.key.trans a.key, b.radius.trans a.radius, b.ax.trans a.ax, b.ay.trans a.ay, b.mass.trans a.mass, b.bounce.trans a.bounce⟩⟩
theorem Like.map {xs : List Body} {f : Body → Body} (h : ∀ b ∈ xs, SameB (f b) b) : Like xs (xs.map f) := ⟨by simp, fun i x y hx hy => by
  rw [List.getElem?_map, hx] at hy
  injection hy with hy
  subst hy
  exact h x (List.mem_of_getElem? hx)⟩
theorem Like.keys {xs ys : List Body} (h : Like xs ys) : ys.map (·.key) = xs.map (·.key) := by
  apply List.ext_getElem?
  intro i
  rw [List.getElem?_map, List.getElem?_map]
  by_cases hi : i < xs.length
  · have h1 : xs[i]? = some xs[i] := List.getElem?_eq_getElem hi
    have h2 : ys[i]? = some (ys[i]'(by rw [h.len]; exact hi)) := List.getElem?_eq_getElem _
    rw [h1, h2]
    exact congrArg some (h.at_ i _ _ h1 h2).key
  · have hl := h.len
    rw [List.getElem?_eq_none (show ys.length ≤ i by omega), List.getElem?_eq_none (show xs.length ≤ i by omega)]
theorem Like.sorted {xs ys : List Body} (h : Like xs ys) (hs : bK xs) : bK ys := by
  have := h.keys
  unfold bK at *
  have h1 : (xs.map (·.key)).Pairwise (· < ·) := List.pairwise_map.2 hs
  rw [← this] at h1
  exact List.pairwise_map.1 h1
theorem Like.find {xs ys : List Body} (h : Like xs ys) (k : Int) : cD k ys = cD k xs := jH k h.keys
theorem Like.okc {xs ys : List Body} (h : Like xs ys) {c : Con} (hc : OkC xs c) : OkC ys c := ⟨hc.ne, by rw [h.find]; exact hc.l, by rw [h.find]; exact hc.h, hc.n⟩
theorem aOn (xs : List Body) (cs : List Con) : Like xs (nF xs cs) := Like.map (fun b _ => ⟨rfl, rfl, rfl, rfl, rfl, rfl⟩)
theorem aVz {xs : List Body} {cs : List Con} (h : ∀ b ∈ xs, Okb b) : ∀ b ∈ nF xs cs, Okb b := fun b hb => by
  obtain ⟨x, hx, rfl⟩ := List.mem_map.1 hb
  have := h x hx
  exact ⟨this.r, this.a, this.m, this.c, this.p, ⟨(eX _ (by decide)).1, (eX _ (by decide)).2, (eX _ (by decide)).1, (eX _ (by decide)).2⟩⟩
theorem iJ (xs : List Body) (cs : List Con) : ∀ k, Like xs (eV xs cs k).1
  | 0 => Like.refl xs
  | k + 1 => (iJ xs cs k).trans (aOn _ cs)
theorem pM {xs : List Body} {cs : List Con} (h : ∀ b ∈ xs, Okb b) : ∀ k, ∀ b ∈ (eV xs cs k).1, Okb b
  | 0 => h
  | k + 1 => aVz (pM h k)
def gS (b : Body) : Body := if b.mass = 0 then b else { b with vy := gP (b.vy - 1024) 16777216 }
def nI (b : Body) : Bool := decide (b.mass ≠ 0) && decide (gP (b.vy - 1024) 16777216 ≠ b.vy - 1024)
def lD (xs : List Body) : List Body := xs.map gS
theorem aKa (b : Body) : SameB (gS b) b := by unfold gS; split <;> exact ⟨rfl, rfl, rfl, rfl, rfl, rfl⟩
theorem lF (xs : List Body) : Like xs (lD xs) := Like.map (fun b _ => aKa b)
theorem aAf {b : Body} (h : Okb b) : Okb (gS b) := by
  unfold gS
  split
  · exact h
  · exact ⟨h.r, h.a, h.m, h.c, h.p, ⟨h.v.1, h.v.2.1, (eX _ (by decide)).1, (eX _ (by decide)).2⟩⟩
theorem yM {xs : List Body} (h : ∀ b ∈ xs, Okb b) : ∀ b ∈ lD xs, Okb b := fun b hb => by
  obtain ⟨x, hx, rfl⟩ := List.mem_map.1 hb
  exact aAf (h x hx)
def nE (c : Con) (a b : Body) : Int := if c.depth - 1024 ≤ 0 ∨ (a.mass = 0 ∧ b.mass = 0) then 0 else (c.depth - 1024) * 26214 / 65536
def lR (c : Con) (a b : Body) (m : Int) : Int := nE c a b * m / max 1 (a.mass + b.mass)
theorem zS {c : Con} {a b : Body} (hc : Okn c) : 0 ≤ nE c a b ∧ nE c a b ≤ 1073741824 := by
  have := hc.d
  unfold nE
  split <;> omega
theorem aQc {c : Con} {a b : Body} {m : Int} (hc : Okn c) (hm : 0 ≤ m ∧ m ≤ 1048576) : (0 ≤ nE c a b * m ∧ nE c a b * m ≤ 1125899906842624) ∧ 0 ≤ lR c a b m ∧ lR c a b m ≤ 1125899906842624 := by
  have h := zS (a := a) (b := b) hc
  have m1 := vO (a := nE c a b) (b := m) (A := 1073741824) (B := 1048576) (by omega) (by omega)
  have h0 := Int.mul_nonneg h.1 hm.1
  have hd := aDc h0 (s := max 1 (a.mass + b.mass)) (by omega) (m := 0) (by omega)
  unfold lR
  omega
theorem zC {c : Con} {a b : Body} {m : Int} (hc : Okn c) (hm : 0 ≤ m ∧ m ≤ a.mass + b.mass) : 0 ≤ lR c a b m ∧ lR c a b m ≤ 1073741824 := by
  have h := zS (a := a) (b := b) hc
  have hs : m ≤ max 1 (a.mass + b.mass) := by omega
  have h1 : nE c a b * m ≤ nE c a b * max 1 (a.mass + b.mass) := Int.mul_le_mul_of_nonneg_left hs h.1
  have h2 : lR c a b m ≤ nE c a b := Int.ediv_le_of_le_mul (by omega) h1
  have h3 : 0 ≤ lR c a b m := Int.ediv_nonneg (Int.mul_nonneg h.1 hm.1) (by omega)
  omega
def sP (xs : List Body) (g : Con → Int) (c : Con) (b : Body) : Int := if c.low = b.key then -(lR c (mP xs c.low) (mP xs c.high) b.mass * g c / 65536) else if c.high = b.key then lR c (mP xs c.low) (mP xs c.high) b.mass * g c / 65536 else 0
def gK (xs : List Body) (cs : List Con) (g : Con → Int) (b : Body) : Int := (cs.map (fun c => sP xs g c b)).sum
theorem xY {xs : List Body} {cs : List Con} {k : Nat} {c : Con} (h : cs[k]? = some c) (g : Con → Int) (b : Body) : gK xs (cs.take (k + 1)) g b = gK xs (cs.take k) g b + sP xs g c b := by
  unfold gK
  rw [cI h, List.map_append, List.sum_append]
  simp
theorem xJ (xs : List Body) (cs : List Con) (g : Con → Int) (b : Body) : gK xs (cs.take 0) g b = 0 := by simp [gK]
theorem nM {s n : Int} (hs : 0 ≤ s ∧ s ≤ 1073741824) (hn : -65536 ≤ n ∧ n ≤ 65536) : (-70368744177664 ≤ s * n ∧ s * n ≤ 70368744177664) ∧ -1073741824 ≤ s * n / 65536 ∧ s * n / 65536 ≤ 1073741824 := by
  have m1 := vO (a := s) (b := n) (A := 1073741824) (B := 65536) (by omega) (by omega)
  omega
theorem aOf {xs : List Body} {c : Con} {g : Con → Int} {b : Body} (hs : bK xs) (hx : ∀ b ∈ xs, Okb b) (hc : OkC xs c) (hg : -65536 ≤ g c ∧ g c ≤ 65536) (hb : b ∈ xs) : -1073741824 ≤ sP xs g c b ∧ sP xs g c b ≤ 1073741824 := by
  obtain ⟨l1, l2⟩ := tA hc.l
  obtain ⟨h1, h2⟩ := tA hc.h
  have ma := (hx _ l1).m; have mb := (hx _ h1).m
  unfold sP
  split
  · rename_i e
    have : mP xs c.low = b := jT hs l1 hb (by rw [l2, e])
    have hr := zC (c := c) (a := mP xs c.low) (b := mP xs c.high) (m := b.mass) hc.n (by rw [← this]; omega)
    have := (nM hr hg).2
    omega
  · split
    · rename_i e
      have : mP xs c.high = b := jT hs h1 hb (by rw [h2, e])
      have hr := zC (c := c) (a := mP xs c.low) (b := mP xs c.high) (m := b.mass) hc.n (by rw [← this]; omega)
      have := (nM hr hg).2
      omega
    · omega
theorem aAs {xs : List Body} {cs : List Con} {g : Con → Int} {b : Body} (hs : bK xs) (hx : ∀ b ∈ xs, Okb b) (hc : ∀ c ∈ cs, OkC xs c) (hg : ∀ c ∈ cs, -65536 ≤ g c ∧ g c ≤ 65536) (hb : b ∈ xs) : -(cs.length * 1073741824) ≤ gK xs cs g b ∧ gK xs cs g b ≤ cs.length * 1073741824 :=
  aGj (by decide) (fun c h => aOf hs hx (hc c h) (hg c h) hb)
def rL (b : Body) (s : Int) : Int := b.px + s + b.vx / 64
def qV (b : Body) (s : Int) : Int := b.py + s + b.vy / 64
def kA (b : Body) (sx sy : Int) : Body := { b with px := gP (rL b sx) 1073741824, py := gP (qV b sy) 1073741824 }
def aBe (b : Body) (sx sy : Int) : Bool := decide (gP (rL b sx) 1073741824 ≠ rL b sx) || decide (gP (qV b sy) 1073741824 ≠ qV b sy)
def xK (xs : List Body) (cs : List Con) (ys : List Body) : List Body := ys.map (fun b => kA b (gK xs cs (·.nx) b) (gK xs cs (·.ny) b))
def aGy (xs : List Body) (cs : List Con) (ys : List Body) : Bool := ys.any (fun b => aBe b (gK xs cs (·.nx) b) (gK xs cs (·.ny) b))
theorem aLh (b : Body) (sx sy : Int) : SameB (kA b sx sy) b := ⟨rfl, rfl, rfl, rfl, rfl, rfl⟩
theorem aJv (xs : List Body) (cs : List Con) (ys : List Body) : Like ys (xK xs cs ys) := Like.map (fun b _ => aLh b _ _)
theorem aOx {b : Body} (h : Okb b) (sx sy : Int) : Okb (kA b sx sy) := ⟨h.r, h.a, h.m, h.c, ⟨(eX _ (by decide)).1, (eX _ (by decide)).2, (eX _ (by decide)).1, (eX _ (by decide)).2⟩, h.v⟩
theorem aQr {xs : List Body} {cs : List Con} {ys : List Body} (h : ∀ b ∈ ys, Okb b) : ∀ b ∈ xK xs cs ys, Okb b := fun b hb => by
  obtain ⟨x, hx, rfl⟩ := List.mem_map.1 hb
  exact aOx (h x hx) _ _
def gH (xs : List Body) : List Body := (eV (lD xs) (fG xs) 4).1
def iR (xs : List Body) : List Body := xK xs (fG xs) (gH xs)
def mS (xs : List Body) : Bool := (xs.any nI || (eV (lD xs) (fG xs) 4).2) || aGy xs (fG xs) (gH xs)
def aCe (b : Body) : Body := kA (gS b) 0 0
theorem qL (xs : List Body) : Like xs (iR xs) := (lF xs).trans ((iJ _ _ 4).trans (aJv _ _ _))
theorem aGb {xs : List Body} (h : ∀ b ∈ xs, Okb b) : ∀ b ∈ iR xs, Okb b := aQr (pM (yM h) 4)
end Go.Bil

namespace Go.Bil
theorem aXk {dx dy : Int} (xs : List Body) (c : Con) : jV (xs.map (eQ dx dy)) c = jV xs c := by
  have hf : ∀ k, cD k (xs.map (eQ dx dy)) = cD k xs := fun k => jH k (by rw [List.map_map]; rfl)
  have hb : ∀ k, ∃ a, (mP (xs.map (eQ dx dy)) k = eQ dx dy a ∧ mP xs k = a) ∨ (mP (xs.map (eQ dx dy)) k = a ∧ mP xs k = a) := fun k => by
    unfold mP
    rw [hf k, List.getD_eq_getElem?_getD, List.getD_eq_getElem?_getD, List.getElem?_map]
    cases xs[(cD k xs).toNat]? with
    | none => exact ⟨default, .inr ⟨rfl, rfl⟩⟩
    | some a => exact ⟨a, .inl ⟨rfl, rfl⟩⟩
  unfold jV
  obtain ⟨a, ha⟩ := hb c.low
  obtain ⟨b, hb⟩ := hb c.high
  rcases ha with ⟨h1, h2⟩ | ⟨h1, h2⟩ <;> rcases hb with ⟨h3, h4⟩ | ⟨h3, h4⟩ <;> rw [h1, h2, h3, h4] <;> rfl
theorem aVq {dx dy : Int} (xs : List Body) (c : Con) (m : Int) : lR c (mP (xs.map (eQ dx dy)) c.low) (mP (xs.map (eQ dx dy)) c.high) m = lR c (mP xs c.low) (mP xs c.high) m := by
  have hf : ∀ k, cD k (xs.map (eQ dx dy)) = cD k xs := fun k => jH k (by rw [List.map_map]; rfl)
  have hb : ∀ k, ∃ a, (mP (xs.map (eQ dx dy)) k = eQ dx dy a ∧ mP xs k = a) ∨ (mP (xs.map (eQ dx dy)) k = a ∧ mP xs k = a) := fun k => by
    unfold mP
    rw [hf k, List.getD_eq_getElem?_getD, List.getD_eq_getElem?_getD, List.getElem?_map]
    cases xs[(cD k xs).toNat]? with
    | none => exact ⟨default, .inr ⟨rfl, rfl⟩⟩
    | some a => exact ⟨a, .inl ⟨rfl, rfl⟩⟩
  obtain ⟨a, ha⟩ := hb c.low
  obtain ⟨b, hb⟩ := hb c.high
  rcases ha with ⟨h1, h2⟩ | ⟨h1, h2⟩ <;> rcases hb with ⟨h3, h4⟩ | ⟨h3, h4⟩ <;> rw [h1, h2, h3, h4] <;> rfl
theorem aPv {dx dy : Int} (xs : List Body) (cs : List Con) (g : Con → Int) (b : Body) : eH (xs.map (eQ dx dy)) cs g (eQ dx dy b) = eH xs cs g b := by
  unfold eH
  refine congrArg List.sum (List.map_congr_left (fun c _ => ?_))
  unfold ctr
  rw [aXk]
  rfl
theorem yS {dx dy : Int} (xs : List Body) (cs : List Con) (g : Con → Int) (b : Body) : gK (xs.map (eQ dx dy)) cs g (eQ dx dy b) = gK xs cs g b := by
  unfold gK
  refine congrArg List.sum (List.map_congr_left (fun c _ => ?_))
  unfold sP
  rw [aVq]
  rfl
theorem aUl {dx dy : Int} (xs : List Body) (cs : List Con) : nF (xs.map (eQ dx dy)) cs = (nF xs cs).map (eQ dx dy) := by
  unfold nF
  rw [List.map_map, List.map_map]
  refine List.map_congr_left (fun b _ => ?_)
  simp only [Function.comp_apply, zL, aPv]
  rfl
theorem aCj {dx dy : Int} (xs : List Body) (cs : List Con) : ∀ k, (eV (xs.map (eQ dx dy)) cs k).1 = (eV xs cs k).1.map (eQ dx dy)
  | 0 => rfl
  | k + 1 => by
    show nF (eV (xs.map (eQ dx dy)) cs k).1 cs = _
    rw [aCj xs cs k, aUl]
    rfl
theorem aPn {dx dy : Int} (xs : List Body) : lD (xs.map (eQ dx dy)) = (lD xs).map (eQ dx dy) := by
  unfold lD
  rw [List.map_map, List.map_map]
  refine List.map_congr_left (fun b _ => ?_)
  show gS (eQ dx dy b) = eQ dx dy (gS b)
  unfold gS
  by_cases h : b.mass = 0
  · rw [if_pos h, if_pos (show (eQ dx dy b).mass = 0 from h)]
  · rw [if_neg h, if_neg (show ¬ (eQ dx dy b).mass = 0 from h)]; rfl
theorem uL {b : Body} {sx sy : Int} (h : aBe b sx sy = false) : gP (rL b sx) 1073741824 = rL b sx ∧ gP (qV b sy) 1073741824 = qV b sy := by
  unfold aBe at h
  rw [Bool.or_eq_false_iff, decide_eq_false_iff_not, decide_eq_false_iff_not, Decidable.not_not, Decidable.not_not] at h
  exact h
theorem xT {α : Type} {l : List α} {p : α → Bool} (h : l.any p = false) {x : α} (hx : x ∈ l) : p x = false := by
  have := List.any_eq_false.1 h x hx
  simpa using this
theorem aPi {dx dy : Int} {xs : List Body} (hs : bK xs) (h : ∀ b ∈ xs, Okb b) (g : ∀ b ∈ xs, Okb (eQ dx dy b)) (c1 : mS xs = false) (c2 : mS (xs.map (eQ dx dy)) = false) :
    iR (xs.map (eQ dx dy)) = (iR xs).map (eQ dx dy) ∧ ∀ b ∈ iR xs, (-1073741824 ≤ b.px + dx ∧ b.px + dx ≤ 1073741824) ∧ -1073741824 ≤ b.py + dy ∧ b.py + dy ≤ 1073741824 := by
  have hc := aGa hs h g
  have hsol : gH (xs.map (eQ dx dy)) = (gH xs).map (eQ dx dy) := by unfold gH; rw [hc, aPn, aCj]
  unfold mS at c1 c2
  rw [Bool.or_eq_false_iff] at c1 c2
  have p1 := c1.2
  have p2 := c2.2
  unfold aGy at p1 p2
  have key : ∀ b ∈ gH xs, kA (eQ dx dy b) (gK xs (fG xs) (·.nx) b) (gK xs (fG xs) (·.ny) b) = eQ dx dy (kA b (gK xs (fG xs) (·.nx) b) (gK xs (fG xs) (·.ny) b)) ∧
      ((-1073741824 ≤ (kA b (gK xs (fG xs) (·.nx) b) (gK xs (fG xs) (·.ny) b)).px + dx ∧ (kA b (gK xs (fG xs) (·.nx) b) (gK xs (fG xs) (·.ny) b)).px + dx ≤ 1073741824) ∧ -1073741824 ≤ (kA b (gK xs (fG xs) (·.nx) b) (gK xs (fG xs) (·.ny) b)).py + dy ∧ (kA b (gK xs (fG xs) (·.nx) b) (gK xs (fG xs) (·.ny) b)).py + dy ≤ 1073741824) := fun b hb => by
    have q1 := uL (xT p1 hb)
    have q2 := uL (xT p2 (x := eQ dx dy b) (by rw [hsol]; exact List.mem_map_of_mem hb))
    rw [hc, yS, yS] at q2
    generalize gK xs (fG xs) (·.nx) b = sx at *
    generalize gK xs (fG xs) (·.ny) b = sy at *
    have e1 : rL (eQ dx dy b) sx = rL b sx + dx := by unfold rL eQ; simp only; omega
    have e2 : qV (eQ dx dy b) sy = qV b sy + dy := by unfold qV eQ; simp only; omega
    have r1 := aGr (by decide) q2.1
    have r2 := aGr (by decide) q2.2
    have x1 : (kA b sx sy).px = rL b sx := q1.1
    have x2 : (kA b sx sy).py = qV b sy := q1.2
    refine ⟨?_, by rw [x1, ← e1]; exact r1, by rw [x2, ← e2]; exact r2⟩
    unfold kA
    rw [q2.1, q2.2, q1.1, q1.2, e1, e2]
    rfl
  refine ⟨?_, fun b hb => ?_⟩
  · unfold iR xK
    rw [hsol, hc, List.map_map, List.map_map]
    refine List.map_congr_left (fun b hb => ?_)
    simp only [Function.comp_apply, yS]
    exact (key b hb).1
  · unfold iR xK at hb
    obtain ⟨x, hx, rfl⟩ := List.mem_map.1 hb
    exact (key x hx).2
structure Apart (xs : List Body) (cs : List Con) (k : Nat) (q : Int) : Prop where
  s : bK xs
  f : ∀ c ∈ cs, (c.low ≠ q ∧ 0 ≤ cD c.low xs) ∧ c.high ≠ q ∧ 0 ≤ cD c.high xs
  at_ : ∃ y, xs[k]? = some y ∧ y.key = q
theorem Apart.like {xs ys : List Body} {cs : List Con} {k : Nat} {q : Int} (h : Apart xs cs k q) (l : Like xs ys) : Apart ys cs k q := by
  refine ⟨l.sorted h.s, fun c hc => ?_, ?_⟩
  · rw [l.find, l.find]; exact h.f c hc
  · obtain ⟨y, hy, e⟩ := h.at_
    have hk := (List.getElem?_eq_some_iff.1 hy).1
    have h2 : ys[k]? = some (ys[k]'(by rw [l.len]; exact hk)) := List.getElem?_eq_getElem _
    exact ⟨_, h2, by rw [(l.at_ k _ _ hy h2).key, e]⟩
def gZ (xs : List Body) : Nat → List Body
  | 0 => xs
  | k + 1 => iR (gZ xs k)
def oV (xs : List Body) : Nat → Nat
  | 0 => 0
  | k + 1 => oV xs k + (fG (gZ xs k)).length
def uA (xs : List Body) : Nat → Bool
  | 0 => false
  | k + 1 => uA xs k || mS (gZ xs k)
theorem oW (xs : List Body) : ∀ k, Like xs (gZ xs k)
  | 0 => Like.refl xs
  | k + 1 => (oW xs k).trans (qL _)
theorem aAn {xs : List Body} (h : ∀ b ∈ xs, Okb b) : ∀ k, ∀ b ∈ gZ xs k, Okb b
  | 0 => h
  | k + 1 => aGb (aAn h k)
theorem zE {xs : List Body} (hs : bK xs) (k : Nat) : bK (gZ xs k) := (oW xs k).sorted hs
end Go.Bil

namespace Go.Bil
theorem nS {xs : List Body} {k : Int} (hs : bK xs) (h : 0 ≤ cD k xs) : ∃ (p : Nat) (x : Body), xs[p]? = some x ∧ x.key = k ∧ sB k xs = p ∧ mP xs k = x ∧ x ∈ xs := by
  obtain ⟨p, x, hp, hk, hf⟩ := aGk h
  subst hk
  exact ⟨p, x, hp, rfl, pN (by have := (List.getElem?_eq_some_iff.1 hp).1; omega) (fun j c hj hc => dB hs hj hc hp) (fun j c hj hc => by have := sJ hs hj hp hc; omega), aLa hp hf, List.mem_of_getElem? hp⟩
theorem aAp {α : Type} {xs : List Body} (hs : bK xs) {pa pb : Nat} {xa xb : Body} (ha : xs[pa]? = some xa) (hb : xs[pb]? = some xb) (hne : xa.key < xb.key) {F G : Body → α} (h : ∀ b ∈ xs, b.key ≠ xa.key → b.key ≠ xb.key → G b = F b) : ((xs.map F).set pa (G xa)).set pb (G xb) = xs.map G := by
  apply List.ext_getElem?
  intro i
  have la := (List.getElem?_eq_some_iff.1 ha).1
  have lb := (List.getElem?_eq_some_iff.1 hb).1
  by_cases h1 : pb = i
  · subst h1
    rw [List.getElem?_set_self (by simpa using lb), List.getElem?_map, hb]; rfl
  · rw [List.getElem?_set_ne h1]
    by_cases h2 : pa = i
    · subst h2
      rw [List.getElem?_set_self (by simpa using la), List.getElem?_map, ha]; rfl
    · rw [List.getElem?_set_ne h2, List.getElem?_map, List.getElem?_map]
      cases hi : xs[i]? with
      | none => rfl
      | some b =>
        have e1 : b.key ≠ xa.key := by
          rcases Nat.lt_or_gt_of_ne h2 with g | g
          · have := dB hs g ha hi; omega
          · have := dB hs g hi ha; omega
        have e2 : b.key ≠ xb.key := by
          rcases Nat.lt_or_gt_of_ne h1 with g | g
          · have := dB hs g hb hi; omega
          · have := dB hs g hi hb; omega
        exact congrArg some (h b (List.mem_of_getElem? hi) e1 e2).symm
def yE (xs : List Body) (g : Con → Int) (c : Con) (F : Body → Int) (b : Body) : Int := F b + ctr xs g c b
theorem aHc {xs : List Body} (hs : bK xs) {pa pb : Nat} {xa xb : Body} {c : Con} (ha : xs[pa]? = some xa) (hb : xs[pb]? = some xb) (ka : xa.key = c.low) (kb : xb.key = c.high) (hc : OkC xs c) (ba : mP xs c.low = xa) (bb : mP xs c.high = xb) (g : Con → Int) (F : Body → Int) :
    ((xs.map F).set pa (F xa - nL (jY c xa xb) xa.mass (g c))).set pb (F xb + nL (jY c xa xb) xb.mass (g c)) = xs.map (yE xs g c F) := by
  have hne := hc.ne
  have e1 : yE xs g c F xa = F xa - nL (jY c xa xb) xa.mass (g c) := by unfold yE ctr jV; rw [if_pos ka.symm, ba, bb]; omega
  have e2 : yE xs g c F xb = F xb + nL (jY c xa xb) xb.mass (g c) := by unfold yE ctr jV; rw [if_neg (by omega), if_pos kb.symm, ba, bb]
  rw [← e1, ← e2]
  exact aAp hs ha hb (by omega) (fun b _ h1 h2 => by unfold yE ctr; rw [if_neg (by omega), if_neg (by omega)]; omega)
theorem pA {α : Type} {l : List α} {i j : Nat} {x y : α} (h : l[j]? = some y) (hij : i ≠ j) : (l.set i x)[j]? = some y := by rw [List.getElem?_set_ne hij]; exact h
theorem xF {xs : List Body} {cs : List Con} {k : Nat} {c : Con} (h : cs[k]? = some c) (g : Con → Int) : yE xs g c (fun b => eH xs (cs.take k) g b) = fun b => eH xs (cs.take (k + 1)) g b := funext fun b => (aJt h g b).symm
def bO (z : Int) : List Value := [.int .i64 z]
theorem aRm (k : Nat) : List.replicate k ([.int .i64 0] : List Value) = (List.replicate k (0 : Int)).map bO := by simp [bO]
theorem aGn {α β : Type} {l : List α} {n : Nat} (h : l.length = n) (z : β) : List.replicate n z = l.map (fun _ => z) := (List.eq_replicate_iff.2 ⟨by rw [List.length_map, h], fun b hb => by obtain ⟨_, _, e⟩ := List.mem_map.1 hb; exact e.symm⟩).symm
def bR (z : Int × Int) : List Value := [.int .i64 z.1, .int .i64 z.2]
theorem aMy (l : List (Int × Int)) : ∀ y ∈ l.map bR, y.length = 2 := by
  intro y hy
  obtain ⟨x, _, rfl⟩ := List.mem_map.1 hy
  rfl
theorem aOy (k : Nat) : List.replicate k ([.int .i64 0, .int .i64 0] : List Value) = (List.replicate k ((0, 0) : Int × Int)).map bR := by simp [bR]
def gC (xs : List Body) (cs : List Con) (b : Body) : Int × Int := (gK xs cs (·.nx) b, gK xs cs (·.ny) b)
def aEy (xs : List Body) (c : Con) (F : Body → Int × Int) (b : Body) : Int × Int := ((F b).1 + sP xs (·.nx) c b, (F b).2 + sP xs (·.ny) c b)
def aAd (s z : Int) (c : Con) (f : Int × Int) : Int × Int := (f.1 + z * (s * c.nx / 65536), f.2 + z * (s * c.ny / 65536))
theorem aQo {xs : List Body} (hs : bK xs) {pa pb : Nat} {xa xb : Body} {c : Con} (ha : xs[pa]? = some xa) (hb : xs[pb]? = some xb) (ka : xa.key = c.low) (kb : xb.key = c.high) (hc : OkC xs c) (ba : mP xs c.low = xa) (bb : mP xs c.high = xb) (F : Body → Int × Int) :
    ((xs.map F).set pa (aAd (lR c xa xb xa.mass) (-1) c (F xa))).set pb (aAd (lR c xa xb xb.mass) 1 c (F xb)) = xs.map (aEy xs c F) := by
  have hne := hc.ne
  have e1 : aEy xs c F xa = aAd (lR c xa xb xa.mass) (-1) c (F xa) := by unfold aEy sP aAd; rw [if_pos ka.symm, if_pos ka.symm, ba, bb]; apply Prod.ext <;> (try simp only) <;> omega
  have e2 : aEy xs c F xb = aAd (lR c xa xb xb.mass) 1 c (F xb) := by unfold aEy sP aAd; rw [if_neg (by omega), if_pos kb.symm, if_neg (by omega), if_pos kb.symm, ba, bb]; apply Prod.ext <;> (try simp only) <;> omega
  rw [← e1, ← e2]
  exact aAp hs ha hb (by omega) (fun b _ h1 h2 => by unfold aEy sP; rw [if_neg (by omega), if_neg (by omega), if_neg (by omega), if_neg (by omega)]; apply Prod.ext <;> (try simp only) <;> omega)
theorem aHm {xs : List Body} {cs : List Con} {k : Nat} {c : Con} (h : cs[k]? = some c) : aEy xs c (gC xs (cs.take k)) = gC xs (cs.take (k + 1)) := funext fun b => Prod.ext (xY h _ b).symm (xY h _ b).symm
theorem aX.awayB {w0 w : World} {X : List Nat} {S : List dQ} {T sz : Nat} {A : Option Addr} {n c : Nat} {ls : List (List Value)} {e : dQ} {b : Nat} {o : Obj} (h : aX T sz A n c ls e) (M : Mem w0 X S w) (i j : Nat) (hi : dX S i = some e) (hj : dX S j = some (some b, o)) (hij : Nat.beq i j = false) : 0 < n → ∀ q off, A = some ⟨q, off, none⟩ → q ∉ bV [(some b, o)] := by
  intro hn q off hA hq
  obtain ⟨b2, L, h1, h2, _, _⟩ := h.block hn
  rw [h1] at hA
  injection hA with hA
  injection hA with hA
  subst hA
  have hqb : b2 = b := by simpa [bV] using hq
  subst hqb
  rw [fQ] at hi hj
  have ha := M.apart
  have hne : i ≠ j := fun g => by subst g; simp at hij
  have hli := (List.getElem?_eq_some_iff.1 hi).1
  have hlj := (List.getElem?_eq_some_iff.1 hj).1
  have key : ∀ (a b : Nat) (x y : dQ), a < b → S[a]? = some x → S[b]? = some y → x.1 = some b2 → y.1 = some b2 → False := fun p r x y hpr hx hy ex ey => by
    have e1 : S = S.take r ++ S.drop r := (List.take_append_drop r S).symm
    rw [e1, fT] at ha
    have m1 : b2 ∈ bV (S.take r) := eM.2 ⟨x.2, by rw [← ex]; exact List.mem_of_getElem? (by rw [List.getElem?_take_of_lt hpr]; exact hx)⟩
    have m2 : b2 ∈ bV (S.drop r) := eM.2 ⟨y.2, by rw [← ey]; exact List.mem_of_getElem? (i := 0) (by rw [List.getElem?_drop]; exact hy)⟩
    exact (List.nodup_append.1 ha).2.2 _ m1 _ m2 rfl
  rcases Nat.lt_or_gt_of_ne hne with g | g
  · exact key i j _ _ g hi hj (by rw [h2]) rfl
  · exact key j i _ _ g hj hi rfl (by rw [h2])
end Go.Bil
