/- Part of the proof of the laws of this seat: MdX, MdY, MdZ, MdM, MdI, MdJ, MdA, MdF, MdH. No conditions. -/
import Derived.Test.YtlmcphcgiclanaaGreatDoorK7
import Derived.Test.YtlmcphcgiclanaaGreatDoorK17
set_option linter.unusedVariables false
set_option linter.unusedSimpArgs false
set_option linter.unnecessarySimpa false
namespace Go.Bil
abbrev Pt := Int × Int
structure PtI (v : Pt) : Prop where
  x : -1082130432 ≤ v.1 ∧ v.1 ≤ 1082130432
  y : -1082130432 ≤ v.2 ∧ v.2 ≤ 1082130432
structure SgI (p q : Pt) : Prop where
  hp : PtI p
  hq : PtI q
  x : -16777216 ≤ q.1 - p.1 ∧ q.1 - p.1 ≤ 16777216
  y : -16777216 ≤ q.2 - p.2 ∧ q.2 - p.2 ≤ 16777216
theorem PtI.i32 {v : Pt} (h : PtI v) : I32 v := ⟨by have := h.x; omega, by have := h.y; omega⟩
theorem PtI.inX {v u : Pt} (h : PtI v) (g : PtI u) : tP (u.1 - v.1) := by have := h.x; have := g.x; unfold tP; omega
theorem PtI.inY {v u : Pt} (h : PtI v) (g : PtI u) : tP (u.2 - v.2) := by have := h.y; have := g.y; unfold tP; omega
theorem vL {a b : Int} {A B : Nat} (ha : a.natAbs ≤ A) (hb : b.natAbs ≤ B) : -((A * B : Nat) : Int) ≤ a * b ∧ a * b ≤ ((A * B : Nat) : Int) := by
  have h := Nat.mul_le_mul ha hb
  rw [← Int.natAbs_mul] at h
  omega
theorem sqN (a : Int) : 0 ≤ a * a := by rw [← Int.natAbs_mul_self]; omega
def kK (p q : Pt) : Int := (q.1 - p.1) * (q.1 - p.1) + (q.2 - p.2) * (q.2 - p.2)
def mZ (p q c : Pt) : Int := max 0 (min ((c.1 - p.1) * (q.1 - p.1) + (c.2 - p.2) * (q.2 - p.2)) (kK p q))
theorem pV {p q : Pt} (h : SgI p q) : 0 ≤ kK p q ∧ kK p q ≤ 562949953421312 ∧ (0 ≤ (q.1 - p.1) * (q.1 - p.1) ∧ (q.1 - p.1) * (q.1 - p.1) ≤ 281474976710656) ∧ 0 ≤ (q.2 - p.2) * (q.2 - p.2) ∧ (q.2 - p.2) * (q.2 - p.2) ≤ 281474976710656 := by
  have hx := h.x
  have hy := h.y
  have a := vL (a := q.1 - p.1) (b := q.1 - p.1) (A := 16777216) (B := 16777216) (by omega) (by omega)
  have b := vL (a := q.2 - p.2) (b := q.2 - p.2) (A := 16777216) (B := 16777216) (by omega) (by omega)
  have c := sqN (q.1 - p.1)
  have d := sqN (q.2 - p.2)
  unfold kK
  omega
theorem aDj {p q c : Pt} (h : SgI p q) : 0 ≤ mZ p q c ∧ mZ p q c ≤ kK p q := by
  have := pV h
  unfold mZ
  omega
theorem aLe {p q c : Pt} (h : SgI p q) (hc : PtI c) : (-36310272144179200 ≤ (c.1 - p.1) * (q.1 - p.1) ∧ (c.1 - p.1) * (q.1 - p.1) ≤ 36310272144179200) ∧ -36310272144179200 ≤ (c.2 - p.2) * (q.2 - p.2) ∧ (c.2 - p.2) * (q.2 - p.2) ≤ 36310272144179200 := by
  have hx := h.x
  have hy := h.y
  have := hc.x; have := hc.y; have := h.hp.x; have := h.hp.y
  have a := vL (a := c.1 - p.1) (b := q.1 - p.1) (A := 2164260864) (B := 16777216) (by omega) (by omega)
  have b := vL (a := c.2 - p.2) (b := q.2 - p.2) (A := 2164260864) (B := 16777216) (by omega) (by omega)
  omega
theorem aXx {a n d : Int} (hn : 0 ≤ n) (hnd : n ≤ d) (hd : 0 < d) : (0 ≤ a → 0 ≤ a * n / d ∧ a * n / d ≤ a) ∧ (a ≤ 0 → a ≤ a * n / d ∧ a * n / d ≤ 0) := by
  refine ⟨fun h => ⟨Int.ediv_nonneg (Int.mul_nonneg h hn) (Int.le_of_lt hd), ?_⟩, fun h => ⟨?_, ?_⟩⟩
  · exact Int.ediv_le_of_le_mul hd (Int.mul_le_mul_of_nonneg_left hnd h)
  · exact (Int.le_ediv_iff_mul_le hd).2 (Int.mul_le_mul_of_nonpos_left h hnd)
  · have h1 : a * n ≤ 0 := Int.mul_nonpos_of_nonpos_of_nonneg h hn
    exact Int.ediv_le_of_le_mul hd (by omega)
def dN (p q c : Pt) : Pt := if kK p q = 0 then p else (p.1 + (q.1 - p.1) * mZ p q c / kK p q, p.2 + (q.2 - p.2) * mZ p q c / kK p q)
theorem aBz {p q c : Pt} (h : SgI p q) (hd : kK p q ≠ 0) : ((-16777216 ≤ (q.1 - p.1) * mZ p q c / kK p q ∧ (q.1 - p.1) * mZ p q c / kK p q ≤ 16777216) ∧ -1082130432 ≤ p.1 + (q.1 - p.1) * mZ p q c / kK p q ∧ p.1 + (q.1 - p.1) * mZ p q c / kK p q ≤ 1082130432) ∧
    (-16777216 ≤ (q.2 - p.2) * mZ p q c / kK p q ∧ (q.2 - p.2) * mZ p q c / kK p q ≤ 16777216) ∧ -1082130432 ≤ p.2 + (q.2 - p.2) * mZ p q c / kK p q ∧ p.2 + (q.2 - p.2) * mZ p q c / kK p q ≤ 1082130432 := by
  have hn := aDj (c := c) h
  have hD := pV h
  have a := aXx (a := q.1 - p.1) hn.1 hn.2 (by omega)
  have b := aXx (a := q.2 - p.2) hn.1 hn.2 (by omega)
  have := h.hp.x; have := h.hp.y; have := h.hq.x; have := h.hq.y; have := h.x; have := h.y
  generalize (q.1 - p.1) * mZ p q c / kK p q = u at *
  generalize (q.2 - p.2) * mZ p q c / kK p q = v at *
  omega
theorem eH {p q c : Pt} (h : SgI p q) : PtI (dN p q c) := by
  unfold dN
  split
  · exact h.hp
  · rename_i hd
    have := aBz (c := c) h hd
    exact ⟨this.1.2, this.2.2⟩
abbrev Ch := Pt × Pt × Nat
def fA (s : Ch) (x y : Pt) : Ch := if wO (y.1 - x.1) (y.2 - x.2) < s.2.2 then (x, y, wO (y.1 - x.1) (y.2 - x.2)) else s
def ch0 : Ch := ((0, 0), (0, 0), 18446744073709551615)
def nL (ap aq bp bq : Pt) : Ch := fA (fA (fA (fA ch0 ap (dN bp bq ap)) aq (dN bp bq aq)) (dN ap aq bp) bp) (dN ap aq bq) bq
structure ChI (s : Ch) : Prop where
  a : PtI s.1
  b : PtI s.2.1
  l : s.2.2 < 18446744073709551616
theorem ChI.step {s : Ch} {x y : Pt} (h : ChI s) (hx : PtI x) (hy : PtI y) : ChI (fA s x y) := by
  unfold fA
  split
  · exact ⟨hx, hy, (vT (hx.inX hy) (hx.inY hy)).1⟩
  · exact h
theorem aLh : ChI ch0 := ⟨⟨by decide, by decide⟩, ⟨by decide, by decide⟩, by decide⟩
theorem aKu {ap aq bp bq : Pt} (h1 : SgI ap aq) (h2 : SgI bp bq) : ChI (nL ap aq bp bq) :=
  (((aLh.step h1.hp (eH h2)).step h1.hq (eH h2)).step (eH h1) h2.hp).step (eH h1) h2.hq
def aCp (b : Body) : Pt := (b.px - b.ax, b.py - b.ay)
def aCz (b : Body) : Pt := (b.px + b.ax, b.py + b.ay)
theorem tK {b : Body} (h : Okb b) : SgI (aCp b) (aCz b) := by
  have := h.a; have := h.p
  refine ⟨⟨?_, ?_⟩, ⟨?_, ?_⟩, ?_, ?_⟩ <;> simp only [aCp, aCz] <;> omega
structure Con where
  low : Int
  high : Int
  nx : Int
  ny : Int
  depth : Int
deriving DecidableEq
def cC (c : Con) : List Value := [.int .u32 c.low, .int .u32 c.high, .int .i32 c.nx, .int .i32 c.ny, .int .i32 c.depth]
def sJ (a b : Body) : Ch := nL (aCp a) (aCz a) (aCp b) (aCz b)
def uB (s : Ch) : Int := s.2.1.1 - s.1.1
def uU (s : Ch) : Int := s.2.1.2 - s.1.2
def lI (a b : Body) : Option Con :=
  if (a.radius + b.radius).natAbs * (a.radius + b.radius).natAbs ≤ wO (uB (sJ a b)) (uU (sJ a b)) then none
  else some ⟨a.key, b.key, (kF (uB (sJ a b)) (uU (sJ a b))).1, (kF (uB (sJ a b)) (uU (sJ a b))).2, IntKind.wrap .i32 (a.radius + b.radius - len (uB (sJ a b)) (uU (sJ a b)))⟩
def kV (a b : Body) : Option Con := if b.key < a.key then lI b a else lI a b
def jY (b : Body) : List Value := aG b ++ cE (aCp b) ++ cE (aCz b)
def loB (a b : Body) : Body := if b.key < a.key then b else a
def hiB (a b : Body) : Body := if b.key < a.key then a else b
theorem aDh (a b : Body) : kV a b = lI (loB a b) (hiB a b) := by unfold kV loB hiB; split <;> rfl
theorem aVg {a b : Body} (ha : Okb a) (hb : Okb b) : Okb (loB a b) ∧ Okb (hiB a b) := by unfold loB hiB; split <;> exact ⟨by assumption, by assumption⟩
theorem tR {a b : Body} (ha : Okb a) (hb : Okb b) : ChI (sJ a b) := aKu (tK ha) (tK hb)
theorem aTc {a b : Body} (ha : Okb a) (hb : Okb b) : tP (uB (sJ a b)) ∧ tP (uU (sJ a b)) := ⟨(tR ha hb).a.inX (tR ha hb).b, (tR ha hb).a.inY (tR ha hb).b⟩
def aVk (o : Option Con) : List Value := cC (o.getD ⟨0, 0, 0, 0, 0⟩)
theorem aWn {a b : Body} (ha : Okb a) (hb : Okb b) : 0 ≤ (a.radius + b.radius) * (a.radius + b.radius) ∧ (a.radius + b.radius) * (a.radius + b.radius) ≤ 70368744177664 := by
  have := ha.r; have := hb.r
  have h := vL (a := a.radius + b.radius) (b := a.radius + b.radius) (A := 8388608) (B := 8388608) (by omega) (by omega)
  have := sqN (a.radius + b.radius)
  omega
theorem aSu (s : Int) (h : 0 ≤ s * s ∧ s * s ≤ 70368744177664) : IntKind.wrap .u64 (s * s) = ((s.natAbs * s.natAbs : Nat) : Int) := by
  rw [oZ, Int.natAbs_mul_self]; omega
end Go.Bil

namespace Go.Bil
def oQ (b : Body) : Value := .agg (aG b).toArray
def aRa : Body := ⟨0, 0, 0, 0, 0, 0, 0, 0, 0, 0⟩
def boM (xs : List Body) : Int → Option Body := fun k => xs.reverse.find? (fun b => decide (b.key = k))
theorem aRz (k : Int) : boM [] k = none := rfl
theorem aLz {xs : List Body} {k : Nat} {b : Body} (h : xs[k]? = some b) (q : Int) : boM (xs.take (k + 1)) q = if q = b.key then some b else boM (xs.take k) q := by
  unfold boM
  rw [cP h, List.reverse_append]
  simp only [List.reverse_cons, List.reverse_nil, List.nil_append, List.singleton_append, List.find?_cons]
  by_cases e : q = b.key
  · rw [if_pos e, decide_eq_true e.symm]
  · rw [if_neg e, decide_eq_false (fun h => e h.symm)]
theorem tO {xs : List Body} (hs : bN xs) {b : Body} (hb : b ∈ xs) : boM xs b.key = some b := by
  unfold boM
  cases hf : xs.reverse.find? (fun c => decide (c.key = b.key)) with
  | none =>
    have := List.find?_eq_none.1 hf b (by simpa using hb)
    simp at this
  | some c =>
    have hc := List.find?_some hf
    have hm : c ∈ xs := by simpa using List.mem_of_find?_eq_some hf
    simp only [decide_eq_true_eq] at hc
    rw [eZ hs hm hb hc]
def wV (f : Int → Option Body) (z : Int × Int) : Option Con := (f z.1).bind fun a => (f z.2).bind fun b => kV a b
def gR (xs : List Body) : List Con := (gJ xs).filterMap (wV (boM xs))
theorem kY {xs : List Body} (hs : bN xs) {z : Int × Int} (h : z ∈ gJ xs) : ∃ a b, a ∈ xs ∧ b ∈ xs ∧ a.key < b.key ∧ z = (a.key, b.key) ∧ boM xs z.1 = some a ∧ boM xs z.2 = some b := by
  obtain ⟨a, ha, b, hb, h1, h2, rfl⟩ := (jW hs).1 h
  exact ⟨a, b, ha, hb, h1, rfl, tO hs ha, tO hs hb⟩
theorem jR {f : Int → Option Body} {z : Int × Int} {a b : Body} (h1 : f z.1 = some a) (h2 : f z.2 = some b) : wV f z = kV a b := by simp [wV, h1, h2]
theorem aFj {a b : Body} {c : Con} (h : lI a b = some c) : c.low = a.key ∧ c.high = b.key := by
  unfold lI at h
  split at h
  · cases h
  · injection h with h; subst h; exact ⟨rfl, rfl⟩
theorem xK {a b : Body} {c : Con} (hk : a.key < b.key) (h : kV a b = some c) : c.low = a.key ∧ c.high = b.key := by
  unfold kV at h
  rw [if_neg (by omega)] at h
  exact aFj h
theorem aDo {xs : List Body} (hs : bN xs) {z : Int × Int} (h : z ∈ gJ xs) {c : Con} (hc : wV (boM xs) z = some c) : c.low = z.1 ∧ c.high = z.2 := by
  obtain ⟨a, b, _, _, hk, rfl, h1, h2⟩ := kY hs h
  rw [jR h1 h2] at hc
  exact xK hk hc
theorem aSo {α β : Type} {l : List α} {k : Nat} {z : α} {g : α → Option β} (h : l[k]? = some z) : (l.take (k + 1)).filterMap g = (l.take k).filterMap g ++ (g z).toList := by
  rw [cP h, List.filterMap_append]
  cases hg : g z <;> simp [hg]
theorem xJ {α β : Type} {g g' : α → Option β} {p : α → Bool} {q : β → Bool} : ∀ {l : List α}, (∀ z ∈ l, (p z = true → g' z = g z) ∧ ∀ c, g z = some c → q c = p z) → (l.filter p).filterMap g' = (l.filterMap g).filter q
  | [], _ => rfl
  | z :: l, h => by
    have ih := xJ (l := l) fun y hy => h y (by simp [hy])
    have hz := h z (by simp)
    cases hp : p z with
    | true =>
      rw [List.filter_cons, hp, if_pos rfl, List.filterMap_cons, List.filterMap_cons, hz.1 hp]
      cases hg : g z with
      | none => simpa using ih
      | some c =>
        simp only [List.filter_cons]
        rw [hz.2 c hg, hp, if_pos rfl, ih]
    | false =>
      rw [List.filter_cons, hp, if_neg (by simp), List.filterMap_cons, ih]
      cases hg : g z with
      | none => rfl
      | some c =>
        simp only [List.filter_cons]
        rw [hz.2 c hg, hp, if_neg (by simp)]
def aUx (key : Int) (c : Con) : Bool := decide (c.low = key ∨ c.high = key)
def aHw (key : Int) (l : List Con) : List Con := l.filter (aUx key)
def aNc (key : Int) (l : List Con) : List Con := l.filter (fun c => decide (c.low ≠ key ∧ c.high ≠ key))
theorem aLq {xs : List Body} (hs : bN xs) {k : Nat} {y : Body} (hy : xs[k]? = some y) : gR (xs.eraseIdx k) = aNc y.key (gR xs) := by
  have hc := eJ hs k
  unfold gR aNc
  rw [aOi hs hy]
  unfold yA
  refine xJ fun z hz => ⟨fun hp => ?_, fun c hc' => ?_⟩
  · obtain ⟨a, b, ha, hb, hk, rfl, h1, h2⟩ := kY hs hz
    simp only [decide_eq_true_eq] at hp
    have e1 := tO hc ((eX hs hy).2 ⟨ha, hp.1⟩)
    have e2 := tO hc ((eX hs hy).2 ⟨hb, hp.2⟩)
    rw [jR h1 h2, jR e1 e2]
  · have := aDo hs hz hc'
    rw [this.1, this.2]
theorem aDb {xs : List Body} (hV : View xs) {k : Nat} {y : Body} (hy : xs[k]? = some y) (h : wH xs y.key = true) : aHw y.key (gR xs) = [] := by
  have hs := hV.s
  rw [aNh hV hy, decide_eq_true_iff] at h
  have hall : ∀ z ∈ gJ xs, z.1 ≠ y.key ∧ z.2 ≠ y.key := by
    unfold yA at h
    have := List.length_filter_eq_length_iff.1 h
    intro z hz
    simpa using this z hz
  unfold aHw
  refine List.filter_eq_nil_iff.2 fun c hc => ?_
  obtain ⟨z, hz, hcz⟩ := List.mem_filterMap.1 hc
  have := aDo hs hz hcz
  have h2 := hall z hz
  simp only [aUx, this.1, this.2, decide_eq_true_eq]
  exact fun h => h.elim h2.1 h2.2
theorem aCl (xs : List Body) : (gR xs).length ≤ (gJ xs).length := List.length_filterMap_le _ _
theorem Mem.orderC {w0 w : World} {X : List Nat} {a b c d : dW} (M : Mem w0 X [a, b, c, d] w) : Mem w0 X [c, b, a, d] w :=
  M.perm ((List.Perm.swap b a [c, d]).trans (((List.Perm.swap c a [d]).cons b).trans (List.Perm.swap c b [a, d])))
def nF : Con → List Con → Con
  | b, [] => b
  | b, c :: l => nF (if b.depth < c.depth then c else b) l
def aTm : List Con → Option Con
  | [] => none
  | c :: l => some (nF c l)
end Go.Bil

namespace Go.Bil
theorem rH : ∀ (l : List Con) (b : Con), b.depth ≤ (nF b l).depth ∧ ∀ c ∈ l, c.depth ≤ (nF b l).depth
  | [], b => ⟨Int.le_refl _, by simp⟩
  | x :: l, b => by
    have ih := rH l (if b.depth < x.depth then x else b)
    have e : nF b (x :: l) = nF (if b.depth < x.depth then x else b) l := rfl
    rw [e]
    by_cases hx : b.depth < x.depth
    · rw [if_pos hx] at ih ⊢
      refine ⟨by omega, fun c hc => ?_⟩
      rcases List.mem_cons.1 hc with rfl | hc
      · exact ih.1
      · exact ih.2 c hc
    · rw [if_neg hx] at ih ⊢
      refine ⟨ih.1, fun c hc => ?_⟩
      rcases List.mem_cons.1 hc with rfl | hc
      · omega
      · exact ih.2 c hc
theorem aCj : ∀ (l : List Con) (b : Con), ∃ j : Nat, (b :: l)[j]? = some (nF b l) ∧ ∀ (i : Nat) (c : Con), i < j → (b :: l)[i]? = some c → c.depth < (nF b l).depth
  | [], b => ⟨0, rfl, fun i c h => by omega⟩
  | x :: l, b => by
    have e : nF b (x :: l) = nF (if b.depth < x.depth then x else b) l := rfl
    obtain ⟨j, h1, h2⟩ := aCj l (if b.depth < x.depth then x else b)
    have hm := rH l (if b.depth < x.depth then x else b)
    rw [e]
    by_cases hc : b.depth < x.depth
    · rw [if_pos hc] at h1 h2 hm ⊢
      refine ⟨j + 1, by simpa using h1, fun i c hi hci => ?_⟩
      cases i with
      | zero => simp only [List.getElem?_cons_zero, Option.some.injEq] at hci; subst hci; omega
      | succ i => exact h2 i c (by omega) (by simpa using hci)
    · rw [if_neg hc] at h1 h2 hm ⊢
      cases j with
      | zero => exact ⟨0, by simpa using h1, fun i c h => by omega⟩
      | succ j =>
        have hb := h2 0 b (by omega) rfl
        refine ⟨j + 2, by simpa using h1, fun i c hi hci => ?_⟩
        match i, hci with
        | 0, hci => simp only [List.getElem?_cons_zero, Option.some.injEq] at hci; subst hci; exact hb
        | 1, hci => simp only [List.getElem?_cons_succ, List.getElem?_cons_zero, Option.some.injEq] at hci; subst hci; omega
        | i + 2, hci => exact h2 (i + 1) c (by omega) (by simpa using hci)
def aZd : Con := ⟨0, 0, 0, 0, 0⟩
theorem aKx {l : List Con} {d : Con} (hd : (aTm l).getD aZd = d) (hl : l ≠ []) : d ∈ l ∧ (∀ c ∈ l, c.depth ≤ d.depth) ∧ ∀ (i : Nat) (c : Con), l[i]? = some c → d ∉ l.take i → c.depth = d.depth → c = d := by
  cases l with
  | nil => exact absurd rfl hl
  | cons b l =>
    have hd' : nF b l = d := hd
    obtain ⟨j, h1, h2⟩ := aCj l b
    have hm := rH l b
    rw [hd'] at h1 h2 hm
    refine ⟨List.mem_of_getElem? h1, fun c hc => ?_, fun i c hi hn he => ?_⟩
    · rcases List.mem_cons.1 hc with rfl | hc
      · exact hm.1
      · exact hm.2 c hc
    · rcases Nat.lt_trichotomy i j with h | h | h
      · have := h2 i c h hi; omega
      · subst h; rw [hi] at h1; injection h1
      · refine absurd (List.mem_of_getElem? (i := j) ?_) hn
        rw [List.getElem?_take, if_pos h]; exact h1
end Go.Bil
namespace Go.Bil
structure ChL (s : Ch) : Prop where
  i : ChI s
  l : s.2.2 = wO (s.2.1.1 - s.1.1) (s.2.1.2 - s.1.2)
theorem ChL.step {s : Ch} {x y : Pt} (h : ChL s) (hx : PtI x) (hy : PtI y) : ChL (fA s x y) := by
  refine ⟨h.i.step hx hy, ?_⟩
  unfold fA
  split
  · rfl
  · exact h.l
end Go.Bil
namespace Go.Bil
end Go.Bil
namespace Go.Bil
end Go.Bil
namespace Go.Bil
end Go.Bil
namespace Go.Bil
structure BestC (ys : List Con) (i j : Nat) : Prop where
  lt : ys ≠ [] → j < ys.length
  z : i = 0 → j = 0
  ji : i ≠ 0 → j < i
  mx : ∀ (p : Nat) (x b : Con), p < i → ys[p]? = some x → ys[j]? = some b → x.depth ≤ b.depth ∧ (p < j → x.depth < b.depth)
theorem BestC.new {ys : List Con} {i j : Nat} {x b : Con} (h : BestC ys i j) (hx : ys[i]? = some x) (hb : ys[j]? = some b) (hc : x.depth > b.depth) : BestC ys (i + 1) i := by
  have hi := (List.getElem?_eq_some_iff.1 hx).1
  refine ⟨fun _ => hi, fun h => by omega, fun _ => by omega, fun p y c hp hy hcx => ?_⟩
  rw [hx] at hcx
  injection hcx with hcx
  subst hcx
  by_cases hpi : p = i
  · subst hpi
    rw [hx] at hy
    injection hy with hy
    subst hy
    exact ⟨Int.le_refl _, fun h => by omega⟩
  · have := (h.mx p y b (by omega) hy hb).1
    exact ⟨by omega, fun _ => by omega⟩
theorem BestC.old {ys : List Con} {i j : Nat} {x b : Con} (h : BestC ys i j) (hx : ys[i]? = some x) (hb : ys[j]? = some b) (hc : ¬ x.depth > b.depth) : BestC ys (i + 1) j := by
  refine ⟨h.lt, fun h => by omega, fun _ => ?_, fun p y c hp hy hcx => ?_⟩
  · by_cases hi : i = 0
    · have := h.z hi; omega
    · have := h.ji hi; omega
  · rw [hb] at hcx
    injection hcx with hcx
    subst hcx
    by_cases hpi : p = i
    · subst hpi
      rw [hx] at hy
      injection hy with hy
      subst hy
      refine ⟨by omega, fun hpj => ?_⟩
      by_cases hi : p = 0
      · have := h.z hi; omega
      · have := h.ji hi; omega
    · exact h.mx p y b (by omega) hy hb
theorem BestC.done {ys : List Con} {m j : Nat} {d : Con} (h : BestC ys m j) (hn : ys ≠ []) (hl : ys.length = m) (hd : (aTm ys).getD aZd = d) : ∃ x, ys[j]? = some x ∧ d = x := by
  have hj := h.lt hn
  refine ⟨ys[j], List.getElem?_eq_getElem hj, ?_⟩
  have hg := List.getElem?_eq_getElem hj
  obtain ⟨h1, h2, h3⟩ := aKx hd hn
  obtain ⟨p, hp⟩ := List.getElem?_of_mem h1
  have hpl := (List.getElem?_eq_some_iff.1 hp).1
  have e1 := (h.mx p d _ (by omega) hp hg).1
  have e2 := h2 _ (List.getElem_mem hj)
  refine (h3 j _ hg ?_ (by omega)).symm
  intro hm
  obtain ⟨q, hq⟩ := List.getElem?_of_mem hm
  rw [List.getElem?_take] at hq
  split at hq
  · have := (h.mx q d _ (by omega) hq hg).2 (by omega)
    omega
  · cases hq
theorem aSm {xs : List Body} (hs : bN xs) {c : Con} (h : c ∈ gR xs) : ∃ a b, a ∈ xs ∧ b ∈ xs ∧ a.key < b.key ∧ kV a b = some c ∧ c.low = a.key ∧ c.high = b.key := by
  obtain ⟨z, hz, hc⟩ := List.mem_filterMap.1 h
  obtain ⟨a, b, ha, hb, hk, rfl, h1, h2⟩ := kY hs hz
  rw [jR h1 h2] at hc
  have := xK hk hc
  exact ⟨a, b, ha, hb, hk, hc, this.1, this.2⟩
end Go.Bil

namespace Go.Bil
def aYe (a : Bx) : Prop := a = iJ ∨ (a.x0 ≤ a.x1 ∧ a.y0 ≤ a.y1)
structure Meas where
  nb : Int
  ns : Int
  sp : Nat
  sx : Int
  sy : Int
  bx : Bx
  ov : Int
deriving DecidableEq
structure OkM (k : Nat) (m : Meas) : Prop where
  g : aYe m.bx
  x : m.bx = iJ ∨ Okx m.bx
  nb : 0 ≤ m.nb ∧ m.nb ≤ k
  ns : 0 ≤ m.ns ∧ m.ns ≤ m.nb
  sp : m.sp < 18446744073709551616
  sx : -(16777216 * (k : Int)) ≤ m.sx ∧ m.sx ≤ 16777216 * k
  sy : -(16777216 * (k : Int)) ≤ m.sy ∧ m.sy ≤ 16777216 * k
  ov : -(2147483648 * ((k : Int) * k)) ≤ m.ov ∧ m.ov ≤ 2147483648 * ((k : Int) * k)
theorem OkM.mono {j k : Nat} {a : Meas} (h : OkM j a) (hjk : j ≤ k) : OkM k a := by
  have n1 := h.nb; have x1 := h.sx; have y1 := h.sy; have o1 := h.ov
  have hsq : (j : Int) * j ≤ (k : Int) * k := Int.mul_le_mul (by omega) (by omega) (by omega) (by omega)
  refine ⟨h.g, h.x, by omega, h.ns, h.sp, by omega, by omega, ?_⟩
  generalize (j : Int) * j = J at *
  generalize (k : Int) * k = K at *
  omega
theorem aSb {xs : List Body} : (gR xs).length ≤ xs.length * xs.length := Nat.le_trans (aCl xs) (xL xs xs.length)
end Go.Bil

namespace Go.Bil
end Go.Bil

namespace Go.Bil
end Go.Bil
namespace Go.Bil
structure RightOne (xs : List Body) (c : Con) : Prop where
  ne : ¬ c.low = c.high
  l : 0 ≤ cH c.low xs
  h : 0 ≤ cH c.high xs
instance (xs : List Body) (c : Con) : Decidable (RightOne xs c) := decidable_of_iff (¬ c.low = c.high ∧ 0 ≤ cH c.low xs ∧ 0 ≤ cH c.high xs) ⟨fun h => ⟨h.1, h.2.1, h.2.2⟩, fun h => ⟨h.1, h.2, h.3⟩⟩
end Go.Bil
namespace Go.Bil
theorem aQr {xs : List Body} {i : Nat} {b : Body} (h : xs[i]? = some b) : xs.getD i default = b := by rw [List.getD_eq_getElem?_getD, h]; rfl
end Go.Bil
namespace Go.Bil
theorem aHh {xs : List Body} {k : Int} (h : 0 ≤ cH k xs) : ∃ (p : Nat) (x : Body), xs[p]? = some x ∧ x.key = k ∧ cH k xs = (p : Int) := (dR k xs).elim (fun e => absurd e.1 (by omega)) id
end Go.Bil

namespace Go.Bil
def iN (n l : Int) : Int := max (-l) (min n l)
theorem fF (n : Int) {l : Int} (h : 0 ≤ l) : -l ≤ iN n l ∧ iN n l ≤ l := by unfold iN; omega
theorem aHl {n l : Int} (h : -l ≤ n ∧ n ≤ l) : iN n l = n := by unfold iN; omega
theorem aPq {dx dy : Int} (hx : tP dx) (hy : tP dy) : (-65536 ≤ (kF dx dy).1 ∧ (kF dx dy).1 ≤ 65536) ∧ (-65536 ≤ (kF dx dy).2 ∧ (kF dx dy).2 ≤ 65536) := by
  have hl := zO hx hy
  unfold kF
  by_cases h0 : len dx dy = 0
  · rw [if_pos h0]; decide
  · rw [if_neg h0]
    have hs := (qR (wO dx dy)).2
    have hle : ∀ a : Nat, a * a ≤ wO dx dy → a ≤ rF (wO dx dy) := fun a ha => by
      by_cases g : a ≤ rF (wO dx dy)
      · exact g
      · have := Nat.mul_le_mul (show rF (wO dx dy) + 1 ≤ a by omega) (show rF (wO dx dy) + 1 ≤ a by omega); omega
    have h1 := hle dx.natAbs (by unfold wO; omega)
    have h2 := hle dy.natAbs (by unfold wO; omega)
    have hp : 0 < len dx dy := by omega
    have key : ∀ d : Int, d.natAbs ≤ rF (wO dx dy) → -65536 ≤ d * 65536 / len dx dy ∧ d * 65536 / len dx dy ≤ 65536 := fun d hd => by
      have hd' : -(len dx dy) ≤ d ∧ d ≤ len dx dy := by unfold len; omega
      exact ⟨Int.le_ediv_of_mul_le hp (by omega), Int.ediv_le_of_le_mul hp (by omega)⟩
    have k1 := key dx h1
    have k2 := key dy h2
    rw [iP _ (by omega) (by omega), iP _ (by omega) (by omega)]
    exact ⟨k1, k2⟩
structure Okn (c : Con) : Prop where
  x : -65536 ≤ c.nx ∧ c.nx ≤ 65536
  y : -65536 ≤ c.ny ∧ c.ny ≤ 65536
  d : -2147483648 ≤ c.depth ∧ c.depth ≤ 2147483647
theorem aGr {a b : Body} {c : Con} (ha : Okb a) (hb : Okb b) (h : lI a b = some c) : Okn c := by
  have hw : ∀ x : Int, -2147483648 ≤ IntKind.wrap .i32 x ∧ IntKind.wrap .i32 x ≤ 2147483647 := fun x => by
    simp only [IntKind.wrap, IntKind.bits, IntKind.signed, Bool.true_and, decide_eq_true_eq, ge_iff_le]; split <;> omega
  have hd := aTc ha hb
  have hu := aPq hd.1 hd.2
  unfold lI at h
  split at h
  · cases h
  · injection h with h
    revert hu h
    generalize kF (uB (sJ a b)) (uU (sJ a b)) = u
    generalize a.radius + b.radius - len (uB (sJ a b)) (uU (sJ a b)) = q
    intro hu h
    subst h
    exact Okn.mk hu.1 hu.2 (hw q)
structure OkC (xs : List Body) (c : Con) : Prop where
  ne : c.low < c.high
  l : 0 ≤ cH c.low xs
  h : 0 ≤ cH c.high xs
  n : Okn c
theorem vQ {xs : List Body} {b : Body} (hb : b ∈ xs) : 0 ≤ cH b.key xs := by
  rcases dR b.key xs with ⟨_, g⟩ | ⟨i, y, _, _, g⟩
  · exact absurd rfl (g b hb)
  · omega
theorem qD {xs : List Body} (hs : bN xs) (hb : ∀ b ∈ xs, Okb b) : ∀ c ∈ gR xs, OkC xs c := fun c hc => by
  obtain ⟨a, b, ha, hb', hk, h, e1, e2⟩ := aSm hs hc
  have h' := h
  unfold kV at h'
  rw [if_neg (by omega)] at h'
  exact ⟨by omega, by rw [e1]; exact vQ ha, by rw [e2]; exact vQ hb', aGr (hb a ha) (hb b hb') h'⟩
def rM (c : Con) (a b : Body) : Int := ((b.vx - a.vx) * c.nx + (b.vy - a.vy) * c.ny) / 65536
def kS (c : Con) (a b : Body) : Int := if 0 ≤ rM c a b ∨ a.mass + b.mass = 0 then 0 else -rM c a b * (65536 + max a.bounce b.bounce) / (a.mass + b.mass)
def nG (j m n : Int) : Int := j * m / 65536 * n / 65536
theorem aAc {c : Con} {a b : Body} (hc : Okn c) (ha : Okb a) (hb : Okb b) : (-2199023255552 ≤ (b.vx - a.vx) * c.nx ∧ (b.vx - a.vx) * c.nx ≤ 2199023255552) ∧ (-2199023255552 ≤ (b.vy - a.vy) * c.ny ∧ (b.vy - a.vy) * c.ny ≤ 2199023255552) ∧ -67108864 ≤ rM c a b ∧ rM c a b ≤ 67108864 := by
  have h1 := ha.v; have h2 := hb.v; have h3 := hc.x; have h4 := hc.y
  have m1 := vL (a := b.vx - a.vx) (b := c.nx) (A := 33554432) (B := 65536) (by omega) (by omega)
  have m2 := vL (a := b.vy - a.vy) (b := c.ny) (A := 33554432) (B := 65536) (by omega) (by omega)
  unfold rM
  omega
theorem aEd {c : Con} {a b : Body} (hc : Okn c) (ha : Okb a) (hb : Okb b) (h : ¬ (0 ≤ rM c a b)) : 0 ≤ -rM c a b * (65536 + max a.bounce b.bounce) ∧ -rM c a b * (65536 + max a.bounce b.bounce) ≤ 8796093022208 := by
  have h1 := aAc hc ha hb
  have h2 := ha.c; have h3 := hb.c
  have m := vL (a := -rM c a b) (b := 65536 + max a.bounce b.bounce) (A := 67108864) (B := 131072) (by omega) (by omega)
  have n := Int.mul_nonneg (a := -rM c a b) (b := 65536 + max a.bounce b.bounce) (by omega) (by omega)
  omega
theorem aBi {x s m : Int} (hx : 0 ≤ x) (hs : 0 < s) (hm : 0 ≤ m ∧ m ≤ s) : 0 ≤ x / s ∧ x / s ≤ x ∧ 0 ≤ x / s * m ∧ x / s * m ≤ x := by
  have h0 : 0 ≤ x / s := Int.ediv_nonneg hx (by omega)
  have h1 : x / s * s ≤ x := Int.ediv_mul_le x (by omega)
  have h2 : x / s * m ≤ x / s * s := Int.mul_le_mul_of_nonneg_left hm.2 h0
  have h3 : x / s * 1 ≤ x / s * s := Int.mul_le_mul_of_nonneg_left (by omega) h0
  have h4 : 0 ≤ x / s * m := Int.mul_nonneg h0 hm.1
  omega
theorem tC {c : Con} {a b : Body} (hc : Okn c) (ha : Okb a) (hb : Okb b) {m : Int} (hm : 0 ≤ m ∧ m ≤ a.mass + b.mass) : 0 ≤ kS c a b ∧ kS c a b ≤ 8796093022208 ∧ 0 ≤ kS c a b * m ∧ kS c a b * m ≤ 8796093022208 := by
  have h2 := ha.m; have h3 := hb.m
  unfold kS
  split
  · simp
  · rename_i h
    have hp := aEd hc ha hb (fun g => h (.inl g))
    have hd := aBi hp.1 (s := a.mass + b.mass) (by omega) hm
    omega
theorem lE {j m n : Int} (h : 0 ≤ j * m ∧ j * m ≤ 8796093022208) (hn : -65536 ≤ n ∧ n ≤ 65536) : (0 ≤ j * m / 65536 ∧ j * m / 65536 ≤ 134217728) ∧ (-8796093022208 ≤ j * m / 65536 * n ∧ j * m / 65536 * n ≤ 8796093022208) ∧ -134217728 ≤ nG j m n ∧ nG j m n ≤ 134217728 := by
  have hk : 0 ≤ j * m / 65536 ∧ j * m / 65536 ≤ 134217728 := by omega
  have m1 := vL (a := j * m / 65536) (b := n) (A := 134217728) (B := 65536) (by omega) (by omega)
  unfold nG
  generalize j * m / 65536 = k at *
  omega
def sU (xs : List Body) (k : Int) : Body := xs.getD (cH k xs).toNat default
theorem aPy {xs : List Body} {k : Int} {p : Nat} {x : Body} (hx : xs[p]? = some x) (hp : cH k xs = (p : Int)) : sU xs k = x := by
  unfold sU
  rw [hp, Int.toNat_natCast, aQr hx]
theorem oG {xs : List Body} {k : Int} (h : 0 ≤ cH k xs) : sU xs k ∈ xs ∧ (sU xs k).key = k := by
  obtain ⟨p, x, hx, hk, hf⟩ := aHh h
  rw [aPy hx hf]
  exact ⟨List.mem_of_getElem? hx, hk⟩
def jV (xs : List Body) (c : Con) : Int := kS c (sU xs c.low) (sU xs c.high)
def ctr (xs : List Body) (g : Con → Int) (c : Con) (b : Body) : Int := if c.low = b.key then -nG (jV xs c) b.mass (g c) else if c.high = b.key then nG (jV xs c) b.mass (g c) else 0
def eM (xs : List Body) (cs : List Con) (g : Con → Int) (b : Body) : Int := (cs.map (fun c => ctr xs g c b)).sum
theorem aKa {xs : List Body} {cs : List Con} {k : Nat} {c : Con} (h : cs[k]? = some c) (g : Con → Int) (b : Body) : eM xs (cs.take (k + 1)) g b = eM xs (cs.take k) g b + ctr xs g c b := by
  unfold eM
  rw [cP h, List.map_append, List.sum_append]
  simp
theorem aJe (xs : List Body) (cs : List Con) (g : Con → Int) (b : Body) : eM xs (cs.take 0) g b = 0 := by simp [eM]
theorem aRt {xs : List Body} {c : Con} {g : Con → Int} {b : Body} (hs : bN xs) (hx : ∀ b ∈ xs, Okb b) (hc : OkC xs c) (hg : -65536 ≤ g c ∧ g c ≤ 65536) (hb : b ∈ xs) : -134217728 ≤ ctr xs g c b ∧ ctr xs g c b ≤ 134217728 := by
  obtain ⟨l1, l2⟩ := oG hc.l
  obtain ⟨h1, h2⟩ := oG hc.h
  have ma := (hx _ l1).m; have mb := (hx _ h1).m
  unfold ctr
  split
  · rename_i e
    have : sU xs c.low = b := eZ hs l1 hb (by rw [l2, e])
    have hr := tC hc.n (hx _ l1) (hx _ h1) (m := b.mass) (by rw [← this]; omega)
    have := (lE hr.2.2 hg).2.2
    unfold jV
    omega
  · split
    · rename_i e
      have : sU xs c.high = b := eZ hs h1 hb (by rw [h2, e])
      have hr := tC hc.n (hx _ l1) (hx _ h1) (m := b.mass) (by rw [← this]; omega)
      have := (lE hr.2.2 hg).2.2
      unfold jV
      omega
    · omega
theorem aIf {cs : List Con} {f : Con → Int} {B : Int} (hB : 0 ≤ B) (h : ∀ c ∈ cs, -B ≤ f c ∧ f c ≤ B) : -(cs.length * B) ≤ (cs.map f).sum ∧ (cs.map f).sum ≤ cs.length * B := by
  induction cs with
  | nil => simp
  | cons c cs ih =>
    have h0 := h c (by simp)
    have h1 := ih (fun d hd => h d (by simp [hd]))
    rw [List.map_cons, List.sum_cons, List.length_cons, Int.natCast_add, Int.add_mul]
    omega
theorem qS {xs : List Body} {cs : List Con} {g : Con → Int} {b : Body} (hs : bN xs) (hx : ∀ b ∈ xs, Okb b) (hc : ∀ c ∈ cs, OkC xs c) (hg : ∀ c ∈ cs, -65536 ≤ g c ∧ g c ≤ 65536) (hb : b ∈ xs) : -(cs.length * 134217728) ≤ eM xs cs g b ∧ eM xs cs g b ≤ cs.length * 134217728 :=
  aIf (by decide) (fun c h => aRt hs hx (hc c h) (hg c h) hb)
theorem xI {xs : List Body} {cs : List Con} {g : Con → Int} {b : Body} (h : ∀ c ∈ cs, c.low ≠ b.key ∧ c.high ≠ b.key) : eM xs cs g b = 0 := by
  unfold eM
  induction cs with
  | nil => rfl
  | cons c cs ih =>
    have h0 := h c (by simp)
    rw [List.map_cons, List.sum_cons, ih (fun d hd => h d (by simp [hd]))]
    unfold ctr
    rw [if_neg h0.1, if_neg h0.2]
    rfl
def wE (xs : List Body) (cs : List Con) (b : Body) : Body := { b with vx := iN (b.vx + eM xs cs (·.nx) b) 16777216, vy := iN (b.vy + eM xs cs (·.ny) b) 16777216 }
def aRq (xs : List Body) (cs : List Con) (b : Body) : Bool := decide (iN (b.vx + eM xs cs (·.nx) b) 16777216 ≠ b.vx + eM xs cs (·.nx) b) || decide (iN (b.vy + eM xs cs (·.ny) b) 16777216 ≠ b.vy + eM xs cs (·.ny) b)
def lK (xs : List Body) (cs : List Con) : List Body := xs.map (wE xs cs)
def aOk (xs : List Body) (cs : List Con) : Bool := xs.any (aRq xs cs)
def eQ (xs : List Body) (cs : List Con) : Nat → List Body × Bool
  | 0 => (xs, false)
  | k + 1 => (lK (eQ xs cs k).1 cs, (eQ xs cs k).2 || aOk (eQ xs cs k).1 cs)
structure SameB (a b : Body) : Prop where
  key : a.key = b.key
  radius : a.radius = b.radius
  ax : a.ax = b.ax
  ay : a.ay = b.ay
  mass : a.mass = b.mass
  bounce : a.bounce = b.bounce
structure Like (xs ys : List Body) : Prop where
  len : ys.length = xs.length
  at_ : ∀ (i : Nat) (x y : Body), xs[i]? = some x → ys[i]? = some y → SameB y x
theorem Like.refl (xs : List Body) : Like xs xs := ⟨rfl, fun i x y h1 h2 => by rw [h1] at h2; injection h2 with h2; subst h2; exact ⟨rfl, rfl, rfl, rfl, rfl, rfl⟩⟩
theorem Like.trans {xs ys zs : List Body} (h : Like xs ys) (g : Like ys zs) : Like xs zs := ⟨by rw [g.len, h.len], fun i x z hx hz => by
  have hi := (List.getElem?_eq_some_iff.1 hx).1
  have hy : ys[i]? = some (ys[i]'(by rw [h.len]; exact hi)) := List.getElem?_eq_getElem _
  have a := h.at_ i x _ hx hy
  have b := g.at_ i _ z hy hz
  exact ⟨b.key.trans a.key, b.radius.trans a.radius, b.ax.trans a.ax, b.ay.trans a.ay, b.mass.trans a.mass, b.bounce.trans a.bounce⟩⟩
theorem Like.map {xs : List Body} {f : Body → Body} (h : ∀ b ∈ xs, SameB (f b) b) : Like xs (xs.map f) := ⟨by simp, fun i x y hx hy => by
  rw [List.getElem?_map, hx] at hy
  injection hy with hy
  subst hy
  exact h x (List.mem_of_getElem? hx)⟩
theorem Like.keys {xs ys : List Body} (h : Like xs ys) : ys.map (·.key) = xs.map (·.key) := by
  apply List.ext_getElem?
  intro i
  rw [List.getElem?_map, List.getElem?_map]
  by_cases hi : i < xs.length
  · have h1 : xs[i]? = some xs[i] := List.getElem?_eq_getElem hi
    have h2 : ys[i]? = some (ys[i]'(by rw [h.len]; exact hi)) := List.getElem?_eq_getElem _
    rw [h1, h2]
    exact congrArg some (h.at_ i _ _ h1 h2).key
  · have hl := h.len
    rw [List.getElem?_eq_none (show ys.length ≤ i by omega), List.getElem?_eq_none (show xs.length ≤ i by omega)]
theorem Like.sorted {xs ys : List Body} (h : Like xs ys) (hs : bN xs) : bN ys := by
  have := h.keys
  unfold bN at *
  have h1 : (xs.map (·.key)).Pairwise (· < ·) := List.pairwise_map.2 hs
  rw [← this] at h1
  exact List.pairwise_map.1 h1
theorem Like.find {xs ys : List Body} (h : Like xs ys) (k : Int) : cH k ys = cH k xs := pJ k h.keys
theorem Like.okc {xs ys : List Body} (h : Like xs ys) {c : Con} (hc : OkC xs c) : OkC ys c := ⟨hc.ne, by rw [h.find]; exact hc.l, by rw [h.find]; exact hc.h, hc.n⟩
theorem aMi (xs : List Body) (cs : List Con) : Like xs (lK xs cs) := Like.map (fun b _ => ⟨rfl, rfl, rfl, rfl, rfl, rfl⟩)
theorem aWl {xs : List Body} {cs : List Con} (h : ∀ b ∈ xs, Okb b) : ∀ b ∈ lK xs cs, Okb b := fun b hb => by
  obtain ⟨x, hx, rfl⟩ := List.mem_map.1 hb
  have := h x hx
  exact ⟨this.r, this.a, this.m, this.c, this.p, ⟨(fF _ (by decide)).1, (fF _ (by decide)).2, (fF _ (by decide)).1, (fF _ (by decide)).2⟩⟩
theorem gU (xs : List Body) (cs : List Con) : ∀ k, Like xs (eQ xs cs k).1
  | 0 => Like.refl xs
  | k + 1 => (gU xs cs k).trans (aMi _ cs)
theorem pL {xs : List Body} {cs : List Con} (h : ∀ b ∈ xs, Okb b) : ∀ k, ∀ b ∈ (eQ xs cs k).1, Okb b
  | 0 => h
  | k + 1 => aWl (pL h k)
def iA (b : Body) : Body := if b.mass = 0 then b else { b with vy := iN (b.vy - 1024) 16777216 }
def nJ (b : Body) : Bool := decide (b.mass ≠ 0) && decide (iN (b.vy - 1024) 16777216 ≠ b.vy - 1024)
def kE (xs : List Body) : List Body := xs.map iA
theorem yT (b : Body) : SameB (iA b) b := by unfold iA; split <;> exact ⟨rfl, rfl, rfl, rfl, rfl, rfl⟩
theorem jS (xs : List Body) : Like xs (kE xs) := Like.map (fun b _ => yT b)
theorem vZ {b : Body} (h : Okb b) : Okb (iA b) := by
  unfold iA
  split
  · exact h
  · exact ⟨h.r, h.a, h.m, h.c, h.p, ⟨h.v.1, h.v.2.1, (fF _ (by decide)).1, (fF _ (by decide)).2⟩⟩
theorem aAd {xs : List Body} (h : ∀ b ∈ xs, Okb b) : ∀ b ∈ kE xs, Okb b := fun b hb => by
  obtain ⟨x, hx, rfl⟩ := List.mem_map.1 hb
  exact vZ (h x hx)
def nA (c : Con) (a b : Body) : Int := if c.depth - 1024 ≤ 0 ∨ (a.mass = 0 ∧ b.mass = 0) then 0 else (c.depth - 1024) * 26214 / 65536
def mY (c : Con) (a b : Body) (m : Int) : Int := nA c a b * m / max 1 (a.mass + b.mass)
theorem aBc {c : Con} {a b : Body} (hc : Okn c) : 0 ≤ nA c a b ∧ nA c a b ≤ 1073741824 := by
  have := hc.d
  unfold nA
  split <;> omega
theorem aSl {c : Con} {a b : Body} {m : Int} (hc : Okn c) (hm : 0 ≤ m ∧ m ≤ 1048576) : (0 ≤ nA c a b * m ∧ nA c a b * m ≤ 1125899906842624) ∧ 0 ≤ mY c a b m ∧ mY c a b m ≤ 1125899906842624 := by
  have h := aBc (a := a) (b := b) hc
  have m1 := vL (a := nA c a b) (b := m) (A := 1073741824) (B := 1048576) (by omega) (by omega)
  have h0 := Int.mul_nonneg h.1 hm.1
  have hd := aBi h0 (s := max 1 (a.mass + b.mass)) (by omega) (m := 0) (by omega)
  unfold mY
  omega
theorem aAk {c : Con} {a b : Body} {m : Int} (hc : Okn c) (hm : 0 ≤ m ∧ m ≤ a.mass + b.mass) : 0 ≤ mY c a b m ∧ mY c a b m ≤ 1073741824 := by
  have h := aBc (a := a) (b := b) hc
  have hs : m ≤ max 1 (a.mass + b.mass) := by omega
  have h1 : nA c a b * m ≤ nA c a b * max 1 (a.mass + b.mass) := Int.mul_le_mul_of_nonneg_left hs h.1
  have h2 : mY c a b m ≤ nA c a b := Int.ediv_le_of_le_mul (by omega) h1
  have h3 : 0 ≤ mY c a b m := Int.ediv_nonneg (Int.mul_nonneg h.1 hm.1) (by omega)
  omega
def rC (xs : List Body) (g : Con → Int) (c : Con) (b : Body) : Int := if c.low = b.key then -(mY c (sU xs c.low) (sU xs c.high) b.mass * g c / 65536) else if c.high = b.key then mY c (sU xs c.low) (sU xs c.high) b.mass * g c / 65536 else 0
def mU (xs : List Body) (cs : List Con) (g : Con → Int) (b : Body) : Int := (cs.map (fun c => rC xs g c b)).sum
theorem zA {xs : List Body} {cs : List Con} {k : Nat} {c : Con} (h : cs[k]? = some c) (g : Con → Int) (b : Body) : mU xs (cs.take (k + 1)) g b = mU xs (cs.take k) g b + rC xs g c b := by
  unfold mU
  rw [cP h, List.map_append, List.sum_append]
  simp
theorem yH (xs : List Body) (cs : List Con) (g : Con → Int) (b : Body) : mU xs (cs.take 0) g b = 0 := by simp [mU]
theorem oE {s n : Int} (hs : 0 ≤ s ∧ s ≤ 1073741824) (hn : -65536 ≤ n ∧ n ≤ 65536) : (-70368744177664 ≤ s * n ∧ s * n ≤ 70368744177664) ∧ -1073741824 ≤ s * n / 65536 ∧ s * n / 65536 ≤ 1073741824 := by
  have m1 := vL (a := s) (b := n) (A := 1073741824) (B := 65536) (by omega) (by omega)
  omega
theorem aLp {xs : List Body} {c : Con} {g : Con → Int} {b : Body} (hs : bN xs) (hx : ∀ b ∈ xs, Okb b) (hc : OkC xs c) (hg : -65536 ≤ g c ∧ g c ≤ 65536) (hb : b ∈ xs) : -1073741824 ≤ rC xs g c b ∧ rC xs g c b ≤ 1073741824 := by
  obtain ⟨l1, l2⟩ := oG hc.l
  obtain ⟨h1, h2⟩ := oG hc.h
  have ma := (hx _ l1).m; have mb := (hx _ h1).m
  unfold rC
  split
  · rename_i e
    have : sU xs c.low = b := eZ hs l1 hb (by rw [l2, e])
    have hr := aAk (c := c) (a := sU xs c.low) (b := sU xs c.high) (m := b.mass) hc.n (by rw [← this]; omega)
    have := (oE hr hg).2
    omega
  · split
    · rename_i e
      have : sU xs c.high = b := eZ hs h1 hb (by rw [h2, e])
      have hr := aAk (c := c) (a := sU xs c.low) (b := sU xs c.high) (m := b.mass) hc.n (by rw [← this]; omega)
      have := (oE hr hg).2
      omega
    · omega
theorem aDn {xs : List Body} {cs : List Con} {g : Con → Int} {b : Body} (hs : bN xs) (hx : ∀ b ∈ xs, Okb b) (hc : ∀ c ∈ cs, OkC xs c) (hg : ∀ c ∈ cs, -65536 ≤ g c ∧ g c ≤ 65536) (hb : b ∈ xs) : -(cs.length * 1073741824) ≤ mU xs cs g b ∧ mU xs cs g b ≤ cs.length * 1073741824 :=
  aIf (by decide) (fun c h => aLp hs hx (hc c h) (hg c h) hb)
theorem yI {xs : List Body} {cs : List Con} {g : Con → Int} {b : Body} (h : ∀ c ∈ cs, c.low ≠ b.key ∧ c.high ≠ b.key) : mU xs cs g b = 0 := by
  unfold mU
  induction cs with
  | nil => rfl
  | cons c cs ih =>
    have h0 := h c (by simp)
    rw [List.map_cons, List.sum_cons, ih (fun d hd => h d (by simp [hd]))]
    unfold rC
    rw [if_neg h0.1, if_neg h0.2]
    rfl
def aGv (b : Body) (s : Int) : Int := b.px + s + b.vx / 64
def aFh (b : Body) (s : Int) : Int := b.py + s + b.vy / 64
def rK (b : Body) (sx sy : Int) : Body := { b with px := iN (aGv b sx) 1073741824, py := iN (aFh b sy) 1073741824 }
def aIx (b : Body) (sx sy : Int) : Bool := decide (iN (aGv b sx) 1073741824 ≠ aGv b sx) || decide (iN (aFh b sy) 1073741824 ≠ aFh b sy)
def yJ (xs : List Body) (cs : List Con) (ys : List Body) : List Body := ys.map (fun b => rK b (mU xs cs (·.nx) b) (mU xs cs (·.ny) b))
def aLi (xs : List Body) (cs : List Con) (ys : List Body) : Bool := ys.any (fun b => aIx b (mU xs cs (·.nx) b) (mU xs cs (·.ny) b))
theorem aOx (b : Body) (sx sy : Int) : SameB (rK b sx sy) b := ⟨rfl, rfl, rfl, rfl, rfl, rfl⟩
theorem aIj (xs : List Body) (cs : List Con) (ys : List Body) : Like ys (yJ xs cs ys) := Like.map (fun b _ => aOx b _ _)
theorem aQt {b : Body} (h : Okb b) (sx sy : Int) : Okb (rK b sx sy) := ⟨h.r, h.a, h.m, h.c, ⟨(fF _ (by decide)).1, (fF _ (by decide)).2, (fF _ (by decide)).1, (fF _ (by decide)).2⟩, h.v⟩
theorem aSf {xs : List Body} {cs : List Con} {ys : List Body} (h : ∀ b ∈ ys, Okb b) : ∀ b ∈ yJ xs cs ys, Okb b := fun b hb => by
  obtain ⟨x, hx, rfl⟩ := List.mem_map.1 hb
  exact aQt (h x hx) _ _
def gT (xs : List Body) : List Body := (eQ (kE xs) (gR xs) 4).1
def eP (xs : List Body) : List Body := yJ xs (gR xs) (gT xs)
def sD (xs : List Body) : Bool := (xs.any nJ || (eQ (kE xs) (gR xs) 4).2) || aLi xs (gR xs) (gT xs)
def jP (b : Body) : Body := rK (iA b) 0 0
theorem jB (xs : List Body) : Like xs (eP xs) := (jS xs).trans ((gU _ _ 4).trans (aIj _ _ _))
theorem aSr {xs : List Body} (h : ∀ b ∈ xs, Okb b) : ∀ b ∈ eP xs, Okb b := aSf (pL (aAd h) 4)
end Go.Bil

namespace Go.Bil
structure Apart (xs : List Body) (cs : List Con) (k : Nat) (q : Int) : Prop where
  s : bN xs
  f : ∀ c ∈ cs, (c.low ≠ q ∧ 0 ≤ cH c.low xs) ∧ c.high ≠ q ∧ 0 ≤ cH c.high xs
  at_ : ∃ y, xs[k]? = some y ∧ y.key = q
theorem Apart.like {xs ys : List Body} {cs : List Con} {k : Nat} {q : Int} (h : Apart xs cs k q) (l : Like xs ys) : Apart ys cs k q := by
  refine ⟨l.sorted h.s, fun c hc => ?_, ?_⟩
  · rw [l.find, l.find]; exact h.f c hc
  · obtain ⟨y, hy, e⟩ := h.at_
    have hk := (List.getElem?_eq_some_iff.1 hy).1
    have h2 : ys[k]? = some (ys[k]'(by rw [l.len]; exact hk)) := List.getElem?_eq_getElem _
    exact ⟨_, h2, by rw [(l.at_ k _ _ hy h2).key, e]⟩
theorem nV {xs : List Body} {k : Nat} {q p : Int} (hs : bN xs) (hy : ∃ y, xs[k]? = some y ∧ y.key = q) (hp : p ≠ q) (hf : 0 ≤ cH p xs) : sU (xs.eraseIdx k) p = sU xs p := by
  obtain ⟨y, hy, e⟩ := hy
  obtain ⟨m1, k1⟩ := oG hf
  have m2 : sU xs p ∈ xs.eraseIdx k := (eX hs hy).2 ⟨m1, by rw [k1, e]; exact hp⟩
  have hf2 : 0 ≤ cH p (xs.eraseIdx k) := by rw [← k1]; exact vQ m2
  obtain ⟨m3, k3⟩ := oG hf2
  exact eZ (eJ hs k) m3 m2 (by rw [k3, k1])
theorem uZ {xs : List Body} {cs : List Con} {k : Nat} {q : Int} (h : Apart xs cs k q) (g : Con → Int) (b : Body) : eM (xs.eraseIdx k) cs g b = eM xs cs g b := by
  unfold eM
  refine congrArg List.sum (List.map_congr_left (fun c hc => ?_))
  have hf := h.f c hc
  unfold ctr jV
  rw [nV h.s h.at_ hf.1.1 hf.1.2, nV h.s h.at_ hf.2.1 hf.2.2]
theorem vI {xs : List Body} {cs : List Con} {k : Nat} {q : Int} (h : Apart xs cs k q) (g : Con → Int) (b : Body) : mU (xs.eraseIdx k) cs g b = mU xs cs g b := by
  unfold mU
  refine congrArg List.sum (List.map_congr_left (fun c hc => ?_))
  have hf := h.f c hc
  unfold rC
  rw [nV h.s h.at_ hf.1.1 hf.1.2, nV h.s h.at_ hf.2.1 hf.2.2]
theorem pC {α β : Type} (f : α → β) (l : List α) (k : Nat) : (l.eraseIdx k).map f = (l.map f).eraseIdx k := by rw [List.eraseIdx_eq_take_drop_succ, List.eraseIdx_eq_take_drop_succ, List.map_append, List.map_take, List.map_drop]
theorem aKo {xs : List Body} {cs : List Con} {k : Nat} {q : Int} (h : Apart xs cs k q) : lK (xs.eraseIdx k) cs = (lK xs cs).eraseIdx k := by
  unfold lK
  rw [← pC]
  refine List.map_congr_left (fun b _ => ?_)
  unfold wE
  rw [uZ h, uZ h]
theorem sR {xs : List Body} {cs : List Con} {k : Nat} {q : Int} (h : Apart xs cs k q) : ∀ n, (eQ (xs.eraseIdx k) cs n).1 = (eQ xs cs n).1.eraseIdx k
  | 0 => rfl
  | n + 1 => by
    show lK (eQ (xs.eraseIdx k) cs n).1 cs = _
    rw [sR h n, aKo (h.like (gU xs cs n))]
    rfl
theorem aKm {xs : List Body} {cs : List Con} {b : Body} (hb : Okb b) (h : ∀ c ∈ cs, c.low ≠ b.key ∧ c.high ≠ b.key) : wE xs cs b = b := by
  unfold wE
  rw [xI h, xI h, Int.add_zero, Int.add_zero, aHl ⟨hb.v.1, hb.v.2.1⟩, aHl ⟨hb.v.2.2.1, hb.v.2.2.2⟩]
theorem sN {xs : List Body} {cs : List Con} {k : Nat} {b : Body} (hb : Okb b) (hx : xs[k]? = some b) (h : ∀ c ∈ cs, c.low ≠ b.key ∧ c.high ≠ b.key) : ∀ n, (eQ xs cs n).1[k]? = some b
  | 0 => hx
  | n + 1 => by
    show (lK (eQ xs cs n).1 cs)[k]? = some b
    unfold lK
    rw [List.getElem?_map, sN hb hx h n]
    exact congrArg some (aKm hb h)
theorem aBx {xs : List Body} (hV : View xs) {k : Nat} {y : Body} (hy : xs[k]? = some y) (h : wH xs y.key = true) : (∀ c ∈ gR xs, c.low ≠ y.key ∧ c.high ≠ y.key) ∧ gR (xs.eraseIdx k) = gR xs := by
  have h0 := aDb hV hy h
  have h1 : ∀ c ∈ gR xs, c.low ≠ y.key ∧ c.high ≠ y.key := fun c hc => by
    refine Decidable.byContradiction (fun g => ?_)
    have : c ∈ aHw y.key (gR xs) := by
      unfold aHw
      exact List.mem_filter.2 ⟨hc, by unfold aUx; simp only [decide_eq_true_eq]; omega⟩
    rw [h0] at this
    cases this
  refine ⟨h1, ?_⟩
  rw [aLq hV.s hy]
  unfold aNc
  exact List.filter_eq_self.2 (fun c hc => by have := h1 c hc; simp only [decide_eq_true_eq]; omega)
theorem aEa {xs : List Body} (hV : View xs) {k : Nat} {y : Body} (hy : xs[k]? = some y) (h : wH xs y.key = true) : (eP xs)[k]? = some (jP y) ∧ eP (xs.eraseIdx k) = (eP xs).eraseIdx k := by
  obtain ⟨h1, h2⟩ := aBx hV hy h
  have hoc := qD hV.s hV.okb
  have hA : Apart xs (gR xs) k y.key := ⟨hV.s, fun c hc => ⟨⟨(h1 c hc).1, (hoc c hc).l⟩, (h1 c hc).2, (hoc c hc).h⟩, y, hy, rfl⟩
  have hym := List.mem_of_getElem? hy
  have hg : (kE xs)[k]? = some (iA y) := by unfold kE; rw [List.getElem?_map, hy]; rfl
  have hgk : (iA y).key = y.key := (yT y).key
  have hsk : (gT xs)[k]? = some (iA y) := sN (vZ (hV.okb y hym)) hg (fun c hc => by rw [hgk]; exact h1 c hc) 4
  refine ⟨?_, ?_⟩
  · unfold eP yJ
    rw [List.getElem?_map, hsk, Option.map_some, yI (fun c hc => by rw [hgk]; exact h1 c hc), yI (fun c hc => by rw [hgk]; exact h1 c hc)]
    rfl
  · have hse : gT (xs.eraseIdx k) = (gT xs).eraseIdx k := by
      unfold gT
      rw [h2]
      have : kE (xs.eraseIdx k) = (kE xs).eraseIdx k := by unfold kE; rw [pC]
      rw [this]
      exact sR (hA.like (jS xs)) 4
    unfold eP yJ
    rw [hse, h2, ← pC]
    refine List.map_congr_left (fun b _ => ?_)
    rw [vI hA, vI hA]
def iO (xs : List Body) : Nat → List Body
  | 0 => xs
  | k + 1 => eP (iO xs k)
def pF (xs : List Body) : Nat → Nat
  | 0 => 0
  | k + 1 => pF xs k + (gR (iO xs k)).length
def tX (xs : List Body) : Nat → Bool
  | 0 => false
  | k + 1 => tX xs k || sD (iO xs k)
theorem oV (xs : List Body) : ∀ k, Like xs (iO xs k)
  | 0 => Like.refl xs
  | k + 1 => (oV xs k).trans (jB _)
theorem aDp {xs : List Body} (h : ∀ b ∈ xs, Okb b) : ∀ k, ∀ b ∈ iO xs k, Okb b
  | 0 => h
  | k + 1 => aSr (aDp h k)
theorem aAm {xs : List Body} (hs : bN xs) (k : Nat) : bN (iO xs k) := (oV xs k).sorted hs
end Go.Bil

namespace Go.Bil
theorem nZ {xs : List Body} {k : Int} (hs : bN xs) (h : 0 ≤ cH k xs) : ∃ (p : Nat) (x : Body), xs[p]? = some x ∧ x.key = k ∧ rW k xs = p ∧ sU xs k = x ∧ x ∈ xs := by
  obtain ⟨p, x, hp, hk, hf⟩ := aHh h
  subst hk
  exact ⟨p, x, hp, rfl, pW (by have := (List.getElem?_eq_some_iff.1 hp).1; omega) (fun j c hj hc => cZ hs hj hc hp) (fun j c hj hc => by have := sP hs hj hp hc; omega), aPy hp hf, List.mem_of_getElem? hp⟩
theorem aBk {α : Type} {xs : List Body} (hs : bN xs) {pa pb : Nat} {xa xb : Body} (ha : xs[pa]? = some xa) (hb : xs[pb]? = some xb) (hne : xa.key < xb.key) {F G : Body → α} (h : ∀ b ∈ xs, b.key ≠ xa.key → b.key ≠ xb.key → G b = F b) : ((xs.map F).set pa (G xa)).set pb (G xb) = xs.map G := by
  apply List.ext_getElem?
  intro i
  have la := (List.getElem?_eq_some_iff.1 ha).1
  have lb := (List.getElem?_eq_some_iff.1 hb).1
  by_cases h1 : pb = i
  · subst h1
    rw [List.getElem?_set_self (by simpa using lb), List.getElem?_map, hb]; rfl
  · rw [List.getElem?_set_ne h1]
    by_cases h2 : pa = i
    · subst h2
      rw [List.getElem?_set_self (by simpa using la), List.getElem?_map, ha]; rfl
    · rw [List.getElem?_set_ne h2, List.getElem?_map, List.getElem?_map]
      cases hi : xs[i]? with
      | none => rfl
      | some b =>
        have e1 : b.key ≠ xa.key := by
          rcases Nat.lt_or_gt_of_ne h2 with g | g
          · have := cZ hs g ha hi; omega
          · have := cZ hs g hi ha; omega
        have e2 : b.key ≠ xb.key := by
          rcases Nat.lt_or_gt_of_ne h1 with g | g
          · have := cZ hs g hb hi; omega
          · have := cZ hs g hi hb; omega
        exact congrArg some (h b (List.mem_of_getElem? hi) e1 e2).symm
def zZ (xs : List Body) (g : Con → Int) (c : Con) (F : Body → Int) (b : Body) : Int := F b + ctr xs g c b
theorem aHc {xs : List Body} (hs : bN xs) {pa pb : Nat} {xa xb : Body} {c : Con} (ha : xs[pa]? = some xa) (hb : xs[pb]? = some xb) (ka : xa.key = c.low) (kb : xb.key = c.high) (hc : OkC xs c) (ba : sU xs c.low = xa) (bb : sU xs c.high = xb) (g : Con → Int) (F : Body → Int) :
    ((xs.map F).set pa (F xa - nG (kS c xa xb) xa.mass (g c))).set pb (F xb + nG (kS c xa xb) xb.mass (g c)) = xs.map (zZ xs g c F) := by
  have hne := hc.ne
  have e1 : zZ xs g c F xa = F xa - nG (kS c xa xb) xa.mass (g c) := by unfold zZ ctr jV; rw [if_pos ka.symm, ba, bb]; omega
  have e2 : zZ xs g c F xb = F xb + nG (kS c xa xb) xb.mass (g c) := by unfold zZ ctr jV; rw [if_neg (by omega), if_pos kb.symm, ba, bb]
  rw [← e1, ← e2]
  exact aBk hs ha hb (by omega) (fun b _ h1 h2 => by unfold zZ ctr; rw [if_neg (by omega), if_neg (by omega)]; omega)
theorem pI {α : Type} {l : List α} {i j : Nat} {x y : α} (h : l[j]? = some y) (hij : i ≠ j) : (l.set i x)[j]? = some y := by rw [List.getElem?_set_ne hij]; exact h
theorem xX {xs : List Body} {cs : List Con} {k : Nat} {c : Con} (h : cs[k]? = some c) (g : Con → Int) : zZ xs g c (fun b => eM xs (cs.take k) g b) = fun b => eM xs (cs.take (k + 1)) g b := funext fun b => (aKa h g b).symm
def bQ (z : Int) : List Value := [.int .i64 z]
theorem aSj (k : Nat) : List.replicate k ([.int .i64 0] : List Value) = (List.replicate k (0 : Int)).map bQ := by simp [bQ]
theorem aId {α β : Type} {l : List α} {n : Nat} (h : l.length = n) (z : β) : List.replicate n z = l.map (fun _ => z) := (List.eq_replicate_iff.2 ⟨by rw [List.length_map, h], fun b hb => by obtain ⟨_, _, e⟩ := List.mem_map.1 hb; exact e.symm⟩).symm
def bU (z : Int × Int) : List Value := [.int .i64 z.1, .int .i64 z.2]
theorem aMv (l : List (Int × Int)) : ∀ y ∈ l.map bU, y.length = 2 := by
  intro y hy
  obtain ⟨x, _, rfl⟩ := List.mem_map.1 hy
  rfl
theorem aRu (k : Nat) : List.replicate k ([.int .i64 0, .int .i64 0] : List Value) = (List.replicate k ((0, 0) : Int × Int)).map bU := by simp [bU]
def gP (xs : List Body) (cs : List Con) (b : Body) : Int × Int := (mU xs cs (·.nx) b, mU xs cs (·.ny) b)
def aGo (xs : List Body) (c : Con) (F : Body → Int × Int) (b : Body) : Int × Int := ((F b).1 + rC xs (·.nx) c b, (F b).2 + rC xs (·.ny) c b)
def aEc (s z : Int) (c : Con) (f : Int × Int) : Int × Int := (f.1 + z * (s * c.nx / 65536), f.2 + z * (s * c.ny / 65536))
theorem aSh {xs : List Body} (hs : bN xs) {pa pb : Nat} {xa xb : Body} {c : Con} (ha : xs[pa]? = some xa) (hb : xs[pb]? = some xb) (ka : xa.key = c.low) (kb : xb.key = c.high) (hc : OkC xs c) (ba : sU xs c.low = xa) (bb : sU xs c.high = xb) (F : Body → Int × Int) :
    ((xs.map F).set pa (aEc (mY c xa xb xa.mass) (-1) c (F xa))).set pb (aEc (mY c xa xb xb.mass) 1 c (F xb)) = xs.map (aGo xs c F) := by
  have hne := hc.ne
  have e1 : aGo xs c F xa = aEc (mY c xa xb xa.mass) (-1) c (F xa) := by unfold aGo rC aEc; rw [if_pos ka.symm, if_pos ka.symm, ba, bb]; apply Prod.ext <;> (try simp only) <;> omega
  have e2 : aGo xs c F xb = aEc (mY c xa xb xb.mass) 1 c (F xb) := by unfold aGo rC aEc; rw [if_neg (by omega), if_pos kb.symm, if_neg (by omega), if_pos kb.symm, ba, bb]; apply Prod.ext <;> (try simp only) <;> omega
  rw [← e1, ← e2]
  exact aBk hs ha hb (by omega) (fun b _ h1 h2 => by unfold aGo rC; rw [if_neg (by omega), if_neg (by omega), if_neg (by omega), if_neg (by omega)]; apply Prod.ext <;> (try simp only) <;> omega)
theorem aJo {xs : List Body} {cs : List Con} {k : Nat} {c : Con} (h : cs[k]? = some c) : aGo xs c (gP xs (cs.take k)) = gP xs (cs.take (k + 1)) := funext fun b => Prod.ext (zA h _ b).symm (zA h _ b).symm
theorem aX.awayB {w0 w : World} {X : List Nat} {S : List dW} {T sz : Nat} {A : Option Addr} {n c : Nat} {ls : List (List Value)} {e : dW} {b : Nat} {o : Obj} (h : aX T sz A n c ls e) (M : Mem w0 X S w) (i j : Nat) (hi : eF S i = some e) (hj : eF S j = some (some b, o)) (hij : Nat.beq i j = false) : 0 < n → ∀ q off, A = some ⟨q, off, none⟩ → q ∉ bZ [(some b, o)] := by
  intro hn q off hA hq
  obtain ⟨b2, L, h1, h2, _, _⟩ := h.block hn
  rw [h1] at hA
  injection hA with hA
  injection hA with hA
  subst hA
  have hqb : b2 = b := by simpa [bZ] using hq
  subst hqb
  rw [fY] at hi hj
  have ha := M.apart
  have hne : i ≠ j := fun g => by subst g; simp at hij
  have hli := (List.getElem?_eq_some_iff.1 hi).1
  have hlj := (List.getElem?_eq_some_iff.1 hj).1
  have key : ∀ (a b : Nat) (x y : dW), a < b → S[a]? = some x → S[b]? = some y → x.1 = some b2 → y.1 = some b2 → False := fun p r x y hpr hx hy ex ey => by
    have e1 : S = S.take r ++ S.drop r := (List.take_append_drop r S).symm
    rw [e1, fZ] at ha
    have m1 : b2 ∈ bZ (S.take r) := eT.2 ⟨x.2, by rw [← ex]; exact List.mem_of_getElem? (by rw [List.getElem?_take_of_lt hpr]; exact hx)⟩
    have m2 : b2 ∈ bZ (S.drop r) := eT.2 ⟨y.2, by rw [← ey]; exact List.mem_of_getElem? (i := 0) (by rw [List.getElem?_drop]; exact hy)⟩
    exact (List.nodup_append.1 ha).2.2 _ m1 _ m2 rfl
  rcases Nat.lt_or_gt_of_ne hne with g | g
  · exact key i j _ _ g hi hj (by rw [h2]) rfl
  · exact key j i _ _ g hj hi rfl (by rw [h2])
end Go.Bil
