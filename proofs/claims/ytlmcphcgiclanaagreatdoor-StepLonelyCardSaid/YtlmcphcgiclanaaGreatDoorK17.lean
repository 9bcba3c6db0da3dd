/- Part of the proof of the laws of this seat: MdP, MdQ, MdR. No conditions. -/
import Derived.Test.YtlmcphcgiclanaaGreatDoorK15
import Derived.Test.YtlmcphcgiclanaaGreatDoorK16
import Derived.Test.YtlmcphcgiclanaaGreatDoorK3
set_option linter.unusedVariables false
set_option linter.unusedSimpArgs false
set_option linter.unnecessarySimpa false
namespace Go.Bil
def bH (p : Int × Int) : List Value := [.int .u32 p.1, .int .u32 p.2]
theorem xD (p : Int × Int) : (bH p).length = 2 := rfl
def wN (a b : Int) : Int × Int := (min a b, max a b)
theorem aLv (a b : Int) : wN a b = wN b a := by unfold wN; apply Prod.ext <;> simp only <;> omega
def sX (a : Int) (xs : List Int) : List (Int × Int) := (xs.filter (fun x => decide (a ≠ x))).map (wN a)
def sS (l : List Int) (k : Nat) : List (Int × Int) := (List.range k).flatMap (fun p => sX (l.getD p 0) (l.take p))
def aMx (l : List Int) : List (Int × Int) := sS l l.length
def lX (g : Nat → List Int) (n : Nat) : List (Int × Int) := (List.range n).flatMap (fun j => aMx (g j))
theorem uM {a : Int} {xs : List Int} {z : Int × Int} : z ∈ sX a xs ↔ ∃ x ∈ xs, a ≠ x ∧ z = wN a x := by
  simp only [sX, List.mem_map, List.mem_filter, decide_eq_true_eq]
  constructor
  · rintro ⟨x, ⟨h1, h2⟩, rfl⟩; exact ⟨x, h1, h2, rfl⟩
  · rintro ⟨x, h1, h2, rfl⟩; exact ⟨x, ⟨h1, h2⟩, rfl⟩
theorem xU {a x : Int} {l : List Int} {q : Nat} (h : l[q]? = some x) (z : Int × Int) : z ∈ sX a (l.take (q + 1)) ↔ (a ≠ x ∧ z = wN a x) ∨ z ∈ sX a (l.take q) := by
  rw [uM, uM, cP h]
  constructor
  · rintro ⟨y, hy, h1, h2⟩
    rcases List.mem_append.1 hy with hy | hy
    · exact .inr ⟨y, hy, h1, h2⟩
    · simp only [List.mem_singleton] at hy; subst hy; exact .inl ⟨h1, h2⟩
  · rintro (⟨h1, h2⟩ | ⟨y, hy, h1, h2⟩)
    · exact ⟨x, by simp, h1, h2⟩
    · exact ⟨y, List.mem_append_left _ hy, h1, h2⟩
theorem aFu {l : List Int} {k : Nat} {a : Int} (h : l[k]? = some a) : sS l (k + 1) = sS l k ++ sX a (l.take k) := by
  unfold sS
  rw [List.range_succ, List.flatMap_append]
  simp [List.getD_eq_getElem?_getD, h]
theorem aFb (g : Nat → List Int) (n : Nat) : lX g (n + 1) = lX g n ++ aMx (g n) := by
  unfold lX
  rw [List.range_succ, List.flatMap_append]
  simp
theorem aOs {l : List Int} {z : Int × Int} : z ∈ aMx l ↔ ∃ a ∈ l, ∃ b ∈ l, a ≠ b ∧ z = wN a b := by
  simp only [aMx, sS, List.mem_flatMap, List.mem_range, uM]
  constructor
  · rintro ⟨p, hp, x, hx, h1, h2⟩
    have e : l.getD p 0 = l[p] := by simp [List.getD_eq_getElem?_getD, hp]
    exact ⟨_, by rw [e]; exact List.getElem_mem hp, x, List.mem_of_mem_take hx, h1, h2⟩
  · rintro ⟨a, ha, b, hb, h1, h2⟩
    obtain ⟨p, hp⟩ := List.getElem?_of_mem ha
    obtain ⟨q, hq⟩ := List.getElem?_of_mem hb
    have hpl := (List.getElem?_eq_some_iff.1 hp).1
    have hql := (List.getElem?_eq_some_iff.1 hq).1
    rcases Nat.lt_trichotomy p q with h | h | h
    · refine ⟨q, hql, a, ?_, ?_, ?_⟩
      · exact List.mem_of_getElem? (i := p) (by rw [List.getElem?_take_of_lt h]; exact hp)
      · rw [List.getD_eq_getElem?_getD, hq]; exact fun e => h1 e.symm
      · rw [List.getD_eq_getElem?_getD, hq, h2]; exact aLv a b
    · subst h; rw [hp] at hq; injection hq with hq; exact absurd hq h1
    · refine ⟨p, hpl, b, ?_, ?_, ?_⟩
      · exact List.mem_of_getElem? (i := q) (by rw [List.getElem?_take_of_lt h]; exact hq)
      · rw [List.getD_eq_getElem?_getD, hp]; exact h1
      · rw [List.getD_eq_getElem?_getD, hp]; exact h2
theorem rL {g : Nat → List Int} {n : Nat} {z : Int × Int} : z ∈ lX g n ↔ ∃ j, j < n ∧ ∃ a ∈ g j, ∃ b ∈ g j, a ≠ b ∧ z = wN a b := by
  simp only [lX, List.mem_flatMap, List.mem_range, aOs]
theorem uC {ks : List Int} {q p : Nat} {x : Int} (h : ks[q]? = some x) (hq : q < p) : (((ks.map gS).drop 0).take (p - 0))[q]? = some (gS x) := by
  rw [List.getElem?_take_of_lt (by omega), List.drop_zero, List.getElem?_map, h]
  rfl
def ltP (a b : Int × Int) : Prop := a.1 < b.1 ∨ (a.1 = b.1 ∧ a.2 < b.2)
instance (a b : Int × Int) : Decidable (ltP a b) := by unfold ltP; infer_instance
def aKy (a b : Int × Int) : Int := if mX a.1 b.1 = 0 then mX a.2 b.2 else mX a.1 b.1
theorem aCh {a b : Int × Int} : aKy a b < 0 ↔ ltP a b := by
  unfold aKy ltP mX
  (repeat' split) <;> omega
theorem yY {a b c : Int × Int} (h : ltP a b) (h' : ltP b c) : ltP a c := by unfold ltP at *; omega
theorem jX {a : Int × Int} : ¬ ltP a a := by unfold ltP; omega
theorem aIi {a b : Int × Int} (h : a ≠ b) (h' : ¬ ltP b a) : ltP a b := by
  unfold ltP at *
  have : a.1 ≠ b.1 ∨ a.2 ≠ b.2 := by
    by_cases h1 : a.1 = b.1
    · exact .inr fun h2 => h (Prod.ext h1 h2)
    · exact .inl h1
  omega
abbrev Asc (l : List (Int × Int)) : Prop := l.Pairwise ltP
theorem pD : ∀ {l m : List (Int × Int)}, Asc l → Asc m → (∀ z, z ∈ l ↔ z ∈ m) → l = m
  | [], [], _, _, _ => rfl
  | [], b :: m, _, _, h => absurd ((h b).2 (by simp)) (by simp)
  | a :: l, [], _, _, h => absurd ((h a).1 (by simp)) (by simp)
  | a :: l, b :: m, h1, h2, h => by
    have e1 := List.pairwise_cons.1 h1
    have e2 := List.pairwise_cons.1 h2
    have hab : a = b := by
      rcases List.mem_cons.1 ((h a).1 (by simp)) with e | e
      · exact e
      · rcases List.mem_cons.1 ((h b).2 (by simp)) with e' | e'
        · exact e'.symm
        · exact absurd (yY (e2.1 a e) (e1.1 b e')) jX
    subst hab
    refine congrArg (a :: ·) (pD e1.2 e2.2 fun z => ⟨fun hz => ?_, fun hz => ?_⟩)
    · rcases List.mem_cons.1 ((h z).1 (List.mem_cons_of_mem _ hz)) with e | e
      · subst e; exact absurd (e1.1 z hz) jX
      · exact e
    · rcases List.mem_cons.1 ((h z).2 (List.mem_cons_of_mem _ hz)) with e | e
      · subst e; exact absurd (e2.1 z hz) jX
      · exact e
theorem aJf {l : List (Int × Int)} (h : Asc l) : l.Nodup := h.imp fun hab e => by subst e; exact jX hab
theorem vV : ∀ {l m : List (Int × Int)}, l.Nodup → (∀ z ∈ l, z ∈ m) → l.length ≤ m.length
  | [], m, _, _ => by simp
  | a :: l, m, h, hs => by
    have e := List.nodup_cons.1 h
    have ha := hs a (by simp)
    have := vV (l := l) (m := m.erase a) e.2 fun z hz => (List.mem_erase_of_ne (fun e' => by subst e'; exact e.1 hz)).2 (hs z (List.mem_cons_of_mem _ hz))
    rw [List.length_erase_of_mem ha] at this
    have hpos : 0 < m.length := List.length_pos_of_mem ha
    simp only [List.length_cons]
    omega
def wL (ks : List Int) : List (Int × Int) := ks.flatMap (fun a => ks.map (fun b => (a, b)))
theorem aJp {ks : List Int} {z : Int × Int} : z ∈ wL ks ↔ z.1 ∈ ks ∧ z.2 ∈ ks := by
  simp only [wL, List.mem_flatMap, List.mem_map]
  constructor
  · rintro ⟨a, ha, b, hb, rfl⟩; exact ⟨ha, hb⟩
  · rintro ⟨h1, h2⟩; exact ⟨z.1, h1, z.2, h2, rfl⟩
theorem aKf (ks : List Int) : (wL ks).length = ks.length * ks.length := by
  unfold wL
  have : ∀ l : List Int, (l.flatMap (fun a => ks.map (fun b => (a, b)))).length = l.length * ks.length := by
    intro l
    induction l with
    | nil => simp
    | cons a l ih => simp only [List.flatMap_cons, List.length_append, ih, List.length_map, List.length_cons, Nat.add_mul, Nat.one_mul]; omega
  exact this ks
theorem aRg {ks : List Int} {a b : Int} (ha : a ∈ ks) (hb : b ∈ ks) : wN a b ∈ wL ks := by
  rw [aJp]
  unfold wN
  simp only [Int.min_def, Int.max_def]
  constructor <;> split <;> assumption
end Go.Bil
namespace Go.Bil
theorem aYs (w : World) (o p q : Obj) : ∃ n os, ({ ({ ({ ({ w with heap := w.heap.push o } : World) with heap := (w.heap.push o).push p } : World) with drawn := w.drawn + 1 } : World) with heap := ((w.heap.push o).push p).push q } : World) = Go.Sort.grow (w.drewN n) os := ⟨1, #[o, p, q], by
  have e : ((w.heap.push o).push p).push q = w.heap ++ #[o, p, q] := by apply Array.ext'; simp
  simp [Go.Sort.grow, e, World.drewN]
  exact ⟨rfl, rfl, rfl⟩⟩
theorem Mem.drewE {w0 w : World} {X : List Nat} {S : List dW} (M : Mem w0 X S w) : Mem w0 X S { w with drawn := w.drawn + 1 } := M.drew ⟨rfl, rfl, rfl, Nat.le_refl _, fun _ _ => rfl⟩ rfl
theorem Mem.notNew {w0 w : World} {S : List dW} {b : Nat} (k : Nat) (M : Mem w0 [] S w) (hb : b < w0.heap.size) : b ∉ bZ (S.take k) := by
  intro h
  obtain ⟨o, ho⟩ := eT.1 h
  rcases (M.own b o (List.mem_of_mem_take ho)).2 with h | h
  · omega
  · cases h
theorem aEj {α : Type} {L T : List (α × Nat)} (hT : (T.map (·.2)).Nodup) (hs : ∀ p ∈ T, p ∈ L) : T.length ≤ L.length := by
  have : ∀ {T L : List (α × Nat)}, (T.map (·.2)).Nodup → (∀ p ∈ T, p ∈ L) → T.length ≤ L.length := by
    intro T
    induction T with
    | nil => intros; simp
    | cons a T ih =>
      intro L h hs
      simp only [List.map_cons, List.nodup_cons] at h
      obtain ⟨i, hi⟩ := List.getElem?_of_mem (hs a (by simp))
      have hlt := (List.getElem?_eq_some_iff.1 hi).1
      have := ih (L := L.eraseIdx i) h.2 fun p hp => by
        have hpL := (mM hi).mem_iff.1 (hs p (List.mem_cons_of_mem _ hp))
        rcases List.mem_cons.1 hpL with e | e
        · subst e; exact absurd (List.mem_map.2 ⟨p, hp, rfl⟩) h.1
        · exact e
      rw [List.length_eraseIdx_of_lt hlt] at this
      simp only [List.length_cons]
      omega
  exact this hT hs
theorem aJs {α : Type} {T : List (α × Nat)} {p : α × Nat} (hT : (T.map (·.2)).Nodup) (hp : p.2 ∉ T.map (·.2)) : ((T ++ [p]).map (·.2)).Nodup := by
  simp only [List.map_append, List.map_cons, List.map_nil, List.nodup_append, List.nodup_cons, List.not_mem_nil, not_false_eq_true, List.nodup_nil, and_self, List.mem_singleton, true_and]
  exact ⟨hT, fun x hx y hy e => hp (by rw [← hy, ← e]; exact hx)⟩
theorem aOb : Go.Sort.SWO (Go.Proofs.ltOf aKy) := by
  have e : ∀ x y : Int × Int, Go.Proofs.ltOf aKy x y = decide (ltP x y) := fun x y => decide_eq_decide.2 aCh
  refine ⟨fun x => ?_, fun x y z => ?_, fun x y z => ?_⟩
  · rw [e]; exact decide_eq_false jX
  · rw [e, e, e]; simp only [decide_eq_true_eq]; exact yY
  · rw [e, e, e]; simp only [decide_eq_false_iff_not]; unfold ltP; omega
end Go.Bil
namespace Go.Bil
theorem aXe {l : List (Int × Int)} (h : l.Nodup) (h' : l.Pairwise fun a b => ¬ ltP b a) : Asc l := List.Pairwise.imp₂ (fun a b hab hba => aIi hab hba) h h'
end Go.Bil
namespace Go.Bil
theorem aKd {A A' C : List (Int × Int)} {xa xb : Int} {l : List Int} {q : Nat} (hZ : ∀ z, z ∈ A' ↔ z = wN xa xb ∨ z ∈ A) (hI : ∀ z, z ∈ A ↔ z ∈ C ++ sX xa (l.take q)) (hxb : l[q]? = some xb) (hne : xa ≠ xb) : ∀ z, z ∈ A' ↔ z ∈ C ++ sX xa (l.take (q + 1)) := fun z => by
  rw [hZ z, hI z, List.mem_append, List.mem_append, xU hxb]
  constructor
  · rintro (h | h | h)
    · exact .inr (.inl ⟨hne, h⟩)
    · exact .inl h
    · exact .inr (.inr h)
  · rintro (h | ⟨_, h⟩ | h)
    · exact .inr (.inl h)
    · exact .inl h
    · exact .inr (.inr h)
theorem aIs {A C : List (Int × Int)} {xa xb : Int} {l : List Int} {q : Nat} (hI : ∀ z, z ∈ A ↔ z ∈ C ++ sX xa (l.take q)) (hxb : l[q]? = some xb) (hne : ¬ xa ≠ xb) : ∀ z, z ∈ A ↔ z ∈ C ++ sX xa (l.take (q + 1)) := fun z => by
  rw [hI z, List.mem_append, List.mem_append, xU hxb]
  constructor
  · rintro (h | h)
    · exact .inl h
    · exact .inr (.inr h)
  · rintro (h | ⟨h, _⟩ | h)
    · exact .inl h
    · exact absurd h hne
    · exact .inr h
theorem aIu {g : Nat → List Int} {ks : List Int} (hks : ∀ j, j < 1024 → ∀ x ∈ g j, x ∈ ks) {z : Int × Int} (hz : z ∈ lX g 1024) : z ∈ wL ks := by
  obtain ⟨j, hj, a, ha, b, hb, _, rfl⟩ := rL.1 hz
  exact aRg (hks j hj a ha) (hks j hj b hb)
end Go.Bil
namespace Go.Bil
end Go.Bil

namespace Go.Bil
def z0B : Bx := ⟨0, 0, 0, 0⟩
def oU (a : Bx) : Value := .agg (cT a).toArray
def bxM (xs : List Body) : Int → Option Bx := fun k => (xs.reverse.find? (fun b => decide (b.key = k))).map dQ
theorem aRb (k : Int) : bxM [] k = none := rfl
theorem aNe {xs : List Body} {k : Nat} {b : Body} (h : xs[k]? = some b) (q : Int) : bxM (xs.take (k + 1)) q = if q = b.key then some (dQ b) else bxM (xs.take k) q := by
  unfold bxM
  rw [cP h, List.reverse_append]
  simp only [List.reverse_cons, List.reverse_nil, List.nil_append, List.singleton_append, List.find?_cons]
  by_cases e : q = b.key
  · rw [if_pos e, decide_eq_true e.symm]; rfl
  · rw [if_neg e, decide_eq_false (fun h => e h.symm)]
theorem mE {xs : List Body} (hs : bN xs) {b : Body} (hb : b ∈ xs) : bxM xs b.key = some (dQ b) := by
  unfold bxM
  cases hf : xs.reverse.find? (fun c => decide (c.key = b.key)) with
  | none =>
    have := List.find?_eq_none.1 hf b (by simpa using hb)
    simp at this
  | some c =>
    have hc := List.find?_some hf
    have hm : c ∈ xs := by simpa using List.mem_of_find?_eq_some hf
    simp only [decide_eq_true_eq] at hc
    obtain ⟨i, hi⟩ := List.getElem?_of_mem hm
    obtain ⟨j, hj⟩ := List.getElem?_of_mem hb
    have : i = j := by
      rcases Nat.lt_trichotomy i j with h | h | h
      · have := cZ hs h hi hj; omega
      · exact h
      · have := cZ hs h hj hi; omega
    subst this
    rw [hi] at hj
    injection hj with hj
    subst hj
    rfl
def apB (f : Int → Option Bx) (z : Int × Int) : Bool := decide (¬ qU ((f z.1).getD z0B) ((f z.2).getD z0B))
def gOf (xs : List Body) : Nat → List Int := fun n => (xs.filter (fun b => decide (n ∈ (fE (dQ b)).map dE))).map (·.key)
theorem aMg {xs : List Body} {k : Nat} {b : Body} (h : xs[k]? = some b) : gOf (xs.take (k + 1)) = oM (gOf (xs.take k)) b.key ((fE (dQ b)).map dE) := by
  funext n
  unfold gOf oM
  rw [cP h, List.filter_append, List.map_append]
  by_cases e : n ∈ (fE (dQ b)).map dE
  · rw [if_pos e]; simp only [List.filter_cons, decide_eq_true e, if_true, List.filter_nil, List.map_cons, List.map_nil]
  · rw [if_neg e]; simp only [List.filter_cons, decide_eq_false e, Bool.false_eq_true, if_false, List.filter_nil, List.map_nil, List.append_nil]
theorem mR {xs : List Body} {n : Nat} {x : Int} : x ∈ gOf xs n ↔ ∃ b ∈ xs, n ∈ (fE (dQ b)).map dE ∧ b.key = x := by
  simp only [gOf, List.mem_map, List.mem_filter, decide_eq_true_eq]
  constructor
  · rintro ⟨b, ⟨h1, h2⟩, h3⟩; exact ⟨b, h1, by simpa using h2, h3⟩
  · rintro ⟨b, h1, h2, h3⟩; exact ⟨b, ⟨h1, by simpa using h2⟩, h3⟩
theorem aRl (xs : List Body) (n : Nat) : (gOf xs n).length ≤ xs.length := by
  unfold gOf
  rw [List.length_map]
  exact List.length_filter_le _ _
def aFo (xs : List Body) (i k : Nat) : List (Int × Int) :=
  (((xs.take k).drop (i + 1)).filter (fun b => decide (qU (dQ (xs.getD i default)) (dQ b)))).map (fun b => ((xs.getD i default).key, b.key))
def oR (xs : List Body) (i : Nat) : List (Int × Int) := (List.range i).flatMap (fun j => aFo xs j xs.length)
def gJ (xs : List Body) : List (Int × Int) := oR xs xs.length
theorem uP (xs : List Body) (i : Nat) : oR xs (i + 1) = oR xs i ++ aFo xs i xs.length := by
  unfold oR
  rw [List.range_succ, List.flatMap_append]
  simp
theorem aQe (xs : List Body) (i k : Nat) : (aFo xs i k).length ≤ xs.length := by
  unfold aFo
  rw [List.length_map]
  refine Nat.le_trans (List.length_filter_le _ _) ?_
  simp
  omega
theorem xL (xs : List Body) : ∀ i, (oR xs i).length ≤ i * xs.length
  | 0 => by simp [oR]
  | i + 1 => by
    rw [uP, List.length_append, Nat.add_mul, Nat.one_mul]
    have := xL xs i
    have := aQe xs i xs.length
    omega
theorem qL {xs : List Body} {i : Nat} {a : Body} (ha : xs[i]? = some a) {z : Int × Int} : z ∈ aFo xs i xs.length ↔ ∃ (k : Nat) (b : Body), i < k ∧ xs[k]? = some b ∧ qU (dQ a) (dQ b) ∧ z = (a.key, b.key) := by
  unfold aFo
  have e : xs.getD i default = a := by rw [List.getD_eq_getElem?_getD, ha]; rfl
  rw [e, List.take_of_length_le (Nat.le_refl _)]
  simp only [List.mem_map, List.mem_filter, decide_eq_true_eq]
  constructor
  · rintro ⟨b, ⟨h1, h2⟩, rfl⟩
    obtain ⟨q, hq⟩ := List.getElem?_of_mem h1
    rw [List.getElem?_drop] at hq
    exact ⟨i + 1 + q, b, by omega, hq, h2, rfl⟩
  · rintro ⟨k, b, h1, h2, h3, rfl⟩
    refine ⟨b, ⟨List.mem_of_getElem? (i := k - (i + 1)) ?_, h3⟩, rfl⟩
    rw [List.getElem?_drop, show i + 1 + (k - (i + 1)) = k by omega]
    exact h2
theorem yO {xs : List Body} {z : Int × Int} : z ∈ gJ xs ↔ ∃ (i k : Nat) (a b : Body), i < k ∧ xs[i]? = some a ∧ xs[k]? = some b ∧ qU (dQ a) (dQ b) ∧ z = (a.key, b.key) := by
  simp only [gJ, oR, List.mem_flatMap, List.mem_range]
  constructor
  · rintro ⟨i, hi, hz⟩
    obtain ⟨a, ha⟩ := cS (xs := xs) (k := i) rfl hi
    obtain ⟨k, b, h1, h2, h3, h4⟩ := (qL ha).1 hz
    exact ⟨i, k, a, b, h1, ha, h2, h3, h4⟩
  · rintro ⟨i, k, a, b, h1, h2, h3, h4, h5⟩
    exact ⟨i, (List.getElem?_eq_some_iff.1 h2).1, (qL h2).2 ⟨k, b, h1, h3, h4, h5⟩⟩
theorem xN {xs : List Body} (hs : bN xs) : ∀ i, i ≤ xs.length → Asc (oR xs i)
  | 0, _ => by simp [oR]
  | i + 1, hi => by
    obtain ⟨a, ha⟩ := cS (xs := xs) (k := i) rfl (by omega)
    rw [uP]
    refine List.pairwise_append.2 ⟨xN hs i (by omega), ?_, ?_⟩
    · unfold aFo
      have e : xs.getD i default = a := by rw [List.getD_eq_getElem?_getD, ha]; rfl
      rw [e]
      have hsub : List.Sublist (((xs.take xs.length).drop (i + 1)).filter (fun b => decide (qU (dQ a) (dQ b)))) xs := List.filter_sublist.trans ((List.drop_sublist _ _).trans (List.take_sublist _ _))
      have := List.Pairwise.sublist hsub hs
      exact List.pairwise_map.2 (this.imp fun h => .inr ⟨rfl, h⟩)
    · intro x hx y hy
      obtain ⟨k, b, _, hb, _, rfl⟩ := (qL ha).1 hy
      simp only [oR, List.mem_flatMap, List.mem_range] at hx
      obtain ⟨j, hj, hx⟩ := hx
      obtain ⟨c, hc⟩ := cS (xs := xs) (k := j) rfl (by omega)
      obtain ⟨_, _, _, _, _, rfl⟩ := (qL hc).1 hx
      exact .inl (cZ hs hj hc ha)
theorem rB {xs : List Body} (hs : bN xs) : Asc (gJ xs) := xN hs xs.length (Nat.le_refl _)
theorem qK {a b : Bx} (h : qU a b) : qU b a := by unfold qU at *; omega
theorem wA {xs : List Body} (hs : bN xs) {ps : List (Int × Int)} (hp : Asc ps) (hm : ∀ z, z ∈ ps ↔ z ∈ lX (gOf xs) 1024) : ps.filter (fun z => !apB (bxM xs) z) = gJ xs := by
  refine pD (List.Pairwise.sublist List.filter_sublist hp) (rB hs) fun z => ?_
  rw [List.mem_filter, hm z, rL, yO]
  unfold apB
  simp only [Bool.not_eq_true', decide_eq_false_iff_not, Decidable.not_not]
  constructor
  · rintro ⟨⟨j, hj, ka, hka, kb, hkb, hne, rfl⟩, ho⟩
    obtain ⟨a, ha, _, rfl⟩ := mR.1 hka
    obtain ⟨b, hb, _, rfl⟩ := mR.1 hkb
    obtain ⟨p, hp⟩ := List.getElem?_of_mem ha
    obtain ⟨q, hq⟩ := List.getElem?_of_mem hb
    rcases Nat.lt_trichotomy p q with h | h | h
    · have hlt := cZ hs h hp hq
      have e : wN a.key b.key = (a.key, b.key) := by unfold wN; apply Prod.ext <;> simp only <;> omega
      rw [e] at ho ⊢
      simp only [mE hs ha, mE hs hb, Option.getD_some] at ho
      exact ⟨p, q, a, b, h, hp, hq, ho, rfl⟩
    · subst h; rw [hp] at hq; injection hq with hq; subst hq; exact absurd rfl hne
    · have hlt := cZ hs h hq hp
      have e : wN a.key b.key = (b.key, a.key) := by unfold wN; apply Prod.ext <;> simp only <;> omega
      rw [e] at ho ⊢
      simp only [mE hs ha, mE hs hb, Option.getD_some] at ho
      exact ⟨q, p, b, a, h, hq, hp, ho, rfl⟩
  · rintro ⟨i, k, a, b, hik, ha, hb, ho, rfl⟩
    have ham := List.mem_of_getElem? ha
    have hbm := List.mem_of_getElem? hb
    have hlt := cZ hs hik ha hb
    refine ⟨?_, by simp only [mE hs ham, mE hs hbm, Option.getD_some]; exact ho⟩
    obtain ⟨c, hc1, hc2⟩ := aNr ho
    refine ⟨dE c, hJ c, a.key, mR.2 ⟨a, ham, List.mem_map.2 ⟨c, hc1, rfl⟩, rfl⟩, b.key, mR.2 ⟨b, hbm, List.mem_map.2 ⟨c, hc2, rfl⟩, rfl⟩, by omega, ?_⟩
    unfold wN
    apply Prod.ext <;> simp only <;> omega
def aJc : List Body → List (Int × Int)
  | [] => []
  | a :: l => l.map (fun b => (a.key, b.key)) ++ aJc l
theorem aBq : ∀ xs : List Body, 2 * (aJc xs).length = xs.length * (xs.length - 1)
  | [] => rfl
  | a :: l => by
    have ih := aBq l
    simp only [aJc, List.length_append, List.length_map, List.length_cons, Nat.add_sub_cancel, Nat.mul_add, ih]
    cases hl : l.length with
    | zero => simp
    | succ n => simp only [Nat.add_sub_cancel, Nat.add_mul, Nat.mul_add]; omega
theorem aBg {xs : List Body} (hs : bN xs) {a b : Body} (ha : a ∈ xs) (hb : b ∈ xs) (hlt : a.key < b.key) : (a.key, b.key) ∈ aJc xs := by
  induction xs with
  | nil => cases ha
  | cons c l ih =>
    have e := List.pairwise_cons.1 hs
    unfold aJc
    rcases List.mem_cons.1 ha with h1 | h1
    · subst h1
      rcases List.mem_cons.1 hb with h2 | h2
      · subst h2; omega
      · exact List.mem_append_left _ (List.mem_map.2 ⟨b, h2, rfl⟩)
    · rcases List.mem_cons.1 hb with h2 | h2
      · subst h2; have := e.1 a h1; omega
      · exact List.mem_append_right _ (ih e.2 h1 h2)
theorem aJb {xs : List Body} (hs : bN xs) {ps : List (Int × Int)} (hp : Asc ps) (hm : ∀ z, z ∈ ps ↔ z ∈ lX (gOf xs) 1024) : 2 * ps.length ≤ xs.length * (xs.length - 1) := by
  rw [← aBq]
  have := vV (aJf hp) (m := aJc xs) fun z hz => by
    obtain ⟨j, hj, ka, hka, kb, hkb, hne, rfl⟩ := rL.1 ((hm z).1 hz)
    obtain ⟨a, ha, _, rfl⟩ := mR.1 hka
    obtain ⟨b, hb, _, rfl⟩ := mR.1 hkb
    rcases Int.lt_or_le a.key b.key with h | h
    · have e : wN a.key b.key = (a.key, b.key) := by unfold wN; apply Prod.ext <;> simp only <;> omega
      rw [e]; exact aBg hs ha hb h
    · have e : wN a.key b.key = (b.key, a.key) := by unfold wN; apply Prod.ext <;> simp only <;> omega
      rw [e]; exact aBg hs hb ha (by omega)
  omega
end Go.Bil
namespace Go.Bil
theorem vA {α : Type} {p : α → Bool} : ∀ {l : List α} {k : Nat} {x : α}, l[k]? = some x → p x = true → (∀ (j : Nat) (y : α), j < k → l[j]? = some y → p y = false) → l.findIdx p = k
  | a :: l, 0, x, h, hp, _ => by simp only [List.getElem?_cons_zero, Option.some.injEq] at h; subst h; simp [List.findIdx_cons, hp]
  | a :: l, k + 1, x, h, hp, hn => by
    have h0 := hn 0 a (by omega) rfl
    have ih := vA (l := l) (k := k) (by simpa using h) hp (fun j y hj hy => hn (j + 1) y (by omega) (by simpa using hy))
    simp [List.findIdx_cons, h0, ih]
theorem uT {α : Type} {p : α → Bool} : ∀ {l : List α}, (∀ (j : Nat) (y : α), l[j]? = some y → p y = false) → l.findIdx p = l.length
  | [], _ => rfl
  | a :: l, h => by
    have h0 := h 0 a rfl
    have ih := uT (l := l) (fun j y hy => h (j + 1) y (by simpa using hy))
    simp [List.findIdx_cons, h0, ih]
theorem nB {α : Type} {p : α → Bool} {l : List α} {j : Nat} {y : α} (hj : j < l.findIdx p) (hy : l[j]? = some y) : p y = false := by
  have hjl := (List.getElem?_eq_some_iff.1 hy).1
  have := List.not_of_lt_findIdx hj
  have e := (List.getElem?_eq_some_iff.1 hy).2
  rw [e] at this
  simpa using this
theorem aDr {α : Type} {p : α → Bool} {l : List α} (h : ¬ l.findIdx p < l.length) : l.filter (fun z => !p z) = l := by
  refine List.filter_eq_self.2 fun x hx => ?_
  obtain ⟨i, hi⟩ := List.getElem?_of_mem hx
  have := nB (p := p) (l := l) (j := i) (by have := (List.getElem?_eq_some_iff.1 hi).1; omega) hi
  simp [this]
theorem zQ {α : Type} {p : α → Bool} {l : List α} (h : l.findIdx p < l.length) : l.take (l.findIdx p) = (l.take (l.findIdx p + 1)).filter (fun z => !p z) := by
  obtain ⟨x, hx⟩ := cS (xs := l) (k := l.findIdx p) rfl h
  have hp : p x = true := by
    have := List.findIdx_getElem (w := h)
    rwa [(List.getElem?_eq_some_iff.1 hx).2] at this
  rw [cP hx, List.filter_append]
  have h1 : (l.take (l.findIdx p)).filter (fun z => !p z) = l.take (l.findIdx p) := by
    refine List.filter_eq_self.2 fun y hy => ?_
    obtain ⟨i, hi⟩ := List.getElem?_of_mem hy
    have hil := (List.getElem?_eq_some_iff.1 hi).1
    rw [List.length_take] at hil
    rw [List.getElem?_take_of_lt (by omega)] at hi
    have := nB (p := p) (by omega) hi
    simp [this]
  rw [h1]
  simp [hp]
theorem sG {α : Type} {p : α → Bool} {l : List α} {j : Nat} {x : α} (h : l[j]? = some x) : (l.take (j + 1)).filter (fun z => !p z) = (l.take j).filter (fun z => !p z) ++ if p x then [] else [x] := by
  rw [cP h, List.filter_append]
  cases hp : p x <;> simp [hp]
theorem aNn {α : Type} {l : List α} {k : Nat} {x : α} (hk : k < l.length) : (l.set k x).take (k + 1) = l.take k ++ [x] := by
  rw [cP (List.getElem?_set_self hk), List.take_set_of_le (Nat.le_refl k)]
theorem aOn {α : Type} {l : List α} {k j : Nat} {x : α} (hk : k < j) : (l.set k x).drop j = l.drop j := List.drop_set_of_lt hk
theorem aMn {α : Type} {l m : List α} {j : Nat} (h : l.drop j = m.drop j) : l[j]? = m[j]? := by
  have := congrArg (fun q => q[0]?) h
  simpa [List.getElem?_drop] using this
theorem yS {α : Type} {l m : List α} {j : Nat} (h : l.drop j = m.drop j) : l.drop (j + 1) = m.drop (j + 1) := by
  have := congrArg (List.drop 1) h
  simpa [List.drop_drop, Nat.add_comm] using this
theorem aX.apartTail {w0 w : World} {X : List Nat} {T sz : Nat} {A : Option Addr} {n c : Nat} {ls : List (List Value)} {er : dW} {S : List dW} (M : Mem w0 X (er :: S) w) (hR : aX T sz A n c ls er) : 0 < n → ∀ q off, A = some ⟨q, off, none⟩ → q ∉ bZ S := by
  intro hn q off hA
  obtain ⟨b, L, h1, h2, _, _⟩ := hR.block hn
  rw [h1] at hA
  injection hA with hA
  injection hA with hA
  subst hA
  subst h2
  have := M.apart
  simp only [bZ, List.filterMap_cons] at this
  exact (List.nodup_cons.1 this).1
theorem Mem.awayTail {w0 w : World} {T : List dW} {L : List dW} {sz nn : Nat} {A : Option Addr} {ls : List (List Value)} (M : Mem w0 [] (L ++ T) w) (R : Rd w0 sz A nn ls) : 0 < nn → ∀ q off, A = some ⟨q, off, none⟩ → q ∉ bZ T := by
  intro hn q off hA h
  obtain ⟨o, ho⟩ := eT.1 h
  obtain ⟨b, off', hb, hlt, _⟩ := R.at_ hn
  rw [hb] at hA
  injection hA with hA
  injection hA with hA
  subst hA
  rcases (M.own b o (List.mem_append_right _ ho)).2 with h | h
  · omega
  · cases h
theorem Mem.dummies {w0 w : World} {X : List Nat} {S : List dW} (k : Nat) (M : Mem w0 X S w) (o : Obj) : Mem w0 X (S ++ List.replicate k (none, o)) w :=
  ⟨M.os, M.tape, M.output, M.size, M.old, fun b o' hb => by
    rcases List.mem_append.1 hb with h | h
    · exact M.own b o' h
    · exact absurd (List.eq_of_mem_replicate h) (by simp), by
    have e : ∀ k, bZ (List.replicate k ((none, o) : dW)) = [] := fun k => by induction k with
      | zero => rfl
      | succ k ih => simp [bZ, List.replicate_succ] at ih ⊢
    rw [fZ, e]; simpa using M.apart⟩
def gW : Row := ⟨none, 0, 0, (none, default)⟩
theorem aPe (T : Nat) : GridRows T (List.replicate 1024 gW) (gOf []) := ⟨List.length_replicate, fun j r hr => by
  have : r = gW := List.eq_of_mem_replicate (List.mem_of_getElem? hr)
  subst this
  exact aX.nil _ _ _⟩
theorem Mem.gridNew {w0 w : World} {X : List Nat} {L : List dW} {b T : Nat} (M : Mem w0 X (L ++ [(some b, bc (cY (List.replicate 1024 gW) 0) T)]) w) : Mem w0 X (L ++ ((some b, bc (cY (List.replicate 1024 gW) 0) T) :: (List.replicate 1024 gW).map Row.e)) w := by
  have := M.dummies 1024 default
  rw [List.append_assoc] at this
  rw [List.map_replicate]
  exact this
theorem Mem.gridRd {w0 w : World} {X : List Nat} {L : List dW} {rs : List Row} {cnt : Int} {b T : Nat} (M : Mem w0 X (L ++ ((some b, bc (cY rs cnt) T) :: rs.map Row.e)) w) (h : rs.length = 1024) : Rd w 1025 (some ⟨b, 0, none⟩) 1 [cY rs cnt] := by
  have hb := (M.own b _ (List.mem_append_right _ List.mem_cons_self)).1
  refine ⟨rfl, by simp [aFa h], by omega, fun _ => ⟨b, 0, rfl, (Array.getElem?_eq_some_iff.1 hb).1, fun i l hl => ?_⟩⟩
  obtain ⟨rfl, rfl⟩ : i = 0 ∧ l = cY rs cnt := by
    cases i with
    | zero => simpa using hl.symm
    | succ i => simp at hl
  simpa using cV.of_heap hb (by simp)
theorem Mem.rowRd {w0 w : World} {X : List Nat} {L : List dW} {rs : List Row} {e : dW} {T : Nat} {g : Nat → List Int} (M : Mem w0 X (L ++ (e :: rs.map Row.e)) w) (h : GridRows T rs g) (j : Nat) (r : Row) (hr : rs[j]? = some r) : Rd w 1 r.A r.n ((g j).map gS) ∧ r.n ≤ r.c :=
  ⟨(h.row j r hr).rd M (List.mem_append_right _ (List.mem_cons_of_mem _ (List.mem_map.2 ⟨r, List.mem_of_getElem? hr, rfl⟩))), (h.row j r hr).slice⟩
end Go.Bil
namespace Go.Bil
def aIc (xs : List Body) (a : Bx) : List Int := (xs.filter (fun b => decide (qU (dQ b) a))).map (·.key)
def wH (xs : List Body) (key : Int) : Bool := if cH key xs < 0 then false else decide ((aIc xs (dQ (xs.getD (cH key xs).toNat default))).length = 1)
theorem wK {α : Type} {p : α → Bool} : ∀ {l : List α} {i : Nat} {x : α}, l[i]? = some x → p x = true → ((l.filter p).length = 1 ↔ ∀ (k : Nat) (y : α), l[k]? = some y → k ≠ i → p y = false)
  | a :: l, 0, x, h, hp => by
    simp only [List.getElem?_cons_zero, Option.some.injEq] at h
    subst h
    rw [List.filter_cons, if_pos hp, List.length_cons]
    constructor
    · intro h k y hk hne
      cases k with
      | zero => exact absurd rfl hne
      | succ k =>
        have h0 : l.filter p = [] := List.eq_nil_of_length_eq_zero (by omega)
        have hm : y ∈ l := List.mem_of_getElem? (by simpa using hk)
        have := List.filter_eq_nil_iff.1 h0 y hm
        simpa using this
    · intro h
      have : l.filter p = [] := List.filter_eq_nil_iff.2 fun y hy => by
        obtain ⟨k, hk⟩ := List.getElem?_of_mem hy
        simp [h (k + 1) y (by simpa using hk) (by omega)]
      rw [this]
      rfl
  | a :: l, i + 1, x, h, hp => by
    have h' : l[i]? = some x := by simpa using h
    have ih := wK h' hp
    rw [List.filter_cons]
    by_cases ha : p a = true
    · rw [if_pos ha, List.length_cons]
      have hx : x ∈ l.filter p := List.mem_filter.2 ⟨List.mem_of_getElem? h', hp⟩
      have hpos := List.length_pos_of_mem hx
      refine ⟨fun h => by omega, fun h => ?_⟩
      have := h 0 a rfl (by omega)
      rw [ha] at this; cases this
    · rw [if_neg ha]
      refine ih.trans ⟨fun h k y hk hne => ?_, fun h k y hk hne => h (k + 1) y (by simpa using hk) (by omega)⟩
      cases k with
      | zero => simp only [List.getElem?_cons_zero, Option.some.injEq] at hk; subst hk; simpa using ha
      | succ k => exact h k y (by simpa using hk) (by omega)
theorem aMr {b : Body} (h : Okb b) : qU (dQ b) (dQ b) := by
  have := aPp h
  unfold qU
  omega
theorem uW {xs : List Body} (hb : ∀ b ∈ xs, Okb b) {key : Int} {i : Nat} {b : Body} (hi : xs[i]? = some b) (hf : cH key xs = (i : Int)) : wH xs key = true ↔ ∀ (k : Nat) (c : Body), xs[k]? = some c → k ≠ i → ¬ qU (dQ b) (dQ c) := by
  have e : xs.getD (cH key xs).toNat default = b := by rw [hf, Int.toNat_natCast, List.getD_eq_getElem?_getD, hi]; rfl
  unfold wH
  rw [if_neg (by omega), e, decide_eq_true_iff]
  unfold aIc
  rw [List.length_map, wK hi (decide_eq_true (aMr (hb b (List.mem_of_getElem? hi))))]
  constructor
  · intro h k c hk hne ho
    have := h k c hk hne
    simp only [decide_eq_false_iff_not] at this
    exact this (qK ho)
  · intro h k c hk hne
    simp only [decide_eq_false_iff_not]
    exact fun ho => h k c hk hne (qK ho)
theorem aKt {xs : List Body} {key : Int} (hf : cH key xs < 0) : wH xs key = false := by unfold wH; rw [if_pos hf]
def dF (xs : List Body) : List Body := if 40 < xs.length then [] else (kA xs).1
abbrev aTh (xs : List Body) : Prop := xs.length ≤ 40 ∧ (kA xs).2 = 0
theorem aKj (xs : List Body) : (dF xs).length ≤ 40 := by
  unfold dF
  split
  · simp
  · have := aIl xs; omega
structure View (v : List Body) : Prop where
  s : bN v
  ok : ∀ b ∈ v, check b = 0
  len : v.length ≤ 40
theorem View.okb {v : List Body} (h : View v) : ∀ b ∈ v, Okb b := fun b hb => qH (h.ok b hb)
theorem aRx {xs : List Body} (h : aTh xs) : View (dF xs) ∧ dF xs = kT xs ∧ fU xs := by
  obtain ⟨h1, h2⟩ := h
  obtain ⟨hk, he, hv⟩ := aOt h2
  have e : dF xs = kT xs := by unfold dF; rw [if_neg (by omega), hv]
  refine ⟨⟨by rw [e]; exact aPb hk, ?_, aKj xs⟩, e, hk⟩
  rw [e]
  exact (wD (aIv he)).2
end Go.Bil
namespace Go.Bil
theorem Mem.order4 {w0 w : World} {X : List Nat} {a b c d : dW} {T : List dW} (M : Mem w0 X ([a, b, c, d] ++ T) w) : Mem w0 X [d, c, a, b] w := by
  have M1 : Mem w0 X ([a, b] ++ [c, d]) w := M.sub (List.sublist_append_left [a, b, c, d] T)
  exact M1.perm (List.perm_append_comm.trans (List.Perm.swap d c [a, b]))
end Go.Bil
namespace Go.Bil
end Go.Bil

namespace Go.Bil
theorem eZ {xs : List Body} (hs : bN xs) {a b : Body} (ha : a ∈ xs) (hb : b ∈ xs) (h : a.key = b.key) : a = b := by
  obtain ⟨i, hi⟩ := List.getElem?_of_mem ha
  obtain ⟨j, hj⟩ := List.getElem?_of_mem hb
  have : i = j := by
    rcases Nat.lt_trichotomy i j with h' | h' | h'
    · have := cZ hs h' hi hj; omega
    · exact h'
    · have := cZ hs h' hj hi; omega
  subst this
  rw [hi] at hj
  injection hj
theorem jW {xs : List Body} (hs : bN xs) {z : Int × Int} : z ∈ gJ xs ↔ ∃ a ∈ xs, ∃ b ∈ xs, a.key < b.key ∧ qU (dQ a) (dQ b) ∧ z = (a.key, b.key) := by
  rw [yO]
  constructor
  · rintro ⟨i, k, a, b, h1, h2, h3, h4, h5⟩
    exact ⟨a, List.mem_of_getElem? h2, b, List.mem_of_getElem? h3, cZ hs h1 h2 h3, h4, h5⟩
  · rintro ⟨a, ha, b, hb, h1, h2, h3⟩
    obtain ⟨i, hi⟩ := List.getElem?_of_mem ha
    obtain ⟨k, hk⟩ := List.getElem?_of_mem hb
    rcases Nat.lt_or_ge i k with h | h
    · exact ⟨i, k, a, b, h, hi, hk, h2, h3⟩
    · have := sP hs h hk hi; omega
theorem aNo {f n a : Nat} {z : Int} (hz : z = (n : Int)) (h : a = f % n) : (f : Int).tmod z = (a : Int) := by
  subst hz
  subst h
  exact (Int.ofNat_tmod f n).symm
def yA (key : Int) (l : List (Int × Int)) : List (Int × Int) := l.filter (fun z => decide (z.1 ≠ key ∧ z.2 ≠ key))
theorem eJ {xs : List Body} (hs : bN xs) (k : Nat) : bN (xs.eraseIdx k) := List.Pairwise.sublist (List.eraseIdx_sublist xs k) hs
theorem eX {xs : List Body} (hs : bN xs) {k : Nat} {y : Body} (hy : xs[k]? = some y) {a : Body} : a ∈ xs.eraseIdx k ↔ a ∈ xs ∧ a.key ≠ y.key := by
  have hk : fU xs := by
    unfold fU
    exact List.pairwise_map.2 (hs.imp fun h e => by omega)
  constructor
  · intro h
    exact ⟨(List.eraseIdx_sublist xs k).subset h, qY hk hy a h⟩
  · rintro ⟨h1, h2⟩
    rcases List.mem_cons.1 ((mM hy).mem_iff.1 h1) with e | e
    · subst e; exact absurd rfl h2
    · exact e
theorem aOi {xs : List Body} (hs : bN xs) {k : Nat} {y : Body} (hy : xs[k]? = some y) : gJ (xs.eraseIdx k) = yA y.key (gJ xs) := by
  refine pD (rB (eJ hs k)) (List.Pairwise.sublist List.filter_sublist (rB hs)) fun z => ?_
  unfold yA
  rw [List.mem_filter, jW (eJ hs k), jW hs, decide_eq_true_iff]
  constructor
  · rintro ⟨a, ha, b, hb, h1, h2, rfl⟩
    have ha' := (eX hs hy).1 ha
    have hb' := (eX hs hy).1 hb
    exact ⟨⟨a, ha'.1, b, hb'.1, h1, h2, rfl⟩, ha'.2, hb'.2⟩
  · rintro ⟨⟨a, ha, b, hb, h1, h2, rfl⟩, h3, h4⟩
    exact ⟨a, (eX hs hy).2 ⟨ha, h3⟩, b, (eX hs hy).2 ⟨hb, h4⟩, h1, h2, rfl⟩
theorem iL {α β : Type} (f : α → β) {l : List α} {k n : Nat} (hn : l.length = n) (hk : k < n) : ([] ++ ((l.map f).drop 0).take (k - 0)) ++ ((l.map f).drop (k + 1)).take (n - (k + 1)) = (l.eraseIdx k).map f := by
  rw [List.nil_append, List.drop_zero, Nat.sub_zero, List.take_of_length_le (l := (l.map f).drop (k + 1)) (by simp; omega), List.eraseIdx_eq_take_drop_succ, List.map_append, List.map_take, List.map_drop]
theorem aNh {xs : List Body} (hV : View xs) {k : Nat} {y : Body} (hy : xs[k]? = some y) : wH xs y.key = decide ((yA y.key (gJ xs)).length = (gJ xs).length) := by
  have hs := hV.s
  obtain ⟨i, c, hi, hck, hf⟩ : ∃ (i : Nat) (c : Body), xs[i]? = some c ∧ c.key = y.key ∧ cH y.key xs = (i : Int) := (dR y.key xs).elim (fun h => absurd rfl (h.2 y (List.mem_of_getElem? hy))) id
  have hcy : c = y := eZ hs (List.mem_of_getElem? hi) (List.mem_of_getElem? hy) hck
  subst hcy
  rw [Bool.eq_iff_iff, uW hV.okb hi hf, decide_eq_true_iff]
  unfold yA
  rw [List.length_filter_eq_length_iff]
  simp only [decide_eq_true_eq]
  constructor
  · intro h z hz
    obtain ⟨a, ha, b, hb, h1, h2, rfl⟩ := (jW hs).1 hz
    obtain ⟨p, hp⟩ := List.getElem?_of_mem ha
    obtain ⟨q, hq⟩ := List.getElem?_of_mem hb
    refine ⟨fun e => ?_, fun e => ?_⟩
    · have : a = c := eZ hs ha (List.mem_of_getElem? hi) e
      subst this
      exact h q b hq (fun e' => by subst e'; rw [hi] at hq; injection hq with hq; subst hq; omega) h2
    · have : b = c := eZ hs hb (List.mem_of_getElem? hi) e
      subst this
      exact h p a hp (fun e' => by subst e'; rw [hi] at hp; injection hp with hp; subst hp; omega) (qK h2)
  · intro h q b hq hne ho
    have hb := List.mem_of_getElem? hq
    have hc := List.mem_of_getElem? hi
    rcases Int.lt_trichotomy c.key b.key with h' | h' | h'
    · exact (h _ ((jW hs).2 ⟨c, hc, b, hb, h', ho, rfl⟩)).1 rfl
    · have : c = b := eZ hs hc hb h'
      subst this
      rcases Nat.lt_trichotomy q i with h2 | h2 | h2
      · have := cZ hs h2 hq hi; omega
      · exact hne h2
      · have := cZ hs h2 hi hq; omega
    · exact (h _ ((jW hs).2 ⟨b, hb, c, hc, h', qK ho, rfl⟩)).2 rfl
end Go.Bil
namespace Go.Bil
def cE (v : Int × Int) : List Value := [.int .i32 v.1, .int .i32 v.2]
end Go.Bil
