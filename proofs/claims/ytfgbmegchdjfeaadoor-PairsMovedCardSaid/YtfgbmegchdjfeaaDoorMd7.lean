/- The plain side of layer 7: views. -/
import Derived.Test.YtfgbmegchdjfeaaDoorMd5
set_option linter.unusedVariables false
namespace Go.Bil

def firstBad : List Body → Int
  | [] => 0
  | b :: l => if check b ≠ 0 then check b else firstBad l
def eachI (xs : List Body) : Int := if 4096 < xs.length then 12 else firstBad xs
theorem firstBad_zero : ∀ {xs : List Body}, (∀ (j : Nat) (c : Body), xs[j]? = some c → check c = 0) → firstBad xs = 0
  | [], _ => rfl
  | b :: l, h => by
    unfold firstBad
    rw [if_neg (by have := h 0 b (by simp); omega)]
    exact firstBad_zero fun j c hj => h (j + 1) c (by simpa using hj)
theorem firstBad_at : ∀ {xs : List Body} {k : Nat} {b : Body}, xs[k]? = some b → check b ≠ 0 → (∀ (j : Nat) (c : Body), j < k → xs[j]? = some c → check c = 0) → firstBad xs = check b
  | [], _, _, h, _, _ => by simp at h
  | a :: l, 0, b, h, hb, _ => by
    simp only [List.getElem?_cons_zero, Option.some.injEq] at h
    subst h
    unfold firstBad
    rw [if_pos hb]
  | a :: l, k + 1, b, h, hb, hn => by
    unfold firstBad
    rw [if_neg (by have := hn 0 a (by omega) (by simp); omega)]
    exact firstBad_at (by simpa using h) hb fun j c hj hc => hn (j + 1) c (by omega) (by simpa using hc)
theorem firstBad_all : ∀ {xs : List Body}, firstBad xs = 0 → ∀ b ∈ xs, check b = 0
  | [], _, b, hb => by simp at hb
  | a :: l, h, b, hb => by
    unfold firstBad at h
    by_cases ha : check a = 0
    · rw [if_neg (by omega)] at h
      rcases List.mem_cons.1 hb with rfl | hb
      · exact ha
      · exact firstBad_all h b hb
    · rw [if_pos ha] at h; exact absurd h ha
theorem eachI_ok {xs : List Body} (h : eachI xs = 0) : xs.length ≤ 4096 ∧ ∀ b ∈ xs, check b = 0 := by
  unfold eachI at h
  split at h
  · omega
  · exact ⟨by omega, firstBad_all h⟩
theorem eachI_of {xs : List Body} (hl : xs.length ≤ 4096) (h : ∀ b ∈ xs, check b = 0) : eachI xs = 0 := by
  unfold eachI
  rw [if_neg (by omega)]
  exact firstBad_zero fun j c hj => h c (List.mem_of_getElem? hj)
def adjB : List Body → Bool
  | x :: y :: l => decide (x.key < y.key) && adjB (y :: l)
  | _ => true
theorem adjB_true : ∀ {xs : List Body}, (∀ (i : Nat) (x y : Body), xs[i]? = some x → xs[i + 1]? = some y → x.key < y.key) → adjB xs = true
  | [], _ => rfl
  | [_], _ => rfl
  | x :: y :: l, h => by
    unfold adjB
    rw [Bool.and_eq_true]
    exact ⟨decide_eq_true (h 0 x y (by simp) (by simp)), adjB_true fun i a b ha hb => h (i + 1) a b (by simpa using ha) (by simpa using hb)⟩
theorem adjB_sorted : ∀ {xs : List Body}, adjB xs = true → Sorted xs
  | [], _ => by simp [Sorted]
  | [_], _ => by simp [Sorted]
  | x :: y :: l, h => by
    unfold adjB at h
    rw [Bool.and_eq_true, decide_eq_true_eq] at h
    have ih := adjB_sorted h.2
    refine List.pairwise_cons.2 ⟨fun z hz => ?_, ih⟩
    rcases List.mem_cons.1 hz with rfl | hz
    · exact h.1
    · have := (List.pairwise_cons.1 ih).1 z hz; have := h.1; omega
theorem sorted_adjB {xs : List Body} (h : Sorted xs) : adjB xs = true := adjB_true fun i x y hx hy => by
  have hi := List.getElem?_eq_some_iff.1 hx
  have hj := List.getElem?_eq_some_iff.1 hy
  have := List.pairwise_iff_getElem.1 h i (i + 1) hi.1 hj.1 (by omega)
  rwa [hi.2, hj.2] at this
theorem adjB_false {xs : List Body} {i : Nat} {x y : Body} (hx : xs[i]? = some x) (hy : xs[i + 1]? = some y) (h : ¬ x.key < y.key) : adjB xs = false := by
  cases e : adjB xs with
  | false => rfl
  | true =>
    exfalso
    have hi := List.getElem?_eq_some_iff.1 hx
    have hj := List.getElem?_eq_some_iff.1 hy
    have := List.pairwise_iff_getElem.1 (adjB_sorted e) i (i + 1) hi.1 hj.1 (by omega)
    rw [hi.2, hj.2] at this
    exact h this
def checkV (xs : List Body) : Int := if eachI xs ≠ 0 then eachI xs else if adjB xs = true then 0 else 10
instance (m : List Body) : Decidable (Keys m) := by unfold Keys; infer_instance
def sortV (xs : List Body) : List Body × Int := if eachI xs ≠ 0 then ([], eachI xs) else if Keys xs then (sortB xs, 0) else ([], 10)
theorem check_up {ys xs : List Body} (hu : Up ys) (hp : ys.Perm xs) (he : eachI xs = 0) : checkV ys = if Keys xs then 0 else 10 := by
  obtain ⟨h1, h2⟩ := eachI_ok he
  have he' : eachI ys = 0 := eachI_of (by rw [hp.length_eq]; exact h1) fun b hb => h2 b (hp.mem_iff.1 hb)
  unfold checkV
  rw [if_neg (by omega)]
  by_cases hk : Keys xs
  · rw [if_pos hk, if_pos (sorted_adjB (up_sorted hu (hk.perm hp)))]
  · rw [if_neg hk, if_neg]
    intro h
    exact hk ((adjB_sorted h).keys.perm hp.symm)
theorem adds_sub : ∀ (l m : List Body), ∃ t, List.Sublist t l ∧ l.foldl (fun m b => (addM m b).1) m = m ++ t
  | [], m => ⟨[], by simp, by simp⟩
  | b :: l, m => by
    simp only [List.foldl_cons]
    obtain ⟨t, h1, h2⟩ := adds_sub l (addM m b).1
    have hb : (addM m b).1 = m ∨ (addM m b).1 = m ++ [b] := by
      unfold addM
      (repeat' split) <;> simp
    rcases hb with hb | hb
    · exact ⟨t, h1.cons b, by rw [h2, hb]⟩
    · exact ⟨b :: t, h1.cons_cons b, by rw [h2, hb]; simp⟩
theorem allR_sort {xs : List Body} (he : eachI xs = 0) : (Keys xs → allR xs = sortB xs) ∧ ((allR xs).length < xs.length ↔ ¬ Keys xs) := by
  obtain ⟨h1, h2⟩ := eachI_ok he
  have hrel := addsM_rel xs
  have hlen := hrel.perm.length_eq
  obtain ⟨t, ht1, ht2⟩ := adds_sub xs []
  have ht : addsM xs = t := by simpa [addsM] using ht2
  have hkeys : Keys xs → addsM xs = xs := fun hk => by
    have := addsM_take hk h1 xs.length (Nat.le_refl _)
    rw [List.take_length] at this
    rw [this]
    exact List.filter_eq_self.2 fun b hb => by simpa using h2 b hb
  refine ⟨fun hk => ?_, ?_, ?_⟩
  · have := hrel.eq
    rw [hkeys hk] at this
    exact this.symm
  · intro hl hk
    rw [hlen, hkeys hk] at hl
    omega
  · intro hk
    rw [hlen, ht]
    rcases Nat.lt_or_ge t.length xs.length with h | h
    · exact h
    · exfalso
      have : t = xs := ht1.eq_of_length_le h
      exact hk (by rw [← this, ← ht]; exact hrel.keys)
/-- How many keys are less. -/
def lessI (key : Int) : List Body → Nat
  | [] => 0
  | b :: l => (if b.key < key then 1 else 0) + lessI key l
theorem lessI_at {key : Int} : ∀ {xs : List Body} {k : Nat}, k ≤ xs.length → (∀ (j : Nat) (c : Body), j < k → xs[j]? = some c → c.key < key) → (∀ (j : Nat) (c : Body), k ≤ j → xs[j]? = some c → ¬ c.key < key) → lessI key xs = k
  | [], k, hk, _, _ => by simp at hk; simp [lessI, hk]
  | b :: l, 0, _, _, h2 => by
    unfold lessI
    rw [if_neg (h2 0 b (Nat.le_refl _) (by simp)), lessI_at (k := 0) (by omega) (fun j c hj => by omega) (fun j c _ hc => h2 (j + 1) c (by omega) (by simpa using hc))]
  | b :: l, k + 1, hk, h1, h2 => by
    unfold lessI
    rw [if_pos (h1 0 b (by omega) (by simp)), lessI_at (k := k) (by simpa using hk) (fun j c hj hc => h1 (j + 1) c (by omega) (by simpa using hc)) (fun j c hj hc => h2 (j + 1) c (by omega) (by simpa using hc))]
    omega
def keyCell (k : Int) : List Value := [.int .u32 k]
end Go.Bil
namespace Go.Bil
theorem up_le {xs : List Body} (h : Sorted xs) {p q : Nat} {a b : Body} (hpq : p ≤ q) (ha : xs[p]? = some a) (hb : xs[q]? = some b) : a.key ≤ b.key := by
  by_cases e : p = q
  · subst e
    rw [ha] at hb
    injection hb with hb
    rw [hb]; exact Int.le_refl _
  · have hi := List.getElem?_eq_some_iff.1 ha
    have hj := List.getElem?_eq_some_iff.1 hb
    have := List.pairwise_iff_getElem.1 h p q hi.1 hj.1 (by omega)
    rw [hi.2, hj.2] at this
    omega
theorem shr1 (i j : Nat) : ((i : Int) + (j : Int)).fdiv (2 ^ (min (1 : Int).toNat IntKind.u64.bits)) = (((i + j) / 2 : Nat) : Int) := by
  have e : (2 : Int) ^ (min (1 : Int).toNat IntKind.u64.bits) = 2 := by decide
  rw [e, Int.fdiv_eq_ediv_of_nonneg _ (by omega)]
  omega
theorem tupE {a b a' b' : Value} (h1 : a = a') (h2 : b = b') : Value.tuple #[a, b] = Value.tuple #[a', b'] := by rw [h1, h2]
theorem cmpI_zero {a b : Int} : cmpI a b = 0 ↔ a = b := by unfold cmpI; (repeat' split) <;> omega
theorem found_iff {key : Int} {xs : List Body} (hs : Sorted xs) {i : Nat} {b : Body} (hb : xs[i]? = some b) (h1 : ∀ (j : Nat) (c : Body), j < i → xs[j]? = some c → c.key < key) (h2 : ∀ (j : Nat) (c : Body), i ≤ j → xs[j]? = some c → ¬ c.key < key) : cmpI b.key key = 0 ↔ 0 ≤ findI key xs := by
  rw [cmpI_zero]
  constructor
  · intro e
    rcases findI_cases key xs with ⟨_, h⟩ | ⟨_, _, _, _, h⟩
    · exact absurd e (h b (List.mem_of_getElem? hb))
    · omega
  · intro h
    rcases findI_cases key xs with ⟨h', _⟩ | ⟨j, c, hc, hk, _⟩
    · omega
    · have hij : i ≤ j := by
        rcases Nat.lt_or_ge j i with hlt | hge
        · have := h1 j c hlt hc; omega
        · exact hge
      have := up_le hs hij hb hc
      have := h2 i b (Nat.le_refl _) hb
      omega
theorem found_none {key : Int} {xs : List Body} (h1 : ∀ (j : Nat) (c : Body), j < xs.length → xs[j]? = some c → c.key < key) : ¬ 0 ≤ findI key xs := by
  intro h
  rcases findI_cases key xs with ⟨h', _⟩ | ⟨j, c, hc, hk, _⟩
  · omega
  · have := h1 j c (List.getElem?_eq_some_iff.1 hc).1 hc
    omega
end Go.Bil
namespace Go.Bil
theorem listSame {α : Type} {xs ys : List α} {n m : Nat} (h1 : xs.length = n) (h2 : ys.length = m) (hnm : n = m) (h : ∀ (j : Nat) (x : α), j < n → xs[j]? = some x → ys[j]? = some x) : xs = ys := by
  apply List.ext_getElem?
  intro j
  by_cases hj : j < xs.length
  · obtain ⟨x, hx⟩ := getSome (k := j) rfl hj
    rw [hx, h j x (by omega) hx]
  · rw [List.getElem?_eq_none (by omega), List.getElem?_eq_none (by omega)]
end Go.Bil
namespace Go.Bil
def remK (ys xs : List Body) : List Int := (xs.filter (fun x => decide (findI x.key ys < 0))).map (·.key)
def chgB (ys : List Body) (x : Body) : Bool := decide (0 ≤ findI x.key ys ∧ ys.getD (findI x.key ys).toNat default ≠ x)
def chgK (ys xs : List Body) : List Int := (xs.filter (chgB ys)).map (·.key)
theorem filter_snoc {p : Body → Bool} {xs : List Body} {k : Nat} {x : Body} (hx : xs[k]? = some x) : (xs.take (k + 1)).filter p = (xs.take k).filter p ++ if p x then [x] else [] := by
  rw [take_snoc hx, List.filter_append]
  by_cases h : p x <;> simp [h]
theorem remK_yes {ys xs : List Body} {k : Nat} {x : Body} (hx : xs[k]? = some x) (h : findI x.key ys < 0) : remK ys (xs.take (k + 1)) = remK ys (xs.take k) ++ [x.key] := by
  unfold remK
  rw [filter_snoc hx]
  simp [h]
theorem remK_no {ys xs : List Body} {k : Nat} {x : Body} (hx : xs[k]? = some x) (h : ¬ findI x.key ys < 0) : remK ys (xs.take (k + 1)) = remK ys (xs.take k) := by
  unfold remK
  rw [filter_snoc hx]
  simp [h]
theorem chgK_yes {ys xs : List Body} {k : Nat} {x : Body} (hx : xs[k]? = some x) (h : chgB ys x = true) : chgK ys (xs.take (k + 1)) = chgK ys (xs.take k) ++ [x.key] := by
  unfold chgK
  rw [filter_snoc hx]
  simp [h]
theorem chgK_no {ys xs : List Body} {k : Nat} {x : Body} (hx : xs[k]? = some x) (h : chgB ys x = false) : chgK ys (xs.take (k + 1)) = chgK ys (xs.take k) := by
  unfold chgK
  rw [filter_snoc hx]
  simp [h]
theorem remK_len (ys xs : List Body) : (remK ys xs).length ≤ xs.length := by
  unfold remK
  rw [List.length_map]
  exact List.length_filter_le _ _
theorem chgK_len (ys xs : List Body) : (chgK ys xs).length ≤ xs.length := by
  unfold chgK
  rw [List.length_map]
  exact List.length_filter_le _ _
theorem chgB_none {ys : List Body} {x : Body} (h : findI x.key ys < 0) : chgB ys x = false := by
  unfold chgB
  exact decide_eq_false fun h' => by omega
theorem chgB_eq {ys : List Body} {x y : Body} {q : Nat} (hq : ys[q]? = some y) (hi : findI x.key ys = (q : Int)) : chgB ys x = decide (y ≠ x) := by
  unfold chgB
  refine decide_eq_decide.2 ?_
  have : ys.getD (q : Int).toNat default = y := by simp [List.getD_eq_getElem?_getD, hq]
  rw [hi, this]
  exact ⟨fun h => h.2, fun h => ⟨by omega, h⟩⟩
end Go.Bil
namespace Go.Bil
theorem keyCell_ok (k : Int) : ∀ y ∈ [keyCell k], y.length = 1 ∧ ∀ u ∈ y, one u = true := by
  intro y hy
  simp only [List.mem_singleton] at hy
  subst hy
  exact ⟨rfl, ones_of rfl⟩
end Go.Bil
namespace Go.Bil
/-- How far two views have been merged. -/
structure Mg (xs ys : List Body) (i k : Nat) : Prop where
  sx : Sorted xs
  sy : Sorted ys
  yx : ∀ (p : Nat) (a b : Body), p < k → ys[p]? = some a → xs[i]? = some b → a.key < b.key
  xy : ∀ (p : Nat) (a b : Body), p < i → xs[p]? = some a → ys[k]? = some b → a.key < b.key
theorem Mg.init {xs ys : List Body} (h : Sorted xs) (h' : Sorted ys) : Mg xs ys 0 0 := ⟨h, h', fun p a b hp => by omega, fun p a b hp => by omega⟩
theorem Mg.swap {xs ys : List Body} {i k : Nat} (h : Mg xs ys i k) : Mg ys xs k i := ⟨h.sy, h.sx, h.xy, h.yx⟩
theorem sorted_lt {xs : List Body} (h : Sorted xs) {p q : Nat} {a b : Body} (hpq : p < q) (ha : xs[p]? = some a) (hb : xs[q]? = some b) : a.key < b.key := by
  have hi := List.getElem?_eq_some_iff.1 ha
  have hj := List.getElem?_eq_some_iff.1 hb
  have := List.pairwise_iff_getElem.1 h p q hi.1 hj.1 hpq
  rwa [hi.2, hj.2] at this
theorem Mg.x {xs ys : List Body} {i k : Nat} {a : Body} (h : Mg xs ys i k) (ha : xs[i]? = some a) (hb : ∀ b, ys[k]? = some b → a.key < b.key) : Mg xs ys (i + 1) k ∧ findI a.key ys < 0 := by
  refine ⟨⟨h.sx, h.sy, fun p y x hp hy hx => ?_, fun p x y hp hx hy => ?_⟩, findI_none.2 fun y hy => ?_⟩
  · have := h.yx p y a hp hy ha
    have := sorted_lt h.sx (Nat.lt_succ_self i) ha hx
    omega
  · by_cases e : p = i
    · subst e
      rw [ha] at hx
      injection hx with hx
      subst hx
      exact hb y hy
    · exact h.xy p x y (by omega) hx hy
  · obtain ⟨q, hq⟩ := List.getElem?_of_mem hy
    rcases Nat.lt_or_ge q k with hlt | hge
    · have := h.yx q y a hlt hq ha; omega
    · obtain ⟨b, hbk⟩ := getSome (xs := ys) (k := k) rfl (by have := (List.getElem?_eq_some_iff.1 hq).1; omega)
      have h1 := hb b hbk
      have h2 := up_le h.sy hge hbk hq
      omega
theorem Mg.y {xs ys : List Body} {i k : Nat} {b : Body} (h : Mg xs ys i k) (hb : ys[k]? = some b) (ha : ∀ a, xs[i]? = some a → b.key < a.key) : Mg xs ys i (k + 1) ∧ findI b.key xs < 0 := by
  obtain ⟨h1, h2⟩ := h.swap.x hb ha
  exact ⟨h1.swap, h2⟩
theorem Mg.both {xs ys : List Body} {i k : Nat} {a b : Body} (h : Mg xs ys i k) (ha : xs[i]? = some a) (hb : ys[k]? = some b) (hk : a.key = b.key) : Mg xs ys (i + 1) (k + 1) ∧ findI a.key ys = (k : Int) ∧ findI b.key xs = (i : Int) := by
  refine ⟨⟨h.sx, h.sy, fun p y x hp hy hx => ?_, fun p x y hp hx hy => ?_⟩, ?_, ?_⟩
  · have h1 := sorted_lt h.sx (Nat.lt_succ_self i) ha hx
    have h2 := up_le h.sy (show p ≤ k by omega) hy hb
    omega
  · have h1 := sorted_lt h.sy (Nat.lt_succ_self k) hb hy
    have h2 := up_le h.sx (show p ≤ i by omega) hx ha
    omega
  · exact findI_at hb hk.symm fun j c hj hc => by have := sorted_lt h.sy hj hc hb; omega
  · exact findI_at ha hk fun j c hj hc => by have := sorted_lt h.sx hj hc ha; omega
end Go.Bil
namespace Go.Bil
theorem chgK_both {ys xs : List Body} {i k : Nat} {a b : Body} (ha : xs[i]? = some a) (hb : ys[k]? = some b) (hi : findI a.key ys = (k : Int)) : chgK ys (xs.take (i + 1)) = chgK ys (xs.take i) ++ if a = b then [] else [a.key] := by
  have hc := chgB_eq hb hi
  by_cases h : a = b
  · rw [if_pos h, chgK_no ha (by rw [hc]; exact decide_eq_false (fun h' => h' h.symm))]
    simp
  · rw [if_neg h, chgK_yes ha (by rw [hc]; exact decide_eq_true (fun h' => h h'.symm))]
end Go.Bil
namespace Go.Bil
def pickA (xs : List Body) (ck : List Int) (y : Body) : Body := if findI y.key xs < 0 then y else if (xs.getD (findI y.key xs).toNat default).key ∈ ck then y else xs.getD (findI y.key xs).toNat default
def applyL (xs : List Body) (ck : List Int) (ys : List Body) : List Body := ys.map (pickA xs ck)
theorem applyL_snoc {xs ys : List Body} {ck : List Int} {k : Nat} {y : Body} (h : ys[k]? = some y) : applyL xs ck (ys.take (k + 1)) = applyL xs ck (ys.take k) ++ [pickA xs ck y] := by
  unfold applyL
  rw [take_snoc h, List.map_append]
  rfl
theorem pickA_none {xs : List Body} {ck : List Int} {y : Body} (h : findI y.key xs < 0) : pickA xs ck y = y := by unfold pickA; rw [if_pos h]
theorem pickA_some {xs : List Body} {ck : List Int} {x y : Body} {i : Nat} (hx : xs[i]? = some x) (h : findI y.key xs = (i : Int)) : pickA xs ck y = if x.key ∈ ck then y else x := by
  have e : xs.getD (i : Int).toNat default = x := by simp [List.getD_eq_getElem?_getD, hx]
  unfold pickA
  rw [h, if_neg (by omega), e]
theorem applyL_len (xs ys : List Body) (ck : List Int) : (applyL xs ck ys).length = ys.length := by simp [applyL]
theorem apply_diff {xs ys : List Body} (hs : Sorted xs) (hs' : Sorted ys) : applyL xs (chgK ys xs) ys = ys := by
  unfold applyL
  conv => rhs; rw [← List.map_id ys]
  refine List.map_congr_left fun y hy => ?_
  rcases findI_cases y.key xs with ⟨h, _⟩ | ⟨i, x, hx, hk, hi⟩
  · rw [pickA_none (by omega)]; rfl
  · rw [pickA_some hx hi]
    split
    · rfl
    · rename_i hn
      obtain ⟨q, hq⟩ := List.getElem?_of_mem hy
      have hf : findI x.key ys = (q : Int) := findI_at hq hk.symm fun j c hj hc => by have := sorted_lt hs' hj hc hq; omega
      rcases Decidable.em (y = x) with e | e
      · rw [e]; rfl
      · exfalso
        apply hn
        refine List.mem_map.2 ⟨x, List.mem_filter.2 ⟨List.mem_of_getElem? hx, ?_⟩, rfl⟩
        rw [chgB_eq hq hf]
        exact decide_eq_true e
end Go.Bil
namespace Go.Bil
def bK (k : Int) : Body := ⟨k, 65536, 0, 0, 0, 0, 0, 0, 0, 0⟩
theorem aw7_1 : remK [bK 1, bK 2] [bK 2, bK 3] = [3] := by decide
theorem aw7_2 : remK [bK 2, bK 3] [bK 1, bK 2] = [1] := by decide
theorem aw7_3 : chgK [bK 2, bK 3] [bK 1, bK 2] = [] := by decide
theorem aw7_4 : sortV [bK 3, bK 1] = ([bK 1, bK 3], 0) := by decide
theorem aw7_5 : sortV [bK 1, bK 1] = ([], 10) := by decide
theorem aw7_6 : lessI 3 [bK 1, bK 3] = 1 := by decide
theorem aw7_7 : lessI 2 [bK 1, bK 3] = 1 := by decide
theorem aw7_8 : checkV [bK 2, bK 1] = 10 := by decide
theorem aw7_9 : checkV [bK 1, bK 3] = 0 := by decide
theorem aw7_10 : 0 ≤ findI 3 [bK 1, bK 3] := by decide
theorem aw7_11 : ¬ 0 ≤ findI 2 [bK 1, bK 3] := by decide
theorem keys_len (m : List Int) : ∀ y ∈ m.map keyCell, y.length = 1 := by
  intro y hy
  obtain ⟨b, _, rfl⟩ := List.mem_map.1 hy
  rfl
end Go.Bil
namespace Go.Bil
theorem sortV_err {xs : List Body} (h : (sortV xs).2 ≠ 0) : (sortV xs).1 = [] := by
  unfold sortV at *
  split
  · rfl
  · rename_i h1
    split
    · rename_i h2
      rw [if_neg h1, if_pos h2] at h
      exact absurd rfl h
    · rfl
theorem sortV_ok {xs : List Body} (h : (sortV xs).2 = 0) : Keys xs ∧ eachI xs = 0 ∧ (sortV xs).1 = sortB xs := by
  unfold sortV at *
  by_cases h1 : eachI xs = 0
  · rw [if_neg (by omega)] at h ⊢
    by_cases h2 : Keys xs
    · rw [if_pos h2]; exact ⟨h2, h1, rfl⟩
    · rw [if_neg h2] at h; simp at h
  · rw [if_pos h1] at h; exact absurd h h1
theorem sorted_B {xs : List Body} (hk : Keys xs) : Sorted (sortB xs) := (sortB_rel hk).sorted
theorem sort_at {xs : List Body} (hk : Keys xs) {b : Body} (hb : b ∈ xs) : ∃ p : Nat, (sortB xs)[p]? = some b ∧ lessI b.key (sortB xs) = p ∧ 0 ≤ findI b.key (sortB xs) := by
  obtain ⟨p, hp⟩ := List.getElem?_of_mem ((sortB_perm xs).mem_iff.2 hb)
  have hs := sorted_B hk
  refine ⟨p, hp, lessI_at (by have := (List.getElem?_eq_some_iff.1 hp).1; omega) (fun j c hj hc => sorted_lt hs hj hc hp) (fun j c hj hc => by have := up_le hs hj hp hc; omega), ?_⟩
  rcases findI_cases b.key (sortB xs) with ⟨_, h⟩ | ⟨_, _, _, _, h⟩
  · exact absurd rfl (h b (List.mem_of_getElem? hp))
  · omega
theorem sortV_sorted {xs : List Body} (hk : Keys xs) (he : eachI xs = 0) : sortV (sortB xs) = (sortB xs, 0) := by
  have hp := sortB_perm xs
  have hk' : Keys (sortB xs) := hk.perm hp
  have he' : eachI (sortB xs) = 0 := by
    obtain ⟨h1, h2⟩ := eachI_ok he
    exact eachI_of (by rw [hp.length_eq]; exact h1) fun b hb => h2 b (hp.mem_iff.1 hb)
  unfold sortV
  rw [if_neg (by omega), if_pos hk', up_unique (sortB_up (sortB xs)) (sortB_up xs) (sortB_perm _) (hk'.perm (sortB_perm _))]
end Go.Bil
namespace Go.Bil
theorem not_in_both {a b : List Body} (ha : Sorted a) (hb : Sorted b) : ((remK a b).length = 0 ∧ (remK b a).length = 0 ∧ (chgK b a).length = 0) ↔ a = b := by
  constructor
  · rintro ⟨h1, h2, h3⟩
    have e1 : ∀ y ∈ b, 0 ≤ findI y.key a := fun y hy => by
      rcases Int.lt_or_le (findI y.key a) 0 with h | h
      · have : y.key ∈ remK a b := List.mem_map.2 ⟨y, List.mem_filter.2 ⟨hy, by simpa using h⟩, rfl⟩
        rw [List.eq_nil_of_length_eq_zero h1] at this; cases this
      · exact h
    have e2 : ∀ x ∈ a, x ∈ b := fun x hx => by
      rcases findI_cases x.key b with ⟨h, _⟩ | ⟨q, y, hq, hk, hi⟩
      · have : x.key ∈ remK b a := List.mem_map.2 ⟨x, List.mem_filter.2 ⟨hx, by simp [h]⟩, rfl⟩
        rw [List.eq_nil_of_length_eq_zero h2] at this; cases this
      · rcases Decidable.em (y = x) with e | e
        · rw [← e]; exact List.mem_of_getElem? hq
        · have : x.key ∈ chgK b a := List.mem_map.2 ⟨x, List.mem_filter.2 ⟨hx, by rw [chgB_eq hq hi]; exact decide_eq_true e⟩, rfl⟩
          rw [List.eq_nil_of_length_eq_zero h3] at this; cases this
    have e3 : ∀ y ∈ b, y ∈ a := fun y hy => by
      have := e1 y hy
      rcases findI_cases y.key a with ⟨h, _⟩ | ⟨q, x, hq, hk, hi⟩
      · omega
      · have hx := e2 x (List.mem_of_getElem? hq)
        obtain ⟨i, hi'⟩ := List.getElem?_of_mem hx
        obtain ⟨j, hj'⟩ := List.getElem?_of_mem hy
        have : i = j := hb.keys.inj hi' hj' hk
        subst this
        rw [hi'] at hj'
        injection hj' with hj'
        rw [← hj']; exact List.mem_of_getElem? hq
    have na : a.Nodup := List.Pairwise.imp (fun h e => by rw [e] at h; omega) ha
    have nb : b.Nodup := List.Pairwise.imp (fun h e => by rw [e] at h; omega) hb
    exact ha.unique hb ((List.perm_ext_iff_of_nodup na nb).2 fun x => ⟨e2 x, e3 x⟩)
  · rintro rfl
    have hf : ∀ x ∈ a, ∃ q : Nat, a[q]? = some x ∧ findI x.key a = (q : Int) := fun x hx => by
      obtain ⟨q, hq⟩ := List.getElem?_of_mem hx
      exact ⟨q, hq, findI_at hq rfl fun j c hj hc => by have := sorted_lt ha hj hc hq; omega⟩
    have h1 : remK a a = [] := by
      unfold remK
      rw [List.filter_eq_nil_iff.2 fun x hx => by obtain ⟨q, _, h⟩ := hf x hx; simp; omega]
      rfl
    have h3 : chgK a a = [] := by
      unfold chgK
      rw [List.filter_eq_nil_iff.2 fun x hx => by obtain ⟨q, hq, h⟩ := hf x hx; rw [chgB_eq hq h]; simp]
      rfl
    rw [h1, h3]; simp
end Go.Bil
namespace Go.Bil
theorem keys_unique {l l' : List Int} (h : l.Pairwise (· < ·)) (h' : l'.Pairwise (· < ·)) (hm : ∀ x, x ∈ l ↔ x ∈ l') : l = l' := by
  have n1 : l.Nodup := h.imp (fun h e => by omega)
  have n2 : l'.Nodup := h'.imp (fun h e => by omega)
  exact List.Perm.eq_of_pairwise (le := fun (a b : Int) => a < b) (fun a b _ _ h1 h2 => by omega) h h' ((List.perm_ext_iff_of_nodup n1 n2).2 hm)
theorem mem_chg {a b : List Body} (hb : Sorted b) {k : Int} : k ∈ chgK b a ↔ ∃ x y, x ∈ a ∧ y ∈ b ∧ x.key = k ∧ y.key = k ∧ y ≠ x := by
  unfold chgK
  simp only [List.mem_map, List.mem_filter]
  constructor
  · rintro ⟨x, ⟨hx, hc⟩, rfl⟩
    rcases findI_cases x.key b with ⟨h, _⟩ | ⟨q, y, hq, hk, hi⟩
    · rw [chgB_none (by omega)] at hc; cases hc
    · rw [chgB_eq hq hi] at hc
      exact ⟨x, y, hx, List.mem_of_getElem? hq, rfl, hk, of_decide_eq_true hc⟩
  · rintro ⟨x, y, hx, hy, rfl, hk, hne⟩
    obtain ⟨q, hq⟩ := List.getElem?_of_mem hy
    exact ⟨x, ⟨hx, by rw [chgB_eq hq (findI_at hq hk fun j c hj hc => by have := sorted_lt hb hj hc hq; omega)]; exact decide_eq_true hne⟩, rfl⟩
theorem chg_asc {a b : List Body} (ha : Sorted a) : (chgK b a).Pairwise (· < ·) := by
  unfold chgK
  rw [List.pairwise_map]
  exact List.Pairwise.sublist List.filter_sublist ha
theorem chg_comm {a b : List Body} (ha : Sorted a) (hb : Sorted b) : chgK b a = chgK a b :=
  keys_unique (chg_asc ha) (chg_asc hb) fun k => by
    rw [mem_chg hb, mem_chg ha]
    exact ⟨fun ⟨x, y, h1, h2, h3, h4, h5⟩ => ⟨y, x, h2, h1, h4, h3, Ne.symm h5⟩, fun ⟨x, y, h1, h2, h3, h4, h5⟩ => ⟨y, x, h2, h1, h4, h3, Ne.symm h5⟩⟩
end Go.Bil
