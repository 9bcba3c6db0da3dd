/- Part of the proof of the laws of this seat: MdS. No conditions. -/
import Derived.Test.YtjbhobahebebkaaDoorK6
import Derived.Test.YtjbhobahebebkaaDoorK7
import Derived.Sort.AssemblyPlain
import Derived.Sort.LotD5
/- The library's sort, step by step: what each round of a loop does to the kit's plain functions. -/
set_option linter.unusedVariables false
set_option linter.unusedSimpArgs false
namespace Go.Bil
open Go.Sort (swp ltInt)
abbrev AI := Array Int
theorem ltI {x y : Int} : (ltInt x y = true) = (x < y) := by simp [ltInt]
theorem ltI_f {x y : Int} : (ltInt x y = false) = ¬ (x < y) := by simp [ltInt]
theorem dget {d : AI} {i : Nat} (h : i < d.size) : d.toList[i]? = some d[i]! := by
  rw [Array.getElem?_toList, Array.getElem?_eq_getElem h, getElem!_pos d i h]
theorem swp_list (d : AI) (i j : Nat) : (swp d i j).toList = (d.toList.set i d[j]!).set j d[i]! := by
  unfold swp
  rw [Array.toList_setIfInBounds, Array.toList_setIfInBounds]
theorem swp_n (d : AI) (i j : Nat) : (swp d i j).size = d.size := by unfold swp; simp
theorem swp_row {T n c i j : Nat} {A : Option Addr} {d : AI} {e : Ent} {x y : Int} (hx : x = d[i]!) (hy : y = d[j]!) (hR : RowIs T 1 A n c (((d.toList.map keyCell).set i [.int .u32 y]).set j [.int .u32 x]) e) : RowIs T 1 A n c ((swp d i j).toList.map keyCell) e := by
  subst hx hy
  rw [swp_list, List.map_set, List.map_set]
  exact hR
theorem dset {ls : List (List Value)} {i j : Nat} {x : List Value} (h : j < ls.length) : (ls.set i x)[j]? = some ((ls.set i x)[j]'(by rw [List.length_set]; exact h)) := List.getElem?_eq_getElem _
/-! ### insertionSort -/
theorem insI_step {a j : Nat} {d : AI} (h : a < j) (hl : d[j]! < d[j - 1]!) : Go.Sort.insInner ltInt a j d = Go.Sort.insInner ltInt a (j - 1) (swp d j (j - 1)) := by
  cases j with
  | zero => omega
  | succ j =>
    rw [Nat.add_sub_cancel] at hl ⊢
    rw [Go.Sort.insInner, if_pos (by rw [decide_eq_true h, ltI.mpr hl]; rfl)]
theorem insI_stop {a j : Nat} {d : AI} (h : ¬ (a < j ∧ d[j]! < d[j - 1]!)) : Go.Sort.insInner ltInt a j d = d := by
  cases j with
  | zero => rfl
  | succ j =>
    rw [Nat.add_sub_cancel] at h
    rw [Go.Sort.insInner, if_neg (fun e => h (by rw [Bool.and_eq_true, decide_eq_true_eq, ltI] at e; exact e))]
theorem insO_step {a b i : Nat} {d : AI} (h : i < b) : Go.Sort.insOuter ltInt a b i d = Go.Sort.insOuter ltInt a b (i + 1) (Go.Sort.insInner ltInt a i d) := by rw [Go.Sort.insOuter, if_pos h]
theorem insO_stop {a b i : Nat} {d : AI} (h : ¬ i < b) : Go.Sort.insOuter ltInt a b i d = d := by rw [Go.Sort.insOuter, if_neg h]
/-! ### siftDown, heapSort -/
theorem sift_end {hi f r : Nat} {d : AI} (h : hi ≤ 2 * r + 1) : Go.Sort.siftDown ltInt hi f r d = d := by rw [Go.Sort.siftDown, dif_pos h]
theorem sift_r0 {hi f r : Nat} {d : AI} (h : 2 * r + 2 < hi) (hl : d[f + (2 * r + 1)]! < d[f + (2 * r + 1) + 1]!) (hn : ¬ d[f + r]! < d[f + (2 * r + 2)]!) : Go.Sort.siftDown ltInt hi f r d = d := by
  rw [Go.Sort.siftDown, dif_neg (by omega), if_pos (by rw [decide_eq_true (show 2 * r + 1 + 1 < hi by omega), ltI.mpr hl]; rfl), if_pos (by rw [ltI_f.mpr hn]; rfl)]
theorem sift_r1 {hi f r : Nat} {d : AI} (h : 2 * r + 2 < hi) (hl : d[f + (2 * r + 1)]! < d[f + (2 * r + 1) + 1]!) (hn : d[f + r]! < d[f + (2 * r + 2)]!) : Go.Sort.siftDown ltInt hi f r d = Go.Sort.siftDown ltInt hi f (2 * r + 2) (swp d (f + r) (f + (2 * r + 2))) := by
  rw [Go.Sort.siftDown, dif_neg (by omega), if_pos (by rw [decide_eq_true (show 2 * r + 1 + 1 < hi by omega), ltI.mpr hl]; rfl), if_neg (by rw [ltI.mpr hn]; decide), dif_pos h]
theorem sift_l0 {hi f r : Nat} {d : AI} (h : ¬ hi ≤ 2 * r + 1) (hl : ¬ (2 * r + 1 + 1 < hi ∧ d[f + (2 * r + 1)]! < d[f + (2 * r + 1) + 1]!)) (hn : ¬ d[f + r]! < d[f + (2 * r + 1)]!) : Go.Sort.siftDown ltInt hi f r d = d := by
  rw [Go.Sort.siftDown, dif_neg h, if_neg (fun e => hl (by rw [Bool.and_eq_true, decide_eq_true_eq, ltI] at e; exact e)), if_pos (by rw [ltI_f.mpr hn]; rfl)]
theorem sift_l1 {hi f r : Nat} {d : AI} (h : ¬ hi ≤ 2 * r + 1) (hl : ¬ (2 * r + 1 + 1 < hi ∧ d[f + (2 * r + 1)]! < d[f + (2 * r + 1) + 1]!)) (hn : d[f + r]! < d[f + (2 * r + 1)]!) : Go.Sort.siftDown ltInt hi f r d = Go.Sort.siftDown ltInt hi f (2 * r + 1) (swp d (f + r) (f + (2 * r + 1))) := by
  rw [Go.Sort.siftDown, dif_neg h, if_neg (fun e => hl (by rw [Bool.and_eq_true, decide_eq_true_eq, ltI] at e; exact e)), if_neg (by rw [ltI.mpr hn]; decide)]
/-! ### The scans, the partitions -/
theorem up_step {p : Int → Bool} {d : AI} {j i : Nat} (h : i ≤ j) (hp : p d[i]! = true) : Go.Sort.scanUp p d j i = Go.Sort.scanUp p d j (i + 1) := by rw [Go.Sort.scanUp, if_pos (by rw [decide_eq_true h, hp]; rfl)]
theorem up_stop {p : Int → Bool} {d : AI} {j i : Nat} (h : ¬ (i ≤ j ∧ p d[i]! = true)) : Go.Sort.scanUp p d j i = i := by rw [Go.Sort.scanUp, if_neg (fun e => h (by rw [Bool.and_eq_true, decide_eq_true_eq] at e; exact e))]
theorem down_step {p : Int → Bool} {d : AI} {j i : Nat} (h : i ≤ j) (hj : 0 < j) (hp : p d[j]! = true) : Go.Sort.scanDown p d i j = Go.Sort.scanDown p d i (j - 1) := by
  cases j with
  | zero => omega
  | succ j => rw [Go.Sort.scanDown, if_pos (by rw [decide_eq_true h, hp]; rfl)]; rfl
theorem down_stop {p : Int → Bool} {d : AI} {j i : Nat} (h : ¬ (i ≤ j ∧ p d[j]! = true)) : Go.Sort.scanDown p d i j = j := by
  cases j with
  | zero => rfl
  | succ j => rw [Go.Sort.scanDown, if_neg (fun e => h (by rw [Bool.and_eq_true, decide_eq_true_eq] at e; exact e))]
def pLt (z : Int) : Int → Bool := fun x => ltInt x z
def pGe (z : Int) : Int → Bool := fun x => !ltInt x z
def pLe (z : Int) : Int → Bool := fun x => !ltInt z x
def pGt (z : Int) : Int → Bool := fun x => ltInt z x
theorem pLt_t {z x : Int} : (pLt z x = true) = (x < z) := by simp [pLt, ltInt]
theorem pGe_t {z x : Int} : (pGe z x = true) = ¬ (x < z) := by simp [pGe, ltInt]
theorem pLe_t {z x : Int} : (pLe z x = true) = ¬ (z < x) := by simp [pLe, ltInt]
theorem pGt_t {z x : Int} : (pGt z x = true) = (z < x) := by simp [pGt, ltInt]
theorem part_end {a i j i2 j2 : Nat} {d : AI} (hi : Go.Sort.scanUp (pLt d[a]!) d j i = i2) (hj : Go.Sort.scanDown (pGe d[a]!) d i2 j = j2) (h : j2 < i2) : Go.Sort.partLoop ltInt a i j d = (j2, d) := by
  subst hi hj
  rw [Go.Sort.partLoop]
  exact if_pos h
theorem part_go {a i j i2 j2 : Nat} {d : AI} (hi : Go.Sort.scanUp (pLt d[a]!) d j i = i2) (hj : Go.Sort.scanDown (pGe d[a]!) d i2 j = j2) (h : i2 ≤ j2) (h1 : i ≤ i2) (h2 : j2 ≤ j) (h3 : 0 < i2) : Go.Sort.partLoop ltInt a i j d = Go.Sort.partLoop ltInt a (i2 + 1) (j2 - 1) (swp d i2 j2) := by
  subst hi hj
  have hn : ¬ Go.Sort.scanUp (pLt d[a]!) d j i > Go.Sort.scanDown (pGe d[a]!) d (Go.Sort.scanUp (pLt d[a]!) d j i) j := by omega
  rw [Go.Sort.partLoop]
  refine (if_neg hn).trans (dif_pos ?_)
  show Go.Sort.scanDown (pGe d[a]!) d (Go.Sort.scanUp (pLt d[a]!) d j i) j - 1 + 1 - (Go.Sort.scanUp (pLt d[a]!) d j i + 1) < j + 1 - i
  omega
theorem parteq_end {a i j i2 j2 : Nat} {d : AI} (hi : Go.Sort.scanUp (pLe d[a]!) d j i = i2) (hj : Go.Sort.scanDown (pGt d[a]!) d i2 j = j2) (h : j2 < i2) : Go.Sort.partEqLoop ltInt a i j d = (i2, d) := by
  subst hi hj
  rw [Go.Sort.partEqLoop]
  exact if_pos h
theorem parteq_go {a i j i2 j2 : Nat} {d : AI} (hi : Go.Sort.scanUp (pLe d[a]!) d j i = i2) (hj : Go.Sort.scanDown (pGt d[a]!) d i2 j = j2) (h : i2 ≤ j2) (h1 : i ≤ i2) (h2 : j2 ≤ j) (h3 : 0 < i2) : Go.Sort.partEqLoop ltInt a i j d = Go.Sort.partEqLoop ltInt a (i2 + 1) (j2 - 1) (swp d i2 j2) := by
  subst hi hj
  have hn : ¬ Go.Sort.scanUp (pLe d[a]!) d j i > Go.Sort.scanDown (pGt d[a]!) d (Go.Sort.scanUp (pLe d[a]!) d j i) j := by omega
  rw [Go.Sort.partEqLoop]
  refine (if_neg hn).trans (dif_pos ?_)
  show Go.Sort.scanDown (pGt d[a]!) d (Go.Sort.scanUp (pLe d[a]!) d j i) j - 1 + 1 - (Go.Sort.scanUp (pLe d[a]!) d j i + 1) < j + 1 - i
  omega
theorem partition_end {d d0 : AI} {a b p i j : Nat} (h0 : d0 = swp d a p) (hi : Go.Sort.scanUp (pLt d0[a]!) d0 (b - 1) (a + 1) = i) (hj : Go.Sort.scanDown (pGe d0[a]!) d0 i (b - 1) = j) (h : j < i) : Go.Sort.partition ltInt d a b p = (j, true, swp d0 j a) := by
  subst h0 hi hj
  exact if_pos h
theorem partition_go {d d0 dr : AI} {a b p i j jr : Nat} (h0 : d0 = swp d a p) (hi : Go.Sort.scanUp (pLt d0[a]!) d0 (b - 1) (a + 1) = i) (hj : Go.Sort.scanDown (pGe d0[a]!) d0 i (b - 1) = j) (h : ¬ j < i) (hr : Go.Sort.partLoop ltInt a (i + 1) (j - 1) (swp d0 i j) = (jr, dr)) : Go.Sort.partition ltInt d a b p = (jr, false, swp dr jr a) := by
  subst h0 hi hj
  exact (if_neg h).trans (congrArg (fun X : Nat × AI => (X.1, false, swp X.2 X.1 a)) hr)
/-! ### partialInsertionSort of few -/
theorem sorted_step {d : AI} {b i : Nat} (h : i < b) (hn : ¬ d[i]! < d[i - 1]!) : Go.Sort.scanSorted ltInt d b i = Go.Sort.scanSorted ltInt d b (i + 1) := by rw [Go.Sort.scanSorted, if_pos (by rw [decide_eq_true h, ltI_f.mpr hn]; rfl)]
theorem sorted_stop {d : AI} {b i : Nat} (h : ¬ (i < b ∧ ¬ d[i]! < d[i - 1]!)) : Go.Sort.scanSorted ltInt d b i = i := by
  rw [Go.Sort.scanSorted, if_neg (fun e => h ?_)]
  simp only [Bool.and_eq_true, decide_eq_true_eq, Bool.not_eq_true', ltI_f] at e
  exact e
theorem partial_few {d : AI} {a b i : Nat} (hs : Go.Sort.scanSorted ltInt d b (a + 1) = i) (h : b - a < 50) : Go.Sort.partialInsertionSort ltInt d a b = (d, decide (i = b)) := by
  unfold Go.Sort.partialInsertionSort
  rw [Go.Sort.partialIns]
  subst hs
  by_cases e : Go.Sort.scanSorted ltInt d b (a + 1) = b
  · rw [decide_eq_true e]; exact if_pos e
  · rw [decide_eq_false e]; exact (if_neg e).trans (if_pos h)
/-! ### The pivot -/
theorem ord2_yes {d : AI} {a b s : Nat} (h : d[b]! < d[a]!) : Go.Sort.order2 ltInt d a b s = (b, a, s + 1) := by unfold Go.Sort.order2; rw [if_pos (ltI.mpr h)]
theorem ord2_no {d : AI} {a b s : Nat} (h : ¬ d[b]! < d[a]!) : Go.Sort.order2 ltInt d a b s = (a, b, s) := by unfold Go.Sort.order2; rw [if_neg (by rw [ltI_f.mpr h]; decide)]
theorem choose_few {d : AI} {a b p s : Nat} (h : b - a < 50) (h8 : 8 ≤ b - a) (hm : Go.Sort.median ltInt d (a + (b - a) / 4 * 1) (a + (b - a) / 4 * 2) (a + (b - a) / 4 * 3) 0 = (p, s)) :
    Go.Sort.choosePivot ltInt d a b = (p, if s = 0 then .increasing else if s = 12 then .decreasing else .unknown) := by
  unfold Go.Sort.choosePivot
  simp only [ge_iff_le, if_pos h8, if_neg (show ¬ 50 ≤ b - a by omega), hm]
/-! ### reverseRange -/
theorem rev_step {i j : Nat} {d : AI} (h : i < j) : Go.Sort.reverseLoop i j d = Go.Sort.reverseLoop (i + 1) (j - 1) (swp d i j) := by rw [Go.Sort.reverseLoop, if_pos h]
theorem rev_stop {i j : Nat} {d : AI} (h : ¬ i < j) : Go.Sort.reverseLoop i j d = d := by rw [Go.Sort.reverseLoop, if_neg h]
/-! ### Sizes -/
/-! ### pdq -/
theorem pdq_small {d : AI} {a b l : Nat} {wb wp : Bool} (h : b - a ≤ 12) : Go.Sort.pdq ltInt d a b l wb wp = Go.Sort.insertionSort ltInt d a b := by rw [Go.Sort.pdq, if_pos h]
theorem pdq_heap {d : AI} {a b l : Nat} {wb wp : Bool} (h : ¬ b - a ≤ 12) (h0 : l = 0) : Go.Sort.pdq ltInt d a b l wb wp = Go.Sort.heapSort ltInt d a b := by rw [Go.Sort.pdq, if_neg h, if_pos h0]
/-- What a round does behind its pivot. -/
def pdqR (d3 : AI) (done : Bool) (a b p l : Nat) (wb wp : Bool) : AI :=
  if done then d3 else
  if a > 0 && !ltInt d3[a - 1]! d3[p]! then
    match Go.Sort.partitionEqual ltInt d3 a b p with
    | (mid, d4) => if _h : a < mid ∧ mid ≤ b then Go.Sort.pdq ltInt d4 mid b l wb wp else d4
  else
    match Go.Sort.partition ltInt d3 a b p with
    | (mid, ap, d4) =>
      if _h : a ≤ mid ∧ mid < b then
        if mid - a < b - mid then Go.Sort.pdq ltInt (Go.Sort.pdq ltInt d4 a mid l true true) (mid + 1) b l (decide (mid - a ≥ (b - a) / 8)) ap
        else Go.Sort.pdq ltInt (Go.Sort.pdq ltInt d4 (mid + 1) b l true true) a mid l (decide (b - mid ≥ (b - a) / 8)) ap
      else d4
/-- What a round does behind the choice of its pivot. -/
def pdqP (d1 : AI) (a b l : Nat) (wb wp : Bool) (c : Nat × Go.Sort.Hint) : AI :=
  let d2 := if c.2 = .decreasing then Go.Sort.reverseRange d1 a b else d1
  let p := if c.2 = .decreasing then (b - 1) - (c.1 - a) else c.1
  let hint := if c.2 = .decreasing then Go.Sort.Hint.increasing else c.2
  let pi := if wb && wp && hint = .increasing then Go.Sort.partialInsertionSort ltInt d2 a b else (d2, false)
  pdqR pi.1 pi.2 a b p l wb wp
theorem pdq_round {d : AI} {a b l : Nat} {wb wp : Bool} (h : ¬ b - a ≤ 12) (h0 : ¬ l = 0) : Go.Sort.pdq ltInt d a b l wb wp = pdqP (if !wb then Go.Sort.breakPatterns d a b else d) a b (if !wb then l - 1 else l) wb wp (Go.Sort.choosePivot ltInt (if !wb then Go.Sort.breakPatterns d a b else d) a b) := by
  rw [Go.Sort.pdq, if_neg h, if_neg h0]
  rfl
theorem pdqP_rev {d1 : AI} {a b l p : Nat} {wb wp : Bool} : pdqP d1 a b l wb wp (p, .decreasing) = pdqP (Go.Sort.reverseRange d1 a b) a b l wb wp ((b - 1) - (p - a), .increasing) := by
  unfold pdqP
  simp
theorem pdqP_try {d1 d2 : AI} {a b l p : Nat} {wb wp ok : Bool} (h : (wb && wp) = true) (hp : Go.Sort.partialInsertionSort ltInt d1 a b = (d2, ok)) : pdqP d1 a b l wb wp (p, .increasing) = pdqR d2 ok a b p l wb wp := by
  unfold pdqP
  simp [h, hp]
theorem pdqP_not {d1 : AI} {a b l p : Nat} {wb wp : Bool} {hint : Go.Sort.Hint} (hd : hint ≠ .decreasing) (h : ¬ ((wb && wp) = true ∧ hint = .increasing)) : pdqP d1 a b l wb wp (p, hint) = pdqR d1 false a b p l wb wp := by
  unfold pdqP
  have e : ((wb && wp) && decide (hint = .increasing)) = false := by
    cases hw : (wb && wp) with
    | false => rfl
    | true => rw [Bool.true_and, decide_eq_false_iff_not]; exact fun x => h ⟨hw, x⟩
  simp only [if_neg hd, e, Bool.false_eq_true, if_false]
theorem pdqR_eq {d3 d4 : AI} {a b p l mid : Nat} {wb wp : Bool} (h : a > 0) (hn : ¬ d3[a - 1]! < d3[p]!) (hp : Go.Sort.partitionEqual ltInt d3 a b p = (mid, d4)) (hm : a < mid ∧ mid ≤ b) : pdqR d3 false a b p l wb wp = Go.Sort.pdq ltInt d4 mid b l wb wp := by
  unfold pdqR
  rw [if_neg (by decide), if_pos (by rw [decide_eq_true h, ltI_f.mpr hn]; rfl), hp]
  exact dif_pos hm
theorem pdqR_left {d3 d4 : AI} {a b p l mid : Nat} {wb wp ap : Bool} (h : ¬ (a > 0 ∧ ¬ d3[a - 1]! < d3[p]!)) (hp : Go.Sort.partition ltInt d3 a b p = (mid, ap, d4)) (hm : a ≤ mid ∧ mid < b) (hl : mid - a < b - mid) :
    pdqR d3 false a b p l wb wp = Go.Sort.pdq ltInt (Go.Sort.pdq ltInt d4 a mid l true true) (mid + 1) b l (decide (mid - a ≥ (b - a) / 8)) ap := by
  unfold pdqR
  rw [if_neg (by decide), if_neg (fun e => h (by rw [Bool.and_eq_true, decide_eq_true_eq, Bool.not_eq_true', ltI_f] at e; exact e)), hp]
  exact (dif_pos hm).trans (if_pos hl)
theorem pdqR_right {d3 d4 : AI} {a b p l mid : Nat} {wb wp ap : Bool} (h : ¬ (a > 0 ∧ ¬ d3[a - 1]! < d3[p]!)) (hp : Go.Sort.partition ltInt d3 a b p = (mid, ap, d4)) (hm : a ≤ mid ∧ mid < b) (hl : ¬ mid - a < b - mid) :
    pdqR d3 false a b p l wb wp = Go.Sort.pdq ltInt (Go.Sort.pdq ltInt d4 (mid + 1) b l true true) a mid l (decide (b - mid ≥ (b - a) / 8)) ap := by
  unfold pdqR
  rw [if_neg (by decide), if_neg (fun e => h (by rw [Bool.and_eq_true, decide_eq_true_eq, Bool.not_eq_true', ltI_f] at e; exact e)), hp]
  exact (dif_pos hm).trans (if_neg hl)
/-! ### Two facts on ltInt -/
theorem heap_unfold (d : AI) (a b : Nat) : Go.Sort.heapSort ltInt d a b = Go.Sort.heapPop ltInt a (b - a) (Go.Sort.heapBuild ltInt (b - a) a ((b - a - 1) / 2 + 1) d) := rfl
theorem heapB_step {hi f k : Nat} {d : AI} (h : 0 < k) : Go.Sort.heapBuild ltInt hi f k d = Go.Sort.heapBuild ltInt hi f (k - 1) (Go.Sort.siftDown ltInt hi f (k - 1) d) := by
  cases k with
  | zero => omega
  | succ k => rfl
theorem heapP_step {f k : Nat} {d : AI} (h : 0 < k) : Go.Sort.heapPop ltInt f k d = Go.Sort.heapPop ltInt f (k - 1) (Go.Sort.siftDown ltInt (k - 1) f 0 (swp d f (f + (k - 1)))) := by
  cases k with
  | zero => omega
  | succ k => rfl
theorem tquo {m n : Nat} {z : Int} (hz : z = (n : Int)) : (m : Int).tdiv z = ((m / n : Nat) : Int) := by subst hz; exact (Int.ofNat_tdiv m n).symm
theorem tquo2 (m : Nat) : (m : Int).tdiv 2 = ((m / 2 : Nat) : Int) := tquo (z := 2) (n := 2) rfl
theorem tquo4 (m : Nat) : (m : Int).tdiv 4 = ((m / 4 : Nat) : Int) := tquo (z := 4) (n := 4) rfl
theorem tquo8 (m : Nat) : (m : Int).tdiv 8 = ((m / 8 : Nat) : Int) := tquo (z := 8) (n := 8) rfl
/-! ### The patterns -/
theorem u_xor (a b : Nat) (ha : a < 18446744073709551616) (hb : b < 18446744073709551616) : IntKind.wrap .u64 ((BitVec.ofInt (IntKind.bits .u64) (a : Int) ^^^ BitVec.ofInt (IntKind.bits .u64) (b : Int)).toNat) = ((a ^^^ b : Nat) : Int) := by
  have p : (18446744073709551616 : Nat) = 2 ^ 64 := by decide
  have h := Nat.xor_lt_two_pow (n := 64) (p ▸ ha) (p ▸ hb)
  rw [← p] at h
  show IntKind.wrap .u64 ((BitVec.ofInt 64 (a : Int) ^^^ BitVec.ofInt 64 (b : Int)).toNat) = _
  rw [BitVec.toNat_xor, BitVec.ofInt_natCast, BitVec.ofInt_natCast, BitVec.toNat_ofNat, BitVec.toNat_ofNat, Nat.mod_eq_of_lt (by omega), Nat.mod_eq_of_lt (by omega), wrU]
  omega
theorem u_and (a b : Nat) (ha : a < 18446744073709551616) (hb : b < 18446744073709551616) : IntKind.wrap .u64 ((BitVec.ofInt (IntKind.bits .u64) (a : Int) &&& BitVec.ofInt (IntKind.bits .u64) (b : Int)).toNat) = ((a &&& b : Nat) : Int) := by
  have h : a &&& b ≤ a := Nat.and_le_left
  show IntKind.wrap .u64 ((BitVec.ofInt 64 (a : Int) &&& BitVec.ofInt 64 (b : Int)).toNat) = _
  rw [BitVec.toNat_and, BitVec.ofInt_natCast, BitVec.ofInt_natCast, BitVec.toNat_ofNat, BitVec.toNat_ofNat, Nat.mod_eq_of_lt (by omega), Nat.mod_eq_of_lt (by omega), wrU]
  omega
/-- What one round of the patterns exchanges. -/
theorem break_one {a len m x i o : Nat} {d : AI} {r : UInt64} (hr : r.toNat = x) (ho : o = if len ≤ Go.Sort.xorNextN x &&& (m - 1) then (Go.Sort.xorNextN x &&& (m - 1)) - len else Go.Sort.xorNextN x &&& (m - 1)) : Go.Sort.breakStep a len m (r, d) i = (Go.Sort.xorNext r, swp d i (a + o)) := by
  subst ho hr
  unfold Go.Sort.breakStep
  simp only [Go.Sort.xorNext_toNat, ge_iff_le]
def hintI : Go.Sort.Hint → Int
  | .unknown => 0
  | .increasing => 1
  | .decreasing => 2
theorem hint_dec {h : Go.Sort.Hint} : hintI h = 2 ↔ h = .decreasing := by cases h <;> simp [hintI]
theorem hint_inc {h : Go.Sort.Hint} : hintI h = 1 ↔ h = .increasing := by cases h <;> simp [hintI]
theorem len_bits : ∀ n : Nat, n < 64 → Go.Lib.bitLen n = Go.Sort.bitsLen n := by decide
theorem ord2_cnt (d : AI) (a b s : Nat) : (Go.Sort.order2 ltInt d a b s).2.2 ≤ s + 1 := by unfold Go.Sort.order2; split <;> simp
def brk (a len m idx : Nat) (s : UInt64 × AI) : Nat → UInt64 × AI
  | 0 => s
  | k + 1 => Go.Sort.breakStep a len m (brk a len m idx s k) (idx + k)
theorem break_brk {d : AI} {a b : Nat} (h : 8 ≤ b - a) : Go.Sort.breakPatterns d a b = (brk a (b - a) (1 <<< Go.Sort.bitsLen (b - a)) (a + (b - a) / 4 * 2 - 1) (UInt64.ofNat (b - a), d) 3).2 := by
  unfold Go.Sort.breakPatterns
  exact if_pos h
theorem pow_len {n : Nat} (h : 0 < n) (h2 : n < 64) : 1 <<< Go.Sort.bitsLen n = 2 ^ Go.Sort.bitsLen n ∧ 1 ≤ 1 <<< Go.Sort.bitsLen n ∧ 1 <<< Go.Sort.bitsLen n ≤ 2 * n ∧ Go.Sort.bitsLen n ≤ 6 := by
  have e : 1 <<< Go.Sort.bitsLen n = 2 ^ Go.Sort.bitsLen n := by rw [Nat.shiftLeft_eq, Nat.one_mul]
  have := Go.Sort.two_pow_bitsLen_le h
  have hp := Nat.two_pow_pos (Go.Sort.bitsLen n)
  exact ⟨e, by omega, by omega, (Go.Sort.bitsLen_le_iff n 6).2 (by omega)⟩
end Go.Bil
