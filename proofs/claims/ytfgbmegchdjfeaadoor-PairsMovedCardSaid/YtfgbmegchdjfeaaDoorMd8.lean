/- Views, plain: counting less keys, parts of a view. -/
import Derived.Test.YtfgbmegchdjfeaaDoorMd7
set_option linter.unusedVariables false
set_option linter.unusedSimpArgs false
namespace Go.Bil
theorem lessI_append (key : Int) : ∀ (l m : List Body), lessI key (l ++ m) = lessI key l + lessI key m
  | [], m => by simp [lessI]
  | b :: l, m => by simp only [List.cons_append, lessI, lessI_append key l m]; omega
theorem lessI_yes {key : Int} {xs : List Body} {k : Nat} {b : Body} (h : xs[k]? = some b) (hb : b.key < key) : lessI key (xs.take (k + 1)) = lessI key (xs.take k) + 1 := by
  rw [take_snoc h, lessI_append]
  simp [lessI, hb]
theorem lessI_no {key : Int} {xs : List Body} {k : Nat} {b : Body} (h : xs[k]? = some b) (hb : ¬ b.key < key) : lessI key (xs.take (k + 1)) = lessI key (xs.take k) := by
  rw [take_snoc h, lessI_append]
  simp [lessI, hb]
theorem lessI_len (key : Int) : ∀ xs : List Body, lessI key xs ≤ xs.length
  | [] => by simp [lessI]
  | b :: l => by have := lessI_len key l; simp only [lessI, List.length_cons]; split <;> omega
/-- A partL of a list. -/
def partL {α : Type} (v : List α) (a b : Nat) : List α := (v.drop a).take (b - a)
theorem part_map {α β : Type} (f : α → β) (v : List α) (a b : Nat) : ((v.map f).drop a).take (b - a) = (partL v a b).map f := by
  unfold partL
  rw [← List.map_drop, ← List.map_take]
theorem part_len {α : Type} {v : List α} {a b : Nat} (hab : a ≤ b) (hb : b ≤ v.length) : (partL v a b).length = b - a := by
  unfold partL
  simp
  omega
theorem part_at {α : Type} {v : List α} {a b j : Nat} (hj : j < b - a) : (partL v a b)[j]? = v[a + j]? := by
  unfold partL
  rw [List.getElem?_take_of_lt hj, List.getElem?_drop]
theorem part_sub {α : Type} (v : List α) (a b : Nat) : List.Sublist (partL v a b) v := (List.take_sublist _ _).trans (List.drop_sublist _ _)
theorem part_sorted {v : List Body} (h : Sorted v) (a b : Nat) : Sorted (partL v a b) := List.Pairwise.sublist (part_sub v a b) h
theorem lt_of_get {α : Type} {l : List α} {i : Nat} {x : α} (h : l[i]? = some x) : i < l.length := (List.getElem?_eq_some_iff.1 h).1
theorem part_less {v : List Body} (h : Sorted v) {a b i : Nat} (hab : a ≤ b) (hb : b ≤ v.length) {x : Body} (hx : v[i]? = some x) : lessI x.key (partL v a b) = min (i - a) (b - a) := by
  have hl := part_len hab hb
  refine lessI_at (by omega) (fun j c hj hc => ?_) (fun j c hj hc => ?_)
  · rw [part_at (by omega)] at hc
    exact sorted_lt h (by omega) hc hx
  · have hjl := lt_of_get hc
    rw [part_at (by omega)] at hc
    have := up_le h (p := i) (q := a + j) (by omega) hx hc
    omega
theorem part_found {v : List Body} (h : Sorted v) {a b i : Nat} (hab : a ≤ b) (hb : b ≤ v.length) {x : Body} (hx : v[i]? = some x) : (0 ≤ findI x.key (partL v a b)) ↔ (a ≤ i ∧ i < b) := by
  have hl := part_len hab hb
  rcases findI_cases x.key (partL v a b) with ⟨h1, h2⟩ | ⟨j, c, hc, hk, h1⟩
  · refine ⟨fun h => by omega, fun ⟨h3, h4⟩ => ?_⟩
    have : (partL v a b)[i - a]? = some x := by rw [part_at (by omega), show a + (i - a) = i by omega]; exact hx
    exact absurd rfl (h2 x (List.mem_of_getElem? this))
  · have hjl := lt_of_get hc
    rw [part_at (by omega)] at hc
    have hij : a + j = i := by
      rcases Nat.lt_trichotomy (a + j) i with hlt | heq | hgt
      · have := sorted_lt h hlt hc hx; omega
      · exact heq
      · have := sorted_lt h hgt hx hc; omega
    exact ⟨fun _ => ⟨by omega, by omega⟩, fun _ => by omega⟩
theorem checkV_ok {v : List Body} (he : eachI v = 0) (hs : Sorted v) : checkV v = 0 := by
  unfold checkV
  rw [if_neg (by omega), if_pos (sorted_adjB hs)]
theorem part_check {v : List Body} (he : eachI v = 0) (hs : Sorted v) (a b : Nat) : checkV (partL v a b) = 0 := by
  obtain ⟨h1, h2⟩ := eachI_ok he
  have hsub := part_sub v a b
  exact checkV_ok (eachI_of (by have := hsub.length_le; omega) fun x hx => h2 x (hsub.subset hx)) (part_sorted hs a b)
theorem each_sort {xs : List Body} (he : eachI xs = 0) : eachI (sortB xs) = 0 := by
  obtain ⟨h1, h2⟩ := eachI_ok he
  exact eachI_of (by rw [(sortB_perm xs).length_eq]; exact h1) fun b hb => h2 b ((sortB_perm xs).mem_iff.1 hb)
theorem sortV_len (xs : List Body) : (sortV xs).1.length ≤ xs.length := by
  unfold sortV
  split
  · simp
  · split
    · simpa using Nat.le_of_eq (sortB_perm xs).length_eq
    · simp
theorem tmod_at {f N a : Nat} {z : Int} (hz : z = (N : Int) + 1) (h : a = f % (N + 1)) : (f : Int).tmod z = (a : Int) := by
  subst hz
  subst h
  rw [show ((N : Int) + 1) = ((N + 1 : Nat) : Int) by omega]
  exact (Int.ofNat_tmod f (N + 1)).symm
end Go.Bil
