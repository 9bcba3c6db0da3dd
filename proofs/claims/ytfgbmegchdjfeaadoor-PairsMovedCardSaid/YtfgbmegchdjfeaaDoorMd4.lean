/- The plain side: the reference's sorted lists beside the store's slots. -/
import Derived.Test.YtfgbmegchdjfeaaDoorMd3
import Derived.Test.YtfgbmegchdjfeaaDoorFwO
set_option linter.unusedVariables false
namespace Go.Bil

def Sorted (s : List Body) : Prop := s.Pairwise (fun a b => a.key < b.key)
def cutK (k : Int) (s : List Body) : List Body := s.filter (fun x => decide (x.key ≠ k))
/-- What putB makes of the bodies that are still to come. -/
def putG (b : Body) : Bool → List Body → List Body
  | true, s => cutK b.key s
  | false, [] => [b]
  | false, x :: l => if b.key ≤ x.key then b :: cutK b.key (x :: l) else x :: putG b false l
def endB (b : Body) (r : List Body × Bool) : List Body := if r.2 then r.1 else r.1 ++ [b]
theorem putAll_acc (b : Body) : ∀ (s acc : List Body) (d : Bool), endB b (s.foldl (putStep b) (acc, d)) = acc ++ putG b d s
  | [], acc, true => by simp [putG, cutK, endB]
  | [], acc, false => by simp [putG, endB]
  | x :: l, acc, true => by
    have ih := putAll_acc b l (if x.key ≠ b.key then acc ++ [x] else acc) true
    rw [List.foldl_cons]
    have e : putStep b (acc, true) x = (if x.key ≠ b.key then acc ++ [x] else acc, true) := by unfold putStep; by_cases h : x.key = b.key <;> simp [h]
    rw [e, ih]
    by_cases h : x.key = b.key <;> simp [putG, cutK, h]
  | x :: l, acc, false => by
    rw [List.foldl_cons]
    by_cases hb : b.key ≤ x.key
    · have ih := putAll_acc b l (if x.key ≠ b.key then acc ++ [b] ++ [x] else acc ++ [b]) true
      have e : putStep b (acc, false) x = (if x.key ≠ b.key then acc ++ [b] ++ [x] else acc ++ [b], true) := by unfold putStep; by_cases h : x.key = b.key <;> simp [h, hb]
      rw [e, ih]
      by_cases h : x.key = b.key <;> simp [putG, cutK, h, hb]
    · have hne : x.key ≠ b.key := by omega
      have ih := putAll_acc b l (acc ++ [x]) false
      have e : putStep b (acc, false) x = (acc ++ [x], false) := by unfold putStep; simp [hb, hne]
      rw [e, ih]
      simp [putG, hb]
theorem putB_eq (s : List Body) (b : Body) (g : Bool) : putB s b g = putG b g s := by
  have := putAll_acc b s [] g
  rw [List.nil_append] at this
  exact this
theorem putG_perm (b : Body) : ∀ s : List Body, (putG b false s).Perm (b :: cutK b.key s)
  | [] => by simp [putG, cutK]
  | x :: l => by
    unfold putG
    split
    · exact List.Perm.refl _
    · rename_i h
      have hne : x.key ≠ b.key := by omega
      have e : cutK b.key (x :: l) = x :: cutK b.key l := by simp [cutK, hne]
      rw [e]
      exact ((putG_perm b l).cons x).trans (List.Perm.swap b x _)
theorem mem_cutK {k : Int} {s : List Body} {x : Body} : x ∈ cutK k s ↔ x ∈ s ∧ x.key ≠ k := by simp [cutK]
theorem Sorted.cut {s : List Body} (h : Sorted s) (k : Int) : Sorted (cutK k s) := List.Pairwise.sublist List.filter_sublist h
theorem Sorted.put {b : Body} : ∀ {s : List Body}, Sorted s → Sorted (putG b false s)
  | [], _ => by simp [putG, Sorted]
  | x :: l, h => by
    unfold putG
    have hx : ∀ y ∈ l, x.key < y.key := (List.pairwise_cons.1 h).1
    have hl : Sorted l := (List.pairwise_cons.1 h).2
    split
    · rename_i hb
      refine List.pairwise_cons.2 ⟨fun y hy => ?_, h.cut _⟩
      obtain ⟨h1, h2⟩ := mem_cutK.1 hy
      rcases List.mem_cons.1 h1 with rfl | h1
      · omega
      · have := hx y h1; omega
    · rename_i hb
      refine List.pairwise_cons.2 ⟨fun y hy => ?_, Sorted.put hl⟩
      have := (putG_perm b l).mem_iff.1 hy
      rcases List.mem_cons.1 this with rfl | h1
      · omega
      · exact hx y (mem_cutK.1 h1).1
theorem putB_len (s : List Body) (b : Body) (g : Bool) : (putB s b g).length ≤ s.length + 1 := by
  rw [putB_eq]
  cases g with
  | true => have := List.length_filter_le (fun x : Body => decide (x.key ≠ b.key)) s; simp only [putG, cutK]; omega
  | false =>
    rw [(putG_perm b s).length_eq]
    have := List.length_filter_le (fun x : Body => decide (x.key ≠ b.key)) s
    simp only [cutK, List.length_cons]; omega

/-- The reference's steps. -/
def addR (s : List Body) (b : Body) : List Body × Int :=
  if check b ≠ 0 then (s, check b) else if 0 ≤ findI b.key s then (s, 10) else if 4096 ≤ s.length then (s, 12) else (putB s b false, 0)
def nilBody (k : Int) : Body := ⟨k, 0, 0, 0, 0, 0, 0, 0, 0, 0⟩
def removeR (s : List Body) (k : Int) : List Body × Int := if findI k s < 0 then (s, 11) else (putB s (nilBody k) true, 0)
def setR (s : List Body) (b : Body) : List Body × Int :=
  if check b ≠ 0 then (s, check b) else if findI b.key s < 0 then (s, 11) else (putB s b false, 0)
def allR (l : List Body) : List Body := l.foldl (fun s b => (addR s b).1) []
theorem addR_len (s : List Body) (b : Body) : (addR s b).1.length ≤ s.length + 1 := by
  unfold addR
  (repeat' split) <;> first | exact Nat.le_succ _ | exact putB_len s b false
theorem allR_snoc {l : List Body} {k : Nat} {x : Body} (h : l[k]? = some x) : allR (l.take (k + 1)) = (addR (allR (l.take k)) x).1 := by
  unfold allR
  rw [take_snoc h, List.foldl_append]
  rfl
theorem allR_len (l : List Body) : (allR l).length ≤ l.length := by
  have key : ∀ (l s : List Body), (l.foldl (fun s b => (addR s b).1) s).length ≤ s.length + l.length := by
    intro l
    induction l with
    | nil => intro s; simp
    | cons b l ih =>
      intro s
      have h1 := ih (addR s b).1
      have h2 := addR_len s b
      simp only [List.foldl_cons, List.length_cons]
      omega
  have := key l []
  rw [List.length_nil, Nat.zero_add] at this
  exact this

/-! ### Slots and sorted lists -/
structure Rel (m s : List Body) : Prop where
  perm : s.Perm m
  sorted : Sorted s
theorem Rel.nil : Rel [] [] := ⟨List.Perm.refl _, by simp [Sorted]⟩
theorem Sorted.unique {s t : List Body} (h : Sorted s) (h' : Sorted t) (p : s.Perm t) : s = t :=
  List.Perm.eq_of_pairwise (le := fun (a b : Body) => a.key < b.key) (fun a b _ _ h1 h2 => by omega) h h' p
theorem Sorted.keys {s : List Body} (h : Sorted s) : Keys s := by
  unfold Keys List.Nodup
  rw [List.pairwise_map]
  exact h.imp (fun h => by omega)
theorem Rel.keys {m s : List Body} (R : Rel m s) : Keys m := R.sorted.keys.perm R.perm.symm
theorem Rel.find {m s : List Body} (R : Rel m s) (k : Int) : findI k s < 0 ↔ findI k m < 0 := by
  rw [findI_none, findI_none]
  exact ⟨fun h b hb => h b (R.perm.mem_iff.2 hb), fun h b hb => h b (R.perm.mem_iff.1 hb)⟩
theorem cutK_none {k : Int} {s : List Body} (h : findI k s < 0) : cutK k s = s := List.filter_eq_self.2 fun x hx => by simpa using findI_none.1 h x hx
theorem Rel.put {m s : List Body} (R : Rel m s) (b : Body) {m' : List Body} (h : m'.Perm (b :: cutK b.key m)) : Rel m' (putB s b false) := by
  rw [putB_eq]
  exact ⟨((putG_perm b s).trans ((R.perm.filter _).cons b)).trans h.symm, R.sorted.put⟩
theorem Rel.add {m s : List Body} (R : Rel m s) (b : Body) : Rel (addM m b).1 (addR s b).1 ∧ (addR s b).2 = (addM m b).2 := by
  unfold addM addR
  have hf := R.find b.key
  have hl := R.perm.length_eq
  by_cases h1 : check b ≠ 0
  · rw [if_pos h1, if_pos h1]; exact ⟨R, rfl⟩
  · rw [if_neg h1, if_neg h1]
    by_cases h2 : 0 ≤ findI b.key m
    · have h2' : 0 ≤ findI b.key s := by omega
      rw [if_pos h2, if_pos h2']; exact ⟨R, rfl⟩
    · have h2' : ¬ 0 ≤ findI b.key s := by omega
      rw [if_neg h2, if_neg h2', hl]
      by_cases h3 : 4096 ≤ m.length
      · rw [if_pos h3, if_pos h3]; exact ⟨R, rfl⟩
      · rw [if_neg h3, if_neg h3]
        refine ⟨R.put b ?_, rfl⟩
        rw [cutK_none (by omega)]
        exact List.perm_append_singleton b m
theorem erase_cutK {m : List Body} (h : Keys m) {i : Nat} {b : Body} (hi : m[i]? = some b) : m.eraseIdx i = cutK b.key m := by
  have e : m = m.take i ++ b :: m.drop (i + 1) := by
    have hlt := (List.getElem?_eq_some_iff.1 hi).1
    have hb : m[i] = b := (List.getElem?_eq_some_iff.1 hi).2
    rw [← hb, ← List.drop_eq_getElem_cons hlt, List.take_append_drop]
  have hne := erase_not h hi
  rw [List.eraseIdx_eq_take_drop_succ] at hne ⊢
  conv => rhs; rw [e]
  unfold cutK
  rw [List.filter_append, List.filter_cons]
  simp only [ne_eq, not_true_eq_false, decide_false, Bool.false_eq_true, if_false]
  rw [List.filter_eq_self.2 (fun x hx => by simpa using hne x (List.mem_append_left _ hx)), List.filter_eq_self.2 (fun x hx => by simpa using hne x (List.mem_append_right _ hx))]
theorem Rel.remove {m s : List Body} (R : Rel m s) (k : Int) : Rel (removeM m k).1 (removeR s k).1 ∧ (removeR s k).2 = (removeM m k).2 := by
  unfold removeM removeR
  have hf := R.find k
  by_cases h : findI k m < 0
  · rw [if_pos h, if_pos (hf.2 h)]; exact ⟨R, rfl⟩
  · rw [if_neg h, if_neg (fun h' => h (hf.1 h'))]
    refine ⟨?_, rfl⟩
    rcases findI_cases k m with ⟨h1, _⟩ | ⟨i, b, h1, h2, h3⟩
    · omega
    · rw [h3, Int.toNat_natCast, putB_eq]
      have hlt := (List.getElem?_eq_some_iff.1 h1).1
      have hk : (nilBody k).key = b.key := h2.symm
      have he : putG (nilBody k) true s = cutK b.key s := by unfold putG; rw [hk]
      refine ⟨?_, by rw [he]; exact R.sorted.cut _⟩
      show (putG (nilBody k) true s).Perm _
      rw [he]
      exact (R.perm.filter _).trans ((List.Perm.of_eq (erase_cutK R.keys h1).symm).trans (cutM_perm hlt).symm)
theorem set_perm {m : List Body} {i : Nat} {x : Body} (hi : i < m.length) : (m.set i x).Perm (x :: m.eraseIdx i) := by
  rw [List.set_eq_take_append_cons_drop, if_pos hi, List.eraseIdx_eq_take_drop_succ]
  exact List.perm_middle
theorem Rel.set {m s : List Body} (R : Rel m s) (b : Body) : Rel (setM m b).1 (setR s b).1 ∧ (setR s b).2 = (setM m b).2 := by
  unfold setM setR
  have hf := R.find b.key
  by_cases h1 : check b ≠ 0
  · rw [if_pos h1, if_pos h1]; exact ⟨R, rfl⟩
  · rw [if_neg h1, if_neg h1]
    by_cases h : findI b.key m < 0
    · rw [if_pos h, if_pos (hf.2 h)]; exact ⟨R, rfl⟩
    · rw [if_neg h, if_neg (fun h' => h (hf.1 h'))]
      refine ⟨?_, rfl⟩
      rcases findI_cases b.key m with ⟨h1, _⟩ | ⟨i, c, h1, h2, h3⟩
      · omega
      · rw [h3, Int.toNat_natCast]
        have hlt := (List.getElem?_eq_some_iff.1 h1).1
        refine R.put b ((set_perm hlt).trans ?_)
        rw [erase_cutK R.keys h1, h2]
theorem Rel.get {m s : List Body} (R : Rel m s) (k : Int) : (findI k s < 0 ∧ getM m k = (nilBody 0, 11)) ∨ ∃ (i : Nat) (b : Body), findI k s = (i : Int) ∧ s[i]? = some b ∧ getM m k = (b, 0) := by
  rcases findI_cases k s with ⟨h1, h2⟩ | ⟨i, b, h1, h2, h3⟩
  · have hm : findI k m < 0 := (R.find k).1 (by omega)
    refine .inl ⟨by omega, ?_⟩
    unfold getM
    rw [if_pos hm]
    rfl
  · refine .inr ⟨i, b, h3, h1, ?_⟩
    have hb : b ∈ m := R.perm.mem_iff.1 (List.mem_of_getElem? h1)
    obtain ⟨j, hj⟩ := List.getElem?_of_mem hb
    have := idx_some R.keys hj
    rw [h2] at this
    exact getM_some this hj

/-! ### The bodies in their order -/
theorem cmpI_neg {a b : Int} : cmpI a b < 0 ↔ a < b := by unfold cmpI; (repeat' split) <;> omega
def insB (b : Body) : List Body → List Body
  | [] => [b]
  | x :: l => if b.key ≤ x.key then b :: x :: l else x :: insB b l
def sortB (m : List Body) : List Body := m.foldr insB []
theorem insB_perm (b : Body) : ∀ l : List Body, (insB b l).Perm (b :: l)
  | [] => List.Perm.refl _
  | x :: l => by
    unfold insB
    split
    · exact List.Perm.refl _
    · exact ((insB_perm b l).cons x).trans (List.Perm.swap b x l)
theorem sortB_perm : ∀ m : List Body, (sortB m).Perm m
  | [] => List.Perm.refl _
  | b :: m => (insB_perm b (sortB m)).trans ((sortB_perm m).cons b)
def Up (s : List Body) : Prop := s.Pairwise (fun a b => a.key ≤ b.key)
theorem insB_up (b : Body) : ∀ {l : List Body}, Up l → Up (insB b l)
  | [], _ => by simp [insB, Up]
  | x :: l, h => by
    unfold insB
    have hx : ∀ y ∈ l, x.key ≤ y.key := (List.pairwise_cons.1 h).1
    split
    · rename_i hb
      refine List.pairwise_cons.2 ⟨fun y hy => ?_, h⟩
      rcases List.mem_cons.1 hy with rfl | hy
      · exact hb
      · have := hx y hy; omega
    · refine List.pairwise_cons.2 ⟨fun y hy => ?_, insB_up b (List.pairwise_cons.1 h).2⟩
      have := (insB_perm b l).mem_iff.1 hy
      rcases List.mem_cons.1 this with rfl | h1
      · omega
      · exact hx y h1
theorem sortB_up : ∀ m : List Body, Up (sortB m)
  | [] => by simp [sortB, Up]
  | b :: m => insB_up b (sortB_up m)
theorem up_sorted {s : List Body} (h : Up s) (hk : Keys s) : Sorted s := by
  unfold Up at h
  unfold Keys List.Nodup at hk
  rw [List.pairwise_map] at hk
  exact (List.Pairwise.and h hk).imp (fun ⟨h1, h2⟩ => by omega)
theorem up_unique {s t : List Body} (h : Up s) (h' : Up t) (p : s.Perm t) (hk : Keys s) : s = t := (up_sorted h hk).unique (up_sorted h' (hk.perm p.symm)) p
theorem sortB_rel {m : List Body} (hk : Keys m) : Rel m (sortB m) := ⟨sortB_perm m, up_sorted (sortB_up m) (hk.perm (sortB_perm m))⟩
theorem Rel.eq {m s : List Body} (R : Rel m s) : sortB m = s := (sortB_rel R.keys).sorted.unique R.sorted ((sortB_perm m).trans R.perm.symm)

theorem bodies_len (m : List Body) : ∀ y ∈ m.map bodyCells, y.length = 10 := by
  intro y hy
  obtain ⟨b, _, rfl⟩ := List.mem_map.1 hy
  rfl
theorem aw_1 : addM [] ⟨5, 65536, 0, 0, 0, 0, 0, 0, 0, 0⟩ = ([⟨5, 65536, 0, 0, 0, 0, 0, 0, 0, 0⟩], 0) := by decide
theorem aw_2 : addM [⟨5, 65536, 0, 0, 0, 0, 0, 0, 0, 0⟩] ⟨2, 65536, 0, 0, 0, 0, 0, 0, 0, 0⟩ = ([⟨5, 65536, 0, 0, 0, 0, 0, 0, 0, 0⟩, ⟨2, 65536, 0, 0, 0, 0, 0, 0, 0, 0⟩], 0) := by decide
theorem aw_3 : addM [⟨5, 65536, 0, 0, 0, 0, 0, 0, 0, 0⟩, ⟨2, 65536, 0, 0, 0, 0, 0, 0, 0, 0⟩] ⟨9, 65536, 0, 0, 0, 0, 0, 0, 0, 0⟩ = ([⟨5, 65536, 0, 0, 0, 0, 0, 0, 0, 0⟩, ⟨2, 65536, 0, 0, 0, 0, 0, 0, 0, 0⟩, ⟨9, 65536, 0, 0, 0, 0, 0, 0, 0, 0⟩], 0) := by decide
theorem aw_4 : addM [⟨5, 65536, 0, 0, 0, 0, 0, 0, 0, 0⟩, ⟨2, 65536, 0, 0, 0, 0, 0, 0, 0, 0⟩, ⟨9, 65536, 0, 0, 0, 0, 0, 0, 0, 0⟩] ⟨9, 65537, 0, 0, 0, 0, 0, 0, 0, 0⟩ = ([⟨5, 65536, 0, 0, 0, 0, 0, 0, 0, 0⟩, ⟨2, 65536, 0, 0, 0, 0, 0, 0, 0, 0⟩, ⟨9, 65536, 0, 0, 0, 0, 0, 0, 0, 0⟩], 10) := by decide
theorem aw_5 : addM [⟨5, 65536, 0, 0, 0, 0, 0, 0, 0, 0⟩, ⟨2, 65536, 0, 0, 0, 0, 0, 0, 0, 0⟩, ⟨9, 65536, 0, 0, 0, 0, 0, 0, 0, 0⟩] ⟨7, 0, 0, 0, 0, 0, 0, 0, 0, 0⟩ = ([⟨5, 65536, 0, 0, 0, 0, 0, 0, 0, 0⟩, ⟨2, 65536, 0, 0, 0, 0, 0, 0, 0, 0⟩, ⟨9, 65536, 0, 0, 0, 0, 0, 0, 0, 0⟩], 4) := by decide
theorem aw_6 : removeM [⟨5, 65536, 0, 0, 0, 0, 0, 0, 0, 0⟩, ⟨2, 65536, 0, 0, 0, 0, 0, 0, 0, 0⟩, ⟨9, 65536, 0, 0, 0, 0, 0, 0, 0, 0⟩] 5 = ([⟨9, 65536, 0, 0, 0, 0, 0, 0, 0, 0⟩, ⟨2, 65536, 0, 0, 0, 0, 0, 0, 0, 0⟩], 0) := by decide
theorem aw_7 : removeM [⟨9, 65536, 0, 0, 0, 0, 0, 0, 0, 0⟩, ⟨2, 65536, 0, 0, 0, 0, 0, 0, 0, 0⟩] 5 = ([⟨9, 65536, 0, 0, 0, 0, 0, 0, 0, 0⟩, ⟨2, 65536, 0, 0, 0, 0, 0, 0, 0, 0⟩], 11) := by decide
theorem aw_8 : getM [⟨9, 65536, 0, 0, 0, 0, 0, 0, 0, 0⟩, ⟨2, 65536, 0, 0, 0, 0, 0, 0, 0, 0⟩] 9 = (⟨9, 65536, 0, 0, 0, 0, 0, 0, 0, 0⟩, 0) := by decide
theorem aw_9 : sortB [⟨9, 65536, 0, 0, 0, 0, 0, 0, 0, 0⟩, ⟨2, 65536, 0, 0, 0, 0, 0, 0, 0, 0⟩] = [⟨2, 65536, 0, 0, 0, 0, 0, 0, 0, 0⟩, ⟨9, 65536, 0, 0, 0, 0, 0, 0, 0, 0⟩] := by decide
end Go.Bil
namespace Go.Bil
/-- The fields are what their types hold. -/
structure InB (b : Body) : Prop where
  key : 0 ≤ b.key ∧ b.key ≤ 4294967295
  radius : -2147483648 ≤ b.radius ∧ b.radius ≤ 2147483647
  ax : -2147483648 ≤ b.ax ∧ b.ax ≤ 2147483647
  ay : -2147483648 ≤ b.ay ∧ b.ay ≤ 2147483647
  mass : -2147483648 ≤ b.mass ∧ b.mass ≤ 2147483647
  bounce : -2147483648 ≤ b.bounce ∧ b.bounce ≤ 2147483647
  px : -2147483648 ≤ b.px ∧ b.px ≤ 2147483647
  py : -2147483648 ≤ b.py ∧ b.py ≤ 2147483647
  vx : -2147483648 ≤ b.vx ∧ b.vx ≤ 2147483647
  vy : -2147483648 ≤ b.vy ∧ b.vy ≤ 2147483647
theorem bodyOf (l : List Value) (h : Ints [.u32, .i32, .i32, .i32, .i32, .i32, .i32, .i32, .i32, .i32] l) : ∃ b, l = bodyCells b ∧ InB b := by
  obtain ⟨z0, l0, rfl, w0, h0⟩ := ints_cons h
  obtain ⟨z1, l1, rfl, w1, h1⟩ := ints_cons h0
  obtain ⟨z2, l2, rfl, w2, h2⟩ := ints_cons h1
  obtain ⟨z3, l3, rfl, w3, h3⟩ := ints_cons h2
  obtain ⟨z4, l4, rfl, w4, h4⟩ := ints_cons h3
  obtain ⟨z5, l5, rfl, w5, h5⟩ := ints_cons h4
  obtain ⟨z6, l6, rfl, w6, h6⟩ := ints_cons h5
  obtain ⟨z7, l7, rfl, w7, h7⟩ := ints_cons h6
  obtain ⟨z8, l8, rfl, w8, h8⟩ := ints_cons h7
  obtain ⟨z9, l9, rfl, w9, h9⟩ := ints_cons h8
  obtain rfl := ints_nil h9
  exact ⟨⟨z0, z1, z2, z3, z4, z5, z6, z7, z8, z9⟩, rfl, ⟨w0, w1, w2, w3, w4, w5, w6, w7, w8, w9⟩⟩
end Go.Bil
