/- Part of the proof of the laws of this seat: Md4, Md5, Md7, Md8, MdB, MdC. No conditions. -/
import Derived.Test.YtmcddmhkjcgneaaGreatDoorK4
import Derived.Test.YtmcddmhkjcgneaaGreatDoorK3
/- The plain side: the reference's sorted lists beside the store's slots. -/
set_option linter.unusedVariables false
namespace Go.Bil

def Sorted (s : List Body) : Prop := s.Pairwise (fun a b => a.key < b.key)
def cutK (k : Int) (s : List Body) : List Body := s.filter (fun x => decide (x.key ≠ k))
/-- What putB makes of the bodies that are still to come. -/
def putG (b : Body) : Bool → List Body → List Body
  | true, s => cutK b.key s
  | false, [] => [b]
  | false, x :: l => if b.key ≤ x.key then b :: cutK b.key (x :: l) else x :: putG b false l
def endB (b : Body) (r : List Body × Bool) : List Body := if r.2 then r.1 else r.1 ++ [b]
theorem putAll_acc (b : Body) : ∀ (s acc : List Body) (d : Bool), endB b (s.foldl (putStep b) (acc, d)) = acc ++ putG b d s
  | [], acc, true => by simp [putG, cutK, endB]
  | [], acc, false => by simp [putG, endB]
  | x :: l, acc, true => by
    have ih := putAll_acc b l (if x.key ≠ b.key then acc ++ [x] else acc) true
    rw [List.foldl_cons]
    have e : putStep b (acc, true) x = (if x.key ≠ b.key then acc ++ [x] else acc, true) := by unfold putStep; by_cases h : x.key = b.key <;> simp [h]
    rw [e, ih]
    by_cases h : x.key = b.key <;> simp [putG, cutK, h]
  | x :: l, acc, false => by
    rw [List.foldl_cons]
    by_cases hb : b.key ≤ x.key
    · have ih := putAll_acc b l (if x.key ≠ b.key then acc ++ [b] ++ [x] else acc ++ [b]) true
      have e : putStep b (acc, false) x = (if x.key ≠ b.key then acc ++ [b] ++ [x] else acc ++ [b], true) := by unfold putStep; by_cases h : x.key = b.key <;> simp [h, hb]
      rw [e, ih]
      by_cases h : x.key = b.key <;> simp [putG, cutK, h, hb]
    · have hne : x.key ≠ b.key := by omega
      have ih := putAll_acc b l (acc ++ [x]) false
      have e : putStep b (acc, false) x = (acc ++ [x], false) := by unfold putStep; simp [hb, hne]
      rw [e, ih]
      simp [putG, hb]
theorem putB_eq (s : List Body) (b : Body) (g : Bool) : putB s b g = putG b g s := by
  have := putAll_acc b s [] g
  rw [List.nil_append] at this
  exact this
theorem putG_perm (b : Body) : ∀ s : List Body, (putG b false s).Perm (b :: cutK b.key s)
  | [] => by simp [putG, cutK]
  | x :: l => by
    unfold putG
    split
    · exact List.Perm.refl _
    · rename_i h
      have hne : x.key ≠ b.key := by omega
      have e : cutK b.key (x :: l) = x :: cutK b.key l := by simp [cutK, hne]
      rw [e]
      exact ((putG_perm b l).cons x).trans (List.Perm.swap b x _)
theorem mem_cutK {k : Int} {s : List Body} {x : Body} : x ∈ cutK k s ↔ x ∈ s ∧ x.key ≠ k := by simp [cutK]
theorem Sorted.cut {s : List Body} (h : Sorted s) (k : Int) : Sorted (cutK k s) := List.Pairwise.sublist List.filter_sublist h
theorem Sorted.put {b : Body} : ∀ {s : List Body}, Sorted s → Sorted (putG b false s)
  | [], _ => by simp [putG, Sorted]
  | x :: l, h => by
    unfold putG
    have hx : ∀ y ∈ l, x.key < y.key := (List.pairwise_cons.1 h).1
    have hl : Sorted l := (List.pairwise_cons.1 h).2
    split
    · rename_i hb
      refine List.pairwise_cons.2 ⟨fun y hy => ?_, h.cut _⟩
      obtain ⟨h1, h2⟩ := mem_cutK.1 hy
      rcases List.mem_cons.1 h1 with rfl | h1
      · omega
      · have := hx y h1; omega
    · rename_i hb
      refine List.pairwise_cons.2 ⟨fun y hy => ?_, Sorted.put hl⟩
      have := (putG_perm b l).mem_iff.1 hy
      rcases List.mem_cons.1 this with rfl | h1
      · omega
      · exact hx y (mem_cutK.1 h1).1
theorem putB_len (s : List Body) (b : Body) (g : Bool) : (putB s b g).length ≤ s.length + 1 := by
  rw [putB_eq]
  cases g with
  | true => have := List.length_filter_le (fun x : Body => decide (x.key ≠ b.key)) s; simp only [putG, cutK]; omega
  | false =>
    rw [(putG_perm b s).length_eq]
    have := List.length_filter_le (fun x : Body => decide (x.key ≠ b.key)) s
    simp only [cutK, List.length_cons]; omega

/-- The reference's steps. -/
def addR (s : List Body) (b : Body) : List Body × Int :=
  if check b ≠ 0 then (s, check b) else if 0 ≤ findI b.key s then (s, 10) else if 4096 ≤ s.length then (s, 12) else (putB s b false, 0)
def nilBody (k : Int) : Body := ⟨k, 0, 0, 0, 0, 0, 0, 0, 0, 0⟩
def removeR (s : List Body) (k : Int) : List Body × Int := if findI k s < 0 then (s, 11) else (putB s (nilBody k) true, 0)
def setR (s : List Body) (b : Body) : List Body × Int :=
  if check b ≠ 0 then (s, check b) else if findI b.key s < 0 then (s, 11) else (putB s b false, 0)
def allR (l : List Body) : List Body := l.foldl (fun s b => (addR s b).1) []
theorem addR_len (s : List Body) (b : Body) : (addR s b).1.length ≤ s.length + 1 := by
  unfold addR
  (repeat' split) <;> first | exact Nat.le_succ _ | exact putB_len s b false
theorem allR_snoc {l : List Body} {k : Nat} {x : Body} (h : l[k]? = some x) : allR (l.take (k + 1)) = (addR (allR (l.take k)) x).1 := by
  unfold allR
  rw [take_snoc h, List.foldl_append]
  rfl
theorem allR_len (l : List Body) : (allR l).length ≤ l.length := by
  have key : ∀ (l s : List Body), (l.foldl (fun s b => (addR s b).1) s).length ≤ s.length + l.length := by
    intro l
    induction l with
    | nil => intro s; simp
    | cons b l ih =>
      intro s
      have h1 := ih (addR s b).1
      have h2 := addR_len s b
      simp only [List.foldl_cons, List.length_cons]
      omega
  have := key l []
  rw [List.length_nil, Nat.zero_add] at this
  exact this

/-! ### Slots and sorted lists -/
structure Rel (m s : List Body) : Prop where
  perm : s.Perm m
  sorted : Sorted s
theorem Rel.nil : Rel [] [] := ⟨List.Perm.refl _, by simp [Sorted]⟩
theorem Sorted.unique {s t : List Body} (h : Sorted s) (h' : Sorted t) (p : s.Perm t) : s = t :=
  List.Perm.eq_of_pairwise (le := fun (a b : Body) => a.key < b.key) (fun a b _ _ h1 h2 => by omega) h h' p
theorem Sorted.keys {s : List Body} (h : Sorted s) : Keys s := by
  unfold Keys List.Nodup
  rw [List.pairwise_map]
  exact h.imp (fun h => by omega)
theorem Rel.keys {m s : List Body} (R : Rel m s) : Keys m := R.sorted.keys.perm R.perm.symm
theorem Rel.find {m s : List Body} (R : Rel m s) (k : Int) : findI k s < 0 ↔ findI k m < 0 := by
  rw [findI_none, findI_none]
  exact ⟨fun h b hb => h b (R.perm.mem_iff.2 hb), fun h b hb => h b (R.perm.mem_iff.1 hb)⟩
theorem cutK_none {k : Int} {s : List Body} (h : findI k s < 0) : cutK k s = s := List.filter_eq_self.2 fun x hx => by simpa using findI_none.1 h x hx
theorem Rel.put {m s : List Body} (R : Rel m s) (b : Body) {m' : List Body} (h : m'.Perm (b :: cutK b.key m)) : Rel m' (putB s b false) := by
  rw [putB_eq]
  exact ⟨((putG_perm b s).trans ((R.perm.filter _).cons b)).trans h.symm, R.sorted.put⟩
theorem Rel.add {m s : List Body} (R : Rel m s) (b : Body) : Rel (addM m b).1 (addR s b).1 ∧ (addR s b).2 = (addM m b).2 := by
  unfold addM addR
  have hf := R.find b.key
  have hl := R.perm.length_eq
  by_cases h1 : check b ≠ 0
  · rw [if_pos h1, if_pos h1]; exact ⟨R, rfl⟩
  · rw [if_neg h1, if_neg h1]
    by_cases h2 : 0 ≤ findI b.key m
    · have h2' : 0 ≤ findI b.key s := by omega
      rw [if_pos h2, if_pos h2']; exact ⟨R, rfl⟩
    · have h2' : ¬ 0 ≤ findI b.key s := by omega
      rw [if_neg h2, if_neg h2', hl]
      by_cases h3 : 4096 ≤ m.length
      · rw [if_pos h3, if_pos h3]; exact ⟨R, rfl⟩
      · rw [if_neg h3, if_neg h3]
        refine ⟨R.put b ?_, rfl⟩
        rw [cutK_none (by omega)]
        exact List.perm_append_singleton b m
theorem erase_cutK {m : List Body} (h : Keys m) {i : Nat} {b : Body} (hi : m[i]? = some b) : m.eraseIdx i = cutK b.key m := by
  have e : m = m.take i ++ b :: m.drop (i + 1) := by
    have hlt := (List.getElem?_eq_some_iff.1 hi).1
    have hb : m[i] = b := (List.getElem?_eq_some_iff.1 hi).2
    rw [← hb, ← List.drop_eq_getElem_cons hlt, List.take_append_drop]
  have hne := erase_not h hi
  rw [List.eraseIdx_eq_take_drop_succ] at hne ⊢
  conv => rhs; rw [e]
  unfold cutK
  rw [List.filter_append, List.filter_cons]
  simp only [ne_eq, not_true_eq_false, decide_false, Bool.false_eq_true, if_false]
  rw [List.filter_eq_self.2 (fun x hx => by simpa using hne x (List.mem_append_left _ hx)), List.filter_eq_self.2 (fun x hx => by simpa using hne x (List.mem_append_right _ hx))]
theorem Rel.remove {m s : List Body} (R : Rel m s) (k : Int) : Rel (removeM m k).1 (removeR s k).1 ∧ (removeR s k).2 = (removeM m k).2 := by
  unfold removeM removeR
  have hf := R.find k
  by_cases h : findI k m < 0
  · rw [if_pos h, if_pos (hf.2 h)]; exact ⟨R, rfl⟩
  · rw [if_neg h, if_neg (fun h' => h (hf.1 h'))]
    refine ⟨?_, rfl⟩
    rcases findI_cases k m with ⟨h1, _⟩ | ⟨i, b, h1, h2, h3⟩
    · omega
    · rw [h3, Int.toNat_natCast, putB_eq]
      have hlt := (List.getElem?_eq_some_iff.1 h1).1
      have hk : (nilBody k).key = b.key := h2.symm
      have he : putG (nilBody k) true s = cutK b.key s := by unfold putG; rw [hk]
      refine ⟨?_, by rw [he]; exact R.sorted.cut _⟩
      show (putG (nilBody k) true s).Perm _
      rw [he]
      exact (R.perm.filter _).trans ((List.Perm.of_eq (erase_cutK R.keys h1).symm).trans (cutM_perm hlt).symm)
theorem set_perm {m : List Body} {i : Nat} {x : Body} (hi : i < m.length) : (m.set i x).Perm (x :: m.eraseIdx i) := by
  rw [List.set_eq_take_append_cons_drop, if_pos hi, List.eraseIdx_eq_take_drop_succ]
  exact List.perm_middle
theorem Rel.set {m s : List Body} (R : Rel m s) (b : Body) : Rel (setM m b).1 (setR s b).1 ∧ (setR s b).2 = (setM m b).2 := by
  unfold setM setR
  have hf := R.find b.key
  by_cases h1 : check b ≠ 0
  · rw [if_pos h1, if_pos h1]; exact ⟨R, rfl⟩
  · rw [if_neg h1, if_neg h1]
    by_cases h : findI b.key m < 0
    · rw [if_pos h, if_pos (hf.2 h)]; exact ⟨R, rfl⟩
    · rw [if_neg h, if_neg (fun h' => h (hf.1 h'))]
      refine ⟨?_, rfl⟩
      rcases findI_cases b.key m with ⟨h1, _⟩ | ⟨i, c, h1, h2, h3⟩
      · omega
      · rw [h3, Int.toNat_natCast]
        have hlt := (List.getElem?_eq_some_iff.1 h1).1
        refine R.put b ((set_perm hlt).trans ?_)
        rw [erase_cutK R.keys h1, h2]
theorem Rel.get {m s : List Body} (R : Rel m s) (k : Int) : (findI k s < 0 ∧ getM m k = (nilBody 0, 11)) ∨ ∃ (i : Nat) (b : Body), findI k s = (i : Int) ∧ s[i]? = some b ∧ getM m k = (b, 0) := by
  rcases findI_cases k s with ⟨h1, h2⟩ | ⟨i, b, h1, h2, h3⟩
  · have hm : findI k m < 0 := (R.find k).1 (by omega)
    refine .inl ⟨by omega, ?_⟩
    unfold getM
    rw [if_pos hm]
    rfl
  · refine .inr ⟨i, b, h3, h1, ?_⟩
    have hb : b ∈ m := R.perm.mem_iff.1 (List.mem_of_getElem? h1)
    obtain ⟨j, hj⟩ := List.getElem?_of_mem hb
    have := idx_some R.keys hj
    rw [h2] at this
    exact getM_some this hj

/-! ### The bodies in their order -/
theorem cmpI_neg {a b : Int} : cmpI a b < 0 ↔ a < b := by unfold cmpI; (repeat' split) <;> omega
def insB (b : Body) : List Body → List Body
  | [] => [b]
  | x :: l => if b.key ≤ x.key then b :: x :: l else x :: insB b l
def sortB (m : List Body) : List Body := m.foldr insB []
theorem insB_perm (b : Body) : ∀ l : List Body, (insB b l).Perm (b :: l)
  | [] => List.Perm.refl _
  | x :: l => by
    unfold insB
    split
    · exact List.Perm.refl _
    · exact ((insB_perm b l).cons x).trans (List.Perm.swap b x l)
theorem sortB_perm : ∀ m : List Body, (sortB m).Perm m
  | [] => List.Perm.refl _
  | b :: m => (insB_perm b (sortB m)).trans ((sortB_perm m).cons b)
def Up (s : List Body) : Prop := s.Pairwise (fun a b => a.key ≤ b.key)
theorem insB_up (b : Body) : ∀ {l : List Body}, Up l → Up (insB b l)
  | [], _ => by simp [insB, Up]
  | x :: l, h => by
    unfold insB
    have hx : ∀ y ∈ l, x.key ≤ y.key := (List.pairwise_cons.1 h).1
    split
    · rename_i hb
      refine List.pairwise_cons.2 ⟨fun y hy => ?_, h⟩
      rcases List.mem_cons.1 hy with rfl | hy
      · exact hb
      · have := hx y hy; omega
    · refine List.pairwise_cons.2 ⟨fun y hy => ?_, insB_up b (List.pairwise_cons.1 h).2⟩
      have := (insB_perm b l).mem_iff.1 hy
      rcases List.mem_cons.1 this with rfl | h1
      · omega
      · exact hx y h1
theorem sortB_up : ∀ m : List Body, Up (sortB m)
  | [] => by simp [sortB, Up]
  | b :: m => insB_up b (sortB_up m)
theorem up_sorted {s : List Body} (h : Up s) (hk : Keys s) : Sorted s := by
  unfold Up at h
  unfold Keys List.Nodup at hk
  rw [List.pairwise_map] at hk
  exact (List.Pairwise.and h hk).imp (fun ⟨h1, h2⟩ => by omega)
theorem up_unique {s t : List Body} (h : Up s) (h' : Up t) (p : s.Perm t) (hk : Keys s) : s = t := (up_sorted h hk).unique (up_sorted h' (hk.perm p.symm)) p
theorem sortB_rel {m : List Body} (hk : Keys m) : Rel m (sortB m) := ⟨sortB_perm m, up_sorted (sortB_up m) (hk.perm (sortB_perm m))⟩
theorem Rel.eq {m s : List Body} (R : Rel m s) : sortB m = s := (sortB_rel R.keys).sorted.unique R.sorted ((sortB_perm m).trans R.perm.symm)

theorem bodies_len (m : List Body) : ∀ y ∈ m.map bodyCells, y.length = 10 := by
  intro y hy
  obtain ⟨b, _, rfl⟩ := List.mem_map.1 hy
  rfl
theorem aw_1 : addM [] ⟨5, 65536, 0, 0, 0, 0, 0, 0, 0, 0⟩ = ([⟨5, 65536, 0, 0, 0, 0, 0, 0, 0, 0⟩], 0) := by decide
theorem aw_2 : addM [⟨5, 65536, 0, 0, 0, 0, 0, 0, 0, 0⟩] ⟨2, 65536, 0, 0, 0, 0, 0, 0, 0, 0⟩ = ([⟨5, 65536, 0, 0, 0, 0, 0, 0, 0, 0⟩, ⟨2, 65536, 0, 0, 0, 0, 0, 0, 0, 0⟩], 0) := by decide
theorem aw_3 : addM [⟨5, 65536, 0, 0, 0, 0, 0, 0, 0, 0⟩, ⟨2, 65536, 0, 0, 0, 0, 0, 0, 0, 0⟩] ⟨9, 65536, 0, 0, 0, 0, 0, 0, 0, 0⟩ = ([⟨5, 65536, 0, 0, 0, 0, 0, 0, 0, 0⟩, ⟨2, 65536, 0, 0, 0, 0, 0, 0, 0, 0⟩, ⟨9, 65536, 0, 0, 0, 0, 0, 0, 0, 0⟩], 0) := by decide
theorem aw_4 : addM [⟨5, 65536, 0, 0, 0, 0, 0, 0, 0, 0⟩, ⟨2, 65536, 0, 0, 0, 0, 0, 0, 0, 0⟩, ⟨9, 65536, 0, 0, 0, 0, 0, 0, 0, 0⟩] ⟨9, 65537, 0, 0, 0, 0, 0, 0, 0, 0⟩ = ([⟨5, 65536, 0, 0, 0, 0, 0, 0, 0, 0⟩, ⟨2, 65536, 0, 0, 0, 0, 0, 0, 0, 0⟩, ⟨9, 65536, 0, 0, 0, 0, 0, 0, 0, 0⟩], 10) := by decide
theorem aw_5 : addM [⟨5, 65536, 0, 0, 0, 0, 0, 0, 0, 0⟩, ⟨2, 65536, 0, 0, 0, 0, 0, 0, 0, 0⟩, ⟨9, 65536, 0, 0, 0, 0, 0, 0, 0, 0⟩] ⟨7, 0, 0, 0, 0, 0, 0, 0, 0, 0⟩ = ([⟨5, 65536, 0, 0, 0, 0, 0, 0, 0, 0⟩, ⟨2, 65536, 0, 0, 0, 0, 0, 0, 0, 0⟩, ⟨9, 65536, 0, 0, 0, 0, 0, 0, 0, 0⟩], 4) := by decide
theorem aw_6 : removeM [⟨5, 65536, 0, 0, 0, 0, 0, 0, 0, 0⟩, ⟨2, 65536, 0, 0, 0, 0, 0, 0, 0, 0⟩, ⟨9, 65536, 0, 0, 0, 0, 0, 0, 0, 0⟩] 5 = ([⟨9, 65536, 0, 0, 0, 0, 0, 0, 0, 0⟩, ⟨2, 65536, 0, 0, 0, 0, 0, 0, 0, 0⟩], 0) := by decide
theorem aw_7 : removeM [⟨9, 65536, 0, 0, 0, 0, 0, 0, 0, 0⟩, ⟨2, 65536, 0, 0, 0, 0, 0, 0, 0, 0⟩] 5 = ([⟨9, 65536, 0, 0, 0, 0, 0, 0, 0, 0⟩, ⟨2, 65536, 0, 0, 0, 0, 0, 0, 0, 0⟩], 11) := by decide
theorem aw_8 : getM [⟨9, 65536, 0, 0, 0, 0, 0, 0, 0, 0⟩, ⟨2, 65536, 0, 0, 0, 0, 0, 0, 0, 0⟩] 9 = (⟨9, 65536, 0, 0, 0, 0, 0, 0, 0, 0⟩, 0) := by decide
theorem aw_9 : sortB [⟨9, 65536, 0, 0, 0, 0, 0, 0, 0, 0⟩, ⟨2, 65536, 0, 0, 0, 0, 0, 0, 0, 0⟩] = [⟨2, 65536, 0, 0, 0, 0, 0, 0, 0, 0⟩, ⟨9, 65536, 0, 0, 0, 0, 0, 0, 0, 0⟩] := by decide
end Go.Bil
namespace Go.Bil
/-- The fields are what their types hold. -/
structure InB (b : Body) : Prop where
  key : 0 ≤ b.key ∧ b.key ≤ 4294967295
  radius : -2147483648 ≤ b.radius ∧ b.radius ≤ 2147483647
  ax : -2147483648 ≤ b.ax ∧ b.ax ≤ 2147483647
  ay : -2147483648 ≤ b.ay ∧ b.ay ≤ 2147483647
  mass : -2147483648 ≤ b.mass ∧ b.mass ≤ 2147483647
  bounce : -2147483648 ≤ b.bounce ∧ b.bounce ≤ 2147483647
  px : -2147483648 ≤ b.px ∧ b.px ≤ 2147483647
  py : -2147483648 ≤ b.py ∧ b.py ≤ 2147483647
  vx : -2147483648 ≤ b.vx ∧ b.vx ≤ 2147483647
  vy : -2147483648 ≤ b.vy ∧ b.vy ≤ 2147483647
theorem bodyOf (l : List Value) (h : Ints [.u32, .i32, .i32, .i32, .i32, .i32, .i32, .i32, .i32, .i32] l) : ∃ b, l = bodyCells b ∧ InB b := by
  obtain ⟨z0, l0, rfl, w0, h0⟩ := ints_cons h
  obtain ⟨z1, l1, rfl, w1, h1⟩ := ints_cons h0
  obtain ⟨z2, l2, rfl, w2, h2⟩ := ints_cons h1
  obtain ⟨z3, l3, rfl, w3, h3⟩ := ints_cons h2
  obtain ⟨z4, l4, rfl, w4, h4⟩ := ints_cons h3
  obtain ⟨z5, l5, rfl, w5, h5⟩ := ints_cons h4
  obtain ⟨z6, l6, rfl, w6, h6⟩ := ints_cons h5
  obtain ⟨z7, l7, rfl, w7, h7⟩ := ints_cons h6
  obtain ⟨z8, l8, rfl, w8, h8⟩ := ints_cons h7
  obtain ⟨z9, l9, rfl, w9, h9⟩ := ints_cons h8
  obtain rfl := ints_nil h9
  exact ⟨⟨z0, z1, z2, z3, z4, z5, z6, z7, z8, z9⟩, rfl, ⟨w0, w1, w2, w3, w4, w5, w6, w7, w8, w9⟩⟩
end Go.Bil

/- The plain side of layer 6's laws. -/
set_option linter.unusedVariables false
namespace Go.Bil

structure StV where
  A : Option Addr
  n : Nat
  c : Nat
  p : Option Nat
  er : Ent
  em : Ent
def addsM (l : List Body) : List Body := l.foldl (fun m b => (addM m b).1) []
theorem addsM_snoc {l : List Body} {k : Nat} {x : Body} (h : l[k]? = some x) : addsM (l.take (k + 1)) = (addM (addsM (l.take k)) x).1 := by
  unfold addsM
  rw [take_snoc h, List.foldl_append]
  rfl
theorem addsM_rel : ∀ l : List Body, Rel (addsM l) (allR l) := by
  have key : ∀ (l m s : List Body), Rel m s → Rel (l.foldl (fun m b => (addM m b).1) m) (l.foldl (fun s b => (addR s b).1) s) := by
    intro l
    induction l with
    | nil => intro m s h; exact h
    | cons b l ih => intro m s h; exact ih _ _ (h.add b).1
  exact fun l => key l [] [] Rel.nil
def valid (l : List Body) : List Body := l.filter (fun b => decide (check b = 0))
theorem addM_new {m : List Body} {x : Body} (hf : ∀ b ∈ m, b.key ≠ x.key) (hl : m.length < 4096) : addM (valid m) x = (valid (m ++ [x]), check x) := by
  have hle : (valid m).length ≤ m.length := List.length_filter_le _ _
  unfold addM
  by_cases h : check x = 0
  · rw [if_neg (by omega), if_neg (by
      have : findI x.key (valid m) < 0 := findI_none.2 fun b hb => hf b (List.mem_filter.1 hb).1
      omega), if_neg (by omega), h]
    simp [valid, List.filter_append, h]
  · rw [if_pos h]
    simp [valid, List.filter_append, h]
theorem keys_prefix {l : List Body} (h : Keys l) {k : Nat} {x : Body} (hx : l[k]? = some x) : ∀ b ∈ l.take k, b.key ≠ x.key := by
  intro b hb e
  obtain ⟨j, hj⟩ := List.getElem?_of_mem hb
  rw [List.getElem?_take] at hj
  split at hj
  · rename_i hlt
    have := h.inj hj hx e
    omega
  · cases hj
theorem addsM_take {l : List Body} (h : Keys l) (hl : l.length ≤ 4096) : ∀ k, k ≤ l.length → addsM (l.take k) = valid (l.take k)
  | 0, _ => by simp [addsM, valid]
  | k + 1, hk => by
    obtain ⟨x, hx⟩ := getSome (xs := l) (k := k) rfl (by omega)
    rw [addsM_snoc hx, addsM_take h hl k (by omega), addM_new (keys_prefix h hx) (by rw [List.length_take]; omega), take_snoc hx]
theorem addsM_res {l : List Body} (h : Keys l) (hl : l.length ≤ 4096) {k : Nat} {x : Body} (hx : l[k]? = some x) : (addM (addsM (l.take k)) x).2 = check x := by
  have hk := (List.getElem?_eq_some_iff.1 hx).1
  rw [addsM_take h hl k (by omega), addM_new (keys_prefix h hx) (by rw [List.length_take]; omega)]
theorem addsM_perm {l l' : List Body} (p : l'.Perm l) (h : Keys l) (hl : l.length < 4096) : sortB (addsM l) = sortB (addsM l') := by
  have h' : Keys l' := h.perm p
  have e1 : addsM l = valid l := by have := addsM_take h (by omega) l.length (Nat.le_refl _); rwa [List.take_length] at this
  have e2 : addsM l' = valid l' := by have := addsM_take h' (by rw [p.length_eq]; omega) l'.length (Nat.le_refl _); rwa [List.take_length] at this
  rw [e1, e2]
  have hv : Keys (valid l) := by
    unfold Keys valid
    exact List.Sublist.nodup ((List.filter_sublist).map _) h
  refine up_unique (sortB_up _) (sortB_up _) ?_ (hv.perm (sortB_perm _))
  exact (sortB_perm _).trans ((p.symm.filter _).trans (sortB_perm _).symm)
theorem keys_of_pairs {l : List Body} (h : ∀ (p q : Nat) (x y : Body), p < q → q < l.length → l[p]? = some x → l[q]? = some y → x.key ≠ y.key) : Keys l := by
  unfold Keys List.Nodup
  rw [List.pairwise_map]
  refine List.pairwise_iff_getElem.2 fun i j hi hj hij => ?_
  exact h i j _ _ hij hj (List.getElem?_eq_getElem hi) (List.getElem?_eq_getElem hj)
/-- The list turned by k and read from its end. -/
def turned (l : List Body) (k : Nat) : List Body := (l.drop k ++ l.take k).reverse
theorem turned_len (l : List Body) (k : Nat) : (turned l k).length = l.length := by
  unfold turned
  simp only [List.length_reverse, List.length_append, List.length_drop, List.length_take]
  omega
theorem turned_perm (l : List Body) (k : Nat) : (turned l k).Perm l := by
  unfold turned
  refine (List.reverse_perm _).trans (List.perm_append_comm.trans ?_)
  rw [List.take_append_drop]
theorem turned_at {l : List Body} {k i : Nat} (hk : k < l.length) (hi : i < l.length) : (turned l k)[i]? = l[(l.length - 1 - i + k) % l.length]? := by
  have hlen : (l.drop k ++ l.take k).length = l.length := by simp; omega
  unfold turned
  rw [List.getElem?_reverse (by rw [hlen]; exact hi), hlen, List.getElem?_append]
  simp only [List.length_drop]
  by_cases h : l.length - 1 - i < l.length - k
  · rw [if_pos h, List.getElem?_drop, Nat.mod_eq_of_lt (by omega)]
    congr 1
    omega
  · rw [if_neg h, List.getElem?_take_of_lt (by omega)]
    have : (l.length - 1 - i + k) % l.length = l.length - 1 - i + k - l.length := by
      rw [Nat.mod_eq_sub_mod (by omega), Nat.mod_eq_of_lt (by omega)]
    rw [this]
    congr 1
    omega
theorem pairsNext {xs : List Body} {i : Nat} {xi : Body} (hne : ∀ (p q : Nat) (x y : Body), p < q → q < i → xs[p]? = some x → xs[q]? = some y → x.key ≠ y.key) (hxi : xs[i]? = some xi) (hin : ∀ (p : Nat) (x : Body), p < i → xs[p]? = some x → x.key ≠ xi.key) :
    ∀ (p q : Nat) (x y : Body), p < q → q < i + 1 → xs[p]? = some x → xs[q]? = some y → x.key ≠ y.key := by
  intro p q x y hpq hq hx hy
  by_cases hqi : q < i
  · exact hne p q x y hpq hqi hx hy
  · have hq' : q = i := by omega
    subst hq'
    rw [hxi] at hy
    injection hy with hy
    subst hy
    exact hin p x (by omega) hx

theorem remove_perm {m : List Body} (hk : Keys m) (k : Int) : (removeM m k).1.Perm (cutK k m) := by
  unfold removeM
  by_cases h : findI k m < 0
  · rw [if_pos h, cutK_none h]
  · rw [if_neg h]
    rcases findI_cases k m with ⟨h1, _⟩ | ⟨i, b, h1, h2, h3⟩
    · omega
    · rw [h3, Int.toNat_natCast]
      have hlt := (List.getElem?_eq_some_iff.1 h1).1
      have := (cutM_perm hlt).trans (List.Perm.of_eq (erase_cutK hk h1))
      rwa [h2] at this
theorem findI_cutK (k : Int) (m : List Body) : findI k (cutK k m) < 0 := findI_none.2 fun b hb => (mem_cutK.1 hb).2
theorem findI_perm {m m' : List Body} (p : m.Perm m') {k : Int} (h : findI k m' < 0) : findI k m < 0 := findI_none.2 fun b hb => findI_none.1 h b (p.mem_iff.1 hb)
theorem cutK_lt {k : Int} {m : List Body} (h : 0 ≤ findI k m) : (cutK k m).length < m.length := by
  rcases findI_cases k m with ⟨h1, _⟩ | ⟨i, b, h1, h2, _⟩
  · omega
  · refine List.length_filter_lt_length_iff_exists.2 ⟨b, List.mem_of_getElem? h1, by simp [h2]⟩
theorem rem_found {m s : List Body} {b : Body} (R : Rel m s) (hb : check b = 0) (hf : 0 ≤ findI b.key s) (hl : m.length ≤ 4096) :
    addM m b = (m, 10) ∧ (removeM m b.key).2 = 0 ∧ (addM (removeM m b.key).1 b).2 = 0 ∧ sortB (addM (removeM m b.key).1 b).1 = putB s b false := by
  have hm : 0 ≤ findI b.key m := by have := R.find b.key; omega
  have hp := remove_perm R.keys b.key
  have hn : findI b.key (removeM m b.key).1 < 0 := findI_perm hp (findI_cutK _ _)
  have hlen : (removeM m b.key).1.length < 4096 := by rw [hp.length_eq]; have := cutK_lt hm; omega
  have ha : addM (removeM m b.key).1 b = ((removeM m b.key).1 ++ [b], 0) := by
    unfold addM
    rw [if_neg (by omega), if_neg (by omega), if_neg (by omega)]
  refine ⟨by unfold addM; rw [if_neg (by omega), if_pos hm], by unfold removeM; rw [if_neg (by omega)], by rw [ha], ?_⟩
  rw [ha]
  exact (R.put b ((List.perm_append_singleton b _).trans (hp.cons b))).eq
theorem rem_absent {m s : List Body} {b : Body} (R : Rel m s) (hb : check b = 0) (hf : findI b.key s < 0) (hl : m.length < 4096) :
    (addM m b).2 = 0 ∧ (removeM (addM m b).1 b.key).2 = 0 ∧ sortB (removeM (addM m b).1 b.key).1 = s := by
  have hm : findI b.key m < 0 := (R.find b.key).1 hf
  have ha : addM m b = (m ++ [b], 0) := by
    unfold addM
    rw [if_neg (by omega), if_neg (by omega), if_neg (by omega)]
  have hk : Keys (m ++ [b]) := R.keys.snoc hm
  have hp := remove_perm hk b.key
  have hc : cutK b.key (m ++ [b]) = m := by
    have : cutK b.key (m ++ [b]) = cutK b.key m := by simp [cutK, List.filter_append]
    rw [this, cutK_none hm]
  rw [ha]
  refine ⟨rfl, ?_, ?_⟩
  · unfold removeM
    rw [if_neg (by
      have : ¬ ∀ c ∈ m ++ [b], c.key ≠ b.key := fun h => h b (by simp) rfl
      have := mt findI_none.1 this
      exact this)]
  · rw [hc] at hp
    exact (⟨R.perm.trans hp.symm, R.sorted⟩ : Rel _ s).eq
end Go.Bil
namespace Go.Bil
structure StepI where
  kind : Int
  body : Body
instance : Inhabited StepI := ⟨⟨0, nilBody 0⟩⟩
def stepCells (s : StepI) : List Value := .int .i64 s.kind :: bodyCells s.body
theorem stepOf (l : List Value) (h : Ints [.i64, .u32, .i32, .i32, .i32, .i32, .i32, .i32, .i32, .i32, .i32] l) : ∃ s, l = stepCells s ∧ InB s.body := by
  obtain ⟨z, l', rfl, _, h'⟩ := ints_cons h
  obtain ⟨b, rfl, hb⟩ := bodyOf l' h'
  exact ⟨⟨z, b⟩, rfl, hb⟩

/-! ### A full store -/
def fkey (key d : Int) (i : Nat) : Int := IntKind.wrap .u32 (key + (i : Int) * d)
def bodyF (key d : Int) (i : Nat) : Body := ⟨fkey key d i, 65536, 0, 0, 0, 0, 0, 0, 0, 0⟩
def fullM (key d : Int) (k : Nat) : List Body := (List.range k).map (bodyF key d)
theorem wrap_u32 (x : Int) : IntKind.wrap .u32 x = x % 4294967296 := by simp [IntKind.wrap, IntKind.bits, IntKind.signed]
theorem mulBound {i : Nat} {d : Int} (hi : i ≤ 4096) (h1 : 1 ≤ d) (h2 : d ≤ 256) : 0 ≤ (i : Int) * d ∧ (i : Int) * d ≤ 1048576 := by
  refine ⟨Int.mul_nonneg (by omega) (by omega), ?_⟩
  have := Int.mul_le_mul (show (i : Int) ≤ 4096 by omega) h2 (by omega) (by omega)
  omega
theorem fkey_ne {key d : Int} (h1 : 1 ≤ d) (h2 : d ≤ 256) {i j : Nat} (hij : i < j) (hj : j ≤ 4096) : fkey key d i ≠ fkey key d j := by
  unfold fkey
  rw [wrap_u32, wrap_u32]
  have e : (j : Int) * d = (i : Int) * d + ((j - i : Nat) : Int) * d := by
    rw [← Int.add_mul]
    congr 1
    omega
  have h3 : d ≤ ((j - i : Nat) : Int) * d := by
    have := Int.mul_le_mul_of_nonneg_right (show (1 : Int) ≤ ((j - i : Nat) : Int) by omega) (show 0 ≤ d by omega)
    omega
  have h4 := (mulBound (i := j - i) (d := d) (by omega) h1 h2).2
  rw [e]
  generalize (i : Int) * d = a at *
  generalize ((j - i : Nat) : Int) * d = c at *
  omega
theorem fkey_not {key d : Int} (h1 : 1 ≤ d) (h2 : d ≤ 256) {k : Nat} (hk : k ≤ 4096) : ∀ b ∈ fullM key d k, b.key ≠ fkey key d k := by
  intro b hb
  obtain ⟨i, hi, rfl⟩ := List.mem_map.1 hb
  rw [List.mem_range] at hi
  exact fkey_ne h1 h2 hi hk
theorem check_F (key d : Int) (i : Nat) : check (bodyF key d i) = 0 := by simp [check, bodyF, inR]
theorem full_len (key d : Int) (k : Nat) : (fullM key d k).length = k := by simp [fullM]
theorem full_add {key d : Int} (h1 : 1 ≤ d) (h2 : d ≤ 256) {k : Nat} (hk : k < 4096) : addM (fullM key d k) (bodyF key d k) = (fullM key d (k + 1), 0) := by
  have hf : findI (bodyF key d k).key (fullM key d k) < 0 := findI_none.2 (fkey_not h1 h2 (by omega))
  unfold addM
  rw [if_neg (by rw [check_F]; omega), if_neg (by omega), if_neg (by rw [full_len]; omega)]
  simp [fullM, List.range_succ]
theorem full_more {key d : Int} (h1 : 1 ≤ d) (h2 : d ≤ 256) : addM (fullM key d 4096) (bodyF key d 4096) = (fullM key d 4096, 12) := by
  have hf : findI (bodyF key d 4096).key (fullM key d 4096) < 0 := findI_none.2 (fkey_not h1 h2 (by omega))
  unfold addM
  rw [if_neg (by rw [check_F]; omega), if_neg (by omega), if_pos (by rw [full_len]; omega)]
theorem full_found {key d : Int} {k : Int} {i : Nat} (hi : i < 4096) (hk : k = fkey key d i) : 0 ≤ findI k (fullM key d 4096) := by
  rcases findI_cases k (fullM key d 4096) with ⟨h, hn⟩ | ⟨j, b, _, _, h⟩
  · exact absurd hk.symm (hn (bodyF key d i) (List.mem_map.2 ⟨i, by simpa using hi, rfl⟩))
  · omega
theorem full_dup {key d : Int} (hk : 0 ≤ key ∧ key ≤ 4294967295) : addM (fullM key d 4096) ⟨key, 65536, 0, 0, 0, 0, 0, 0, 0, 0⟩ = (fullM key d 4096, 10) := by
  have hf : 0 ≤ findI key (fullM key d 4096) := full_found (i := 0) (by omega) (by unfold fkey; rw [wrap_u32]; simp; omega)
  have hc : check ⟨key, 65536, 0, 0, 0, 0, 0, 0, 0, 0⟩ = 0 := by simp [check, inR]
  unfold addM
  rw [if_neg (by rw [hc]; omega), if_pos hf]
theorem full_bad (key d k : Int) : addM (fullM key d 4096) ⟨k, 0, 0, 0, 0, 0, 0, 0, 0, 0⟩ = (fullM key d 4096, 4) := by
  have hc : check ⟨k, 0, 0, 0, 0, 0, 0, 0, 0, 0⟩ = 4 := by simp [check]
  unfold addM
  rw [if_pos (by rw [hc]; omega), hc]
theorem full_keys {key d : Int} (h1 : 1 ≤ d) (h2 : d ≤ 256) : Keys (fullM key d 4096) := by
  refine keys_of_pairs fun p q x y hpq hq hx hy => ?_
  rw [full_len] at hq
  simp only [fullM, List.getElem?_map, Option.map_eq_some_iff] at hx hy
  obtain ⟨p', hp', rfl⟩ := hx
  obtain ⟨q', hq', rfl⟩ := hy
  have e1 : p' = p := by have := List.getElem?_eq_some_iff.1 hp'; simpa using this.2.symm
  have e2 : q' = q := by have := List.getElem?_eq_some_iff.1 hq'; simpa using this.2.symm
  subst e1
  subst e2
  exact fkey_ne h1 h2 hpq (by omega)
theorem full_rest {key d : Int} (h1 : 1 ≤ d) (h2 : d ≤ 256) : (removeM (fullM key d 4096) (fkey key d 7)).2 = 0 ∧ (addM (removeM (fullM key d 4096) (fkey key d 7)).1 (bodyF key d 4096)).2 = 0 ∧
    (addM (removeM (fullM key d 4096) (fkey key d 7)).1 (bodyF key d 4096)).1.length = 4096 ∧ (addM (addM (removeM (fullM key d 4096) (fkey key d 7)).1 (bodyF key d 4096)).1 (bodyF key d 7)).2 = 12 := by
  have hkeys := full_keys (key := key) h1 h2
  have hfound : 0 ≤ findI (fkey key d 7) (fullM key d 4096) := full_found (i := 7) (by omega) rfl
  have hnot := fkey_not (key := key) h1 h2 (Nat.le_refl 4096)
  have hfl := full_len key d 4096
  generalize fullM key d 4096 = F at *
  have hp := remove_perm hkeys (fkey key d 7)
  obtain ⟨m1, hm1⟩ : ∃ m1, m1 = (removeM F (fkey key d 7)).1 := ⟨_, rfl⟩
  have hlen : m1.length = 4095 := by
    rw [hm1]
    unfold removeM
    rw [if_neg (by omega)]
    rcases findI_cases (fkey key d 7) F with ⟨h, _⟩ | ⟨i, b, h3, h4, h5⟩
    · omega
    · have hlt := (List.getElem?_eq_some_iff.1 h3).1
      rw [h5, Int.toNat_natCast]
      show (cutM F i).length = 4095
      rw [(cutM_perm hlt).length_eq, List.length_eraseIdx, if_pos hlt, hfl]
  rw [← hm1] at hp ⊢
  have hmore : findI (bodyF key d 4096).key m1 < 0 := findI_perm hp (findI_none.2 fun b hb => hnot b (mem_cutK.1 hb).1)
  have ha : addM m1 (bodyF key d 4096) = (m1 ++ [bodyF key d 4096], 0) := by
    unfold addM
    rw [if_neg (by rw [check_F]; omega), if_neg (by omega), if_neg (by omega)]
  refine ⟨by unfold removeM; rw [if_neg (by omega)], by rw [ha], by rw [ha]; simp [hlen], ?_⟩
  rw [ha]
  have h7 : findI (bodyF key d 7).key (m1 ++ [bodyF key d 4096]) < 0 := findI_none.2 fun b hb => by
    rcases List.mem_append.1 hb with hb | hb
    · exact (mem_cutK.1 (hp.mem_iff.1 hb)).2
    · simp only [List.mem_singleton] at hb
      subst hb
      exact fun e => fkey_ne h1 h2 (show 7 < 4096 by omega) (Nat.le_refl _) e.symm
  show (addM (m1 ++ [bodyF key d 4096]) (bodyF key d 7)).2 = 12
  unfold addM
  rw [if_neg (by rw [check_F]; omega), if_neg (by omega), if_pos (by simp [hlen])]
end Go.Bil

/- The plain side of layer 7: views. -/
set_option linter.unusedVariables false
namespace Go.Bil

def firstBad : List Body → Int
  | [] => 0
  | b :: l => if check b ≠ 0 then check b else firstBad l
def eachI (xs : List Body) : Int := if 4096 < xs.length then 12 else firstBad xs
theorem firstBad_zero : ∀ {xs : List Body}, (∀ (j : Nat) (c : Body), xs[j]? = some c → check c = 0) → firstBad xs = 0
  | [], _ => rfl
  | b :: l, h => by
    unfold firstBad
    rw [if_neg (by have := h 0 b (by simp); omega)]
    exact firstBad_zero fun j c hj => h (j + 1) c (by simpa using hj)
theorem firstBad_at : ∀ {xs : List Body} {k : Nat} {b : Body}, xs[k]? = some b → check b ≠ 0 → (∀ (j : Nat) (c : Body), j < k → xs[j]? = some c → check c = 0) → firstBad xs = check b
  | [], _, _, h, _, _ => by simp at h
  | a :: l, 0, b, h, hb, _ => by
    simp only [List.getElem?_cons_zero, Option.some.injEq] at h
    subst h
    unfold firstBad
    rw [if_pos hb]
  | a :: l, k + 1, b, h, hb, hn => by
    unfold firstBad
    rw [if_neg (by have := hn 0 a (by omega) (by simp); omega)]
    exact firstBad_at (by simpa using h) hb fun j c hj hc => hn (j + 1) c (by omega) (by simpa using hc)
theorem firstBad_all : ∀ {xs : List Body}, firstBad xs = 0 → ∀ b ∈ xs, check b = 0
  | [], _, b, hb => by simp at hb
  | a :: l, h, b, hb => by
    unfold firstBad at h
    by_cases ha : check a = 0
    · rw [if_neg (by omega)] at h
      rcases List.mem_cons.1 hb with rfl | hb
      · exact ha
      · exact firstBad_all h b hb
    · rw [if_pos ha] at h; exact absurd h ha
theorem eachI_ok {xs : List Body} (h : eachI xs = 0) : xs.length ≤ 4096 ∧ ∀ b ∈ xs, check b = 0 := by
  unfold eachI at h
  split at h
  · omega
  · exact ⟨by omega, firstBad_all h⟩
theorem eachI_of {xs : List Body} (hl : xs.length ≤ 4096) (h : ∀ b ∈ xs, check b = 0) : eachI xs = 0 := by
  unfold eachI
  rw [if_neg (by omega)]
  exact firstBad_zero fun j c hj => h c (List.mem_of_getElem? hj)
def adjB : List Body → Bool
  | x :: y :: l => decide (x.key < y.key) && adjB (y :: l)
  | _ => true
theorem adjB_true : ∀ {xs : List Body}, (∀ (i : Nat) (x y : Body), xs[i]? = some x → xs[i + 1]? = some y → x.key < y.key) → adjB xs = true
  | [], _ => rfl
  | [_], _ => rfl
  | x :: y :: l, h => by
    unfold adjB
    rw [Bool.and_eq_true]
    exact ⟨decide_eq_true (h 0 x y (by simp) (by simp)), adjB_true fun i a b ha hb => h (i + 1) a b (by simpa using ha) (by simpa using hb)⟩
theorem adjB_sorted : ∀ {xs : List Body}, adjB xs = true → Sorted xs
  | [], _ => by simp [Sorted]
  | [_], _ => by simp [Sorted]
  | x :: y :: l, h => by
    unfold adjB at h
    rw [Bool.and_eq_true, decide_eq_true_eq] at h
    have ih := adjB_sorted h.2
    refine List.pairwise_cons.2 ⟨fun z hz => ?_, ih⟩
    rcases List.mem_cons.1 hz with rfl | hz
    · exact h.1
    · have := (List.pairwise_cons.1 ih).1 z hz; have := h.1; omega
theorem sorted_adjB {xs : List Body} (h : Sorted xs) : adjB xs = true := adjB_true fun i x y hx hy => by
  have hi := List.getElem?_eq_some_iff.1 hx
  have hj := List.getElem?_eq_some_iff.1 hy
  have := List.pairwise_iff_getElem.1 h i (i + 1) hi.1 hj.1 (by omega)
  rwa [hi.2, hj.2] at this
theorem adjB_false {xs : List Body} {i : Nat} {x y : Body} (hx : xs[i]? = some x) (hy : xs[i + 1]? = some y) (h : ¬ x.key < y.key) : adjB xs = false := by
  cases e : adjB xs with
  | false => rfl
  | true =>
    exfalso
    have hi := List.getElem?_eq_some_iff.1 hx
    have hj := List.getElem?_eq_some_iff.1 hy
    have := List.pairwise_iff_getElem.1 (adjB_sorted e) i (i + 1) hi.1 hj.1 (by omega)
    rw [hi.2, hj.2] at this
    exact h this
def checkV (xs : List Body) : Int := if eachI xs ≠ 0 then eachI xs else if adjB xs = true then 0 else 10
instance (m : List Body) : Decidable (Keys m) := by unfold Keys; infer_instance
def sortV (xs : List Body) : List Body × Int := if eachI xs ≠ 0 then ([], eachI xs) else if Keys xs then (sortB xs, 0) else ([], 10)
theorem check_up {ys xs : List Body} (hu : Up ys) (hp : ys.Perm xs) (he : eachI xs = 0) : checkV ys = if Keys xs then 0 else 10 := by
  obtain ⟨h1, h2⟩ := eachI_ok he
  have he' : eachI ys = 0 := eachI_of (by rw [hp.length_eq]; exact h1) fun b hb => h2 b (hp.mem_iff.1 hb)
  unfold checkV
  rw [if_neg (by omega)]
  by_cases hk : Keys xs
  · rw [if_pos hk, if_pos (sorted_adjB (up_sorted hu (hk.perm hp)))]
  · rw [if_neg hk, if_neg]
    intro h
    exact hk ((adjB_sorted h).keys.perm hp.symm)
theorem adds_sub : ∀ (l m : List Body), ∃ t, List.Sublist t l ∧ l.foldl (fun m b => (addM m b).1) m = m ++ t
  | [], m => ⟨[], by simp, by simp⟩
  | b :: l, m => by
    simp only [List.foldl_cons]
    obtain ⟨t, h1, h2⟩ := adds_sub l (addM m b).1
    have hb : (addM m b).1 = m ∨ (addM m b).1 = m ++ [b] := by
      unfold addM
      (repeat' split) <;> simp
    rcases hb with hb | hb
    · exact ⟨t, h1.cons b, by rw [h2, hb]⟩
    · exact ⟨b :: t, h1.cons_cons b, by rw [h2, hb]; simp⟩
theorem allR_sort {xs : List Body} (he : eachI xs = 0) : (Keys xs → allR xs = sortB xs) ∧ ((allR xs).length < xs.length ↔ ¬ Keys xs) := by
  obtain ⟨h1, h2⟩ := eachI_ok he
  have hrel := addsM_rel xs
  have hlen := hrel.perm.length_eq
  obtain ⟨t, ht1, ht2⟩ := adds_sub xs []
  have ht : addsM xs = t := by simpa [addsM] using ht2
  have hkeys : Keys xs → addsM xs = xs := fun hk => by
    have := addsM_take hk h1 xs.length (Nat.le_refl _)
    rw [List.take_length] at this
    rw [this]
    exact List.filter_eq_self.2 fun b hb => by simpa using h2 b hb
  refine ⟨fun hk => ?_, ?_, ?_⟩
  · have := hrel.eq
    rw [hkeys hk] at this
    exact this.symm
  · intro hl hk
    rw [hlen, hkeys hk] at hl
    omega
  · intro hk
    rw [hlen, ht]
    rcases Nat.lt_or_ge t.length xs.length with h | h
    · exact h
    · exfalso
      have : t = xs := ht1.eq_of_length_le h
      exact hk (by rw [← this, ← ht]; exact hrel.keys)
/-- How many keys are less. -/
def lessI (key : Int) : List Body → Nat
  | [] => 0
  | b :: l => (if b.key < key then 1 else 0) + lessI key l
theorem lessI_at {key : Int} : ∀ {xs : List Body} {k : Nat}, k ≤ xs.length → (∀ (j : Nat) (c : Body), j < k → xs[j]? = some c → c.key < key) → (∀ (j : Nat) (c : Body), k ≤ j → xs[j]? = some c → ¬ c.key < key) → lessI key xs = k
  | [], k, hk, _, _ => by simp at hk; simp [lessI, hk]
  | b :: l, 0, _, _, h2 => by
    unfold lessI
    rw [if_neg (h2 0 b (Nat.le_refl _) (by simp)), lessI_at (k := 0) (by omega) (fun j c hj => by omega) (fun j c _ hc => h2 (j + 1) c (by omega) (by simpa using hc))]
  | b :: l, k + 1, hk, h1, h2 => by
    unfold lessI
    rw [if_pos (h1 0 b (by omega) (by simp)), lessI_at (k := k) (by simpa using hk) (fun j c hj hc => h1 (j + 1) c (by omega) (by simpa using hc)) (fun j c hj hc => h2 (j + 1) c (by omega) (by simpa using hc))]
    omega
def keyCell (k : Int) : List Value := [.int .u32 k]
end Go.Bil
namespace Go.Bil
theorem up_le {xs : List Body} (h : Sorted xs) {p q : Nat} {a b : Body} (hpq : p ≤ q) (ha : xs[p]? = some a) (hb : xs[q]? = some b) : a.key ≤ b.key := by
  by_cases e : p = q
  · subst e
    rw [ha] at hb
    injection hb with hb
    rw [hb]; exact Int.le_refl _
  · have hi := List.getElem?_eq_some_iff.1 ha
    have hj := List.getElem?_eq_some_iff.1 hb
    have := List.pairwise_iff_getElem.1 h p q hi.1 hj.1 (by omega)
    rw [hi.2, hj.2] at this
    omega
theorem shr1 (i j : Nat) : ((i : Int) + (j : Int)).fdiv (2 ^ (min (1 : Int).toNat IntKind.u64.bits)) = (((i + j) / 2 : Nat) : Int) := by
  have e : (2 : Int) ^ (min (1 : Int).toNat IntKind.u64.bits) = 2 := by decide
  rw [e, Int.fdiv_eq_ediv_of_nonneg _ (by omega)]
  omega
theorem tupE {a b a' b' : Value} (h1 : a = a') (h2 : b = b') : Value.tuple #[a, b] = Value.tuple #[a', b'] := by rw [h1, h2]
theorem cmpI_zero {a b : Int} : cmpI a b = 0 ↔ a = b := by unfold cmpI; (repeat' split) <;> omega
theorem found_iff {key : Int} {xs : List Body} (hs : Sorted xs) {i : Nat} {b : Body} (hb : xs[i]? = some b) (h1 : ∀ (j : Nat) (c : Body), j < i → xs[j]? = some c → c.key < key) (h2 : ∀ (j : Nat) (c : Body), i ≤ j → xs[j]? = some c → ¬ c.key < key) : cmpI b.key key = 0 ↔ 0 ≤ findI key xs := by
  rw [cmpI_zero]
  constructor
  · intro e
    rcases findI_cases key xs with ⟨_, h⟩ | ⟨_, _, _, _, h⟩
    · exact absurd e (h b (List.mem_of_getElem? hb))
    · omega
  · intro h
    rcases findI_cases key xs with ⟨h', _⟩ | ⟨j, c, hc, hk, _⟩
    · omega
    · have hij : i ≤ j := by
        rcases Nat.lt_or_ge j i with hlt | hge
        · have := h1 j c hlt hc; omega
        · exact hge
      have := up_le hs hij hb hc
      have := h2 i b (Nat.le_refl _) hb
      omega
theorem found_none {key : Int} {xs : List Body} (h1 : ∀ (j : Nat) (c : Body), j < xs.length → xs[j]? = some c → c.key < key) : ¬ 0 ≤ findI key xs := by
  intro h
  rcases findI_cases key xs with ⟨h', _⟩ | ⟨j, c, hc, hk, _⟩
  · omega
  · have := h1 j c (List.getElem?_eq_some_iff.1 hc).1 hc
    omega
end Go.Bil
namespace Go.Bil
theorem listSame {α : Type} {xs ys : List α} {n m : Nat} (h1 : xs.length = n) (h2 : ys.length = m) (hnm : n = m) (h : ∀ (j : Nat) (x : α), j < n → xs[j]? = some x → ys[j]? = some x) : xs = ys := by
  apply List.ext_getElem?
  intro j
  by_cases hj : j < xs.length
  · obtain ⟨x, hx⟩ := getSome (k := j) rfl hj
    rw [hx, h j x (by omega) hx]
  · rw [List.getElem?_eq_none (by omega), List.getElem?_eq_none (by omega)]
end Go.Bil
namespace Go.Bil
def remK (ys xs : List Body) : List Int := (xs.filter (fun x => decide (findI x.key ys < 0))).map (·.key)
def chgB (ys : List Body) (x : Body) : Bool := decide (0 ≤ findI x.key ys ∧ ys.getD (findI x.key ys).toNat default ≠ x)
def chgK (ys xs : List Body) : List Int := (xs.filter (chgB ys)).map (·.key)
theorem filter_snoc {p : Body → Bool} {xs : List Body} {k : Nat} {x : Body} (hx : xs[k]? = some x) : (xs.take (k + 1)).filter p = (xs.take k).filter p ++ if p x then [x] else [] := by
  rw [take_snoc hx, List.filter_append]
  by_cases h : p x <;> simp [h]
theorem remK_yes {ys xs : List Body} {k : Nat} {x : Body} (hx : xs[k]? = some x) (h : findI x.key ys < 0) : remK ys (xs.take (k + 1)) = remK ys (xs.take k) ++ [x.key] := by
  unfold remK
  rw [filter_snoc hx]
  simp [h]
theorem remK_no {ys xs : List Body} {k : Nat} {x : Body} (hx : xs[k]? = some x) (h : ¬ findI x.key ys < 0) : remK ys (xs.take (k + 1)) = remK ys (xs.take k) := by
  unfold remK
  rw [filter_snoc hx]
  simp [h]
theorem chgK_yes {ys xs : List Body} {k : Nat} {x : Body} (hx : xs[k]? = some x) (h : chgB ys x = true) : chgK ys (xs.take (k + 1)) = chgK ys (xs.take k) ++ [x.key] := by
  unfold chgK
  rw [filter_snoc hx]
  simp [h]
theorem chgK_no {ys xs : List Body} {k : Nat} {x : Body} (hx : xs[k]? = some x) (h : chgB ys x = false) : chgK ys (xs.take (k + 1)) = chgK ys (xs.take k) := by
  unfold chgK
  rw [filter_snoc hx]
  simp [h]
theorem remK_len (ys xs : List Body) : (remK ys xs).length ≤ xs.length := by
  unfold remK
  rw [List.length_map]
  exact List.length_filter_le _ _
theorem chgK_len (ys xs : List Body) : (chgK ys xs).length ≤ xs.length := by
  unfold chgK
  rw [List.length_map]
  exact List.length_filter_le _ _
theorem chgB_none {ys : List Body} {x : Body} (h : findI x.key ys < 0) : chgB ys x = false := by
  unfold chgB
  exact decide_eq_false fun h' => by omega
theorem chgB_eq {ys : List Body} {x y : Body} {q : Nat} (hq : ys[q]? = some y) (hi : findI x.key ys = (q : Int)) : chgB ys x = decide (y ≠ x) := by
  unfold chgB
  refine decide_eq_decide.2 ?_
  have : ys.getD (q : Int).toNat default = y := by simp [List.getD_eq_getElem?_getD, hq]
  rw [hi, this]
  exact ⟨fun h => h.2, fun h => ⟨by omega, h⟩⟩
end Go.Bil
namespace Go.Bil
theorem keyCell_ok (k : Int) : ∀ y ∈ [keyCell k], y.length = 1 ∧ ∀ u ∈ y, one u = true := by
  intro y hy
  simp only [List.mem_singleton] at hy
  subst hy
  exact ⟨rfl, ones_of rfl⟩
end Go.Bil
namespace Go.Bil
/-- How far two views have been merged. -/
structure Mg (xs ys : List Body) (i k : Nat) : Prop where
  sx : Sorted xs
  sy : Sorted ys
  yx : ∀ (p : Nat) (a b : Body), p < k → ys[p]? = some a → xs[i]? = some b → a.key < b.key
  xy : ∀ (p : Nat) (a b : Body), p < i → xs[p]? = some a → ys[k]? = some b → a.key < b.key
theorem Mg.init {xs ys : List Body} (h : Sorted xs) (h' : Sorted ys) : Mg xs ys 0 0 := ⟨h, h', fun p a b hp => by omega, fun p a b hp => by omega⟩
theorem Mg.swap {xs ys : List Body} {i k : Nat} (h : Mg xs ys i k) : Mg ys xs k i := ⟨h.sy, h.sx, h.xy, h.yx⟩
theorem sorted_lt {xs : List Body} (h : Sorted xs) {p q : Nat} {a b : Body} (hpq : p < q) (ha : xs[p]? = some a) (hb : xs[q]? = some b) : a.key < b.key := by
  have hi := List.getElem?_eq_some_iff.1 ha
  have hj := List.getElem?_eq_some_iff.1 hb
  have := List.pairwise_iff_getElem.1 h p q hi.1 hj.1 hpq
  rwa [hi.2, hj.2] at this
theorem Mg.x {xs ys : List Body} {i k : Nat} {a : Body} (h : Mg xs ys i k) (ha : xs[i]? = some a) (hb : ∀ b, ys[k]? = some b → a.key < b.key) : Mg xs ys (i + 1) k ∧ findI a.key ys < 0 := by
  refine ⟨⟨h.sx, h.sy, fun p y x hp hy hx => ?_, fun p x y hp hx hy => ?_⟩, findI_none.2 fun y hy => ?_⟩
  · have := h.yx p y a hp hy ha
    have := sorted_lt h.sx (Nat.lt_succ_self i) ha hx
    omega
  · by_cases e : p = i
    · subst e
      rw [ha] at hx
      injection hx with hx
      subst hx
      exact hb y hy
    · exact h.xy p x y (by omega) hx hy
  · obtain ⟨q, hq⟩ := List.getElem?_of_mem hy
    rcases Nat.lt_or_ge q k with hlt | hge
    · have := h.yx q y a hlt hq ha; omega
    · obtain ⟨b, hbk⟩ := getSome (xs := ys) (k := k) rfl (by have := (List.getElem?_eq_some_iff.1 hq).1; omega)
      have h1 := hb b hbk
      have h2 := up_le h.sy hge hbk hq
      omega
theorem Mg.y {xs ys : List Body} {i k : Nat} {b : Body} (h : Mg xs ys i k) (hb : ys[k]? = some b) (ha : ∀ a, xs[i]? = some a → b.key < a.key) : Mg xs ys i (k + 1) ∧ findI b.key xs < 0 := by
  obtain ⟨h1, h2⟩ := h.swap.x hb ha
  exact ⟨h1.swap, h2⟩
theorem Mg.both {xs ys : List Body} {i k : Nat} {a b : Body} (h : Mg xs ys i k) (ha : xs[i]? = some a) (hb : ys[k]? = some b) (hk : a.key = b.key) : Mg xs ys (i + 1) (k + 1) ∧ findI a.key ys = (k : Int) ∧ findI b.key xs = (i : Int) := by
  refine ⟨⟨h.sx, h.sy, fun p y x hp hy hx => ?_, fun p x y hp hx hy => ?_⟩, ?_, ?_⟩
  · have h1 := sorted_lt h.sx (Nat.lt_succ_self i) ha hx
    have h2 := up_le h.sy (show p ≤ k by omega) hy hb
    omega
  · have h1 := sorted_lt h.sy (Nat.lt_succ_self k) hb hy
    have h2 := up_le h.sx (show p ≤ i by omega) hx ha
    omega
  · exact findI_at hb hk.symm fun j c hj hc => by have := sorted_lt h.sy hj hc hb; omega
  · exact findI_at ha hk fun j c hj hc => by have := sorted_lt h.sx hj hc ha; omega
end Go.Bil
namespace Go.Bil
theorem chgK_both {ys xs : List Body} {i k : Nat} {a b : Body} (ha : xs[i]? = some a) (hb : ys[k]? = some b) (hi : findI a.key ys = (k : Int)) : chgK ys (xs.take (i + 1)) = chgK ys (xs.take i) ++ if a = b then [] else [a.key] := by
  have hc := chgB_eq hb hi
  by_cases h : a = b
  · rw [if_pos h, chgK_no ha (by rw [hc]; exact decide_eq_false (fun h' => h' h.symm))]
    simp
  · rw [if_neg h, chgK_yes ha (by rw [hc]; exact decide_eq_true (fun h' => h h'.symm))]
end Go.Bil
namespace Go.Bil
def pickA (xs : List Body) (ck : List Int) (y : Body) : Body := if findI y.key xs < 0 then y else if (xs.getD (findI y.key xs).toNat default).key ∈ ck then y else xs.getD (findI y.key xs).toNat default
def applyL (xs : List Body) (ck : List Int) (ys : List Body) : List Body := ys.map (pickA xs ck)
theorem applyL_snoc {xs ys : List Body} {ck : List Int} {k : Nat} {y : Body} (h : ys[k]? = some y) : applyL xs ck (ys.take (k + 1)) = applyL xs ck (ys.take k) ++ [pickA xs ck y] := by
  unfold applyL
  rw [take_snoc h, List.map_append]
  rfl
theorem pickA_none {xs : List Body} {ck : List Int} {y : Body} (h : findI y.key xs < 0) : pickA xs ck y = y := by unfold pickA; rw [if_pos h]
theorem pickA_some {xs : List Body} {ck : List Int} {x y : Body} {i : Nat} (hx : xs[i]? = some x) (h : findI y.key xs = (i : Int)) : pickA xs ck y = if x.key ∈ ck then y else x := by
  have e : xs.getD (i : Int).toNat default = x := by simp [List.getD_eq_getElem?_getD, hx]
  unfold pickA
  rw [h, if_neg (by omega), e]
theorem applyL_len (xs ys : List Body) (ck : List Int) : (applyL xs ck ys).length = ys.length := by simp [applyL]
theorem apply_diff {xs ys : List Body} (hs : Sorted xs) (hs' : Sorted ys) : applyL xs (chgK ys xs) ys = ys := by
  unfold applyL
  conv => rhs; rw [← List.map_id ys]
  refine List.map_congr_left fun y hy => ?_
  rcases findI_cases y.key xs with ⟨h, _⟩ | ⟨i, x, hx, hk, hi⟩
  · rw [pickA_none (by omega)]; rfl
  · rw [pickA_some hx hi]
    split
    · rfl
    · rename_i hn
      obtain ⟨q, hq⟩ := List.getElem?_of_mem hy
      have hf : findI x.key ys = (q : Int) := findI_at hq hk.symm fun j c hj hc => by have := sorted_lt hs' hj hc hq; omega
      rcases Decidable.em (y = x) with e | e
      · rw [e]; rfl
      · exfalso
        apply hn
        refine List.mem_map.2 ⟨x, List.mem_filter.2 ⟨List.mem_of_getElem? hx, ?_⟩, rfl⟩
        rw [chgB_eq hq hf]
        exact decide_eq_true e
end Go.Bil
namespace Go.Bil
def bK (k : Int) : Body := ⟨k, 65536, 0, 0, 0, 0, 0, 0, 0, 0⟩
theorem aw7_1 : remK [bK 1, bK 2] [bK 2, bK 3] = [3] := by decide
theorem aw7_2 : remK [bK 2, bK 3] [bK 1, bK 2] = [1] := by decide
theorem aw7_3 : chgK [bK 2, bK 3] [bK 1, bK 2] = [] := by decide
theorem aw7_4 : sortV [bK 3, bK 1] = ([bK 1, bK 3], 0) := by decide
theorem aw7_5 : sortV [bK 1, bK 1] = ([], 10) := by decide
theorem aw7_6 : lessI 3 [bK 1, bK 3] = 1 := by decide
theorem aw7_7 : lessI 2 [bK 1, bK 3] = 1 := by decide
theorem aw7_8 : checkV [bK 2, bK 1] = 10 := by decide
theorem aw7_9 : checkV [bK 1, bK 3] = 0 := by decide
theorem aw7_10 : 0 ≤ findI 3 [bK 1, bK 3] := by decide
theorem aw7_11 : ¬ 0 ≤ findI 2 [bK 1, bK 3] := by decide
theorem keys_len (m : List Int) : ∀ y ∈ m.map keyCell, y.length = 1 := by
  intro y hy
  obtain ⟨b, _, rfl⟩ := List.mem_map.1 hy
  rfl
end Go.Bil
namespace Go.Bil
theorem sortV_err {xs : List Body} (h : (sortV xs).2 ≠ 0) : (sortV xs).1 = [] := by
  unfold sortV at *
  split
  · rfl
  · rename_i h1
    split
    · rename_i h2
      rw [if_neg h1, if_pos h2] at h
      exact absurd rfl h
    · rfl
theorem sortV_ok {xs : List Body} (h : (sortV xs).2 = 0) : Keys xs ∧ eachI xs = 0 ∧ (sortV xs).1 = sortB xs := by
  unfold sortV at *
  by_cases h1 : eachI xs = 0
  · rw [if_neg (by omega)] at h ⊢
    by_cases h2 : Keys xs
    · rw [if_pos h2]; exact ⟨h2, h1, rfl⟩
    · rw [if_neg h2] at h; simp at h
  · rw [if_pos h1] at h; exact absurd h h1
theorem sorted_B {xs : List Body} (hk : Keys xs) : Sorted (sortB xs) := (sortB_rel hk).sorted
theorem sort_at {xs : List Body} (hk : Keys xs) {b : Body} (hb : b ∈ xs) : ∃ p : Nat, (sortB xs)[p]? = some b ∧ lessI b.key (sortB xs) = p ∧ 0 ≤ findI b.key (sortB xs) := by
  obtain ⟨p, hp⟩ := List.getElem?_of_mem ((sortB_perm xs).mem_iff.2 hb)
  have hs := sorted_B hk
  refine ⟨p, hp, lessI_at (by have := (List.getElem?_eq_some_iff.1 hp).1; omega) (fun j c hj hc => sorted_lt hs hj hc hp) (fun j c hj hc => by have := up_le hs hj hp hc; omega), ?_⟩
  rcases findI_cases b.key (sortB xs) with ⟨_, h⟩ | ⟨_, _, _, _, h⟩
  · exact absurd rfl (h b (List.mem_of_getElem? hp))
  · omega
theorem sortV_sorted {xs : List Body} (hk : Keys xs) (he : eachI xs = 0) : sortV (sortB xs) = (sortB xs, 0) := by
  have hp := sortB_perm xs
  have hk' : Keys (sortB xs) := hk.perm hp
  have he' : eachI (sortB xs) = 0 := by
    obtain ⟨h1, h2⟩ := eachI_ok he
    exact eachI_of (by rw [hp.length_eq]; exact h1) fun b hb => h2 b (hp.mem_iff.1 hb)
  unfold sortV
  rw [if_neg (by omega), if_pos hk', up_unique (sortB_up (sortB xs)) (sortB_up xs) (sortB_perm _) (hk'.perm (sortB_perm _))]
end Go.Bil
namespace Go.Bil
theorem not_in_both {a b : List Body} (ha : Sorted a) (hb : Sorted b) : ((remK a b).length = 0 ∧ (remK b a).length = 0 ∧ (chgK b a).length = 0) ↔ a = b := by
  constructor
  · rintro ⟨h1, h2, h3⟩
    have e1 : ∀ y ∈ b, 0 ≤ findI y.key a := fun y hy => by
      rcases Int.lt_or_le (findI y.key a) 0 with h | h
      · have : y.key ∈ remK a b := List.mem_map.2 ⟨y, List.mem_filter.2 ⟨hy, by simpa using h⟩, rfl⟩
        rw [List.eq_nil_of_length_eq_zero h1] at this; cases this
      · exact h
    have e2 : ∀ x ∈ a, x ∈ b := fun x hx => by
      rcases findI_cases x.key b with ⟨h, _⟩ | ⟨q, y, hq, hk, hi⟩
      · have : x.key ∈ remK b a := List.mem_map.2 ⟨x, List.mem_filter.2 ⟨hx, by simp [h]⟩, rfl⟩
        rw [List.eq_nil_of_length_eq_zero h2] at this; cases this
      · rcases Decidable.em (y = x) with e | e
        · rw [← e]; exact List.mem_of_getElem? hq
        · have : x.key ∈ chgK b a := List.mem_map.2 ⟨x, List.mem_filter.2 ⟨hx, by rw [chgB_eq hq hi]; exact decide_eq_true e⟩, rfl⟩
          rw [List.eq_nil_of_length_eq_zero h3] at this; cases this
    have e3 : ∀ y ∈ b, y ∈ a := fun y hy => by
      have := e1 y hy
      rcases findI_cases y.key a with ⟨h, _⟩ | ⟨q, x, hq, hk, hi⟩
      · omega
      · have hx := e2 x (List.mem_of_getElem? hq)
        obtain ⟨i, hi'⟩ := List.getElem?_of_mem hx
        obtain ⟨j, hj'⟩ := List.getElem?_of_mem hy
        have : i = j := hb.keys.inj hi' hj' hk
        subst this
        rw [hi'] at hj'
        injection hj' with hj'
        rw [← hj']; exact List.mem_of_getElem? hq
    have na : a.Nodup := List.Pairwise.imp (fun h e => by rw [e] at h; omega) ha
    have nb : b.Nodup := List.Pairwise.imp (fun h e => by rw [e] at h; omega) hb
    exact ha.unique hb ((List.perm_ext_iff_of_nodup na nb).2 fun x => ⟨e2 x, e3 x⟩)
  · rintro rfl
    have hf : ∀ x ∈ a, ∃ q : Nat, a[q]? = some x ∧ findI x.key a = (q : Int) := fun x hx => by
      obtain ⟨q, hq⟩ := List.getElem?_of_mem hx
      exact ⟨q, hq, findI_at hq rfl fun j c hj hc => by have := sorted_lt ha hj hc hq; omega⟩
    have h1 : remK a a = [] := by
      unfold remK
      rw [List.filter_eq_nil_iff.2 fun x hx => by obtain ⟨q, _, h⟩ := hf x hx; simp; omega]
      rfl
    have h3 : chgK a a = [] := by
      unfold chgK
      rw [List.filter_eq_nil_iff.2 fun x hx => by obtain ⟨q, hq, h⟩ := hf x hx; rw [chgB_eq hq h]; simp]
      rfl
    rw [h1, h3]; simp
end Go.Bil
namespace Go.Bil
theorem keys_unique {l l' : List Int} (h : l.Pairwise (· < ·)) (h' : l'.Pairwise (· < ·)) (hm : ∀ x, x ∈ l ↔ x ∈ l') : l = l' := by
  have n1 : l.Nodup := h.imp (fun h e => by omega)
  have n2 : l'.Nodup := h'.imp (fun h e => by omega)
  exact List.Perm.eq_of_pairwise (le := fun (a b : Int) => a < b) (fun a b _ _ h1 h2 => by omega) h h' ((List.perm_ext_iff_of_nodup n1 n2).2 hm)
theorem mem_chg {a b : List Body} (hb : Sorted b) {k : Int} : k ∈ chgK b a ↔ ∃ x y, x ∈ a ∧ y ∈ b ∧ x.key = k ∧ y.key = k ∧ y ≠ x := by
  unfold chgK
  simp only [List.mem_map, List.mem_filter]
  constructor
  · rintro ⟨x, ⟨hx, hc⟩, rfl⟩
    rcases findI_cases x.key b with ⟨h, _⟩ | ⟨q, y, hq, hk, hi⟩
    · rw [chgB_none (by omega)] at hc; cases hc
    · rw [chgB_eq hq hi] at hc
      exact ⟨x, y, hx, List.mem_of_getElem? hq, rfl, hk, of_decide_eq_true hc⟩
  · rintro ⟨x, y, hx, hy, rfl, hk, hne⟩
    obtain ⟨q, hq⟩ := List.getElem?_of_mem hy
    exact ⟨x, ⟨hx, by rw [chgB_eq hq (findI_at hq hk fun j c hj hc => by have := sorted_lt hb hj hc hq; omega)]; exact decide_eq_true hne⟩, rfl⟩
theorem chg_asc {a b : List Body} (ha : Sorted a) : (chgK b a).Pairwise (· < ·) := by
  unfold chgK
  rw [List.pairwise_map]
  exact List.Pairwise.sublist List.filter_sublist ha
theorem chg_comm {a b : List Body} (ha : Sorted a) (hb : Sorted b) : chgK b a = chgK a b :=
  keys_unique (chg_asc ha) (chg_asc hb) fun k => by
    rw [mem_chg hb, mem_chg ha]
    exact ⟨fun ⟨x, y, h1, h2, h3, h4, h5⟩ => ⟨y, x, h2, h1, h4, h3, Ne.symm h5⟩, fun ⟨x, y, h1, h2, h3, h4, h5⟩ => ⟨y, x, h2, h1, h4, h3, Ne.symm h5⟩⟩
end Go.Bil

/- Views, plain: counting less keys, parts of a view. -/
set_option linter.unusedVariables false
set_option linter.unusedSimpArgs false
namespace Go.Bil
theorem lessI_append (key : Int) : ∀ (l m : List Body), lessI key (l ++ m) = lessI key l + lessI key m
  | [], m => by simp [lessI]
  | b :: l, m => by simp only [List.cons_append, lessI, lessI_append key l m]; omega
theorem lessI_yes {key : Int} {xs : List Body} {k : Nat} {b : Body} (h : xs[k]? = some b) (hb : b.key < key) : lessI key (xs.take (k + 1)) = lessI key (xs.take k) + 1 := by
  rw [take_snoc h, lessI_append]
  simp [lessI, hb]
theorem lessI_no {key : Int} {xs : List Body} {k : Nat} {b : Body} (h : xs[k]? = some b) (hb : ¬ b.key < key) : lessI key (xs.take (k + 1)) = lessI key (xs.take k) := by
  rw [take_snoc h, lessI_append]
  simp [lessI, hb]
theorem lessI_len (key : Int) : ∀ xs : List Body, lessI key xs ≤ xs.length
  | [] => by simp [lessI]
  | b :: l => by have := lessI_len key l; simp only [lessI, List.length_cons]; split <;> omega
/-- A partL of a list. -/
def partL {α : Type} (v : List α) (a b : Nat) : List α := (v.drop a).take (b - a)
theorem part_map {α β : Type} (f : α → β) (v : List α) (a b : Nat) : ((v.map f).drop a).take (b - a) = (partL v a b).map f := by
  unfold partL
  rw [← List.map_drop, ← List.map_take]
theorem part_len {α : Type} {v : List α} {a b : Nat} (hab : a ≤ b) (hb : b ≤ v.length) : (partL v a b).length = b - a := by
  unfold partL
  simp
  omega
theorem part_at {α : Type} {v : List α} {a b j : Nat} (hj : j < b - a) : (partL v a b)[j]? = v[a + j]? := by
  unfold partL
  rw [List.getElem?_take_of_lt hj, List.getElem?_drop]
theorem part_sub {α : Type} (v : List α) (a b : Nat) : List.Sublist (partL v a b) v := (List.take_sublist _ _).trans (List.drop_sublist _ _)
theorem part_sorted {v : List Body} (h : Sorted v) (a b : Nat) : Sorted (partL v a b) := List.Pairwise.sublist (part_sub v a b) h
theorem lt_of_get {α : Type} {l : List α} {i : Nat} {x : α} (h : l[i]? = some x) : i < l.length := (List.getElem?_eq_some_iff.1 h).1
theorem part_less {v : List Body} (h : Sorted v) {a b i : Nat} (hab : a ≤ b) (hb : b ≤ v.length) {x : Body} (hx : v[i]? = some x) : lessI x.key (partL v a b) = min (i - a) (b - a) := by
  have hl := part_len hab hb
  refine lessI_at (by omega) (fun j c hj hc => ?_) (fun j c hj hc => ?_)
  · rw [part_at (by omega)] at hc
    exact sorted_lt h (by omega) hc hx
  · have hjl := lt_of_get hc
    rw [part_at (by omega)] at hc
    have := up_le h (p := i) (q := a + j) (by omega) hx hc
    omega
theorem part_found {v : List Body} (h : Sorted v) {a b i : Nat} (hab : a ≤ b) (hb : b ≤ v.length) {x : Body} (hx : v[i]? = some x) : (0 ≤ findI x.key (partL v a b)) ↔ (a ≤ i ∧ i < b) := by
  have hl := part_len hab hb
  rcases findI_cases x.key (partL v a b) with ⟨h1, h2⟩ | ⟨j, c, hc, hk, h1⟩
  · refine ⟨fun h => by omega, fun ⟨h3, h4⟩ => ?_⟩
    have : (partL v a b)[i - a]? = some x := by rw [part_at (by omega), show a + (i - a) = i by omega]; exact hx
    exact absurd rfl (h2 x (List.mem_of_getElem? this))
  · have hjl := lt_of_get hc
    rw [part_at (by omega)] at hc
    have hij : a + j = i := by
      rcases Nat.lt_trichotomy (a + j) i with hlt | heq | hgt
      · have := sorted_lt h hlt hc hx; omega
      · exact heq
      · have := sorted_lt h hgt hx hc; omega
    exact ⟨fun _ => ⟨by omega, by omega⟩, fun _ => by omega⟩
theorem checkV_ok {v : List Body} (he : eachI v = 0) (hs : Sorted v) : checkV v = 0 := by
  unfold checkV
  rw [if_neg (by omega), if_pos (sorted_adjB hs)]
theorem part_check {v : List Body} (he : eachI v = 0) (hs : Sorted v) (a b : Nat) : checkV (partL v a b) = 0 := by
  obtain ⟨h1, h2⟩ := eachI_ok he
  have hsub := part_sub v a b
  exact checkV_ok (eachI_of (by have := hsub.length_le; omega) fun x hx => h2 x (hsub.subset hx)) (part_sorted hs a b)
theorem each_sort {xs : List Body} (he : eachI xs = 0) : eachI (sortB xs) = 0 := by
  obtain ⟨h1, h2⟩ := eachI_ok he
  exact eachI_of (by rw [(sortB_perm xs).length_eq]; exact h1) fun b hb => h2 b ((sortB_perm xs).mem_iff.1 hb)
theorem sortV_len (xs : List Body) : (sortV xs).1.length ≤ xs.length := by
  unfold sortV
  split
  · simp
  · split
    · simpa using Nat.le_of_eq (sortB_perm xs).length_eq
    · simp
theorem tmod_at {f N a : Nat} {z : Int} (hz : z = (N : Int) + 1) (h : a = f % (N + 1)) : (f : Int).tmod z = (a : Int) := by
  subst hz
  subst h
  rw [show ((N : Int) + 1) = ((N + 1 : Nat) : Int) by omega]
  exact (Int.ofNat_tmod f (N + 1)).symm
end Go.Bil

/- Boxes of bodies, plain. -/
set_option linter.unusedVariables false
set_option linter.unusedSimpArgs false
namespace Go.Bil
structure Bx where
  x0 : Int
  y0 : Int
  x1 : Int
  y1 : Int
  deriving DecidableEq, Inhabited
def bxCells (a : Bx) : List Value := [.int .i32 a.x0, .int .i32 a.y0, .int .i32 a.x1, .int .i32 a.y1]
def extX (b : Body) : Int := max b.ax (-b.ax) + b.radius
def extY (b : Body) : Int := max b.ay (-b.ay) + b.radius
def boxOf (b : Body) : Bx := ⟨b.px - extX b, b.py - extY b, b.px + extX b, b.py + extY b⟩
abbrev emptyB (a : Bx) : Prop := a.x1 < a.x0 ∨ a.y1 < a.y0
def noneB : Bx := ⟨1, 0, 0, 0⟩
def meetB (a b : Bx) : Bx := if emptyB ⟨max a.x0 b.x0, max a.y0 b.y0, min a.x1 b.x1, min a.y1 b.y1⟩ then noneB else ⟨max a.x0 b.x0, max a.y0 b.y0, min a.x1 b.x1, min a.y1 b.y1⟩
abbrev ovl (a b : Bx) : Prop := (a.x0 ≤ a.x1 ∧ a.y0 ≤ a.y1) ∧ (b.x0 ≤ b.x1 ∧ b.y0 ≤ b.y1) ∧ (a.x0 ≤ b.x1 ∧ b.x0 ≤ a.x1 ∧ a.y0 ≤ b.y1 ∧ b.y0 ≤ a.y1)
theorem meet_ovl (a b : Bx) : ¬ emptyB (meetB a b) ↔ ovl a b := by
  unfold meetB
  split
  · rename_i h
    unfold emptyB at h
    simp only [emptyB, noneB, ovl]
    simp only at h
    omega
  · rename_i h
    unfold emptyB at h
    simp only [emptyB, ovl]
    simp only at h
    omega
structure Okb (b : Body) : Prop where
  r : 4096 ≤ b.radius ∧ b.radius ≤ 4194304
  a : -4194304 ≤ b.ax ∧ b.ax ≤ 4194304 ∧ -4194304 ≤ b.ay ∧ b.ay ≤ 4194304
  m : 0 ≤ b.mass ∧ b.mass ≤ 1048576
  c : 0 ≤ b.bounce ∧ b.bounce ≤ 65536
  p : -1073741824 ≤ b.px ∧ b.px ≤ 1073741824 ∧ -1073741824 ≤ b.py ∧ b.py ≤ 1073741824
  v : -16777216 ≤ b.vx ∧ b.vx ≤ 16777216 ∧ -16777216 ≤ b.vy ∧ b.vy ≤ 16777216
theorem check_ok {b : Body} (h : check b = 0) : Okb b := by
  by_cases h1 : 4096 ≤ b.radius ∧ b.radius ≤ 4194304
  · by_cases h2 : -4194304 ≤ b.ax ∧ b.ax ≤ 4194304 ∧ -4194304 ≤ b.ay ∧ b.ay ≤ 4194304
    · by_cases h3 : 0 ≤ b.mass ∧ b.mass ≤ 1048576
      · by_cases h4 : 0 ≤ b.bounce ∧ b.bounce ≤ 65536
        · by_cases h5 : -1073741824 ≤ b.px ∧ b.px ≤ 1073741824 ∧ -1073741824 ≤ b.py ∧ b.py ≤ 1073741824
          · by_cases h6 : -16777216 ≤ b.vx ∧ b.vx ≤ 16777216 ∧ -16777216 ≤ b.vy ∧ b.vy ≤ 16777216
            · exact ⟨h1, h2, h3, h4, h5, h6⟩
            · rw [check_9 b h1 h2 h3 h4 h5 h6] at h; omega
          · rw [check_8 b h1 h2 h3 h4 h5] at h; omega
        · rw [check_7 b h1 h2 h3 h4] at h; omega
      · rw [check_6 b h1 h2 h3] at h; omega
    · rw [check_5 b h1 h2] at h; omega
  · rw [check_4 b h1] at h; omega
theorem ext_le {b : Body} (h : Okb b) : 4096 ≤ extX b ∧ extX b ≤ 8388608 ∧ 4096 ≤ extY b ∧ extY b ≤ 8388608 := by
  have := h.r
  have := h.a
  unfold extX extY
  omega
/-- What the components of a box of a valid body are like. -/
structure Okx (a : Bx) : Prop where
  x0 : -2147483648 ≤ a.x0 ∧ a.x0 ≤ 2147483647
  y0 : -2147483648 ≤ a.y0 ∧ a.y0 ≤ 2147483647
  x1 : -2147483648 ≤ a.x1 ∧ a.x1 ≤ 2147483647
  y1 : -2147483648 ≤ a.y1 ∧ a.y1 ≤ 2147483647
theorem box_ok {b : Body} (h : Okb b) : Okx (boxOf b) := by
  have h1 := ext_le h
  have h2 := h.p
  constructor <;> simp only [boxOf] <;> omega
theorem box_full {b : Body} (h : Okb b) : (boxOf b).x0 ≤ (boxOf b).x1 ∧ (boxOf b).y0 ≤ (boxOf b).y1 := by
  have h1 := ext_le h
  simp only [boxOf]
  omega
theorem bx_ext {a b : Bx} : a = b ↔ (a.x0 = b.x0 ∧ a.y0 = b.y0 ∧ a.x1 = b.x1 ∧ a.y1 = b.y1) := by
  cases a; cases b; simp
theorem bxCells_one (a : Bx) : ∀ u ∈ bxCells a, one u = true := by simp [bxCells, one]
end Go.Bil

/- Cells of the grid, plain. -/
set_option linter.unusedVariables false
set_option linter.unusedSimpArgs false
namespace Go.Bil
def cellCells (c : Int × Int) : List Value := [.int .i32 c.1, .int .i32 c.2]
def cdiv (x : Int) : Int := x.fdiv 4194304
theorem shr22 (x : Int) : x.fdiv (2 ^ (min (22 : Int).toNat IntKind.i32.bits)) = cdiv x := rfl
theorem cdiv_eq (x : Int) : cdiv x = x / 4194304 := by unfold cdiv; exact Int.fdiv_eq_ediv_of_nonneg x (by decide)
theorem cdiv_range {x : Int} (h0 : -2147483648 ≤ x) (h1 : x ≤ 2147483647) : -512 ≤ cdiv x ∧ cdiv x ≤ 511 := by rw [cdiv_eq]; omega
theorem cdiv_mono {x y : Int} (h : x ≤ y) : cdiv x ≤ cdiv y := by rw [cdiv_eq, cdiv_eq]; omega
def loC (a : Bx) : Int × Int := if emptyB a then (0, 0) else (cdiv a.x0, cdiv a.y0)
def hiC (a : Bx) : Int × Int := if emptyB a then (0, 0) else (cdiv a.x1, cdiv a.y1)
/-- Columns and rows of a span. -/
def nX (lo hi : Int × Int) : Nat := (hi.1 - lo.1 + 1).toNat
def nY (lo hi : Int × Int) : Nat := (hi.2 - lo.2 + 1).toNat
def rowC (lo : Int × Int) (i j : Nat) : List (Int × Int) := (List.range i).map (fun (p : Nat) => (lo.1 + (p : Int), lo.2 + (j : Int)))
def rowsC (lo hi : Int × Int) (j : Nat) : List (Int × Int) := (List.range j).flatMap (fun q => rowC lo (nX lo hi) q)
def cellsL (ok : Bool) (lo hi : Int × Int) : List (Int × Int) := if ok then rowsC lo hi (nY lo hi) else []
def cellsB (a : Bx) : List (Int × Int) := cellsL (decide (¬ emptyB a)) (loC a) (hiC a)
theorem rowC_len (lo : Int × Int) (i j : Nat) : (rowC lo i j).length = i := by simp [rowC]
theorem rowC_succ (lo : Int × Int) (i j : Nat) : rowC lo (i + 1) j = rowC lo i j ++ [(lo.1 + (i : Int), lo.2 + (j : Int))] := by simp [rowC, List.range_succ]
theorem rowsC_succ (lo hi : Int × Int) (j : Nat) : rowsC lo hi (j + 1) = rowsC lo hi j ++ rowC lo (nX lo hi) j := by simp [rowsC, List.range_succ]
theorem rowsC_len (lo hi : Int × Int) : ∀ j, (rowsC lo hi j).length = j * nX lo hi
  | 0 => by simp [rowsC]
  | j + 1 => by rw [rowsC_succ, List.length_append, rowsC_len lo hi j, rowC_len, Nat.add_mul, Nat.one_mul]
theorem rowsC_lt {lo hi : Int × Int} {i j : Nat} (hx : nX lo hi ≤ 1024) (hj : j < 1024) (hi' : i < nX lo hi) : (rowsC lo hi j).length + i < 1048576 := by
  rw [rowsC_len]
  have : j * nX lo hi ≤ 1023 * 1024 := Nat.mul_le_mul (by omega) hx
  omega
theorem rowsC_le {lo hi : Int × Int} {j : Nat} (hx : nX lo hi ≤ 1024) (hj : j ≤ 1024) : (rowsC lo hi j).length ≤ 1048576 := by
  rw [rowsC_len]
  exact Nat.mul_le_mul hj hx
theorem mem_rowsC {lo hi : Int × Int} {n : Nat} {c : Int × Int} : c ∈ rowsC lo hi n ↔ ∃ q p : Nat, q < n ∧ p < nX lo hi ∧ c = (lo.1 + (p : Int), lo.2 + (q : Int)) := by
  simp only [rowsC, rowC, List.mem_flatMap, List.mem_range, List.mem_map]
  constructor
  · rintro ⟨q, hq, p, hp, rfl⟩; exact ⟨q, p, hq, hp, rfl⟩
  · rintro ⟨q, p, hq, hp, rfl⟩; exact ⟨q, hq, p, hp, rfl⟩
theorem mem_cellsB {a : Bx} {c : Int × Int} : c ∈ cellsB a ↔ ¬ emptyB a ∧ cdiv a.x0 ≤ c.1 ∧ c.1 ≤ cdiv a.x1 ∧ cdiv a.y0 ≤ c.2 ∧ c.2 ≤ cdiv a.y1 := by
  unfold cellsB cellsL
  by_cases h : emptyB a
  · simp [h]
  · rw [if_pos (by simpa using h), mem_rowsC]
    simp only [loC, hiC, if_neg h, nX, nY]
    constructor
    · rintro ⟨q, p, hq, hp, rfl⟩
      refine ⟨h, ?_⟩
      simp only
      omega
    · rintro ⟨_, h1, h2, h3, h4⟩
      refine ⟨(c.2 - cdiv a.y0).toNat, (c.1 - cdiv a.x0).toNat, by omega, by omega, ?_⟩
      apply Prod.ext <;> simp only <;> omega
structure Okc (c : Int × Int) : Prop where
  x : -512 ≤ c.1 ∧ c.1 ≤ 511
  y : -512 ≤ c.2 ∧ c.2 ≤ 511
theorem loC_ok {a : Bx} (h : Okx a) : Okc (loC a) := by
  unfold loC
  split
  · exact ⟨by decide, by decide⟩
  · exact ⟨cdiv_range h.x0.1 h.x0.2, cdiv_range h.y0.1 h.y0.2⟩
theorem hiC_ok {a : Bx} (h : Okx a) : Okc (hiC a) := by
  unfold hiC
  split
  · exact ⟨by decide, by decide⟩
  · exact ⟨cdiv_range h.x1.1 h.x1.2, cdiv_range h.y1.1 h.y1.2⟩
theorem nX_le {lo hi : Int × Int} (h1 : Okc lo) (h2 : Okc hi) : nX lo hi ≤ 1024 := by
  have := h1.x; have := h2.x
  unfold nX
  omega
theorem nY_le {lo hi : Int × Int} (h1 : Okc lo) (h2 : Okc hi) : nY lo hi ≤ 1024 := by
  have := h1.y; have := h2.y
  unfold nY
  omega
theorem cellsB_len {a : Bx} (h : Okx a) : (cellsB a).length ≤ 1048576 := by
  unfold cellsB cellsL
  split
  · exact rowsC_le (nX_le (loC_ok h) (hiC_ok h)) (nY_le (loC_ok h) (hiC_ok h))
  · simp
/-- Boxes that overlap have a cell in common. -/
theorem ovl_cell {a b : Bx} (h : ovl a b) : ∃ c, c ∈ cellsB a ∧ c ∈ cellsB b := by
  obtain ⟨⟨h1, h2⟩, ⟨h3, h4⟩, h5, h6, h7, h8⟩ := h
  refine ⟨(cdiv (max a.x0 b.x0), cdiv (max a.y0 b.y0)), mem_cellsB.2 ⟨by unfold emptyB; omega, ?_⟩, mem_cellsB.2 ⟨by unfold emptyB; omega, ?_⟩⟩
  · exact ⟨cdiv_mono (by omega), cdiv_mono (by omega), cdiv_mono (by omega), cdiv_mono (by omega)⟩
  · exact ⟨cdiv_mono (by omega), cdiv_mono (by omega), cdiv_mono (by omega), cdiv_mono (by omega)⟩
theorem cells_len (m : List (Int × Int)) : ∀ y ∈ m.map cellCells, y.length = 2 := by
  intro y hy
  obtain ⟨x, _, rfl⟩ := List.mem_map.1 hy
  rfl
/-- The bucket of a cell. -/
def bucketZ (c : Int × Int) : Int :=
  IntKind.u32.wrap ((BitVec.ofInt 32 (IntKind.u32.wrap ((BitVec.ofInt 32 (IntKind.u32.wrap (IntKind.u32.wrap c.1 * 73856093)) ^^^ BitVec.ofInt 32 (IntKind.u32.wrap (IntKind.u32.wrap c.2 * 19349663))).toNat)) &&& BitVec.ofInt 32 1023).toNat)
def bucketI (c : Int × Int) : Nat := (bucketZ c).toNat
theorem bucketZ_range (c : Int × Int) : 0 ≤ bucketZ c ∧ bucketZ c < 1024 := by
  unfold bucketZ
  generalize BitVec.ofInt 32 (IntKind.u32.wrap _) = a
  have h : (a &&& BitVec.ofInt 32 1023).toNat ≤ 1023 := by
    rw [BitVec.toNat_and]
    exact Nat.le_trans Nat.and_le_right (by decide)
  rw [wru32 _ (by omega) (by omega)]
  omega
theorem bucket_lt (c : Int × Int) : bucketI c < 1024 := by have := bucketZ_range c; unfold bucketI; omega
theorem bucket_eq (c : Int × Int) : bucketZ c = (bucketI c : Int) := by have := bucketZ_range c; unfold bucketI; omega
end Go.Bil
