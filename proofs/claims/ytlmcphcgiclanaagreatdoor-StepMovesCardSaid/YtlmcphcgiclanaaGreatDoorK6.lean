/- Part of the proof of the laws of this seat: Md4, Md5, Md7, Md8, MdB, MdC. No conditions. -/
import Derived.Test.YtlmcphcgiclanaaGreatDoorK4
import Derived.Test.YtlmcphcgiclanaaGreatDoorK3
set_option linter.unusedVariables false
set_option linter.unusedSimpArgs false
set_option linter.unnecessarySimpa false
namespace Go.Bil
def bK (s : List Body) : Prop := s.Pairwise (fun a b => a.key < b.key)
def mL (k : Int) (s : List Body) : List Body := s.filter (fun x => decide (x.key ≠ k))
def oZ (b : Body) : Bool → List Body → List Body
  | true, s => mL b.key s
  | false, [] => [b]
  | false, x :: l => if b.key ≤ x.key then b :: mL b.key (x :: l) else x :: oZ b false l
def aVo (b : Body) (r : List Body × Bool) : List Body := if r.2 then r.1 else r.1 ++ [b]
theorem mE (b : Body) : ∀ (s acc : List Body) (d : Bool), aVo b (s.foldl (dI b) (acc, d)) = acc ++ oZ b d s
  | [], acc, true => by simp [oZ, mL, aVo]
  | [], acc, false => by simp [oZ, aVo]
  | x :: l, acc, true => by
    have ih := mE b l (if x.key ≠ b.key then acc ++ [x] else acc) true
    rw [List.foldl_cons]
    have e : dI b (acc, true) x = (if x.key ≠ b.key then acc ++ [x] else acc, true) := by unfold dI; by_cases h : x.key = b.key <;> simp [h]
    rw [e, ih]
    by_cases h : x.key = b.key <;> simp [oZ, mL, h]
  | x :: l, acc, false => by
    rw [List.foldl_cons]
    by_cases hb : b.key ≤ x.key
    · have ih := mE b l (if x.key ≠ b.key then acc ++ [b] ++ [x] else acc ++ [b]) true
      have e : dI b (acc, false) x = (if x.key ≠ b.key then acc ++ [b] ++ [x] else acc ++ [b], true) := by unfold dI; by_cases h : x.key = b.key <;> simp [h, hb]
      rw [e, ih]
      by_cases h : x.key = b.key <;> simp [oZ, mL, h, hb]
    · have hne : x.key ≠ b.key := by omega
      have ih := mE b l (acc ++ [x]) false
      have e : dI b (acc, false) x = (acc ++ [x], false) := by unfold dI; simp [hb, hne]
      rw [e, ih]
      simp [oZ, hb]
theorem aHa (s : List Body) (b : Body) (g : Bool) : yP s b g = oZ b g s := by
  have := mE b s [] g
  rw [List.nil_append] at this
  exact this
theorem nR (b : Body) : ∀ s : List Body, (oZ b false s).Perm (b :: mL b.key s)
  | [] => by simp [oZ, mL]
  | x :: l => by
    unfold oZ
    split
    · exact List.Perm.refl _
    · rename_i h
      have hne : x.key ≠ b.key := by omega
      have e : mL b.key (x :: l) = x :: mL b.key l := by simp [mL, hne]
      rw [e]
      exact ((nR b l).cons x).trans (List.Perm.swap b x _)
theorem aCd {k : Int} {s : List Body} {x : Body} : x ∈ mL k s ↔ x ∈ s ∧ x.key ≠ k := by simp [mL]
theorem bK.cut {s : List Body} (h : bK s) (k : Int) : bK (mL k s) := List.Pairwise.sublist List.filter_sublist h
theorem bK.put {b : Body} : ∀ {s : List Body}, bK s → bK (oZ b false s)
  | [], _ => by simp [oZ, bK]
  | x :: l, h => by
    unfold oZ
    have hx : ∀ y ∈ l, x.key < y.key := (List.pairwise_cons.1 h).1
    have hl : bK l := (List.pairwise_cons.1 h).2
    split
    · rename_i hb
      refine List.pairwise_cons.2 ⟨fun y hy => ?_, h.cut _⟩
      obtain ⟨h1, h2⟩ := aCd.1 hy
      rcases List.mem_cons.1 h1 with rfl | h1
      · omega
      · have := hx y h1; omega
    · rename_i hb
      refine List.pairwise_cons.2 ⟨fun y hy => ?_, bK.put hl⟩
      have := (nR b l).mem_iff.1 hy
      rcases List.mem_cons.1 this with rfl | h1
      · omega
      · exact hx y (aCd.1 h1).1
theorem aLb (s : List Body) (b : Body) (g : Bool) : (yP s b g).length ≤ s.length + 1 := by
  rw [aHa]
  cases g with
  | true => have := List.length_filter_le (fun x : Body => decide (x.key ≠ b.key)) s; simp only [oZ, mL]; omega
  | false =>
    rw [(nR b s).length_eq]
    have := List.length_filter_le (fun x : Body => decide (x.key ≠ b.key)) s
    simp only [mL, List.length_cons]; omega
def lS (s : List Body) (b : Body) : List Body × Int :=
  if check b ≠ 0 then (s, check b) else if 0 ≤ cD b.key s then (s, 10) else if 4096 ≤ s.length then (s, 12) else (yP s b false, 0)
def aGp (k : Int) : Body := ⟨k, 0, 0, 0, 0, 0, 0, 0, 0, 0⟩
def aVn (s : List Body) (b : Body) : List Body × Int :=
  if check b ≠ 0 then (s, check b) else if cD b.key s < 0 then (s, 11) else (yP s b false, 0)
def vW (l : List Body) : List Body := l.foldl (fun s b => (lS s b).1) []
theorem aLg (s : List Body) (b : Body) : (lS s b).1.length ≤ s.length + 1 := by
  unfold lS
  (repeat' split) <;> first | exact Nat.le_succ _ | exact aLb s b false
theorem aHk {l : List Body} {k : Nat} {x : Body} (h : l[k]? = some x) : vW (l.take (k + 1)) = (lS (vW (l.take k)) x).1 := by
  unfold vW
  rw [cI h, List.foldl_append]
  rfl
theorem aNp (l : List Body) : (vW l).length ≤ l.length := by
  have key : ∀ (l s : List Body), (l.foldl (fun s b => (lS s b).1) s).length ≤ s.length + l.length := by
    intro l
    induction l with
    | nil => intro s; simp
    | cons b l ih =>
      intro s
      have h1 := ih (lS s b).1
      have h2 := aLg s b
      simp only [List.foldl_cons, List.length_cons]
      omega
  have := key l []
  rw [List.length_nil, Nat.zero_add] at this
  exact this
structure Rel (m s : List Body) : Prop where
  perm : s.Perm m
  sorted : bK s
theorem Rel.nil : Rel [] [] := ⟨List.Perm.refl _, by simp [bK]⟩
theorem bK.unique {s t : List Body} (h : bK s) (h' : bK t) (p : s.Perm t) : s = t :=
  List.Perm.eq_of_pairwise (le := fun (a b : Body) => a.key < b.key) (fun a b _ _ h1 h2 => by omega) h h' p
theorem bK.keys {s : List Body} (h : bK s) : fR s := by
  unfold fR List.Nodup
  rw [List.pairwise_map]
  exact h.imp (fun h => by omega)
theorem Rel.keys {m s : List Body} (R : Rel m s) : fR m := R.sorted.keys.perm R.perm.symm
theorem Rel.find {m s : List Body} (R : Rel m s) (k : Int) : cD k s < 0 ↔ cD k m < 0 := by
  rw [jW, jW]
  exact ⟨fun h b hb => h b (R.perm.mem_iff.2 hb), fun h b hb => h b (R.perm.mem_iff.1 hb)⟩
theorem aIv {k : Int} {s : List Body} (h : cD k s < 0) : mL k s = s := List.filter_eq_self.2 fun x hx => by simpa using jW.1 h x hx
theorem Rel.put {m s : List Body} (R : Rel m s) (b : Body) {m' : List Body} (h : m'.Perm (b :: mL b.key m)) : Rel m' (yP s b false) := by
  rw [aHa]
  exact ⟨((nR b s).trans ((R.perm.filter _).cons b)).trans h.symm, R.sorted.put⟩
theorem Rel.add {m s : List Body} (R : Rel m s) (b : Body) : Rel (rH m b).1 (lS s b).1 ∧ (lS s b).2 = (rH m b).2 := by
  unfold rH lS
  have hf := R.find b.key
  have hl := R.perm.length_eq
  by_cases h1 : check b ≠ 0
  · rw [if_pos h1, if_pos h1]; exact ⟨R, rfl⟩
  · rw [if_neg h1, if_neg h1]
    by_cases h2 : 0 ≤ cD b.key m
    · have h2' : 0 ≤ cD b.key s := by omega
      rw [if_pos h2, if_pos h2']; exact ⟨R, rfl⟩
    · have h2' : ¬ 0 ≤ cD b.key s := by omega
      rw [if_neg h2, if_neg h2', hl]
      by_cases h3 : 4096 ≤ m.length
      · rw [if_pos h3, if_pos h3]; exact ⟨R, rfl⟩
      · rw [if_neg h3, if_neg h3]
        refine ⟨R.put b ?_, rfl⟩
        rw [aIv (by omega)]
        exact List.perm_append_singleton b m
theorem aFd {m : List Body} (h : fR m) {i : Nat} {b : Body} (hi : m[i]? = some b) : m.eraseIdx i = mL b.key m := by
  have e : m = m.take i ++ b :: m.drop (i + 1) := by
    have hlt := (List.getElem?_eq_some_iff.1 hi).1
    have hb : m[i] = b := (List.getElem?_eq_some_iff.1 hi).2
    rw [← hb, ← List.drop_eq_getElem_cons hlt, List.take_append_drop]
  have hne := wU h hi
  rw [List.eraseIdx_eq_take_drop_succ] at hne ⊢
  conv => rhs; rw [e]
  unfold mL
  rw [List.filter_append, List.filter_cons]
  simp only [ne_eq, not_true_eq_false, decide_false, Bool.false_eq_true, if_false]
  rw [List.filter_eq_self.2 (fun x hx => by simpa using hne x (List.mem_append_left _ hx)), List.filter_eq_self.2 (fun x hx => by simpa using hne x (List.mem_append_right _ hx))]
theorem aKt {m : List Body} {i : Nat} {x : Body} (hi : i < m.length) : (m.set i x).Perm (x :: m.eraseIdx i) := by
  rw [List.set_eq_take_append_cons_drop, if_pos hi, List.eraseIdx_eq_take_drop_succ]
  exact List.perm_middle
theorem Rel.set {m s : List Body} (R : Rel m s) (b : Body) : Rel (aWh m b).1 (aVn s b).1 ∧ (aVn s b).2 = (aWh m b).2 := by
  unfold aWh aVn
  have hf := R.find b.key
  by_cases h1 : check b ≠ 0
  · rw [if_pos h1, if_pos h1]; exact ⟨R, rfl⟩
  · rw [if_neg h1, if_neg h1]
    by_cases h : cD b.key m < 0
    · rw [if_pos h, if_pos (hf.2 h)]; exact ⟨R, rfl⟩
    · rw [if_neg h, if_neg (fun h' => h (hf.1 h'))]
      refine ⟨?_, rfl⟩
      rcases dW b.key m with ⟨h1, _⟩ | ⟨i, c, h1, h2, h3⟩
      · omega
      · rw [h3, Int.toNat_natCast]
        have hlt := (List.getElem?_eq_some_iff.1 h1).1
        refine R.put b ((aKt hlt).trans ?_)
        rw [aFd R.keys h1, h2]
theorem Rel.get {m s : List Body} (R : Rel m s) (k : Int) : (cD k s < 0 ∧ aNw m k = (aGp 0, 11)) ∨ ∃ (i : Nat) (b : Body), cD k s = (i : Int) ∧ s[i]? = some b ∧ aNw m k = (b, 0) := by
  rcases dW k s with ⟨h1, h2⟩ | ⟨i, b, h1, h2, h3⟩
  · have hm : cD k m < 0 := (R.find k).1 (by omega)
    refine .inl ⟨by omega, ?_⟩
    unfold aNw
    rw [if_pos hm]
    rfl
  · refine .inr ⟨i, b, h3, h1, ?_⟩
    have hb : b ∈ m := R.perm.mem_iff.1 (List.mem_of_getElem? h1)
    obtain ⟨j, hj⟩ := List.getElem?_of_mem hb
    have := vE R.keys hj
    rw [h2] at this
    exact aJh this hj
theorem aAw {a b : Int} : mO a b < 0 ↔ a < b := by unfold mO; (repeat' split) <;> omega
def aEl (b : Body) : List Body → List Body
  | [] => [b]
  | x :: l => if b.key ≤ x.key then b :: x :: l else x :: aEl b l
def kB (m : List Body) : List Body := m.foldr aEl []
theorem qY (b : Body) : ∀ l : List Body, (aEl b l).Perm (b :: l)
  | [] => List.Perm.refl _
  | x :: l => by
    unfold aEl
    split
    · exact List.Perm.refl _
    · exact ((qY b l).cons x).trans (List.Perm.swap b x l)
theorem gL : ∀ m : List Body, (kB m).Perm m
  | [] => List.Perm.refl _
  | b :: m => (qY b (kB m)).trans ((gL m).cons b)
def Up (s : List Body) : Prop := s.Pairwise (fun a b => a.key ≤ b.key)
theorem aGu (b : Body) : ∀ {l : List Body}, Up l → Up (aEl b l)
  | [], _ => by simp [aEl, Up]
  | x :: l, h => by
    unfold aEl
    have hx : ∀ y ∈ l, x.key ≤ y.key := (List.pairwise_cons.1 h).1
    split
    · rename_i hb
      refine List.pairwise_cons.2 ⟨fun y hy => ?_, h⟩
      rcases List.mem_cons.1 hy with rfl | hy
      · exact hb
      · have := hx y hy; omega
    · refine List.pairwise_cons.2 ⟨fun y hy => ?_, aGu b (List.pairwise_cons.1 h).2⟩
      have := (qY b l).mem_iff.1 hy
      rcases List.mem_cons.1 this with rfl | h1
      · omega
      · exact hx y h1
theorem aBi : ∀ m : List Body, Up (kB m)
  | [] => by simp [kB, Up]
  | b :: m => aGu b (aBi m)
theorem aJm {s : List Body} (h : Up s) (hk : fR s) : bK s := by
  unfold Up at h
  unfold fR List.Nodup at hk
  rw [List.pairwise_map] at hk
  exact (List.Pairwise.and h hk).imp (fun ⟨h1, h2⟩ => by omega)
theorem wW {m : List Body} (hk : fR m) : Rel m (kB m) := ⟨gL m, aJm (aBi m) (hk.perm (gL m))⟩
theorem Rel.eq {m s : List Body} (R : Rel m s) : kB m = s := (wW R.keys).sorted.unique R.sorted ((gL m).trans R.perm.symm)
theorem lZ (m : List Body) : ∀ y ∈ m.map aI, y.length = 10 := by
  intro y hy
  obtain ⟨b, _, rfl⟩ := List.mem_map.1 hy
  rfl
end Go.Bil
namespace Go.Bil
structure InB (b : Body) : Prop where
  key : 0 ≤ b.key ∧ b.key ≤ 4294967295
  radius : -2147483648 ≤ b.radius ∧ b.radius ≤ 2147483647
  ax : -2147483648 ≤ b.ax ∧ b.ax ≤ 2147483647
  ay : -2147483648 ≤ b.ay ∧ b.ay ≤ 2147483647
  mass : -2147483648 ≤ b.mass ∧ b.mass ≤ 2147483647
  bounce : -2147483648 ≤ b.bounce ∧ b.bounce ≤ 2147483647
  px : -2147483648 ≤ b.px ∧ b.px ≤ 2147483647
  py : -2147483648 ≤ b.py ∧ b.py ≤ 2147483647
  vx : -2147483648 ≤ b.vx ∧ b.vx ≤ 2147483647
  vy : -2147483648 ≤ b.vy ∧ b.vy ≤ 2147483647
theorem aUt (l : List Value) (h : iG [.u32, .i32, .i32, .i32, .i32, .i32, .i32, .i32, .i32, .i32] l) : ∃ b, l = aI b ∧ InB b := by
  obtain ⟨z0, l0, rfl, w0, h0⟩ := eI h
  obtain ⟨z1, l1, rfl, w1, h1⟩ := eI h0
  obtain ⟨z2, l2, rfl, w2, h2⟩ := eI h1
  obtain ⟨z3, l3, rfl, w3, h3⟩ := eI h2
  obtain ⟨z4, l4, rfl, w4, h4⟩ := eI h3
  obtain ⟨z5, l5, rfl, w5, h5⟩ := eI h4
  obtain ⟨z6, l6, rfl, w6, h6⟩ := eI h5
  obtain ⟨z7, l7, rfl, w7, h7⟩ := eI h6
  obtain ⟨z8, l8, rfl, w8, h8⟩ := eI h7
  obtain ⟨z9, l9, rfl, w9, h9⟩ := eI h8
  obtain rfl := aAj h9
  exact ⟨⟨z0, z1, z2, z3, z4, z5, z6, z7, z8, z9⟩, rfl, ⟨w0, w1, w2, w3, w4, w5, w6, w7, w8, w9⟩⟩
end Go.Bil

namespace Go.Bil
def pK (l : List Body) : List Body := l.foldl (fun m b => (rH m b).1) []
theorem aEi {l : List Body} {k : Nat} {x : Body} (h : l[k]? = some x) : pK (l.take (k + 1)) = (rH (pK (l.take k)) x).1 := by
  unfold pK
  rw [cI h, List.foldl_append]
  rfl
theorem aKb : ∀ l : List Body, Rel (pK l) (vW l) := by
  have key : ∀ (l m s : List Body), Rel m s → Rel (l.foldl (fun m b => (rH m b).1) m) (l.foldl (fun s b => (lS s b).1) s) := by
    intro l
    induction l with
    | nil => intro m s h; exact h
    | cons b l ih => intro m s h; exact ih _ _ (h.add b).1
  exact fun l => key l [] [] Rel.nil
def rQ (l : List Body) : List Body := l.filter (fun b => decide (check b = 0))
theorem aLd {m : List Body} {x : Body} (hf : ∀ b ∈ m, b.key ≠ x.key) (hl : m.length < 4096) : rH (rQ m) x = (rQ (m ++ [x]), check x) := by
  have hle : (rQ m).length ≤ m.length := List.length_filter_le _ _
  unfold rH
  by_cases h : check x = 0
  · rw [if_neg (by omega), if_neg (by
      have : cD x.key (rQ m) < 0 := jW.2 fun b hb => hf b (List.mem_filter.1 hb).1
      omega), if_neg (by omega), h]
    simp [rQ, List.filter_append, h]
  · rw [if_pos h]
    simp [rQ, List.filter_append, h]
theorem aBy {l : List Body} (h : fR l) {k : Nat} {x : Body} (hx : l[k]? = some x) : ∀ b ∈ l.take k, b.key ≠ x.key := by
  intro b hb e
  obtain ⟨j, hj⟩ := List.getElem?_of_mem hb
  rw [List.getElem?_take] at hj
  split at hj
  · rename_i hlt
    have := h.inj hj hx e
    omega
  · cases hj
theorem uT {l : List Body} (h : fR l) (hl : l.length ≤ 4096) : ∀ k, k ≤ l.length → pK (l.take k) = rQ (l.take k)
  | 0, _ => by simp [pK, rQ]
  | k + 1, hk => by
    obtain ⟨x, hx⟩ := cQ (xs := l) (k := k) rfl (by omega)
    rw [aEi hx, uT h hl k (by omega), aLd (aBy h hx) (by rw [List.length_take]; omega), cI hx]
end Go.Bil
namespace Go.Bil
structure StepI where
  kind : Int
  body : Body
instance : Inhabited StepI := ⟨⟨0, aGp 0⟩⟩
end Go.Bil

namespace Go.Bil
def gY : List Body → Int
  | [] => 0
  | b :: l => if check b ≠ 0 then check b else gY l
def iO (xs : List Body) : Int := if 4096 < xs.length then 12 else gY xs
theorem kU : ∀ {xs : List Body}, (∀ (j : Nat) (c : Body), xs[j]? = some c → check c = 0) → gY xs = 0
  | [], _ => rfl
  | b :: l, h => by
    unfold gY
    rw [if_neg (by have := h 0 b (by simp); omega)]
    exact kU fun j c hj => h (j + 1) c (by simpa using hj)
theorem rU : ∀ {xs : List Body} {k : Nat} {b : Body}, xs[k]? = some b → check b ≠ 0 → (∀ (j : Nat) (c : Body), j < k → xs[j]? = some c → check c = 0) → gY xs = check b
  | [], _, _, h, _, _ => by simp at h
  | a :: l, 0, b, h, hb, _ => by
    simp only [List.getElem?_cons_zero, Option.some.injEq] at h
    subst h
    unfold gY
    rw [if_pos hb]
  | a :: l, k + 1, b, h, hb, hn => by
    unfold gY
    rw [if_neg (by have := hn 0 a (by omega) (by simp); omega)]
    exact rU (by simpa using h) hb fun j c hj hc => hn (j + 1) c (by omega) (by simpa using hc)
theorem qG : ∀ {xs : List Body}, gY xs = 0 → ∀ b ∈ xs, check b = 0
  | [], _, b, hb => by simp at hb
  | a :: l, h, b, hb => by
    unfold gY at h
    by_cases ha : check a = 0
    · rw [if_neg (by omega)] at h
      rcases List.mem_cons.1 hb with rfl | hb
      · exact ha
      · exact qG h b hb
    · rw [if_pos ha] at h; exact absurd h ha
theorem uB {xs : List Body} (h : iO xs = 0) : xs.length ≤ 4096 ∧ ∀ b ∈ xs, check b = 0 := by
  unfold iO at h
  split at h
  · omega
  · exact ⟨by omega, qG h⟩
theorem aKz {xs : List Body} (hl : xs.length ≤ 4096) (h : ∀ b ∈ xs, check b = 0) : iO xs = 0 := by
  unfold iO
  rw [if_neg (by omega)]
  exact kU fun j c hj => h c (List.mem_of_getElem? hj)
def aTq : List Body → Bool
  | x :: y :: l => decide (x.key < y.key) && aTq (y :: l)
  | _ => true
theorem kG : ∀ {xs : List Body}, aTq xs = true → bK xs
  | [], _ => by simp [bK]
  | [_], _ => by simp [bK]
  | x :: y :: l, h => by
    unfold aTq at h
    rw [Bool.and_eq_true, decide_eq_true_eq] at h
    have ih := kG h.2
    refine List.pairwise_cons.2 ⟨fun z hz => ?_, ih⟩
    rcases List.mem_cons.1 hz with rfl | hz
    · exact h.1
    · have := (List.pairwise_cons.1 ih).1 z hz; have := h.1; omega
instance (m : List Body) : Decidable (fR m) := by unfold fR; infer_instance
def jJ (xs : List Body) : List Body × Int := if iO xs ≠ 0 then ([], iO xs) else if fR xs then (kB xs, 0) else ([], 10)
theorem aCb : ∀ (l m : List Body), ∃ t, List.Sublist t l ∧ l.foldl (fun m b => (rH m b).1) m = m ++ t
  | [], m => ⟨[], by simp, by simp⟩
  | b :: l, m => by
    simp only [List.foldl_cons]
    obtain ⟨t, h1, h2⟩ := aCb l (rH m b).1
    have hb : (rH m b).1 = m ∨ (rH m b).1 = m ++ [b] := by
      unfold rH
      (repeat' split) <;> simp
    rcases hb with hb | hb
    · exact ⟨t, h1.cons b, by rw [h2, hb]⟩
    · exact ⟨b :: t, h1.cons_cons b, by rw [h2, hb]; simp⟩
theorem aKc {xs : List Body} (he : iO xs = 0) : (fR xs → vW xs = kB xs) ∧ ((vW xs).length < xs.length ↔ ¬ fR xs) := by
  obtain ⟨h1, h2⟩ := uB he
  have hrel := aKb xs
  have hlen := hrel.perm.length_eq
  obtain ⟨t, ht1, ht2⟩ := aCb xs []
  have ht : pK xs = t := by simpa [pK] using ht2
  have hkeys : fR xs → pK xs = xs := fun hk => by
    have := uT hk h1 xs.length (Nat.le_refl _)
    rw [List.take_length] at this
    rw [this]
    exact List.filter_eq_self.2 fun b hb => by simpa using h2 b hb
  refine ⟨fun hk => ?_, ?_, ?_⟩
  · have := hrel.eq
    rw [hkeys hk] at this
    exact this.symm
  · intro hl hk
    rw [hlen, hkeys hk] at hl
    omega
  · intro hk
    rw [hlen, ht]
    rcases Nat.lt_or_ge t.length xs.length with h | h
    · exact h
    · exfalso
      have : t = xs := ht1.eq_of_length_le h
      exact hk (by rw [← this, ← ht]; exact hrel.keys)
def sB (key : Int) : List Body → Nat
  | [] => 0
  | b :: l => (if b.key < key then 1 else 0) + sB key l
theorem pN {key : Int} : ∀ {xs : List Body} {k : Nat}, k ≤ xs.length → (∀ (j : Nat) (c : Body), j < k → xs[j]? = some c → c.key < key) → (∀ (j : Nat) (c : Body), k ≤ j → xs[j]? = some c → ¬ c.key < key) → sB key xs = k
  | [], k, hk, _, _ => by simp at hk; simp [sB, hk]
  | b :: l, 0, _, _, h2 => by
    unfold sB
    rw [if_neg (h2 0 b (Nat.le_refl _) (by simp)), pN (k := 0) (by omega) (fun j c hj => by omega) (fun j c _ hc => h2 (j + 1) c (by omega) (by simpa using hc))]
  | b :: l, k + 1, hk, h1, h2 => by
    unfold sB
    rw [if_pos (h1 0 b (by omega) (by simp)), pN (k := k) (by simpa using hk) (fun j c hj hc => h1 (j + 1) c (by omega) (by simpa using hc)) (fun j c hj hc => h2 (j + 1) c (by omega) (by simpa using hc))]
    omega
def gI (k : Int) : List Value := [.int .u32 k]
end Go.Bil
namespace Go.Bil
theorem sJ {xs : List Body} (h : bK xs) {p q : Nat} {a b : Body} (hpq : p ≤ q) (ha : xs[p]? = some a) (hb : xs[q]? = some b) : a.key ≤ b.key := by
  by_cases e : p = q
  · subst e
    rw [ha] at hb
    injection hb with hb
    rw [hb]; exact Int.le_refl _
  · have hi := List.getElem?_eq_some_iff.1 ha
    have hj := List.getElem?_eq_some_iff.1 hb
    have := List.pairwise_iff_getElem.1 h p q hi.1 hj.1 (by omega)
    rw [hi.2, hj.2] at this
    omega
theorem aYm (i j : Nat) : ((i : Int) + (j : Int)).fdiv (2 ^ (min (1 : Int).toNat IntKind.u64.bits)) = (((i + j) / 2 : Nat) : Int) := by
  have e : (2 : Int) ^ (min (1 : Int).toNat IntKind.u64.bits) = 2 := by decide
  rw [e, Int.fdiv_eq_ediv_of_nonneg _ (by omega)]
  omega
theorem sQ {a b a' b' : Value} (h1 : a = a') (h2 : b = b') : Value.tuple #[a, b] = Value.tuple #[a', b'] := by rw [h1, h2]
theorem aJk {a b : Int} : mO a b = 0 ↔ a = b := by unfold mO; (repeat' split) <;> omega
theorem aHu {key : Int} {xs : List Body} (hs : bK xs) {i : Nat} {b : Body} (hb : xs[i]? = some b) (h1 : ∀ (j : Nat) (c : Body), j < i → xs[j]? = some c → c.key < key) (h2 : ∀ (j : Nat) (c : Body), i ≤ j → xs[j]? = some c → ¬ c.key < key) : mO b.key key = 0 ↔ 0 ≤ cD key xs := by
  rw [aJk]
  constructor
  · intro e
    rcases dW key xs with ⟨_, h⟩ | ⟨_, _, _, _, h⟩
    · exact absurd e (h b (List.mem_of_getElem? hb))
    · omega
  · intro h
    rcases dW key xs with ⟨h', _⟩ | ⟨j, c, hc, hk, _⟩
    · omega
    · have hij : i ≤ j := by
        rcases Nat.lt_or_ge j i with hlt | hge
        · have := h1 j c hlt hc; omega
        · exact hge
      have := sJ hs hij hb hc
      have := h2 i b (Nat.le_refl _) hb
      omega
theorem aEg {key : Int} {xs : List Body} (h1 : ∀ (j : Nat) (c : Body), j < xs.length → xs[j]? = some c → c.key < key) : ¬ 0 ≤ cD key xs := by
  intro h
  rcases dW key xs with ⟨h', _⟩ | ⟨j, c, hc, hk, _⟩
  · omega
  · have := h1 j c (List.getElem?_eq_some_iff.1 hc).1 hc
    omega
end Go.Bil
namespace Go.Bil
end Go.Bil
namespace Go.Bil
end Go.Bil
namespace Go.Bil
theorem aFf (k : Int) : ∀ y ∈ [gI k], y.length = 1 ∧ ∀ u ∈ y, one u = true := by
  intro y hy
  simp only [List.mem_singleton] at hy
  subst hy
  exact ⟨rfl, aV rfl⟩
end Go.Bil
namespace Go.Bil
structure Mg (xs ys : List Body) (i k : Nat) : Prop where
  sx : bK xs
  sy : bK ys
  yx : ∀ (p : Nat) (a b : Body), p < k → ys[p]? = some a → xs[i]? = some b → a.key < b.key
  xy : ∀ (p : Nat) (a b : Body), p < i → xs[p]? = some a → ys[k]? = some b → a.key < b.key
theorem Mg.swap {xs ys : List Body} {i k : Nat} (h : Mg xs ys i k) : Mg ys xs k i := ⟨h.sy, h.sx, h.xy, h.yx⟩
theorem dB {xs : List Body} (h : bK xs) {p q : Nat} {a b : Body} (hpq : p < q) (ha : xs[p]? = some a) (hb : xs[q]? = some b) : a.key < b.key := by
  have hi := List.getElem?_eq_some_iff.1 ha
  have hj := List.getElem?_eq_some_iff.1 hb
  have := List.pairwise_iff_getElem.1 h p q hi.1 hj.1 hpq
  rwa [hi.2, hj.2] at this
theorem Mg.x {xs ys : List Body} {i k : Nat} {a : Body} (h : Mg xs ys i k) (ha : xs[i]? = some a) (hb : ∀ b, ys[k]? = some b → a.key < b.key) : Mg xs ys (i + 1) k ∧ cD a.key ys < 0 := by
  refine ⟨⟨h.sx, h.sy, fun p y x hp hy hx => ?_, fun p x y hp hx hy => ?_⟩, jW.2 fun y hy => ?_⟩
  · have := h.yx p y a hp hy ha
    have := dB h.sx (Nat.lt_succ_self i) ha hx
    omega
  · by_cases e : p = i
    · subst e
      rw [ha] at hx
      injection hx with hx
      subst hx
      exact hb y hy
    · exact h.xy p x y (by omega) hx hy
  · obtain ⟨q, hq⟩ := List.getElem?_of_mem hy
    rcases Nat.lt_or_ge q k with hlt | hge
    · have := h.yx q y a hlt hq ha; omega
    · obtain ⟨b, hbk⟩ := cQ (xs := ys) (k := k) rfl (by have := (List.getElem?_eq_some_iff.1 hq).1; omega)
      have h1 := hb b hbk
      have h2 := sJ h.sy hge hbk hq
      omega
theorem Mg.y {xs ys : List Body} {i k : Nat} {b : Body} (h : Mg xs ys i k) (hb : ys[k]? = some b) (ha : ∀ a, xs[i]? = some a → b.key < a.key) : Mg xs ys i (k + 1) ∧ cD b.key xs < 0 := by
  obtain ⟨h1, h2⟩ := h.swap.x hb ha
  exact ⟨h1.swap, h2⟩
theorem Mg.both {xs ys : List Body} {i k : Nat} {a b : Body} (h : Mg xs ys i k) (ha : xs[i]? = some a) (hb : ys[k]? = some b) (hk : a.key = b.key) : Mg xs ys (i + 1) (k + 1) ∧ cD a.key ys = (k : Int) ∧ cD b.key xs = (i : Int) := by
  refine ⟨⟨h.sx, h.sy, fun p y x hp hy hx => ?_, fun p x y hp hx hy => ?_⟩, ?_, ?_⟩
  · have h1 := dB h.sx (Nat.lt_succ_self i) ha hx
    have h2 := sJ h.sy (show p ≤ k by omega) hy hb
    omega
  · have h1 := dB h.sy (Nat.lt_succ_self k) hb hy
    have h2 := sJ h.sx (show p ≤ i by omega) hx ha
    omega
  · exact pG hb hk.symm fun j c hj hc => by have := dB h.sy hj hc hb; omega
  · exact pG ha hk fun j c hj hc => by have := dB h.sx hj hc ha; omega
end Go.Bil
namespace Go.Bil
end Go.Bil
namespace Go.Bil
end Go.Bil
namespace Go.Bil
end Go.Bil
namespace Go.Bil
theorem aMl {xs : List Body} (h : (jJ xs).2 = 0) : fR xs ∧ iO xs = 0 ∧ (jJ xs).1 = kB xs := by
  unfold jJ at *
  by_cases h1 : iO xs = 0
  · rw [if_neg (by omega)] at h ⊢
    by_cases h2 : fR xs
    · rw [if_pos h2]; exact ⟨h2, h1, rfl⟩
    · rw [if_neg h2] at h; simp at h
  · rw [if_pos h1] at h; exact absurd h h1
theorem aKh {xs : List Body} (hk : fR xs) : bK (kB xs) := (wW hk).sorted
end Go.Bil
namespace Go.Bil
end Go.Bil
namespace Go.Bil
end Go.Bil

namespace Go.Bil
theorem aJo {xs : List Body} (he : iO xs = 0) : iO (kB xs) = 0 := by
  obtain ⟨h1, h2⟩ := uB he
  exact aKz (by rw [(gL xs).length_eq]; exact h1) fun b hb => h2 b ((gL xs).mem_iff.1 hb)
theorem aIo (xs : List Body) : (jJ xs).1.length ≤ xs.length := by
  unfold jJ
  split
  · simp
  · split
    · simpa using Nat.le_of_eq (gL xs).length_eq
    · simp
end Go.Bil

namespace Go.Bil
structure Bx where
  x0 : Int
  y0 : Int
  x1 : Int
  y1 : Int
  deriving DecidableEq, Inhabited
def cW (a : Bx) : List Value := [.int .i32 a.x0, .int .i32 a.y0, .int .i32 a.x1, .int .i32 a.y1]
def aDa (b : Body) : Int := max b.ax (-b.ax) + b.radius
def aBh (b : Body) : Int := max b.ay (-b.ay) + b.radius
def fB (b : Body) : Bx := ⟨b.px - aDa b, b.py - aBh b, b.px + aDa b, b.py + aBh b⟩
abbrev fM (a : Bx) : Prop := a.x1 < a.x0 ∨ a.y1 < a.y0
def iA : Bx := ⟨1, 0, 0, 0⟩
def xN (a b : Bx) : Bx := if fM ⟨max a.x0 b.x0, max a.y0 b.y0, min a.x1 b.x1, min a.y1 b.y1⟩ then iA else ⟨max a.x0 b.x0, max a.y0 b.y0, min a.x1 b.x1, min a.y1 b.y1⟩
abbrev ovl (a b : Bx) : Prop := (a.x0 ≤ a.x1 ∧ a.y0 ≤ a.y1) ∧ (b.x0 ≤ b.x1 ∧ b.y0 ≤ b.y1) ∧ (a.x0 ≤ b.x1 ∧ b.x0 ≤ a.x1 ∧ a.y0 ≤ b.y1 ∧ b.y0 ≤ a.y1)
theorem aNi (a b : Bx) : ¬ fM (xN a b) ↔ ovl a b := by
  unfold xN
  split
  · rename_i h
    unfold fM at h
    simp only [fM, iA, ovl]
    simp only at h
    omega
  · rename_i h
    unfold fM at h
    simp only [fM, ovl]
    simp only at h
    omega
structure Okb (b : Body) : Prop where
  r : 4096 ≤ b.radius ∧ b.radius ≤ 4194304
  a : -4194304 ≤ b.ax ∧ b.ax ≤ 4194304 ∧ -4194304 ≤ b.ay ∧ b.ay ≤ 4194304
  m : 0 ≤ b.mass ∧ b.mass ≤ 1048576
  c : 0 ≤ b.bounce ∧ b.bounce ≤ 65536
  p : -1073741824 ≤ b.px ∧ b.px ≤ 1073741824 ∧ -1073741824 ≤ b.py ∧ b.py ≤ 1073741824
  v : -16777216 ≤ b.vx ∧ b.vx ≤ 16777216 ∧ -16777216 ≤ b.vy ∧ b.vy ≤ 16777216
theorem pD {b : Body} (h : check b = 0) : Okb b := by
  by_cases h1 : 4096 ≤ b.radius ∧ b.radius ≤ 4194304
  · by_cases h2 : -4194304 ≤ b.ax ∧ b.ax ≤ 4194304 ∧ -4194304 ≤ b.ay ∧ b.ay ≤ 4194304
    · by_cases h3 : 0 ≤ b.mass ∧ b.mass ≤ 1048576
      · by_cases h4 : 0 ≤ b.bounce ∧ b.bounce ≤ 65536
        · by_cases h5 : -1073741824 ≤ b.px ∧ b.px ≤ 1073741824 ∧ -1073741824 ≤ b.py ∧ b.py ≤ 1073741824
          · by_cases h6 : -16777216 ≤ b.vx ∧ b.vx ≤ 16777216 ∧ -16777216 ≤ b.vy ∧ b.vy ≤ 16777216
            · exact ⟨h1, h2, h3, h4, h5, h6⟩
            · rw [aRd b h1 h2 h3 h4 h5 h6] at h; omega
          · rw [aPo b h1 h2 h3 h4 h5] at h; omega
        · rw [aRo b h1 h2 h3 h4] at h; omega
      · rw [aQa b h1 h2 h3] at h; omega
    · rw [aRa b h1 h2] at h; omega
  · rw [aQy b h1] at h; omega
theorem aOc {b : Body} (h : Okb b) : 4096 ≤ aDa b ∧ aDa b ≤ 8388608 ∧ 4096 ≤ aBh b ∧ aBh b ≤ 8388608 := by
  have := h.r
  have := h.a
  unfold aDa aBh
  omega
structure Okx (a : Bx) : Prop where
  x0 : -2147483648 ≤ a.x0 ∧ a.x0 ≤ 2147483647
  y0 : -2147483648 ≤ a.y0 ∧ a.y0 ≤ 2147483647
  x1 : -2147483648 ≤ a.x1 ∧ a.x1 ≤ 2147483647
  y1 : -2147483648 ≤ a.y1 ∧ a.y1 ≤ 2147483647
theorem aTc {b : Body} (h : Okb b) : Okx (fB b) := by
  have h1 := aOc h
  have h2 := h.p
  constructor <;> simp only [fB] <;> omega
end Go.Bil

namespace Go.Bil
def bU (c : Int × Int) : List Value := [.int .i32 c.1, .int .i32 c.2]
def jP (x : Int) : Int := x.fdiv 4194304
theorem aSu (x : Int) : x.fdiv (2 ^ (min (22 : Int).toNat IntKind.i32.bits)) = jP x := rfl
theorem zW (x : Int) : jP x = x / 4194304 := by unfold jP; exact Int.fdiv_eq_ediv_of_nonneg x (by decide)
theorem mA {x : Int} (h0 : -2147483648 ≤ x) (h1 : x ≤ 2147483647) : -512 ≤ jP x ∧ jP x ≤ 511 := by rw [zW]; omega
theorem gQ {x y : Int} (h : x ≤ y) : jP x ≤ jP y := by rw [zW, zW]; omega
def loC (a : Bx) : Int × Int := if fM a then (0, 0) else (jP a.x0, jP a.y0)
def hiC (a : Bx) : Int × Int := if fM a then (0, 0) else (jP a.x1, jP a.y1)
def nX (lo hi : Int × Int) : Nat := (hi.1 - lo.1 + 1).toNat
def nY (lo hi : Int × Int) : Nat := (hi.2 - lo.2 + 1).toNat
def vB (lo : Int × Int) (i j : Nat) : List (Int × Int) := (List.range i).map (fun (p : Nat) => (lo.1 + (p : Int), lo.2 + (j : Int)))
def kP (lo hi : Int × Int) (j : Nat) : List (Int × Int) := (List.range j).flatMap (fun q => vB lo (nX lo hi) q)
def rB (ok : Bool) (lo hi : Int × Int) : List (Int × Int) := if ok then kP lo hi (nY lo hi) else []
def eZ (a : Bx) : List (Int × Int) := rB (decide (¬ fM a)) (loC a) (hiC a)
theorem aCf (lo : Int × Int) (i j : Nat) : (vB lo i j).length = i := by simp [vB]
theorem aHr (lo : Int × Int) (i j : Nat) : vB lo (i + 1) j = vB lo i j ++ [(lo.1 + (i : Int), lo.2 + (j : Int))] := by simp [vB, List.range_succ]
theorem uY (lo hi : Int × Int) (j : Nat) : kP lo hi (j + 1) = kP lo hi j ++ vB lo (nX lo hi) j := by simp [kP, List.range_succ]
theorem rN (lo hi : Int × Int) : ∀ j, (kP lo hi j).length = j * nX lo hi
  | 0 => by simp [kP]
  | j + 1 => by rw [uY, List.length_append, rN lo hi j, aCf, Nat.add_mul, Nat.one_mul]
theorem aLk {lo hi : Int × Int} {i j : Nat} (hx : nX lo hi ≤ 1024) (hj : j < 1024) (hi' : i < nX lo hi) : (kP lo hi j).length + i < 1048576 := by
  rw [rN]
  have : j * nX lo hi ≤ 1023 * 1024 := Nat.mul_le_mul (by omega) hx
  omega
theorem aNf {lo hi : Int × Int} {j : Nat} (hx : nX lo hi ≤ 1024) (hj : j ≤ 1024) : (kP lo hi j).length ≤ 1048576 := by
  rw [rN]
  exact Nat.mul_le_mul hj hx
theorem aIk {lo hi : Int × Int} {n : Nat} {c : Int × Int} : c ∈ kP lo hi n ↔ ∃ q p : Nat, q < n ∧ p < nX lo hi ∧ c = (lo.1 + (p : Int), lo.2 + (q : Int)) := by
  simp only [kP, vB, List.mem_flatMap, List.mem_range, List.mem_map]
  constructor
  · rintro ⟨q, hq, p, hp, rfl⟩; exact ⟨q, p, hq, hp, rfl⟩
  · rintro ⟨q, p, hq, hp, rfl⟩; exact ⟨q, hq, p, hp, rfl⟩
theorem tV {a : Bx} {c : Int × Int} : c ∈ eZ a ↔ ¬ fM a ∧ jP a.x0 ≤ c.1 ∧ c.1 ≤ jP a.x1 ∧ jP a.y0 ≤ c.2 ∧ c.2 ≤ jP a.y1 := by
  unfold eZ rB
  by_cases h : fM a
  · simp [h]
  · rw [if_pos (by simpa using h), aIk]
    simp only [loC, hiC, if_neg h, nX, nY]
    constructor
    · rintro ⟨q, p, hq, hp, rfl⟩
      refine ⟨h, ?_⟩
      simp only
      omega
    · rintro ⟨_, h1, h2, h3, h4⟩
      refine ⟨(c.2 - jP a.y0).toNat, (c.1 - jP a.x0).toNat, by omega, by omega, ?_⟩
      apply Prod.ext <;> simp only <;> omega
structure Okc (c : Int × Int) : Prop where
  x : -512 ≤ c.1 ∧ c.1 ≤ 511
  y : -512 ≤ c.2 ∧ c.2 ≤ 511
theorem aEh {a : Bx} (h : Okx a) : Okc (loC a) := by
  unfold loC
  split
  · exact ⟨by decide, by decide⟩
  · exact ⟨mA h.x0.1 h.x0.2, mA h.y0.1 h.y0.2⟩
theorem aFg {a : Bx} (h : Okx a) : Okc (hiC a) := by
  unfold hiC
  split
  · exact ⟨by decide, by decide⟩
  · exact ⟨mA h.x1.1 h.x1.2, mA h.y1.1 h.y1.2⟩
theorem aSn {lo hi : Int × Int} (h1 : Okc lo) (h2 : Okc hi) : nX lo hi ≤ 1024 := by
  have := h1.x; have := h2.x
  unfold nX
  omega
theorem aSy {lo hi : Int × Int} (h1 : Okc lo) (h2 : Okc hi) : nY lo hi ≤ 1024 := by
  have := h1.y; have := h2.y
  unfold nY
  omega
theorem aDq {a : Bx} (h : Okx a) : (eZ a).length ≤ 1048576 := by
  unfold eZ rB
  split
  · exact aNf (aSn (aEh h) (aFg h)) (aSy (aEh h) (aFg h))
  · simp
theorem aOr {a b : Bx} (h : ovl a b) : ∃ c, c ∈ eZ a ∧ c ∈ eZ b := by
  obtain ⟨⟨h1, h2⟩, ⟨h3, h4⟩, h5, h6, h7, h8⟩ := h
  refine ⟨(jP (max a.x0 b.x0), jP (max a.y0 b.y0)), tV.2 ⟨by unfold fM; omega, ?_⟩, tV.2 ⟨by unfold fM; omega, ?_⟩⟩
  · exact ⟨gQ (by omega), gQ (by omega), gQ (by omega), gQ (by omega)⟩
  · exact ⟨gQ (by omega), gQ (by omega), gQ (by omega), gQ (by omega)⟩
def nQ (c : Int × Int) : Int :=
  IntKind.u32.wrap ((BitVec.ofInt 32 (IntKind.u32.wrap ((BitVec.ofInt 32 (IntKind.u32.wrap (IntKind.u32.wrap c.1 * 73856093)) ^^^ BitVec.ofInt 32 (IntKind.u32.wrap (IntKind.u32.wrap c.2 * 19349663))).toNat)) &&& BitVec.ofInt 32 1023).toNat)
def cT (c : Int × Int) : Nat := (nQ c).toNat
theorem iL (c : Int × Int) : 0 ≤ nQ c ∧ nQ c < 1024 := by
  unfold nQ
  generalize BitVec.ofInt 32 (IntKind.u32.wrap _) = a
  have h : (a &&& BitVec.ofInt 32 1023).toNat ≤ 1023 := by
    rw [BitVec.toNat_and]
    exact Nat.le_trans Nat.and_le_right (by decide)
  rw [aXy _ (by omega) (by omega)]
  omega
theorem gU (c : Int × Int) : cT c < 1024 := by have := iL c; unfold cT; omega
theorem aHw (c : Int × Int) : nQ c = (cT c : Int) := by have := iL c; unfold cT; omega
end Go.Bil
