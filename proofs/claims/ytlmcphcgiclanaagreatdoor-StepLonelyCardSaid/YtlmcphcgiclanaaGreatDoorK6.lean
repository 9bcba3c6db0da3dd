/- Part of the proof of the laws of this seat: Md4, Md5, Md7, Md8, MdB, MdC. No conditions. -/
import Derived.Test.YtlmcphcgiclanaaGreatDoorK4
import Derived.Test.YtlmcphcgiclanaaGreatDoorK3
set_option linter.unusedVariables false
set_option linter.unusedSimpArgs false
set_option linter.unnecessarySimpa false
namespace Go.Bil
def bN (s : List Body) : Prop := s.Pairwise (fun a b => a.key < b.key)
def mC (k : Int) (s : List Body) : List Body := s.filter (fun x => decide (x.key ≠ k))
def pH (b : Body) : Bool → List Body → List Body
  | true, s => mC b.key s
  | false, [] => [b]
  | false, x :: l => if b.key ≤ x.key then b :: mC b.key (x :: l) else x :: pH b false l
def aUp (b : Body) (r : List Body × Bool) : List Body := if r.2 then r.1 else r.1 ++ [b]
theorem mV (b : Body) : ∀ (s acc : List Body) (d : Bool), aUp b (s.foldl (dP b) (acc, d)) = acc ++ pH b d s
  | [], acc, true => by simp [pH, mC, aUp]
  | [], acc, false => by simp [pH, aUp]
  | x :: l, acc, true => by
    have ih := mV b l (if x.key ≠ b.key then acc ++ [x] else acc) true
    rw [List.foldl_cons]
    have e : dP b (acc, true) x = (if x.key ≠ b.key then acc ++ [x] else acc, true) := by unfold dP; by_cases h : x.key = b.key <;> simp [h]
    rw [e, ih]
    by_cases h : x.key = b.key <;> simp [pH, mC, h]
  | x :: l, acc, false => by
    rw [List.foldl_cons]
    by_cases hb : b.key ≤ x.key
    · have ih := mV b l (if x.key ≠ b.key then acc ++ [b] ++ [x] else acc ++ [b]) true
      have e : dP b (acc, false) x = (if x.key ≠ b.key then acc ++ [b] ++ [x] else acc ++ [b], true) := by unfold dP; by_cases h : x.key = b.key <;> simp [h, hb]
      rw [e, ih]
      by_cases h : x.key = b.key <;> simp [pH, mC, h, hb]
    · have hne : x.key ≠ b.key := by omega
      have ih := mV b l (acc ++ [x]) false
      have e : dP b (acc, false) x = (acc ++ [x], false) := by unfold dP; simp [hb, hne]
      rw [e, ih]
      simp [pH, hb]
theorem aHv (s : List Body) (b : Body) (g : Bool) : zW s b g = pH b g s := by
  have := mV b s [] g
  rw [List.nil_append] at this
  exact this
theorem nW (b : Body) : ∀ s : List Body, (pH b false s).Perm (b :: mC b.key s)
  | [] => by simp [pH, mC]
  | x :: l => by
    unfold pH
    split
    · exact List.Perm.refl _
    · rename_i h
      have hne : x.key ≠ b.key := by omega
      have e : mC b.key (x :: l) = x :: mC b.key l := by simp [mC, hne]
      rw [e]
      exact ((nW b l).cons x).trans (List.Perm.swap b x _)
theorem aDz {k : Int} {s : List Body} {x : Body} : x ∈ mC k s ↔ x ∈ s ∧ x.key ≠ k := by simp [mC]
theorem bN.cut {s : List Body} (h : bN s) (k : Int) : bN (mC k s) := List.Pairwise.sublist List.filter_sublist h
theorem bN.put {b : Body} : ∀ {s : List Body}, bN s → bN (pH b false s)
  | [], _ => by simp [pH, bN]
  | x :: l, h => by
    unfold pH
    have hx : ∀ y ∈ l, x.key < y.key := (List.pairwise_cons.1 h).1
    have hl : bN l := (List.pairwise_cons.1 h).2
    split
    · rename_i hb
      refine List.pairwise_cons.2 ⟨fun y hy => ?_, h.cut _⟩
      obtain ⟨h1, h2⟩ := aDz.1 hy
      rcases List.mem_cons.1 h1 with rfl | h1
      · omega
      · have := hx y h1; omega
    · rename_i hb
      refine List.pairwise_cons.2 ⟨fun y hy => ?_, bN.put hl⟩
      have := (nW b l).mem_iff.1 hy
      rcases List.mem_cons.1 this with rfl | h1
      · omega
      · exact hx y (aDz.1 h1).1
theorem aPr (s : List Body) (b : Body) (g : Bool) : (zW s b g).length ≤ s.length + 1 := by
  rw [aHv]
  cases g with
  | true => have := List.length_filter_le (fun x : Body => decide (x.key ≠ b.key)) s; simp only [pH, mC]; omega
  | false =>
    rw [(nW b s).length_eq]
    have := List.length_filter_le (fun x : Body => decide (x.key ≠ b.key)) s
    simp only [mC, List.length_cons]; omega
def lP (s : List Body) (b : Body) : List Body × Int :=
  if check b ≠ 0 then (s, check b) else if 0 ≤ cH b.key s then (s, 10) else if 4096 ≤ s.length then (s, 12) else (zW s b false, 0)
def aHq (k : Int) : Body := ⟨k, 0, 0, 0, 0, 0, 0, 0, 0, 0⟩
def aWe (s : List Body) (b : Body) : List Body × Int :=
  if check b ≠ 0 then (s, check b) else if cH b.key s < 0 then (s, 11) else (zW s b false, 0)
def wX (l : List Body) : List Body := l.foldl (fun s b => (lP s b).1) []
theorem aNi (s : List Body) (b : Body) : (lP s b).1.length ≤ s.length + 1 := by
  unfold lP
  (repeat' split) <;> first | exact Nat.le_succ _ | exact aPr s b false
theorem aJt {l : List Body} {k : Nat} {x : Body} (h : l[k]? = some x) : wX (l.take (k + 1)) = (lP (wX (l.take k)) x).1 := by
  unfold wX
  rw [cP h, List.foldl_append]
  rfl
theorem aMl (l : List Body) : (wX l).length ≤ l.length := by
  have key : ∀ (l s : List Body), (l.foldl (fun s b => (lP s b).1) s).length ≤ s.length + l.length := by
    intro l
    induction l with
    | nil => intro s; simp
    | cons b l ih =>
      intro s
      have h1 := ih (lP s b).1
      have h2 := aNi s b
      simp only [List.foldl_cons, List.length_cons]
      omega
  have := key l []
  rw [List.length_nil, Nat.zero_add] at this
  exact this
structure Rel (m s : List Body) : Prop where
  perm : s.Perm m
  sorted : bN s
theorem Rel.nil : Rel [] [] := ⟨List.Perm.refl _, by simp [bN]⟩
theorem bN.unique {s t : List Body} (h : bN s) (h' : bN t) (p : s.Perm t) : s = t :=
  List.Perm.eq_of_pairwise (le := fun (a b : Body) => a.key < b.key) (fun a b _ _ h1 h2 => by omega) h h' p
theorem bN.keys {s : List Body} (h : bN s) : fU s := by
  unfold fU List.Nodup
  rw [List.pairwise_map]
  exact h.imp (fun h => by omega)
theorem Rel.keys {m s : List Body} (R : Rel m s) : fU m := R.sorted.keys.perm R.perm.symm
theorem Rel.find {m s : List Body} (R : Rel m s) (k : Int) : cH k s < 0 ↔ cH k m < 0 := by
  rw [kN, kN]
  exact ⟨fun h b hb => h b (R.perm.mem_iff.2 hb), fun h b hb => h b (R.perm.mem_iff.1 hb)⟩
theorem aLd {k : Int} {s : List Body} (h : cH k s < 0) : mC k s = s := List.filter_eq_self.2 fun x hx => by simpa using kN.1 h x hx
theorem Rel.put {m s : List Body} (R : Rel m s) (b : Body) {m' : List Body} (h : m'.Perm (b :: mC b.key m)) : Rel m' (zW s b false) := by
  rw [aHv]
  exact ⟨((nW b s).trans ((R.perm.filter _).cons b)).trans h.symm, R.sorted.put⟩
theorem Rel.add {m s : List Body} (R : Rel m s) (b : Body) : Rel (rS m b).1 (lP s b).1 ∧ (lP s b).2 = (rS m b).2 := by
  unfold rS lP
  have hf := R.find b.key
  have hl := R.perm.length_eq
  by_cases h1 : check b ≠ 0
  · rw [if_pos h1, if_pos h1]; exact ⟨R, rfl⟩
  · rw [if_neg h1, if_neg h1]
    by_cases h2 : 0 ≤ cH b.key m
    · have h2' : 0 ≤ cH b.key s := by omega
      rw [if_pos h2, if_pos h2']; exact ⟨R, rfl⟩
    · have h2' : ¬ 0 ≤ cH b.key s := by omega
      rw [if_neg h2, if_neg h2', hl]
      by_cases h3 : 4096 ≤ m.length
      · rw [if_pos h3, if_pos h3]; exact ⟨R, rfl⟩
      · rw [if_neg h3, if_neg h3]
        refine ⟨R.put b ?_, rfl⟩
        rw [aLd (by omega)]
        exact List.perm_append_singleton b m
theorem aEw {m : List Body} (h : fU m) {i : Nat} {b : Body} (hi : m[i]? = some b) : m.eraseIdx i = mC b.key m := by
  have e : m = m.take i ++ b :: m.drop (i + 1) := by
    have hlt := (List.getElem?_eq_some_iff.1 hi).1
    have hb : m[i] = b := (List.getElem?_eq_some_iff.1 hi).2
    rw [← hb, ← List.drop_eq_getElem_cons hlt, List.take_append_drop]
  have hne := qY h hi
  rw [List.eraseIdx_eq_take_drop_succ] at hne ⊢
  conv => rhs; rw [e]
  unfold mC
  rw [List.filter_append, List.filter_cons]
  simp only [ne_eq, not_true_eq_false, decide_false, Bool.false_eq_true, if_false]
  rw [List.filter_eq_self.2 (fun x hx => by simpa using hne x (List.mem_append_left _ hx)), List.filter_eq_self.2 (fun x hx => by simpa using hne x (List.mem_append_right _ hx))]
theorem aLy {m : List Body} {i : Nat} {x : Body} (hi : i < m.length) : (m.set i x).Perm (x :: m.eraseIdx i) := by
  rw [List.set_eq_take_append_cons_drop, if_pos hi, List.eraseIdx_eq_take_drop_succ]
  exact List.perm_middle
theorem Rel.set {m s : List Body} (R : Rel m s) (b : Body) : Rel (aWg m b).1 (aWe s b).1 ∧ (aWe s b).2 = (aWg m b).2 := by
  unfold aWg aWe
  have hf := R.find b.key
  by_cases h1 : check b ≠ 0
  · rw [if_pos h1, if_pos h1]; exact ⟨R, rfl⟩
  · rw [if_neg h1, if_neg h1]
    by_cases h : cH b.key m < 0
    · rw [if_pos h, if_pos (hf.2 h)]; exact ⟨R, rfl⟩
    · rw [if_neg h, if_neg (fun h' => h (hf.1 h'))]
      refine ⟨?_, rfl⟩
      rcases dR b.key m with ⟨h1, _⟩ | ⟨i, c, h1, h2, h3⟩
      · omega
      · rw [h3, Int.toNat_natCast]
        have hlt := (List.getElem?_eq_some_iff.1 h1).1
        refine R.put b ((aLy hlt).trans ?_)
        rw [aEw R.keys h1, h2]
theorem Rel.get {m s : List Body} (R : Rel m s) (k : Int) : (cH k s < 0 ∧ aPd m k = (aHq 0, 11)) ∨ ∃ (i : Nat) (b : Body), cH k s = (i : Int) ∧ s[i]? = some b ∧ aPd m k = (b, 0) := by
  rcases dR k s with ⟨h1, h2⟩ | ⟨i, b, h1, h2, h3⟩
  · have hm : cH k m < 0 := (R.find k).1 (by omega)
    refine .inl ⟨by omega, ?_⟩
    unfold aPd
    rw [if_pos hm]
    rfl
  · refine .inr ⟨i, b, h3, h1, ?_⟩
    have hb : b ∈ m := R.perm.mem_iff.1 (List.mem_of_getElem? h1)
    obtain ⟨j, hj⟩ := List.getElem?_of_mem hb
    have := wI R.keys hj
    rw [h2] at this
    exact aKp this hj
theorem aCk {a b : Int} : mX a b < 0 ↔ a < b := by unfold mX; (repeat' split) <;> omega
def aFy (b : Body) : List Body → List Body
  | [] => [b]
  | x :: l => if b.key ≤ x.key then b :: x :: l else x :: aFy b l
def kT (m : List Body) : List Body := m.foldr aFy []
theorem rE (b : Body) : ∀ l : List Body, (aFy b l).Perm (b :: l)
  | [] => List.Perm.refl _
  | x :: l => by
    unfold aFy
    split
    · exact List.Perm.refl _
    · exact ((rE b l).cons x).trans (List.Perm.swap b x l)
theorem gY : ∀ m : List Body, (kT m).Perm m
  | [] => List.Perm.refl _
  | b :: m => (rE b (kT m)).trans ((gY m).cons b)
def Up (s : List Body) : Prop := s.Pairwise (fun a b => a.key ≤ b.key)
theorem aHd (b : Body) : ∀ {l : List Body}, Up l → Up (aFy b l)
  | [], _ => by simp [aFy, Up]
  | x :: l, h => by
    unfold aFy
    have hx : ∀ y ∈ l, x.key ≤ y.key := (List.pairwise_cons.1 h).1
    split
    · rename_i hb
      refine List.pairwise_cons.2 ⟨fun y hy => ?_, h⟩
      rcases List.mem_cons.1 hy with rfl | hy
      · exact hb
      · have := hx y hy; omega
    · refine List.pairwise_cons.2 ⟨fun y hy => ?_, aHd b (List.pairwise_cons.1 h).2⟩
      have := (rE b l).mem_iff.1 hy
      rcases List.mem_cons.1 this with rfl | h1
      · omega
      · exact hx y h1
theorem aCu : ∀ m : List Body, Up (kT m)
  | [] => by simp [kT, Up]
  | b :: m => aHd b (aCu m)
theorem aJr {s : List Body} (h : Up s) (hk : fU s) : bN s := by
  unfold Up at h
  unfold fU List.Nodup at hk
  rw [List.pairwise_map] at hk
  exact (List.Pairwise.and h hk).imp (fun ⟨h1, h2⟩ => by omega)
theorem yC {m : List Body} (hk : fU m) : Rel m (kT m) := ⟨gY m, aJr (aCu m) (hk.perm (gY m))⟩
theorem Rel.eq {m s : List Body} (R : Rel m s) : kT m = s := (yC R.keys).sorted.unique R.sorted ((gY m).trans R.perm.symm)
theorem mG (m : List Body) : ∀ y ∈ m.map aG, y.length = 10 := by
  intro y hy
  obtain ⟨b, _, rfl⟩ := List.mem_map.1 hy
  rfl
end Go.Bil
namespace Go.Bil
structure InB (b : Body) : Prop where
  key : 0 ≤ b.key ∧ b.key ≤ 4294967295
  radius : -2147483648 ≤ b.radius ∧ b.radius ≤ 2147483647
  ax : -2147483648 ≤ b.ax ∧ b.ax ≤ 2147483647
  ay : -2147483648 ≤ b.ay ∧ b.ay ≤ 2147483647
  mass : -2147483648 ≤ b.mass ∧ b.mass ≤ 2147483647
  bounce : -2147483648 ≤ b.bounce ∧ b.bounce ≤ 2147483647
  px : -2147483648 ≤ b.px ∧ b.px ≤ 2147483647
  py : -2147483648 ≤ b.py ∧ b.py ≤ 2147483647
  vx : -2147483648 ≤ b.vx ∧ b.vx ≤ 2147483647
  vy : -2147483648 ≤ b.vy ∧ b.vy ≤ 2147483647
theorem aVi (l : List Value) (h : jN [.u32, .i32, .i32, .i32, .i32, .i32, .i32, .i32, .i32, .i32] l) : ∃ b, l = aG b ∧ InB b := by
  obtain ⟨z0, l0, rfl, w0, h0⟩ := fS h
  obtain ⟨z1, l1, rfl, w1, h1⟩ := fS h0
  obtain ⟨z2, l2, rfl, w2, h2⟩ := fS h1
  obtain ⟨z3, l3, rfl, w3, h3⟩ := fS h2
  obtain ⟨z4, l4, rfl, w4, h4⟩ := fS h3
  obtain ⟨z5, l5, rfl, w5, h5⟩ := fS h4
  obtain ⟨z6, l6, rfl, w6, h6⟩ := fS h5
  obtain ⟨z7, l7, rfl, w7, h7⟩ := fS h6
  obtain ⟨z8, l8, rfl, w8, h8⟩ := fS h7
  obtain ⟨z9, l9, rfl, w9, h9⟩ := fS h8
  obtain rfl := aLj h9
  exact ⟨⟨z0, z1, z2, z3, z4, z5, z6, z7, z8, z9⟩, rfl, ⟨w0, w1, w2, w3, w4, w5, w6, w7, w8, w9⟩⟩
end Go.Bil

namespace Go.Bil
def qM (l : List Body) : List Body := l.foldl (fun m b => (rS m b).1) []
theorem aFg {l : List Body} {k : Nat} {x : Body} (h : l[k]? = some x) : qM (l.take (k + 1)) = (rS (qM (l.take k)) x).1 := by
  unfold qM
  rw [cP h, List.foldl_append]
  rfl
theorem aJd : ∀ l : List Body, Rel (qM l) (wX l) := by
  have key : ∀ (l m s : List Body), Rel m s → Rel (l.foldl (fun m b => (rS m b).1) m) (l.foldl (fun s b => (lP s b).1) s) := by
    intro l
    induction l with
    | nil => intro m s h; exact h
    | cons b l ih => intro m s h; exact ih _ _ (h.add b).1
  exact fun l => key l [] [] Rel.nil
def sH (l : List Body) : List Body := l.filter (fun b => decide (check b = 0))
theorem aOg {m : List Body} {x : Body} (hf : ∀ b ∈ m, b.key ≠ x.key) (hl : m.length < 4096) : rS (sH m) x = (sH (m ++ [x]), check x) := by
  have hle : (sH m).length ≤ m.length := List.length_filter_le _ _
  unfold rS
  by_cases h : check x = 0
  · rw [if_neg (by omega), if_neg (by
      have : cH x.key (sH m) < 0 := kN.2 fun b hb => hf b (List.mem_filter.1 hb).1
      omega), if_neg (by omega), h]
    simp [sH, List.filter_append, h]
  · rw [if_pos h]
    simp [sH, List.filter_append, h]
theorem aBy {l : List Body} (h : fU l) {k : Nat} {x : Body} (hx : l[k]? = some x) : ∀ b ∈ l.take k, b.key ≠ x.key := by
  intro b hb e
  obtain ⟨j, hj⟩ := List.getElem?_of_mem hb
  rw [List.getElem?_take] at hj
  split at hj
  · rename_i hlt
    have := h.inj hj hx e
    omega
  · cases hj
theorem tY {l : List Body} (h : fU l) (hl : l.length ≤ 4096) : ∀ k, k ≤ l.length → qM (l.take k) = sH (l.take k)
  | 0, _ => by simp [qM, sH]
  | k + 1, hk => by
    obtain ⟨x, hx⟩ := cS (xs := l) (k := k) rfl (by omega)
    rw [aFg hx, tY h hl k (by omega), aOg (aBy h hx) (by rw [List.length_take]; omega), cP hx]
end Go.Bil
namespace Go.Bil
structure StepI where
  kind : Int
  body : Body
instance : Inhabited StepI := ⟨⟨0, aHq 0⟩⟩
end Go.Bil

namespace Go.Bil
def iH : List Body → Int
  | [] => 0
  | b :: l => if check b ≠ 0 then check b else iH l
def jG (xs : List Body) : Int := if 4096 < xs.length then 12 else iH xs
theorem lH : ∀ {xs : List Body}, (∀ (j : Nat) (c : Body), xs[j]? = some c → check c = 0) → iH xs = 0
  | [], _ => rfl
  | b :: l, h => by
    unfold iH
    rw [if_neg (by have := h 0 b (by simp); omega)]
    exact lH fun j c hj => h (j + 1) c (by simpa using hj)
theorem sO : ∀ {xs : List Body} {k : Nat} {b : Body}, xs[k]? = some b → check b ≠ 0 → (∀ (j : Nat) (c : Body), j < k → xs[j]? = some c → check c = 0) → iH xs = check b
  | [], _, _, h, _, _ => by simp at h
  | a :: l, 0, b, h, hb, _ => by
    simp only [List.getElem?_cons_zero, Option.some.injEq] at h
    subst h
    unfold iH
    rw [if_pos hb]
  | a :: l, k + 1, b, h, hb, hn => by
    unfold iH
    rw [if_neg (by have := hn 0 a (by omega) (by simp); omega)]
    exact sO (by simpa using h) hb fun j c hj hc => hn (j + 1) c (by omega) (by simpa using hc)
theorem pT : ∀ {xs : List Body}, iH xs = 0 → ∀ b ∈ xs, check b = 0
  | [], _, b, hb => by simp at hb
  | a :: l, h, b, hb => by
    unfold iH at h
    by_cases ha : check a = 0
    · rw [if_neg (by omega)] at h
      rcases List.mem_cons.1 hb with rfl | hb
      · exact ha
      · exact pT h b hb
    · rw [if_pos ha] at h; exact absurd h ha
theorem wD {xs : List Body} (h : jG xs = 0) : xs.length ≤ 4096 ∧ ∀ b ∈ xs, check b = 0 := by
  unfold jG at h
  split at h
  · omega
  · exact ⟨by omega, pT h⟩
theorem aNd {xs : List Body} (hl : xs.length ≤ 4096) (h : ∀ b ∈ xs, check b = 0) : jG xs = 0 := by
  unfold jG
  rw [if_neg (by omega)]
  exact lH fun j c hj => h c (List.mem_of_getElem? hj)
def aUm : List Body → Bool
  | x :: y :: l => decide (x.key < y.key) && aUm (y :: l)
  | _ => true
theorem kX : ∀ {xs : List Body}, aUm xs = true → bN xs
  | [], _ => by simp [bN]
  | [_], _ => by simp [bN]
  | x :: y :: l, h => by
    unfold aUm at h
    rw [Bool.and_eq_true, decide_eq_true_eq] at h
    have ih := kX h.2
    refine List.pairwise_cons.2 ⟨fun z hz => ?_, ih⟩
    rcases List.mem_cons.1 hz with rfl | hz
    · exact h.1
    · have := (List.pairwise_cons.1 ih).1 z hz; have := h.1; omega
instance (m : List Body) : Decidable (fU m) := by unfold fU; infer_instance
def kA (xs : List Body) : List Body × Int := if jG xs ≠ 0 then ([], jG xs) else if fU xs then (kT xs, 0) else ([], 10)
theorem aCq : ∀ (l m : List Body), ∃ t, List.Sublist t l ∧ l.foldl (fun m b => (rS m b).1) m = m ++ t
  | [], m => ⟨[], by simp, by simp⟩
  | b :: l, m => by
    simp only [List.foldl_cons]
    obtain ⟨t, h1, h2⟩ := aCq l (rS m b).1
    have hb : (rS m b).1 = m ∨ (rS m b).1 = m ++ [b] := by
      unfold rS
      (repeat' split) <;> simp
    rcases hb with hb | hb
    · exact ⟨t, h1.cons b, by rw [h2, hb]⟩
    · exact ⟨b :: t, h1.cons_cons b, by rw [h2, hb]; simp⟩
theorem aKc {xs : List Body} (he : jG xs = 0) : (fU xs → wX xs = kT xs) ∧ ((wX xs).length < xs.length ↔ ¬ fU xs) := by
  obtain ⟨h1, h2⟩ := wD he
  have hrel := aJd xs
  have hlen := hrel.perm.length_eq
  obtain ⟨t, ht1, ht2⟩ := aCq xs []
  have ht : qM xs = t := by simpa [qM] using ht2
  have hkeys : fU xs → qM xs = xs := fun hk => by
    have := tY hk h1 xs.length (Nat.le_refl _)
    rw [List.take_length] at this
    rw [this]
    exact List.filter_eq_self.2 fun b hb => by simpa using h2 b hb
  refine ⟨fun hk => ?_, ?_, ?_⟩
  · have := hrel.eq
    rw [hkeys hk] at this
    exact this.symm
  · intro hl hk
    rw [hlen, hkeys hk] at hl
    omega
  · intro hk
    rw [hlen, ht]
    rcases Nat.lt_or_ge t.length xs.length with h | h
    · exact h
    · exfalso
      have : t = xs := ht1.eq_of_length_le h
      exact hk (by rw [← this, ← ht]; exact hrel.keys)
def rW (key : Int) : List Body → Nat
  | [] => 0
  | b :: l => (if b.key < key then 1 else 0) + rW key l
theorem pW {key : Int} : ∀ {xs : List Body} {k : Nat}, k ≤ xs.length → (∀ (j : Nat) (c : Body), j < k → xs[j]? = some c → c.key < key) → (∀ (j : Nat) (c : Body), k ≤ j → xs[j]? = some c → ¬ c.key < key) → rW key xs = k
  | [], k, hk, _, _ => by simp at hk; simp [rW, hk]
  | b :: l, 0, _, _, h2 => by
    unfold rW
    rw [if_neg (h2 0 b (Nat.le_refl _) (by simp)), pW (k := 0) (by omega) (fun j c hj => by omega) (fun j c _ hc => h2 (j + 1) c (by omega) (by simpa using hc))]
  | b :: l, k + 1, hk, h1, h2 => by
    unfold rW
    rw [if_pos (h1 0 b (by omega) (by simp)), pW (k := k) (by simpa using hk) (fun j c hj hc => h1 (j + 1) c (by omega) (by simpa using hc)) (fun j c hj hc => h2 (j + 1) c (by omega) (by simpa using hc))]
    omega
def gS (k : Int) : List Value := [.int .u32 k]
end Go.Bil
namespace Go.Bil
theorem sP {xs : List Body} (h : bN xs) {p q : Nat} {a b : Body} (hpq : p ≤ q) (ha : xs[p]? = some a) (hb : xs[q]? = some b) : a.key ≤ b.key := by
  by_cases e : p = q
  · subst e
    rw [ha] at hb
    injection hb with hb
    rw [hb]; exact Int.le_refl _
  · have hi := List.getElem?_eq_some_iff.1 ha
    have hj := List.getElem?_eq_some_iff.1 hb
    have := List.pairwise_iff_getElem.1 h p q hi.1 hj.1 (by omega)
    rw [hi.2, hj.2] at this
    omega
theorem aZm (i j : Nat) : ((i : Int) + (j : Int)).fdiv (2 ^ (min (1 : Int).toNat IntKind.u64.bits)) = (((i + j) / 2 : Nat) : Int) := by
  have e : (2 : Int) ^ (min (1 : Int).toNat IntKind.u64.bits) = 2 := by decide
  rw [e, Int.fdiv_eq_ediv_of_nonneg _ (by omega)]
  omega
theorem sY {a b a' b' : Value} (h1 : a = a') (h2 : b = b') : Value.tuple #[a, b] = Value.tuple #[a', b'] := by rw [h1, h2]
theorem aJz {a b : Int} : mX a b = 0 ↔ a = b := by unfold mX; (repeat' split) <;> omega
theorem aKg {key : Int} {xs : List Body} (hs : bN xs) {i : Nat} {b : Body} (hb : xs[i]? = some b) (h1 : ∀ (j : Nat) (c : Body), j < i → xs[j]? = some c → c.key < key) (h2 : ∀ (j : Nat) (c : Body), i ≤ j → xs[j]? = some c → ¬ c.key < key) : mX b.key key = 0 ↔ 0 ≤ cH key xs := by
  rw [aJz]
  constructor
  · intro e
    rcases dR key xs with ⟨_, h⟩ | ⟨_, _, _, _, h⟩
    · exact absurd e (h b (List.mem_of_getElem? hb))
    · omega
  · intro h
    rcases dR key xs with ⟨h', _⟩ | ⟨j, c, hc, hk, _⟩
    · omega
    · have hij : i ≤ j := by
        rcases Nat.lt_or_ge j i with hlt | hge
        · have := h1 j c hlt hc; omega
        · exact hge
      have := sP hs hij hb hc
      have := h2 i b (Nat.le_refl _) hb
      omega
theorem aFk {key : Int} {xs : List Body} (h1 : ∀ (j : Nat) (c : Body), j < xs.length → xs[j]? = some c → c.key < key) : ¬ 0 ≤ cH key xs := by
  intro h
  rcases dR key xs with ⟨h', _⟩ | ⟨j, c, hc, hk, _⟩
  · omega
  · have := h1 j c (List.getElem?_eq_some_iff.1 hc).1 hc
    omega
end Go.Bil
namespace Go.Bil
end Go.Bil
namespace Go.Bil
end Go.Bil
namespace Go.Bil
theorem aFr (k : Int) : ∀ y ∈ [gS k], y.length = 1 ∧ ∀ u ∈ y, one u = true := by
  intro y hy
  simp only [List.mem_singleton] at hy
  subst hy
  exact ⟨rfl, aW rfl⟩
end Go.Bil
namespace Go.Bil
structure Mg (xs ys : List Body) (i k : Nat) : Prop where
  sx : bN xs
  sy : bN ys
  yx : ∀ (p : Nat) (a b : Body), p < k → ys[p]? = some a → xs[i]? = some b → a.key < b.key
  xy : ∀ (p : Nat) (a b : Body), p < i → xs[p]? = some a → ys[k]? = some b → a.key < b.key
theorem Mg.swap {xs ys : List Body} {i k : Nat} (h : Mg xs ys i k) : Mg ys xs k i := ⟨h.sy, h.sx, h.xy, h.yx⟩
theorem cZ {xs : List Body} (h : bN xs) {p q : Nat} {a b : Body} (hpq : p < q) (ha : xs[p]? = some a) (hb : xs[q]? = some b) : a.key < b.key := by
  have hi := List.getElem?_eq_some_iff.1 ha
  have hj := List.getElem?_eq_some_iff.1 hb
  have := List.pairwise_iff_getElem.1 h p q hi.1 hj.1 hpq
  rwa [hi.2, hj.2] at this
theorem Mg.x {xs ys : List Body} {i k : Nat} {a : Body} (h : Mg xs ys i k) (ha : xs[i]? = some a) (hb : ∀ b, ys[k]? = some b → a.key < b.key) : Mg xs ys (i + 1) k ∧ cH a.key ys < 0 := by
  refine ⟨⟨h.sx, h.sy, fun p y x hp hy hx => ?_, fun p x y hp hx hy => ?_⟩, kN.2 fun y hy => ?_⟩
  · have := h.yx p y a hp hy ha
    have := cZ h.sx (Nat.lt_succ_self i) ha hx
    omega
  · by_cases e : p = i
    · subst e
      rw [ha] at hx
      injection hx with hx
      subst hx
      exact hb y hy
    · exact h.xy p x y (by omega) hx hy
  · obtain ⟨q, hq⟩ := List.getElem?_of_mem hy
    rcases Nat.lt_or_ge q k with hlt | hge
    · have := h.yx q y a hlt hq ha; omega
    · obtain ⟨b, hbk⟩ := cS (xs := ys) (k := k) rfl (by have := (List.getElem?_eq_some_iff.1 hq).1; omega)
      have h1 := hb b hbk
      have h2 := sP h.sy hge hbk hq
      omega
theorem Mg.y {xs ys : List Body} {i k : Nat} {b : Body} (h : Mg xs ys i k) (hb : ys[k]? = some b) (ha : ∀ a, xs[i]? = some a → b.key < a.key) : Mg xs ys i (k + 1) ∧ cH b.key xs < 0 := by
  obtain ⟨h1, h2⟩ := h.swap.x hb ha
  exact ⟨h1.swap, h2⟩
theorem Mg.both {xs ys : List Body} {i k : Nat} {a b : Body} (h : Mg xs ys i k) (ha : xs[i]? = some a) (hb : ys[k]? = some b) (hk : a.key = b.key) : Mg xs ys (i + 1) (k + 1) ∧ cH a.key ys = (k : Int) ∧ cH b.key xs = (i : Int) := by
  refine ⟨⟨h.sx, h.sy, fun p y x hp hy hx => ?_, fun p x y hp hx hy => ?_⟩, ?_, ?_⟩
  · have h1 := cZ h.sx (Nat.lt_succ_self i) ha hx
    have h2 := sP h.sy (show p ≤ k by omega) hy hb
    omega
  · have h1 := cZ h.sy (Nat.lt_succ_self k) hb hy
    have h2 := sP h.sx (show p ≤ i by omega) hx ha
    omega
  · exact pP hb hk.symm fun j c hj hc => by have := cZ h.sy hj hc hb; omega
  · exact pP ha hk fun j c hj hc => by have := cZ h.sx hj hc ha; omega
end Go.Bil
namespace Go.Bil
end Go.Bil
namespace Go.Bil
end Go.Bil
namespace Go.Bil
end Go.Bil
namespace Go.Bil
theorem aOt {xs : List Body} (h : (kA xs).2 = 0) : fU xs ∧ jG xs = 0 ∧ (kA xs).1 = kT xs := by
  unfold kA at *
  by_cases h1 : jG xs = 0
  · rw [if_neg (by omega)] at h ⊢
    by_cases h2 : fU xs
    · rw [if_pos h2]; exact ⟨h2, h1, rfl⟩
    · rw [if_neg h2] at h; simp at h
  · rw [if_pos h1] at h; exact absurd h h1
theorem aPb {xs : List Body} (hk : fU xs) : bN (kT xs) := (yC hk).sorted
end Go.Bil
namespace Go.Bil
end Go.Bil
namespace Go.Bil
end Go.Bil

namespace Go.Bil
theorem aIv {xs : List Body} (he : jG xs = 0) : jG (kT xs) = 0 := by
  obtain ⟨h1, h2⟩ := wD he
  exact aNd (by rw [(gY xs).length_eq]; exact h1) fun b hb => h2 b ((gY xs).mem_iff.1 hb)
theorem aIl (xs : List Body) : (kA xs).1.length ≤ xs.length := by
  unfold kA
  split
  · simp
  · split
    · simpa using Nat.le_of_eq (gY xs).length_eq
    · simp
end Go.Bil

namespace Go.Bil
structure Bx where
  x0 : Int
  y0 : Int
  x1 : Int
  y1 : Int
  deriving DecidableEq, Inhabited
def cT (a : Bx) : List Value := [.int .i32 a.x0, .int .i32 a.y0, .int .i32 a.x1, .int .i32 a.y1]
def aFx (b : Body) : Int := max b.ax (-b.ax) + b.radius
def aEr (b : Body) : Int := max b.ay (-b.ay) + b.radius
def dQ (b : Body) : Bx := ⟨b.px - aFx b, b.py - aEr b, b.px + aFx b, b.py + aEr b⟩
abbrev dY (a : Bx) : Prop := a.x1 < a.x0 ∨ a.y1 < a.y0
def iJ : Bx := ⟨1, 0, 0, 0⟩
def xY (a b : Bx) : Bx := if dY ⟨max a.x0 b.x0, max a.y0 b.y0, min a.x1 b.x1, min a.y1 b.y1⟩ then iJ else ⟨max a.x0 b.x0, max a.y0 b.y0, min a.x1 b.x1, min a.y1 b.y1⟩
abbrev qU (a b : Bx) : Prop := (a.x0 ≤ a.x1 ∧ a.y0 ≤ a.y1) ∧ (b.x0 ≤ b.x1 ∧ b.y0 ≤ b.y1) ∧ (a.x0 ≤ b.x1 ∧ b.x0 ≤ a.x1 ∧ a.y0 ≤ b.y1 ∧ b.y0 ≤ a.y1)
theorem aMu (a b : Bx) : ¬ dY (xY a b) ↔ qU a b := by
  unfold xY
  split
  · rename_i h
    unfold dY at h
    simp only [dY, iJ, qU]
    simp only at h
    omega
  · rename_i h
    unfold dY at h
    simp only [dY, qU]
    simp only at h
    omega
structure Okb (b : Body) : Prop where
  r : 4096 ≤ b.radius ∧ b.radius ≤ 4194304
  a : -4194304 ≤ b.ax ∧ b.ax ≤ 4194304 ∧ -4194304 ≤ b.ay ∧ b.ay ≤ 4194304
  m : 0 ≤ b.mass ∧ b.mass ≤ 1048576
  c : 0 ≤ b.bounce ∧ b.bounce ≤ 65536
  p : -1073741824 ≤ b.px ∧ b.px ≤ 1073741824 ∧ -1073741824 ≤ b.py ∧ b.py ≤ 1073741824
  v : -16777216 ≤ b.vx ∧ b.vx ≤ 16777216 ∧ -16777216 ≤ b.vy ∧ b.vy ≤ 16777216
theorem qH {b : Body} (h : check b = 0) : Okb b := by
  by_cases h1 : 4096 ≤ b.radius ∧ b.radius ≤ 4194304
  · by_cases h2 : -4194304 ≤ b.ax ∧ b.ax ≤ 4194304 ∧ -4194304 ≤ b.ay ∧ b.ay ≤ 4194304
    · by_cases h3 : 0 ≤ b.mass ∧ b.mass ≤ 1048576
      · by_cases h4 : 0 ≤ b.bounce ∧ b.bounce ≤ 65536
        · by_cases h5 : -1073741824 ≤ b.px ∧ b.px ≤ 1073741824 ∧ -1073741824 ≤ b.py ∧ b.py ≤ 1073741824
          · by_cases h6 : -16777216 ≤ b.vx ∧ b.vx ≤ 16777216 ∧ -16777216 ≤ b.vy ∧ b.vy ≤ 16777216
            · exact ⟨h1, h2, h3, h4, h5, h6⟩
            · rw [aQv b h1 h2 h3 h4 h5 h6] at h; omega
          · rw [aRy b h1 h2 h3 h4 h5] at h; omega
        · rw [aQw b h1 h2 h3 h4] at h; omega
      · rw [aRo b h1 h2 h3] at h; omega
    · rw [aRi b h1 h2] at h; omega
  · rw [aRk b h1] at h; omega
theorem aBe {b : Body} (h : Okb b) : 4096 ≤ aFx b ∧ aFx b ≤ 8388608 ∧ 4096 ≤ aEr b ∧ aEr b ≤ 8388608 := by
  have := h.r
  have := h.a
  unfold aFx aEr
  omega
structure Okx (a : Bx) : Prop where
  x0 : -2147483648 ≤ a.x0 ∧ a.x0 ≤ 2147483647
  y0 : -2147483648 ≤ a.y0 ∧ a.y0 ≤ 2147483647
  x1 : -2147483648 ≤ a.x1 ∧ a.x1 ≤ 2147483647
  y1 : -2147483648 ≤ a.y1 ∧ a.y1 ≤ 2147483647
theorem aUu {b : Body} (h : Okb b) : Okx (dQ b) := by
  have h1 := aBe h
  have h2 := h.p
  constructor <;> simp only [dQ] <;> omega
theorem aPp {b : Body} (h : Okb b) : (dQ b).x0 ≤ (dQ b).x1 ∧ (dQ b).y0 ≤ (dQ b).y1 := by
  have h1 := aBe h
  simp only [dQ]
  omega
end Go.Bil

namespace Go.Bil
def bY (c : Int × Int) : List Value := [.int .i32 c.1, .int .i32 c.2]
def kG (x : Int) : Int := x.fdiv 4194304
theorem aTw (x : Int) : x.fdiv (2 ^ (min (22 : Int).toNat IntKind.i32.bits)) = kG x := rfl
theorem zU (x : Int) : kG x = x / 4194304 := by unfold kG; exact Int.fdiv_eq_ediv_of_nonneg x (by decide)
theorem mF {x : Int} (h0 : -2147483648 ≤ x) (h1 : x ≤ 2147483647) : -512 ≤ kG x ∧ kG x ≤ 511 := by rw [zU]; omega
theorem iB {x y : Int} (h : x ≤ y) : kG x ≤ kG y := by rw [zU, zU]; omega
def loC (a : Bx) : Int × Int := if dY a then (0, 0) else (kG a.x0, kG a.y0)
def hiC (a : Bx) : Int × Int := if dY a then (0, 0) else (kG a.x1, kG a.y1)
def nX (lo hi : Int × Int) : Nat := (hi.1 - lo.1 + 1).toNat
def nY (lo hi : Int × Int) : Nat := (hi.2 - lo.2 + 1).toNat
def tS (lo : Int × Int) (i j : Nat) : List (Int × Int) := (List.range i).map (fun (p : Nat) => (lo.1 + (p : Int), lo.2 + (j : Int)))
def lG (lo hi : Int × Int) (j : Nat) : List (Int × Int) := (List.range j).flatMap (fun q => tS lo (nX lo hi) q)
def rD (ok : Bool) (lo hi : Int × Int) : List (Int × Int) := if ok then lG lo hi (nY lo hi) else []
def fE (a : Bx) : List (Int × Int) := rD (decide (¬ dY a)) (loC a) (hiC a)
theorem aDk (lo : Int × Int) (i j : Nat) : (tS lo i j).length = i := by simp [tS]
theorem aKv (lo : Int × Int) (i j : Nat) : tS lo (i + 1) j = tS lo i j ++ [(lo.1 + (i : Int), lo.2 + (j : Int))] := by simp [tS, List.range_succ]
theorem tV (lo hi : Int × Int) (j : Nat) : lG lo hi (j + 1) = lG lo hi j ++ tS lo (nX lo hi) j := by simp [lG, List.range_succ]
theorem qW (lo hi : Int × Int) : ∀ j, (lG lo hi j).length = j * nX lo hi
  | 0 => by simp [lG]
  | j + 1 => by rw [tV, List.length_append, qW lo hi j, aDk, Nat.add_mul, Nat.one_mul]
theorem aNv {lo hi : Int × Int} {i j : Nat} (hx : nX lo hi ≤ 1024) (hj : j < 1024) (hi' : i < nX lo hi) : (lG lo hi j).length + i < 1048576 := by
  rw [qW]
  have : j * nX lo hi ≤ 1023 * 1024 := Nat.mul_le_mul (by omega) hx
  omega
theorem aMo {lo hi : Int × Int} {j : Nat} (hx : nX lo hi ≤ 1024) (hj : j ≤ 1024) : (lG lo hi j).length ≤ 1048576 := by
  rw [qW]
  exact Nat.mul_le_mul hj hx
theorem aKw {lo hi : Int × Int} {n : Nat} {c : Int × Int} : c ∈ lG lo hi n ↔ ∃ q p : Nat, q < n ∧ p < nX lo hi ∧ c = (lo.1 + (p : Int), lo.2 + (q : Int)) := by
  simp only [lG, tS, List.mem_flatMap, List.mem_range, List.mem_map]
  constructor
  · rintro ⟨q, hq, p, hp, rfl⟩; exact ⟨q, p, hq, hp, rfl⟩
  · rintro ⟨q, p, hq, hp, rfl⟩; exact ⟨q, hq, p, hp, rfl⟩
theorem vR {a : Bx} {c : Int × Int} : c ∈ fE a ↔ ¬ dY a ∧ kG a.x0 ≤ c.1 ∧ c.1 ≤ kG a.x1 ∧ kG a.y0 ≤ c.2 ∧ c.2 ≤ kG a.y1 := by
  unfold fE rD
  by_cases h : dY a
  · simp [h]
  · rw [if_pos (by simpa using h), aKw]
    simp only [loC, hiC, if_neg h, nX, nY]
    constructor
    · rintro ⟨q, p, hq, hp, rfl⟩
      refine ⟨h, ?_⟩
      simp only
      omega
    · rintro ⟨_, h1, h2, h3, h4⟩
      refine ⟨(c.2 - kG a.y0).toNat, (c.1 - kG a.x0).toNat, by omega, by omega, ?_⟩
      apply Prod.ext <;> simp only <;> omega
structure Okc (c : Int × Int) : Prop where
  x : -512 ≤ c.1 ∧ c.1 ≤ 511
  y : -512 ≤ c.2 ∧ c.2 ≤ 511
theorem aGj {a : Bx} (h : Okx a) : Okc (loC a) := by
  unfold loC
  split
  · exact ⟨by decide, by decide⟩
  · exact ⟨mF h.x0.1 h.x0.2, mF h.y0.1 h.y0.2⟩
theorem aGn {a : Bx} (h : Okx a) : Okc (hiC a) := by
  unfold hiC
  split
  · exact ⟨by decide, by decide⟩
  · exact ⟨mF h.x1.1 h.x1.2, mF h.y1.1 h.y1.2⟩
theorem aTo {lo hi : Int × Int} (h1 : Okc lo) (h2 : Okc hi) : nX lo hi ≤ 1024 := by
  have := h1.x; have := h2.x
  unfold nX
  omega
theorem aTl {lo hi : Int × Int} (h1 : Okc lo) (h2 : Okc hi) : nY lo hi ≤ 1024 := by
  have := h1.y; have := h2.y
  unfold nY
  omega
theorem aFm {a : Bx} (h : Okx a) : (fE a).length ≤ 1048576 := by
  unfold fE rD
  split
  · exact aMo (aTo (aGj h) (aGn h)) (aTl (aGj h) (aGn h))
  · simp
theorem aNr {a b : Bx} (h : qU a b) : ∃ c, c ∈ fE a ∧ c ∈ fE b := by
  obtain ⟨⟨h1, h2⟩, ⟨h3, h4⟩, h5, h6, h7, h8⟩ := h
  refine ⟨(kG (max a.x0 b.x0), kG (max a.y0 b.y0)), vR.2 ⟨by unfold dY; omega, ?_⟩, vR.2 ⟨by unfold dY; omega, ?_⟩⟩
  · exact ⟨iB (by omega), iB (by omega), iB (by omega), iB (by omega)⟩
  · exact ⟨iB (by omega), iB (by omega), iB (by omega), iB (by omega)⟩
def oA (c : Int × Int) : Int :=
  IntKind.u32.wrap ((BitVec.ofInt 32 (IntKind.u32.wrap ((BitVec.ofInt 32 (IntKind.u32.wrap (IntKind.u32.wrap c.1 * 73856093)) ^^^ BitVec.ofInt 32 (IntKind.u32.wrap (IntKind.u32.wrap c.2 * 19349663))).toNat)) &&& BitVec.ofInt 32 1023).toNat)
def dE (c : Int × Int) : Nat := (oA c).toNat
theorem jD (c : Int × Int) : 0 ≤ oA c ∧ oA c < 1024 := by
  unfold oA
  generalize BitVec.ofInt 32 (IntKind.u32.wrap _) = a
  have h : (a &&& BitVec.ofInt 32 1023).toNat ≤ 1023 := by
    rw [BitVec.toNat_and]
    exact Nat.le_trans Nat.and_le_right (by decide)
  rw [aXy _ (by omega) (by omega)]
  omega
theorem hJ (c : Int × Int) : dE c < 1024 := by have := jD c; unfold dE; omega
theorem aJv (c : Int × Int) : oA c = (dE c : Int) := by have := jD c; unfold dE; omega
end Go.Bil
