/- Part of the proof of the laws of this seat: Md4, Md5, Md7, Md8, MdB, MdC. No conditions. -/
import Derived.Test.YtlmcphcgiclanaaGreatDoorK4
import Derived.Test.YtlmcphcgiclanaaGreatDoorK3
set_option linter.unusedVariables false
set_option linter.unusedSimpArgs false
set_option linter.unnecessarySimpa false
namespace Go.Bil
def cG (s : List Body) : Prop := s.Pairwise (fun a b => a.key < b.key)
def nS (k : Int) (s : List Body) : List Body := s.filter (fun x => decide (x.key ≠ k))
def rK (b : Body) : Bool → List Body → List Body
  | true, s => nS b.key s
  | false, [] => [b]
  | false, x :: l => if b.key ≤ x.key then b :: nS b.key (x :: l) else x :: rK b false l
def aXw (b : Body) (r : List Body × Bool) : List Body := if r.2 then r.1 else r.1 ++ [b]
theorem nM (b : Body) : ∀ (s acc : List Body) (d : Bool), aXw b (s.foldl (eK b) (acc, d)) = acc ++ rK b d s
  | [], acc, true => by simp [rK, nS, aXw]
  | [], acc, false => by simp [rK, aXw]
  | x :: l, acc, true => by
    have ih := nM b l (if x.key ≠ b.key then acc ++ [x] else acc) true
    rw [List.foldl_cons]
    have e : eK b (acc, true) x = (if x.key ≠ b.key then acc ++ [x] else acc, true) := by unfold eK; by_cases h : x.key = b.key <;> simp [h]
    rw [e, ih]
    by_cases h : x.key = b.key <;> simp [rK, nS, h]
  | x :: l, acc, false => by
    rw [List.foldl_cons]
    by_cases hb : b.key ≤ x.key
    · have ih := nM b l (if x.key ≠ b.key then acc ++ [b] ++ [x] else acc ++ [b]) true
      have e : eK b (acc, false) x = (if x.key ≠ b.key then acc ++ [b] ++ [x] else acc ++ [b], true) := by unfold eK; by_cases h : x.key = b.key <;> simp [h, hb]
      rw [e, ih]
      by_cases h : x.key = b.key <;> simp [rK, nS, h, hb]
    · have hne : x.key ≠ b.key := by omega
      have ih := nM b l (acc ++ [x]) false
      have e : eK b (acc, false) x = (acc ++ [x], false) := by unfold eK; simp [hb, hne]
      rw [e, ih]
      simp [rK, hb]
theorem aKb (s : List Body) (b : Body) (g : Bool) : aCq s b g = rK b g s := by
  have := nM b s [] g
  rw [List.nil_append] at this
  exact this
theorem pR (b : Body) : ∀ s : List Body, (rK b false s).Perm (b :: nS b.key s)
  | [] => by simp [rK, nS]
  | x :: l => by
    unfold rK
    split
    · exact List.Perm.refl _
    · rename_i h
      have hne : x.key ≠ b.key := by omega
      have e : nS b.key (x :: l) = x :: nS b.key l := by simp [nS, hne]
      rw [e]
      exact ((pR b l).cons x).trans (List.Perm.swap b x _)
theorem aFm {k : Int} {s : List Body} {x : Body} : x ∈ nS k s ↔ x ∈ s ∧ x.key ≠ k := by simp [nS]
theorem cG.cut {s : List Body} (h : cG s) (k : Int) : cG (nS k s) := List.Pairwise.sublist List.filter_sublist h
theorem cG.put {b : Body} : ∀ {s : List Body}, cG s → cG (rK b false s)
  | [], _ => by simp [rK, cG]
  | x :: l, h => by
    unfold rK
    have hx : ∀ y ∈ l, x.key < y.key := (List.pairwise_cons.1 h).1
    have hl : cG l := (List.pairwise_cons.1 h).2
    split
    · rename_i hb
      refine List.pairwise_cons.2 ⟨fun y hy => ?_, h.cut _⟩
      obtain ⟨h1, h2⟩ := aFm.1 hy
      rcases List.mem_cons.1 h1 with rfl | h1
      · omega
      · have := hx y h1; omega
    · rename_i hb
      refine List.pairwise_cons.2 ⟨fun y hy => ?_, cG.put hl⟩
      have := (pR b l).mem_iff.1 hy
      rcases List.mem_cons.1 this with rfl | h1
      · omega
      · exact hx y (aFm.1 h1).1
theorem aSa (s : List Body) (b : Body) (g : Bool) : (aCq s b g).length ≤ s.length + 1 := by
  rw [aKb]
  cases g with
  | true => have := List.length_filter_le (fun x : Body => decide (x.key ≠ b.key)) s; simp only [rK, nS]; omega
  | false =>
    rw [(pR b s).length_eq]
    have := List.length_filter_le (fun x : Body => decide (x.key ≠ b.key)) s
    simp only [nS, List.length_cons]; omega
def nJ (s : List Body) (b : Body) : List Body × Int :=
  if check b ≠ 0 then (s, check b) else if 0 ≤ dK b.key s then (s, 10) else if 4096 ≤ s.length then (s, 12) else (aCq s b false, 0)
def aKf (k : Int) : Body := ⟨k, 0, 0, 0, 0, 0, 0, 0, 0, 0⟩
def bAu (s : List Body) (b : Body) : List Body × Int :=
  if check b ≠ 0 then (s, check b) else if dK b.key s < 0 then (s, 11) else (aCq s b false, 0)
def zJ (l : List Body) : List Body := l.foldl (fun s b => (nJ s b).1) []
theorem aSw (s : List Body) (b : Body) : (nJ s b).1.length ≤ s.length + 1 := by
  unfold nJ
  (repeat' split) <;> first | exact Nat.le_succ _ | exact aSa s b false
theorem aLe {l : List Body} {k : Nat} {x : Body} (h : l[k]? = some x) : zJ (l.take (k + 1)) = (nJ (zJ (l.take k)) x).1 := by
  unfold zJ
  rw [cE h, List.foldl_append]
  rfl
theorem aRc (l : List Body) : (zJ l).length ≤ l.length := by
  have key : ∀ (l s : List Body), (l.foldl (fun s b => (nJ s b).1) s).length ≤ s.length + l.length := by
    intro l
    induction l with
    | nil => intro s; simp
    | cons b l ih =>
      intro s
      have h1 := ih (nJ s b).1
      have h2 := aSw s b
      simp only [List.foldl_cons, List.length_cons]
      omega
  have := key l []
  rw [List.length_nil, Nat.zero_add] at this
  exact this
structure Rel (m s : List Body) : Prop where
  perm : s.Perm m
  sorted : cG s
theorem Rel.nil : Rel [] [] := ⟨List.Perm.refl _, by simp [cG]⟩
theorem cG.unique {s t : List Body} (h : cG s) (h' : cG t) (p : s.Perm t) : s = t :=
  List.Perm.eq_of_pairwise (le := fun (a b : Body) => a.key < b.key) (fun a b _ _ h1 h2 => by omega) h h' p
theorem cG.keys {s : List Body} (h : cG s) : iI s := by
  unfold iI List.Nodup
  rw [List.pairwise_map]
  exact h.imp (fun h => by omega)
theorem Rel.keys {m s : List Body} (R : Rel m s) : iI m := R.sorted.keys.perm R.perm.symm
theorem Rel.find {m s : List Body} (R : Rel m s) (k : Int) : dK k s < 0 ↔ dK k m < 0 := by
  rw [lF, lF]
  exact ⟨fun h b hb => h b (R.perm.mem_iff.2 hb), fun h b hb => h b (R.perm.mem_iff.1 hb)⟩
theorem aMh {k : Int} {s : List Body} (h : dK k s < 0) : nS k s = s := List.filter_eq_self.2 fun x hx => by simpa using lF.1 h x hx
theorem Rel.put {m s : List Body} (R : Rel m s) (b : Body) {m' : List Body} (h : m'.Perm (b :: nS b.key m)) : Rel m' (aCq s b false) := by
  rw [aKb]
  exact ⟨((pR b s).trans ((R.perm.filter _).cons b)).trans h.symm, R.sorted.put⟩
theorem Rel.add {m s : List Body} (R : Rel m s) (b : Body) : Rel (tN m b).1 (nJ s b).1 ∧ (nJ s b).2 = (tN m b).2 := by
  unfold tN nJ
  have hf := R.find b.key
  have hl := R.perm.length_eq
  by_cases h1 : check b ≠ 0
  · rw [if_pos h1, if_pos h1]; exact ⟨R, rfl⟩
  · rw [if_neg h1, if_neg h1]
    by_cases h2 : 0 ≤ dK b.key m
    · have h2' : 0 ≤ dK b.key s := by omega
      rw [if_pos h2, if_pos h2']; exact ⟨R, rfl⟩
    · have h2' : ¬ 0 ≤ dK b.key s := by omega
      rw [if_neg h2, if_neg h2', hl]
      by_cases h3 : 4096 ≤ m.length
      · rw [if_pos h3, if_pos h3]; exact ⟨R, rfl⟩
      · rw [if_neg h3, if_neg h3]
        refine ⟨R.put b ?_, rfl⟩
        rw [aMh (by omega)]
        exact List.perm_append_singleton b m
theorem aIs {m : List Body} (h : iI m) {i : Nat} {b : Body} (hi : m[i]? = some b) : m.eraseIdx i = nS b.key m := by
  have e : m = m.take i ++ b :: m.drop (i + 1) := by
    have hlt := (List.getElem?_eq_some_iff.1 hi).1
    have hb : m[i] = b := (List.getElem?_eq_some_iff.1 hi).2
    rw [← hb, ← List.drop_eq_getElem_cons hlt, List.take_append_drop]
  have hne := zY h hi
  rw [List.eraseIdx_eq_take_drop_succ] at hne ⊢
  conv => rhs; rw [e]
  unfold nS
  rw [List.filter_append, List.filter_cons]
  simp only [ne_eq, not_true_eq_false, decide_false, Bool.false_eq_true, if_false]
  rw [List.filter_eq_self.2 (fun x hx => by simpa using hne x (List.mem_append_left _ hx)), List.filter_eq_self.2 (fun x hx => by simpa using hne x (List.mem_append_right _ hx))]
theorem aOl {m : List Body} {i : Nat} {x : Body} (hi : i < m.length) : (m.set i x).Perm (x :: m.eraseIdx i) := by
  rw [List.set_eq_take_append_cons_drop, if_pos hi, List.eraseIdx_eq_take_drop_succ]
  exact List.perm_middle
theorem Rel.set {m s : List Body} (R : Rel m s) (b : Body) : Rel (bAt m b).1 (bAu s b).1 ∧ (bAu s b).2 = (bAt m b).2 := by
  unfold bAt bAu
  have hf := R.find b.key
  by_cases h1 : check b ≠ 0
  · rw [if_pos h1, if_pos h1]; exact ⟨R, rfl⟩
  · rw [if_neg h1, if_neg h1]
    by_cases h : dK b.key m < 0
    · rw [if_pos h, if_pos (hf.2 h)]; exact ⟨R, rfl⟩
    · rw [if_neg h, if_neg (fun h' => h (hf.1 h'))]
      refine ⟨?_, rfl⟩
      rcases fF b.key m with ⟨h1, _⟩ | ⟨i, c, h1, h2, h3⟩
      · omega
      · rw [h3, Int.toNat_natCast]
        have hlt := (List.getElem?_eq_some_iff.1 h1).1
        refine R.put b ((aOl hlt).trans ?_)
        rw [aIs R.keys h1, h2]
theorem Rel.get {m s : List Body} (R : Rel m s) (k : Int) : (dK k s < 0 ∧ aNy m k = (aKf 0, 11)) ∨ ∃ (i : Nat) (b : Body), dK k s = (i : Int) ∧ s[i]? = some b ∧ aNy m k = (b, 0) := by
  rcases fF k s with ⟨h1, h2⟩ | ⟨i, b, h1, h2, h3⟩
  · have hm : dK k m < 0 := (R.find k).1 (by omega)
    refine .inl ⟨by omega, ?_⟩
    unfold aNy
    rw [if_pos hm]
    rfl
  · refine .inr ⟨i, b, h3, h1, ?_⟩
    have hb : b ∈ m := R.perm.mem_iff.1 (List.mem_of_getElem? h1)
    obtain ⟨j, hj⟩ := List.getElem?_of_mem hb
    have := yQ R.keys hj
    rw [h2] at this
    exact aNi this hj
theorem aFw {a b : Int} : oJ a b < 0 ↔ a < b := by unfold oJ; (repeat' split) <;> omega
def aIz (b : Body) : List Body → List Body
  | [] => [b]
  | x :: l => if b.key ≤ x.key then b :: x :: l else x :: aIz b l
def mJ (m : List Body) : List Body := m.foldr aIz []
theorem tO (b : Body) : ∀ l : List Body, (aIz b l).Perm (b :: l)
  | [] => List.Perm.refl _
  | x :: l => by
    unfold aIz
    split
    · exact List.Perm.refl _
    · exact ((tO b l).cons x).trans (List.Perm.swap b x l)
theorem jJ : ∀ m : List Body, (mJ m).Perm m
  | [] => List.Perm.refl _
  | b :: m => (tO b (mJ m)).trans ((jJ m).cons b)
def Up (s : List Body) : Prop := s.Pairwise (fun a b => a.key ≤ b.key)
theorem aJj (b : Body) : ∀ {l : List Body}, Up l → Up (aIz b l)
  | [], _ => by simp [aIz, Up]
  | x :: l, h => by
    unfold aIz
    have hx : ∀ y ∈ l, x.key ≤ y.key := (List.pairwise_cons.1 h).1
    split
    · rename_i hb
      refine List.pairwise_cons.2 ⟨fun y hy => ?_, h⟩
      rcases List.mem_cons.1 hy with rfl | hy
      · exact hb
      · have := hx y hy; omega
    · refine List.pairwise_cons.2 ⟨fun y hy => ?_, aJj b (List.pairwise_cons.1 h).2⟩
      have := (tO b l).mem_iff.1 hy
      rcases List.mem_cons.1 this with rfl | h1
      · omega
      · exact hx y h1
theorem aDo : ∀ m : List Body, Up (mJ m)
  | [] => by simp [mJ, Up]
  | b :: m => aJj b (aDo m)
theorem aNg {s : List Body} (h : Up s) (hk : iI s) : cG s := by
  unfold Up at h
  unfold iI List.Nodup at hk
  rw [List.pairwise_map] at hk
  exact (List.Pairwise.and h hk).imp (fun ⟨h1, h2⟩ => by omega)
theorem aAc {m : List Body} (hk : iI m) : Rel m (mJ m) := ⟨jJ m, aNg (aDo m) (hk.perm (jJ m))⟩
theorem Rel.eq {m s : List Body} (R : Rel m s) : mJ m = s := (aAc R.keys).sorted.unique R.sorted ((jJ m).trans R.perm.symm)
theorem oB (m : List Body) : ∀ y ∈ m.map aI, y.length = 10 := by
  intro y hy
  obtain ⟨b, _, rfl⟩ := List.mem_map.1 hy
  rfl
end Go.Bil
namespace Go.Bil
structure InB (b : Body) : Prop where
  key : 0 ≤ b.key ∧ b.key ≤ 4294967295
  radius : -2147483648 ≤ b.radius ∧ b.radius ≤ 2147483647
  ax : -2147483648 ≤ b.ax ∧ b.ax ≤ 2147483647
  ay : -2147483648 ≤ b.ay ∧ b.ay ≤ 2147483647
  mass : -2147483648 ≤ b.mass ∧ b.mass ≤ 2147483647
  bounce : -2147483648 ≤ b.bounce ∧ b.bounce ≤ 2147483647
  px : -2147483648 ≤ b.px ∧ b.px ≤ 2147483647
  py : -2147483648 ≤ b.py ∧ b.py ≤ 2147483647
  vx : -2147483648 ≤ b.vx ∧ b.vx ≤ 2147483647
  vy : -2147483648 ≤ b.vy ∧ b.vy ≤ 2147483647
theorem aYs (l : List Value) (h : kX [.u32, .i32, .i32, .i32, .i32, .i32, .i32, .i32, .i32, .i32] l) : ∃ b, l = aI b ∧ InB b := by
  obtain ⟨z0, l0, rfl, w0, h0⟩ := hJ h
  obtain ⟨z1, l1, rfl, w1, h1⟩ := hJ h0
  obtain ⟨z2, l2, rfl, w2, h2⟩ := hJ h1
  obtain ⟨z3, l3, rfl, w3, h3⟩ := hJ h2
  obtain ⟨z4, l4, rfl, w4, h4⟩ := hJ h3
  obtain ⟨z5, l5, rfl, w5, h5⟩ := hJ h4
  obtain ⟨z6, l6, rfl, w6, h6⟩ := hJ h5
  obtain ⟨z7, l7, rfl, w7, h7⟩ := hJ h6
  obtain ⟨z8, l8, rfl, w8, h8⟩ := hJ h7
  obtain ⟨z9, l9, rfl, w9, h9⟩ := hJ h8
  obtain rfl := aPt h9
  exact ⟨⟨z0, z1, z2, z3, z4, z5, z6, z7, z8, z9⟩, rfl, ⟨w0, w1, w2, w3, w4, w5, w6, w7, w8, w9⟩⟩
end Go.Bil

namespace Go.Bil
def sK (l : List Body) : List Body := l.foldl (fun m b => (tN m b).1) []
theorem aHb {l : List Body} {k : Nat} {x : Body} (h : l[k]? = some x) : sK (l.take (k + 1)) = (tN (sK (l.take k)) x).1 := by
  unfold sK
  rw [cE h, List.foldl_append]
  rfl
theorem aLr : ∀ l : List Body, Rel (sK l) (zJ l) := by
  have key : ∀ (l m s : List Body), Rel m s → Rel (l.foldl (fun m b => (tN m b).1) m) (l.foldl (fun s b => (nJ s b).1) s) := by
    intro l
    induction l with
    | nil => intro m s h; exact h
    | cons b l ih => intro m s h; exact ih _ _ (h.add b).1
  exact fun l => key l [] [] Rel.nil
def uY (l : List Body) : List Body := l.filter (fun b => decide (check b = 0))
theorem aSq {m : List Body} {x : Body} (hf : ∀ b ∈ m, b.key ≠ x.key) (hl : m.length < 4096) : tN (uY m) x = (uY (m ++ [x]), check x) := by
  have hle : (uY m).length ≤ m.length := List.length_filter_le _ _
  unfold tN
  by_cases h : check x = 0
  · rw [if_neg (by omega), if_neg (by
      have : dK x.key (uY m) < 0 := lF.2 fun b hb => hf b (List.mem_filter.1 hb).1
      omega), if_neg (by omega), h]
    simp [uY, List.filter_append, h]
  · rw [if_pos h]
    simp [uY, List.filter_append, h]
theorem aEx {l : List Body} (h : iI l) {k : Nat} {x : Body} (hx : l[k]? = some x) : ∀ b ∈ l.take k, b.key ≠ x.key := by
  intro b hb e
  obtain ⟨j, hj⟩ := List.getElem?_of_mem hb
  rw [List.getElem?_take] at hj
  split at hj
  · rename_i hlt
    have := h.inj hj hx e
    omega
  · cases hj
theorem xO {l : List Body} (h : iI l) (hl : l.length ≤ 4096) : ∀ k, k ≤ l.length → sK (l.take k) = uY (l.take k)
  | 0, _ => by simp [sK, uY]
  | k + 1, hk => by
    obtain ⟨x, hx⟩ := dA (xs := l) (k := k) rfl (by omega)
    rw [aHb hx, xO h hl k (by omega), aSq (aEx h hx) (by rw [List.length_take]; omega), cE hx]
end Go.Bil
namespace Go.Bil
structure StepI where
  kind : Int
  body : Body
instance : Inhabited StepI := ⟨⟨0, aKf 0⟩⟩
end Go.Bil

namespace Go.Bil
def jY : List Body → Int
  | [] => 0
  | b :: l => if check b ≠ 0 then check b else jY l
def kS (xs : List Body) : Int := if 4096 < xs.length then 12 else jY xs
theorem mT : ∀ {xs : List Body}, (∀ (j : Nat) (c : Body), xs[j]? = some c → check c = 0) → jY xs = 0
  | [], _ => rfl
  | b :: l, h => by
    unfold jY
    rw [if_neg (by have := h 0 b (by simp); omega)]
    exact mT fun j c hj => h (j + 1) c (by simpa using hj)
theorem uZ : ∀ {xs : List Body} {k : Nat} {b : Body}, xs[k]? = some b → check b ≠ 0 → (∀ (j : Nat) (c : Body), j < k → xs[j]? = some c → check c = 0) → jY xs = check b
  | [], _, _, h, _, _ => by simp at h
  | a :: l, 0, b, h, hb, _ => by
    simp only [List.getElem?_cons_zero, Option.some.injEq] at h
    subst h
    unfold jY
    rw [if_pos hb]
  | a :: l, k + 1, b, h, hb, hn => by
    unfold jY
    rw [if_neg (by have := hn 0 a (by omega) (by simp); omega)]
    exact uZ (by simpa using h) hb fun j c hj hc => hn (j + 1) c (by omega) (by simpa using hc)
theorem sT : ∀ {xs : List Body}, jY xs = 0 → ∀ b ∈ xs, check b = 0
  | [], _, b, hb => by simp at hb
  | a :: l, h, b, hb => by
    unfold jY at h
    by_cases ha : check a = 0
    · rw [if_neg (by omega)] at h
      rcases List.mem_cons.1 hb with rfl | hb
      · exact ha
      · exact sT h b hb
    · rw [if_pos ha] at h; exact absurd h ha
theorem xQ {xs : List Body} (h : kS xs = 0) : xs.length ≤ 4096 ∧ ∀ b ∈ xs, check b = 0 := by
  unfold kS at h
  split at h
  · omega
  · exact ⟨by omega, sT h⟩
theorem aOv {xs : List Body} (hl : xs.length ≤ 4096) (h : ∀ b ∈ xs, check b = 0) : kS xs = 0 := by
  unfold kS
  rw [if_neg (by omega)]
  exact mT fun j c hj => h c (List.mem_of_getElem? hj)
def aYc : List Body → Bool
  | x :: y :: l => decide (x.key < y.key) && aYc (y :: l)
  | _ => true
theorem mH : ∀ {xs : List Body}, aYc xs = true → cG xs
  | [], _ => by simp [cG]
  | [_], _ => by simp [cG]
  | x :: y :: l, h => by
    unfold aYc at h
    rw [Bool.and_eq_true, decide_eq_true_eq] at h
    have ih := mH h.2
    refine List.pairwise_cons.2 ⟨fun z hz => ?_, ih⟩
    rcases List.mem_cons.1 hz with rfl | hz
    · exact h.1
    · have := (List.pairwise_cons.1 ih).1 z hz; have := h.1; omega
instance (m : List Body) : Decidable (iI m) := by unfold iI; infer_instance
def lL (xs : List Body) : List Body × Int := if kS xs ≠ 0 then ([], kS xs) else if iI xs then (mJ xs, 0) else ([], 10)
theorem aGh : ∀ (l m : List Body), ∃ t, List.Sublist t l ∧ l.foldl (fun m b => (tN m b).1) m = m ++ t
  | [], m => ⟨[], by simp, by simp⟩
  | b :: l, m => by
    simp only [List.foldl_cons]
    obtain ⟨t, h1, h2⟩ := aGh l (tN m b).1
    have hb : (tN m b).1 = m ∨ (tN m b).1 = m ++ [b] := by
      unfold tN
      (repeat' split) <;> simp
    rcases hb with hb | hb
    · exact ⟨t, h1.cons b, by rw [h2, hb]⟩
    · exact ⟨b :: t, h1.cons_cons b, by rw [h2, hb]; simp⟩
theorem aMu {xs : List Body} (he : kS xs = 0) : (iI xs → zJ xs = mJ xs) ∧ ((zJ xs).length < xs.length ↔ ¬ iI xs) := by
  obtain ⟨h1, h2⟩ := xQ he
  have hrel := aLr xs
  have hlen := hrel.perm.length_eq
  obtain ⟨t, ht1, ht2⟩ := aGh xs []
  have ht : sK xs = t := by simpa [sK] using ht2
  have hkeys : iI xs → sK xs = xs := fun hk => by
    have := xO hk h1 xs.length (Nat.le_refl _)
    rw [List.take_length] at this
    rw [this]
    exact List.filter_eq_self.2 fun b hb => by simpa using h2 b hb
  refine ⟨fun hk => ?_, ?_, ?_⟩
  · have := hrel.eq
    rw [hkeys hk] at this
    exact this.symm
  · intro hl hk
    rw [hlen, hkeys hk] at hl
    omega
  · intro hk
    rw [hlen, ht]
    rcases Nat.lt_or_ge t.length xs.length with h | h
    · exact h
    · exfalso
      have : t = xs := ht1.eq_of_length_le h
      exact hk (by rw [← this, ← ht]; exact hrel.keys)
def uC (key : Int) : List Body → Nat
  | [] => 0
  | b :: l => (if b.key < key then 1 else 0) + uC key l
theorem rU {key : Int} : ∀ {xs : List Body} {k : Nat}, k ≤ xs.length → (∀ (j : Nat) (c : Body), j < k → xs[j]? = some c → c.key < key) → (∀ (j : Nat) (c : Body), k ≤ j → xs[j]? = some c → ¬ c.key < key) → uC key xs = k
  | [], k, hk, _, _ => by simp at hk; simp [uC, hk]
  | b :: l, 0, _, _, h2 => by
    unfold uC
    rw [if_neg (h2 0 b (Nat.le_refl _) (by simp)), rU (k := 0) (by omega) (fun j c hj => by omega) (fun j c _ hc => h2 (j + 1) c (by omega) (by simpa using hc))]
  | b :: l, k + 1, hk, h1, h2 => by
    unfold uC
    rw [if_pos (h1 0 b (by omega) (by simp)), rU (k := k) (by simpa using hk) (fun j c hj hc => h1 (j + 1) c (by omega) (by simpa using hc)) (fun j c hj hc => h2 (j + 1) c (by omega) (by simpa using hc))]
    omega
def jD (k : Int) : List Value := [.int .u32 k]
end Go.Bil
namespace Go.Bil
theorem uG {xs : List Body} (h : cG xs) {p q : Nat} {a b : Body} (hpq : p ≤ q) (ha : xs[p]? = some a) (hb : xs[q]? = some b) : a.key ≤ b.key := by
  by_cases e : p = q
  · subst e
    rw [ha] at hb
    injection hb with hb
    rw [hb]; exact Int.le_refl _
  · have hi := List.getElem?_eq_some_iff.1 ha
    have hj := List.getElem?_eq_some_iff.1 hb
    have := List.pairwise_iff_getElem.1 h p q hi.1 hj.1 (by omega)
    rw [hi.2, hj.2] at this
    omega
theorem bCx (i j : Nat) : ((i : Int) + (j : Int)).fdiv (2 ^ (min (1 : Int).toNat IntKind.u64.bits)) = (((i + j) / 2 : Nat) : Int) := by
  have e : (2 : Int) ^ (min (1 : Int).toNat IntKind.u64.bits) = 2 := by decide
  rw [e, Int.fdiv_eq_ediv_of_nonneg _ (by omega)]
  omega
theorem oA {a b a' b' : Value} (h1 : a = a') (h2 : b = b') : Value.tuple #[a, b] = Value.tuple #[a', b'] := by rw [h1, h2]
theorem aLz {a b : Int} : oJ a b = 0 ↔ a = b := by unfold oJ; (repeat' split) <;> omega
theorem aLq {key : Int} {xs : List Body} (hs : cG xs) {i : Nat} {b : Body} (hb : xs[i]? = some b) (h1 : ∀ (j : Nat) (c : Body), j < i → xs[j]? = some c → c.key < key) (h2 : ∀ (j : Nat) (c : Body), i ≤ j → xs[j]? = some c → ¬ c.key < key) : oJ b.key key = 0 ↔ 0 ≤ dK key xs := by
  rw [aLz]
  constructor
  · intro e
    rcases fF key xs with ⟨_, h⟩ | ⟨_, _, _, _, h⟩
    · exact absurd e (h b (List.mem_of_getElem? hb))
    · omega
  · intro h
    rcases fF key xs with ⟨h', _⟩ | ⟨j, c, hc, hk, _⟩
    · omega
    · have hij : i ≤ j := by
        rcases Nat.lt_or_ge j i with hlt | hge
        · have := h1 j c hlt hc; omega
        · exact hge
      have := uG hs hij hb hc
      have := h2 i b (Nat.le_refl _) hb
      omega
theorem aGq {key : Int} {xs : List Body} (h1 : ∀ (j : Nat) (c : Body), j < xs.length → xs[j]? = some c → c.key < key) : ¬ 0 ≤ dK key xs := by
  intro h
  rcases fF key xs with ⟨h', _⟩ | ⟨j, c, hc, hk, _⟩
  · omega
  · have := h1 j c (List.getElem?_eq_some_iff.1 hc).1 hc
    omega
end Go.Bil
namespace Go.Bil
end Go.Bil
namespace Go.Bil
end Go.Bil
namespace Go.Bil
theorem aGy (k : Int) : ∀ y ∈ [jD k], y.length = 1 ∧ ∀ u ∈ y, one u = true := by
  intro y hy
  simp only [List.mem_singleton] at hy
  subst hy
  exact ⟨rfl, bA rfl⟩
end Go.Bil
namespace Go.Bil
structure Mg (xs ys : List Body) (i k : Nat) : Prop where
  sx : cG xs
  sy : cG ys
  yx : ∀ (p : Nat) (a b : Body), p < k → ys[p]? = some a → xs[i]? = some b → a.key < b.key
  xy : ∀ (p : Nat) (a b : Body), p < i → xs[p]? = some a → ys[k]? = some b → a.key < b.key
theorem Mg.swap {xs ys : List Body} {i k : Nat} (h : Mg xs ys i k) : Mg ys xs k i := ⟨h.sy, h.sx, h.xy, h.yx⟩
theorem dY {xs : List Body} (h : cG xs) {p q : Nat} {a b : Body} (hpq : p < q) (ha : xs[p]? = some a) (hb : xs[q]? = some b) : a.key < b.key := by
  have hi := List.getElem?_eq_some_iff.1 ha
  have hj := List.getElem?_eq_some_iff.1 hb
  have := List.pairwise_iff_getElem.1 h p q hi.1 hj.1 hpq
  rwa [hi.2, hj.2] at this
theorem Mg.x {xs ys : List Body} {i k : Nat} {a : Body} (h : Mg xs ys i k) (ha : xs[i]? = some a) (hb : ∀ b, ys[k]? = some b → a.key < b.key) : Mg xs ys (i + 1) k ∧ dK a.key ys < 0 := by
  refine ⟨⟨h.sx, h.sy, fun p y x hp hy hx => ?_, fun p x y hp hx hy => ?_⟩, lF.2 fun y hy => ?_⟩
  · have := h.yx p y a hp hy ha
    have := dY h.sx (Nat.lt_succ_self i) ha hx
    omega
  · by_cases e : p = i
    · subst e
      rw [ha] at hx
      injection hx with hx
      subst hx
      exact hb y hy
    · exact h.xy p x y (by omega) hx hy
  · obtain ⟨q, hq⟩ := List.getElem?_of_mem hy
    rcases Nat.lt_or_ge q k with hlt | hge
    · have := h.yx q y a hlt hq ha; omega
    · obtain ⟨b, hbk⟩ := dA (xs := ys) (k := k) rfl (by have := (List.getElem?_eq_some_iff.1 hq).1; omega)
      have h1 := hb b hbk
      have h2 := uG h.sy hge hbk hq
      omega
theorem Mg.y {xs ys : List Body} {i k : Nat} {b : Body} (h : Mg xs ys i k) (hb : ys[k]? = some b) (ha : ∀ a, xs[i]? = some a → b.key < a.key) : Mg xs ys i (k + 1) ∧ dK b.key xs < 0 := by
  obtain ⟨h1, h2⟩ := h.swap.x hb ha
  exact ⟨h1.swap, h2⟩
theorem Mg.both {xs ys : List Body} {i k : Nat} {a b : Body} (h : Mg xs ys i k) (ha : xs[i]? = some a) (hb : ys[k]? = some b) (hk : a.key = b.key) : Mg xs ys (i + 1) (k + 1) ∧ dK a.key ys = (k : Int) ∧ dK b.key xs = (i : Int) := by
  refine ⟨⟨h.sx, h.sy, fun p y x hp hy hx => ?_, fun p x y hp hx hy => ?_⟩, ?_, ?_⟩
  · have h1 := dY h.sx (Nat.lt_succ_self i) ha hx
    have h2 := uG h.sy (show p ≤ k by omega) hy hb
    omega
  · have h1 := dY h.sy (Nat.lt_succ_self k) hb hy
    have h2 := uG h.sx (show p ≤ i by omega) hx ha
    omega
  · exact sP hb hk.symm fun j c hj hc => by have := dY h.sy hj hc hb; omega
  · exact sP ha hk fun j c hj hc => by have := dY h.sx hj hc ha; omega
end Go.Bil
namespace Go.Bil
end Go.Bil
namespace Go.Bil
end Go.Bil
namespace Go.Bil
end Go.Bil
namespace Go.Bil
theorem aQr {xs : List Body} (h : (lL xs).2 = 0) : iI xs ∧ kS xs = 0 ∧ (lL xs).1 = mJ xs := by
  unfold lL at *
  by_cases h1 : kS xs = 0
  · rw [if_neg (by omega)] at h ⊢
    by_cases h2 : iI xs
    · rw [if_pos h2]; exact ⟨h2, h1, rfl⟩
    · rw [if_neg h2] at h; simp at h
  · rw [if_pos h1] at h; exact absurd h h1
theorem aRb {xs : List Body} (hk : iI xs) : cG (mJ xs) := (aAc hk).sorted
end Go.Bil
namespace Go.Bil
end Go.Bil
namespace Go.Bil
end Go.Bil

namespace Go.Bil
theorem aMf {xs : List Body} (he : kS xs = 0) : kS (mJ xs) = 0 := by
  obtain ⟨h1, h2⟩ := xQ he
  exact aOv (by rw [(jJ xs).length_eq]; exact h1) fun b hb => h2 b ((jJ xs).mem_iff.1 hb)
theorem aMi (xs : List Body) : (lL xs).1.length ≤ xs.length := by
  unfold lL
  split
  · simp
  · split
    · simpa using Nat.le_of_eq (jJ xs).length_eq
    · simp
end Go.Bil

namespace Go.Bil
structure Bx where
  x0 : Int
  y0 : Int
  x1 : Int
  y1 : Int
  deriving DecidableEq, Inhabited
def dV (a : Bx) : List Value := [.int .i32 a.x0, .int .i32 a.y0, .int .i32 a.x1, .int .i32 a.y1]
def aIm (b : Body) : Int := max b.ax (-b.ax) + b.radius
def aHu (b : Body) : Int := max b.ay (-b.ay) + b.radius
def fE (b : Body) : Bx := ⟨b.px - aIm b, b.py - aHu b, b.px + aIm b, b.py + aHu b⟩
abbrev gP (a : Bx) : Prop := a.x1 < a.x0 ∨ a.y1 < a.y0
def kA : Bx := ⟨1, 0, 0, 0⟩
def aAw (a b : Bx) : Bx := if gP ⟨max a.x0 b.x0, max a.y0 b.y0, min a.x1 b.x1, min a.y1 b.y1⟩ then kA else ⟨max a.x0 b.x0, max a.y0 b.y0, min a.x1 b.x1, min a.y1 b.y1⟩
abbrev ovl (a b : Bx) : Prop := (a.x0 ≤ a.x1 ∧ a.y0 ≤ a.y1) ∧ (b.x0 ≤ b.x1 ∧ b.y0 ≤ b.y1) ∧ (a.x0 ≤ b.x1 ∧ b.x0 ≤ a.x1 ∧ a.y0 ≤ b.y1 ∧ b.y0 ≤ a.y1)
theorem aPp (a b : Bx) : ¬ gP (aAw a b) ↔ ovl a b := by
  unfold aAw
  split
  · rename_i h
    unfold gP at h
    simp only [gP, kA, ovl]
    simp only at h
    omega
  · rename_i h
    unfold gP at h
    simp only [gP, ovl]
    simp only at h
    omega
structure Okb (b : Body) : Prop where
  r : 4096 ≤ b.radius ∧ b.radius ≤ 4194304
  a : -4194304 ≤ b.ax ∧ b.ax ≤ 4194304 ∧ -4194304 ≤ b.ay ∧ b.ay ≤ 4194304
  m : 0 ≤ b.mass ∧ b.mass ≤ 1048576
  c : 0 ≤ b.bounce ∧ b.bounce ≤ 65536
  p : -1073741824 ≤ b.px ∧ b.px ≤ 1073741824 ∧ -1073741824 ≤ b.py ∧ b.py ≤ 1073741824
  v : -16777216 ≤ b.vx ∧ b.vx ≤ 16777216 ∧ -16777216 ≤ b.vy ∧ b.vy ≤ 16777216
theorem rR {b : Body} (h : check b = 0) : Okb b := by
  by_cases h1 : 4096 ≤ b.radius ∧ b.radius ≤ 4194304
  · by_cases h2 : -4194304 ≤ b.ax ∧ b.ax ≤ 4194304 ∧ -4194304 ≤ b.ay ∧ b.ay ≤ 4194304
    · by_cases h3 : 0 ≤ b.mass ∧ b.mass ≤ 1048576
      · by_cases h4 : 0 ≤ b.bounce ∧ b.bounce ≤ 65536
        · by_cases h5 : -1073741824 ≤ b.px ∧ b.px ≤ 1073741824 ∧ -1073741824 ≤ b.py ∧ b.py ≤ 1073741824
          · by_cases h6 : -16777216 ≤ b.vx ∧ b.vx ≤ 16777216 ∧ -16777216 ≤ b.vy ∧ b.vy ≤ 16777216
            · exact ⟨h1, h2, h3, h4, h5, h6⟩
            · rw [aTa b h1 h2 h3 h4 h5 h6] at h; omega
          · rw [aVq b h1 h2 h3 h4 h5] at h; omega
        · rw [aTt b h1 h2 h3 h4] at h; omega
      · rw [aUb b h1 h2 h3] at h; omega
    · rw [aTp b h1 h2] at h; omega
  · rw [aVs b h1] at h; omega
theorem aSi {b : Body} (h : Okb b) : 4096 ≤ aIm b ∧ aIm b ≤ 8388608 ∧ 4096 ≤ aHu b ∧ aHu b ≤ 8388608 := by
  have := h.r
  have := h.a
  unfold aIm aHu
  omega
structure Okx (a : Bx) : Prop where
  x0 : -2147483648 ≤ a.x0 ∧ a.x0 ≤ 2147483647
  y0 : -2147483648 ≤ a.y0 ∧ a.y0 ≤ 2147483647
  x1 : -2147483648 ≤ a.x1 ∧ a.x1 ≤ 2147483647
  y1 : -2147483648 ≤ a.y1 ∧ a.y1 ≤ 2147483647
theorem bAk {b : Body} (h : Okb b) : Okx (fE b) := by
  have h1 := aSi h
  have h2 := h.p
  constructor <;> simp only [fE] <;> omega
end Go.Bil

namespace Go.Bil
def cV (c : Int × Int) : List Value := [.int .i32 c.1, .int .i32 c.2]
def lT (x : Int) : Int := x.fdiv 4194304
theorem aVz (x : Int) : x.fdiv (2 ^ (min (22 : Int).toNat IntKind.i32.bits)) = lT x := rfl
theorem aBo (x : Int) : lT x = x / 4194304 := by unfold lT; exact Int.fdiv_eq_ediv_of_nonneg x (by decide)
theorem oG {x : Int} (h0 : -2147483648 ≤ x) (h1 : x ≤ 2147483647) : -512 ≤ lT x ∧ lT x ≤ 511 := by rw [aBo]; omega
theorem jP {x y : Int} (h : x ≤ y) : lT x ≤ lT y := by rw [aBo, aBo]; omega
def loC (a : Bx) : Int × Int := if gP a then (0, 0) else (lT a.x0, lT a.y0)
def hiC (a : Bx) : Int × Int := if gP a then (0, 0) else (lT a.x1, lT a.y1)
def nX (lo hi : Int × Int) : Nat := (hi.1 - lo.1 + 1).toNat
def nY (lo hi : Int × Int) : Nat := (hi.2 - lo.2 + 1).toNat
def xL (lo : Int × Int) (i j : Nat) : List (Int × Int) := (List.range i).map (fun (p : Nat) => (lo.1 + (p : Int), lo.2 + (j : Int)))
def lV (lo hi : Int × Int) (j : Nat) : List (Int × Int) := (List.range j).flatMap (fun q => xL lo (nX lo hi) q)
def tP (ok : Bool) (lo hi : Int × Int) : List (Int × Int) := if ok then lV lo hi (nY lo hi) else []
def gL (a : Bx) : List (Int × Int) := tP (decide (¬ gP a)) (loC a) (hiC a)
theorem aEk (lo : Int × Int) (i j : Nat) : (xL lo i j).length = i := by simp [xL]
theorem aMe (lo : Int × Int) (i j : Nat) : xL lo (i + 1) j = xL lo i j ++ [(lo.1 + (i : Int), lo.2 + (j : Int))] := by simp [xL, List.range_succ]
theorem xA (lo hi : Int × Int) (j : Nat) : lV lo hi (j + 1) = lV lo hi j ++ xL lo (nX lo hi) j := by simp [lV, List.range_succ]
theorem tM (lo hi : Int × Int) : ∀ j, (lV lo hi j).length = j * nX lo hi
  | 0 => by simp [lV]
  | j + 1 => by rw [xA, List.length_append, tM lo hi j, aEk, Nat.add_mul, Nat.one_mul]
theorem aOi {lo hi : Int × Int} {i j : Nat} (hx : nX lo hi ≤ 1024) (hj : j < 1024) (hi' : i < nX lo hi) : (lV lo hi j).length + i < 1048576 := by
  rw [tM]
  have : j * nX lo hi ≤ 1023 * 1024 := Nat.mul_le_mul (by omega) hx
  omega
theorem aSh {lo hi : Int × Int} {j : Nat} (hx : nX lo hi ≤ 1024) (hj : j ≤ 1024) : (lV lo hi j).length ≤ 1048576 := by
  rw [tM]
  exact Nat.mul_le_mul hj hx
theorem aMp {lo hi : Int × Int} {n : Nat} {c : Int × Int} : c ∈ lV lo hi n ↔ ∃ q p : Nat, q < n ∧ p < nX lo hi ∧ c = (lo.1 + (p : Int), lo.2 + (q : Int)) := by
  simp only [lV, xL, List.mem_flatMap, List.mem_range, List.mem_map]
  constructor
  · rintro ⟨q, hq, p, hp, rfl⟩; exact ⟨q, p, hq, hp, rfl⟩
  · rintro ⟨q, p, hq, hp, rfl⟩; exact ⟨q, hq, p, hp, rfl⟩
theorem wG {a : Bx} {c : Int × Int} : c ∈ gL a ↔ ¬ gP a ∧ lT a.x0 ≤ c.1 ∧ c.1 ≤ lT a.x1 ∧ lT a.y0 ≤ c.2 ∧ c.2 ≤ lT a.y1 := by
  unfold gL tP
  by_cases h : gP a
  · simp [h]
  · rw [if_pos (by simpa using h), aMp]
    simp only [loC, hiC, if_neg h, nX, nY]
    constructor
    · rintro ⟨q, p, hq, hp, rfl⟩
      refine ⟨h, ?_⟩
      simp only
      omega
    · rintro ⟨_, h1, h2, h3, h4⟩
      refine ⟨(c.2 - lT a.y0).toNat, (c.1 - lT a.x0).toNat, by omega, by omega, ?_⟩
      apply Prod.ext <;> simp only <;> omega
structure Okc (c : Int × Int) : Prop where
  x : -512 ≤ c.1 ∧ c.1 ≤ 511
  y : -512 ≤ c.2 ∧ c.2 ≤ 511
theorem aGt {a : Bx} (h : Okx a) : Okc (loC a) := by
  unfold loC
  split
  · exact ⟨by decide, by decide⟩
  · exact ⟨oG h.x0.1 h.x0.2, oG h.y0.1 h.y0.2⟩
theorem aIj {a : Bx} (h : Okx a) : Okc (hiC a) := by
  unfold hiC
  split
  · exact ⟨by decide, by decide⟩
  · exact ⟨oG h.x1.1 h.x1.2, oG h.y1.1 h.y1.2⟩
theorem aWc {lo hi : Int × Int} (h1 : Okc lo) (h2 : Okc hi) : nX lo hi ≤ 1024 := by
  have := h1.x; have := h2.x
  unfold nX
  omega
theorem aXd {lo hi : Int × Int} (h1 : Okc lo) (h2 : Okc hi) : nY lo hi ≤ 1024 := by
  have := h1.y; have := h2.y
  unfold nY
  omega
theorem aHr {a : Bx} (h : Okx a) : (gL a).length ≤ 1048576 := by
  unfold gL tP
  split
  · exact aSh (aWc (aGt h) (aIj h)) (aXd (aGt h) (aIj h))
  · simp
theorem aRq {a b : Bx} (h : ovl a b) : ∃ c, c ∈ gL a ∧ c ∈ gL b := by
  obtain ⟨⟨h1, h2⟩, ⟨h3, h4⟩, h5, h6, h7, h8⟩ := h
  refine ⟨(lT (max a.x0 b.x0), lT (max a.y0 b.y0)), wG.2 ⟨by unfold gP; omega, ?_⟩, wG.2 ⟨by unfold gP; omega, ?_⟩⟩
  · exact ⟨jP (by omega), jP (by omega), jP (by omega), jP (by omega)⟩
  · exact ⟨jP (by omega), jP (by omega), jP (by omega), jP (by omega)⟩
def pX (c : Int × Int) : Int :=
  IntKind.u32.wrap ((BitVec.ofInt 32 (IntKind.u32.wrap ((BitVec.ofInt 32 (IntKind.u32.wrap (IntKind.u32.wrap c.1 * 73856093)) ^^^ BitVec.ofInt 32 (IntKind.u32.wrap (IntKind.u32.wrap c.2 * 19349663))).toNat)) &&& BitVec.ofInt 32 1023).toNat)
def dU (c : Int × Int) : Nat := (pX c).toNat
theorem kJ (c : Int × Int) : 0 ≤ pX c ∧ pX c < 1024 := by
  unfold pX
  generalize BitVec.ofInt 32 (IntKind.u32.wrap _) = a
  have h : (a &&& BitVec.ofInt 32 1023).toNat ≤ 1023 := by
    rw [BitVec.toNat_and]
    exact Nat.le_trans Nat.and_le_right (by decide)
  rw [bBf _ (by omega) (by omega)]
  omega
theorem jR (c : Int × Int) : dU c < 1024 := by have := kJ c; unfold dU; omega
theorem aNh (c : Int × Int) : pX c = (dU c : Int) := by have := kJ c; unfold dU; omega
end Go.Bil
