/- Part of the proof of the laws of this seat: Md4, Md5, Md7, Md8, MdB, MdC. No conditions. -/
import Derived.Test.YtlmcphcgiclanaaGreatDoorK4
import Derived.Test.YtlmcphcgiclanaaGreatDoorK3
set_option linter.unusedVariables false
set_option linter.unusedSimpArgs false
set_option linter.unnecessarySimpa false
namespace Go.Bil
def bL (s : List Body) : Prop := s.Pairwise (fun a b => a.key < b.key)
def lD (k : Int) (s : List Body) : List Body := s.filter (fun x => decide (x.key ≠ k))
def oJ (b : Body) : Bool → List Body → List Body
  | true, s => lD b.key s
  | false, [] => [b]
  | false, x :: l => if b.key ≤ x.key then b :: lD b.key (x :: l) else x :: oJ b false l
def aTd (b : Body) (r : List Body × Bool) : List Body := if r.2 then r.1 else r.1 ++ [b]
theorem lM (b : Body) : ∀ (s acc : List Body) (d : Bool), aTd b (s.foldl (dF b) (acc, d)) = acc ++ oJ b d s
  | [], acc, true => by simp [oJ, lD, aTd]
  | [], acc, false => by simp [oJ, aTd]
  | x :: l, acc, true => by
    have ih := lM b l (if x.key ≠ b.key then acc ++ [x] else acc) true
    rw [List.foldl_cons]
    have e : dF b (acc, true) x = (if x.key ≠ b.key then acc ++ [x] else acc, true) := by unfold dF; by_cases h : x.key = b.key <;> simp [h]
    rw [e, ih]
    by_cases h : x.key = b.key <;> simp [oJ, lD, h]
  | x :: l, acc, false => by
    rw [List.foldl_cons]
    by_cases hb : b.key ≤ x.key
    · have ih := lM b l (if x.key ≠ b.key then acc ++ [b] ++ [x] else acc ++ [b]) true
      have e : dF b (acc, false) x = (if x.key ≠ b.key then acc ++ [b] ++ [x] else acc ++ [b], true) := by unfold dF; by_cases h : x.key = b.key <;> simp [h, hb]
      rw [e, ih]
      by_cases h : x.key = b.key <;> simp [oJ, lD, h, hb]
    · have hne : x.key ≠ b.key := by omega
      have ih := lM b l (acc ++ [x]) false
      have e : dF b (acc, false) x = (acc ++ [x], false) := by unfold dF; simp [hb, hne]
      rw [e, ih]
      simp [oJ, hb]
theorem aFt (s : List Body) (b : Body) (g : Bool) : zF s b g = oJ b g s := by
  have := lM b s [] g
  rw [List.nil_append] at this
  exact this
theorem nD (b : Body) : ∀ s : List Body, (oJ b false s).Perm (b :: lD b.key s)
  | [] => by simp [oJ, lD]
  | x :: l => by
    unfold oJ
    split
    · exact List.Perm.refl _
    · rename_i h
      have hne : x.key ≠ b.key := by omega
      have e : lD b.key (x :: l) = x :: lD b.key l := by simp [lD, hne]
      rw [e]
      exact ((nD b l).cons x).trans (List.Perm.swap b x _)
theorem zV {k : Int} {s : List Body} {x : Body} : x ∈ lD k s ↔ x ∈ s ∧ x.key ≠ k := by simp [lD]
theorem bL.cut {s : List Body} (h : bL s) (k : Int) : bL (lD k s) := List.Pairwise.sublist List.filter_sublist h
theorem bL.put {b : Body} : ∀ {s : List Body}, bL s → bL (oJ b false s)
  | [], _ => by simp [oJ, bL]
  | x :: l, h => by
    unfold oJ
    have hx : ∀ y ∈ l, x.key < y.key := (List.pairwise_cons.1 h).1
    have hl : bL l := (List.pairwise_cons.1 h).2
    split
    · rename_i hb
      refine List.pairwise_cons.2 ⟨fun y hy => ?_, h.cut _⟩
      obtain ⟨h1, h2⟩ := zV.1 hy
      rcases List.mem_cons.1 h1 with rfl | h1
      · omega
      · have := hx y h1; omega
    · rename_i hb
      refine List.pairwise_cons.2 ⟨fun y hy => ?_, bL.put hl⟩
      have := (nD b l).mem_iff.1 hy
      rcases List.mem_cons.1 this with rfl | h1
      · omega
      · exact hx y (zV.1 h1).1
theorem aNs (s : List Body) (b : Body) (g : Bool) : (zF s b g).length ≤ s.length + 1 := by
  rw [aFt]
  cases g with
  | true => have := List.length_filter_le (fun x : Body => decide (x.key ≠ b.key)) s; simp only [oJ, lD]; omega
  | false =>
    rw [(nD b s).length_eq]
    have := List.length_filter_le (fun x : Body => decide (x.key ≠ b.key)) s
    simp only [lD, List.length_cons]; omega
def lA (s : List Body) (b : Body) : List Body × Int :=
  if check b ≠ 0 then (s, check b) else if 0 ≤ cG b.key s then (s, 10) else if 4096 ≤ s.length then (s, 12) else (zF s b false, 0)
def aFz (k : Int) : Body := ⟨k, 0, 0, 0, 0, 0, 0, 0, 0, 0⟩
def aUn (s : List Body) (b : Body) : List Body × Int :=
  if check b ≠ 0 then (s, check b) else if cG b.key s < 0 then (s, 11) else (zF s b false, 0)
def vP (l : List Body) : List Body := l.foldl (fun s b => (lA s b).1) []
theorem aNx (s : List Body) (b : Body) : (lA s b).1.length ≤ s.length + 1 := by
  unfold lA
  (repeat' split) <;> first | exact Nat.le_succ _ | exact aNs s b false
theorem aIg {l : List Body} {k : Nat} {x : Body} (h : l[k]? = some x) : vP (l.take (k + 1)) = (lA (vP (l.take k)) x).1 := by
  unfold vP
  rw [cJ h, List.foldl_append]
  rfl
theorem aKb (l : List Body) : (vP l).length ≤ l.length := by
  have key : ∀ (l s : List Body), (l.foldl (fun s b => (lA s b).1) s).length ≤ s.length + l.length := by
    intro l
    induction l with
    | nil => intro s; simp
    | cons b l ih =>
      intro s
      have h1 := ih (lA s b).1
      have h2 := aNx s b
      simp only [List.foldl_cons, List.length_cons]
      omega
  have := key l []
  rw [List.length_nil, Nat.zero_add] at this
  exact this
structure Rel (m s : List Body) : Prop where
  perm : s.Perm m
  sorted : bL s
theorem Rel.nil : Rel [] [] := ⟨List.Perm.refl _, by simp [bL]⟩
theorem bL.unique {s t : List Body} (h : bL s) (h' : bL t) (p : s.Perm t) : s = t :=
  List.Perm.eq_of_pairwise (le := fun (a b : Body) => a.key < b.key) (fun a b _ _ h1 h2 => by omega) h h' p
theorem bL.keys {s : List Body} (h : bL s) : fR s := by
  unfold fR List.Nodup
  rw [List.pairwise_map]
  exact h.imp (fun h => by omega)
theorem Rel.keys {m s : List Body} (R : Rel m s) : fR m := R.sorted.keys.perm R.perm.symm
theorem Rel.find {m s : List Body} (R : Rel m s) (k : Int) : cG k s < 0 ↔ cG k m < 0 := by
  rw [jA, jA]
  exact ⟨fun h b hb => h b (R.perm.mem_iff.2 hb), fun h b hb => h b (R.perm.mem_iff.1 hb)⟩
theorem aHj {k : Int} {s : List Body} (h : cG k s < 0) : lD k s = s := List.filter_eq_self.2 fun x hx => by simpa using jA.1 h x hx
theorem Rel.put {m s : List Body} (R : Rel m s) (b : Body) {m' : List Body} (h : m'.Perm (b :: lD b.key m)) : Rel m' (zF s b false) := by
  rw [aFt]
  exact ⟨((nD b s).trans ((R.perm.filter _).cons b)).trans h.symm, R.sorted.put⟩
theorem Rel.add {m s : List Body} (R : Rel m s) (b : Body) : Rel (pU m b).1 (lA s b).1 ∧ (lA s b).2 = (pU m b).2 := by
  unfold pU lA
  have hf := R.find b.key
  have hl := R.perm.length_eq
  by_cases h1 : check b ≠ 0
  · rw [if_pos h1, if_pos h1]; exact ⟨R, rfl⟩
  · rw [if_neg h1, if_neg h1]
    by_cases h2 : 0 ≤ cG b.key m
    · have h2' : 0 ≤ cG b.key s := by omega
      rw [if_pos h2, if_pos h2']; exact ⟨R, rfl⟩
    · have h2' : ¬ 0 ≤ cG b.key s := by omega
      rw [if_neg h2, if_neg h2', hl]
      by_cases h3 : 4096 ≤ m.length
      · rw [if_pos h3, if_pos h3]; exact ⟨R, rfl⟩
      · rw [if_neg h3, if_neg h3]
        refine ⟨R.put b ?_, rfl⟩
        rw [aHj (by omega)]
        exact List.perm_append_singleton b m
theorem aCx {m : List Body} (h : fR m) {i : Nat} {b : Body} (hi : m[i]? = some b) : m.eraseIdx i = lD b.key m := by
  have e : m = m.take i ++ b :: m.drop (i + 1) := by
    have hlt := (List.getElem?_eq_some_iff.1 hi).1
    have hb : m[i] = b := (List.getElem?_eq_some_iff.1 hi).2
    rw [← hb, ← List.drop_eq_getElem_cons hlt, List.take_append_drop]
  have hne := wT h hi
  rw [List.eraseIdx_eq_take_drop_succ] at hne ⊢
  conv => rhs; rw [e]
  unfold lD
  rw [List.filter_append, List.filter_cons]
  simp only [ne_eq, not_true_eq_false, decide_false, Bool.false_eq_true, if_false]
  rw [List.filter_eq_self.2 (fun x hx => by simpa using hne x (List.mem_append_left _ hx)), List.filter_eq_self.2 (fun x hx => by simpa using hne x (List.mem_append_right _ hx))]
theorem aOd {m : List Body} {i : Nat} {x : Body} (hi : i < m.length) : (m.set i x).Perm (x :: m.eraseIdx i) := by
  rw [List.set_eq_take_append_cons_drop, if_pos hi, List.eraseIdx_eq_take_drop_succ]
  exact List.perm_middle
theorem Rel.set {m s : List Body} (R : Rel m s) (b : Body) : Rel (aTz m b).1 (aUn s b).1 ∧ (aUn s b).2 = (aTz m b).2 := by
  unfold aTz aUn
  have hf := R.find b.key
  by_cases h1 : check b ≠ 0
  · rw [if_pos h1, if_pos h1]; exact ⟨R, rfl⟩
  · rw [if_neg h1, if_neg h1]
    by_cases h : cG b.key m < 0
    · rw [if_pos h, if_pos (hf.2 h)]; exact ⟨R, rfl⟩
    · rw [if_neg h, if_neg (fun h' => h (hf.1 h'))]
      refine ⟨?_, rfl⟩
      rcases dT b.key m with ⟨h1, _⟩ | ⟨i, c, h1, h2, h3⟩
      · omega
      · rw [h3, Int.toNat_natCast]
        have hlt := (List.getElem?_eq_some_iff.1 h1).1
        refine R.put b ((aOd hlt).trans ?_)
        rw [aCx R.keys h1, h2]
theorem Rel.get {m s : List Body} (R : Rel m s) (k : Int) : (cG k s < 0 ∧ aLg m k = (aFz 0, 11)) ∨ ∃ (i : Nat) (b : Body), cG k s = (i : Int) ∧ s[i]? = some b ∧ aLg m k = (b, 0) := by
  rcases dT k s with ⟨h1, h2⟩ | ⟨i, b, h1, h2, h3⟩
  · have hm : cG k m < 0 := (R.find k).1 (by omega)
    refine .inl ⟨by omega, ?_⟩
    unfold aLg
    rw [if_pos hm]
    rfl
  · refine .inr ⟨i, b, h3, h1, ?_⟩
    have hb : b ∈ m := R.perm.mem_iff.1 (List.mem_of_getElem? h1)
    obtain ⟨j, hj⟩ := List.getElem?_of_mem hb
    have := sQ R.keys hj
    rw [h2] at this
    exact aJf this hj
theorem zX {a b : Int} : lZ a b < 0 ↔ a < b := by unfold lZ; (repeat' split) <;> omega
def aEm (b : Body) : List Body → List Body
  | [] => [b]
  | x :: l => if b.key ≤ x.key then b :: x :: l else x :: aEm b l
def jT (m : List Body) : List Body := m.foldr aEm []
theorem qP (b : Body) : ∀ l : List Body, (aEm b l).Perm (b :: l)
  | [] => List.Perm.refl _
  | x :: l => by
    unfold aEm
    split
    · exact List.Perm.refl _
    · exact ((qP b l).cons x).trans (List.Perm.swap b x l)
theorem gG : ∀ m : List Body, (jT m).Perm m
  | [] => List.Perm.refl _
  | b :: m => (qP b (jT m)).trans ((gG m).cons b)
def Up (s : List Body) : Prop := s.Pairwise (fun a b => a.key ≤ b.key)
theorem aGd (b : Body) : ∀ {l : List Body}, Up l → Up (aEm b l)
  | [], _ => by simp [aEm, Up]
  | x :: l, h => by
    unfold aEm
    have hx : ∀ y ∈ l, x.key ≤ y.key := (List.pairwise_cons.1 h).1
    split
    · rename_i hb
      refine List.pairwise_cons.2 ⟨fun y hy => ?_, h⟩
      rcases List.mem_cons.1 hy with rfl | hy
      · exact hb
      · have := hx y hy; omega
    · refine List.pairwise_cons.2 ⟨fun y hy => ?_, aGd b (List.pairwise_cons.1 h).2⟩
      have := (qP b l).mem_iff.1 hy
      rcases List.mem_cons.1 this with rfl | h1
      · omega
      · exact hx y h1
theorem aBo : ∀ m : List Body, Up (jT m)
  | [] => by simp [jT, Up]
  | b :: m => aGd b (aBo m)
theorem aIj {s : List Body} (h : Up s) (hk : fR s) : bL s := by
  unfold Up at h
  unfold fR List.Nodup at hk
  rw [List.pairwise_map] at hk
  exact (List.Pairwise.and h hk).imp (fun ⟨h1, h2⟩ => by omega)
theorem wW {m : List Body} (hk : fR m) : Rel m (jT m) := ⟨gG m, aIj (aBo m) (hk.perm (gG m))⟩
theorem Rel.eq {m s : List Body} (R : Rel m s) : jT m = s := (wW R.keys).sorted.unique R.sorted ((gG m).trans R.perm.symm)
theorem lL (m : List Body) : ∀ y ∈ m.map aI, y.length = 10 := by
  intro y hy
  obtain ⟨b, _, rfl⟩ := List.mem_map.1 hy
  rfl
end Go.Bil
namespace Go.Bil
structure InB (b : Body) : Prop where
  key : 0 ≤ b.key ∧ b.key ≤ 4294967295
  radius : -2147483648 ≤ b.radius ∧ b.radius ≤ 2147483647
  ax : -2147483648 ≤ b.ax ∧ b.ax ≤ 2147483647
  ay : -2147483648 ≤ b.ay ∧ b.ay ≤ 2147483647
  mass : -2147483648 ≤ b.mass ∧ b.mass ≤ 2147483647
  bounce : -2147483648 ≤ b.bounce ∧ b.bounce ≤ 2147483647
  px : -2147483648 ≤ b.px ∧ b.px ≤ 2147483647
  py : -2147483648 ≤ b.py ∧ b.py ≤ 2147483647
  vx : -2147483648 ≤ b.vx ∧ b.vx ≤ 2147483647
  vy : -2147483648 ≤ b.vy ∧ b.vy ≤ 2147483647
theorem aTt (l : List Value) (h : iN [.u32, .i32, .i32, .i32, .i32, .i32, .i32, .i32, .i32, .i32] l) : ∃ b, l = aI b ∧ InB b := by
  obtain ⟨z0, l0, rfl, w0, h0⟩ := fE h
  obtain ⟨z1, l1, rfl, w1, h1⟩ := fE h0
  obtain ⟨z2, l2, rfl, w2, h2⟩ := fE h1
  obtain ⟨z3, l3, rfl, w3, h3⟩ := fE h2
  obtain ⟨z4, l4, rfl, w4, h4⟩ := fE h3
  obtain ⟨z5, l5, rfl, w5, h5⟩ := fE h4
  obtain ⟨z6, l6, rfl, w6, h6⟩ := fE h5
  obtain ⟨z7, l7, rfl, w7, h7⟩ := fE h6
  obtain ⟨z8, l8, rfl, w8, h8⟩ := fE h7
  obtain ⟨z9, l9, rfl, w9, h9⟩ := fE h8
  obtain rfl := aNw h9
  exact ⟨⟨z0, z1, z2, z3, z4, z5, z6, z7, z8, z9⟩, rfl, ⟨w0, w1, w2, w3, w4, w5, w6, w7, w8, w9⟩⟩
end Go.Bil

namespace Go.Bil
def pQ (l : List Body) : List Body := l.foldl (fun m b => (pU m b).1) []
theorem aDl {l : List Body} {k : Nat} {x : Body} (h : l[k]? = some x) : pQ (l.take (k + 1)) = (pU (pQ (l.take k)) x).1 := by
  unfold pQ
  rw [cJ h, List.foldl_append]
  rfl
theorem aHm : ∀ l : List Body, Rel (pQ l) (vP l) := by
  have key : ∀ (l m s : List Body), Rel m s → Rel (l.foldl (fun m b => (pU m b).1) m) (l.foldl (fun s b => (lA s b).1) s) := by
    intro l
    induction l with
    | nil => intro m s h; exact h
    | cons b l ih => intro m s h; exact ih _ _ (h.add b).1
  exact fun l => key l [] [] Rel.nil
def rC (l : List Body) : List Body := l.filter (fun b => decide (check b = 0))
theorem aLm {m : List Body} {x : Body} (hf : ∀ b ∈ m, b.key ≠ x.key) (hl : m.length < 4096) : pU (rC m) x = (rC (m ++ [x]), check x) := by
  have hle : (rC m).length ≤ m.length := List.length_filter_le _ _
  unfold pU
  by_cases h : check x = 0
  · rw [if_neg (by omega), if_neg (by
      have : cG x.key (rC m) < 0 := jA.2 fun b hb => hf b (List.mem_filter.1 hb).1
      omega), if_neg (by omega), h]
    simp [rC, List.filter_append, h]
  · rw [if_pos h]
    simp [rC, List.filter_append, h]
theorem aAq {l : List Body} (h : fR l) {k : Nat} {x : Body} (hx : l[k]? = some x) : ∀ b ∈ l.take k, b.key ≠ x.key := by
  intro b hb e
  obtain ⟨j, hj⟩ := List.getElem?_of_mem hb
  rw [List.getElem?_take] at hj
  split at hj
  · rename_i hlt
    have := h.inj hj hx e
    omega
  · cases hj
theorem uM {l : List Body} (h : fR l) (hl : l.length ≤ 4096) : ∀ k, k ≤ l.length → pQ (l.take k) = rC (l.take k)
  | 0, _ => by simp [pQ, rC]
  | k + 1, hk => by
    obtain ⟨x, hx⟩ := cN (xs := l) (k := k) rfl (by omega)
    rw [aDl hx, uM h hl k (by omega), aLm (aAq h hx) (by rw [List.length_take]; omega), cJ hx]
end Go.Bil
namespace Go.Bil
structure StepI where
  kind : Int
  body : Body
instance : Inhabited StepI := ⟨⟨0, aFz 0⟩⟩
end Go.Bil

namespace Go.Bil
def gU : List Body → Int
  | [] => 0
  | b :: l => if check b ≠ 0 then check b else gU l
def gL (xs : List Body) : Int := if 4096 < xs.length then 12 else gU xs
theorem kI : ∀ {xs : List Body}, (∀ (j : Nat) (c : Body), xs[j]? = some c → check c = 0) → gU xs = 0
  | [], _ => rfl
  | b :: l, h => by
    unfold gU
    rw [if_neg (by have := h 0 b (by simp); omega)]
    exact kI fun j c hj => h (j + 1) c (by simpa using hj)
theorem qX : ∀ {xs : List Body} {k : Nat} {b : Body}, xs[k]? = some b → check b ≠ 0 → (∀ (j : Nat) (c : Body), j < k → xs[j]? = some c → check c = 0) → gU xs = check b
  | [], _, _, h, _, _ => by simp at h
  | a :: l, 0, b, h, hb, _ => by
    simp only [List.getElem?_cons_zero, Option.some.injEq] at h
    subst h
    unfold gU
    rw [if_pos hb]
  | a :: l, k + 1, b, h, hb, hn => by
    unfold gU
    rw [if_neg (by have := hn 0 a (by omega) (by simp); omega)]
    exact qX (by simpa using h) hb fun j c hj hc => hn (j + 1) c (by omega) (by simpa using hc)
theorem pR : ∀ {xs : List Body}, gU xs = 0 → ∀ b ∈ xs, check b = 0
  | [], _, b, hb => by simp at hb
  | a :: l, h, b, hb => by
    unfold gU at h
    by_cases ha : check a = 0
    · rw [if_neg (by omega)] at h
      rcases List.mem_cons.1 hb with rfl | hb
      · exact ha
      · exact pR h b hb
    · rw [if_pos ha] at h; exact absurd h ha
theorem uH {xs : List Body} (h : gL xs = 0) : xs.length ≤ 4096 ∧ ∀ b ∈ xs, check b = 0 := by
  unfold gL at h
  split at h
  · omega
  · exact ⟨by omega, pR h⟩
theorem zN {xs : List Body} (hl : xs.length ≤ 4096) (h : ∀ b ∈ xs, check b = 0) : gL xs = 0 := by
  unfold gL
  rw [if_neg (by omega)]
  exact kI fun j c hj => h c (List.mem_of_getElem? hj)
def yQ : List Body → Bool
  | x :: y :: l => decide (x.key < y.key) && yQ (y :: l)
  | _ => true
theorem qJ : ∀ {xs : List Body}, (∀ (i : Nat) (x y : Body), xs[i]? = some x → xs[i + 1]? = some y → x.key < y.key) → yQ xs = true
  | [], _ => rfl
  | [_], _ => rfl
  | x :: y :: l, h => by
    unfold yQ
    rw [Bool.and_eq_true]
    exact ⟨decide_eq_true (h 0 x y (by simp) (by simp)), qJ fun i a b ha hb => h (i + 1) a b (by simpa using ha) (by simpa using hb)⟩
theorem iH : ∀ {xs : List Body}, yQ xs = true → bL xs
  | [], _ => by simp [bL]
  | [_], _ => by simp [bL]
  | x :: y :: l, h => by
    unfold yQ at h
    rw [Bool.and_eq_true, decide_eq_true_eq] at h
    have ih := iH h.2
    refine List.pairwise_cons.2 ⟨fun z hz => ?_, ih⟩
    rcases List.mem_cons.1 hz with rfl | hz
    · exact h.1
    · have := (List.pairwise_cons.1 ih).1 z hz; have := h.1; omega
theorem aCb {xs : List Body} (h : bL xs) : yQ xs = true := qJ fun i x y hx hy => by
  have hi := List.getElem?_eq_some_iff.1 hx
  have hj := List.getElem?_eq_some_iff.1 hy
  have := List.pairwise_iff_getElem.1 h i (i + 1) hi.1 hj.1 (by omega)
  rwa [hi.2, hj.2] at this
theorem aCy {xs : List Body} {i : Nat} {x y : Body} (hx : xs[i]? = some x) (hy : xs[i + 1]? = some y) (h : ¬ x.key < y.key) : yQ xs = false := by
  cases e : yQ xs with
  | false => rfl
  | true =>
    exfalso
    have hi := List.getElem?_eq_some_iff.1 hx
    have hj := List.getElem?_eq_some_iff.1 hy
    have := List.pairwise_iff_getElem.1 (iH e) i (i + 1) hi.1 hj.1 (by omega)
    rw [hi.2, hj.2] at this
    exact h this
def oI (xs : List Body) : Int := if gL xs ≠ 0 then gL xs else if yQ xs = true then 0 else 10
instance (m : List Body) : Decidable (fR m) := by unfold fR; infer_instance
def iV (xs : List Body) : List Body × Int := if gL xs ≠ 0 then ([], gL xs) else if fR xs then (jT xs, 0) else ([], 10)
theorem aAj : ∀ (l m : List Body), ∃ t, List.Sublist t l ∧ l.foldl (fun m b => (pU m b).1) m = m ++ t
  | [], m => ⟨[], by simp, by simp⟩
  | b :: l, m => by
    simp only [List.foldl_cons]
    obtain ⟨t, h1, h2⟩ := aAj l (pU m b).1
    have hb : (pU m b).1 = m ∨ (pU m b).1 = m ++ [b] := by
      unfold pU
      (repeat' split) <;> simp
    rcases hb with hb | hb
    · exact ⟨t, h1.cons b, by rw [h2, hb]⟩
    · exact ⟨b :: t, h1.cons_cons b, by rw [h2, hb]; simp⟩
theorem aGm {xs : List Body} (he : gL xs = 0) : (fR xs → vP xs = jT xs) ∧ ((vP xs).length < xs.length ↔ ¬ fR xs) := by
  obtain ⟨h1, h2⟩ := uH he
  have hrel := aHm xs
  have hlen := hrel.perm.length_eq
  obtain ⟨t, ht1, ht2⟩ := aAj xs []
  have ht : pQ xs = t := by simpa [pQ] using ht2
  have hkeys : fR xs → pQ xs = xs := fun hk => by
    have := uM hk h1 xs.length (Nat.le_refl _)
    rw [List.take_length] at this
    rw [this]
    exact List.filter_eq_self.2 fun b hb => by simpa using h2 b hb
  refine ⟨fun hk => ?_, ?_, ?_⟩
  · have := hrel.eq
    rw [hkeys hk] at this
    exact this.symm
  · intro hl hk
    rw [hlen, hkeys hk] at hl
    omega
  · intro hk
    rw [hlen, ht]
    rcases Nat.lt_or_ge t.length xs.length with h | h
    · exact h
    · exfalso
      have : t = xs := ht1.eq_of_length_le h
      exact hk (by rw [← this, ← ht]; exact hrel.keys)
def rH (key : Int) : List Body → Nat
  | [] => 0
  | b :: l => (if b.key < key then 1 else 0) + rH key l
theorem pK {key : Int} : ∀ {xs : List Body} {k : Nat}, k ≤ xs.length → (∀ (j : Nat) (c : Body), j < k → xs[j]? = some c → c.key < key) → (∀ (j : Nat) (c : Body), k ≤ j → xs[j]? = some c → ¬ c.key < key) → rH key xs = k
  | [], k, hk, _, _ => by simp at hk; simp [rH, hk]
  | b :: l, 0, _, _, h2 => by
    unfold rH
    rw [if_neg (h2 0 b (Nat.le_refl _) (by simp)), pK (k := 0) (by omega) (fun j c hj => by omega) (fun j c _ hc => h2 (j + 1) c (by omega) (by simpa using hc))]
  | b :: l, k + 1, hk, h1, h2 => by
    unfold rH
    rw [if_pos (h1 0 b (by omega) (by simp)), pK (k := k) (by simpa using hk) (fun j c hj hc => h1 (j + 1) c (by omega) (by simpa using hc)) (fun j c hj hc => h2 (j + 1) c (by omega) (by simpa using hc))]
    omega
def gD (k : Int) : List Value := [.int .u32 k]
end Go.Bil
namespace Go.Bil
theorem qY {xs : List Body} (h : bL xs) {p q : Nat} {a b : Body} (hpq : p ≤ q) (ha : xs[p]? = some a) (hb : xs[q]? = some b) : a.key ≤ b.key := by
  by_cases e : p = q
  · subst e
    rw [ha] at hb
    injection hb with hb
    rw [hb]; exact Int.le_refl _
  · have hi := List.getElem?_eq_some_iff.1 ha
    have hj := List.getElem?_eq_some_iff.1 hb
    have := List.pairwise_iff_getElem.1 h p q hi.1 hj.1 (by omega)
    rw [hi.2, hj.2] at this
    omega
theorem aXm (i j : Nat) : ((i : Int) + (j : Int)).fdiv (2 ^ (min (1 : Int).toNat IntKind.u64.bits)) = (((i + j) / 2 : Nat) : Int) := by
  have e : (2 : Int) ^ (min (1 : Int).toNat IntKind.u64.bits) = 2 := by decide
  rw [e, Int.fdiv_eq_ediv_of_nonneg _ (by omega)]
  omega
theorem rV {a b a' b' : Value} (h1 : a = a') (h2 : b = b') : Value.tuple #[a, b] = Value.tuple #[a', b'] := by rw [h1, h2]
theorem aIi {a b : Int} : lZ a b = 0 ↔ a = b := by unfold lZ; (repeat' split) <;> omega
theorem aGw {key : Int} {xs : List Body} (hs : bL xs) {i : Nat} {b : Body} (hb : xs[i]? = some b) (h1 : ∀ (j : Nat) (c : Body), j < i → xs[j]? = some c → c.key < key) (h2 : ∀ (j : Nat) (c : Body), i ≤ j → xs[j]? = some c → ¬ c.key < key) : lZ b.key key = 0 ↔ 0 ≤ cG key xs := by
  rw [aIi]
  constructor
  · intro e
    rcases dT key xs with ⟨_, h⟩ | ⟨_, _, _, _, h⟩
    · exact absurd e (h b (List.mem_of_getElem? hb))
    · omega
  · intro h
    rcases dT key xs with ⟨h', _⟩ | ⟨j, c, hc, hk, _⟩
    · omega
    · have hij : i ≤ j := by
        rcases Nat.lt_or_ge j i with hlt | hge
        · have := h1 j c hlt hc; omega
        · exact hge
      have := qY hs hij hb hc
      have := h2 i b (Nat.le_refl _) hb
      omega
theorem aEq {key : Int} {xs : List Body} (h1 : ∀ (j : Nat) (c : Body), j < xs.length → xs[j]? = some c → c.key < key) : ¬ 0 ≤ cG key xs := by
  intro h
  rcases dT key xs with ⟨h', _⟩ | ⟨j, c, hc, hk, _⟩
  · omega
  · have := h1 j c (List.getElem?_eq_some_iff.1 hc).1 hc
    omega
end Go.Bil
namespace Go.Bil
end Go.Bil
namespace Go.Bil
end Go.Bil
namespace Go.Bil
theorem aEi (k : Int) : ∀ y ∈ [gD k], y.length = 1 ∧ ∀ u ∈ y, one u = true := by
  intro y hy
  simp only [List.mem_singleton] at hy
  subst hy
  exact ⟨rfl, aU rfl⟩
end Go.Bil
namespace Go.Bil
structure Mg (xs ys : List Body) (i k : Nat) : Prop where
  sx : bL xs
  sy : bL ys
  yx : ∀ (p : Nat) (a b : Body), p < k → ys[p]? = some a → xs[i]? = some b → a.key < b.key
  xy : ∀ (p : Nat) (a b : Body), p < i → xs[p]? = some a → ys[k]? = some b → a.key < b.key
theorem Mg.swap {xs ys : List Body} {i k : Nat} (h : Mg xs ys i k) : Mg ys xs k i := ⟨h.sy, h.sx, h.xy, h.yx⟩
theorem dA {xs : List Body} (h : bL xs) {p q : Nat} {a b : Body} (hpq : p < q) (ha : xs[p]? = some a) (hb : xs[q]? = some b) : a.key < b.key := by
  have hi := List.getElem?_eq_some_iff.1 ha
  have hj := List.getElem?_eq_some_iff.1 hb
  have := List.pairwise_iff_getElem.1 h p q hi.1 hj.1 hpq
  rwa [hi.2, hj.2] at this
theorem Mg.x {xs ys : List Body} {i k : Nat} {a : Body} (h : Mg xs ys i k) (ha : xs[i]? = some a) (hb : ∀ b, ys[k]? = some b → a.key < b.key) : Mg xs ys (i + 1) k ∧ cG a.key ys < 0 := by
  refine ⟨⟨h.sx, h.sy, fun p y x hp hy hx => ?_, fun p x y hp hx hy => ?_⟩, jA.2 fun y hy => ?_⟩
  · have := h.yx p y a hp hy ha
    have := dA h.sx (Nat.lt_succ_self i) ha hx
    omega
  · by_cases e : p = i
    · subst e
      rw [ha] at hx
      injection hx with hx
      subst hx
      exact hb y hy
    · exact h.xy p x y (by omega) hx hy
  · obtain ⟨q, hq⟩ := List.getElem?_of_mem hy
    rcases Nat.lt_or_ge q k with hlt | hge
    · have := h.yx q y a hlt hq ha; omega
    · obtain ⟨b, hbk⟩ := cN (xs := ys) (k := k) rfl (by have := (List.getElem?_eq_some_iff.1 hq).1; omega)
      have h1 := hb b hbk
      have h2 := qY h.sy hge hbk hq
      omega
theorem Mg.y {xs ys : List Body} {i k : Nat} {b : Body} (h : Mg xs ys i k) (hb : ys[k]? = some b) (ha : ∀ a, xs[i]? = some a → b.key < a.key) : Mg xs ys i (k + 1) ∧ cG b.key xs < 0 := by
  obtain ⟨h1, h2⟩ := h.swap.x hb ha
  exact ⟨h1.swap, h2⟩
theorem Mg.both {xs ys : List Body} {i k : Nat} {a b : Body} (h : Mg xs ys i k) (ha : xs[i]? = some a) (hb : ys[k]? = some b) (hk : a.key = b.key) : Mg xs ys (i + 1) (k + 1) ∧ cG a.key ys = (k : Int) ∧ cG b.key xs = (i : Int) := by
  refine ⟨⟨h.sx, h.sy, fun p y x hp hy hx => ?_, fun p x y hp hx hy => ?_⟩, ?_, ?_⟩
  · have h1 := dA h.sx (Nat.lt_succ_self i) ha hx
    have h2 := qY h.sy (show p ≤ k by omega) hy hb
    omega
  · have h1 := dA h.sy (Nat.lt_succ_self k) hb hy
    have h2 := qY h.sx (show p ≤ i by omega) hx ha
    omega
  · exact oN hb hk.symm fun j c hj hc => by have := dA h.sy hj hc hb; omega
  · exact oN ha hk fun j c hj hc => by have := dA h.sx hj hc ha; omega
end Go.Bil
namespace Go.Bil
end Go.Bil
namespace Go.Bil
end Go.Bil
namespace Go.Bil
end Go.Bil
namespace Go.Bil
theorem aMe {xs : List Body} (h : (iV xs).2 = 0) : fR xs ∧ gL xs = 0 ∧ (iV xs).1 = jT xs := by
  unfold iV at *
  by_cases h1 : gL xs = 0
  · rw [if_neg (by omega)] at h ⊢
    by_cases h2 : fR xs
    · rw [if_pos h2]; exact ⟨h2, h1, rfl⟩
    · rw [if_neg h2] at h; simp at h
  · rw [if_pos h1] at h; exact absurd h h1
theorem aOa {xs : List Body} (hk : fR xs) : bL (jT xs) := (wW hk).sorted
end Go.Bil
namespace Go.Bil
end Go.Bil
namespace Go.Bil
end Go.Bil

namespace Go.Bil
theorem aIf {v : List Body} (he : gL v = 0) (hs : bL v) : oI v = 0 := by
  unfold oI
  rw [if_neg (by omega), if_pos (aCb hs)]
theorem aHy {xs : List Body} (he : gL xs = 0) : gL (jT xs) = 0 := by
  obtain ⟨h1, h2⟩ := uH he
  exact zN (by rw [(gG xs).length_eq]; exact h1) fun b hb => h2 b ((gG xs).mem_iff.1 hb)
theorem aIa (xs : List Body) : (iV xs).1.length ≤ xs.length := by
  unfold iV
  split
  · simp
  · split
    · simpa using Nat.le_of_eq (gG xs).length_eq
    · simp
end Go.Bil

namespace Go.Bil
structure Bx where
  x0 : Int
  y0 : Int
  x1 : Int
  y1 : Int
  deriving DecidableEq, Inhabited
def cT (a : Bx) : List Value := [.int .i32 a.x0, .int .i32 a.y0, .int .i32 a.x1, .int .i32 a.y1]
def aHa (b : Body) : Int := max b.ax (-b.ax) + b.radius
def aIp (b : Body) : Int := max b.ay (-b.ay) + b.radius
def fW (b : Body) : Bx := ⟨b.px - aHa b, b.py - aIp b, b.px + aHa b, b.py + aIp b⟩
abbrev fI (a : Bx) : Prop := a.x1 < a.x0 ∨ a.y1 < a.y0
def gT : Bx := ⟨1, 0, 0, 0⟩
def wE (a b : Bx) : Bx := if fI ⟨max a.x0 b.x0, max a.y0 b.y0, min a.x1 b.x1, min a.y1 b.y1⟩ then gT else ⟨max a.x0 b.x0, max a.y0 b.y0, min a.x1 b.x1, min a.y1 b.y1⟩
abbrev ovl (a b : Bx) : Prop := (a.x0 ≤ a.x1 ∧ a.y0 ≤ a.y1) ∧ (b.x0 ≤ b.x1 ∧ b.y0 ≤ b.y1) ∧ (a.x0 ≤ b.x1 ∧ b.x0 ≤ a.x1 ∧ a.y0 ≤ b.y1 ∧ b.y0 ≤ a.y1)
theorem aKf (a b : Bx) : ¬ fI (wE a b) ↔ ovl a b := by
  unfold wE
  split
  · rename_i h
    unfold fI at h
    simp only [fI, gT, ovl]
    simp only at h
    omega
  · rename_i h
    unfold fI at h
    simp only [fI, ovl]
    simp only at h
    omega
structure Okb (b : Body) : Prop where
  r : 4096 ≤ b.radius ∧ b.radius ≤ 4194304
  a : -4194304 ≤ b.ax ∧ b.ax ≤ 4194304 ∧ -4194304 ≤ b.ay ∧ b.ay ≤ 4194304
  m : 0 ≤ b.mass ∧ b.mass ≤ 1048576
  c : 0 ≤ b.bounce ∧ b.bounce ≤ 65536
  p : -1073741824 ≤ b.px ∧ b.px ≤ 1073741824 ∧ -1073741824 ≤ b.py ∧ b.py ≤ 1073741824
  v : -16777216 ≤ b.vx ∧ b.vx ≤ 16777216 ∧ -16777216 ≤ b.vy ∧ b.vy ≤ 16777216
theorem oO {b : Body} (h : check b = 0) : Okb b := by
  by_cases h1 : 4096 ≤ b.radius ∧ b.radius ≤ 4194304
  · by_cases h2 : -4194304 ≤ b.ax ∧ b.ax ≤ 4194304 ∧ -4194304 ≤ b.ay ∧ b.ay ≤ 4194304
    · by_cases h3 : 0 ≤ b.mass ∧ b.mass ≤ 1048576
      · by_cases h4 : 0 ≤ b.bounce ∧ b.bounce ≤ 65536
        · by_cases h5 : -1073741824 ≤ b.px ∧ b.px ≤ 1073741824 ∧ -1073741824 ≤ b.py ∧ b.py ≤ 1073741824
          · by_cases h6 : -16777216 ≤ b.vx ∧ b.vx ≤ 16777216 ∧ -16777216 ≤ b.vy ∧ b.vy ≤ 16777216
            · exact ⟨h1, h2, h3, h4, h5, h6⟩
            · rw [aQs b h1 h2 h3 h4 h5 h6] at h; omega
          · rw [aQk b h1 h2 h3 h4 h5] at h; omega
        · rw [aOu b h1 h2 h3 h4] at h; omega
      · rw [aQx b h1 h2 h3] at h; omega
    · rw [aPy b h1 h2] at h; omega
  · rw [aRe b h1] at h; omega
theorem aNp {b : Body} (h : Okb b) : 4096 ≤ aHa b ∧ aHa b ≤ 8388608 ∧ 4096 ≤ aIp b ∧ aIp b ≤ 8388608 := by
  have := h.r
  have := h.a
  unfold aHa aIp
  omega
structure Okx (a : Bx) : Prop where
  x0 : -2147483648 ≤ a.x0 ∧ a.x0 ≤ 2147483647
  y0 : -2147483648 ≤ a.y0 ∧ a.y0 ≤ 2147483647
  x1 : -2147483648 ≤ a.x1 ∧ a.x1 ≤ 2147483647
  y1 : -2147483648 ≤ a.y1 ∧ a.y1 ≤ 2147483647
theorem aVm {b : Body} (h : Okb b) : Okx (fW b) := by
  have h1 := aNp h
  have h2 := h.p
  constructor <;> simp only [fW] <;> omega
end Go.Bil

namespace Go.Bil
def bV (c : Int × Int) : List Value := [.int .i32 c.1, .int .i32 c.2]
def jH (x : Int) : Int := x.fdiv 4194304
theorem aSj (x : Int) : x.fdiv (2 ^ (min (22 : Int).toNat IntKind.i32.bits)) = jH x := rfl
theorem yA (x : Int) : jH x = x / 4194304 := by unfold jH; exact Int.fdiv_eq_ediv_of_nonneg x (by decide)
theorem lE {x : Int} (h0 : -2147483648 ≤ x) (h1 : x ≤ 2147483647) : -512 ≤ jH x ∧ jH x ≤ 511 := by rw [yA]; omega
theorem gJ {x y : Int} (h : x ≤ y) : jH x ≤ jH y := by rw [yA, yA]; omega
def loC (a : Bx) : Int × Int := if fI a then (0, 0) else (jH a.x0, jH a.y0)
def hiC (a : Bx) : Int × Int := if fI a then (0, 0) else (jH a.x1, jH a.y1)
def nX (lo hi : Int × Int) : Nat := (hi.1 - lo.1 + 1).toNat
def nY (lo hi : Int × Int) : Nat := (hi.2 - lo.2 + 1).toNat
def vA (lo : Int × Int) (i j : Nat) : List (Int × Int) := (List.range i).map (fun (p : Nat) => (lo.1 + (p : Int), lo.2 + (j : Int)))
def kC (lo hi : Int × Int) (j : Nat) : List (Int × Int) := (List.range j).flatMap (fun q => vA lo (nX lo hi) q)
def qF (ok : Bool) (lo hi : Int × Int) : List (Int × Int) := if ok then kC lo hi (nY lo hi) else []
def eP (a : Bx) : List (Int × Int) := qF (decide (¬ fI a)) (loC a) (hiC a)
theorem zW (lo : Int × Int) (i j : Nat) : (vA lo i j).length = i := by simp [vA]
theorem aJd (lo : Int × Int) (i j : Nat) : vA lo (i + 1) j = vA lo i j ++ [(lo.1 + (i : Int), lo.2 + (j : Int))] := by simp [vA, List.range_succ]
theorem uN (lo hi : Int × Int) (j : Nat) : kC lo hi (j + 1) = kC lo hi j ++ vA lo (nX lo hi) j := by simp [kC, List.range_succ]
theorem qS (lo hi : Int × Int) : ∀ j, (kC lo hi j).length = j * nX lo hi
  | 0 => by simp [kC]
  | j + 1 => by rw [uN, List.length_append, qS lo hi j, zW, Nat.add_mul, Nat.one_mul]
theorem aNg {lo hi : Int × Int} {i j : Nat} (hx : nX lo hi ≤ 1024) (hj : j < 1024) (hi' : i < nX lo hi) : (kC lo hi j).length + i < 1048576 := by
  rw [qS]
  have : j * nX lo hi ≤ 1023 * 1024 := Nat.mul_le_mul (by omega) hx
  omega
theorem aKc {lo hi : Int × Int} {j : Nat} (hx : nX lo hi ≤ 1024) (hj : j ≤ 1024) : (kC lo hi j).length ≤ 1048576 := by
  rw [qS]
  exact Nat.mul_le_mul hj hx
theorem aGu {lo hi : Int × Int} {n : Nat} {c : Int × Int} : c ∈ kC lo hi n ↔ ∃ q p : Nat, q < n ∧ p < nX lo hi ∧ c = (lo.1 + (p : Int), lo.2 + (q : Int)) := by
  simp only [kC, vA, List.mem_flatMap, List.mem_range, List.mem_map]
  constructor
  · rintro ⟨q, hq, p, hp, rfl⟩; exact ⟨q, p, hq, hp, rfl⟩
  · rintro ⟨q, p, hq, hp, rfl⟩; exact ⟨q, hq, p, hp, rfl⟩
theorem uT {a : Bx} {c : Int × Int} : c ∈ eP a ↔ ¬ fI a ∧ jH a.x0 ≤ c.1 ∧ c.1 ≤ jH a.x1 ∧ jH a.y0 ≤ c.2 ∧ c.2 ≤ jH a.y1 := by
  unfold eP qF
  by_cases h : fI a
  · simp [h]
  · rw [if_pos (by simpa using h), aGu]
    simp only [loC, hiC, if_neg h, nX, nY]
    constructor
    · rintro ⟨q, p, hq, hp, rfl⟩
      refine ⟨h, ?_⟩
      simp only
      omega
    · rintro ⟨_, h1, h2, h3, h4⟩
      refine ⟨(c.2 - jH a.y0).toNat, (c.1 - jH a.x0).toNat, by omega, by omega, ?_⟩
      apply Prod.ext <;> simp only <;> omega
structure Okc (c : Int × Int) : Prop where
  x : -512 ≤ c.1 ∧ c.1 ≤ 511
  y : -512 ≤ c.2 ∧ c.2 ≤ 511
theorem aDs {a : Bx} (h : Okx a) : Okc (loC a) := by
  unfold loC
  split
  · exact ⟨by decide, by decide⟩
  · exact ⟨lE h.x0.1 h.x0.2, lE h.y0.1 h.y0.2⟩
theorem aDk {a : Bx} (h : Okx a) : Okc (hiC a) := by
  unfold hiC
  split
  · exact ⟨by decide, by decide⟩
  · exact ⟨lE h.x1.1 h.x1.2, lE h.y1.1 h.y1.2⟩
theorem aRx {lo hi : Int × Int} (h1 : Okc lo) (h2 : Okc hi) : nX lo hi ≤ 1024 := by
  have := h1.x; have := h2.x
  unfold nX
  omega
theorem aSa {lo hi : Int × Int} (h1 : Okc lo) (h2 : Okc hi) : nY lo hi ≤ 1024 := by
  have := h1.y; have := h2.y
  unfold nY
  omega
theorem aEo {a : Bx} (h : Okx a) : (eP a).length ≤ 1048576 := by
  unfold eP qF
  split
  · exact aKc (aRx (aDs h) (aDk h)) (aSa (aDs h) (aDk h))
  · simp
theorem aLi {a b : Bx} (h : ovl a b) : ∃ c, c ∈ eP a ∧ c ∈ eP b := by
  obtain ⟨⟨h1, h2⟩, ⟨h3, h4⟩, h5, h6, h7, h8⟩ := h
  refine ⟨(jH (max a.x0 b.x0), jH (max a.y0 b.y0)), uT.2 ⟨by unfold fI; omega, ?_⟩, uT.2 ⟨by unfold fI; omega, ?_⟩⟩
  · exact ⟨gJ (by omega), gJ (by omega), gJ (by omega), gJ (by omega)⟩
  · exact ⟨gJ (by omega), gJ (by omega), gJ (by omega), gJ (by omega)⟩
def nI (c : Int × Int) : Int :=
  IntKind.u32.wrap ((BitVec.ofInt 32 (IntKind.u32.wrap ((BitVec.ofInt 32 (IntKind.u32.wrap (IntKind.u32.wrap c.1 * 73856093)) ^^^ BitVec.ofInt 32 (IntKind.u32.wrap (IntKind.u32.wrap c.2 * 19349663))).toNat)) &&& BitVec.ofInt 32 1023).toNat)
def cU (c : Int × Int) : Nat := (nI c).toNat
theorem iC (c : Int × Int) : 0 ≤ nI c ∧ nI c < 1024 := by
  unfold nI
  generalize BitVec.ofInt 32 (IntKind.u32.wrap _) = a
  have h : (a &&& BitVec.ofInt 32 1023).toNat ≤ 1023 := by
    rw [BitVec.toNat_and]
    exact Nat.le_trans Nat.and_le_right (by decide)
  rw [aVy _ (by omega) (by omega)]
  omega
theorem gK (c : Int × Int) : cU c < 1024 := by have := iC c; unfold cU; omega
theorem aHl (c : Int × Int) : nI c = (cU c : Int) := by have := iC c; unfold cU; omega
end Go.Bil
