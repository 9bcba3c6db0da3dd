/- Part of the proof of the laws of this seat: Md4, Md5, Md7, Md8, MdB, MdC, Mf1. No conditions. -/
import Derived.Test.YtlmcphcgiclanaaGreatDoorK4
import Derived.Test.YtlmcphcgiclanaaGreatDoorK3
set_option linter.unusedVariables false
set_option linter.unusedSimpArgs false
set_option linter.unnecessarySimpa false
namespace Go.Bil
def bW (s : List Body) : Prop := s.Pairwise (fun a b => a.key < b.key)
def mB (k : Int) (s : List Body) : List Body := s.filter (fun x => decide (x.key ≠ k))
def nP (b : Body) : Bool → List Body → List Body
  | true, s => mB b.key s
  | false, [] => [b]
  | false, x :: l => if b.key ≤ x.key then b :: mB b.key (x :: l) else x :: nP b false l
def aZo (b : Body) (r : List Body × Bool) : List Body := if r.2 then r.1 else r.1 ++ [b]
theorem mV (b : Body) : ∀ (s acc : List Body) (d : Bool), aZo b (s.foldl (dW b) (acc, d)) = acc ++ nP b d s
  | [], acc, true => by simp [nP, mB, aZo]
  | [], acc, false => by simp [nP, aZo]
  | x :: l, acc, true => by
    have ih := mV b l (if x.key ≠ b.key then acc ++ [x] else acc) true
    rw [List.foldl_cons]
    have e : dW b (acc, true) x = (if x.key ≠ b.key then acc ++ [x] else acc, true) := by unfold dW; by_cases h : x.key = b.key <;> simp [h]
    rw [e, ih]
    by_cases h : x.key = b.key <;> simp [nP, mB, h]
  | x :: l, acc, false => by
    rw [List.foldl_cons]
    by_cases hb : b.key ≤ x.key
    · have ih := mV b l (if x.key ≠ b.key then acc ++ [b] ++ [x] else acc ++ [b]) true
      have e : dW b (acc, false) x = (if x.key ≠ b.key then acc ++ [b] ++ [x] else acc ++ [b], true) := by unfold dW; by_cases h : x.key = b.key <;> simp [h, hb]
      rw [e, ih]
      by_cases h : x.key = b.key <;> simp [nP, mB, h, hb]
    · have hne : x.key ≠ b.key := by omega
      have ih := mV b l (acc ++ [x]) false
      have e : dW b (acc, false) x = (acc ++ [x], false) := by unfold dW; simp [hb, hne]
      rw [e, ih]
      simp [nP, hb]
theorem aBk (s : List Body) (b : Body) (g : Bool) : rT s b g = nP b g s := by
  have := mV b s [] g
  rw [List.nil_append] at this
  exact this
theorem oV (b : Body) : ∀ s : List Body, (nP b false s).Perm (b :: mB b.key s)
  | [] => by simp [nP, mB]
  | x :: l => by
    unfold nP
    split
    · exact List.Perm.refl _
    · rename_i h
      have hne : x.key ≠ b.key := by omega
      have e : mB b.key (x :: l) = x :: mB b.key l := by simp [mB, hne]
      rw [e]
      exact ((oV b l).cons x).trans (List.Perm.swap b x _)
theorem wZ {k : Int} {s : List Body} {x : Body} : x ∈ mB k s ↔ x ∈ s ∧ x.key ≠ k := by simp [mB]
theorem bW.cut {s : List Body} (h : bW s) (k : Int) : bW (mB k s) := List.Pairwise.sublist List.filter_sublist h
theorem bW.put {b : Body} : ∀ {s : List Body}, bW s → bW (nP b false s)
  | [], _ => by simp [nP, bW]
  | x :: l, h => by
    unfold nP
    have hx : ∀ y ∈ l, x.key < y.key := (List.pairwise_cons.1 h).1
    have hl : bW l := (List.pairwise_cons.1 h).2
    split
    · rename_i hb
      refine List.pairwise_cons.2 ⟨fun y hy => ?_, h.cut _⟩
      obtain ⟨h1, h2⟩ := wZ.1 hy
      rcases List.mem_cons.1 h1 with rfl | h1
      · omega
      · have := hx y h1; omega
    · rename_i hb
      refine List.pairwise_cons.2 ⟨fun y hy => ?_, bW.put hl⟩
      have := (oV b l).mem_iff.1 hy
      rcases List.mem_cons.1 this with rfl | h1
      · omega
      · exact hx y (wZ.1 h1).1
theorem aSa (s : List Body) (b : Body) (g : Bool) : (rT s b g).length ≤ s.length + 1 := by
  rw [aBk]
  cases g with
  | true => have := List.length_filter_le (fun x : Body => decide (x.key ≠ b.key)) s; simp only [nP, mB]; omega
  | false =>
    rw [(oV b s).length_eq]
    have := List.length_filter_le (fun x : Body => decide (x.key ≠ b.key)) s
    simp only [mB, List.length_cons]; omega
def kV (s : List Body) (b : Body) : List Body × Int :=
  if check b ≠ 0 then (s, check b) else if 0 ≤ cE b.key s then (s, 10) else if 4096 ≤ s.length then (s, 12) else (rT s b false, 0)
def pB (k : Int) : Body := ⟨k, 0, 0, 0, 0, 0, 0, 0, 0, 0⟩
def oW (s : List Body) (k : Int) : List Body × Int := if cE k s < 0 then (s, 11) else (rT s (pB k) true, 0)
def aPp (s : List Body) (b : Body) : List Body × Int :=
  if check b ≠ 0 then (s, check b) else if cE b.key s < 0 then (s, 11) else (rT s b false, 0)
def uL (l : List Body) : List Body := l.foldl (fun s b => (kV s b).1) []
theorem aQe (s : List Body) (b : Body) : (kV s b).1.length ≤ s.length + 1 := by
  unfold kV
  (repeat' split) <;> first | exact Nat.le_succ _ | exact aSa s b false
theorem aAx {l : List Body} {k : Nat} {x : Body} (h : l[k]? = some x) : uL (l.take (k + 1)) = (kV (uL (l.take k)) x).1 := by
  unfold uL
  rw [cV h, List.foldl_append]
  rfl
theorem aFb (l : List Body) : (uL l).length ≤ l.length := by
  have key : ∀ (l s : List Body), (l.foldl (fun s b => (kV s b).1) s).length ≤ s.length + l.length := by
    intro l
    induction l with
    | nil => intro s; simp
    | cons b l ih =>
      intro s
      have h1 := ih (kV s b).1
      have h2 := aQe s b
      simp only [List.foldl_cons, List.length_cons]
      omega
  have := key l []
  rw [List.length_nil, Nat.zero_add] at this
  exact this
structure Rel (m s : List Body) : Prop where
  perm : s.Perm m
  sorted : bW s
theorem Rel.nil : Rel [] [] := ⟨List.Perm.refl _, by simp [bW]⟩
theorem bW.unique {s t : List Body} (h : bW s) (h' : bW t) (p : s.Perm t) : s = t :=
  List.Perm.eq_of_pairwise (le := fun (a b : Body) => a.key < b.key) (fun a b _ _ h1 h2 => by omega) h h' p
theorem bW.keys {s : List Body} (h : bW s) : gI s := by
  unfold gI List.Nodup
  rw [List.pairwise_map]
  exact h.imp (fun h => by omega)
theorem Rel.keys {m s : List Body} (R : Rel m s) : gI m := R.sorted.keys.perm R.perm.symm
theorem Rel.find {m s : List Body} (R : Rel m s) (k : Int) : cE k s < 0 ↔ cE k m < 0 := by
  rw [jL, jL]
  exact ⟨fun h b hb => h b (R.perm.mem_iff.2 hb), fun h b hb => h b (R.perm.mem_iff.1 hb)⟩
theorem zM {k : Int} {s : List Body} (h : cE k s < 0) : mB k s = s := List.filter_eq_self.2 fun x hx => by simpa using jL.1 h x hx
theorem Rel.put {m s : List Body} (R : Rel m s) (b : Body) {m' : List Body} (h : m'.Perm (b :: mB b.key m)) : Rel m' (rT s b false) := by
  rw [aBk]
  exact ⟨((oV b s).trans ((R.perm.filter _).cons b)).trans h.symm, R.sorted.put⟩
theorem Rel.add {m s : List Body} (R : Rel m s) (b : Body) : Rel (kD m b).1 (kV s b).1 ∧ (kV s b).2 = (kD m b).2 := by
  unfold kD kV
  have hf := R.find b.key
  have hl := R.perm.length_eq
  by_cases h1 : check b ≠ 0
  · rw [if_pos h1, if_pos h1]; exact ⟨R, rfl⟩
  · rw [if_neg h1, if_neg h1]
    by_cases h2 : 0 ≤ cE b.key m
    · have h2' : 0 ≤ cE b.key s := by omega
      rw [if_pos h2, if_pos h2']; exact ⟨R, rfl⟩
    · have h2' : ¬ 0 ≤ cE b.key s := by omega
      rw [if_neg h2, if_neg h2', hl]
      by_cases h3 : 4096 ≤ m.length
      · rw [if_pos h3, if_pos h3]; exact ⟨R, rfl⟩
      · rw [if_neg h3, if_neg h3]
        refine ⟨R.put b ?_, rfl⟩
        rw [zM (by omega)]
        exact List.perm_append_singleton b m
theorem qH {m : List Body} (h : gI m) {i : Nat} {b : Body} (hi : m[i]? = some b) : m.eraseIdx i = mB b.key m := by
  have e : m = m.take i ++ b :: m.drop (i + 1) := by
    have hlt := (List.getElem?_eq_some_iff.1 hi).1
    have hb : m[i] = b := (List.getElem?_eq_some_iff.1 hi).2
    rw [← hb, ← List.drop_eq_getElem_cons hlt, List.take_append_drop]
  have hne := zP h hi
  rw [List.eraseIdx_eq_take_drop_succ] at hne ⊢
  conv => rhs; rw [e]
  unfold mB
  rw [List.filter_append, List.filter_cons]
  simp only [ne_eq, not_true_eq_false, decide_false, Bool.false_eq_true, if_false]
  rw [List.filter_eq_self.2 (fun x hx => by simpa using hne x (List.mem_append_left _ hx)), List.filter_eq_self.2 (fun x hx => by simpa using hne x (List.mem_append_right _ hx))]
theorem Rel.remove {m s : List Body} (R : Rel m s) (k : Int) : Rel (iI m k).1 (oW s k).1 ∧ (oW s k).2 = (iI m k).2 := by
  unfold iI oW
  have hf := R.find k
  by_cases h : cE k m < 0
  · rw [if_pos h, if_pos (hf.2 h)]; exact ⟨R, rfl⟩
  · rw [if_neg h, if_neg (fun h' => h (hf.1 h'))]
    refine ⟨?_, rfl⟩
    rcases dE k m with ⟨h1, _⟩ | ⟨i, b, h1, h2, h3⟩
    · omega
    · rw [h3, Int.toNat_natCast, aBk]
      have hlt := (List.getElem?_eq_some_iff.1 h1).1
      have hk : (pB k).key = b.key := h2.symm
      have he : nP (pB k) true s = mB b.key s := by unfold nP; rw [hk]
      refine ⟨?_, by rw [he]; exact R.sorted.cut _⟩
      show (nP (pB k) true s).Perm _
      rw [he]
      exact (R.perm.filter _).trans ((List.Perm.of_eq (qH R.keys h1).symm).trans (mG hlt).symm)
theorem aOw {m : List Body} {i : Nat} {x : Body} (hi : i < m.length) : (m.set i x).Perm (x :: m.eraseIdx i) := by
  rw [List.set_eq_take_append_cons_drop, if_pos hi, List.eraseIdx_eq_take_drop_succ]
  exact List.perm_middle
theorem Rel.set {m s : List Body} (R : Rel m s) (b : Body) : Rel (qG m b).1 (aPp s b).1 ∧ (aPp s b).2 = (qG m b).2 := by
  unfold qG aPp
  have hf := R.find b.key
  by_cases h1 : check b ≠ 0
  · rw [if_pos h1, if_pos h1]; exact ⟨R, rfl⟩
  · rw [if_neg h1, if_neg h1]
    by_cases h : cE b.key m < 0
    · rw [if_pos h, if_pos (hf.2 h)]; exact ⟨R, rfl⟩
    · rw [if_neg h, if_neg (fun h' => h (hf.1 h'))]
      refine ⟨?_, rfl⟩
      rcases dE b.key m with ⟨h1, _⟩ | ⟨i, c, h1, h2, h3⟩
      · omega
      · rw [h3, Int.toNat_natCast]
        have hlt := (List.getElem?_eq_some_iff.1 h1).1
        refine R.put b ((aOw hlt).trans ?_)
        rw [qH R.keys h1, h2]
theorem Rel.get {m s : List Body} (R : Rel m s) (k : Int) : (cE k s < 0 ∧ wL m k = (pB 0, 11)) ∨ ∃ (i : Nat) (b : Body), cE k s = (i : Int) ∧ s[i]? = some b ∧ wL m k = (b, 0) := by
  rcases dE k s with ⟨h1, h2⟩ | ⟨i, b, h1, h2, h3⟩
  · have hm : cE k m < 0 := (R.find k).1 (by omega)
    refine .inl ⟨by omega, ?_⟩
    unfold wL
    rw [if_pos hm]
    rfl
  · refine .inr ⟨i, b, h3, h1, ?_⟩
    have hb : b ∈ m := R.perm.mem_iff.1 (List.mem_of_getElem? h1)
    obtain ⟨j, hj⟩ := List.getElem?_of_mem hb
    have := oA R.keys hj
    rw [h2] at this
    exact sN this hj
theorem rM {a b : Int} : kW a b < 0 ↔ a < b := by unfold kW; (repeat' split) <;> omega
def aHt (b : Body) : List Body → List Body
  | [] => [b]
  | x :: l => if b.key ≤ x.key then b :: x :: l else x :: aHt b l
def tY (m : List Body) : List Body := m.foldr aHt []
theorem sM (b : Body) : ∀ l : List Body, (aHt b l).Perm (b :: l)
  | [] => List.Perm.refl _
  | x :: l => by
    unfold aHt
    split
    · exact List.Perm.refl _
    · exact ((sM b l).cons x).trans (List.Perm.swap b x l)
theorem lI : ∀ m : List Body, (tY m).Perm m
  | [] => List.Perm.refl _
  | b :: m => (sM b (tY m)).trans ((lI m).cons b)
def Up (s : List Body) : Prop := s.Pairwise (fun a b => a.key ≤ b.key)
theorem aJs (b : Body) : ∀ {l : List Body}, Up l → Up (aHt b l)
  | [], _ => by simp [aHt, Up]
  | x :: l, h => by
    unfold aHt
    have hx : ∀ y ∈ l, x.key ≤ y.key := (List.pairwise_cons.1 h).1
    split
    · rename_i hb
      refine List.pairwise_cons.2 ⟨fun y hy => ?_, h⟩
      rcases List.mem_cons.1 hy with rfl | hy
      · exact hb
      · have := hx y hy; omega
    · refine List.pairwise_cons.2 ⟨fun y hy => ?_, aJs b (List.pairwise_cons.1 h).2⟩
      have := (sM b l).mem_iff.1 hy
      rcases List.mem_cons.1 this with rfl | h1
      · omega
      · exact hx y h1
theorem yG : ∀ m : List Body, Up (tY m)
  | [] => by simp [tY, Up]
  | b :: m => aJs b (yG m)
theorem sX {s : List Body} (h : Up s) (hk : gI s) : bW s := by
  unfold Up at h
  unfold gI List.Nodup at hk
  rw [List.pairwise_map] at hk
  exact (List.Pairwise.and h hk).imp (fun ⟨h1, h2⟩ => by omega)
theorem aNf {s t : List Body} (h : Up s) (h' : Up t) (p : s.Perm t) (hk : gI s) : s = t := (sX h hk).unique (sX h' (hk.perm p.symm)) p
theorem aNr {m : List Body} (hk : gI m) : Rel m (tY m) := ⟨lI m, sX (yG m) (hk.perm (lI m))⟩
theorem Rel.eq {m s : List Body} (R : Rel m s) : tY m = s := (aNr R.keys).sorted.unique R.sorted ((lI m).trans R.perm.symm)
end Go.Bil
namespace Go.Bil
structure InB (b : Body) : Prop where
  key : 0 ≤ b.key ∧ b.key ≤ 4294967295
  radius : -2147483648 ≤ b.radius ∧ b.radius ≤ 2147483647
  ax : -2147483648 ≤ b.ax ∧ b.ax ≤ 2147483647
  ay : -2147483648 ≤ b.ay ∧ b.ay ≤ 2147483647
  mass : -2147483648 ≤ b.mass ∧ b.mass ≤ 2147483647
  bounce : -2147483648 ≤ b.bounce ∧ b.bounce ≤ 2147483647
  px : -2147483648 ≤ b.px ∧ b.px ≤ 2147483647
  py : -2147483648 ≤ b.py ∧ b.py ≤ 2147483647
  vx : -2147483648 ≤ b.vx ∧ b.vx ≤ 2147483647
  vy : -2147483648 ≤ b.vy ∧ b.vy ≤ 2147483647
theorem aYv (l : List Value) (h : jZ [.u32, .i32, .i32, .i32, .i32, .i32, .i32, .i32, .i32, .i32] l) : ∃ b, l = aI b ∧ InB b := by
  obtain ⟨z0, l0, rfl, w0, h0⟩ := gB h
  obtain ⟨z1, l1, rfl, w1, h1⟩ := gB h0
  obtain ⟨z2, l2, rfl, w2, h2⟩ := gB h1
  obtain ⟨z3, l3, rfl, w3, h3⟩ := gB h2
  obtain ⟨z4, l4, rfl, w4, h4⟩ := gB h3
  obtain ⟨z5, l5, rfl, w5, h5⟩ := gB h4
  obtain ⟨z6, l6, rfl, w6, h6⟩ := gB h5
  obtain ⟨z7, l7, rfl, w7, h7⟩ := gB h6
  obtain ⟨z8, l8, rfl, w8, h8⟩ := gB h7
  obtain ⟨z9, l9, rfl, w9, h9⟩ := gB h8
  obtain rfl := aRv h9
  exact ⟨⟨z0, z1, z2, z3, z4, z5, z6, z7, z8, z9⟩, rfl, ⟨w0, w1, w2, w3, w4, w5, w6, w7, w8, w9⟩⟩
end Go.Bil

namespace Go.Bil
structure StV where
  A : Option Addr
  n : Nat
  c : Nat
  p : Option Nat
  er : dP
  em : dP
def aAt (l : List Body) : List Body := l.foldl (fun m b => (kD m b).1) []
theorem xX {l : List Body} {k : Nat} {x : Body} (h : l[k]? = some x) : aAt (l.take (k + 1)) = (kD (aAt (l.take k)) x).1 := by
  unfold aAt
  rw [cV h, List.foldl_append]
  rfl
def uC (l : List Body) : List Body := l.filter (fun b => decide (check b = 0))
theorem aTg {m : List Body} {x : Body} (hf : ∀ b ∈ m, b.key ≠ x.key) (hl : m.length < 4096) : kD (uC m) x = (uC (m ++ [x]), check x) := by
  have hle : (uC m).length ≤ m.length := List.length_filter_le _ _
  unfold kD
  by_cases h : check x = 0
  · rw [if_neg (by omega), if_neg (by
      have : cE x.key (uC m) < 0 := jL.2 fun b hb => hf b (List.mem_filter.1 hb).1
      omega), if_neg (by omega), h]
    simp [uC, List.filter_append, h]
  · rw [if_pos h]
    simp [uC, List.filter_append, h]
theorem aFe {l : List Body} (h : gI l) {k : Nat} {x : Body} (hx : l[k]? = some x) : ∀ b ∈ l.take k, b.key ≠ x.key := by
  intro b hb e
  obtain ⟨j, hj⟩ := List.getElem?_of_mem hb
  rw [List.getElem?_take] at hj
  split at hj
  · rename_i hlt
    have := h.inj hj hx e
    omega
  · cases hj
theorem wO {l : List Body} (h : gI l) (hl : l.length ≤ 4096) : ∀ k, k ≤ l.length → aAt (l.take k) = uC (l.take k)
  | 0, _ => by simp [aAt, uC]
  | k + 1, hk => by
    obtain ⟨x, hx⟩ := cL (xs := l) (k := k) rfl (by omega)
    rw [xX hx, wO h hl k (by omega), aTg (aFe h hx) (by rw [List.length_take]; omega), cV hx]
theorem aFn {m : List Body} (hk : gI m) (k : Int) : (iI m k).1.Perm (mB k m) := by
  unfold iI
  by_cases h : cE k m < 0
  · rw [if_pos h, zM h]
  · rw [if_neg h]
    rcases dE k m with ⟨h1, _⟩ | ⟨i, b, h1, h2, h3⟩
    · omega
    · rw [h3, Int.toNat_natCast]
      have hlt := (List.getElem?_eq_some_iff.1 h1).1
      have := (mG hlt).trans (List.Perm.of_eq (qH hk h1))
      rwa [h2] at this
end Go.Bil
namespace Go.Bil
structure StepI where
  kind : Int
  body : Body
instance : Inhabited StepI := ⟨⟨0, pB 0⟩⟩
end Go.Bil

namespace Go.Bil
def iV : List Body → Int
  | [] => 0
  | b :: l => if check b ≠ 0 then check b else iV l
def nK (xs : List Body) : Int := if 4096 < xs.length then 12 else iV xs
theorem lZ : ∀ {xs : List Body}, (∀ (j : Nat) (c : Body), xs[j]? = some c → check c = 0) → iV xs = 0
  | [], _ => rfl
  | b :: l, h => by
    unfold iV
    rw [if_neg (by have := h 0 b (by simp); omega)]
    exact lZ fun j c hj => h (j + 1) c (by simpa using hj)
theorem tW : ∀ {xs : List Body} {k : Nat} {b : Body}, xs[k]? = some b → check b ≠ 0 → (∀ (j : Nat) (c : Body), j < k → xs[j]? = some c → check c = 0) → iV xs = check b
  | [], _, _, h, _, _ => by simp at h
  | a :: l, 0, b, h, hb, _ => by
    simp only [List.getElem?_cons_zero, Option.some.injEq] at h
    subst h
    unfold iV
    rw [if_pos hb]
  | a :: l, k + 1, b, h, hb, hn => by
    unfold iV
    rw [if_neg (by have := hn 0 a (by omega) (by simp); omega)]
    exact tW (by simpa using h) hb fun j c hj hc => hn (j + 1) c (by omega) (by simpa using hc)
theorem rK : ∀ {xs : List Body}, iV xs = 0 → ∀ b ∈ xs, check b = 0
  | [], _, b, hb => by simp at hb
  | a :: l, h, b, hb => by
    unfold iV at h
    by_cases ha : check a = 0
    · rw [if_neg (by omega)] at h
      rcases List.mem_cons.1 hb with rfl | hb
      · exact ha
      · exact rK h b hb
    · rw [if_pos ha] at h; exact absurd h ha
theorem aSd {xs : List Body} (h : nK xs = 0) : xs.length ≤ 4096 ∧ ∀ b ∈ xs, check b = 0 := by
  unfold nK at h
  split at h
  · omega
  · exact ⟨by omega, rK h⟩
theorem aOz {xs : List Body} (hl : xs.length ≤ 4096) (h : ∀ b ∈ xs, check b = 0) : nK xs = 0 := by
  unfold nK
  rw [if_neg (by omega)]
  exact lZ fun j c hj => h c (List.mem_of_getElem? hj)
def yX : List Body → Bool
  | x :: y :: l => decide (x.key < y.key) && yX (y :: l)
  | _ => true
theorem sL : ∀ {xs : List Body}, (∀ (i : Nat) (x y : Body), xs[i]? = some x → xs[i + 1]? = some y → x.key < y.key) → yX xs = true
  | [], _ => rfl
  | [_], _ => rfl
  | x :: y :: l, h => by
    unfold yX
    rw [Bool.and_eq_true]
    exact ⟨decide_eq_true (h 0 x y (by simp) (by simp)), sL fun i a b ha hb => h (i + 1) a b (by simpa using ha) (by simpa using hb)⟩
theorem oS : ∀ {xs : List Body}, yX xs = true → bW xs
  | [], _ => by simp [bW]
  | [_], _ => by simp [bW]
  | x :: y :: l, h => by
    unfold yX at h
    rw [Bool.and_eq_true, decide_eq_true_eq] at h
    have ih := oS h.2
    refine List.pairwise_cons.2 ⟨fun z hz => ?_, ih⟩
    rcases List.mem_cons.1 hz with rfl | hz
    · exact h.1
    · have := (List.pairwise_cons.1 ih).1 z hz; have := h.1; omega
theorem aEt {xs : List Body} (h : bW xs) : yX xs = true := sL fun i x y hx hy => by
  have hi := List.getElem?_eq_some_iff.1 hx
  have hj := List.getElem?_eq_some_iff.1 hy
  have := List.pairwise_iff_getElem.1 h i (i + 1) hi.1 hj.1 (by omega)
  rwa [hi.2, hj.2] at this
theorem aIu {xs : List Body} {i : Nat} {x y : Body} (hx : xs[i]? = some x) (hy : xs[i + 1]? = some y) (h : ¬ x.key < y.key) : yX xs = false := by
  cases e : yX xs with
  | false => rfl
  | true =>
    exfalso
    have hi := List.getElem?_eq_some_iff.1 hx
    have hj := List.getElem?_eq_some_iff.1 hy
    have := List.pairwise_iff_getElem.1 (oS e) i (i + 1) hi.1 hj.1 (by omega)
    rw [hi.2, hj.2] at this
    exact h this
def gG (xs : List Body) : Int := if nK xs ≠ 0 then nK xs else if yX xs = true then 0 else 10
instance (m : List Body) : Decidable (gI m) := by unfold gI; infer_instance
def tI (key : Int) : List Body → Nat
  | [] => 0
  | b :: l => (if b.key < key then 1 else 0) + tI key l
theorem rY {key : Int} : ∀ {xs : List Body} {k : Nat}, k ≤ xs.length → (∀ (j : Nat) (c : Body), j < k → xs[j]? = some c → c.key < key) → (∀ (j : Nat) (c : Body), k ≤ j → xs[j]? = some c → ¬ c.key < key) → tI key xs = k
  | [], k, hk, _, _ => by simp at hk; simp [tI, hk]
  | b :: l, 0, _, _, h2 => by
    unfold tI
    rw [if_neg (h2 0 b (Nat.le_refl _) (by simp)), rY (k := 0) (by omega) (fun j c hj => by omega) (fun j c _ hc => h2 (j + 1) c (by omega) (by simpa using hc))]
  | b :: l, k + 1, hk, h1, h2 => by
    unfold tI
    rw [if_pos (h1 0 b (by omega) (by simp)), rY (k := k) (by simpa using hk) (fun j c hj hc => h1 (j + 1) c (by omega) (by simpa using hc)) (fun j c hj hc => h2 (j + 1) c (by omega) (by simpa using hc))]
    omega
def iH (k : Int) : List Value := [.int .u32 k]
end Go.Bil
namespace Go.Bil
theorem tQ {xs : List Body} (h : bW xs) {p q : Nat} {a b : Body} (hpq : p ≤ q) (ha : xs[p]? = some a) (hb : xs[q]? = some b) : a.key ≤ b.key := by
  by_cases e : p = q
  · subst e
    rw [ha] at hb
    injection hb with hb
    rw [hb]; exact Int.le_refl _
  · have hi := List.getElem?_eq_some_iff.1 ha
    have hj := List.getElem?_eq_some_iff.1 hb
    have := List.pairwise_iff_getElem.1 h p q hi.1 hj.1 (by omega)
    rw [hi.2, hj.2] at this
    omega
theorem bEn (i j : Nat) : ((i : Int) + (j : Int)).fdiv (2 ^ (min (1 : Int).toNat IntKind.u64.bits)) = (((i + j) / 2 : Nat) : Int) := by
  have e : (2 : Int) ^ (min (1 : Int).toNat IntKind.u64.bits) = 2 := by decide
  rw [e, Int.fdiv_eq_ediv_of_nonneg _ (by omega)]
  omega
theorem zJ {a b a' b' : Value} (h1 : a = a') (h2 : b = b') : Value.tuple #[a, b] = Value.tuple #[a', b'] := by rw [h1, h2]
theorem aMk {a b : Int} : kW a b = 0 ↔ a = b := by unfold kW; (repeat' split) <;> omega
theorem aLn {key : Int} {xs : List Body} (hs : bW xs) {i : Nat} {b : Body} (hb : xs[i]? = some b) (h1 : ∀ (j : Nat) (c : Body), j < i → xs[j]? = some c → c.key < key) (h2 : ∀ (j : Nat) (c : Body), i ≤ j → xs[j]? = some c → ¬ c.key < key) : kW b.key key = 0 ↔ 0 ≤ cE key xs := by
  rw [aMk]
  constructor
  · intro e
    rcases dE key xs with ⟨_, h⟩ | ⟨_, _, _, _, h⟩
    · exact absurd e (h b (List.mem_of_getElem? hb))
    · omega
  · intro h
    rcases dE key xs with ⟨h', _⟩ | ⟨j, c, hc, hk, _⟩
    · omega
    · have hij : i ≤ j := by
        rcases Nat.lt_or_ge j i with hlt | hge
        · have := h1 j c hlt hc; omega
        · exact hge
      have := tQ hs hij hb hc
      have := h2 i b (Nat.le_refl _) hb
      omega
theorem aJi {key : Int} {xs : List Body} (h1 : ∀ (j : Nat) (c : Body), j < xs.length → xs[j]? = some c → c.key < key) : ¬ 0 ≤ cE key xs := by
  intro h
  rcases dE key xs with ⟨h', _⟩ | ⟨j, c, hc, hk, _⟩
  · omega
  · have := h1 j c (List.getElem?_eq_some_iff.1 hc).1 hc
    omega
end Go.Bil
namespace Go.Bil
end Go.Bil
namespace Go.Bil
end Go.Bil
namespace Go.Bil
theorem aHi (k : Int) : ∀ y ∈ [iH k], y.length = 1 ∧ ∀ u ∈ y, one u = true := by
  intro y hy
  simp only [List.mem_singleton] at hy
  subst hy
  exact ⟨rfl, aY rfl⟩
end Go.Bil
namespace Go.Bil
structure Mg (xs ys : List Body) (i k : Nat) : Prop where
  sx : bW xs
  sy : bW ys
  yx : ∀ (p : Nat) (a b : Body), p < k → ys[p]? = some a → xs[i]? = some b → a.key < b.key
  xy : ∀ (p : Nat) (a b : Body), p < i → xs[p]? = some a → ys[k]? = some b → a.key < b.key
theorem Mg.swap {xs ys : List Body} {i k : Nat} (h : Mg xs ys i k) : Mg ys xs k i := ⟨h.sy, h.sx, h.xy, h.yx⟩
theorem dQ {xs : List Body} (h : bW xs) {p q : Nat} {a b : Body} (hpq : p < q) (ha : xs[p]? = some a) (hb : xs[q]? = some b) : a.key < b.key := by
  have hi := List.getElem?_eq_some_iff.1 ha
  have hj := List.getElem?_eq_some_iff.1 hb
  have := List.pairwise_iff_getElem.1 h p q hi.1 hj.1 hpq
  rwa [hi.2, hj.2] at this
theorem Mg.x {xs ys : List Body} {i k : Nat} {a : Body} (h : Mg xs ys i k) (ha : xs[i]? = some a) (hb : ∀ b, ys[k]? = some b → a.key < b.key) : Mg xs ys (i + 1) k ∧ cE a.key ys < 0 := by
  refine ⟨⟨h.sx, h.sy, fun p y x hp hy hx => ?_, fun p x y hp hx hy => ?_⟩, jL.2 fun y hy => ?_⟩
  · have := h.yx p y a hp hy ha
    have := dQ h.sx (Nat.lt_succ_self i) ha hx
    omega
  · by_cases e : p = i
    · subst e
      rw [ha] at hx
      injection hx with hx
      subst hx
      exact hb y hy
    · exact h.xy p x y (by omega) hx hy
  · obtain ⟨q, hq⟩ := List.getElem?_of_mem hy
    rcases Nat.lt_or_ge q k with hlt | hge
    · have := h.yx q y a hlt hq ha; omega
    · obtain ⟨b, hbk⟩ := cL (xs := ys) (k := k) rfl (by have := (List.getElem?_eq_some_iff.1 hq).1; omega)
      have h1 := hb b hbk
      have h2 := tQ h.sy hge hbk hq
      omega
theorem Mg.y {xs ys : List Body} {i k : Nat} {b : Body} (h : Mg xs ys i k) (hb : ys[k]? = some b) (ha : ∀ a, xs[i]? = some a → b.key < a.key) : Mg xs ys i (k + 1) ∧ cE b.key xs < 0 := by
  obtain ⟨h1, h2⟩ := h.swap.x hb ha
  exact ⟨h1.swap, h2⟩
theorem Mg.both {xs ys : List Body} {i k : Nat} {a b : Body} (h : Mg xs ys i k) (ha : xs[i]? = some a) (hb : ys[k]? = some b) (hk : a.key = b.key) : Mg xs ys (i + 1) (k + 1) ∧ cE a.key ys = (k : Int) ∧ cE b.key xs = (i : Int) := by
  refine ⟨⟨h.sx, h.sy, fun p y x hp hy hx => ?_, fun p x y hp hx hy => ?_⟩, ?_, ?_⟩
  · have h1 := dQ h.sx (Nat.lt_succ_self i) ha hx
    have h2 := tQ h.sy (show p ≤ k by omega) hy hb
    omega
  · have h1 := dQ h.sy (Nat.lt_succ_self k) hb hy
    have h2 := tQ h.sx (show p ≤ i by omega) hx ha
    omega
  · exact rQ hb hk.symm fun j c hj hc => by have := dQ h.sy hj hc hb; omega
  · exact rQ ha hk fun j c hj hc => by have := dQ h.sx hj hc ha; omega
end Go.Bil
namespace Go.Bil
end Go.Bil
namespace Go.Bil
end Go.Bil
namespace Go.Bil
end Go.Bil
namespace Go.Bil
end Go.Bil
namespace Go.Bil
end Go.Bil
namespace Go.Bil
end Go.Bil

namespace Go.Bil
theorem aMy {v : List Body} (he : nK v = 0) (hs : bW v) : gG v = 0 := by
  unfold gG
  rw [if_neg (by omega), if_pos (aEt hs)]
end Go.Bil

namespace Go.Bil
structure Bx where
  x0 : Int
  y0 : Int
  x1 : Int
  y1 : Int
  deriving DecidableEq, Inhabited
def dI (a : Bx) : List Value := [.int .i32 a.x0, .int .i32 a.y0, .int .i32 a.x1, .int .i32 a.y1]
def aMn (b : Body) : Int := max b.ax (-b.ax) + b.radius
def aNu (b : Body) : Int := max b.ay (-b.ay) + b.radius
def gY (b : Body) : Bx := ⟨b.px - aMn b, b.py - aNu b, b.px + aMn b, b.py + aNu b⟩
abbrev gD (a : Bx) : Prop := a.x1 < a.x0 ∨ a.y1 < a.y0
def jA : Bx := ⟨1, 0, 0, 0⟩
def aAr (a b : Bx) : Bx := if gD ⟨max a.x0 b.x0, max a.y0 b.y0, min a.x1 b.x1, min a.y1 b.y1⟩ then jA else ⟨max a.x0 b.x0, max a.y0 b.y0, min a.x1 b.x1, min a.y1 b.y1⟩
abbrev ovl (a b : Bx) : Prop := (a.x0 ≤ a.x1 ∧ a.y0 ≤ a.y1) ∧ (b.x0 ≤ b.x1 ∧ b.y0 ≤ b.y1) ∧ (a.x0 ≤ b.x1 ∧ b.x0 ≤ a.x1 ∧ a.y0 ≤ b.y1 ∧ b.y0 ≤ a.y1)
theorem aSy (a b : Bx) : ¬ gD (aAr a b) ↔ ovl a b := by
  unfold aAr
  split
  · rename_i h
    unfold gD at h
    simp only [gD, jA, ovl]
    simp only at h
    omega
  · rename_i h
    unfold gD at h
    simp only [gD, ovl]
    simp only at h
    omega
structure Okb (b : Body) : Prop where
  r : 4096 ≤ b.radius ∧ b.radius ≤ 4194304
  a : -4194304 ≤ b.ax ∧ b.ax ≤ 4194304 ∧ -4194304 ≤ b.ay ∧ b.ay ≤ 4194304
  m : 0 ≤ b.mass ∧ b.mass ≤ 1048576
  c : 0 ≤ b.bounce ∧ b.bounce ≤ 65536
  p : -1073741824 ≤ b.px ∧ b.px ≤ 1073741824 ∧ -1073741824 ≤ b.py ∧ b.py ≤ 1073741824
  v : -16777216 ≤ b.vx ∧ b.vx ≤ 16777216 ∧ -16777216 ≤ b.vy ∧ b.vy ≤ 16777216
theorem aEs {b : Body} (h : check b = 0) : Okb b := by
  by_cases h1 : 4096 ≤ b.radius ∧ b.radius ≤ 4194304
  · by_cases h2 : -4194304 ≤ b.ax ∧ b.ax ≤ 4194304 ∧ -4194304 ≤ b.ay ∧ b.ay ≤ 4194304
    · by_cases h3 : 0 ≤ b.mass ∧ b.mass ≤ 1048576
      · by_cases h4 : 0 ≤ b.bounce ∧ b.bounce ≤ 65536
        · by_cases h5 : -1073741824 ≤ b.px ∧ b.px ≤ 1073741824 ∧ -1073741824 ≤ b.py ∧ b.py ≤ 1073741824
          · by_cases h6 : -16777216 ≤ b.vx ∧ b.vx ≤ 16777216 ∧ -16777216 ≤ b.vy ∧ b.vy ≤ 16777216
            · exact ⟨h1, h2, h3, h4, h5, h6⟩
            · rw [aKc b h1 h2 h3 h4 h5 h6] at h; omega
          · rw [aKw b h1 h2 h3 h4 h5] at h; omega
        · rw [aKq b h1 h2 h3 h4] at h; omega
      · rw [aKh b h1 h2 h3] at h; omega
    · rw [aKf b h1 h2] at h; omega
  · rw [aKa b h1] at h; omega
theorem aSj {b : Body} (h : Okb b) : 4096 ≤ aMn b ∧ aMn b ≤ 8388608 ∧ 4096 ≤ aNu b ∧ aNu b ≤ 8388608 := by
  have := h.r
  have := h.a
  unfold aMn aNu
  omega
structure Okx (a : Bx) : Prop where
  x0 : -2147483648 ≤ a.x0 ∧ a.x0 ≤ 2147483647
  y0 : -2147483648 ≤ a.y0 ∧ a.y0 ≤ 2147483647
  x1 : -2147483648 ≤ a.x1 ∧ a.x1 ≤ 2147483647
  y1 : -2147483648 ≤ a.y1 ∧ a.y1 ≤ 2147483647
theorem bAp {b : Body} (h : Okb b) : Okx (gY b) := by
  have h1 := aSj h
  have h2 := h.p
  constructor <;> simp only [gY] <;> omega
end Go.Bil

namespace Go.Bil
def cG (c : Int × Int) : List Value := [.int .i32 c.1, .int .i32 c.2]
def lG (x : Int) : Int := x.fdiv 4194304
theorem aYd (x : Int) : x.fdiv (2 ^ (min (22 : Int).toNat IntKind.i32.bits)) = lG x := rfl
theorem aBq (x : Int) : lG x = x / 4194304 := by unfold lG; exact Int.fdiv_eq_ediv_of_nonneg x (by decide)
theorem nA {x : Int} (h0 : -2147483648 ≤ x) (h1 : x ≤ 2147483647) : -512 ≤ lG x ∧ lG x ≤ 511 := by rw [aBq]; omega
theorem iQ {x y : Int} (h : x ≤ y) : lG x ≤ lG y := by rw [aBq, aBq]; omega
def loC (a : Bx) : Int × Int := if gD a then (0, 0) else (lG a.x0, lG a.y0)
def hiC (a : Bx) : Int × Int := if gD a then (0, 0) else (lG a.x1, lG a.y1)
def nX (lo hi : Int × Int) : Nat := (hi.1 - lo.1 + 1).toNat
def nY (lo hi : Int × Int) : Nat := (hi.2 - lo.2 + 1).toNat
def vN (lo : Int × Int) (i j : Nat) : List (Int × Int) := (List.range i).map (fun (p : Nat) => (lo.1 + (p : Int), lo.2 + (j : Int)))
def lQ (lo hi : Int × Int) (j : Nat) : List (Int × Int) := (List.range j).flatMap (fun q => vN lo (nX lo hi) q)
def sR (ok : Bool) (lo hi : Int × Int) : List (Int × Int) := if ok then lQ lo hi (nY lo hi) else []
def fP (a : Bx) : List (Int × Int) := sR (decide (¬ gD a)) (loC a) (hiC a)
theorem aGf (lo : Int × Int) (i j : Nat) : (vN lo i j).length = i := by simp [vN]
theorem aOh (lo : Int × Int) (i j : Nat) : vN lo (i + 1) j = vN lo i j ++ [(lo.1 + (i : Int), lo.2 + (j : Int))] := by simp [vN, List.range_succ]
theorem yJ (lo hi : Int × Int) (j : Nat) : lQ lo hi (j + 1) = lQ lo hi j ++ vN lo (nX lo hi) j := by simp [lQ, List.range_succ]
theorem sK (lo hi : Int × Int) : ∀ j, (lQ lo hi j).length = j * nX lo hi
  | 0 => by simp [lQ]
  | j + 1 => by rw [yJ, List.length_append, sK lo hi j, aGf, Nat.add_mul, Nat.one_mul]
theorem aPn {lo hi : Int × Int} {i j : Nat} (hx : nX lo hi ≤ 1024) (hj : j < 1024) (hi' : i < nX lo hi) : (lQ lo hi j).length + i < 1048576 := by
  rw [sK]
  have : j * nX lo hi ≤ 1023 * 1024 := Nat.mul_le_mul (by omega) hx
  omega
theorem aTj {lo hi : Int × Int} {j : Nat} (hx : nX lo hi ≤ 1024) (hj : j ≤ 1024) : (lQ lo hi j).length ≤ 1048576 := by
  rw [sK]
  exact Nat.mul_le_mul hj hx
theorem aNj {lo hi : Int × Int} {n : Nat} {c : Int × Int} : c ∈ lQ lo hi n ↔ ∃ q p : Nat, q < n ∧ p < nX lo hi ∧ c = (lo.1 + (p : Int), lo.2 + (q : Int)) := by
  simp only [lQ, vN, List.mem_flatMap, List.mem_range, List.mem_map]
  constructor
  · rintro ⟨q, hq, p, hp, rfl⟩; exact ⟨q, p, hq, hp, rfl⟩
  · rintro ⟨q, p, hq, hp, rfl⟩; exact ⟨q, hq, p, hp, rfl⟩
theorem wE {a : Bx} {c : Int × Int} : c ∈ fP a ↔ ¬ gD a ∧ lG a.x0 ≤ c.1 ∧ c.1 ≤ lG a.x1 ∧ lG a.y0 ≤ c.2 ∧ c.2 ≤ lG a.y1 := by
  unfold fP sR
  by_cases h : gD a
  · simp [h]
  · rw [if_pos (by simpa using h), aNj]
    simp only [loC, hiC, if_neg h, nX, nY]
    constructor
    · rintro ⟨q, p, hq, hp, rfl⟩
      refine ⟨h, ?_⟩
      simp only
      omega
    · rintro ⟨_, h1, h2, h3, h4⟩
      refine ⟨(c.2 - lG a.y0).toNat, (c.1 - lG a.x0).toNat, by omega, by omega, ?_⟩
      apply Prod.ext <;> simp only <;> omega
structure Okc (c : Int × Int) : Prop where
  x : -512 ≤ c.1 ∧ c.1 ≤ 511
  y : -512 ≤ c.2 ∧ c.2 ≤ 511
theorem aIt {a : Bx} (h : Okx a) : Okc (loC a) := by
  unfold loC
  split
  · exact ⟨by decide, by decide⟩
  · exact ⟨nA h.x0.1 h.x0.2, nA h.y0.1 h.y0.2⟩
theorem aIr {a : Bx} (h : Okx a) : Okc (hiC a) := by
  unfold hiC
  split
  · exact ⟨by decide, by decide⟩
  · exact ⟨nA h.x1.1 h.x1.2, nA h.y1.1 h.y1.2⟩
theorem aYa {lo hi : Int × Int} (h1 : Okc lo) (h2 : Okc hi) : nX lo hi ≤ 1024 := by
  have := h1.x; have := h2.x
  unfold nX
  omega
theorem aYh {lo hi : Int × Int} (h1 : Okc lo) (h2 : Okc hi) : nY lo hi ≤ 1024 := by
  have := h1.y; have := h2.y
  unfold nY
  omega
theorem aHc {a : Bx} (h : Okx a) : (fP a).length ≤ 1048576 := by
  unfold fP sR
  split
  · exact aTj (aYa (aIt h) (aIr h)) (aYh (aIt h) (aIr h))
  · simp
theorem aPc {a b : Bx} (h : ovl a b) : ∃ c, c ∈ fP a ∧ c ∈ fP b := by
  obtain ⟨⟨h1, h2⟩, ⟨h3, h4⟩, h5, h6, h7, h8⟩ := h
  refine ⟨(lG (max a.x0 b.x0), lG (max a.y0 b.y0)), wE.2 ⟨by unfold gD; omega, ?_⟩, wE.2 ⟨by unfold gD; omega, ?_⟩⟩
  · exact ⟨iQ (by omega), iQ (by omega), iQ (by omega), iQ (by omega)⟩
  · exact ⟨iQ (by omega), iQ (by omega), iQ (by omega), iQ (by omega)⟩
def pD (c : Int × Int) : Int :=
  IntKind.u32.wrap ((BitVec.ofInt 32 (IntKind.u32.wrap ((BitVec.ofInt 32 (IntKind.u32.wrap (IntKind.u32.wrap c.1 * 73856093)) ^^^ BitVec.ofInt 32 (IntKind.u32.wrap (IntKind.u32.wrap c.2 * 19349663))).toNat)) &&& BitVec.ofInt 32 1023).toNat)
def dH (c : Int × Int) : Nat := (pD c).toNat
theorem jN (c : Int × Int) : 0 ≤ pD c ∧ pD c < 1024 := by
  unfold pD
  generalize BitVec.ofInt 32 (IntKind.u32.wrap _) = a
  have h : (a &&& BitVec.ofInt 32 1023).toNat ≤ 1023 := by
    rw [BitVec.toNat_and]
    exact Nat.le_trans Nat.and_le_right (by decide)
  rw [aAa _ (by omega) (by omega)]
  omega
theorem iN (c : Int × Int) : dH c < 1024 := by have := jN c; unfold dH; omega
theorem aMw (c : Int × Int) : pD c = (dH c : Int) := by have := jN c; unfold dH; omega
end Go.Bil

namespace Go.Bil
def cA (n : Int) : List Int := [n / 16777216 % 256, n / 65536 % 256, n / 256 % 256, n % 256]
def aPi (b : Body) : List Int := [b.key, b.radius, b.ax, b.ay, b.mass, b.bounce, b.px, b.py, b.vx, b.vy]
def jU (b : Body) : List Int := (aPi b).flatMap cA
def gE : List Int := [66, 73, 76, 49]
def kR (v : List Body) : List Int := gE ++ cA (v.length : Int) ++ v.flatMap jU
def dY (l : List Int) (a : Nat) : Int := ((l.getD a 0 * 256 + l.getD (a + 1) 0) * 256 + l.getD (a + 2) 0) * 256 + l.getD (a + 3) 0
def mC (n : Int) : Int := if 2147483648 ≤ n then n - 4294967296 else n
def kA (l : List Int) (a : Nat) : Body := ⟨dY l a, mC (dY l (a + 4)), mC (dY l (a + 8)), mC (dY l (a + 12)), mC (dY l (a + 16)), mC (dY l (a + 20)), mC (dY l (a + 24)), mC (dY l (a + 28)), mC (dY l (a + 32)), mC (dY l (a + 36))⟩
abbrev wW (l : List Int) : Prop := 8 ≤ l.length ∧ l.take 4 = gE ∧ (l.length : Int) = 8 + 40 * dY l 4
def lM (l : List Int) (n : Nat) : List Body := (List.range n).map (fun i => kA l (8 + 40 * i))
def kU (l : List Int) : List Body × Int := if ¬ wW l then ([], 13) else if gG (lM l (dY l 4).toNat) ≠ 0 then ([], gG (lM l (dY l 4).toNat)) else (lM l (dY l 4).toNat, 0)
abbrev jD (l : List Int) : Prop := ∀ x ∈ l, 0 ≤ x ∧ x ≤ 255
theorem kM (n : Int) : (cA n).length = 4 := rfl
theorem aQv (b : Body) : (jU b).length = 40 := rfl
theorem aEi (v : List Body) : (v.flatMap jU).length = 40 * v.length := by
  induction v with
  | nil => rfl
  | cons b v ih => rw [List.flatMap_cons, List.length_append, ih, aQv, List.length_cons]; omega
theorem yK (v : List Body) : (kR v).length = 8 + 40 * v.length := by
  unfold kR
  rw [List.length_append, List.length_append, aEi, kM]
  rfl
theorem wM (n : Int) : jD (cA n) := fun x hx => by
  simp only [cA, List.mem_cons, List.not_mem_nil, or_false] at hx
  rcases hx with rfl | rfl | rfl | rfl <;> omega
theorem aNs (b : Body) : jD (jU b) := fun x hx => by
  obtain ⟨n, _, h⟩ := List.mem_flatMap.1 hx
  exact wM n x h
theorem aOr (v : List Body) : jD (kR v) := fun x hx => by
  unfold kR at hx
  rcases List.mem_append.1 hx with h | h
  · rcases List.mem_append.1 h with h | h
    · simp only [gE, List.mem_cons, List.not_mem_nil, or_false] at h
      rcases h with rfl | rfl | rfl | rfl <;> omega
    · exact wM _ x h
  · obtain ⟨b, _, h⟩ := List.mem_flatMap.1 h
    exact aNs b x h
theorem sF (n : Int) : cA (n % 4294967296) = cA n := by
  unfold cA
  have h1 : n % 4294967296 / 16777216 % 256 = n / 16777216 % 256 := by omega
  have h2 : n % 4294967296 / 65536 % 256 = n / 65536 % 256 := by omega
  have h3 : n % 4294967296 / 256 % 256 = n / 256 % 256 := by omega
  have h4 : n % 4294967296 % 256 = n % 256 := by omega
  rw [h1, h2, h3, h4]
theorem aMv (n : Int) : cA (mC n) = cA n := by
  unfold mC
  split
  · rw [← sF (n - 4294967296), ← sF n]
    congr 1
    omega
  · rfl
theorem rZ {A L B : List Int} {a : Nat} (ha : A.length = a) {j : Nat} (hj : j < L.length) : (A ++ (L ++ B)).getD (a + j) 0 = L.getD j 0 := by
  subst ha
  rw [List.getD_eq_getElem?_getD, List.getD_eq_getElem?_getD, List.getElem?_append_right (by omega), List.getElem?_append_left (by omega)]
  congr 2
  omega
theorem aAs {A B : List Int} {a : Nat} (ha : A.length = a) (n : Int) : dY (A ++ (cA n ++ B)) a = n % 4294967296 := by
  have h0 : (A ++ (cA n ++ B)).getD a 0 = n / 16777216 % 256 := rZ (j := 0) ha (by rw [kM]; omega)
  have h1 : (A ++ (cA n ++ B)).getD (a + 1) 0 = n / 65536 % 256 := rZ (j := 1) ha (by rw [kM]; omega)
  have h2 : (A ++ (cA n ++ B)).getD (a + 2) 0 = n / 256 % 256 := rZ (j := 2) ha (by rw [kM]; omega)
  have h3 : (A ++ (cA n ++ B)).getD (a + 3) 0 = n % 256 := rZ (j := 3) ha (by rw [kM]; omega)
  unfold dY
  rw [h0, h1, h2, h3]
  omega
theorem aWy {A B L : List Int} {a k : Nat} {n : Int} (ha : A.length = a) {P Q : List Int} (hL : L = P ++ (cA n ++ Q)) (hP : P.length = k) : dY (A ++ (L ++ B)) (a + k) = n % 4294967296 := by
  have e : A ++ (L ++ B) = (A ++ P) ++ (cA n ++ (Q ++ B)) := by rw [hL]; simp only [List.append_assoc]
  rw [e]
  exact aAs (by rw [List.length_append, ha, hP]) n
theorem kI {n : Int} (h : -2147483648 ≤ n ∧ n ≤ 2147483647) : mC (n % 4294967296) = n := by unfold mC; split <;> omega
theorem aIj {A B : List Int} {a : Nat} (ha : A.length = a) {b : Body} (h : InB b) : kA (A ++ (jU b ++ B)) a = b := by
  have e : jU b = cA b.key ++ (cA b.radius ++ (cA b.ax ++ (cA b.ay ++ (cA b.mass ++ (cA b.bounce ++ (cA b.px ++ (cA b.py ++ (cA b.vx ++ (cA b.vy ++ []))))))))) := rfl
  have f (k : Nat) (n : Int) (P Q : List Int) (hL : jU b = P ++ (cA n ++ Q)) (hP : P.length = k) : dY (A ++ (jU b ++ B)) (a + k) = n % 4294967296 := aWy ha hL hP
  have f0 := f 0 b.key [] _ rfl rfl
  have f1 := f 4 b.radius (cA b.key) _ rfl rfl
  have f2 := f 8 b.ax (cA b.key ++ cA b.radius) _ rfl rfl
  have f3 := f 12 b.ay (cA b.key ++ cA b.radius ++ cA b.ax) _ rfl rfl
  have f4 := f 16 b.mass (cA b.key ++ cA b.radius ++ cA b.ax ++ cA b.ay) _ rfl rfl
  have f5 := f 20 b.bounce (cA b.key ++ cA b.radius ++ cA b.ax ++ cA b.ay ++ cA b.mass) _ rfl rfl
  have f6 := f 24 b.px (cA b.key ++ cA b.radius ++ cA b.ax ++ cA b.ay ++ cA b.mass ++ cA b.bounce) _ rfl rfl
  have f7 := f 28 b.py (cA b.key ++ cA b.radius ++ cA b.ax ++ cA b.ay ++ cA b.mass ++ cA b.bounce ++ cA b.px) _ rfl rfl
  have f8 := f 32 b.vx (cA b.key ++ cA b.radius ++ cA b.ax ++ cA b.ay ++ cA b.mass ++ cA b.bounce ++ cA b.px ++ cA b.py) _ rfl rfl
  have f9 := f 36 b.vy (cA b.key ++ cA b.radius ++ cA b.ax ++ cA b.ay ++ cA b.mass ++ cA b.bounce ++ cA b.px ++ cA b.py ++ cA b.vx) [] rfl rfl
  rw [Nat.add_zero] at f0
  obtain ⟨h0, h1, h2, h3, h4, h5, h6, h7, h8, h9⟩ := h
  unfold kA
  rw [f0, f1, f2, f3, f4, f5, f6, f7, f8, f9, kI (by omega), kI (by omega), kI (by omega), kI (by omega), kI (by omega), kI (by omega), kI (by omega), kI (by omega), kI (by omega), Int.emod_eq_of_lt (by omega) (by omega)]
theorem aHx {v : List Body} {i : Nat} {b : Body} (h : v[i]? = some b) : kR v = (gE ++ cA (v.length : Int) ++ (v.take i).flatMap jU) ++ (jU b ++ (v.drop (i + 1)).flatMap jU) := by
  have hi := List.getElem?_eq_some_iff.1 h
  have e : v.flatMap jU = (v.take i).flatMap jU ++ (jU b ++ (v.drop (i + 1)).flatMap jU) := by
    conv => lhs; rw [← List.take_append_drop i v, List.drop_eq_getElem_cons hi.1, hi.2]
    rw [List.flatMap_append, List.flatMap_cons]
  unfold kR
  rw [e]
  simp only [List.append_assoc]
theorem aFy {v : List Body} {i : Nat} {b : Body} (h : v[i]? = some b) (hb : InB b) : kA (kR v) (8 + 40 * i) = b := by
  rw [aHx h]
  refine aIj ?_ hb
  have hi := (List.getElem?_eq_some_iff.1 h).1
  rw [List.length_append, List.length_append, aEi, List.length_take, kM, Nat.min_eq_left (by omega)]
  rfl
theorem aAn (v : List Body) (h : v.length < 4294967296) : dY (kR v) 4 = (v.length : Int) := by
  have e : kR v = gE ++ (cA (v.length : Int) ++ v.flatMap jU) := by unfold kR; rw [List.append_assoc]
  rw [e, aAs (A := gE) (a := 4) rfl]
  omega
theorem aRg {v : List Body} (hb : ∀ b ∈ v, InB b) : lM (kR v) v.length = v := by
  refine List.ext_getElem? fun i => ?_
  unfold lM
  rw [List.getElem?_map]
  by_cases hi : i < v.length
  · have hv := List.getElem?_eq_getElem hi
    rw [List.getElem?_range hi, hv]
    show some (kA (kR v) (8 + 40 * i)) = some v[i]
    rw [aFy hv (hb _ (List.getElem_mem hi))]
  · rw [List.getElem?_eq_none (by omega : v.length ≤ i), List.getElem?_eq_none (by rw [List.length_range]; omega)]
    rfl
theorem aTo (v : List Body) (h : v.length ≤ 4096) : wW (kR v) := by
  have hl := yK v
  refine ⟨by omega, rfl, ?_⟩
  rw [aAn v (by omega), hl]
  omega
theorem aTp {v : List Body} (hb : ∀ b ∈ v, InB b) (hl : v.length ≤ 4096) (hc : gG v = 0) : kU (kR v) = (v, 0) := by
  unfold kU
  rw [if_neg (Decidable.not_not.2 (aTo v hl)), aAn v (by omega), Int.toNat_natCast, aRg hb, if_neg (by omega)]
theorem nZ {l : List Int} (hl : jD l) {a : Nat} (h : a + 4 ≤ l.length) : 0 ≤ dY l a ∧ dY l a ≤ 4294967295 ∧ cA (dY l a) = (l.drop a).take 4 := by
  have g (j : Nat) (hj : j < l.length) : l[j]? = some (l.getD j 0) ∧ 0 ≤ l.getD j 0 ∧ l.getD j 0 ≤ 255 := by
    rw [List.getD_eq_getElem?_getD, List.getElem?_eq_getElem hj]
    have hb := hl _ (List.getElem_mem hj)
    exact ⟨rfl, hb.1, hb.2⟩
  obtain ⟨g0, g1, g2⟩ := g a (by omega)
  obtain ⟨g3, g4, g5⟩ := g (a + 1) (by omega)
  obtain ⟨g6, g7, g8⟩ := g (a + 2) (by omega)
  obtain ⟨g9, ga, gb⟩ := g (a + 3) (by omega)
  have e : (l.drop a).take 4 = [l.getD a 0, l.getD (a + 1) 0, l.getD (a + 2) 0, l.getD (a + 3) 0] := by
    have hlen : ((l.drop a).take 4).length = 4 := by rw [List.length_take, List.length_drop]; omega
    refine List.ext_getElem? fun j => ?_
    rcases (show j = 0 ∨ j = 1 ∨ j = 2 ∨ j = 3 ∨ 4 ≤ j by omega) with rfl | rfl | rfl | rfl | hj
    · rw [List.getElem?_take_of_lt (by omega), List.getElem?_drop]; simpa using g0
    · rw [List.getElem?_take_of_lt (by omega), List.getElem?_drop]; simpa using g3
    · rw [List.getElem?_take_of_lt (by omega), List.getElem?_drop]; simpa using g6
    · rw [List.getElem?_take_of_lt (by omega), List.getElem?_drop]; simpa using g9
    · rw [List.getElem?_eq_none (by omega), List.getElem?_eq_none (by simpa using hj)]
  rw [e]
  unfold dY cA
  generalize l.getD a 0 = p at *
  generalize l.getD (a + 1) 0 = q at *
  generalize l.getD (a + 2) 0 = r at *
  generalize l.getD (a + 3) 0 = s at *
  refine ⟨by omega, by omega, ?_⟩
  have h1 : (((p * 256 + q) * 256 + r) * 256 + s) / 16777216 % 256 = p := by omega
  have h2 : (((p * 256 + q) * 256 + r) * 256 + s) / 65536 % 256 = q := by omega
  have h3 : (((p * 256 + q) * 256 + r) * 256 + s) / 256 % 256 = r := by omega
  have h4 : (((p * 256 + q) * 256 + r) * 256 + s) % 256 = s := by omega
  rw [h1, h2, h3, h4]
theorem aHs (l : List Int) (k : Nat) : ∀ n, (List.range n).flatMap (fun i => (l.drop (k * i)).take k) = l.take (k * n)
  | 0 => by simp
  | n + 1 => by
    rw [List.range_succ, List.flatMap_append, aHs l k n, List.flatMap_cons, List.flatMap_nil, List.append_nil, Nat.mul_succ, List.take_add]
theorem kJ {n : Int} (h : 0 ≤ n ∧ n ≤ 4294967295) : -2147483648 ≤ mC n ∧ mC n ≤ 2147483647 := by unfold mC; split <;> omega
theorem aMc {l : List Int} (hl : jD l) {a : Nat} (h : a + 40 ≤ l.length) : InB (kA l a) := by
  have f (k : Nat) (hk : k ≤ 36) : 0 ≤ dY l (a + k) ∧ dY l (a + k) ≤ 4294967295 := by
    have := nZ hl (a := a + k) (by omega)
    exact ⟨this.1, this.2.1⟩
  exact ⟨f 0 (by omega), kJ (f 4 (by omega)), kJ (f 8 (by omega)), kJ (f 12 (by omega)), kJ (f 16 (by omega)), kJ (f 20 (by omega)), kJ (f 24 (by omega)), kJ (f 28 (by omega)), kJ (f 32 (by omega)), kJ (f 36 (by omega))⟩
theorem aVe {l : List Int} (hl : jD l) {a : Nat} (h : a + 40 ≤ l.length) : jU (kA l a) = (l.drop a).take 40 := by
  have f (k : Nat) (hk : k ≤ 36) : cA (dY l (a + k)) = ((l.drop a).drop k).take 4 := by rw [List.drop_drop]; exact (nZ hl (a := a + k) (by omega)).2.2
  have e := aHs (l.drop a) 4 10
  rw [← e]
  unfold jU aPi kA
  simp only [List.flatMap_cons, List.flatMap_nil, aMv]
  have f0 := f 0 (by omega)
  rw [Nat.add_zero] at f0
  rw [f0, f 4 (by omega), f 8 (by omega), f 12 (by omega), f 16 (by omega), f 20 (by omega), f 24 (by omega), f 28 (by omega), f 32 (by omega), f 36 (by omega)]
  rfl
theorem xU (l : List Int) (n : Nat) : (lM l n).length = n := by unfold lM; rw [List.length_map, List.length_range]
theorem zC {α β : Type} {l : List α} {f g : α → List β} (h : ∀ x ∈ l, f x = g x) : l.flatMap f = l.flatMap g := by
  induction l with
  | nil => rfl
  | cons x l ih => rw [List.flatMap_cons, List.flatMap_cons, h x (by simp), ih fun y hy => h y (by simp [hy])]
theorem aTq {l : List Int} (hl : jD l) {n : Nat} (h : l.length = 8 + 40 * n) : (lM l n).flatMap jU = l.drop 8 := by
  unfold lM
  rw [List.flatMap_map, zC (g := fun i => ((l.drop 8).drop (40 * i)).take 40) (fun i hi => by
    have := List.mem_range.1 hi
    rw [List.drop_drop]
    exact aVe hl (by omega)), aHs, List.take_of_length_le (by rw [List.length_drop]; omega)]
structure DecOk (l : List Int) (v : List Body) : Prop where
  n : l.length = 8 + 40 * v.length
  e : kR v = l
  inb : ∀ b ∈ v, InB b
  c : gG v = 0
theorem aUe {l : List Int} (hl : jD l) (h : (kU l).2 = 0) : DecOk l (kU l).1 := by
  unfold kU at h ⊢
  by_cases hf : wW l
  · rw [if_neg (Decidable.not_not.2 hf)] at h ⊢
    by_cases hc : gG (lM l (dY l 4).toNat) = 0
    · rw [if_neg (by omega)]
      obtain ⟨h8, hm, hn⟩ := hf
      have hr := nZ hl (a := 4) (by omega)
      have hlen : l.length = 8 + 40 * (dY l 4).toNat := by omega
      show DecOk l (lM l (dY l 4).toNat)
      refine ⟨by rw [xU]; exact hlen, ?_, ?_, hc⟩
      · unfold kR
        rw [aTq hl hlen, xU, show (((dY l 4).toNat : Nat) : Int) = dY l 4 by omega, hr.2.2, ← hm, ← List.take_add, List.take_append_drop]
      · intro b hb
        unfold lM at hb
        obtain ⟨i, hi, rfl⟩ := List.mem_map.1 hb
        have := List.mem_range.1 hi
        exact aMc hl (by omega)
    · rw [if_pos hc] at h
      exact absurd h hc
  · rw [if_pos hf] at h
    cases h
def tD (b : Body) : List Int := [b.key, b.radius % 4294967296, b.ax % 4294967296, b.ay % 4294967296, b.mass % 4294967296, b.bounce % 4294967296, b.px % 4294967296, b.py % 4294967296, b.vx % 4294967296, b.vy % 4294967296]
theorem aOi (b : Body) : (tD b).flatMap cA = jU b := by
  unfold tD jU aPi
  simp only [List.flatMap_cons, List.flatMap_nil, sF]
theorem aMh {b : Body} (h : InB b) : ∀ x ∈ tD b, 0 ≤ x ∧ x ≤ 4294967295 := by
  obtain ⟨h0, _⟩ := h
  intro x hx
  simp only [tD, List.mem_cons, List.not_mem_nil, or_false] at hx
  rcases hx with rfl | rfl | rfl | rfl | rfl | rfl | rfl | rfl | rfl | rfl <;> omega
theorem aLm {L : List Int} {j : Nat} {x : Int} (h : L[j]? = some x) : (L.take (j + 1)).flatMap cA = (L.take j).flatMap cA ++ cA x := by
  rw [cV h, List.flatMap_append, List.flatMap_cons, List.flatMap_nil, List.append_nil]
theorem aOg {v : List Body} {j : Nat} {x : Body} (h : v[j]? = some x) : (v.take (j + 1)).flatMap jU = (v.take j).flatMap jU ++ jU x := by
  rw [cV h, List.flatMap_append, List.flatMap_cons, List.flatMap_nil, List.append_nil]
theorem gQ {l : List Int} {a m : Nat} (h : 4 ≤ m) : dY ((l.drop a).take m) 0 = dY l a := by
  have g (j : Nat) (hj : j < m) : ((l.drop a).take m).getD j 0 = l.getD (a + j) 0 := by
    rw [List.getD_eq_getElem?_getD, List.getD_eq_getElem?_getD, List.getElem?_take_of_lt hj, List.getElem?_drop]
  unfold dY
  rw [g 0 (by omega), g (0 + 1) (by omega), g (0 + 2) (by omega), g (0 + 3) (by omega)]
  rfl
theorem aMe (l : List Int) (k : Nat) : lM l (k + 1) = lM l k ++ [kA l (8 + 40 * k)] := by unfold lM; rw [List.range_succ, List.map_append]; rfl
theorem jD.sub {l : List Int} (h : jD l) (a m : Nat) : jD ((l.drop a).take m) := fun x hx => h x (List.mem_of_mem_drop (List.mem_of_mem_take hx))
end Go.Bil
namespace Go.Bil
theorem uO {l : List Int} (h : ¬ wW l) : kU l = ([], 13) := by unfold kU; rw [if_pos h]
theorem aUn {l : List Int} {N : Nat} (h : wW l) (hN : dY l 4 = (N : Int)) (hc : gG (lM l N) ≠ 0) : kU l = ([], gG (lM l N)) := by
  unfold kU; rw [if_neg (Decidable.not_not.2 h), hN, Int.toNat_natCast, if_pos hc]
theorem aSn {l : List Int} {N : Nat} (h : wW l) (hN : dY l 4 = (N : Int)) (hc : gG (lM l N) = 0) : kU l = (lM l N, 0) := by
  unfold kU; rw [if_neg (Decidable.not_not.2 h), hN, Int.toNat_natCast, if_neg (by omega)]
theorem bDk {l : List Int} (hl : jD l) {a : Nat} (h : a + 40 ≤ l.length) : ∀ x ∈ ([dY l a, dY l (a + 4), dY l (a + 8), dY l (a + 12), dY l (a + 16), dY l (a + 20), dY l (a + 24), dY l (a + 28), dY l (a + 32), dY l (a + 36)] : List Int), 0 ≤ x ∧ x ≤ 4294967295 := by
  have f (k : Nat) (hk : k ≤ 36) : 0 ≤ dY l (a + k) ∧ dY l (a + k) ≤ 4294967295 := by
    have := nZ hl (a := a + k) (by omega)
    exact ⟨this.1, this.2.1⟩
  intro x hx
  simp only [List.mem_cons, List.not_mem_nil, or_false] at hx
  rcases hx with rfl | rfl | rfl | rfl | rfl | rfl | rfl | rfl | rfl | rfl
  · exact f 0 (by omega)
  · exact f 4 (by omega)
  · exact f 8 (by omega)
  · exact f 12 (by omega)
  · exact f 16 (by omega)
  · exact f 20 (by omega)
  · exact f 24 (by omega)
  · exact f 28 (by omega)
  · exact f 32 (by omega)
  · exact f 36 (by omega)
theorem tU : gE = ([66, 73, 76, 49] : List UInt8).map (fun y => (y.toNat : Int)) := by decide
end Go.Bil
