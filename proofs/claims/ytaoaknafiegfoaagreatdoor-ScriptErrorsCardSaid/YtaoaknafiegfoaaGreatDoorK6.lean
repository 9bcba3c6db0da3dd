/- Part of the proof of the laws of this seat: Md4, Md5, Md7, Md8, MdB, MdC, Mf1. No conditions. -/
import Derived.Test.YtaoaknafiegfoaaGreatDoorK4
import Derived.Test.YtaoaknafiegfoaaGreatDoorK3
set_option linter.unusedVariables false
set_option linter.unusedSimpArgs false
set_option linter.unnecessarySimpa false
namespace Go.Bil
def bV (s : List Body) : Prop := s.Pairwise (fun a b => a.key < b.key)
def oG (k : Int) (s : List Body) : List Body := s.filter (fun x => decide (x.key ≠ k))
def qG (b : Body) : Bool → List Body → List Body
 | true, s => oG b.key s
 | false, [] => [b]
 | false, x :: l => if b.key ≤ x.key then b :: oG b.key (x :: l) else x :: qG b false l
def bCj (b : Body) (r : List Body × Bool) : List Body := if r.2 then r.1 else r.1 ++ [b]
theorem oL (b : Body) : ∀ (s acc : List Body) (d : Bool), bCj b (s.foldl (mG b) (acc, d)) = acc ++ qG b d s
 | [], acc, true => by simp [qG, oG, bCj]
 | [], acc, false => by simp [qG, bCj]
 | x :: l, acc, true => by
  have ih := oL b l (if x.key ≠ b.key then acc ++ [x] else acc) true
  rw [List.foldl_cons]
  have e : mG b (acc, true) x = (if x.key ≠ b.key then acc ++ [x] else acc, true) := by unfold mG; by_cases h : x.key = b.key <;> simp [h]
  rw [e, ih]
  by_cases h : x.key = b.key <;> simp [qG, oG, h]
 | x :: l, acc, false => by
  rw [List.foldl_cons]
  by_cases hb : b.key ≤ x.key
  ·have ih := oL b l (if x.key ≠ b.key then acc ++ [b] ++ [x] else acc ++ [b]) true
   have e : mG b (acc, false) x = (if x.key ≠ b.key then acc ++ [b] ++ [x] else acc ++ [b], true) := by unfold mG; by_cases h : x.key = b.key <;> simp [h, hb]
   rw [e, ih]
   by_cases h : x.key = b.key <;> simp [qG, oG, h, hb]
  ·have hne : x.key ≠ b.key := by omega
   have ih := oL b l (acc ++ [x]) false
   have e : mG b (acc, false) x = (acc ++ [x], false) := by unfold mG; simp [hb, hne]
   rw [e, ih]
   simp [qG, hb]
theorem aMo (s : List Body) (b : Body) (g : Bool) : aDt s b g = qG b g s := by
 have := oL b s [] g
 rw [List.nil_append] at this
 exact this
theorem uZ (b : Body) : ∀ s : List Body, (qG b false s).Perm (b :: oG b.key s)
 | [] => by simp [qG, oG]
 | x :: l => by
  unfold qG
  split
  ·exact List.Perm.refl _
  ·rename_i h
   have hne : x.key ≠ b.key := by omega
   have e : oG b.key (x :: l) = x :: oG b.key l := by simp [oG, hne]
   rw [e]
   exact ((uZ b l).cons x).trans (List.Perm.swap b x _)
theorem zT {k : Int} {s : List Body} {x : Body} : x ∈ oG k s ↔ x ∈ s ∧ x.key ≠ k := by simp [oG]
theorem bV.cut {s : List Body} (h : bV s) (k : Int) : bV (oG k s) := List.Pairwise.sublist List.filter_sublist h
theorem bV.put {b : Body} : ∀ {s : List Body}, bV s → bV (qG b false s)
 | [], _ => by simp [qG, bV]
 | x :: l, h => by
  unfold qG
  have hx : ∀ y ∈ l, x.key < y.key := (List.pairwise_cons.1 h).1
  have hl : bV l := (List.pairwise_cons.1 h).2
  split
  ·rename_i hb
   refine List.pairwise_cons.2 ⟨fun y hy => ?_, h.cut _⟩
   obtain ⟨h1, h2⟩ := zT.1 hy
   rcases List.mem_cons.1 h1 with rfl | h1
   ·omega
   ·have := hx y h1; omega
  ·rename_i hb
   refine List.pairwise_cons.2 ⟨fun y hy => ?_, bV.put hl⟩
   have := (uZ b l).mem_iff.1 hy
   rcases List.mem_cons.1 this with rfl | h1
   ·omega
   ·exact hx y (zT.1 h1).1
def pQ (s : List Body) (b : Body) : List Body × Int :=
 if check b ≠ 0 then (s, check b) else if 0 ≤ cH b.key s then (s, 10) else if 4096 ≤ s.length then (s, 12) else (aDt s b false, 0)
def rA (k : Int) : Body := ⟨k, 0, 0, 0, 0, 0, 0, 0, 0, 0⟩
def fN (s : List Body) (k : Int) : List Body × Int := if cH k s < 0 then (s, 11) else (aDt s (rA k) true, 0)
def aVa (s : List Body) (b : Body) : List Body × Int :=
 if check b ≠ 0 then (s, check b) else if cH b.key s < 0 then (s, 11) else (aDt s b false, 0)
structure Rel (m s : List Body) : Prop where
 perm : s.Perm m
 sorted : bV s
theorem Rel.nil : Rel [] [] := ⟨List.Perm.refl _, by simp [bV]⟩
theorem bV.unique {s t : List Body} (h : bV s) (h' : bV t) (p : s.Perm t) : s = t :=
 List.Perm.eq_of_pairwise (le := fun (a b : Body) => a.key < b.key) (fun a b _ _ h1 h2 => by omega) h h' p
theorem bV.keys {s : List Body} (h : bV s) : gV s := by
 unfold gV List.Nodup
 rw [List.pairwise_map]
 exact h.imp (fun h => by omega)
theorem Rel.keys {m s : List Body} (R : Rel m s) : gV m := R.sorted.keys.perm R.perm.symm
theorem Rel.find {m s : List Body} (R : Rel m s) (k : Int) : cH k s < 0 ↔ cH k m < 0 := by
 rw [jX, jX]
 exact ⟨fun h b hb => h b (R.perm.mem_iff.2 hb), fun h b hb => h b (R.perm.mem_iff.1 hb)⟩
theorem aBz {k : Int} {s : List Body} (h : cH k s < 0) : oG k s = s := List.filter_eq_self.2 fun x hx => by simpa using jX.1 h x hx
theorem Rel.put {m s : List Body} (R : Rel m s) (b : Body) {m' : List Body} (h : m'.Perm (b :: oG b.key m)) : Rel m' (aDt s b false) := by
 rw [aMo]
 exact ⟨((uZ b s).trans ((R.perm.filter _).cons b)).trans h.symm, R.sorted.put⟩
theorem Rel.add {m s : List Body} (R : Rel m s) (b : Body) : Rel (kS m b).1 (pQ s b).1 ∧ (pQ s b).2 = (kS m b).2 := by
 unfold kS pQ
 have hf := R.find b.key
 have hl := R.perm.length_eq
 by_cases h1 : check b ≠ 0
 ·rw [if_pos h1, if_pos h1]; exact ⟨R, rfl⟩
 ·rw [if_neg h1, if_neg h1]
  by_cases h2 : 0 ≤ cH b.key m
  ·have h2' : 0 ≤ cH b.key s := by omega
   rw [if_pos h2, if_pos h2']; exact ⟨R, rfl⟩
  ·have h2' : ¬ 0 ≤ cH b.key s := by omega
   rw [if_neg h2, if_neg h2', hl]
   by_cases h3 : 4096 ≤ m.length
   ·rw [if_pos h3, if_pos h3]; exact ⟨R, rfl⟩
   ·rw [if_neg h3, if_neg h3]
    refine ⟨R.put b ?_, rfl⟩
    rw [aBz (by omega)]
    exact List.perm_append_singleton b m
theorem rT {m : List Body} (h : gV m) {i : Nat} {b : Body} (hi : m[i]? = some b) : m.eraseIdx i = oG b.key m := by
 have e : m = m.take i ++ b :: m.drop (i + 1) := by
  have hlt := (List.getElem?_eq_some_iff.1 hi).1
  have hb : m[i] = b := (List.getElem?_eq_some_iff.1 hi).2
  rw [← hb, ← List.drop_eq_getElem_cons hlt, List.take_append_drop]
 have hne := aCv h hi
 rw [List.eraseIdx_eq_take_drop_succ] at hne ⊢
 conv => rhs; rw [e]
 unfold oG
 rw [List.filter_append, List.filter_cons]
 simp only [ne_eq, not_true_eq_false, decide_false, Bool.false_eq_true, if_false]
 rw [List.filter_eq_self.2 (fun x hx => by simpa using hne x (List.mem_append_left _ hx)), List.filter_eq_self.2 (fun x hx => by simpa using hne x (List.mem_append_right _ hx))]
theorem Rel.remove {m s : List Body} (R : Rel m s) (k : Int) : Rel (jC m k).1 (fN s k).1 ∧ (fN s k).2 = (jC m k).2 := by
 unfold jC fN
 have hf := R.find k
 by_cases h : cH k m < 0
 ·rw [if_pos h, if_pos (hf.2 h)]; exact ⟨R, rfl⟩
 ·rw [if_neg h, if_neg (fun h' => h (hf.1 h'))]
  refine ⟨?_, rfl⟩
  rcases dI k m with ⟨h1, _⟩ | ⟨i, b, h1, h2, h3⟩
  ·omega
  ·rw [h3, Int.toNat_natCast, aMo]
   have hlt := (List.getElem?_eq_some_iff.1 h1).1
   have hk : (rA k).key = b.key := h2.symm
   have he : qG (rA k) true s = oG b.key s := by unfold qG; rw [hk]
   refine ⟨?_, by rw [he]; exact R.sorted.cut _⟩
   show (qG (rA k) true s).Perm _
   rw [he]
   exact (R.perm.filter _).trans ((List.Perm.of_eq (rT R.keys h1).symm).trans (nH hlt).symm)
theorem aWv {m : List Body} {i : Nat} {x : Body} (hi : i < m.length) : (m.set i x).Perm (x :: m.eraseIdx i) := by
 rw [List.set_eq_take_append_cons_drop, if_pos hi, List.eraseIdx_eq_take_drop_succ]
 exact List.perm_middle
theorem Rel.set {m s : List Body} (R : Rel m s) (b : Body) : Rel (rU m b).1 (aVa s b).1 ∧ (aVa s b).2 = (rU m b).2 := by
 unfold rU aVa
 have hf := R.find b.key
 by_cases h1 : check b ≠ 0
 ·rw [if_pos h1, if_pos h1]; exact ⟨R, rfl⟩
 ·rw [if_neg h1, if_neg h1]
  by_cases h : cH b.key m < 0
  ·rw [if_pos h, if_pos (hf.2 h)]; exact ⟨R, rfl⟩
  ·rw [if_neg h, if_neg (fun h' => h (hf.1 h'))]
   refine ⟨?_, rfl⟩
   rcases dI b.key m with ⟨h1, _⟩ | ⟨i, c, h1, h2, h3⟩
   ·omega
   ·rw [h3, Int.toNat_natCast]
    have hlt := (List.getElem?_eq_some_iff.1 h1).1
    refine R.put b ((aWv hlt).trans ?_)
    rw [rT R.keys h1, h2]
theorem Rel.get {m s : List Body} (R : Rel m s) (k : Int) : (cH k s < 0 ∧ yY m k = (rA 0, 11)) ∨ ∃ (i : Nat) (b : Body), cH k s = (i : Int) ∧ s[i]? = some b ∧ yY m k = (b, 0) := by
 rcases dI k s with ⟨h1, h2⟩ | ⟨i, b, h1, h2, h3⟩
 ·have hm : cH k m < 0 := (R.find k).1 (by omega)
  refine .inl ⟨by omega, ?_⟩
  unfold yY
  rw [if_pos hm]
  rfl
 ·refine .inr ⟨i, b, h3, h1, ?_⟩
  have hb : b ∈ m := R.perm.mem_iff.1 (List.mem_of_getElem? h1)
  obtain ⟨j, hj⟩ := List.getElem?_of_mem hb
  have := pV R.keys hj
  rw [h2] at this
  exact uC this hj
theorem sY {a b : Int} : lU a b < 0 ↔ a < b := by unfold lU; (repeat' split) <;> omega
def aKx (b : Body) : List Body → List Body
 | [] => [b]
 | x :: l => if b.key ≤ x.key then b :: x :: l else x :: aKx b l
def wA (m : List Body) : List Body := m.foldr aKx []
theorem uJ (b : Body) : ∀ l : List Body, (aKx b l).Perm (b :: l)
 | [] => List.Perm.refl _
 | x :: l => by
  unfold aKx
  split
  ·exact List.Perm.refl _
  ·exact ((uJ b l).cons x).trans (List.Perm.swap b x l)
theorem lP : ∀ m : List Body, (wA m).Perm m
 | [] => List.Perm.refl _
 | b :: m => (uJ b (wA m)).trans ((lP m).cons b)
def Up (s : List Body) : Prop := s.Pairwise (fun a b => a.key ≤ b.key)
theorem aNs (b : Body) : ∀ {l : List Body}, Up l → Up (aKx b l)
 | [], _ => by simp [aKx, Up]
 | x :: l, h => by
  unfold aKx
  have hx : ∀ y ∈ l, x.key ≤ y.key := (List.pairwise_cons.1 h).1
  split
  ·rename_i hb
   refine List.pairwise_cons.2 ⟨fun y hy => ?_, h⟩
   rcases List.mem_cons.1 hy with rfl | hy
   ·exact hb
   ·have := hx y hy; omega
  ·refine List.pairwise_cons.2 ⟨fun y hy => ?_, aNs b (List.pairwise_cons.1 h).2⟩
   have := (uJ b l).mem_iff.1 hy
   rcases List.mem_cons.1 this with rfl | h1
   ·omega
   ·exact hx y h1
theorem aAb : ∀ m : List Body, Up (wA m)
 | [] => by simp [wA, Up]
 | b :: m => aNs b (aAb m)
theorem tU {s : List Body} (h : Up s) (hk : gV s) : bV s := by
 unfold Up at h
 unfold gV List.Nodup at hk
 rw [List.pairwise_map] at hk
 exact (List.Pairwise.and h hk).imp (fun ⟨h1, h2⟩ => by omega)
theorem aOd {s t : List Body} (h : Up s) (h' : Up t) (p : s.Perm t) (hk : gV s) : s = t := (tU h hk).unique (tU h' (hk.perm p.symm)) p
theorem aPa {m : List Body} (hk : gV m) : Rel m (wA m) := ⟨lP m, tU (aAb m) (hk.perm (lP m))⟩
theorem Rel.eq {m s : List Body} (R : Rel m s) : wA m = s := (aPa R.keys).sorted.unique R.sorted ((lP m).trans R.perm.symm)
end Go.Bil
namespace Go.Bil
structure InB (b : Body) : Prop where
 key : 0 ≤ b.key ∧ b.key ≤ 4294967295
 radius : -2147483648 ≤ b.radius ∧ b.radius ≤ 2147483647
 ax : -2147483648 ≤ b.ax ∧ b.ax ≤ 2147483647
 ay : -2147483648 ≤ b.ay ∧ b.ay ≤ 2147483647
 mass : -2147483648 ≤ b.mass ∧ b.mass ≤ 2147483647
 bounce : -2147483648 ≤ b.bounce ∧ b.bounce ≤ 2147483647
 px : -2147483648 ≤ b.px ∧ b.px ≤ 2147483647
 py : -2147483648 ≤ b.py ∧ b.py ≤ 2147483647
 vx : -2147483648 ≤ b.vx ∧ b.vx ≤ 2147483647
 vy : -2147483648 ≤ b.vy ∧ b.vy ≤ 2147483647
theorem bFi (l : List Value) (h : kJ [.u32, .i32, .i32, .i32, .i32, .i32, .i32, .i32, .i32, .i32] l) : ∃ b, l = aF b ∧ InB b := by
 obtain ⟨z0, l0, rfl, w0, h0⟩ := eK h
 obtain ⟨z1, l1, rfl, w1, h1⟩ := eK h0
 obtain ⟨z2, l2, rfl, w2, h2⟩ := eK h1
 obtain ⟨z3, l3, rfl, w3, h3⟩ := eK h2
 obtain ⟨z4, l4, rfl, w4, h4⟩ := eK h3
 obtain ⟨z5, l5, rfl, w5, h5⟩ := eK h4
 obtain ⟨z6, l6, rfl, w6, h6⟩ := eK h5
 obtain ⟨z7, l7, rfl, w7, h7⟩ := eK h6
 obtain ⟨z8, l8, rfl, w8, h8⟩ := eK h7
 obtain ⟨z9, l9, rfl, w9, h9⟩ := eK h8
 obtain rfl := pA h9
 exact ⟨⟨z0, z1, z2, z3, z4, z5, z6, z7, z8, z9⟩, rfl, ⟨w0, w1, w2, w3, w4, w5, w6, w7, w8, w9⟩⟩
end Go.Bil

namespace Go.Bil
structure StV where
 A : Option Addr
 n : Nat
 c : Nat
 p : Option Nat
 er : dG
 em : dG
def aBh (l : List Body) : List Body := l.foldl (fun m b => (kS m b).1) []
theorem yB {l : List Body} {k : Nat} {x : Body} (h : l[k]? = some x) : aBh (l.take (k + 1)) = (kS (aBh (l.take k)) x).1 := by
 unfold aBh
 rw [cP h, List.foldl_append]
 rfl
def wE (l : List Body) : List Body := l.filter (fun b => decide (check b = 0))
theorem aTe {m : List Body} {x : Body} (hf : ∀ b ∈ m, b.key ≠ x.key) (hl : m.length < 4096) : kS (wE m) x = (wE (m ++ [x]), check x) := by
 have hle : (wE m).length ≤ m.length := List.length_filter_le _ _
 unfold kS
 by_cases h : check x = 0
 ·rw [if_neg (by omega), if_neg (by
   have : cH x.key (wE m) < 0 := jX.2 fun b hb => hf b (List.mem_filter.1 hb).1
   omega), if_neg (by omega), h]
  simp [wE, List.filter_append, h]
 ·rw [if_pos h]
  simp [wE, List.filter_append, h]
theorem aFn {l : List Body} (h : gV l) {k : Nat} {x : Body} (hx : l[k]? = some x) : ∀ b ∈ l.take k, b.key ≠ x.key := by
 intro b hb e
 obtain ⟨j, hj⟩ := List.getElem?_of_mem hb
 rw [List.getElem?_take] at hj
 split at hj
 ·rename_i hlt
  have := h.inj hj hx e
  omega
 ·cases hj
theorem xU {l : List Body} (h : gV l) (hl : l.length ≤ 4096) : ∀ k, k ≤ l.length → aBh (l.take k) = wE (l.take k)
 | 0, _ => by simp [aBh, wE]
 | k + 1, hk => by
  obtain ⟨x, hx⟩ := cI (xs := l) (k := k) rfl (by omega)
  rw [yB hx, xU h hl k (by omega), aTe (aFn h hx) (by rw [List.length_take]; omega), cP hx]
theorem aGt {m : List Body} (hk : gV m) (k : Int) : (jC m k).1.Perm (oG k m) := by
 unfold jC
 by_cases h : cH k m < 0
 ·rw [if_pos h, aBz h]
 ·rw [if_neg h]
  rcases dI k m with ⟨h1, _⟩ | ⟨i, b, h1, h2, h3⟩
  ·omega
  ·rw [h3, Int.toNat_natCast]
   have hlt := (List.getElem?_eq_some_iff.1 h1).1
   have := (nH hlt).trans (List.Perm.of_eq (rT hk h1))
   rwa [h2] at this
end Go.Bil
namespace Go.Bil
structure StepI where
 kind : Int
 body : Body
instance : Inhabited StepI := ⟨⟨0, rA 0⟩⟩
end Go.Bil

namespace Go.Bil
def jR : List Body → Int
 | [] => 0
 | b :: l => if check b ≠ 0 then check b else jR l
def oT (xs : List Body) : Int := if 4096 < xs.length then 12 else jR xs
theorem mW : ∀ {xs : List Body}, (∀ (j : Nat) (c : Body), xs[j]? = some c → check c = 0) → jR xs = 0
 | [], _ => rfl
 | b :: l, h => by
  unfold jR
  rw [if_neg (by have := h 0 b (by simp); omega)]
  exact mW fun j c hj => h (j + 1) c (by simpa using hj)
theorem vC : ∀ {xs : List Body} {k : Nat} {b : Body}, xs[k]? = some b → check b ≠ 0 → (∀ (j : Nat) (c : Body), j < k → xs[j]? = some c → check c = 0) → jR xs = check b
 | [], _, _, h, _, _ => by simp at h
 | a :: l, 0, b, h, hb, _ => by
  simp only [List.getElem?_cons_zero, Option.some.injEq] at h
  subst h
  unfold jR
  rw [if_pos hb]
 | a :: l, k + 1, b, h, hb, hn => by
  unfold jR
  rw [if_neg (by have := hn 0 a (by omega) (by simp); omega)]
  exact vC (by simpa using h) hb fun j c hj hc => hn (j + 1) c (by omega) (by simpa using hc)
theorem sX : ∀ {xs : List Body}, jR xs = 0 → ∀ b ∈ xs, check b = 0
 | [], _, b, hb => by simp at hb
 | a :: l, h, b, hb => by
  unfold jR at h
  by_cases ha : check a = 0
  ·rw [if_neg (by omega)] at h
   rcases List.mem_cons.1 hb with rfl | hb
   ·exact ha
   ·exact sX h b hb
  ·rw [if_pos ha] at h; exact absurd h ha
theorem aTf {xs : List Body} (h : oT xs = 0) : xs.length ≤ 4096 ∧ ∀ b ∈ xs, check b = 0 := by
 unfold oT at h
 split at h
 ·omega
 ·exact ⟨by omega, sX h⟩
theorem aWc {xs : List Body} (hl : xs.length ≤ 4096) (h : ∀ b ∈ xs, check b = 0) : oT xs = 0 := by
 unfold oT
 rw [if_neg (by omega)]
 exact mW fun j c hj => h c (List.mem_of_getElem? hj)
def aAi : List Body → Bool
 | x :: y :: l => decide (x.key < y.key) && aAi (y :: l)
 | _ => true
theorem uK : ∀ {xs : List Body}, (∀ (i : Nat) (x y : Body), xs[i]? = some x → xs[i + 1]? = some y → x.key < y.key) → aAi xs = true
 | [], _ => rfl
 | [_], _ => rfl
 | x :: y :: l, h => by
  unfold aAi
  rw [Bool.and_eq_true]
  exact ⟨decide_eq_true (h 0 x y (by simp) (by simp)), uK fun i a b ha hb => h (i + 1) a b (by simpa using ha) (by simpa using hb)⟩
theorem pB : ∀ {xs : List Body}, aAi xs = true → bV xs
 | [], _ => by simp [bV]
 | [_], _ => by simp [bV]
 | x :: y :: l, h => by
  unfold aAi at h
  rw [Bool.and_eq_true, decide_eq_true_eq] at h
  have ih := pB h.2
  refine List.pairwise_cons.2 ⟨fun z hz => ?_, ih⟩
  rcases List.mem_cons.1 hz with rfl | hz
  ·exact h.1
  ·have := (List.pairwise_cons.1 ih).1 z hz; have := h.1; omega
theorem aFk {xs : List Body} (h : bV xs) : aAi xs = true := uK fun i x y hx hy => by
 have hi := List.getElem?_eq_some_iff.1 hx
 have hj := List.getElem?_eq_some_iff.1 hy
 have := List.pairwise_iff_getElem.1 h i (i + 1) hi.1 hj.1 (by omega)
 rwa [hi.2, hj.2] at this
theorem aIt {xs : List Body} {i : Nat} {x y : Body} (hx : xs[i]? = some x) (hy : xs[i + 1]? = some y) (h : ¬ x.key < y.key) : aAi xs = false := by
 cases e : aAi xs with
 | false => rfl
 | true =>
  exfalso
  have hi := List.getElem?_eq_some_iff.1 hx
  have hj := List.getElem?_eq_some_iff.1 hy
  have := List.pairwise_iff_getElem.1 (pB e) i (i + 1) hi.1 hj.1 (by omega)
  rw [hi.2, hj.2] at this
  exact h this
def iB (xs : List Body) : Int := if oT xs ≠ 0 then oT xs else if aAi xs = true then 0 else 10
instance (m : List Body) : Decidable (gV m) := by unfold gV; infer_instance
def vS (key : Int) : List Body → Nat
 | [] => 0
 | b :: l => (if b.key < key then 1 else 0) + vS key l
theorem tQ {key : Int} : ∀ {xs : List Body} {k : Nat}, k ≤ xs.length → (∀ (j : Nat) (c : Body), j < k → xs[j]? = some c → c.key < key) → (∀ (j : Nat) (c : Body), k ≤ j → xs[j]? = some c → ¬ c.key < key) → vS key xs = k
 | [], k, hk, _, _ => by simp at hk; simp [vS, hk]
 | b :: l, 0, _, _, h2 => by
  unfold vS
  rw [if_neg (h2 0 b (Nat.le_refl _) (by simp)), tQ (k := 0) (by omega) (fun j c hj => by omega) (fun j c _ hc => h2 (j + 1) c (by omega) (by simpa using hc))]
 | b :: l, k + 1, hk, h1, h2 => by
  unfold vS
  rw [if_pos (h1 0 b (by omega) (by simp)), tQ (k := k) (by simpa using hk) (fun j c hj hc => h1 (j + 1) c (by omega) (by simpa using hc)) (fun j c hj hc => h2 (j + 1) c (by omega) (by simpa using hc))]
  omega
def fA (k : Int) : List Value := [.int .u32 k]
end Go.Bil
namespace Go.Bil
theorem vO {xs : List Body} (h : bV xs) {p q : Nat} {a b : Body} (hpq : p ≤ q) (ha : xs[p]? = some a) (hb : xs[q]? = some b) : a.key ≤ b.key := by
 by_cases e : p = q
 ·subst e
  rw [ha] at hb
  injection hb with hb
  rw [hb]; exact Int.le_refl _
 ·have hi := List.getElem?_eq_some_iff.1 ha
  have hj := List.getElem?_eq_some_iff.1 hb
  have := List.pairwise_iff_getElem.1 h p q hi.1 hj.1 (by omega)
  rw [hi.2, hj.2] at this
  omega
theorem bJx (i j : Nat) : ((i : Int) + (j : Int)).fdiv (2 ^ (min (1 : Int).toNat IntKind.u64.bits)) = (((i + j) / 2 : Nat) : Int) := by
 have e : (2 : Int) ^ (min (1 : Int).toNat IntKind.u64.bits) = 2 := by decide
 rw [e, Int.fdiv_eq_ediv_of_nonneg _ (by omega)]
 omega
theorem aAx {a b a' b' : Value} (h1 : a = a') (h2 : b = b') : Value.tuple #[a, b] = Value.tuple #[a', b'] := by rw [h1, h2]
theorem aOv {a b : Int} : lU a b = 0 ↔ a = b := by unfold lU; (repeat' split) <;> omega
theorem aQn {key : Int} {xs : List Body} (hs : bV xs) {i : Nat} {b : Body} (hb : xs[i]? = some b) (h1 : ∀ (j : Nat) (c : Body), j < i → xs[j]? = some c → c.key < key) (h2 : ∀ (j : Nat) (c : Body), i ≤ j → xs[j]? = some c → ¬ c.key < key) : lU b.key key = 0 ↔ 0 ≤ cH key xs := by
 rw [aOv]
 constructor
 ·intro e
  rcases dI key xs with ⟨_, h⟩ | ⟨_, _, _, _, h⟩
  ·exact absurd e (h b (List.mem_of_getElem? hb))
  ·omega
 ·intro h
  rcases dI key xs with ⟨h', _⟩ | ⟨j, c, hc, hk, _⟩
  ·omega
  ·have hij : i ≤ j := by
    rcases Nat.lt_or_ge j i with hlt | hge
    ·have := h1 j c hlt hc; omega
    ·exact hge
   have := vO hs hij hb hc
   have := h2 i b (Nat.le_refl _) hb
   omega
theorem aKk {key : Int} {xs : List Body} (h1 : ∀ (j : Nat) (c : Body), j < xs.length → xs[j]? = some c → c.key < key) : ¬ 0 ≤ cH key xs := by
 intro h
 rcases dI key xs with ⟨h', _⟩ | ⟨j, c, hc, hk, _⟩
 ·omega
 ·have := h1 j c (List.getElem?_eq_some_iff.1 hc).1 hc
  omega
end Go.Bil
namespace Go.Bil
theorem aUv {α : Type} {xs ys : List α} {n m : Nat} (h1 : xs.length = n) (h2 : ys.length = m) (hnm : n = m) (h : ∀ (j : Nat) (x : α), j < n → xs[j]? = some x → ys[j]? = some x) : xs = ys := by
 apply List.ext_getElem?
 intro j
 by_cases hj : j < xs.length
 ·obtain ⟨x, hx⟩ := cI (k := j) rfl hj
  rw [hx, h j x (by omega) hx]
 ·rw [List.getElem?_eq_none (by omega), List.getElem?_eq_none (by omega)]
end Go.Bil
namespace Go.Bil
end Go.Bil
namespace Go.Bil
theorem aJo (k : Int) : ∀ y ∈ [fA k], y.length = 1 ∧ ∀ u ∈ y, one u = true := by
 intro y hy
 simp only [List.mem_singleton] at hy
 subst hy
 exact ⟨rfl, aR rfl⟩
end Go.Bil
namespace Go.Bil
structure Mg (xs ys : List Body) (i k : Nat) : Prop where
 sx : bV xs
 sy : bV ys
 yx : ∀ (p : Nat) (a b : Body), p < k → ys[p]? = some a → xs[i]? = some b → a.key < b.key
 xy : ∀ (p : Nat) (a b : Body), p < i → xs[p]? = some a → ys[k]? = some b → a.key < b.key
theorem Mg.swap {xs ys : List Body} {i k : Nat} (h : Mg xs ys i k) : Mg ys xs k i := ⟨h.sy, h.sx, h.xy, h.yx⟩
theorem dQ {xs : List Body} (h : bV xs) {p q : Nat} {a b : Body} (hpq : p < q) (ha : xs[p]? = some a) (hb : xs[q]? = some b) : a.key < b.key := by
 have hi := List.getElem?_eq_some_iff.1 ha
 have hj := List.getElem?_eq_some_iff.1 hb
 have := List.pairwise_iff_getElem.1 h p q hi.1 hj.1 hpq
 rwa [hi.2, hj.2] at this
theorem Mg.x {xs ys : List Body} {i k : Nat} {a : Body} (h : Mg xs ys i k) (ha : xs[i]? = some a) (hb : ∀ b, ys[k]? = some b → a.key < b.key) : Mg xs ys (i + 1) k ∧ cH a.key ys < 0 := by
 refine ⟨⟨h.sx, h.sy, fun p y x hp hy hx => ?_, fun p x y hp hx hy => ?_⟩, jX.2 fun y hy => ?_⟩
 ·have := h.yx p y a hp hy ha
  have := dQ h.sx (Nat.lt_succ_self i) ha hx
  omega
 ·by_cases e : p = i
  ·subst e
   rw [ha] at hx
   injection hx with hx
   subst hx
   exact hb y hy
  ·exact h.xy p x y (by omega) hx hy
 ·obtain ⟨q, hq⟩ := List.getElem?_of_mem hy
  rcases Nat.lt_or_ge q k with hlt | hge
  ·have := h.yx q y a hlt hq ha; omega
  ·obtain ⟨b, hbk⟩ := cI (xs := ys) (k := k) rfl (by have := (List.getElem?_eq_some_iff.1 hq).1; omega)
   have h1 := hb b hbk
   have h2 := vO h.sy hge hbk hq
   omega
theorem Mg.y {xs ys : List Body} {i k : Nat} {b : Body} (h : Mg xs ys i k) (hb : ys[k]? = some b) (ha : ∀ a, xs[i]? = some a → b.key < a.key) : Mg xs ys i (k + 1) ∧ cH b.key xs < 0 := by
 obtain ⟨h1, h2⟩ := h.swap.x hb ha
 exact ⟨h1.swap, h2⟩
theorem Mg.both {xs ys : List Body} {i k : Nat} {a b : Body} (h : Mg xs ys i k) (ha : xs[i]? = some a) (hb : ys[k]? = some b) (hk : a.key = b.key) : Mg xs ys (i + 1) (k + 1) ∧ cH a.key ys = (k : Int) ∧ cH b.key xs = (i : Int) := by
 refine ⟨⟨h.sx, h.sy, fun p y x hp hy hx => ?_, fun p x y hp hx hy => ?_⟩, ?_, ?_⟩
 ·have h1 := dQ h.sx (Nat.lt_succ_self i) ha hx
  have h2 := vO h.sy (show p ≤ k by omega) hy hb
  omega
 ·have h1 := dQ h.sy (Nat.lt_succ_self k) hb hy
  have h2 := vO h.sx (show p ≤ i by omega) hx ha
  omega
 ·exact yL hb hk.symm fun j c hj hc => by have := dQ h.sy hj hc hb; omega
 ·exact yL ha hk fun j c hj hc => by have := dQ h.sx hj hc ha; omega
end Go.Bil
namespace Go.Bil
end Go.Bil
namespace Go.Bil
end Go.Bil
namespace Go.Bil
end Go.Bil
namespace Go.Bil
end Go.Bil
namespace Go.Bil
end Go.Bil
namespace Go.Bil
end Go.Bil

namespace Go.Bil
theorem aPw {v : List Body} (he : oT v = 0) (hs : bV v) : iB v = 0 := by
 unfold iB
 rw [if_neg (by omega), if_pos (aFk hs)]
end Go.Bil

namespace Go.Bil
structure Bx where
 x0 : Int
 y0 : Int
 x1 : Int
 y1 : Int
 deriving DecidableEq, Inhabited
def cW (a : Bx) : List Value := [.int .i32 a.x0, .int .i32 a.y0, .int .i32 a.x1, .int .i32 a.y1]
def aOb (b : Body) : Int := max b.ax (-b.ax) + b.radius
def aRc (b : Body) : Int := max b.ay (-b.ay) + b.radius
def iT (b : Body) : Bx := ⟨b.px - aOb b, b.py - aRc b, b.px + aOb b, b.py + aRc b⟩
abbrev gS (a : Bx) : Prop := a.x1 < a.x0 ∨ a.y1 < a.y0
def gT : Bx := ⟨1, 0, 0, 0⟩
def aBi (a b : Bx) : Bx := if gS ⟨max a.x0 b.x0, max a.y0 b.y0, min a.x1 b.x1, min a.y1 b.y1⟩ then gT else ⟨max a.x0 b.x0, max a.y0 b.y0, min a.x1 b.x1, min a.y1 b.y1⟩
abbrev ovl (a b : Bx) : Prop := (a.x0 ≤ a.x1 ∧ a.y0 ≤ a.y1) ∧ (b.x0 ≤ b.x1 ∧ b.y0 ≤ b.y1) ∧ (a.x0 ≤ b.x1 ∧ b.x0 ≤ a.x1 ∧ a.y0 ≤ b.y1 ∧ b.y0 ≤ a.y1)
theorem aUy (a b : Bx) : ¬ gS (aBi a b) ↔ ovl a b := by
 unfold aBi
 split
 ·rename_i h
  unfold gS at h
  simp only [gS, gT, ovl]
  simp only at h
  omega
 ·rename_i h
  unfold gS at h
  simp only [gS, ovl]
  simp only at h
  omega
structure Okb (b : Body) : Prop where
 r : 4096 ≤ b.radius ∧ b.radius ≤ 4194304
 a : -4194304 ≤ b.ax ∧ b.ax ≤ 4194304 ∧ -4194304 ≤ b.ay ∧ b.ay ≤ 4194304
 m : 0 ≤ b.mass ∧ b.mass ≤ 1048576
 c : 0 ≤ b.bounce ∧ b.bounce ≤ 65536
 p : -1073741824 ≤ b.px ∧ b.px ≤ 1073741824 ∧ -1073741824 ≤ b.py ∧ b.py ≤ 1073741824
 v : -16777216 ≤ b.vx ∧ b.vx ≤ 16777216 ∧ -16777216 ≤ b.vy ∧ b.vy ≤ 16777216
theorem aIj {b : Body} (h : check b = 0) : Okb b := by
 by_cases h1 : 4096 ≤ b.radius ∧ b.radius ≤ 4194304
 ·by_cases h2 : -4194304 ≤ b.ax ∧ b.ax ≤ 4194304 ∧ -4194304 ≤ b.ay ∧ b.ay ≤ 4194304
  ·by_cases h3 : 0 ≤ b.mass ∧ b.mass ≤ 1048576
   ·by_cases h4 : 0 ≤ b.bounce ∧ b.bounce ≤ 65536
    ·by_cases h5 : -1073741824 ≤ b.px ∧ b.px ≤ 1073741824 ∧ -1073741824 ≤ b.py ∧ b.py ≤ 1073741824
     ·by_cases h6 : -16777216 ≤ b.vx ∧ b.vx ≤ 16777216 ∧ -16777216 ≤ b.vy ∧ b.vy ≤ 16777216
      ·exact ⟨h1, h2, h3, h4, h5, h6⟩
      ·rw [aNq b h1 h2 h3 h4 h5 h6] at h; omega
     ·rw [aMb b h1 h2 h3 h4 h5] at h; omega
    ·rw [aMw b h1 h2 h3 h4] at h; omega
   ·rw [aMz b h1 h2 h3] at h; omega
  ·rw [aMk b h1 h2] at h; omega
 ·rw [aNx b h1] at h; omega
theorem aSl {b : Body} (h : Okb b) : 4096 ≤ aOb b ∧ aOb b ≤ 8388608 ∧ 4096 ≤ aRc b ∧ aRc b ≤ 8388608 := by
 have := h.r
 have := h.a
 unfold aOb aRc
 omega
structure Okx (a : Bx) : Prop where
 x0 : -2147483648 ≤ a.x0 ∧ a.x0 ≤ 2147483647
 y0 : -2147483648 ≤ a.y0 ∧ a.y0 ≤ 2147483647
 x1 : -2147483648 ≤ a.x1 ∧ a.x1 ≤ 2147483647
 y1 : -2147483648 ≤ a.y1 ∧ a.y1 ≤ 2147483647
theorem bGl {b : Body} (h : Okb b) : Okx (iT b) := by
 have h1 := aSl h
 have h2 := h.p
 constructor <;> simp only [iT] <;> omega
end Go.Bil

namespace Go.Bil
def cG (c : Int × Int) : List Value := [.int .i32 c.1, .int .i32 c.2]
def lL (x : Int) : Int := x.fdiv 4194304
theorem bBd (x : Int) : x.fdiv (2 ^ (min (22 : Int).toNat IntKind.i32.bits)) = lL x := rfl
theorem aEw (x : Int) : lL x = x / 4194304 := by unfold lL; exact Int.fdiv_eq_ediv_of_nonneg x (by decide)
theorem oA {x : Int} (h0 : -2147483648 ≤ x) (h1 : x ≤ 2147483647) : -512 ≤ lL x ∧ lL x ≤ 511 := by rw [aEw]; omega
theorem jI {x y : Int} (h : x ≤ y) : lL x ≤ lL y := by rw [aEw, aEw]; omega
def loC (a : Bx) : Int × Int := if gS a then (0, 0) else (lL a.x0, lL a.y0)
def hiC (a : Bx) : Int × Int := if gS a then (0, 0) else (lL a.x1, lL a.y1)
def nX (lo hi : Int × Int) : Nat := (hi.1 - lo.1 + 1).toNat
def nY (lo hi : Int × Int) : Nat := (hi.2 - lo.2 + 1).toNat
def xX (lo : Int × Int) (i j : Nat) : List (Int × Int) := (List.range i).map (fun (p : Nat) => (lo.1 + (p : Int), lo.2 + (j : Int)))
def mL (lo hi : Int × Int) (j : Nat) : List (Int × Int) := (List.range j).flatMap (fun q => xX lo (nX lo hi) q)
def tX (ok : Bool) (lo hi : Int × Int) : List (Int × Int) := if ok then mL lo hi (nY lo hi) else []
def gA (a : Bx) : List (Int × Int) := tX (decide (¬ gS a)) (loC a) (hiC a)
theorem aFo (lo : Int × Int) (i j : Nat) : (xX lo i j).length = i := by simp [xX]
theorem aOs (lo : Int × Int) (i j : Nat) : xX lo (i + 1) j = xX lo i j ++ [(lo.1 + (i : Int), lo.2 + (j : Int))] := by simp [xX, List.range_succ]
theorem zA (lo hi : Int × Int) (j : Nat) : mL lo hi (j + 1) = mL lo hi j ++ xX lo (nX lo hi) j := by simp [mL, List.range_succ]
theorem uB (lo hi : Int × Int) : ∀ j, (mL lo hi j).length = j * nX lo hi
 | 0 => by simp [mL]
 | j + 1 => by rw [zA, List.length_append, uB lo hi j, aFo, Nat.add_mul, Nat.one_mul]
theorem aSj {lo hi : Int × Int} {i j : Nat} (hx : nX lo hi ≤ 1024) (hj : j < 1024) (hi' : i < nX lo hi) : (mL lo hi j).length + i < 1048576 := by
 rw [uB]
 have : j * nX lo hi ≤ 1023 * 1024 := Nat.mul_le_mul (by omega) hx
 omega
theorem aRz {lo hi : Int × Int} {j : Nat} (hx : nX lo hi ≤ 1024) (hj : j ≤ 1024) : (mL lo hi j).length ≤ 1048576 := by
 rw [uB]
 exact Nat.mul_le_mul hj hx
theorem aRm {lo hi : Int × Int} {n : Nat} {c : Int × Int} : c ∈ mL lo hi n ↔ ∃ q p : Nat, q < n ∧ p < nX lo hi ∧ c = (lo.1 + (p : Int), lo.2 + (q : Int)) := by
 simp only [mL, xX, List.mem_flatMap, List.mem_range, List.mem_map]
 constructor
 ·rintro ⟨q, hq, p, hp, rfl⟩; exact ⟨q, p, hq, hp, rfl⟩
 ·rintro ⟨q, p, hq, hp, rfl⟩; exact ⟨q, hq, p, hp, rfl⟩
theorem xZ {a : Bx} {c : Int × Int} : c ∈ gA a ↔ ¬ gS a ∧ lL a.x0 ≤ c.1 ∧ c.1 ≤ lL a.x1 ∧ lL a.y0 ≤ c.2 ∧ c.2 ≤ lL a.y1 := by
 unfold gA tX
 by_cases h : gS a
 ·simp [h]
 ·rw [if_pos (by simpa using h), aRm]
  simp only [loC, hiC, if_neg h, nX, nY]
  constructor
  ·rintro ⟨q, p, hq, hp, rfl⟩
   refine ⟨h, ?_⟩
   simp only
   omega
  ·rintro ⟨_, h1, h2, h3, h4⟩
   refine ⟨(c.2 - lL a.y0).toNat, (c.1 - lL a.x0).toNat, by omega, by omega, ?_⟩
   apply Prod.ext <;> simp only <;> omega
structure Okc (c : Int × Int) : Prop where
 x : -512 ≤ c.1 ∧ c.1 ≤ 511
 y : -512 ≤ c.2 ∧ c.2 ≤ 511
theorem aJj {a : Bx} (h : Okx a) : Okc (loC a) := by
 unfold loC
 split
 ·exact ⟨by decide, by decide⟩
 ·exact ⟨oA h.x0.1 h.x0.2, oA h.y0.1 h.y0.2⟩
theorem aKg {a : Bx} (h : Okx a) : Okc (hiC a) := by
 unfold hiC
 split
 ·exact ⟨by decide, by decide⟩
 ·exact ⟨oA h.x1.1 h.x1.2, oA h.y1.1 h.y1.2⟩
theorem bBi {lo hi : Int × Int} (h1 : Okc lo) (h2 : Okc hi) : nX lo hi ≤ 1024 := by
 have := h1.x; have := h2.x
 unfold nX
 omega
theorem bBp {lo hi : Int × Int} (h1 : Okc lo) (h2 : Okc hi) : nY lo hi ≤ 1024 := by
 have := h1.y; have := h2.y
 unfold nY
 omega
theorem aKw {a : Bx} (h : Okx a) : (gA a).length ≤ 1048576 := by
 unfold gA tX
 split
 ·exact aRz (bBi (aJj h) (aKg h)) (bBp (aJj h) (aKg h))
 ·simp
theorem aWh {a b : Bx} (h : ovl a b) : ∃ c, c ∈ gA a ∧ c ∈ gA b := by
 obtain ⟨⟨h1, h2⟩, ⟨h3, h4⟩, h5, h6, h7, h8⟩ := h
 refine ⟨(lL (max a.x0 b.x0), lL (max a.y0 b.y0)), xZ.2 ⟨by unfold gS; omega, ?_⟩, xZ.2 ⟨by unfold gS; omega, ?_⟩⟩
 ·exact ⟨jI (by omega), jI (by omega), jI (by omega), jI (by omega)⟩
 ·exact ⟨jI (by omega), jI (by omega), jI (by omega), jI (by omega)⟩
def qM (c : Int × Int) : Int :=
 IntKind.u32.wrap ((BitVec.ofInt 32 (IntKind.u32.wrap ((BitVec.ofInt 32 (IntKind.u32.wrap (IntKind.u32.wrap c.1 * 73856093)) ^^^ BitVec.ofInt 32 (IntKind.u32.wrap (IntKind.u32.wrap c.2 * 19349663))).toNat)) &&& BitVec.ofInt 32 1023).toNat)
def dJ (c : Int × Int) : Nat := (qM c).toNat
theorem kG (c : Int × Int) : 0 ≤ qM c ∧ qM c < 1024 := by
 unfold qM
 generalize BitVec.ofInt 32 (IntKind.u32.wrap _) = a
 have h : (a &&& BitVec.ofInt 32 1023).toNat ≤ 1023 := by
  rw [BitVec.toNat_and]
  exact Nat.le_trans Nat.and_le_right (by decide)
 rw [aBm _ (by omega) (by omega)]
 omega
theorem jG (c : Int × Int) : dJ c < 1024 := by have := kG c; unfold dJ; omega
theorem aQx (c : Int × Int) : qM c = (dJ c : Int) := by have := kG c; unfold dJ; omega
end Go.Bil

namespace Go.Bil
def iS (n : Int) : List Int := [n / 16777216 % 256, n / 65536 % 256, n / 256 % 256, n % 256]
def aTp (b : Body) : List Int := [b.key, b.radius, b.ax, b.ay, b.mass, b.bounce, b.px, b.py, b.vx, b.vy]
def uF (b : Body) : List Int := (aTp b).flatMap iS
def pM : List Int := [66, 73, 76, 49]
def wL (v : List Body) : List Int := pM ++ iS (v.length : Int) ++ v.flatMap uF
def eJ (l : List Int) (a : Nat) : Int := ((l.getD a 0 * 256 + l.getD (a + 1) 0) * 256 + l.getD (a + 2) 0) * 256 + l.getD (a + 3) 0
def nV (n : Int) : Int := if 2147483648 ≤ n then n - 4294967296 else n
def pY (l : List Int) (a : Nat) : Body := ⟨eJ l a, nV (eJ l (a + 4)), nV (eJ l (a + 8)), nV (eJ l (a + 12)), nV (eJ l (a + 16)), nV (eJ l (a + 20)), nV (eJ l (a + 24)), nV (eJ l (a + 28)), nV (eJ l (a + 32)), nV (eJ l (a + 36))⟩
abbrev aCu (l : List Int) : Prop := 8 ≤ l.length ∧ l.take 4 = pM ∧ (l.length : Int) = 8 + 40 * eJ l 4
def nG (l : List Int) (n : Nat) : List Body := (List.range n).map (fun i => pY l (8 + 40 * i))
def lM (l : List Int) : List Body × Int := if ¬ aCu l then ([], 13) else if iB (nG l (eJ l 4).toNat) ≠ 0 then ([], iB (nG l (eJ l 4).toNat)) else (nG l (eJ l 4).toNat, 0)
abbrev jM (l : List Int) : Prop := ∀ x ∈ l, 0 ≤ x ∧ x ≤ 255
theorem aOj (n : Int) : (iS n).length = 4 := rfl
theorem aVf (b : Body) : (uF b).length = 40 := rfl
theorem aSa (v : List Body) : (v.flatMap uF).length = 40 * v.length := by
 induction v with
 | nil => rfl
 | cons b v ih => rw [List.flatMap_cons, List.length_append, ih, aVf, List.length_cons]; omega
theorem aSo (v : List Body) : (wL v).length = 8 + 40 * v.length := by
 unfold wL
 rw [List.length_append, List.length_append, aSa, aOj]
 rfl
theorem uP (n : Int) : iS (n % 4294967296) = iS n := by
 unfold iS
 have h1 : n % 4294967296 / 16777216 % 256 = n / 16777216 % 256 := by omega
 have h2 : n % 4294967296 / 65536 % 256 = n / 65536 % 256 := by omega
 have h3 : n % 4294967296 / 256 % 256 = n / 256 % 256 := by omega
 have h4 : n % 4294967296 % 256 = n % 256 := by omega
 rw [h1, h2, h3, h4]
theorem aRd (n : Int) : iS (nV n) = iS n := by
 unfold nV
 split
 ·rw [← uP (n - 4294967296), ← uP n]
  congr 1
  omega
 ·rfl
theorem pO {l : List Int} (hl : jM l) {a : Nat} (h : a + 4 ≤ l.length) : 0 ≤ eJ l a ∧ eJ l a ≤ 4294967295 ∧ iS (eJ l a) = (l.drop a).take 4 := by
 have g (j : Nat) (hj : j < l.length) : l[j]? = some (l.getD j 0) ∧ 0 ≤ l.getD j 0 ∧ l.getD j 0 ≤ 255 := by
  rw [List.getD_eq_getElem?_getD, List.getElem?_eq_getElem hj]
  have hb := hl _ (List.getElem_mem hj)
  exact ⟨rfl, hb.1, hb.2⟩
 obtain ⟨g0, g1, g2⟩ := g a (by omega)
 obtain ⟨g3, g4, g5⟩ := g (a + 1) (by omega)
 obtain ⟨g6, g7, g8⟩ := g (a + 2) (by omega)
 obtain ⟨g9, ga, gb⟩ := g (a + 3) (by omega)
 have e : (l.drop a).take 4 = [l.getD a 0, l.getD (a + 1) 0, l.getD (a + 2) 0, l.getD (a + 3) 0] := by
  have hlen : ((l.drop a).take 4).length = 4 := by rw [List.length_take, List.length_drop]; omega
  refine List.ext_getElem? fun j => ?_
  rcases (show j = 0 ∨ j = 1 ∨ j = 2 ∨ j = 3 ∨ 4 ≤ j by omega) with rfl | rfl | rfl | rfl | hj
  ·rw [List.getElem?_take_of_lt (by omega), List.getElem?_drop]; simpa using g0
  ·rw [List.getElem?_take_of_lt (by omega), List.getElem?_drop]; simpa using g3
  ·rw [List.getElem?_take_of_lt (by omega), List.getElem?_drop]; simpa using g6
  ·rw [List.getElem?_take_of_lt (by omega), List.getElem?_drop]; simpa using g9
  ·rw [List.getElem?_eq_none (by omega), List.getElem?_eq_none (by simpa using hj)]
 rw [e]
 unfold eJ iS
 generalize l.getD a 0 = p at *
 generalize l.getD (a + 1) 0 = q at *
 generalize l.getD (a + 2) 0 = r at *
 generalize l.getD (a + 3) 0 = s at *
 refine ⟨by omega, by omega, ?_⟩
 have h1 : (((p * 256 + q) * 256 + r) * 256 + s) / 16777216 % 256 = p := by omega
 have h2 : (((p * 256 + q) * 256 + r) * 256 + s) / 65536 % 256 = q := by omega
 have h3 : (((p * 256 + q) * 256 + r) * 256 + s) / 256 % 256 = r := by omega
 have h4 : (((p * 256 + q) * 256 + r) * 256 + s) % 256 = s := by omega
 rw [h1, h2, h3, h4]
theorem aKi (l : List Int) (k : Nat) : ∀ n, (List.range n).flatMap (fun i => (l.drop (k * i)).take k) = l.take (k * n)
 | 0 => by simp
 | n + 1 => by
  rw [List.range_succ, List.flatMap_append, aKi l k n, List.flatMap_cons, List.flatMap_nil, List.append_nil, Nat.mul_succ, List.take_add]
theorem kY {n : Int} (h : 0 ≤ n ∧ n ≤ 4294967295) : -2147483648 ≤ nV n ∧ nV n ≤ 2147483647 := by unfold nV; split <;> omega
theorem aOu {l : List Int} (hl : jM l) {a : Nat} (h : a + 40 ≤ l.length) : InB (pY l a) := by
 have f (k : Nat) (hk : k ≤ 36) : 0 ≤ eJ l (a + k) ∧ eJ l (a + k) ≤ 4294967295 := by
  have := pO hl (a := a + k) (by omega)
  exact ⟨this.1, this.2.1⟩
 exact ⟨f 0 (by omega), kY (f 4 (by omega)), kY (f 8 (by omega)), kY (f 12 (by omega)), kY (f 16 (by omega)), kY (f 20 (by omega)), kY (f 24 (by omega)), kY (f 28 (by omega)), kY (f 32 (by omega)), kY (f 36 (by omega))⟩
theorem bAy {l : List Int} (hl : jM l) {a : Nat} (h : a + 40 ≤ l.length) : uF (pY l a) = (l.drop a).take 40 := by
 have f (k : Nat) (hk : k ≤ 36) : iS (eJ l (a + k)) = ((l.drop a).drop k).take 4 := by rw [List.drop_drop]; exact (pO hl (a := a + k) (by omega)).2.2
 have e := aKi (l.drop a) 4 10
 rw [← e]
 unfold uF aTp pY
 simp only [List.flatMap_cons, List.flatMap_nil, aRd]
 have f0 := f 0 (by omega)
 rw [Nat.add_zero] at f0
 rw [f0, f 4 (by omega), f 8 (by omega), f 12 (by omega), f 16 (by omega), f 20 (by omega), f 24 (by omega), f 28 (by omega), f 32 (by omega), f 36 (by omega)]
 rfl
theorem yT (l : List Int) (n : Nat) : (nG l n).length = n := by unfold nG; rw [List.length_map, List.length_range]
theorem aAq {α β : Type} {l : List α} {f g : α → List β} (h : ∀ x ∈ l, f x = g x) : l.flatMap f = l.flatMap g := by
 induction l with
 | nil => rfl
 | cons x l ih => rw [List.flatMap_cons, List.flatMap_cons, h x (by simp), ih fun y hy => h y (by simp [hy])]
theorem aVi {l : List Int} (hl : jM l) {n : Nat} (h : l.length = 8 + 40 * n) : (nG l n).flatMap uF = l.drop 8 := by
 unfold nG
 rw [List.flatMap_map, aAq (g := fun i => ((l.drop 8).drop (40 * i)).take 40) (fun i hi => by
  have := List.mem_range.1 hi
  rw [List.drop_drop]
  exact bAy hl (by omega)), aKi, List.take_of_length_le (by rw [List.length_drop]; omega)]
structure DecOk (l : List Int) (v : List Body) : Prop where
 n : l.length = 8 + 40 * v.length
 e : wL v = l
 inb : ∀ b ∈ v, InB b
 c : iB v = 0
theorem bAa {l : List Int} (hl : jM l) (h : (lM l).2 = 0) : DecOk l (lM l).1 := by
 unfold lM at h ⊢
 by_cases hf : aCu l
 ·rw [if_neg (Decidable.not_not.2 hf)] at h ⊢
  by_cases hc : iB (nG l (eJ l 4).toNat) = 0
  ·rw [if_neg (by omega)]
   obtain ⟨h8, hm, hn⟩ := hf
   have hr := pO hl (a := 4) (by omega)
   have hlen : l.length = 8 + 40 * (eJ l 4).toNat := by omega
   show DecOk l (nG l (eJ l 4).toNat)
   refine ⟨by rw [yT]; exact hlen, ?_, ?_, hc⟩
   ·unfold wL
    rw [aVi hl hlen, yT, show (((eJ l 4).toNat : Nat) : Int) = eJ l 4 by omega, hr.2.2, ← hm, ← List.take_add, List.take_append_drop]
   ·intro b hb
    unfold nG at hb
    obtain ⟨i, hi, rfl⟩ := List.mem_map.1 hb
    have := List.mem_range.1 hi
    exact aOu hl (by omega)
  ·rw [if_pos hc] at h
   exact absurd h hc
 ·rw [if_pos hf] at h
  cases h
def vQ (b : Body) : List Int := [b.key, b.radius % 4294967296, b.ax % 4294967296, b.ay % 4294967296, b.mass % 4294967296, b.bounce % 4294967296, b.px % 4294967296, b.py % 4294967296, b.vx % 4294967296, b.vy % 4294967296]
theorem aQo (b : Body) : (vQ b).flatMap iS = uF b := by
 unfold vQ uF aTp
 simp only [List.flatMap_cons, List.flatMap_nil, uP]
theorem aQc {b : Body} (h : InB b) : ∀ x ∈ vQ b, 0 ≤ x ∧ x ≤ 4294967295 := by
 obtain ⟨h0, _⟩ := h
 intro x hx
 simp only [vQ, List.mem_cons, List.not_mem_nil, or_false] at hx
 rcases hx with rfl | rfl | rfl | rfl | rfl | rfl | rfl | rfl | rfl | rfl <;> omega
theorem aPd {L : List Int} {j : Nat} {x : Int} (h : L[j]? = some x) : (L.take (j + 1)).flatMap iS = (L.take j).flatMap iS ++ iS x := by
 rw [cP h, List.flatMap_append, List.flatMap_cons, List.flatMap_nil, List.append_nil]
theorem aQv {v : List Body} {j : Nat} {x : Body} (h : v[j]? = some x) : (v.take (j + 1)).flatMap uF = (v.take j).flatMap uF ++ uF x := by
 rw [cP h, List.flatMap_append, List.flatMap_cons, List.flatMap_nil, List.append_nil]
theorem hJ {l : List Int} {a m : Nat} (h : 4 ≤ m) : eJ ((l.drop a).take m) 0 = eJ l a := by
 have g (j : Nat) (hj : j < m) : ((l.drop a).take m).getD j 0 = l.getD (a + j) 0 := by
  rw [List.getD_eq_getElem?_getD, List.getD_eq_getElem?_getD, List.getElem?_take_of_lt hj, List.getElem?_drop]
 unfold eJ
 rw [g 0 (by omega), g (0 + 1) (by omega), g (0 + 2) (by omega), g (0 + 3) (by omega)]
 rfl
theorem aPp (l : List Int) (k : Nat) : nG l (k + 1) = nG l k ++ [pY l (8 + 40 * k)] := by unfold nG; rw [List.range_succ, List.map_append]; rfl
theorem jM.sub {l : List Int} (h : jM l) (a m : Nat) : jM ((l.drop a).take m) := fun x hx => h x (List.mem_of_mem_drop (List.mem_of_mem_take hx))
end Go.Bil
namespace Go.Bil
theorem aEd {l : List Int} (h : ¬ aCu l) : lM l = ([], 13) := by unfold lM; rw [if_pos h]
theorem aZy {l : List Int} {N : Nat} (h : aCu l) (hN : eJ l 4 = (N : Int)) (hc : iB (nG l N) ≠ 0) : lM l = ([], iB (nG l N)) := by
 unfold lM; rw [if_neg (Decidable.not_not.2 h), hN, Int.toNat_natCast, if_pos hc]
theorem aVp {l : List Int} {N : Nat} (h : aCu l) (hN : eJ l 4 = (N : Int)) (hc : iB (nG l N) = 0) : lM l = (nG l N, 0) := by
 unfold lM; rw [if_neg (Decidable.not_not.2 h), hN, Int.toNat_natCast, if_neg (by omega)]
theorem bJe {l : List Int} (hl : jM l) {a : Nat} (h : a + 40 ≤ l.length) : ∀ x ∈ ([eJ l a, eJ l (a + 4), eJ l (a + 8), eJ l (a + 12), eJ l (a + 16), eJ l (a + 20), eJ l (a + 24), eJ l (a + 28), eJ l (a + 32), eJ l (a + 36)] : List Int), 0 ≤ x ∧ x ≤ 4294967295 := by
 have f (k : Nat) (hk : k ≤ 36) : 0 ≤ eJ l (a + k) ∧ eJ l (a + k) ≤ 4294967295 := by
  have := pO hl (a := a + k) (by omega)
  exact ⟨this.1, this.2.1⟩
 intro x hx
 simp only [List.mem_cons, List.not_mem_nil, or_false] at hx
 rcases hx with rfl | rfl | rfl | rfl | rfl | rfl | rfl | rfl | rfl | rfl
 ·exact f 0 (by omega)
 ·exact f 4 (by omega)
 ·exact f 8 (by omega)
 ·exact f 12 (by omega)
 ·exact f 16 (by omega)
 ·exact f 20 (by omega)
 ·exact f 24 (by omega)
 ·exact f 28 (by omega)
 ·exact f 32 (by omega)
 ·exact f 36 (by omega)
theorem vA : pM = ([66, 73, 76, 49] : List UInt8).map (fun y => (y.toNat : Int)) := by decide
end Go.Bil
