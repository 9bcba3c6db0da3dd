/- Part of the proof of the laws of this seat: Md4, Md5, Md7, Md8, MdB, MdC, Mf1. No conditions. -/
import Derived.Test.YtaoaknafiegfoaaGreatDoorK4
import Derived.Test.YtaoaknafiegfoaaGreatDoorK3
set_option linter.unusedVariables false
set_option linter.unusedSimpArgs false
set_option linter.unnecessarySimpa false
namespace Go.Bil
def bU (s : List Body) : Prop := s.Pairwise (fun a b => a.key < b.key)
def nS (k : Int) (s : List Body) : List Body := s.filter (fun x => decide (x.key ≠ k))
def pX (b : Body) : Bool → List Body → List Body
 | true, s => nS b.key s
 | false, [] => [b]
 | false, x :: l => if b.key ≤ x.key then b :: nS b.key (x :: l) else x :: pX b false l
def bCj (b : Body) (r : List Body × Bool) : List Body := if r.2 then r.1 else r.1 ++ [b]
theorem oF (b : Body) : ∀ (s acc : List Body) (d : Bool), bCj b (s.foldl (mE b) (acc, d)) = acc ++ pX b d s
 | [], acc, true => by simp [pX, nS, bCj]
 | [], acc, false => by simp [pX, bCj]
 | x :: l, acc, true => by
  have ih := oF b l (if x.key ≠ b.key then acc ++ [x] else acc) true
  rw [List.foldl_cons]
  have e : mE b (acc, true) x = (if x.key ≠ b.key then acc ++ [x] else acc, true) := by unfold mE; by_cases h : x.key = b.key <;> simp [h]
  rw [e, ih]
  by_cases h : x.key = b.key <;> simp [pX, nS, h]
 | x :: l, acc, false => by
  rw [List.foldl_cons]
  by_cases hb : b.key ≤ x.key
  ·have ih := oF b l (if x.key ≠ b.key then acc ++ [b] ++ [x] else acc ++ [b]) true
   have e : mE b (acc, false) x = (if x.key ≠ b.key then acc ++ [b] ++ [x] else acc ++ [b], true) := by unfold mE; by_cases h : x.key = b.key <;> simp [h, hb]
   rw [e, ih]
   by_cases h : x.key = b.key <;> simp [pX, nS, h, hb]
  ·have hne : x.key ≠ b.key := by omega
   have ih := oF b l (acc ++ [x]) false
   have e : mE b (acc, false) x = (acc ++ [x], false) := by unfold mE; simp [hb, hne]
   rw [e, ih]
   simp [pX, hb]
theorem aMf (s : List Body) (b : Body) (g : Bool) : aDo s b g = pX b g s := by
 have := oF b s [] g
 rw [List.nil_append] at this
 exact this
theorem tN (b : Body) : ∀ s : List Body, (pX b false s).Perm (b :: nS b.key s)
 | [] => by simp [pX, nS]
 | x :: l => by
  unfold pX
  split
  ·exact List.Perm.refl _
  ·rename_i h
   have hne : x.key ≠ b.key := by omega
   have e : nS b.key (x :: l) = x :: nS b.key l := by simp [nS, hne]
   rw [e]
   exact ((tN b l).cons x).trans (List.Perm.swap b x _)
theorem zL {k : Int} {s : List Body} {x : Body} : x ∈ nS k s ↔ x ∈ s ∧ x.key ≠ k := by simp [nS]
theorem bU.cut {s : List Body} (h : bU s) (k : Int) : bU (nS k s) := List.Pairwise.sublist List.filter_sublist h
theorem bU.put {b : Body} : ∀ {s : List Body}, bU s → bU (pX b false s)
 | [], _ => by simp [pX, bU]
 | x :: l, h => by
  unfold pX
  have hx : ∀ y ∈ l, x.key < y.key := (List.pairwise_cons.1 h).1
  have hl : bU l := (List.pairwise_cons.1 h).2
  split
  ·rename_i hb
   refine List.pairwise_cons.2 ⟨fun y hy => ?_, h.cut _⟩
   obtain ⟨h1, h2⟩ := zL.1 hy
   rcases List.mem_cons.1 h1 with rfl | h1
   ·omega
   ·have := hx y h1; omega
  ·rename_i hb
   refine List.pairwise_cons.2 ⟨fun y hy => ?_, bU.put hl⟩
   have := (tN b l).mem_iff.1 hy
   rcases List.mem_cons.1 this with rfl | h1
   ·omega
   ·exact hx y (zL.1 h1).1
def rY (s : List Body) (b : Body) : List Body × Int :=
 if check b ≠ 0 then (s, check b) else if 0 ≤ cH b.key s then (s, 10) else if 4096 ≤ s.length then (s, 12) else (aDo s b false, 0)
def qN (k : Int) : Body := ⟨k, 0, 0, 0, 0, 0, 0, 0, 0, 0⟩
def gR (s : List Body) (k : Int) : List Body × Int := if cH k s < 0 then (s, 11) else (aDo s (qN k) true, 0)
def aWf (s : List Body) (b : Body) : List Body × Int :=
 if check b ≠ 0 then (s, check b) else if cH b.key s < 0 then (s, 11) else (aDo s b false, 0)
structure Rel (m s : List Body) : Prop where
 perm : s.Perm m
 sorted : bU s
theorem Rel.nil : Rel [] [] := ⟨List.Perm.refl _, by simp [bU]⟩
theorem bU.unique {s t : List Body} (h : bU s) (h' : bU t) (p : s.Perm t) : s = t :=
 List.Perm.eq_of_pairwise (le := fun (a b : Body) => a.key < b.key) (fun a b _ _ h1 h2 => by omega) h h' p
theorem bU.keys {s : List Body} (h : bU s) : gS s := by
 unfold gS List.Nodup
 rw [List.pairwise_map]
 exact h.imp (fun h => by omega)
theorem Rel.keys {m s : List Body} (R : Rel m s) : gS m := R.sorted.keys.perm R.perm.symm
theorem Rel.find {m s : List Body} (R : Rel m s) (k : Int) : cH k s < 0 ↔ cH k m < 0 := by
 rw [jU, jU]
 exact ⟨fun h b hb => h b (R.perm.mem_iff.2 hb), fun h b hb => h b (R.perm.mem_iff.1 hb)⟩
theorem aCi {k : Int} {s : List Body} (h : cH k s < 0) : nS k s = s := List.filter_eq_self.2 fun x hx => by simpa using jU.1 h x hx
theorem Rel.put {m s : List Body} (R : Rel m s) (b : Body) {m' : List Body} (h : m'.Perm (b :: nS b.key m)) : Rel m' (aDo s b false) := by
 rw [aMf]
 exact ⟨((tN b s).trans ((R.perm.filter _).cons b)).trans h.symm, R.sorted.put⟩
theorem Rel.add {m s : List Body} (R : Rel m s) (b : Body) : Rel (kN m b).1 (rY s b).1 ∧ (rY s b).2 = (kN m b).2 := by
 unfold kN rY
 have hf := R.find b.key
 have hl := R.perm.length_eq
 by_cases h1 : check b ≠ 0
 ·rw [if_pos h1, if_pos h1]; exact ⟨R, rfl⟩
 ·rw [if_neg h1, if_neg h1]
  by_cases h2 : 0 ≤ cH b.key m
  ·have h2' : 0 ≤ cH b.key s := by omega
   rw [if_pos h2, if_pos h2']; exact ⟨R, rfl⟩
  ·have h2' : ¬ 0 ≤ cH b.key s := by omega
   rw [if_neg h2, if_neg h2', hl]
   by_cases h3 : 4096 ≤ m.length
   ·rw [if_pos h3, if_pos h3]; exact ⟨R, rfl⟩
   ·rw [if_neg h3, if_neg h3]
    refine ⟨R.put b ?_, rfl⟩
    rw [aCi (by omega)]
    exact List.perm_append_singleton b m
theorem rS {m : List Body} (h : gS m) {i : Nat} {b : Body} (hi : m[i]? = some b) : m.eraseIdx i = nS b.key m := by
 have e : m = m.take i ++ b :: m.drop (i + 1) := by
  have hlt := (List.getElem?_eq_some_iff.1 hi).1
  have hb : m[i] = b := (List.getElem?_eq_some_iff.1 hi).2
  rw [← hb, ← List.drop_eq_getElem_cons hlt, List.take_append_drop]
 have hne := aCg h hi
 rw [List.eraseIdx_eq_take_drop_succ] at hne ⊢
 conv => rhs; rw [e]
 unfold nS
 rw [List.filter_append, List.filter_cons]
 simp only [ne_eq, not_true_eq_false, decide_false, Bool.false_eq_true, if_false]
 rw [List.filter_eq_self.2 (fun x hx => by simpa using hne x (List.mem_append_left _ hx)), List.filter_eq_self.2 (fun x hx => by simpa using hne x (List.mem_append_right _ hx))]
theorem Rel.remove {m s : List Body} (R : Rel m s) (k : Int) : Rel (iZ m k).1 (gR s k).1 ∧ (gR s k).2 = (iZ m k).2 := by
 unfold iZ gR
 have hf := R.find k
 by_cases h : cH k m < 0
 ·rw [if_pos h, if_pos (hf.2 h)]; exact ⟨R, rfl⟩
 ·rw [if_neg h, if_neg (fun h' => h (hf.1 h'))]
  refine ⟨?_, rfl⟩
  rcases dF k m with ⟨h1, _⟩ | ⟨i, b, h1, h2, h3⟩
  ·omega
  ·rw [h3, Int.toNat_natCast, aMf]
   have hlt := (List.getElem?_eq_some_iff.1 h1).1
   have hk : (qN k).key = b.key := h2.symm
   have he : pX (qN k) true s = nS b.key s := by unfold pX; rw [hk]
   refine ⟨?_, by rw [he]; exact R.sorted.cut _⟩
   show (pX (qN k) true s).Perm _
   rw [he]
   exact (R.perm.filter _).trans ((List.Perm.of_eq (rS R.keys h1).symm).trans (nJ hlt).symm)
theorem aVa {m : List Body} {i : Nat} {x : Body} (hi : i < m.length) : (m.set i x).Perm (x :: m.eraseIdx i) := by
 rw [List.set_eq_take_append_cons_drop, if_pos hi, List.eraseIdx_eq_take_drop_succ]
 exact List.perm_middle
theorem Rel.set {m s : List Body} (R : Rel m s) (b : Body) : Rel (rF m b).1 (aWf s b).1 ∧ (aWf s b).2 = (rF m b).2 := by
 unfold rF aWf
 have hf := R.find b.key
 by_cases h1 : check b ≠ 0
 ·rw [if_pos h1, if_pos h1]; exact ⟨R, rfl⟩
 ·rw [if_neg h1, if_neg h1]
  by_cases h : cH b.key m < 0
  ·rw [if_pos h, if_pos (hf.2 h)]; exact ⟨R, rfl⟩
  ·rw [if_neg h, if_neg (fun h' => h (hf.1 h'))]
   refine ⟨?_, rfl⟩
   rcases dF b.key m with ⟨h1, _⟩ | ⟨i, c, h1, h2, h3⟩
   ·omega
   ·rw [h3, Int.toNat_natCast]
    have hlt := (List.getElem?_eq_some_iff.1 h1).1
    refine R.put b ((aVa hlt).trans ?_)
    rw [rS R.keys h1, h2]
theorem Rel.get {m s : List Body} (R : Rel m s) (k : Int) : (cH k s < 0 ∧ zO m k = (qN 0, 11)) ∨ ∃ (i : Nat) (b : Body), cH k s = (i : Int) ∧ s[i]? = some b ∧ zO m k = (b, 0) := by
 rcases dF k s with ⟨h1, h2⟩ | ⟨i, b, h1, h2, h3⟩
 ·have hm : cH k m < 0 := (R.find k).1 (by omega)
  refine .inl ⟨by omega, ?_⟩
  unfold zO
  rw [if_pos hm]
  rfl
 ·refine .inr ⟨i, b, h3, h1, ?_⟩
  have hb : b ∈ m := R.perm.mem_iff.1 (List.mem_of_getElem? h1)
  obtain ⟨j, hj⟩ := List.getElem?_of_mem hb
  have := oQ R.keys hj
  rw [h2] at this
  exact tV this hj
theorem sC {a b : Int} : lB a b < 0 ↔ a < b := by unfold lB; (repeat' split) <;> omega
def aKy (b : Body) : List Body → List Body
 | [] => [b]
 | x :: l => if b.key ≤ x.key then b :: x :: l else x :: aKy b l
def vJ (m : List Body) : List Body := m.foldr aKy []
theorem uO (b : Body) : ∀ l : List Body, (aKy b l).Perm (b :: l)
 | [] => List.Perm.refl _
 | x :: l => by
  unfold aKy
  split
  ·exact List.Perm.refl _
  ·exact ((uO b l).cons x).trans (List.Perm.swap b x l)
theorem lL : ∀ m : List Body, (vJ m).Perm m
 | [] => List.Perm.refl _
 | b :: m => (uO b (vJ m)).trans ((lL m).cons b)
def Up (s : List Body) : Prop := s.Pairwise (fun a b => a.key ≤ b.key)
theorem aNg (b : Body) : ∀ {l : List Body}, Up l → Up (aKy b l)
 | [], _ => by simp [aKy, Up]
 | x :: l, h => by
  unfold aKy
  have hx : ∀ y ∈ l, x.key ≤ y.key := (List.pairwise_cons.1 h).1
  split
  ·rename_i hb
   refine List.pairwise_cons.2 ⟨fun y hy => ?_, h⟩
   rcases List.mem_cons.1 hy with rfl | hy
   ·exact hb
   ·have := hx y hy; omega
  ·refine List.pairwise_cons.2 ⟨fun y hy => ?_, aNg b (List.pairwise_cons.1 h).2⟩
   have := (uO b l).mem_iff.1 hy
   rcases List.mem_cons.1 this with rfl | h1
   ·omega
   ·exact hx y h1
theorem zS : ∀ m : List Body, Up (vJ m)
 | [] => by simp [vJ, Up]
 | b :: m => aNg b (zS m)
theorem uS {s : List Body} (h : Up s) (hk : gS s) : bU s := by
 unfold Up at h
 unfold gS List.Nodup at hk
 rw [List.pairwise_map] at hk
 exact (List.Pairwise.and h hk).imp (fun ⟨h1, h2⟩ => by omega)
theorem aQi {s t : List Body} (h : Up s) (h' : Up t) (p : s.Perm t) (hk : gS s) : s = t := (uS h hk).unique (uS h' (hk.perm p.symm)) p
theorem aNy {m : List Body} (hk : gS m) : Rel m (vJ m) := ⟨lL m, uS (zS m) (hk.perm (lL m))⟩
theorem Rel.eq {m s : List Body} (R : Rel m s) : vJ m = s := (aNy R.keys).sorted.unique R.sorted ((lL m).trans R.perm.symm)
end Go.Bil
namespace Go.Bil
structure InB (b : Body) : Prop where
 key : 0 ≤ b.key ∧ b.key ≤ 4294967295
 radius : -2147483648 ≤ b.radius ∧ b.radius ≤ 2147483647
 ax : -2147483648 ≤ b.ax ∧ b.ax ≤ 2147483647
 ay : -2147483648 ≤ b.ay ∧ b.ay ≤ 2147483647
 mass : -2147483648 ≤ b.mass ∧ b.mass ≤ 2147483647
 bounce : -2147483648 ≤ b.bounce ∧ b.bounce ≤ 2147483647
 px : -2147483648 ≤ b.px ∧ b.px ≤ 2147483647
 py : -2147483648 ≤ b.py ∧ b.py ≤ 2147483647
 vx : -2147483648 ≤ b.vx ∧ b.vx ≤ 2147483647
 vy : -2147483648 ≤ b.vy ∧ b.vy ≤ 2147483647
theorem bDv (l : List Value) (h : kH [.u32, .i32, .i32, .i32, .i32, .i32, .i32, .i32, .i32, .i32] l) : ∃ b, l = aF b ∧ InB b := by
 obtain ⟨z0, l0, rfl, w0, h0⟩ := eJ h
 obtain ⟨z1, l1, rfl, w1, h1⟩ := eJ h0
 obtain ⟨z2, l2, rfl, w2, h2⟩ := eJ h1
 obtain ⟨z3, l3, rfl, w3, h3⟩ := eJ h2
 obtain ⟨z4, l4, rfl, w4, h4⟩ := eJ h3
 obtain ⟨z5, l5, rfl, w5, h5⟩ := eJ h4
 obtain ⟨z6, l6, rfl, w6, h6⟩ := eJ h5
 obtain ⟨z7, l7, rfl, w7, h7⟩ := eJ h6
 obtain ⟨z8, l8, rfl, w8, h8⟩ := eJ h7
 obtain ⟨z9, l9, rfl, w9, h9⟩ := eJ h8
 obtain rfl := pK h9
 exact ⟨⟨z0, z1, z2, z3, z4, z5, z6, z7, z8, z9⟩, rfl, ⟨w0, w1, w2, w3, w4, w5, w6, w7, w8, w9⟩⟩
end Go.Bil

namespace Go.Bil
structure StV where
 A : Option Addr
 n : Nat
 c : Nat
 p : Option Nat
 er : dG
 em : dG
def aCq (l : List Body) : List Body := l.foldl (fun m b => (kN m b).1) []
theorem yN {l : List Body} {k : Nat} {x : Body} (h : l[k]? = some x) : aCq (l.take (k + 1)) = (kN (aCq (l.take k)) x).1 := by
 unfold aCq
 rw [cP h, List.foldl_append]
 rfl
def uU (l : List Body) : List Body := l.filter (fun b => decide (check b = 0))
theorem aRq {m : List Body} {x : Body} (hf : ∀ b ∈ m, b.key ≠ x.key) (hl : m.length < 4096) : kN (uU m) x = (uU (m ++ [x]), check x) := by
 have hle : (uU m).length ≤ m.length := List.length_filter_le _ _
 unfold kN
 by_cases h : check x = 0
 ·rw [if_neg (by omega), if_neg (by
   have : cH x.key (uU m) < 0 := jU.2 fun b hb => hf b (List.mem_filter.1 hb).1
   omega), if_neg (by omega), h]
  simp [uU, List.filter_append, h]
 ·rw [if_pos h]
  simp [uU, List.filter_append, h]
theorem aGh {l : List Body} (h : gS l) {k : Nat} {x : Body} (hx : l[k]? = some x) : ∀ b ∈ l.take k, b.key ≠ x.key := by
 intro b hb e
 obtain ⟨j, hj⟩ := List.getElem?_of_mem hb
 rw [List.getElem?_take] at hj
 split at hj
 ·rename_i hlt
  have := h.inj hj hx e
  omega
 ·cases hj
theorem yX {l : List Body} (h : gS l) (hl : l.length ≤ 4096) : ∀ k, k ≤ l.length → aCq (l.take k) = uU (l.take k)
 | 0, _ => by simp [aCq, uU]
 | k + 1, hk => by
  obtain ⟨x, hx⟩ := cL (xs := l) (k := k) rfl (by omega)
  rw [yN hx, yX h hl k (by omega), aRq (aGh h hx) (by rw [List.length_take]; omega), cP hx]
theorem aHs {m : List Body} (hk : gS m) (k : Int) : (iZ m k).1.Perm (nS k m) := by
 unfold iZ
 by_cases h : cH k m < 0
 ·rw [if_pos h, aCi h]
 ·rw [if_neg h]
  rcases dF k m with ⟨h1, _⟩ | ⟨i, b, h1, h2, h3⟩
  ·omega
  ·rw [h3, Int.toNat_natCast]
   have hlt := (List.getElem?_eq_some_iff.1 h1).1
   have := (nJ hlt).trans (List.Perm.of_eq (rS hk h1))
   rwa [h2] at this
end Go.Bil
namespace Go.Bil
structure StepI where
 kind : Int
 body : Body
instance : Inhabited StepI := ⟨⟨0, qN 0⟩⟩
end Go.Bil

namespace Go.Bil
def jL : List Body → Int
 | [] => 0
 | b :: l => if check b ≠ 0 then check b else jL l
def oM (xs : List Body) : Int := if 4096 < xs.length then 12 else jL xs
theorem mR : ∀ {xs : List Body}, (∀ (j : Nat) (c : Body), xs[j]? = some c → check c = 0) → jL xs = 0
 | [], _ => rfl
 | b :: l, h => by
  unfold jL
  rw [if_neg (by have := h 0 b (by simp); omega)]
  exact mR fun j c hj => h (j + 1) c (by simpa using hj)
theorem vR : ∀ {xs : List Body} {k : Nat} {b : Body}, xs[k]? = some b → check b ≠ 0 → (∀ (j : Nat) (c : Body), j < k → xs[j]? = some c → check c = 0) → jL xs = check b
 | [], _, _, h, _, _ => by simp at h
 | a :: l, 0, b, h, hb, _ => by
  simp only [List.getElem?_cons_zero, Option.some.injEq] at h
  subst h
  unfold jL
  rw [if_pos hb]
 | a :: l, k + 1, b, h, hb, hn => by
  unfold jL
  rw [if_neg (by have := hn 0 a (by omega) (by simp); omega)]
  exact vR (by simpa using h) hb fun j c hj hc => hn (j + 1) c (by omega) (by simpa using hc)
theorem sA : ∀ {xs : List Body}, jL xs = 0 → ∀ b ∈ xs, check b = 0
 | [], _, b, hb => by simp at hb
 | a :: l, h, b, hb => by
  unfold jL at h
  by_cases ha : check a = 0
  ·rw [if_neg (by omega)] at h
   rcases List.mem_cons.1 hb with rfl | hb
   ·exact ha
   ·exact sA h b hb
  ·rw [if_pos ha] at h; exact absurd h ha
theorem aVh {xs : List Body} (h : oM xs = 0) : xs.length ≤ 4096 ∧ ∀ b ∈ xs, check b = 0 := by
 unfold oM at h
 split at h
 ·omega
 ·exact ⟨by omega, sA h⟩
theorem aSe {xs : List Body} (hl : xs.length ≤ 4096) (h : ∀ b ∈ xs, check b = 0) : oM xs = 0 := by
 unfold oM
 rw [if_neg (by omega)]
 exact mR fun j c hj => h c (List.mem_of_getElem? hj)
def aAi : List Body → Bool
 | x :: y :: l => decide (x.key < y.key) && aAi (y :: l)
 | _ => true
theorem uB : ∀ {xs : List Body}, (∀ (i : Nat) (x y : Body), xs[i]? = some x → xs[i + 1]? = some y → x.key < y.key) → aAi xs = true
 | [], _ => rfl
 | [_], _ => rfl
 | x :: y :: l, h => by
  unfold aAi
  rw [Bool.and_eq_true]
  exact ⟨decide_eq_true (h 0 x y (by simp) (by simp)), uB fun i a b ha hb => h (i + 1) a b (by simpa using ha) (by simpa using hb)⟩
theorem pB : ∀ {xs : List Body}, aAi xs = true → bU xs
 | [], _ => by simp [bU]
 | [_], _ => by simp [bU]
 | x :: y :: l, h => by
  unfold aAi at h
  rw [Bool.and_eq_true, decide_eq_true_eq] at h
  have ih := pB h.2
  refine List.pairwise_cons.2 ⟨fun z hz => ?_, ih⟩
  rcases List.mem_cons.1 hz with rfl | hz
  ·exact h.1
  ·have := (List.pairwise_cons.1 ih).1 z hz; have := h.1; omega
theorem aHq {xs : List Body} (h : bU xs) : aAi xs = true := uB fun i x y hx hy => by
 have hi := List.getElem?_eq_some_iff.1 hx
 have hj := List.getElem?_eq_some_iff.1 hy
 have := List.pairwise_iff_getElem.1 h i (i + 1) hi.1 hj.1 (by omega)
 rwa [hi.2, hj.2] at this
theorem aJj {xs : List Body} {i : Nat} {x y : Body} (hx : xs[i]? = some x) (hy : xs[i + 1]? = some y) (h : ¬ x.key < y.key) : aAi xs = false := by
 cases e : aAi xs with
 | false => rfl
 | true =>
  exfalso
  have hi := List.getElem?_eq_some_iff.1 hx
  have hj := List.getElem?_eq_some_iff.1 hy
  have := List.pairwise_iff_getElem.1 (pB e) i (i + 1) hi.1 hj.1 (by omega)
  rw [hi.2, hj.2] at this
  exact h this
def gX (xs : List Body) : Int := if oM xs ≠ 0 then oM xs else if aAi xs = true then 0 else 10
instance (m : List Body) : Decidable (gS m) := by unfold gS; infer_instance
def vN (key : Int) : List Body → Nat
 | [] => 0
 | b :: l => (if b.key < key then 1 else 0) + vN key l
theorem sJ {key : Int} : ∀ {xs : List Body} {k : Nat}, k ≤ xs.length → (∀ (j : Nat) (c : Body), j < k → xs[j]? = some c → c.key < key) → (∀ (j : Nat) (c : Body), k ≤ j → xs[j]? = some c → ¬ c.key < key) → vN key xs = k
 | [], k, hk, _, _ => by simp at hk; simp [vN, hk]
 | b :: l, 0, _, _, h2 => by
  unfold vN
  rw [if_neg (h2 0 b (Nat.le_refl _) (by simp)), sJ (k := 0) (by omega) (fun j c hj => by omega) (fun j c _ hc => h2 (j + 1) c (by omega) (by simpa using hc))]
 | b :: l, k + 1, hk, h1, h2 => by
  unfold vN
  rw [if_pos (h1 0 b (by omega) (by simp)), sJ (k := k) (by simpa using hk) (fun j c hj hc => h1 (j + 1) c (by omega) (by simpa using hc)) (fun j c hj hc => h2 (j + 1) c (by omega) (by simpa using hc))]
  omega
def eZ (k : Int) : List Value := [.int .u32 k]
end Go.Bil
namespace Go.Bil
theorem vS {xs : List Body} (h : bU xs) {p q : Nat} {a b : Body} (hpq : p ≤ q) (ha : xs[p]? = some a) (hb : xs[q]? = some b) : a.key ≤ b.key := by
 by_cases e : p = q
 ·subst e
  rw [ha] at hb
  injection hb with hb
  rw [hb]; exact Int.le_refl _
 ·have hi := List.getElem?_eq_some_iff.1 ha
  have hj := List.getElem?_eq_some_iff.1 hb
  have := List.pairwise_iff_getElem.1 h p q hi.1 hj.1 (by omega)
  rw [hi.2, hj.2] at this
  omega
theorem bIs (i j : Nat) : ((i : Int) + (j : Int)).fdiv (2 ^ (min (1 : Int).toNat IntKind.u64.bits)) = (((i + j) / 2 : Nat) : Int) := by
 have e : (2 : Int) ^ (min (1 : Int).toNat IntKind.u64.bits) = 2 := by decide
 rw [e, Int.fdiv_eq_ediv_of_nonneg _ (by omega)]
 omega
theorem aAs {a b a' b' : Value} (h1 : a = a') (h2 : b = b') : Value.tuple #[a, b] = Value.tuple #[a', b'] := by rw [h1, h2]
theorem aQd {a b : Int} : lB a b = 0 ↔ a = b := by unfold lB; (repeat' split) <;> omega
theorem aOn {key : Int} {xs : List Body} (hs : bU xs) {i : Nat} {b : Body} (hb : xs[i]? = some b) (h1 : ∀ (j : Nat) (c : Body), j < i → xs[j]? = some c → c.key < key) (h2 : ∀ (j : Nat) (c : Body), i ≤ j → xs[j]? = some c → ¬ c.key < key) : lB b.key key = 0 ↔ 0 ≤ cH key xs := by
 rw [aQd]
 constructor
 ·intro e
  rcases dF key xs with ⟨_, h⟩ | ⟨_, _, _, _, h⟩
  ·exact absurd e (h b (List.mem_of_getElem? hb))
  ·omega
 ·intro h
  rcases dF key xs with ⟨h', _⟩ | ⟨j, c, hc, hk, _⟩
  ·omega
  ·have hij : i ≤ j := by
    rcases Nat.lt_or_ge j i with hlt | hge
    ·have := h1 j c hlt hc; omega
    ·exact hge
   have := vS hs hij hb hc
   have := h2 i b (Nat.le_refl _) hb
   omega
theorem aIk {key : Int} {xs : List Body} (h1 : ∀ (j : Nat) (c : Body), j < xs.length → xs[j]? = some c → c.key < key) : ¬ 0 ≤ cH key xs := by
 intro h
 rcases dF key xs with ⟨h', _⟩ | ⟨j, c, hc, hk, _⟩
 ·omega
 ·have := h1 j c (List.getElem?_eq_some_iff.1 hc).1 hc
  omega
end Go.Bil
namespace Go.Bil
theorem aTj {α : Type} {xs ys : List α} {n m : Nat} (h1 : xs.length = n) (h2 : ys.length = m) (hnm : n = m) (h : ∀ (j : Nat) (x : α), j < n → xs[j]? = some x → ys[j]? = some x) : xs = ys := by
 apply List.ext_getElem?
 intro j
 by_cases hj : j < xs.length
 ·obtain ⟨x, hx⟩ := cL (k := j) rfl hj
  rw [hx, h j x (by omega) hx]
 ·rw [List.getElem?_eq_none (by omega), List.getElem?_eq_none (by omega)]
end Go.Bil
namespace Go.Bil
end Go.Bil
namespace Go.Bil
theorem aIy (k : Int) : ∀ y ∈ [eZ k], y.length = 1 ∧ ∀ u ∈ y, one u = true := by
 intro y hy
 simp only [List.mem_singleton] at hy
 subst hy
 exact ⟨rfl, aQ rfl⟩
end Go.Bil
namespace Go.Bil
structure Mg (xs ys : List Body) (i k : Nat) : Prop where
 sx : bU xs
 sy : bU ys
 yx : ∀ (p : Nat) (a b : Body), p < k → ys[p]? = some a → xs[i]? = some b → a.key < b.key
 xy : ∀ (p : Nat) (a b : Body), p < i → xs[p]? = some a → ys[k]? = some b → a.key < b.key
theorem Mg.swap {xs ys : List Body} {i k : Nat} (h : Mg xs ys i k) : Mg ys xs k i := ⟨h.sy, h.sx, h.xy, h.yx⟩
theorem dQ {xs : List Body} (h : bU xs) {p q : Nat} {a b : Body} (hpq : p < q) (ha : xs[p]? = some a) (hb : xs[q]? = some b) : a.key < b.key := by
 have hi := List.getElem?_eq_some_iff.1 ha
 have hj := List.getElem?_eq_some_iff.1 hb
 have := List.pairwise_iff_getElem.1 h p q hi.1 hj.1 hpq
 rwa [hi.2, hj.2] at this
theorem Mg.x {xs ys : List Body} {i k : Nat} {a : Body} (h : Mg xs ys i k) (ha : xs[i]? = some a) (hb : ∀ b, ys[k]? = some b → a.key < b.key) : Mg xs ys (i + 1) k ∧ cH a.key ys < 0 := by
 refine ⟨⟨h.sx, h.sy, fun p y x hp hy hx => ?_, fun p x y hp hx hy => ?_⟩, jU.2 fun y hy => ?_⟩
 ·have := h.yx p y a hp hy ha
  have := dQ h.sx (Nat.lt_succ_self i) ha hx
  omega
 ·by_cases e : p = i
  ·subst e
   rw [ha] at hx
   injection hx with hx
   subst hx
   exact hb y hy
  ·exact h.xy p x y (by omega) hx hy
 ·obtain ⟨q, hq⟩ := List.getElem?_of_mem hy
  rcases Nat.lt_or_ge q k with hlt | hge
  ·have := h.yx q y a hlt hq ha; omega
  ·obtain ⟨b, hbk⟩ := cL (xs := ys) (k := k) rfl (by have := (List.getElem?_eq_some_iff.1 hq).1; omega)
   have h1 := hb b hbk
   have h2 := vS h.sy hge hbk hq
   omega
theorem Mg.y {xs ys : List Body} {i k : Nat} {b : Body} (h : Mg xs ys i k) (hb : ys[k]? = some b) (ha : ∀ a, xs[i]? = some a → b.key < a.key) : Mg xs ys i (k + 1) ∧ cH b.key xs < 0 := by
 obtain ⟨h1, h2⟩ := h.swap.x hb ha
 exact ⟨h1.swap, h2⟩
theorem Mg.both {xs ys : List Body} {i k : Nat} {a b : Body} (h : Mg xs ys i k) (ha : xs[i]? = some a) (hb : ys[k]? = some b) (hk : a.key = b.key) : Mg xs ys (i + 1) (k + 1) ∧ cH a.key ys = (k : Int) ∧ cH b.key xs = (i : Int) := by
 refine ⟨⟨h.sx, h.sy, fun p y x hp hy hx => ?_, fun p x y hp hx hy => ?_⟩, ?_, ?_⟩
 ·have h1 := dQ h.sx (Nat.lt_succ_self i) ha hx
  have h2 := vS h.sy (show p ≤ k by omega) hy hb
  omega
 ·have h1 := dQ h.sy (Nat.lt_succ_self k) hb hy
  have h2 := vS h.sx (show p ≤ i by omega) hx ha
  omega
 ·exact zT hb hk.symm fun j c hj hc => by have := dQ h.sy hj hc hb; omega
 ·exact zT ha hk fun j c hj hc => by have := dQ h.sx hj hc ha; omega
end Go.Bil
namespace Go.Bil
end Go.Bil
namespace Go.Bil
end Go.Bil
namespace Go.Bil
end Go.Bil
namespace Go.Bil
end Go.Bil
namespace Go.Bil
end Go.Bil
namespace Go.Bil
end Go.Bil

namespace Go.Bil
theorem aQj {v : List Body} (he : oM v = 0) (hs : bU v) : gX v = 0 := by
 unfold gX
 rw [if_neg (by omega), if_pos (aHq hs)]
end Go.Bil

namespace Go.Bil
structure Bx where
 x0 : Int
 y0 : Int
 x1 : Int
 y1 : Int
 deriving DecidableEq, Inhabited
def cU (a : Bx) : List Value := [.int .i32 a.x0, .int .i32 a.y0, .int .i32 a.x1, .int .i32 a.y1]
def aPo (b : Body) : Int := max b.ax (-b.ax) + b.radius
def aOh (b : Body) : Int := max b.ay (-b.ay) + b.radius
def iR (b : Body) : Bx := ⟨b.px - aPo b, b.py - aOh b, b.px + aPo b, b.py + aOh b⟩
abbrev gM (a : Bx) : Prop := a.x1 < a.x0 ∨ a.y1 < a.y0
def gP : Bx := ⟨1, 0, 0, 0⟩
def aBv (a b : Bx) : Bx := if gM ⟨max a.x0 b.x0, max a.y0 b.y0, min a.x1 b.x1, min a.y1 b.y1⟩ then gP else ⟨max a.x0 b.x0, max a.y0 b.y0, min a.x1 b.x1, min a.y1 b.y1⟩
abbrev ovl (a b : Bx) : Prop := (a.x0 ≤ a.x1 ∧ a.y0 ≤ a.y1) ∧ (b.x0 ≤ b.x1 ∧ b.y0 ≤ b.y1) ∧ (a.x0 ≤ b.x1 ∧ b.x0 ≤ a.x1 ∧ a.y0 ≤ b.y1 ∧ b.y0 ≤ a.y1)
theorem aWa (a b : Bx) : ¬ gM (aBv a b) ↔ ovl a b := by
 unfold aBv
 split
 ·rename_i h
  unfold gM at h
  simp only [gM, gP, ovl]
  simp only at h
  omega
 ·rename_i h
  unfold gM at h
  simp only [gM, ovl]
  simp only at h
  omega
structure Okb (b : Body) : Prop where
 r : 4096 ≤ b.radius ∧ b.radius ≤ 4194304
 a : -4194304 ≤ b.ax ∧ b.ax ≤ 4194304 ∧ -4194304 ≤ b.ay ∧ b.ay ≤ 4194304
 m : 0 ≤ b.mass ∧ b.mass ≤ 1048576
 c : 0 ≤ b.bounce ∧ b.bounce ≤ 65536
 p : -1073741824 ≤ b.px ∧ b.px ≤ 1073741824 ∧ -1073741824 ≤ b.py ∧ b.py ≤ 1073741824
 v : -16777216 ≤ b.vx ∧ b.vx ≤ 16777216 ∧ -16777216 ≤ b.vy ∧ b.vy ≤ 16777216
theorem aIb {b : Body} (h : check b = 0) : Okb b := by
 by_cases h1 : 4096 ≤ b.radius ∧ b.radius ≤ 4194304
 ·by_cases h2 : -4194304 ≤ b.ax ∧ b.ax ≤ 4194304 ∧ -4194304 ≤ b.ay ∧ b.ay ≤ 4194304
  ·by_cases h3 : 0 ≤ b.mass ∧ b.mass ≤ 1048576
   ·by_cases h4 : 0 ≤ b.bounce ∧ b.bounce ≤ 65536
    ·by_cases h5 : -1073741824 ≤ b.px ∧ b.px ≤ 1073741824 ∧ -1073741824 ≤ b.py ∧ b.py ≤ 1073741824
     ·by_cases h6 : -16777216 ≤ b.vx ∧ b.vx ≤ 16777216 ∧ -16777216 ≤ b.vy ∧ b.vy ≤ 16777216
      ·exact ⟨h1, h2, h3, h4, h5, h6⟩
      ·rw [aMu b h1 h2 h3 h4 h5 h6] at h; omega
     ·rw [aMn b h1 h2 h3 h4 h5] at h; omega
    ·rw [aMl b h1 h2 h3 h4] at h; omega
   ·rw [aLz b h1 h2 h3] at h; omega
  ·rw [aLw b h1 h2] at h; omega
 ·rw [aLu b h1] at h; omega
theorem aVd {b : Body} (h : Okb b) : 4096 ≤ aPo b ∧ aPo b ≤ 8388608 ∧ 4096 ≤ aOh b ∧ aOh b ≤ 8388608 := by
 have := h.r
 have := h.a
 unfold aPo aOh
 omega
structure Okx (a : Bx) : Prop where
 x0 : -2147483648 ≤ a.x0 ∧ a.x0 ≤ 2147483647
 y0 : -2147483648 ≤ a.y0 ∧ a.y0 ≤ 2147483647
 x1 : -2147483648 ≤ a.x1 ∧ a.x1 ≤ 2147483647
 y1 : -2147483648 ≤ a.y1 ∧ a.y1 ≤ 2147483647
theorem bFv {b : Body} (h : Okb b) : Okx (iR b) := by
 have h1 := aVd h
 have h2 := h.p
 constructor <;> simp only [iR] <;> omega
end Go.Bil

namespace Go.Bil
def cG (c : Int × Int) : List Value := [.int .i32 c.1, .int .i32 c.2]
def lR (x : Int) : Int := x.fdiv 4194304
theorem bBk (x : Int) : x.fdiv (2 ^ (min (22 : Int).toNat IntKind.i32.bits)) = lR x := rfl
theorem aEk (x : Int) : lR x = x / 4194304 := by unfold lR; exact Int.fdiv_eq_ediv_of_nonneg x (by decide)
theorem nT {x : Int} (h0 : -2147483648 ≤ x) (h1 : x ≤ 2147483647) : -512 ≤ lR x ∧ lR x ≤ 511 := by rw [aEk]; omega
theorem jF {x y : Int} (h : x ≤ y) : lR x ≤ lR y := by rw [aEk, aEk]; omega
def loC (a : Bx) : Int × Int := if gM a then (0, 0) else (lR a.x0, lR a.y0)
def hiC (a : Bx) : Int × Int := if gM a then (0, 0) else (lR a.x1, lR a.y1)
def nX (lo hi : Int × Int) : Nat := (hi.1 - lo.1 + 1).toNat
def nY (lo hi : Int × Int) : Nat := (hi.2 - lo.2 + 1).toNat
def zI (lo : Int × Int) (i j : Nat) : List (Int × Int) := (List.range i).map (fun (p : Nat) => (lo.1 + (p : Int), lo.2 + (j : Int)))
def mG (lo hi : Int × Int) (j : Nat) : List (Int × Int) := (List.range j).flatMap (fun q => zI lo (nX lo hi) q)
def uM (ok : Bool) (lo hi : Int × Int) : List (Int × Int) := if ok then mG lo hi (nY lo hi) else []
def fW (a : Bx) : List (Int × Int) := uM (decide (¬ gM a)) (loC a) (hiC a)
theorem aFx (lo : Int × Int) (i j : Nat) : (zI lo i j).length = i := by simp [zI]
theorem aNu (lo : Int × Int) (i j : Nat) : zI lo (i + 1) j = zI lo i j ++ [(lo.1 + (i : Int), lo.2 + (j : Int))] := by simp [zI, List.range_succ]
theorem xQ (lo hi : Int × Int) (j : Nat) : mG lo hi (j + 1) = mG lo hi j ++ zI lo (nX lo hi) j := by simp [mG, List.range_succ]
theorem uP (lo hi : Int × Int) : ∀ j, (mG lo hi j).length = j * nX lo hi
 | 0 => by simp [mG]
 | j + 1 => by rw [xQ, List.length_append, uP lo hi j, aFx, Nat.add_mul, Nat.one_mul]
theorem aUw {lo hi : Int × Int} {i j : Nat} (hx : nX lo hi ≤ 1024) (hj : j < 1024) (hi' : i < nX lo hi) : (mG lo hi j).length + i < 1048576 := by
 rw [uP]
 have : j * nX lo hi ≤ 1023 * 1024 := Nat.mul_le_mul (by omega) hx
 omega
theorem aUm {lo hi : Int × Int} {j : Nat} (hx : nX lo hi ≤ 1024) (hj : j ≤ 1024) : (mG lo hi j).length ≤ 1048576 := by
 rw [uP]
 exact Nat.mul_le_mul hj hx
theorem aQb {lo hi : Int × Int} {n : Nat} {c : Int × Int} : c ∈ mG lo hi n ↔ ∃ q p : Nat, q < n ∧ p < nX lo hi ∧ c = (lo.1 + (p : Int), lo.2 + (q : Int)) := by
 simp only [mG, zI, List.mem_flatMap, List.mem_range, List.mem_map]
 constructor
 ·rintro ⟨q, hq, p, hp, rfl⟩; exact ⟨q, p, hq, hp, rfl⟩
 ·rintro ⟨q, p, hq, hp, rfl⟩; exact ⟨q, hq, p, hp, rfl⟩
theorem yK {a : Bx} {c : Int × Int} : c ∈ fW a ↔ ¬ gM a ∧ lR a.x0 ≤ c.1 ∧ c.1 ≤ lR a.x1 ∧ lR a.y0 ≤ c.2 ∧ c.2 ≤ lR a.y1 := by
 unfold fW uM
 by_cases h : gM a
 ·simp [h]
 ·rw [if_pos (by simpa using h), aQb]
  simp only [loC, hiC, if_neg h, nX, nY]
  constructor
  ·rintro ⟨q, p, hq, hp, rfl⟩
   refine ⟨h, ?_⟩
   simp only
   omega
  ·rintro ⟨_, h1, h2, h3, h4⟩
   refine ⟨(c.2 - lR a.y0).toNat, (c.1 - lR a.x0).toNat, by omega, by omega, ?_⟩
   apply Prod.ext <;> simp only <;> omega
structure Okc (c : Int × Int) : Prop where
 x : -512 ≤ c.1 ∧ c.1 ≤ 511
 y : -512 ≤ c.2 ∧ c.2 ≤ 511
theorem aLe {a : Bx} (h : Okx a) : Okc (loC a) := by
 unfold loC
 split
 ·exact ⟨by decide, by decide⟩
 ·exact ⟨nT h.x0.1 h.x0.2, nT h.y0.1 h.y0.2⟩
theorem aLg {a : Bx} (h : Okx a) : Okc (hiC a) := by
 unfold hiC
 split
 ·exact ⟨by decide, by decide⟩
 ·exact ⟨nT h.x1.1 h.x1.2, nT h.y1.1 h.y1.2⟩
theorem bBl {lo hi : Int × Int} (h1 : Okc lo) (h2 : Okc hi) : nX lo hi ≤ 1024 := by
 have := h1.x; have := h2.x
 unfold nX
 omega
theorem bAx {lo hi : Int × Int} (h1 : Okc lo) (h2 : Okc hi) : nY lo hi ≤ 1024 := by
 have := h1.y; have := h2.y
 unfold nY
 omega
theorem aKc {a : Bx} (h : Okx a) : (fW a).length ≤ 1048576 := by
 unfold fW uM
 split
 ·exact aUm (bBl (aLe h) (aLg h)) (bAx (aLe h) (aLg h))
 ·simp
theorem aSx {a b : Bx} (h : ovl a b) : ∃ c, c ∈ fW a ∧ c ∈ fW b := by
 obtain ⟨⟨h1, h2⟩, ⟨h3, h4⟩, h5, h6, h7, h8⟩ := h
 refine ⟨(lR (max a.x0 b.x0), lR (max a.y0 b.y0)), yK.2 ⟨by unfold gM; omega, ?_⟩, yK.2 ⟨by unfold gM; omega, ?_⟩⟩
 ·exact ⟨jF (by omega), jF (by omega), jF (by omega), jF (by omega)⟩
 ·exact ⟨jF (by omega), jF (by omega), jF (by omega), jF (by omega)⟩
def qF (c : Int × Int) : Int :=
 IntKind.u32.wrap ((BitVec.ofInt 32 (IntKind.u32.wrap ((BitVec.ofInt 32 (IntKind.u32.wrap (IntKind.u32.wrap c.1 * 73856093)) ^^^ BitVec.ofInt 32 (IntKind.u32.wrap (IntKind.u32.wrap c.2 * 19349663))).toNat)) &&& BitVec.ofInt 32 1023).toNat)
def dI (c : Int × Int) : Nat := (qF c).toNat
theorem kC (c : Int × Int) : 0 ≤ qF c ∧ qF c < 1024 := by
 unfold qF
 generalize BitVec.ofInt 32 (IntKind.u32.wrap _) = a
 have h : (a &&& BitVec.ofInt 32 1023).toNat ≤ 1023 := by
  rw [BitVec.toNat_and]
  exact Nat.le_trans Nat.and_le_right (by decide)
 rw [aCm _ (by omega) (by omega)]
 omega
theorem jD (c : Int × Int) : dI c < 1024 := by have := kC c; unfold dI; omega
theorem aPg (c : Int × Int) : qF c = (dI c : Int) := by have := kC c; unfold dI; omega
end Go.Bil

namespace Go.Bil
def iP (n : Int) : List Int := [n / 16777216 % 256, n / 65536 % 256, n / 256 % 256, n % 256]
def aSj (b : Body) : List Int := [b.key, b.radius, b.ax, b.ay, b.mass, b.bounce, b.px, b.py, b.vx, b.vy]
def tT (b : Body) : List Int := (aSj b).flatMap iP
def pG : List Int := [66, 73, 76, 49]
def vZ (v : List Body) : List Int := pG ++ iP (v.length : Int) ++ v.flatMap tT
def eH (l : List Int) (a : Nat) : Int := ((l.getD a 0 * 256 + l.getD (a + 1) 0) * 256 + l.getD (a + 2) 0) * 256 + l.getD (a + 3) 0
def nO (n : Int) : Int := if 2147483648 ≤ n then n - 4294967296 else n
def pN (l : List Int) (a : Nat) : Body := ⟨eH l a, nO (eH l (a + 4)), nO (eH l (a + 8)), nO (eH l (a + 12)), nO (eH l (a + 16)), nO (eH l (a + 20)), nO (eH l (a + 24)), nO (eH l (a + 28)), nO (eH l (a + 32)), nO (eH l (a + 36))⟩
abbrev aCk (l : List Int) : Prop := 8 ≤ l.length ∧ l.take 4 = pG ∧ (l.length : Int) = 8 + 40 * eH l 4
def nK (l : List Int) (n : Nat) : List Body := (List.range n).map (fun i => pN l (8 + 40 * i))
def lE (l : List Int) : List Body × Int := if ¬ aCk l then ([], 13) else if gX (nK l (eH l 4).toNat) ≠ 0 then ([], gX (nK l (eH l 4).toNat)) else (nK l (eH l 4).toNat, 0)
abbrev lP (l : List Int) : Prop := ∀ x ∈ l, 0 ≤ x ∧ x ≤ 255
theorem aOd (n : Int) : (iP n).length = 4 := rfl
theorem aSg (b : Body) : (tT b).length = 40 := rfl
theorem aSq (v : List Body) : (v.flatMap tT).length = 40 * v.length := by
 induction v with
 | nil => rfl
 | cons b v ih => rw [List.flatMap_cons, List.length_append, ih, aSg, List.length_cons]; omega
theorem aTt (v : List Body) : (vZ v).length = 8 + 40 * v.length := by
 unfold vZ
 rw [List.length_append, List.length_append, aSq, aOd]
 rfl
theorem uL (n : Int) : iP (n % 4294967296) = iP n := by
 unfold iP
 have h1 : n % 4294967296 / 16777216 % 256 = n / 16777216 % 256 := by omega
 have h2 : n % 4294967296 / 65536 % 256 = n / 65536 % 256 := by omega
 have h3 : n % 4294967296 / 256 % 256 = n / 256 % 256 := by omega
 have h4 : n % 4294967296 % 256 = n % 256 := by omega
 rw [h1, h2, h3, h4]
theorem aNp (n : Int) : iP (nO n) = iP n := by
 unfold nO
 split
 ·rw [← uL (n - 4294967296), ← uL n]
  congr 1
  omega
 ·rfl
theorem oR {l : List Int} (hl : lP l) {a : Nat} (h : a + 4 ≤ l.length) : 0 ≤ eH l a ∧ eH l a ≤ 4294967295 ∧ iP (eH l a) = (l.drop a).take 4 := by
 have g (j : Nat) (hj : j < l.length) : l[j]? = some (l.getD j 0) ∧ 0 ≤ l.getD j 0 ∧ l.getD j 0 ≤ 255 := by
  rw [List.getD_eq_getElem?_getD, List.getElem?_eq_getElem hj]
  have hb := hl _ (List.getElem_mem hj)
  exact ⟨rfl, hb.1, hb.2⟩
 obtain ⟨g0, g1, g2⟩ := g a (by omega)
 obtain ⟨g3, g4, g5⟩ := g (a + 1) (by omega)
 obtain ⟨g6, g7, g8⟩ := g (a + 2) (by omega)
 obtain ⟨g9, ga, gb⟩ := g (a + 3) (by omega)
 have e : (l.drop a).take 4 = [l.getD a 0, l.getD (a + 1) 0, l.getD (a + 2) 0, l.getD (a + 3) 0] := by
  have hlen : ((l.drop a).take 4).length = 4 := by rw [List.length_take, List.length_drop]; omega
  refine List.ext_getElem? fun j => ?_
  rcases (show j = 0 ∨ j = 1 ∨ j = 2 ∨ j = 3 ∨ 4 ≤ j by omega) with rfl | rfl | rfl | rfl | hj
  ·rw [List.getElem?_take_of_lt (by omega), List.getElem?_drop]; simpa using g0
  ·rw [List.getElem?_take_of_lt (by omega), List.getElem?_drop]; simpa using g3
  ·rw [List.getElem?_take_of_lt (by omega), List.getElem?_drop]; simpa using g6
  ·rw [List.getElem?_take_of_lt (by omega), List.getElem?_drop]; simpa using g9
  ·rw [List.getElem?_eq_none (by omega), List.getElem?_eq_none (by simpa using hj)]
 rw [e]
 unfold eH iP
 generalize l.getD a 0 = p at *
 generalize l.getD (a + 1) 0 = q at *
 generalize l.getD (a + 2) 0 = r at *
 generalize l.getD (a + 3) 0 = s at *
 refine ⟨by omega, by omega, ?_⟩
 have h1 : (((p * 256 + q) * 256 + r) * 256 + s) / 16777216 % 256 = p := by omega
 have h2 : (((p * 256 + q) * 256 + r) * 256 + s) / 65536 % 256 = q := by omega
 have h3 : (((p * 256 + q) * 256 + r) * 256 + s) / 256 % 256 = r := by omega
 have h4 : (((p * 256 + q) * 256 + r) * 256 + s) % 256 = s := by omega
 rw [h1, h2, h3, h4]
theorem aJn (l : List Int) (k : Nat) : ∀ n, (List.range n).flatMap (fun i => (l.drop (k * i)).take k) = l.take (k * n)
 | 0 => by simp
 | n + 1 => by
  rw [List.range_succ, List.flatMap_append, aJn l k n, List.flatMap_cons, List.flatMap_nil, List.append_nil, Nat.mul_succ, List.take_add]
theorem kV {n : Int} (h : 0 ≤ n ∧ n ≤ 4294967295) : -2147483648 ≤ nO n ∧ nO n ≤ 2147483647 := by unfold nO; split <;> omega
theorem aQg {l : List Int} (hl : lP l) {a : Nat} (h : a + 40 ≤ l.length) : InB (pN l a) := by
 have f (k : Nat) (hk : k ≤ 36) : 0 ≤ eH l (a + k) ∧ eH l (a + k) ≤ 4294967295 := by
  have := oR hl (a := a + k) (by omega)
  exact ⟨this.1, this.2.1⟩
 exact ⟨f 0 (by omega), kV (f 4 (by omega)), kV (f 8 (by omega)), kV (f 12 (by omega)), kV (f 16 (by omega)), kV (f 20 (by omega)), kV (f 24 (by omega)), kV (f 28 (by omega)), kV (f 32 (by omega)), kV (f 36 (by omega))⟩
theorem aXr {l : List Int} (hl : lP l) {a : Nat} (h : a + 40 ≤ l.length) : tT (pN l a) = (l.drop a).take 40 := by
 have f (k : Nat) (hk : k ≤ 36) : iP (eH l (a + k)) = ((l.drop a).drop k).take 4 := by rw [List.drop_drop]; exact (oR hl (a := a + k) (by omega)).2.2
 have e := aJn (l.drop a) 4 10
 rw [← e]
 unfold tT aSj pN
 simp only [List.flatMap_cons, List.flatMap_nil, aNp]
 have f0 := f 0 (by omega)
 rw [Nat.add_zero] at f0
 rw [f0, f 4 (by omega), f 8 (by omega), f 12 (by omega), f 16 (by omega), f 20 (by omega), f 24 (by omega), f 28 (by omega), f 32 (by omega), f 36 (by omega)]
 rfl
theorem zG (l : List Int) (n : Nat) : (nK l n).length = n := by unfold nK; rw [List.length_map, List.length_range]
theorem aAc {α β : Type} {l : List α} {f g : α → List β} (h : ∀ x ∈ l, f x = g x) : l.flatMap f = l.flatMap g := by
 induction l with
 | nil => rfl
 | cons x l ih => rw [List.flatMap_cons, List.flatMap_cons, h x (by simp), ih fun y hy => h y (by simp [hy])]
theorem aWc {l : List Int} (hl : lP l) {n : Nat} (h : l.length = 8 + 40 * n) : (nK l n).flatMap tT = l.drop 8 := by
 unfold nK
 rw [List.flatMap_map, aAc (g := fun i => ((l.drop 8).drop (40 * i)).take 40) (fun i hi => by
  have := List.mem_range.1 hi
  rw [List.drop_drop]
  exact aXr hl (by omega)), aJn, List.take_of_length_le (by rw [List.length_drop]; omega)]
structure DecOk (l : List Int) (v : List Body) : Prop where
 n : l.length = 8 + 40 * v.length
 e : vZ v = l
 inb : ∀ b ∈ v, InB b
 c : gX v = 0
theorem bAb {l : List Int} (hl : lP l) (h : (lE l).2 = 0) : DecOk l (lE l).1 := by
 unfold lE at h ⊢
 by_cases hf : aCk l
 ·rw [if_neg (Decidable.not_not.2 hf)] at h ⊢
  by_cases hc : gX (nK l (eH l 4).toNat) = 0
  ·rw [if_neg (by omega)]
   obtain ⟨h8, hm, hn⟩ := hf
   have hr := oR hl (a := 4) (by omega)
   have hlen : l.length = 8 + 40 * (eH l 4).toNat := by omega
   show DecOk l (nK l (eH l 4).toNat)
   refine ⟨by rw [zG]; exact hlen, ?_, ?_, hc⟩
   ·unfold vZ
    rw [aWc hl hlen, zG, show (((eH l 4).toNat : Nat) : Int) = eH l 4 by omega, hr.2.2, ← hm, ← List.take_add, List.take_append_drop]
   ·intro b hb
    unfold nK at hb
    obtain ⟨i, hi, rfl⟩ := List.mem_map.1 hb
    have := List.mem_range.1 hi
    exact aQg hl (by omega)
  ·rw [if_pos hc] at h
   exact absurd h hc
 ·rw [if_pos hf] at h
  cases h
def uZ (b : Body) : List Int := [b.key, b.radius % 4294967296, b.ax % 4294967296, b.ay % 4294967296, b.mass % 4294967296, b.bounce % 4294967296, b.px % 4294967296, b.py % 4294967296, b.vx % 4294967296, b.vy % 4294967296]
theorem aOe (b : Body) : (uZ b).flatMap iP = tT b := by
 unfold uZ tT aSj
 simp only [List.flatMap_cons, List.flatMap_nil, uL]
theorem aQc {b : Body} (h : InB b) : ∀ x ∈ uZ b, 0 ≤ x ∧ x ≤ 4294967295 := by
 obtain ⟨h0, _⟩ := h
 intro x hx
 simp only [uZ, List.mem_cons, List.not_mem_nil, or_false] at hx
 rcases hx with rfl | rfl | rfl | rfl | rfl | rfl | rfl | rfl | rfl | rfl <;> omega
theorem aQp {L : List Int} {j : Nat} {x : Int} (h : L[j]? = some x) : (L.take (j + 1)).flatMap iP = (L.take j).flatMap iP ++ iP x := by
 rw [cP h, List.flatMap_append, List.flatMap_cons, List.flatMap_nil, List.append_nil]
theorem aOf {v : List Body} {j : Nat} {x : Body} (h : v[j]? = some x) : (v.take (j + 1)).flatMap tT = (v.take j).flatMap tT ++ tT x := by
 rw [cP h, List.flatMap_append, List.flatMap_cons, List.flatMap_nil, List.append_nil]
theorem hJ {l : List Int} {a m : Nat} (h : 4 ≤ m) : eH ((l.drop a).take m) 0 = eH l a := by
 have g (j : Nat) (hj : j < m) : ((l.drop a).take m).getD j 0 = l.getD (a + j) 0 := by
  rw [List.getD_eq_getElem?_getD, List.getD_eq_getElem?_getD, List.getElem?_take_of_lt hj, List.getElem?_drop]
 unfold eH
 rw [g 0 (by omega), g (0 + 1) (by omega), g (0 + 2) (by omega), g (0 + 3) (by omega)]
 rfl
theorem aNn (l : List Int) (k : Nat) : nK l (k + 1) = nK l k ++ [pN l (8 + 40 * k)] := by unfold nK; rw [List.range_succ, List.map_append]; rfl
theorem lP.sub {l : List Int} (h : lP l) (a m : Nat) : lP ((l.drop a).take m) := fun x hx => h x (List.mem_of_mem_drop (List.mem_of_mem_take hx))
end Go.Bil
namespace Go.Bil
theorem aDd {l : List Int} (h : ¬ aCk l) : lE l = ([], 13) := by unfold lE; rw [if_pos h]
theorem aZc {l : List Int} {N : Nat} (h : aCk l) (hN : eH l 4 = (N : Int)) (hc : gX (nK l N) ≠ 0) : lE l = ([], gX (nK l N)) := by
 unfold lE; rw [if_neg (Decidable.not_not.2 h), hN, Int.toNat_natCast, if_pos hc]
theorem aWd {l : List Int} {N : Nat} (h : aCk l) (hN : eH l 4 = (N : Int)) (hc : gX (nK l N) = 0) : lE l = (nK l N, 0) := by
 unfold lE; rw [if_neg (Decidable.not_not.2 h), hN, Int.toNat_natCast, if_neg (by omega)]
theorem bGq {l : List Int} (hl : lP l) {a : Nat} (h : a + 40 ≤ l.length) : ∀ x ∈ ([eH l a, eH l (a + 4), eH l (a + 8), eH l (a + 12), eH l (a + 16), eH l (a + 20), eH l (a + 24), eH l (a + 28), eH l (a + 32), eH l (a + 36)] : List Int), 0 ≤ x ∧ x ≤ 4294967295 := by
 have f (k : Nat) (hk : k ≤ 36) : 0 ≤ eH l (a + k) ∧ eH l (a + k) ≤ 4294967295 := by
  have := oR hl (a := a + k) (by omega)
  exact ⟨this.1, this.2.1⟩
 intro x hx
 simp only [List.mem_cons, List.not_mem_nil, or_false] at hx
 rcases hx with rfl | rfl | rfl | rfl | rfl | rfl | rfl | rfl | rfl | rfl
 ·exact f 0 (by omega)
 ·exact f 4 (by omega)
 ·exact f 8 (by omega)
 ·exact f 12 (by omega)
 ·exact f 16 (by omega)
 ·exact f 20 (by omega)
 ·exact f 24 (by omega)
 ·exact f 28 (by omega)
 ·exact f 32 (by omega)
 ·exact f 36 (by omega)
theorem vL : pG = ([66, 73, 76, 49] : List UInt8).map (fun y => (y.toNat : Int)) := by decide
end Go.Bil
