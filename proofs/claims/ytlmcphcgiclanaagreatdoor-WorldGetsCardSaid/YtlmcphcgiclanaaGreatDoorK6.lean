/- Part of the proof of the laws of this seat: Md4, Md5, Md7, Md8, MdB, MdC, Mf1. No conditions. -/
import Derived.Test.YtlmcphcgiclanaaGreatDoorK4
import Derived.Test.YtlmcphcgiclanaaGreatDoorK3
set_option linter.unusedVariables false
set_option linter.unusedSimpArgs false
set_option linter.unnecessarySimpa false
namespace Go.Bil
def bS (s : List Body) : Prop := s.Pairwise (fun a b => a.key < b.key)
def nH (k : Int) (s : List Body) : List Body := s.filter (fun x => decide (x.key ≠ k))
def oO (b : Body) : Bool → List Body → List Body
 | true, s => nH b.key s
 | false, [] => [b]
 | false, x :: l => if b.key ≤ x.key then b :: nH b.key (x :: l) else x :: oO b false l
def bAd (b : Body) (r : List Body × Bool) : List Body := if r.2 then r.1 else r.1 ++ [b]
theorem nD (b : Body) : ∀ (s acc : List Body) (d : Bool), bAd b (s.foldl (lP b) (acc, d)) = acc ++ oO b d s
 | [], acc, true => by simp [oO, nH, bAd]
 | [], acc, false => by simp [oO, bAd]
 | x :: l, acc, true => by
  have ih := nD b l (if x.key ≠ b.key then acc ++ [x] else acc) true
  rw [List.foldl_cons]
  have e : lP b (acc, true) x = (if x.key ≠ b.key then acc ++ [x] else acc, true) := by unfold lP; by_cases h : x.key = b.key <;> simp [h]
  rw [e, ih]
  by_cases h : x.key = b.key <;> simp [oO, nH, h]
 | x :: l, acc, false => by
  rw [List.foldl_cons]
  by_cases hb : b.key ≤ x.key
  ·have ih := nD b l (if x.key ≠ b.key then acc ++ [b] ++ [x] else acc ++ [b]) true
   have e : lP b (acc, false) x = (if x.key ≠ b.key then acc ++ [b] ++ [x] else acc ++ [b], true) := by unfold lP; by_cases h : x.key = b.key <;> simp [h, hb]
   rw [e, ih]
   by_cases h : x.key = b.key <;> simp [oO, nH, h, hb]
  ·have hne : x.key ≠ b.key := by omega
   have ih := nD b l (acc ++ [x]) false
   have e : lP b (acc, false) x = (acc ++ [x], false) := by unfold lP; simp [hb, hne]
   rw [e, ih]
   simp [oO, hb]
theorem aKd (s : List Body) (b : Body) (g : Bool) : aDj s b g = oO b g s := by
 have := nD b s [] g
 rw [List.nil_append] at this
 exact this
theorem sZ (b : Body) : ∀ s : List Body, (oO b false s).Perm (b :: nH b.key s)
 | [] => by simp [oO, nH]
 | x :: l => by
  unfold oO
  split
  ·exact List.Perm.refl _
  ·rename_i h
   have hne : x.key ≠ b.key := by omega
   have e : nH b.key (x :: l) = x :: nH b.key l := by simp [nH, hne]
   rw [e]
   exact ((sZ b l).cons x).trans (List.Perm.swap b x _)
theorem xE {k : Int} {s : List Body} {x : Body} : x ∈ nH k s ↔ x ∈ s ∧ x.key ≠ k := by simp [nH]
theorem bS.cut {s : List Body} (h : bS s) (k : Int) : bS (nH k s) := List.Pairwise.sublist List.filter_sublist h
theorem bS.put {b : Body} : ∀ {s : List Body}, bS s → bS (oO b false s)
 | [], _ => by simp [oO, bS]
 | x :: l, h => by
  unfold oO
  have hx : ∀ y ∈ l, x.key < y.key := (List.pairwise_cons.1 h).1
  have hl : bS l := (List.pairwise_cons.1 h).2
  split
  ·rename_i hb
   refine List.pairwise_cons.2 ⟨fun y hy => ?_, h.cut _⟩
   obtain ⟨h1, h2⟩ := xE.1 hy
   rcases List.mem_cons.1 h1 with rfl | h1
   ·omega
   ·have := hx y h1; omega
  ·rename_i hb
   refine List.pairwise_cons.2 ⟨fun y hy => ?_, bS.put hl⟩
   have := (sZ b l).mem_iff.1 hy
   rcases List.mem_cons.1 this with rfl | h1
   ·omega
   ·exact hx y (xE.1 h1).1
def wH (s : List Body) (b : Body) : List Body × Int :=
 if check b ≠ 0 then (s, check b) else if 0 ≤ bZ b.key s then (s, 10) else if 4096 ≤ s.length then (s, 12) else (aDj s b false, 0)
def pM (k : Int) : Body := ⟨k, 0, 0, 0, 0, 0, 0, 0, 0, 0⟩
def jO (s : List Body) (k : Int) : List Body × Int := if bZ k s < 0 then (s, 11) else (aDj s (pM k) true, 0)
def aTh (s : List Body) (b : Body) : List Body × Int :=
 if check b ≠ 0 then (s, check b) else if bZ b.key s < 0 then (s, 11) else (aDj s b false, 0)
structure Rel (m s : List Body) : Prop where
 perm : s.Perm m
 sorted : bS s
theorem Rel.nil : Rel [] [] := ⟨List.Perm.refl _, by simp [bS]⟩
theorem bS.unique {s t : List Body} (h : bS s) (h' : bS t) (p : s.Perm t) : s = t :=
 List.Perm.eq_of_pairwise (le := fun (a b : Body) => a.key < b.key) (fun a b _ _ h1 h2 => by omega) h h' p
theorem bS.keys {s : List Body} (h : bS s) : gG s := by
 unfold gG List.Nodup
 rw [List.pairwise_map]
 exact h.imp (fun h => by omega)
theorem Rel.keys {m s : List Body} (R : Rel m s) : gG m := R.sorted.keys.perm R.perm.symm
theorem Rel.find {m s : List Body} (R : Rel m s) (k : Int) : bZ k s < 0 ↔ bZ k m < 0 := by
 rw [jL, jL]
 exact ⟨fun h b hb => h b (R.perm.mem_iff.2 hb), fun h b hb => h b (R.perm.mem_iff.1 hb)⟩
theorem zV {k : Int} {s : List Body} (h : bZ k s < 0) : nH k s = s := List.filter_eq_self.2 fun x hx => by simpa using jL.1 h x hx
theorem Rel.put {m s : List Body} (R : Rel m s) (b : Body) {m' : List Body} (h : m'.Perm (b :: nH b.key m)) : Rel m' (aDj s b false) := by
 rw [aKd]
 exact ⟨((sZ b s).trans ((R.perm.filter _).cons b)).trans h.symm, R.sorted.put⟩
theorem Rel.add {m s : List Body} (R : Rel m s) (b : Body) : Rel (kD m b).1 (wH s b).1 ∧ (wH s b).2 = (kD m b).2 := by
 unfold kD wH
 have hf := R.find b.key
 have hl := R.perm.length_eq
 by_cases h1 : check b ≠ 0
 ·rw [if_pos h1, if_pos h1]; exact ⟨R, rfl⟩
 ·rw [if_neg h1, if_neg h1]
  by_cases h2 : 0 ≤ bZ b.key m
  ·have h2' : 0 ≤ bZ b.key s := by omega
   rw [if_pos h2, if_pos h2']; exact ⟨R, rfl⟩
  ·have h2' : ¬ 0 ≤ bZ b.key s := by omega
   rw [if_neg h2, if_neg h2', hl]
   by_cases h3 : 4096 ≤ m.length
   ·rw [if_pos h3, if_pos h3]; exact ⟨R, rfl⟩
   ·rw [if_neg h3, if_neg h3]
    refine ⟨R.put b ?_, rfl⟩
    rw [zV (by omega)]
    exact List.perm_append_singleton b m
theorem qS {m : List Body} (h : gG m) {i : Nat} {b : Body} (hi : m[i]? = some b) : m.eraseIdx i = nH b.key m := by
 have e : m = m.take i ++ b :: m.drop (i + 1) := by
  have hlt := (List.getElem?_eq_some_iff.1 hi).1
  have hb : m[i] = b := (List.getElem?_eq_some_iff.1 hi).2
  rw [← hb, ← List.drop_eq_getElem_cons hlt, List.take_append_drop]
 have hne := aAj h hi
 rw [List.eraseIdx_eq_take_drop_succ] at hne ⊢
 conv => rhs; rw [e]
 unfold nH
 rw [List.filter_append, List.filter_cons]
 simp only [ne_eq, not_true_eq_false, decide_false, Bool.false_eq_true, if_false]
 rw [List.filter_eq_self.2 (fun x hx => by simpa using hne x (List.mem_append_left _ hx)), List.filter_eq_self.2 (fun x hx => by simpa using hne x (List.mem_append_right _ hx))]
theorem Rel.remove {m s : List Body} (R : Rel m s) (k : Int) : Rel (iK m k).1 (jO s k).1 ∧ (jO s k).2 = (iK m k).2 := by
 unfold iK jO
 have hf := R.find k
 by_cases h : bZ k m < 0
 ·rw [if_pos h, if_pos (hf.2 h)]; exact ⟨R, rfl⟩
 ·rw [if_neg h, if_neg (fun h' => h (hf.1 h'))]
  refine ⟨?_, rfl⟩
  rcases cW k m with ⟨h1, _⟩ | ⟨i, b, h1, h2, h3⟩
  ·omega
  ·rw [h3, Int.toNat_natCast, aKd]
   have hlt := (List.getElem?_eq_some_iff.1 h1).1
   have hk : (pM k).key = b.key := h2.symm
   have he : oO (pM k) true s = nH b.key s := by unfold oO; rw [hk]
   refine ⟨?_, by rw [he]; exact R.sorted.cut _⟩
   show (oO (pM k) true s).Perm _
   rw [he]
   exact (R.perm.filter _).trans ((List.Perm.of_eq (qS R.keys h1).symm).trans (mJ hlt).symm)
theorem aSn {m : List Body} {i : Nat} {x : Body} (hi : i < m.length) : (m.set i x).Perm (x :: m.eraseIdx i) := by
 rw [List.set_eq_take_append_cons_drop, if_pos hi, List.eraseIdx_eq_take_drop_succ]
 exact List.perm_middle
theorem Rel.set {m s : List Body} (R : Rel m s) (b : Body) : Rel (qK m b).1 (aTh s b).1 ∧ (aTh s b).2 = (qK m b).2 := by
 unfold qK aTh
 have hf := R.find b.key
 by_cases h1 : check b ≠ 0
 ·rw [if_pos h1, if_pos h1]; exact ⟨R, rfl⟩
 ·rw [if_neg h1, if_neg h1]
  by_cases h : bZ b.key m < 0
  ·rw [if_pos h, if_pos (hf.2 h)]; exact ⟨R, rfl⟩
  ·rw [if_neg h, if_neg (fun h' => h (hf.1 h'))]
   refine ⟨?_, rfl⟩
   rcases cW b.key m with ⟨h1, _⟩ | ⟨i, c, h1, h2, h3⟩
   ·omega
   ·rw [h3, Int.toNat_natCast]
    have hlt := (List.getElem?_eq_some_iff.1 h1).1
    refine R.put b ((aSn hlt).trans ?_)
    rw [qS R.keys h1, h2]
theorem Rel.get {m s : List Body} (R : Rel m s) (k : Int) : (bZ k s < 0 ∧ wE m k = (pM 0, 11)) ∨ ∃ (i : Nat) (b : Body), bZ k s = (i : Int) ∧ s[i]? = some b ∧ wE m k = (b, 0) := by
 rcases cW k s with ⟨h1, h2⟩ | ⟨i, b, h1, h2, h3⟩
 ·have hm : bZ k m < 0 := (R.find k).1 (by omega)
  refine .inl ⟨by omega, ?_⟩
  unfold wE
  rw [if_pos hm]
  rfl
 ·refine .inr ⟨i, b, h3, h1, ?_⟩
  have hb : b ∈ m := R.perm.mem_iff.1 (List.mem_of_getElem? h1)
  obtain ⟨j, hj⟩ := List.getElem?_of_mem hb
  have := oJ R.keys hj
  rw [h2] at this
  exact tO this hj
theorem rF {a b : Int} : kU a b < 0 ↔ a < b := by unfold kU; (repeat' split) <;> omega
def aIr (b : Body) : List Body → List Body
 | [] => [b]
 | x :: l => if b.key ≤ x.key then b :: x :: l else x :: aIr b l
def uA (m : List Body) : List Body := m.foldr aIr []
theorem sX (b : Body) : ∀ l : List Body, (aIr b l).Perm (b :: l)
 | [] => List.Perm.refl _
 | x :: l => by
  unfold aIr
  split
  ·exact List.Perm.refl _
  ·exact ((sX b l).cons x).trans (List.Perm.swap b x l)
theorem kT : ∀ m : List Body, (uA m).Perm m
 | [] => List.Perm.refl _
 | b :: m => (sX b (uA m)).trans ((kT m).cons b)
def Up (s : List Body) : Prop := s.Pairwise (fun a b => a.key ≤ b.key)
theorem aKc (b : Body) : ∀ {l : List Body}, Up l → Up (aIr b l)
 | [], _ => by simp [aIr, Up]
 | x :: l, h => by
  unfold aIr
  have hx : ∀ y ∈ l, x.key ≤ y.key := (List.pairwise_cons.1 h).1
  split
  ·rename_i hb
   refine List.pairwise_cons.2 ⟨fun y hy => ?_, h⟩
   rcases List.mem_cons.1 hy with rfl | hy
   ·exact hb
   ·have := hx y hy; omega
  ·refine List.pairwise_cons.2 ⟨fun y hy => ?_, aKc b (List.pairwise_cons.1 h).2⟩
   have := (sX b l).mem_iff.1 hy
   rcases List.mem_cons.1 this with rfl | h1
   ·omega
   ·exact hx y h1
theorem yR : ∀ m : List Body, Up (uA m)
 | [] => by simp [uA, Up]
 | b :: m => aKc b (yR m)
theorem tB {s : List Body} (h : Up s) (hk : gG s) : bS s := by
 unfold Up at h
 unfold gG List.Nodup at hk
 rw [List.pairwise_map] at hk
 exact (List.Pairwise.and h hk).imp (fun ⟨h1, h2⟩ => by omega)
theorem aOo {s t : List Body} (h : Up s) (h' : Up t) (p : s.Perm t) (hk : gG s) : s = t := (tB h hk).unique (tB h' (hk.perm p.symm)) p
theorem aMe {m : List Body} (hk : gG m) : Rel m (uA m) := ⟨kT m, tB (yR m) (hk.perm (kT m))⟩
theorem Rel.eq {m s : List Body} (R : Rel m s) : uA m = s := (aMe R.keys).sorted.unique R.sorted ((kT m).trans R.perm.symm)
end Go.Bil
namespace Go.Bil
structure InB (b : Body) : Prop where
 key : 0 ≤ b.key ∧ b.key ≤ 4294967295
 radius : -2147483648 ≤ b.radius ∧ b.radius ≤ 2147483647
 ax : -2147483648 ≤ b.ax ∧ b.ax ≤ 2147483647
 ay : -2147483648 ≤ b.ay ∧ b.ay ≤ 2147483647
 mass : -2147483648 ≤ b.mass ∧ b.mass ≤ 2147483647
 bounce : -2147483648 ≤ b.bounce ∧ b.bounce ≤ 2147483647
 px : -2147483648 ≤ b.px ∧ b.px ≤ 2147483647
 py : -2147483648 ≤ b.py ∧ b.py ≤ 2147483647
 vx : -2147483648 ≤ b.vx ∧ b.vx ≤ 2147483647
 vy : -2147483648 ≤ b.vy ∧ b.vy ≤ 2147483647
theorem aZz (l : List Value) (h : jW [.u32, .i32, .i32, .i32, .i32, .i32, .i32, .i32, .i32, .i32] l) : ∃ b, l = aF b ∧ InB b := by
 obtain ⟨z0, l0, rfl, w0, h0⟩ := eC h
 obtain ⟨z1, l1, rfl, w1, h1⟩ := eC h0
 obtain ⟨z2, l2, rfl, w2, h2⟩ := eC h1
 obtain ⟨z3, l3, rfl, w3, h3⟩ := eC h2
 obtain ⟨z4, l4, rfl, w4, h4⟩ := eC h3
 obtain ⟨z5, l5, rfl, w5, h5⟩ := eC h4
 obtain ⟨z6, l6, rfl, w6, h6⟩ := eC h5
 obtain ⟨z7, l7, rfl, w7, h7⟩ := eC h6
 obtain ⟨z8, l8, rfl, w8, h8⟩ := eC h7
 obtain ⟨z9, l9, rfl, w9, h9⟩ := eC h8
 obtain rfl := oI h9
 exact ⟨⟨z0, z1, z2, z3, z4, z5, z6, z7, z8, z9⟩, rfl, ⟨w0, w1, w2, w3, w4, w5, w6, w7, w8, w9⟩⟩
end Go.Bil

namespace Go.Bil
structure StV where
 A : Option Addr
 n : Nat
 c : Nat
 p : Option Nat
 er : dL
 em : dL
def zW (l : List Body) : List Body := l.foldl (fun m b => (kD m b).1) []
theorem wR {l : List Body} {k : Nat} {x : Body} (h : l[k]? = some x) : zW (l.take (k + 1)) = (kD (zW (l.take k)) x).1 := by
 unfold zW
 rw [cT h, List.foldl_append]
 rfl
def tV (l : List Body) : List Body := l.filter (fun b => decide (check b = 0))
theorem aRg {m : List Body} {x : Body} (hf : ∀ b ∈ m, b.key ≠ x.key) (hl : m.length < 4096) : kD (tV m) x = (tV (m ++ [x]), check x) := by
 have hle : (tV m).length ≤ m.length := List.length_filter_le _ _
 unfold kD
 by_cases h : check x = 0
 ·rw [if_neg (by omega), if_neg (by
   have : bZ x.key (tV m) < 0 := jL.2 fun b hb => hf b (List.mem_filter.1 hb).1
   omega), if_neg (by omega), h]
  simp [tV, List.filter_append, h]
 ·rw [if_pos h]
  simp [tV, List.filter_append, h]
theorem aFf {l : List Body} (h : gG l) {k : Nat} {x : Body} (hx : l[k]? = some x) : ∀ b ∈ l.take k, b.key ≠ x.key := by
 intro b hb e
 obtain ⟨j, hj⟩ := List.getElem?_of_mem hb
 rw [List.getElem?_take] at hj
 split at hj
 ·rename_i hlt
  have := h.inj hj hx e
  omega
 ·cases hj
theorem xL {l : List Body} (h : gG l) (hl : l.length ≤ 4096) : ∀ k, k ≤ l.length → zW (l.take k) = tV (l.take k)
 | 0, _ => by simp [zW, tV]
 | k + 1, hk => by
  obtain ⟨x, hx⟩ := cL (xs := l) (k := k) rfl (by omega)
  rw [wR hx, xL h hl k (by omega), aRg (aFf h hx) (by rw [List.length_take]; omega), cT hx]
theorem aDr {m : List Body} (hk : gG m) (k : Int) : (iK m k).1.Perm (nH k m) := by
 unfold iK
 by_cases h : bZ k m < 0
 ·rw [if_pos h, zV h]
 ·rw [if_neg h]
  rcases cW k m with ⟨h1, _⟩ | ⟨i, b, h1, h2, h3⟩
  ·omega
  ·rw [h3, Int.toNat_natCast]
   have hlt := (List.getElem?_eq_some_iff.1 h1).1
   have := (mJ hlt).trans (List.Perm.of_eq (qS hk h1))
   rwa [h2] at this
end Go.Bil
namespace Go.Bil
structure StepI where
 kind : Int
 body : Body
instance : Inhabited StepI := ⟨⟨0, pM 0⟩⟩
end Go.Bil

namespace Go.Bil
def jA : List Body → Int
 | [] => 0
 | b :: l => if check b ≠ 0 then check b else jA l
def nQ (xs : List Body) : Int := if 4096 < xs.length then 12 else jA xs
theorem lV : ∀ {xs : List Body}, (∀ (j : Nat) (c : Body), xs[j]? = some c → check c = 0) → jA xs = 0
 | [], _ => rfl
 | b :: l, h => by
  unfold jA
  rw [if_neg (by have := h 0 b (by simp); omega)]
  exact lV fun j c hj => h (j + 1) c (by simpa using hj)
theorem tX : ∀ {xs : List Body} {k : Nat} {b : Body}, xs[k]? = some b → check b ≠ 0 → (∀ (j : Nat) (c : Body), j < k → xs[j]? = some c → check c = 0) → jA xs = check b
 | [], _, _, h, _, _ => by simp at h
 | a :: l, 0, b, h, hb, _ => by
  simp only [List.getElem?_cons_zero, Option.some.injEq] at h
  subst h
  unfold jA
  rw [if_pos hb]
 | a :: l, k + 1, b, h, hb, hn => by
  unfold jA
  rw [if_neg (by have := hn 0 a (by omega) (by simp); omega)]
  exact tX (by simpa using h) hb fun j c hj hc => hn (j + 1) c (by omega) (by simpa using hc)
theorem sD : ∀ {xs : List Body}, jA xs = 0 → ∀ b ∈ xs, check b = 0
 | [], _, b, hb => by simp at hb
 | a :: l, h, b, hb => by
  unfold jA at h
  by_cases ha : check a = 0
  ·rw [if_neg (by omega)] at h
   rcases List.mem_cons.1 hb with rfl | hb
   ·exact ha
   ·exact sD h b hb
  ·rw [if_pos ha] at h; exact absurd h ha
theorem aTx {xs : List Body} (h : nQ xs = 0) : xs.length ≤ 4096 ∧ ∀ b ∈ xs, check b = 0 := by
 unfold nQ at h
 split at h
 ·omega
 ·exact ⟨by omega, sD h⟩
theorem aRp {xs : List Body} (hl : xs.length ≤ 4096) (h : ∀ b ∈ xs, check b = 0) : nQ xs = 0 := by
 unfold nQ
 rw [if_neg (by omega)]
 exact lV fun j c hj => h c (List.mem_of_getElem? hj)
def zD : List Body → Bool
 | x :: y :: l => decide (x.key < y.key) && zD (y :: l)
 | _ => true
theorem sS : ∀ {xs : List Body}, (∀ (i : Nat) (x y : Body), xs[i]? = some x → xs[i + 1]? = some y → x.key < y.key) → zD xs = true
 | [], _ => rfl
 | [_], _ => rfl
 | x :: y :: l, h => by
  unfold zD
  rw [Bool.and_eq_true]
  exact ⟨decide_eq_true (h 0 x y (by simp) (by simp)), sS fun i a b ha hb => h (i + 1) a b (by simpa using ha) (by simpa using hb)⟩
theorem oH : ∀ {xs : List Body}, zD xs = true → bS xs
 | [], _ => by simp [bS]
 | [_], _ => by simp [bS]
 | x :: y :: l, h => by
  unfold zD at h
  rw [Bool.and_eq_true, decide_eq_true_eq] at h
  have ih := oH h.2
  refine List.pairwise_cons.2 ⟨fun z hz => ?_, ih⟩
  rcases List.mem_cons.1 hz with rfl | hz
  ·exact h.1
  ·have := (List.pairwise_cons.1 ih).1 z hz; have := h.1; omega
theorem aGc {xs : List Body} (h : bS xs) : zD xs = true := sS fun i x y hx hy => by
 have hi := List.getElem?_eq_some_iff.1 hx
 have hj := List.getElem?_eq_some_iff.1 hy
 have := List.pairwise_iff_getElem.1 h i (i + 1) hi.1 hj.1 (by omega)
 rwa [hi.2, hj.2] at this
theorem aHf {xs : List Body} {i : Nat} {x y : Body} (hx : xs[i]? = some x) (hy : xs[i + 1]? = some y) (h : ¬ x.key < y.key) : zD xs = false := by
 cases e : zD xs with
 | false => rfl
 | true =>
  exfalso
  have hi := List.getElem?_eq_some_iff.1 hx
  have hj := List.getElem?_eq_some_iff.1 hy
  have := List.pairwise_iff_getElem.1 (oH e) i (i + 1) hi.1 hj.1 (by omega)
  rw [hi.2, hj.2] at this
  exact h this
def gR (xs : List Body) : Int := if nQ xs ≠ 0 then nQ xs else if zD xs = true then 0 else 10
instance (m : List Body) : Decidable (gG m) := by unfold gG; infer_instance
def tW (key : Int) : List Body → Nat
 | [] => 0
 | b :: l => (if b.key < key then 1 else 0) + tW key l
theorem rC {key : Int} : ∀ {xs : List Body} {k : Nat}, k ≤ xs.length → (∀ (j : Nat) (c : Body), j < k → xs[j]? = some c → c.key < key) → (∀ (j : Nat) (c : Body), k ≤ j → xs[j]? = some c → ¬ c.key < key) → tW key xs = k
 | [], k, hk, _, _ => by simp at hk; simp [tW, hk]
 | b :: l, 0, _, _, h2 => by
  unfold tW
  rw [if_neg (h2 0 b (Nat.le_refl _) (by simp)), rC (k := 0) (by omega) (fun j c hj => by omega) (fun j c _ hc => h2 (j + 1) c (by omega) (by simpa using hc))]
 | b :: l, k + 1, hk, h1, h2 => by
  unfold tW
  rw [if_pos (h1 0 b (by omega) (by simp)), rC (k := k) (by simpa using hk) (fun j c hj hc => h1 (j + 1) c (by omega) (by simpa using hc)) (fun j c hj hc => h2 (j + 1) c (by omega) (by simpa using hc))]
  omega
def eS (k : Int) : List Value := [.int .u32 k]
end Go.Bil
namespace Go.Bil
theorem uB {xs : List Body} (h : bS xs) {p q : Nat} {a b : Body} (hpq : p ≤ q) (ha : xs[p]? = some a) (hb : xs[q]? = some b) : a.key ≤ b.key := by
 by_cases e : p = q
 ·subst e
  rw [ha] at hb
  injection hb with hb
  rw [hb]; exact Int.le_refl _
 ·have hi := List.getElem?_eq_some_iff.1 ha
  have hj := List.getElem?_eq_some_iff.1 hb
  have := List.pairwise_iff_getElem.1 h p q hi.1 hj.1 (by omega)
  rw [hi.2, hj.2] at this
  omega
theorem bFa (i j : Nat) : ((i : Int) + (j : Int)).fdiv (2 ^ (min (1 : Int).toNat IntKind.u64.bits)) = (((i + j) / 2 : Nat) : Int) := by
 have e : (2 : Int) ^ (min (1 : Int).toNat IntKind.u64.bits) = 2 := by decide
 rw [e, Int.fdiv_eq_ediv_of_nonneg _ (by omega)]
 omega
theorem yW {a b a' b' : Value} (h1 : a = a') (h2 : b = b') : Value.tuple #[a, b] = Value.tuple #[a', b'] := by rw [h1, h2]
theorem aLu {a b : Int} : kU a b = 0 ↔ a = b := by unfold kU; (repeat' split) <;> omega
theorem aMb {key : Int} {xs : List Body} (hs : bS xs) {i : Nat} {b : Body} (hb : xs[i]? = some b) (h1 : ∀ (j : Nat) (c : Body), j < i → xs[j]? = some c → c.key < key) (h2 : ∀ (j : Nat) (c : Body), i ≤ j → xs[j]? = some c → ¬ c.key < key) : kU b.key key = 0 ↔ 0 ≤ bZ key xs := by
 rw [aLu]
 constructor
 ·intro e
  rcases cW key xs with ⟨_, h⟩ | ⟨_, _, _, _, h⟩
  ·exact absurd e (h b (List.mem_of_getElem? hb))
  ·omega
 ·intro h
  rcases cW key xs with ⟨h', _⟩ | ⟨j, c, hc, hk, _⟩
  ·omega
  ·have hij : i ≤ j := by
    rcases Nat.lt_or_ge j i with hlt | hge
    ·have := h1 j c hlt hc; omega
    ·exact hge
   have := uB hs hij hb hc
   have := h2 i b (Nat.le_refl _) hb
   omega
theorem aHb {key : Int} {xs : List Body} (h1 : ∀ (j : Nat) (c : Body), j < xs.length → xs[j]? = some c → c.key < key) : ¬ 0 ≤ bZ key xs := by
 intro h
 rcases cW key xs with ⟨h', _⟩ | ⟨j, c, hc, hk, _⟩
 ·omega
 ·have := h1 j c (List.getElem?_eq_some_iff.1 hc).1 hc
  omega
end Go.Bil
namespace Go.Bil
end Go.Bil
namespace Go.Bil
end Go.Bil
namespace Go.Bil
theorem aIs (k : Int) : ∀ y ∈ [eS k], y.length = 1 ∧ ∀ u ∈ y, one u = true := by
 intro y hy
 simp only [List.mem_singleton] at hy
 subst hy
 exact ⟨rfl, aP rfl⟩
end Go.Bil
namespace Go.Bil
structure Mg (xs ys : List Body) (i k : Nat) : Prop where
 sx : bS xs
 sy : bS ys
 yx : ∀ (p : Nat) (a b : Body), p < k → ys[p]? = some a → xs[i]? = some b → a.key < b.key
 xy : ∀ (p : Nat) (a b : Body), p < i → xs[p]? = some a → ys[k]? = some b → a.key < b.key
theorem Mg.swap {xs ys : List Body} {i k : Nat} (h : Mg xs ys i k) : Mg ys xs k i := ⟨h.sy, h.sx, h.xy, h.yx⟩
theorem dM {xs : List Body} (h : bS xs) {p q : Nat} {a b : Body} (hpq : p < q) (ha : xs[p]? = some a) (hb : xs[q]? = some b) : a.key < b.key := by
 have hi := List.getElem?_eq_some_iff.1 ha
 have hj := List.getElem?_eq_some_iff.1 hb
 have := List.pairwise_iff_getElem.1 h p q hi.1 hj.1 hpq
 rwa [hi.2, hj.2] at this
theorem Mg.x {xs ys : List Body} {i k : Nat} {a : Body} (h : Mg xs ys i k) (ha : xs[i]? = some a) (hb : ∀ b, ys[k]? = some b → a.key < b.key) : Mg xs ys (i + 1) k ∧ bZ a.key ys < 0 := by
 refine ⟨⟨h.sx, h.sy, fun p y x hp hy hx => ?_, fun p x y hp hx hy => ?_⟩, jL.2 fun y hy => ?_⟩
 ·have := h.yx p y a hp hy ha
  have := dM h.sx (Nat.lt_succ_self i) ha hx
  omega
 ·by_cases e : p = i
  ·subst e
   rw [ha] at hx
   injection hx with hx
   subst hx
   exact hb y hy
  ·exact h.xy p x y (by omega) hx hy
 ·obtain ⟨q, hq⟩ := List.getElem?_of_mem hy
  rcases Nat.lt_or_ge q k with hlt | hge
  ·have := h.yx q y a hlt hq ha; omega
  ·obtain ⟨b, hbk⟩ := cL (xs := ys) (k := k) rfl (by have := (List.getElem?_eq_some_iff.1 hq).1; omega)
   have h1 := hb b hbk
   have h2 := uB h.sy hge hbk hq
   omega
theorem Mg.y {xs ys : List Body} {i k : Nat} {b : Body} (h : Mg xs ys i k) (hb : ys[k]? = some b) (ha : ∀ a, xs[i]? = some a → b.key < a.key) : Mg xs ys i (k + 1) ∧ bZ b.key xs < 0 := by
 obtain ⟨h1, h2⟩ := h.swap.x hb ha
 exact ⟨h1.swap, h2⟩
theorem Mg.both {xs ys : List Body} {i k : Nat} {a b : Body} (h : Mg xs ys i k) (ha : xs[i]? = some a) (hb : ys[k]? = some b) (hk : a.key = b.key) : Mg xs ys (i + 1) (k + 1) ∧ bZ a.key ys = (k : Int) ∧ bZ b.key xs = (i : Int) := by
 refine ⟨⟨h.sx, h.sy, fun p y x hp hy hx => ?_, fun p x y hp hx hy => ?_⟩, ?_, ?_⟩
 ·have h1 := dM h.sx (Nat.lt_succ_self i) ha hx
  have h2 := uB h.sy (show p ≤ k by omega) hy hb
  omega
 ·have h1 := dM h.sy (Nat.lt_succ_self k) hb hy
  have h2 := uB h.sx (show p ≤ i by omega) hx ha
  omega
 ·exact sA hb hk.symm fun j c hj hc => by have := dM h.sy hj hc hb; omega
 ·exact sA ha hk fun j c hj hc => by have := dM h.sx hj hc ha; omega
end Go.Bil
namespace Go.Bil
end Go.Bil
namespace Go.Bil
end Go.Bil
namespace Go.Bil
end Go.Bil
namespace Go.Bil
end Go.Bil
namespace Go.Bil
end Go.Bil
namespace Go.Bil
end Go.Bil

namespace Go.Bil
theorem aMf {v : List Body} (he : nQ v = 0) (hs : bS v) : gR v = 0 := by
 unfold gR
 rw [if_neg (by omega), if_pos (aGc hs)]
end Go.Bil

namespace Go.Bil
structure Bx where
 x0 : Int
 y0 : Int
 x1 : Int
 y1 : Int
 deriving DecidableEq, Inhabited
def dD (a : Bx) : List Value := [.int .i32 a.x0, .int .i32 a.y0, .int .i32 a.x1, .int .i32 a.y1]
def aMp (b : Body) : Int := max b.ax (-b.ax) + b.radius
def aNu (b : Body) : Int := max b.ay (-b.ay) + b.radius
def gZ (b : Body) : Bx := ⟨b.px - aMp b, b.py - aNu b, b.px + aMp b, b.py + aNu b⟩
abbrev gE (a : Bx) : Prop := a.x1 < a.x0 ∨ a.y1 < a.y0
def iS : Bx := ⟨1, 0, 0, 0⟩
def aAt (a b : Bx) : Bx := if gE ⟨max a.x0 b.x0, max a.y0 b.y0, min a.x1 b.x1, min a.y1 b.y1⟩ then iS else ⟨max a.x0 b.x0, max a.y0 b.y0, min a.x1 b.x1, min a.y1 b.y1⟩
abbrev ovl (a b : Bx) : Prop := (a.x0 ≤ a.x1 ∧ a.y0 ≤ a.y1) ∧ (b.x0 ≤ b.x1 ∧ b.y0 ≤ b.y1) ∧ (a.x0 ≤ b.x1 ∧ b.x0 ≤ a.x1 ∧ a.y0 ≤ b.y1 ∧ b.y0 ≤ a.y1)
theorem aTr (a b : Bx) : ¬ gE (aAt a b) ↔ ovl a b := by
 unfold aAt
 split
 ·rename_i h
  unfold gE at h
  simp only [gE, iS, ovl]
  simp only at h
  omega
 ·rename_i h
  unfold gE at h
  simp only [gE, ovl]
  simp only at h
  omega
structure Okb (b : Body) : Prop where
 r : 4096 ≤ b.radius ∧ b.radius ≤ 4194304
 a : -4194304 ≤ b.ax ∧ b.ax ≤ 4194304 ∧ -4194304 ≤ b.ay ∧ b.ay ≤ 4194304
 m : 0 ≤ b.mass ∧ b.mass ≤ 1048576
 c : 0 ≤ b.bounce ∧ b.bounce ≤ 65536
 p : -1073741824 ≤ b.px ∧ b.px ≤ 1073741824 ∧ -1073741824 ≤ b.py ∧ b.py ≤ 1073741824
 v : -16777216 ≤ b.vx ∧ b.vx ≤ 16777216 ∧ -16777216 ≤ b.vy ∧ b.vy ≤ 16777216
theorem aEs {b : Body} (h : check b = 0) : Okb b := by
 by_cases h1 : 4096 ≤ b.radius ∧ b.radius ≤ 4194304
 ·by_cases h2 : -4194304 ≤ b.ax ∧ b.ax ≤ 4194304 ∧ -4194304 ≤ b.ay ∧ b.ay ≤ 4194304
  ·by_cases h3 : 0 ≤ b.mass ∧ b.mass ≤ 1048576
   ·by_cases h4 : 0 ≤ b.bounce ∧ b.bounce ≤ 65536
    ·by_cases h5 : -1073741824 ≤ b.px ∧ b.px ≤ 1073741824 ∧ -1073741824 ≤ b.py ∧ b.py ≤ 1073741824
     ·by_cases h6 : -16777216 ≤ b.vx ∧ b.vx ≤ 16777216 ∧ -16777216 ≤ b.vy ∧ b.vy ≤ 16777216
      ·exact ⟨h1, h2, h3, h4, h5, h6⟩
      ·rw [aKi b h1 h2 h3 h4 h5 h6] at h; omega
     ·rw [aKx b h1 h2 h3 h4 h5] at h; omega
    ·rw [aLf b h1 h2 h3 h4] at h; omega
   ·rw [aJr b h1 h2 h3] at h; omega
  ·rw [aKy b h1 h2] at h; omega
 ·rw [aJt b h1] at h; omega
theorem aTn {b : Body} (h : Okb b) : 4096 ≤ aMp b ∧ aMp b ≤ 8388608 ∧ 4096 ≤ aNu b ∧ aNu b ≤ 8388608 := by
 have := h.r
 have := h.a
 unfold aMp aNu
 omega
structure Okx (a : Bx) : Prop where
 x0 : -2147483648 ≤ a.x0 ∧ a.x0 ≤ 2147483647
 y0 : -2147483648 ≤ a.y0 ∧ a.y0 ≤ 2147483647
 x1 : -2147483648 ≤ a.x1 ∧ a.x1 ≤ 2147483647
 y1 : -2147483648 ≤ a.y1 ∧ a.y1 ≤ 2147483647
theorem bAg {b : Body} (h : Okb b) : Okx (gZ b) := by
 have h1 := aTn h
 have h2 := h.p
 constructor <;> simp only [gZ] <;> omega
end Go.Bil

namespace Go.Bil
def cD (c : Int × Int) : List Value := [.int .i32 c.1, .int .i32 c.2]
def kV (x : Int) : Int := x.fdiv 4194304
theorem aXy (x : Int) : x.fdiv (2 ^ (min (22 : Int).toNat IntKind.i32.bits)) = kV x := rfl
theorem aBs (x : Int) : kV x = x / 4194304 := by unfold kV; exact Int.fdiv_eq_ediv_of_nonneg x (by decide)
theorem nM {x : Int} (h0 : -2147483648 ≤ x) (h1 : x ≤ 2147483647) : -512 ≤ kV x ∧ kV x ≤ 511 := by rw [aBs]; omega
theorem iW {x y : Int} (h : x ≤ y) : kV x ≤ kV y := by rw [aBs, aBs]; omega
def loC (a : Bx) : Int × Int := if gE a then (0, 0) else (kV a.x0, kV a.y0)
def hiC (a : Bx) : Int × Int := if gE a then (0, 0) else (kV a.x1, kV a.y1)
def nX (lo hi : Int × Int) : Nat := (hi.1 - lo.1 + 1).toNat
def nY (lo hi : Int × Int) : Nat := (hi.2 - lo.2 + 1).toNat
def xO (lo : Int × Int) (i j : Nat) : List (Int × Int) := (List.range i).map (fun (p : Nat) => (lo.1 + (p : Int), lo.2 + (j : Int)))
def lR (lo hi : Int × Int) (j : Nat) : List (Int × Int) := (List.range j).flatMap (fun q => xO lo (nX lo hi) q)
def sT (ok : Bool) (lo hi : Int × Int) : List (Int × Int) := if ok then lR lo hi (nY lo hi) else []
def fT (a : Bx) : List (Int × Int) := sT (decide (¬ gE a)) (loC a) (hiC a)
theorem aGk (lo : Int × Int) (i j : Nat) : (xO lo i j).length = i := by simp [xO]
theorem aMi (lo : Int × Int) (i j : Nat) : xO lo (i + 1) j = xO lo i j ++ [(lo.1 + (i : Int), lo.2 + (j : Int))] := by simp [xO, List.range_succ]
theorem yJ (lo hi : Int × Int) (j : Nat) : lR lo hi (j + 1) = lR lo hi j ++ xO lo (nX lo hi) j := by simp [lR, List.range_succ]
theorem sU (lo hi : Int × Int) : ∀ j, (lR lo hi j).length = j * nX lo hi
 | 0 => by simp [lR]
 | j + 1 => by rw [yJ, List.length_append, sU lo hi j, aGk, Nat.add_mul, Nat.one_mul]
theorem aQs {lo hi : Int × Int} {i j : Nat} (hx : nX lo hi ≤ 1024) (hj : j < 1024) (hi' : i < nX lo hi) : (lR lo hi j).length + i < 1048576 := by
 rw [sU]
 have : j * nX lo hi ≤ 1023 * 1024 := Nat.mul_le_mul (by omega) hx
 omega
theorem aPm {lo hi : Int × Int} {j : Nat} (hx : nX lo hi ≤ 1024) (hj : j ≤ 1024) : (lR lo hi j).length ≤ 1048576 := by
 rw [sU]
 exact Nat.mul_le_mul hj hx
theorem aLn {lo hi : Int × Int} {n : Nat} {c : Int × Int} : c ∈ lR lo hi n ↔ ∃ q p : Nat, q < n ∧ p < nX lo hi ∧ c = (lo.1 + (p : Int), lo.2 + (q : Int)) := by
 simp only [lR, xO, List.mem_flatMap, List.mem_range, List.mem_map]
 constructor
 ·rintro ⟨q, hq, p, hp, rfl⟩; exact ⟨q, p, hq, hp, rfl⟩
 ·rintro ⟨q, p, hq, hp, rfl⟩; exact ⟨q, hq, p, hp, rfl⟩
theorem wK {a : Bx} {c : Int × Int} : c ∈ fT a ↔ ¬ gE a ∧ kV a.x0 ≤ c.1 ∧ c.1 ≤ kV a.x1 ∧ kV a.y0 ≤ c.2 ∧ c.2 ≤ kV a.y1 := by
 unfold fT sT
 by_cases h : gE a
 ·simp [h]
 ·rw [if_pos (by simpa using h), aLn]
  simp only [loC, hiC, if_neg h, nX, nY]
  constructor
  ·rintro ⟨q, p, hq, hp, rfl⟩
   refine ⟨h, ?_⟩
   simp only
   omega
  ·rintro ⟨_, h1, h2, h3, h4⟩
   refine ⟨(c.2 - kV a.y0).toNat, (c.1 - kV a.x0).toNat, by omega, by omega, ?_⟩
   apply Prod.ext <;> simp only <;> omega
structure Okc (c : Int × Int) : Prop where
 x : -512 ≤ c.1 ∧ c.1 ≤ 511
 y : -512 ≤ c.2 ∧ c.2 ≤ 511
theorem aJc {a : Bx} (h : Okx a) : Okc (loC a) := by
 unfold loC
 split
 ·exact ⟨by decide, by decide⟩
 ·exact ⟨nM h.x0.1 h.x0.2, nM h.y0.1 h.y0.2⟩
theorem aIw {a : Bx} (h : Okx a) : Okc (hiC a) := by
 unfold hiC
 split
 ·exact ⟨by decide, by decide⟩
 ·exact ⟨nM h.x1.1 h.x1.2, nM h.y1.1 h.y1.2⟩
theorem aXr {lo hi : Int × Int} (h1 : Okc lo) (h2 : Okc hi) : nX lo hi ≤ 1024 := by
 have := h1.x; have := h2.x
 unfold nX
 omega
theorem aXo {lo hi : Int × Int} (h1 : Okc lo) (h2 : Okc hi) : nY lo hi ≤ 1024 := by
 have := h1.y; have := h2.y
 unfold nY
 omega
theorem aIz {a : Bx} (h : Okx a) : (fT a).length ≤ 1048576 := by
 unfold fT sT
 split
 ·exact aPm (aXr (aJc h) (aIw h)) (aXo (aJc h) (aIw h))
 ·simp
theorem aSj {a b : Bx} (h : ovl a b) : ∃ c, c ∈ fT a ∧ c ∈ fT b := by
 obtain ⟨⟨h1, h2⟩, ⟨h3, h4⟩, h5, h6, h7, h8⟩ := h
 refine ⟨(kV (max a.x0 b.x0), kV (max a.y0 b.y0)), wK.2 ⟨by unfold gE; omega, ?_⟩, wK.2 ⟨by unfold gE; omega, ?_⟩⟩
 ·exact ⟨iW (by omega), iW (by omega), iW (by omega), iW (by omega)⟩
 ·exact ⟨iW (by omega), iW (by omega), iW (by omega), iW (by omega)⟩
def pF (c : Int × Int) : Int :=
 IntKind.u32.wrap ((BitVec.ofInt 32 (IntKind.u32.wrap ((BitVec.ofInt 32 (IntKind.u32.wrap (IntKind.u32.wrap c.1 * 73856093)) ^^^ BitVec.ofInt 32 (IntKind.u32.wrap (IntKind.u32.wrap c.2 * 19349663))).toNat)) &&& BitVec.ofInt 32 1023).toNat)
def dH (c : Int × Int) : Nat := (pF c).toNat
theorem jN (c : Int × Int) : 0 ≤ pF c ∧ pF c < 1024 := by
 unfold pF
 generalize BitVec.ofInt 32 (IntKind.u32.wrap _) = a
 have h : (a &&& BitVec.ofInt 32 1023).toNat ≤ 1023 := by
  rw [BitVec.toNat_and]
  exact Nat.le_trans Nat.and_le_right (by decide)
 rw [aAc _ (by omega) (by omega)]
 omega
theorem iU (c : Int × Int) : dH c < 1024 := by have := jN c; unfold dH; omega
theorem aOq (c : Int × Int) : pF c = (dH c : Int) := by have := jN c; unfold dH; omega
end Go.Bil

namespace Go.Bil
def hJ (n : Int) : List Int := [n / 16777216 % 256, n / 65536 % 256, n / 256 % 256, n % 256]
def aSu (b : Body) : List Int := [b.key, b.radius, b.ax, b.ay, b.mass, b.bounce, b.px, b.py, b.vx, b.vy]
def sY (b : Body) : List Int := (aSu b).flatMap hJ
def iX : List Int := [66, 73, 76, 49]
def aFo (v : List Body) : List Int := iX ++ hJ (v.length : Int) ++ v.flatMap sY
def dY (l : List Int) (a : Nat) : Int := ((l.getD a 0 * 256 + l.getD (a + 1) 0) * 256 + l.getD (a + 2) 0) * 256 + l.getD (a + 3) 0
def mW (n : Int) : Int := if 2147483648 ≤ n then n - 4294967296 else n
def oZ (l : List Int) (a : Nat) : Body := ⟨dY l a, mW (dY l (a + 4)), mW (dY l (a + 8)), mW (dY l (a + 12)), mW (dY l (a + 16)), mW (dY l (a + 20)), mW (dY l (a + 24)), mW (dY l (a + 28)), mW (dY l (a + 32)), mW (dY l (a + 36))⟩
abbrev zX (l : List Int) : Prop := 8 ≤ l.length ∧ l.take 4 = iX ∧ (l.length : Int) = 8 + 40 * dY l 4
def mI (l : List Int) (n : Nat) : List Body := (List.range n).map (fun i => oZ l (8 + 40 * i))
def lI (l : List Int) : List Body × Int := if ¬ zX l then ([], 13) else if gR (mI l (dY l 4).toNat) ≠ 0 then ([], gR (mI l (dY l 4).toNat)) else (mI l (dY l 4).toNat, 0)
abbrev kN (l : List Int) : Prop := ∀ x ∈ l, 0 ≤ x ∧ x ≤ 255
theorem aNe (n : Int) : (hJ n).length = 4 := rfl
theorem aQg (b : Body) : (sY b).length = 40 := rfl
theorem aPw (v : List Body) : (v.flatMap sY).length = 40 * v.length := by
 induction v with
 | nil => rfl
 | cons b v ih => rw [List.flatMap_cons, List.length_append, ih, aQg, List.length_cons]; omega
theorem aTd (v : List Body) : (aFo v).length = 8 + 40 * v.length := by
 unfold aFo
 rw [List.length_append, List.length_append, aPw, aNe]
 rfl
theorem tI (n : Int) : hJ (n % 4294967296) = hJ n := by
 unfold hJ
 have h1 : n % 4294967296 / 16777216 % 256 = n / 16777216 % 256 := by omega
 have h2 : n % 4294967296 / 65536 % 256 = n / 65536 % 256 := by omega
 have h3 : n % 4294967296 / 256 % 256 = n / 256 % 256 := by omega
 have h4 : n % 4294967296 % 256 = n % 256 := by omega
 rw [h1, h2, h3, h4]
theorem aOd (n : Int) : hJ (mW n) = hJ n := by
 unfold mW
 split
 ·rw [← tI (n - 4294967296), ← tI n]
  congr 1
  omega
 ·rfl
theorem nV {l : List Int} (hl : kN l) {a : Nat} (h : a + 4 ≤ l.length) : 0 ≤ dY l a ∧ dY l a ≤ 4294967295 ∧ hJ (dY l a) = (l.drop a).take 4 := by
 have g (j : Nat) (hj : j < l.length) : l[j]? = some (l.getD j 0) ∧ 0 ≤ l.getD j 0 ∧ l.getD j 0 ≤ 255 := by
  rw [List.getD_eq_getElem?_getD, List.getElem?_eq_getElem hj]
  have hb := hl _ (List.getElem_mem hj)
  exact ⟨rfl, hb.1, hb.2⟩
 obtain ⟨g0, g1, g2⟩ := g a (by omega)
 obtain ⟨g3, g4, g5⟩ := g (a + 1) (by omega)
 obtain ⟨g6, g7, g8⟩ := g (a + 2) (by omega)
 obtain ⟨g9, ga, gb⟩ := g (a + 3) (by omega)
 have e : (l.drop a).take 4 = [l.getD a 0, l.getD (a + 1) 0, l.getD (a + 2) 0, l.getD (a + 3) 0] := by
  have hlen : ((l.drop a).take 4).length = 4 := by rw [List.length_take, List.length_drop]; omega
  refine List.ext_getElem? fun j => ?_
  rcases (show j = 0 ∨ j = 1 ∨ j = 2 ∨ j = 3 ∨ 4 ≤ j by omega) with rfl | rfl | rfl | rfl | hj
  ·rw [List.getElem?_take_of_lt (by omega), List.getElem?_drop]; simpa using g0
  ·rw [List.getElem?_take_of_lt (by omega), List.getElem?_drop]; simpa using g3
  ·rw [List.getElem?_take_of_lt (by omega), List.getElem?_drop]; simpa using g6
  ·rw [List.getElem?_take_of_lt (by omega), List.getElem?_drop]; simpa using g9
  ·rw [List.getElem?_eq_none (by omega), List.getElem?_eq_none (by simpa using hj)]
 rw [e]
 unfold dY hJ
 generalize l.getD a 0 = p at *
 generalize l.getD (a + 1) 0 = q at *
 generalize l.getD (a + 2) 0 = r at *
 generalize l.getD (a + 3) 0 = s at *
 refine ⟨by omega, by omega, ?_⟩
 have h1 : (((p * 256 + q) * 256 + r) * 256 + s) / 16777216 % 256 = p := by omega
 have h2 : (((p * 256 + q) * 256 + r) * 256 + s) / 65536 % 256 = q := by omega
 have h3 : (((p * 256 + q) * 256 + r) * 256 + s) / 256 % 256 = r := by omega
 have h4 : (((p * 256 + q) * 256 + r) * 256 + s) % 256 = s := by omega
 rw [h1, h2, h3, h4]
theorem aIt (l : List Int) (k : Nat) : ∀ n, (List.range n).flatMap (fun i => (l.drop (k * i)).take k) = l.take (k * n)
 | 0 => by simp
 | n + 1 => by
  rw [List.range_succ, List.flatMap_append, aIt l k n, List.flatMap_cons, List.flatMap_nil, List.append_nil, Nat.mul_succ, List.take_add]
theorem kJ {n : Int} (h : 0 ≤ n ∧ n ≤ 4294967295) : -2147483648 ≤ mW n ∧ mW n ≤ 2147483647 := by unfold mW; split <;> omega
theorem aNf {l : List Int} (hl : kN l) {a : Nat} (h : a + 40 ≤ l.length) : InB (oZ l a) := by
 have f (k : Nat) (hk : k ≤ 36) : 0 ≤ dY l (a + k) ∧ dY l (a + k) ≤ 4294967295 := by
  have := nV hl (a := a + k) (by omega)
  exact ⟨this.1, this.2.1⟩
 exact ⟨f 0 (by omega), kJ (f 4 (by omega)), kJ (f 8 (by omega)), kJ (f 12 (by omega)), kJ (f 16 (by omega)), kJ (f 20 (by omega)), kJ (f 24 (by omega)), kJ (f 28 (by omega)), kJ (f 32 (by omega)), kJ (f 36 (by omega))⟩
theorem aWg {l : List Int} (hl : kN l) {a : Nat} (h : a + 40 ≤ l.length) : sY (oZ l a) = (l.drop a).take 40 := by
 have f (k : Nat) (hk : k ≤ 36) : hJ (dY l (a + k)) = ((l.drop a).drop k).take 4 := by rw [List.drop_drop]; exact (nV hl (a := a + k) (by omega)).2.2
 have e := aIt (l.drop a) 4 10
 rw [← e]
 unfold sY aSu oZ
 simp only [List.flatMap_cons, List.flatMap_nil, aOd]
 have f0 := f 0 (by omega)
 rw [Nat.add_zero] at f0
 rw [f0, f 4 (by omega), f 8 (by omega), f 12 (by omega), f 16 (by omega), f 20 (by omega), f 24 (by omega), f 28 (by omega), f 32 (by omega), f 36 (by omega)]
 rfl
theorem yA (l : List Int) (n : Nat) : (mI l n).length = n := by unfold mI; rw [List.length_map, List.length_range]
theorem zG {α β : Type} {l : List α} {f g : α → List β} (h : ∀ x ∈ l, f x = g x) : l.flatMap f = l.flatMap g := by
 induction l with
 | nil => rfl
 | cons x l ih => rw [List.flatMap_cons, List.flatMap_cons, h x (by simp), ih fun y hy => h y (by simp [hy])]
theorem aPr {l : List Int} (hl : kN l) {n : Nat} (h : l.length = 8 + 40 * n) : (mI l n).flatMap sY = l.drop 8 := by
 unfold mI
 rw [List.flatMap_map, zG (g := fun i => ((l.drop 8).drop (40 * i)).take 40) (fun i hi => by
  have := List.mem_range.1 hi
  rw [List.drop_drop]
  exact aWg hl (by omega)), aIt, List.take_of_length_le (by rw [List.length_drop]; omega)]
structure DecOk (l : List Int) (v : List Body) : Prop where
 n : l.length = 8 + 40 * v.length
 e : aFo v = l
 inb : ∀ b ∈ v, InB b
 c : gR v = 0
theorem aWr {l : List Int} (hl : kN l) (h : (lI l).2 = 0) : DecOk l (lI l).1 := by
 unfold lI at h ⊢
 by_cases hf : zX l
 ·rw [if_neg (Decidable.not_not.2 hf)] at h ⊢
  by_cases hc : gR (mI l (dY l 4).toNat) = 0
  ·rw [if_neg (by omega)]
   obtain ⟨h8, hm, hn⟩ := hf
   have hr := nV hl (a := 4) (by omega)
   have hlen : l.length = 8 + 40 * (dY l 4).toNat := by omega
   show DecOk l (mI l (dY l 4).toNat)
   refine ⟨by rw [yA]; exact hlen, ?_, ?_, hc⟩
   ·unfold aFo
    rw [aPr hl hlen, yA, show (((dY l 4).toNat : Nat) : Int) = dY l 4 by omega, hr.2.2, ← hm, ← List.take_add, List.take_append_drop]
   ·intro b hb
    unfold mI at hb
    obtain ⟨i, hi, rfl⟩ := List.mem_map.1 hb
    have := List.mem_range.1 hi
    exact aNf hl (by omega)
  ·rw [if_pos hc] at h
   exact absurd h hc
 ·rw [if_pos hf] at h
  cases h
def uI (b : Body) : List Int := [b.key, b.radius % 4294967296, b.ax % 4294967296, b.ay % 4294967296, b.mass % 4294967296, b.bounce % 4294967296, b.px % 4294967296, b.py % 4294967296, b.vx % 4294967296, b.vy % 4294967296]
theorem aOp (b : Body) : (uI b).flatMap hJ = sY b := by
 unfold uI sY aSu
 simp only [List.flatMap_cons, List.flatMap_nil, tI]
theorem aOb {b : Body} (h : InB b) : ∀ x ∈ uI b, 0 ≤ x ∧ x ≤ 4294967295 := by
 obtain ⟨h0, _⟩ := h
 intro x hx
 simp only [uI, List.mem_cons, List.not_mem_nil, or_false] at hx
 rcases hx with rfl | rfl | rfl | rfl | rfl | rfl | rfl | rfl | rfl | rfl <;> omega
theorem aNb {L : List Int} {j : Nat} {x : Int} (h : L[j]? = some x) : (L.take (j + 1)).flatMap hJ = (L.take j).flatMap hJ ++ hJ x := by
 rw [cT h, List.flatMap_append, List.flatMap_cons, List.flatMap_nil, List.append_nil]
theorem aNx {v : List Body} {j : Nat} {x : Body} (h : v[j]? = some x) : (v.take (j + 1)).flatMap sY = (v.take j).flatMap sY ++ sY x := by
 rw [cT h, List.flatMap_append, List.flatMap_cons, List.flatMap_nil, List.append_nil]
theorem gP {l : List Int} {a m : Nat} (h : 4 ≤ m) : dY ((l.drop a).take m) 0 = dY l a := by
 have g (j : Nat) (hj : j < m) : ((l.drop a).take m).getD j 0 = l.getD (a + j) 0 := by
  rw [List.getD_eq_getElem?_getD, List.getD_eq_getElem?_getD, List.getElem?_take_of_lt hj, List.getElem?_drop]
 unfold dY
 rw [g 0 (by omega), g (0 + 1) (by omega), g (0 + 2) (by omega), g (0 + 3) (by omega)]
 rfl
theorem aLq (l : List Int) (k : Nat) : mI l (k + 1) = mI l k ++ [oZ l (8 + 40 * k)] := by unfold mI; rw [List.range_succ, List.map_append]; rfl
theorem kN.sub {l : List Int} (h : kN l) (a m : Nat) : kN ((l.drop a).take m) := fun x hx => h x (List.mem_of_mem_drop (List.mem_of_mem_take hx))
end Go.Bil
namespace Go.Bil
theorem vN {l : List Int} (h : ¬ zX l) : lI l = ([], 13) := by unfold lI; rw [if_pos h]
theorem aUx {l : List Int} {N : Nat} (h : zX l) (hN : dY l 4 = (N : Int)) (hc : gR (mI l N) ≠ 0) : lI l = ([], gR (mI l N)) := by
 unfold lI; rw [if_neg (Decidable.not_not.2 h), hN, Int.toNat_natCast, if_pos hc]
theorem aQj {l : List Int} {N : Nat} (h : zX l) (hN : dY l 4 = (N : Int)) (hc : gR (mI l N) = 0) : lI l = (mI l N, 0) := by
 unfold lI; rw [if_neg (Decidable.not_not.2 h), hN, Int.toNat_natCast, if_neg (by omega)]
theorem bDj {l : List Int} (hl : kN l) {a : Nat} (h : a + 40 ≤ l.length) : ∀ x ∈ ([dY l a, dY l (a + 4), dY l (a + 8), dY l (a + 12), dY l (a + 16), dY l (a + 20), dY l (a + 24), dY l (a + 28), dY l (a + 32), dY l (a + 36)] : List Int), 0 ≤ x ∧ x ≤ 4294967295 := by
 have f (k : Nat) (hk : k ≤ 36) : 0 ≤ dY l (a + k) ∧ dY l (a + k) ≤ 4294967295 := by
  have := nV hl (a := a + k) (by omega)
  exact ⟨this.1, this.2.1⟩
 intro x hx
 simp only [List.mem_cons, List.not_mem_nil, or_false] at hx
 rcases hx with rfl | rfl | rfl | rfl | rfl | rfl | rfl | rfl | rfl | rfl
 ·exact f 0 (by omega)
 ·exact f 4 (by omega)
 ·exact f 8 (by omega)
 ·exact f 12 (by omega)
 ·exact f 16 (by omega)
 ·exact f 20 (by omega)
 ·exact f 24 (by omega)
 ·exact f 28 (by omega)
 ·exact f 32 (by omega)
 ·exact f 36 (by omega)
theorem uO : iX = ([66, 73, 76, 49] : List UInt8).map (fun y => (y.toNat : Int)) := by decide
end Go.Bil
