/- Part of the proof of the laws of this seat: Md4, Md5, Md7, Md8, MdB, MdC, Mf1. No conditions. -/
import Derived.Test.YtlmcphcgiclanaaGreatDoorK4
import Derived.Test.YtlmcphcgiclanaaGreatDoorK3
set_option linter.unusedVariables false
set_option linter.unusedSimpArgs false
set_option linter.unnecessarySimpa false
namespace Go.Bil
def bW (s : List Body) : Prop := s.Pairwise (fun a b => a.key < b.key)
def nD (k : Int) (s : List Body) : List Body := s.filter (fun x => decide (x.key ≠ k))
def oC (b : Body) : Bool → List Body → List Body
 | true, s => nD b.key s
 | false, [] => [b]
 | false, x :: l => if b.key ≤ x.key then b :: nD b.key (x :: l) else x :: oC b false l
def bCg (b : Body) (r : List Body × Bool) : List Body := if r.2 then r.1 else r.1 ++ [b]
theorem nG (b : Body) : ∀ (s acc : List Body) (d : Bool), bCg b (s.foldl (mB b) (acc, d)) = acc ++ oC b d s
 | [], acc, true => by simp [oC, nD, bCg]
 | [], acc, false => by simp [oC, bCg]
 | x :: l, acc, true => by
  have ih := nG b l (if x.key ≠ b.key then acc ++ [x] else acc) true
  rw [List.foldl_cons]
  have e : mB b (acc, true) x = (if x.key ≠ b.key then acc ++ [x] else acc, true) := by unfold mB; by_cases h : x.key = b.key <;> simp [h]
  rw [e, ih]
  by_cases h : x.key = b.key <;> simp [oC, nD, h]
 | x :: l, acc, false => by
  rw [List.foldl_cons]
  by_cases hb : b.key ≤ x.key
  ·have ih := nG b l (if x.key ≠ b.key then acc ++ [b] ++ [x] else acc ++ [b]) true
   have e : mB b (acc, false) x = (if x.key ≠ b.key then acc ++ [b] ++ [x] else acc ++ [b], true) := by unfold mB; by_cases h : x.key = b.key <;> simp [h, hb]
   rw [e, ih]
   by_cases h : x.key = b.key <;> simp [oC, nD, h, hb]
  ·have hne : x.key ≠ b.key := by omega
   have ih := nG b l (acc ++ [x]) false
   have e : mB b (acc, false) x = (acc ++ [x], false) := by unfold mB; simp [hb, hne]
   rw [e, ih]
   simp [oC, hb]
theorem aLl (s : List Body) (b : Body) (g : Bool) : aCl s b g = oC b g s := by
 have := nG b s [] g
 rw [List.nil_append] at this
 exact this
theorem tU (b : Body) : ∀ s : List Body, (oC b false s).Perm (b :: nD b.key s)
 | [] => by simp [oC, nD]
 | x :: l => by
  unfold oC
  split
  ·exact List.Perm.refl _
  ·rename_i h
   have hne : x.key ≠ b.key := by omega
   have e : nD b.key (x :: l) = x :: nD b.key l := by simp [nD, hne]
   rw [e]
   exact ((tU b l).cons x).trans (List.Perm.swap b x _)
theorem zB {k : Int} {s : List Body} {x : Body} : x ∈ nD k s ↔ x ∈ s ∧ x.key ≠ k := by simp [nD]
theorem bW.cut {s : List Body} (h : bW s) (k : Int) : bW (nD k s) := List.Pairwise.sublist List.filter_sublist h
theorem bW.put {b : Body} : ∀ {s : List Body}, bW s → bW (oC b false s)
 | [], _ => by simp [oC, bW]
 | x :: l, h => by
  unfold oC
  have hx : ∀ y ∈ l, x.key < y.key := (List.pairwise_cons.1 h).1
  have hl : bW l := (List.pairwise_cons.1 h).2
  split
  ·rename_i hb
   refine List.pairwise_cons.2 ⟨fun y hy => ?_, h.cut _⟩
   obtain ⟨h1, h2⟩ := zB.1 hy
   rcases List.mem_cons.1 h1 with rfl | h1
   ·omega
   ·have := hx y h1; omega
  ·rename_i hb
   refine List.pairwise_cons.2 ⟨fun y hy => ?_, bW.put hl⟩
   have := (tU b l).mem_iff.1 hy
   rcases List.mem_cons.1 this with rfl | h1
   ·omega
   ·exact hx y (zB.1 h1).1
def sK (s : List Body) (b : Body) : List Body × Int :=
 if check b ≠ 0 then (s, check b) else if 0 ≤ cF b.key s then (s, 10) else if 4096 ≤ s.length then (s, 12) else (aCl s b false, 0)
def pL (k : Int) : Body := ⟨k, 0, 0, 0, 0, 0, 0, 0, 0, 0⟩
def gX (s : List Body) (k : Int) : List Body × Int := if cF k s < 0 then (s, 11) else (aCl s (pL k) true, 0)
def aTv (s : List Body) (b : Body) : List Body × Int :=
 if check b ≠ 0 then (s, check b) else if cF b.key s < 0 then (s, 11) else (aCl s b false, 0)
structure Rel (m s : List Body) : Prop where
 perm : s.Perm m
 sorted : bW s
theorem Rel.nil : Rel [] [] := ⟨List.Perm.refl _, by simp [bW]⟩
theorem bW.unique {s t : List Body} (h : bW s) (h' : bW t) (p : s.Perm t) : s = t :=
 List.Perm.eq_of_pairwise (le := fun (a b : Body) => a.key < b.key) (fun a b _ _ h1 h2 => by omega) h h' p
theorem bW.keys {s : List Body} (h : bW s) : gM s := by
 unfold gM List.Nodup
 rw [List.pairwise_map]
 exact h.imp (fun h => by omega)
theorem Rel.keys {m s : List Body} (R : Rel m s) : gM m := R.sorted.keys.perm R.perm.symm
theorem Rel.find {m s : List Body} (R : Rel m s) (k : Int) : cF k s < 0 ↔ cF k m < 0 := by
 rw [jM, jM]
 exact ⟨fun h b hb => h b (R.perm.mem_iff.2 hb), fun h b hb => h b (R.perm.mem_iff.1 hb)⟩
theorem aAq {k : Int} {s : List Body} (h : cF k s < 0) : nD k s = s := List.filter_eq_self.2 fun x hx => by simpa using jM.1 h x hx
theorem Rel.put {m s : List Body} (R : Rel m s) (b : Body) {m' : List Body} (h : m'.Perm (b :: nD b.key m)) : Rel m' (aCl s b false) := by
 rw [aLl]
 exact ⟨((tU b s).trans ((R.perm.filter _).cons b)).trans h.symm, R.sorted.put⟩
theorem Rel.add {m s : List Body} (R : Rel m s) (b : Body) : Rel (kL m b).1 (sK s b).1 ∧ (sK s b).2 = (kL m b).2 := by
 unfold kL sK
 have hf := R.find b.key
 have hl := R.perm.length_eq
 by_cases h1 : check b ≠ 0
 ·rw [if_pos h1, if_pos h1]; exact ⟨R, rfl⟩
 ·rw [if_neg h1, if_neg h1]
  by_cases h2 : 0 ≤ cF b.key m
  ·have h2' : 0 ≤ cF b.key s := by omega
   rw [if_pos h2, if_pos h2']; exact ⟨R, rfl⟩
  ·have h2' : ¬ 0 ≤ cF b.key s := by omega
   rw [if_neg h2, if_neg h2', hl]
   by_cases h3 : 4096 ≤ m.length
   ·rw [if_pos h3, if_pos h3]; exact ⟨R, rfl⟩
   ·rw [if_neg h3, if_neg h3]
    refine ⟨R.put b ?_, rfl⟩
    rw [aAq (by omega)]
    exact List.perm_append_singleton b m
theorem qY {m : List Body} (h : gM m) {i : Nat} {b : Body} (hi : m[i]? = some b) : m.eraseIdx i = nD b.key m := by
 have e : m = m.take i ++ b :: m.drop (i + 1) := by
  have hlt := (List.getElem?_eq_some_iff.1 hi).1
  have hb : m[i] = b := (List.getElem?_eq_some_iff.1 hi).2
  rw [← hb, ← List.drop_eq_getElem_cons hlt, List.take_append_drop]
 have hne := aAk h hi
 rw [List.eraseIdx_eq_take_drop_succ] at hne ⊢
 conv => rhs; rw [e]
 unfold nD
 rw [List.filter_append, List.filter_cons]
 simp only [ne_eq, not_true_eq_false, decide_false, Bool.false_eq_true, if_false]
 rw [List.filter_eq_self.2 (fun x hx => by simpa using hne x (List.mem_append_left _ hx)), List.filter_eq_self.2 (fun x hx => by simpa using hne x (List.mem_append_right _ hx))]
theorem Rel.remove {m s : List Body} (R : Rel m s) (k : Int) : Rel (iQ m k).1 (gX s k).1 ∧ (gX s k).2 = (iQ m k).2 := by
 unfold iQ gX
 have hf := R.find k
 by_cases h : cF k m < 0
 ·rw [if_pos h, if_pos (hf.2 h)]; exact ⟨R, rfl⟩
 ·rw [if_neg h, if_neg (fun h' => h (hf.1 h'))]
  refine ⟨?_, rfl⟩
  rcases dG k m with ⟨h1, _⟩ | ⟨i, b, h1, h2, h3⟩
  ·omega
  ·rw [h3, Int.toNat_natCast, aLl]
   have hlt := (List.getElem?_eq_some_iff.1 h1).1
   have hk : (pL k).key = b.key := h2.symm
   have he : oC (pL k) true s = nD b.key s := by unfold oC; rw [hk]
   refine ⟨?_, by rw [he]; exact R.sorted.cut _⟩
   show (oC (pL k) true s).Perm _
   rw [he]
   exact (R.perm.filter _).trans ((List.Perm.of_eq (qY R.keys h1).symm).trans (mP hlt).symm)
theorem aQo {m : List Body} {i : Nat} {x : Body} (hi : i < m.length) : (m.set i x).Perm (x :: m.eraseIdx i) := by
 rw [List.set_eq_take_append_cons_drop, if_pos hi, List.eraseIdx_eq_take_drop_succ]
 exact List.perm_middle
theorem Rel.set {m s : List Body} (R : Rel m s) (b : Body) : Rel (qU m b).1 (aTv s b).1 ∧ (aTv s b).2 = (qU m b).2 := by
 unfold qU aTv
 have hf := R.find b.key
 by_cases h1 : check b ≠ 0
 ·rw [if_pos h1, if_pos h1]; exact ⟨R, rfl⟩
 ·rw [if_neg h1, if_neg h1]
  by_cases h : cF b.key m < 0
  ·rw [if_pos h, if_pos (hf.2 h)]; exact ⟨R, rfl⟩
  ·rw [if_neg h, if_neg (fun h' => h (hf.1 h'))]
   refine ⟨?_, rfl⟩
   rcases dG b.key m with ⟨h1, _⟩ | ⟨i, c, h1, h2, h3⟩
   ·omega
   ·rw [h3, Int.toNat_natCast]
    have hlt := (List.getElem?_eq_some_iff.1 h1).1
    refine R.put b ((aQo hlt).trans ?_)
    rw [qY R.keys h1, h2]
theorem Rel.get {m s : List Body} (R : Rel m s) (k : Int) : (cF k s < 0 ∧ yR m k = (pL 0, 11)) ∨ ∃ (i : Nat) (b : Body), cF k s = (i : Int) ∧ s[i]? = some b ∧ yR m k = (b, 0) := by
 rcases dG k s with ⟨h1, h2⟩ | ⟨i, b, h1, h2, h3⟩
 ·have hm : cF k m < 0 := (R.find k).1 (by omega)
  refine .inl ⟨by omega, ?_⟩
  unfold yR
  rw [if_pos hm]
  rfl
 ·refine .inr ⟨i, b, h3, h1, ?_⟩
  have hb : b ∈ m := R.perm.mem_iff.1 (List.mem_of_getElem? h1)
  obtain ⟨j, hj⟩ := List.getElem?_of_mem hb
  have := pA R.keys hj
  rw [h2] at this
  exact tM this hj
theorem rR {a b : Int} : lE a b < 0 ↔ a < b := by unfold lE; (repeat' split) <;> omega
def aJk (b : Body) : List Body → List Body
 | [] => [b]
 | x :: l => if b.key ≤ x.key then b :: x :: l else x :: aJk b l
def uC (m : List Body) : List Body := m.foldr aJk []
theorem tK (b : Body) : ∀ l : List Body, (aJk b l).Perm (b :: l)
 | [] => List.Perm.refl _
 | x :: l => by
  unfold aJk
  split
  ·exact List.Perm.refl _
  ·exact ((tK b l).cons x).trans (List.Perm.swap b x l)
theorem lM : ∀ m : List Body, (uC m).Perm m
 | [] => List.Perm.refl _
 | b :: m => (tK b (uC m)).trans ((lM m).cons b)
def Up (s : List Body) : Prop := s.Pairwise (fun a b => a.key ≤ b.key)
theorem aLc (b : Body) : ∀ {l : List Body}, Up l → Up (aJk b l)
 | [], _ => by simp [aJk, Up]
 | x :: l, h => by
  unfold aJk
  have hx : ∀ y ∈ l, x.key ≤ y.key := (List.pairwise_cons.1 h).1
  split
  ·rename_i hb
   refine List.pairwise_cons.2 ⟨fun y hy => ?_, h⟩
   rcases List.mem_cons.1 hy with rfl | hy
   ·exact hb
   ·have := hx y hy; omega
  ·refine List.pairwise_cons.2 ⟨fun y hy => ?_, aLc b (List.pairwise_cons.1 h).2⟩
   have := (tK b l).mem_iff.1 hy
   rcases List.mem_cons.1 this with rfl | h1
   ·omega
   ·exact hx y h1
theorem yH : ∀ m : List Body, Up (uC m)
 | [] => by simp [uC, Up]
 | b :: m => aLc b (yH m)
theorem tS {s : List Body} (h : Up s) (hk : gM s) : bW s := by
 unfold Up at h
 unfold gM List.Nodup at hk
 rw [List.pairwise_map] at hk
 exact (List.Pairwise.and h hk).imp (fun ⟨h1, h2⟩ => by omega)
theorem aOq {s t : List Body} (h : Up s) (h' : Up t) (p : s.Perm t) (hk : gM s) : s = t := (tS h hk).unique (tS h' (hk.perm p.symm)) p
theorem aOx {m : List Body} (hk : gM m) : Rel m (uC m) := ⟨lM m, tS (yH m) (hk.perm (lM m))⟩
theorem Rel.eq {m s : List Body} (R : Rel m s) : uC m = s := (aOx R.keys).sorted.unique R.sorted ((lM m).trans R.perm.symm)
end Go.Bil
namespace Go.Bil
structure InB (b : Body) : Prop where
 key : 0 ≤ b.key ∧ b.key ≤ 4294967295
 radius : -2147483648 ≤ b.radius ∧ b.radius ≤ 2147483647
 ax : -2147483648 ≤ b.ax ∧ b.ax ≤ 2147483647
 ay : -2147483648 ≤ b.ay ∧ b.ay ≤ 2147483647
 mass : -2147483648 ≤ b.mass ∧ b.mass ≤ 2147483647
 bounce : -2147483648 ≤ b.bounce ∧ b.bounce ≤ 2147483647
 px : -2147483648 ≤ b.px ∧ b.px ≤ 2147483647
 py : -2147483648 ≤ b.py ∧ b.py ≤ 2147483647
 vx : -2147483648 ≤ b.vx ∧ b.vx ≤ 2147483647
 vy : -2147483648 ≤ b.vy ∧ b.vy ≤ 2147483647
theorem bAl (l : List Value) (h : kC [.u32, .i32, .i32, .i32, .i32, .i32, .i32, .i32, .i32, .i32] l) : ∃ b, l = aF b ∧ InB b := by
 obtain ⟨z0, l0, rfl, w0, h0⟩ := eG h
 obtain ⟨z1, l1, rfl, w1, h1⟩ := eG h0
 obtain ⟨z2, l2, rfl, w2, h2⟩ := eG h1
 obtain ⟨z3, l3, rfl, w3, h3⟩ := eG h2
 obtain ⟨z4, l4, rfl, w4, h4⟩ := eG h3
 obtain ⟨z5, l5, rfl, w5, h5⟩ := eG h4
 obtain ⟨z6, l6, rfl, w6, h6⟩ := eG h5
 obtain ⟨z7, l7, rfl, w7, h7⟩ := eG h6
 obtain ⟨z8, l8, rfl, w8, h8⟩ := eG h7
 obtain ⟨z9, l9, rfl, w9, h9⟩ := eG h8
 obtain rfl := oS h9
 exact ⟨⟨z0, z1, z2, z3, z4, z5, z6, z7, z8, z9⟩, rfl, ⟨w0, w1, w2, w3, w4, w5, w6, w7, w8, w9⟩⟩
end Go.Bil

namespace Go.Bil
structure StV where
 A : Option Addr
 n : Nat
 c : Nat
 p : Option Nat
 er : dN
 em : dN
def aAp (l : List Body) : List Body := l.foldl (fun m b => (kL m b).1) []
theorem yU {l : List Body} {k : Nat} {x : Body} (h : l[k]? = some x) : aAp (l.take (k + 1)) = (kL (aAp (l.take k)) x).1 := by
 unfold aAp
 rw [cW h, List.foldl_append]
 rfl
def uU (l : List Body) : List Body := l.filter (fun b => decide (check b = 0))
theorem aSx {m : List Body} {x : Body} (hf : ∀ b ∈ m, b.key ≠ x.key) (hl : m.length < 4096) : kL (uU m) x = (uU (m ++ [x]), check x) := by
 have hle : (uU m).length ≤ m.length := List.length_filter_le _ _
 unfold kL
 by_cases h : check x = 0
 ·rw [if_neg (by omega), if_neg (by
   have : cF x.key (uU m) < 0 := jM.2 fun b hb => hf b (List.mem_filter.1 hb).1
   omega), if_neg (by omega), h]
  simp [uU, List.filter_append, h]
 ·rw [if_pos h]
  simp [uU, List.filter_append, h]
theorem aEs {l : List Body} (h : gM l) {k : Nat} {x : Body} (hx : l[k]? = some x) : ∀ b ∈ l.take k, b.key ≠ x.key := by
 intro b hb e
 obtain ⟨j, hj⟩ := List.getElem?_of_mem hb
 rw [List.getElem?_take] at hj
 split at hj
 ·rename_i hlt
  have := h.inj hj hx e
  omega
 ·cases hj
theorem xB {l : List Body} (h : gM l) (hl : l.length ≤ 4096) : ∀ k, k ≤ l.length → aAp (l.take k) = uU (l.take k)
 | 0, _ => by simp [aAp, uU]
 | k + 1, hk => by
  obtain ⟨x, hx⟩ := cM (xs := l) (k := k) rfl (by omega)
  rw [yU hx, xB h hl k (by omega), aSx (aEs h hx) (by rw [List.length_take]; omega), cW hx]
theorem aEw {m : List Body} (hk : gM m) (k : Int) : (iQ m k).1.Perm (nD k m) := by
 unfold iQ
 by_cases h : cF k m < 0
 ·rw [if_pos h, aAq h]
 ·rw [if_neg h]
  rcases dG k m with ⟨h1, _⟩ | ⟨i, b, h1, h2, h3⟩
  ·omega
  ·rw [h3, Int.toNat_natCast]
   have hlt := (List.getElem?_eq_some_iff.1 h1).1
   have := (mP hlt).trans (List.Perm.of_eq (qY hk h1))
   rwa [h2] at this
end Go.Bil
namespace Go.Bil
structure StepI where
 kind : Int
 body : Body
instance : Inhabited StepI := ⟨⟨0, pL 0⟩⟩
end Go.Bil

namespace Go.Bil
def jE : List Body → Int
 | [] => 0
 | b :: l => if check b ≠ 0 then check b else jE l
def kN (xs : List Body) : Int := if 4096 < xs.length then 12 else jE xs
theorem jZ : ∀ {xs : List Body}, (∀ (j : Nat) (c : Body), xs[j]? = some c → check c = 0) → jE xs = 0
 | [], _ => rfl
 | b :: l, h => by
  unfold jE
  rw [if_neg (by have := h 0 b (by simp); omega)]
  exact jZ fun j c hj => h (j + 1) c (by simpa using hj)
theorem pF : ∀ {xs : List Body} {k : Nat} {b : Body}, xs[k]? = some b → check b ≠ 0 → (∀ (j : Nat) (c : Body), j < k → xs[j]? = some c → check c = 0) → jE xs = check b
 | [], _, _, h, _, _ => by simp at h
 | a :: l, 0, b, h, hb, _ => by
  simp only [List.getElem?_cons_zero, Option.some.injEq] at h
  subst h
  unfold jE
  rw [if_pos hb]
 | a :: l, k + 1, b, h, hb, hn => by
  unfold jE
  rw [if_neg (by have := hn 0 a (by omega) (by simp); omega)]
  exact pF (by simpa using h) hb fun j c hj hc => hn (j + 1) c (by omega) (by simpa using hc)
theorem rX : ∀ {xs : List Body}, jE xs = 0 → ∀ b ∈ xs, check b = 0
 | [], _, b, hb => by simp at hb
 | a :: l, h, b, hb => by
  unfold jE at h
  by_cases ha : check a = 0
  ·rw [if_neg (by omega)] at h
   rcases List.mem_cons.1 hb with rfl | hb
   ·exact ha
   ·exact rX h b hb
  ·rw [if_pos ha] at h; exact absurd h ha
theorem aSu {xs : List Body} (h : kN xs = 0) : xs.length ≤ 4096 ∧ ∀ b ∈ xs, check b = 0 := by
 unfold kN at h
 split at h
 ·omega
 ·exact ⟨by omega, rX h⟩
theorem aRp {xs : List Body} (hl : xs.length ≤ 4096) (h : ∀ b ∈ xs, check b = 0) : kN xs = 0 := by
 unfold kN
 rw [if_neg (by omega)]
 exact jZ fun j c hj => h c (List.mem_of_getElem? hj)
def aAc : List Body → Bool
 | x :: y :: l => decide (x.key < y.key) && aAc (y :: l)
 | _ => true
theorem pJ : ∀ {xs : List Body}, (∀ (i : Nat) (x y : Body), xs[i]? = some x → xs[i + 1]? = some y → x.key < y.key) → aAc xs = true
 | [], _ => rfl
 | [_], _ => rfl
 | x :: y :: l, h => by
  unfold aAc
  rw [Bool.and_eq_true]
  exact ⟨decide_eq_true (h 0 x y (by simp) (by simp)), pJ fun i a b ha hb => h (i + 1) a b (by simpa using ha) (by simpa using hb)⟩
theorem oP : ∀ {xs : List Body}, aAc xs = true → bW xs
 | [], _ => by simp [bW]
 | [_], _ => by simp [bW]
 | x :: y :: l, h => by
  unfold aAc at h
  rw [Bool.and_eq_true, decide_eq_true_eq] at h
  have ih := oP h.2
  refine List.pairwise_cons.2 ⟨fun z hz => ?_, ih⟩
  rcases List.mem_cons.1 hz with rfl | hz
  ·exact h.1
  ·have := (List.pairwise_cons.1 ih).1 z hz; have := h.1; omega
theorem aEn {xs : List Body} (h : bW xs) : aAc xs = true := pJ fun i x y hx hy => by
 have hi := List.getElem?_eq_some_iff.1 hx
 have hj := List.getElem?_eq_some_iff.1 hy
 have := List.pairwise_iff_getElem.1 h i (i + 1) hi.1 hj.1 (by omega)
 rwa [hi.2, hj.2] at this
theorem wT {xs : List Body} {i : Nat} {x y : Body} (hx : xs[i]? = some x) (hy : xs[i + 1]? = some y) (h : ¬ x.key < y.key) : aAc xs = false := by
 cases e : aAc xs with
 | false => rfl
 | true =>
  exfalso
  have hi := List.getElem?_eq_some_iff.1 hx
  have hj := List.getElem?_eq_some_iff.1 hy
  have := List.pairwise_iff_getElem.1 (oP e) i (i + 1) hi.1 hj.1 (by omega)
  rw [hi.2, hj.2] at this
  exact h this
def fM (xs : List Body) : Int := if kN xs ≠ 0 then kN xs else if aAc xs = true then 0 else 10
instance (m : List Body) : Decidable (gM m) := by unfold gM; infer_instance
def uY (key : Int) : List Body → Nat
 | [] => 0
 | b :: l => (if b.key < key then 1 else 0) + uY key l
theorem rY {key : Int} : ∀ {xs : List Body} {k : Nat}, k ≤ xs.length → (∀ (j : Nat) (c : Body), j < k → xs[j]? = some c → c.key < key) → (∀ (j : Nat) (c : Body), k ≤ j → xs[j]? = some c → ¬ c.key < key) → uY key xs = k
 | [], k, hk, _, _ => by simp at hk; simp [uY, hk]
 | b :: l, 0, _, _, h2 => by
  unfold uY
  rw [if_neg (h2 0 b (Nat.le_refl _) (by simp)), rY (k := 0) (by omega) (fun j c hj => by omega) (fun j c _ hc => h2 (j + 1) c (by omega) (by simpa using hc))]
 | b :: l, k + 1, hk, h1, h2 => by
  unfold uY
  rw [if_pos (h1 0 b (by omega) (by simp)), rY (k := k) (by simpa using hk) (fun j c hj hc => h1 (j + 1) c (by omega) (by simpa using hc)) (fun j c hj hc => h2 (j + 1) c (by omega) (by simpa using hc))]
  omega
def eZ (k : Int) : List Value := [.int .u32 k]
end Go.Bil
namespace Go.Bil
theorem uD {xs : List Body} (h : bW xs) {p q : Nat} {a b : Body} (hpq : p ≤ q) (ha : xs[p]? = some a) (hb : xs[q]? = some b) : a.key ≤ b.key := by
 by_cases e : p = q
 ·subst e
  rw [ha] at hb
  injection hb with hb
  rw [hb]; exact Int.le_refl _
 ·have hi := List.getElem?_eq_some_iff.1 ha
  have hj := List.getElem?_eq_some_iff.1 hb
  have := List.pairwise_iff_getElem.1 h p q hi.1 hj.1 (by omega)
  rw [hi.2, hj.2] at this
  omega
theorem bFk (i j : Nat) : ((i : Int) + (j : Int)).fdiv (2 ^ (min (1 : Int).toNat IntKind.u64.bits)) = (((i + j) / 2 : Nat) : Int) := by
 have e : (2 : Int) ^ (min (1 : Int).toNat IntKind.u64.bits) = 2 := by decide
 rw [e, Int.fdiv_eq_ediv_of_nonneg _ (by omega)]
 omega
theorem aAa {a b a' b' : Value} (h1 : a = a') (h2 : b = b') : Value.tuple #[a, b] = Value.tuple #[a', b'] := by rw [h1, h2]
theorem aOm {a b : Int} : lE a b = 0 ↔ a = b := by unfold lE; (repeat' split) <;> omega
theorem aNt {key : Int} {xs : List Body} (hs : bW xs) {i : Nat} {b : Body} (hb : xs[i]? = some b) (h1 : ∀ (j : Nat) (c : Body), j < i → xs[j]? = some c → c.key < key) (h2 : ∀ (j : Nat) (c : Body), i ≤ j → xs[j]? = some c → ¬ c.key < key) : lE b.key key = 0 ↔ 0 ≤ cF key xs := by
 rw [aOm]
 constructor
 ·intro e
  rcases dG key xs with ⟨_, h⟩ | ⟨_, _, _, _, h⟩
  ·exact absurd e (h b (List.mem_of_getElem? hb))
  ·omega
 ·intro h
  rcases dG key xs with ⟨h', _⟩ | ⟨j, c, hc, hk, _⟩
  ·omega
  ·have hij : i ≤ j := by
    rcases Nat.lt_or_ge j i with hlt | hge
    ·have := h1 j c hlt hc; omega
    ·exact hge
   have := uD hs hij hb hc
   have := h2 i b (Nat.le_refl _) hb
   omega
theorem aIp {key : Int} {xs : List Body} (h1 : ∀ (j : Nat) (c : Body), j < xs.length → xs[j]? = some c → c.key < key) : ¬ 0 ≤ cF key xs := by
 intro h
 rcases dG key xs with ⟨h', _⟩ | ⟨j, c, hc, hk, _⟩
 ·omega
 ·have := h1 j c (List.getElem?_eq_some_iff.1 hc).1 hc
  omega
end Go.Bil
namespace Go.Bil
end Go.Bil
namespace Go.Bil
end Go.Bil
namespace Go.Bil
theorem aIy (k : Int) : ∀ y ∈ [eZ k], y.length = 1 ∧ ∀ u ∈ y, one u = true := by
 intro y hy
 simp only [List.mem_singleton] at hy
 subst hy
 exact ⟨rfl, aQ rfl⟩
end Go.Bil
namespace Go.Bil
structure Mg (xs ys : List Body) (i k : Nat) : Prop where
 sx : bW xs
 sy : bW ys
 yx : ∀ (p : Nat) (a b : Body), p < k → ys[p]? = some a → xs[i]? = some b → a.key < b.key
 xy : ∀ (p : Nat) (a b : Body), p < i → xs[p]? = some a → ys[k]? = some b → a.key < b.key
theorem Mg.swap {xs ys : List Body} {i k : Nat} (h : Mg xs ys i k) : Mg ys xs k i := ⟨h.sy, h.sx, h.xy, h.yx⟩
theorem dP {xs : List Body} (h : bW xs) {p q : Nat} {a b : Body} (hpq : p < q) (ha : xs[p]? = some a) (hb : xs[q]? = some b) : a.key < b.key := by
 have hi := List.getElem?_eq_some_iff.1 ha
 have hj := List.getElem?_eq_some_iff.1 hb
 have := List.pairwise_iff_getElem.1 h p q hi.1 hj.1 hpq
 rwa [hi.2, hj.2] at this
theorem Mg.x {xs ys : List Body} {i k : Nat} {a : Body} (h : Mg xs ys i k) (ha : xs[i]? = some a) (hb : ∀ b, ys[k]? = some b → a.key < b.key) : Mg xs ys (i + 1) k ∧ cF a.key ys < 0 := by
 refine ⟨⟨h.sx, h.sy, fun p y x hp hy hx => ?_, fun p x y hp hx hy => ?_⟩, jM.2 fun y hy => ?_⟩
 ·have := h.yx p y a hp hy ha
  have := dP h.sx (Nat.lt_succ_self i) ha hx
  omega
 ·by_cases e : p = i
  ·subst e
   rw [ha] at hx
   injection hx with hx
   subst hx
   exact hb y hy
  ·exact h.xy p x y (by omega) hx hy
 ·obtain ⟨q, hq⟩ := List.getElem?_of_mem hy
  rcases Nat.lt_or_ge q k with hlt | hge
  ·have := h.yx q y a hlt hq ha; omega
  ·obtain ⟨b, hbk⟩ := cM (xs := ys) (k := k) rfl (by have := (List.getElem?_eq_some_iff.1 hq).1; omega)
   have h1 := hb b hbk
   have h2 := uD h.sy hge hbk hq
   omega
theorem Mg.y {xs ys : List Body} {i k : Nat} {b : Body} (h : Mg xs ys i k) (hb : ys[k]? = some b) (ha : ∀ a, xs[i]? = some a → b.key < a.key) : Mg xs ys i (k + 1) ∧ cF b.key xs < 0 := by
 obtain ⟨h1, h2⟩ := h.swap.x hb ha
 exact ⟨h1.swap, h2⟩
theorem Mg.both {xs ys : List Body} {i k : Nat} {a b : Body} (h : Mg xs ys i k) (ha : xs[i]? = some a) (hb : ys[k]? = some b) (hk : a.key = b.key) : Mg xs ys (i + 1) (k + 1) ∧ cF a.key ys = (k : Int) ∧ cF b.key xs = (i : Int) := by
 refine ⟨⟨h.sx, h.sy, fun p y x hp hy hx => ?_, fun p x y hp hx hy => ?_⟩, ?_, ?_⟩
 ·have h1 := dP h.sx (Nat.lt_succ_self i) ha hx
  have h2 := uD h.sy (show p ≤ k by omega) hy hb
  omega
 ·have h1 := dP h.sy (Nat.lt_succ_self k) hb hy
  have h2 := uD h.sx (show p ≤ i by omega) hx ha
  omega
 ·exact yW hb hk.symm fun j c hj hc => by have := dP h.sy hj hc hb; omega
 ·exact yW ha hk fun j c hj hc => by have := dP h.sx hj hc ha; omega
end Go.Bil
namespace Go.Bil
end Go.Bil
namespace Go.Bil
end Go.Bil
namespace Go.Bil
end Go.Bil
namespace Go.Bil
end Go.Bil
namespace Go.Bil
end Go.Bil
namespace Go.Bil
end Go.Bil

namespace Go.Bil
theorem aOu {v : List Body} (he : kN v = 0) (hs : bW v) : fM v = 0 := by
 unfold fM
 rw [if_neg (by omega), if_pos (aEn hs)]
end Go.Bil

namespace Go.Bil
structure Bx where
 x0 : Int
 y0 : Int
 x1 : Int
 y1 : Int
 deriving DecidableEq, Inhabited
def dE (a : Bx) : List Value := [.int .i32 a.x0, .int .i32 a.y0, .int .i32 a.x1, .int .i32 a.y1]
def aNz (b : Body) : Int := max b.ax (-b.ax) + b.radius
def aMz (b : Body) : Int := max b.ay (-b.ay) + b.radius
def iG (b : Body) : Bx := ⟨b.px - aNz b, b.py - aMz b, b.px + aNz b, b.py + aMz b⟩
abbrev gI (a : Bx) : Prop := a.x1 < a.x0 ∨ a.y1 < a.y0
def iW : Bx := ⟨1, 0, 0, 0⟩
def aAt (a b : Bx) : Bx := if gI ⟨max a.x0 b.x0, max a.y0 b.y0, min a.x1 b.x1, min a.y1 b.y1⟩ then iW else ⟨max a.x0 b.x0, max a.y0 b.y0, min a.x1 b.x1, min a.y1 b.y1⟩
abbrev ovl (a b : Bx) : Prop := (a.x0 ≤ a.x1 ∧ a.y0 ≤ a.y1) ∧ (b.x0 ≤ b.x1 ∧ b.y0 ≤ b.y1) ∧ (a.x0 ≤ b.x1 ∧ b.x0 ≤ a.x1 ∧ a.y0 ≤ b.y1 ∧ b.y0 ≤ a.y1)
theorem aSh (a b : Bx) : ¬ gI (aAt a b) ↔ ovl a b := by
 unfold aAt
 split
 ·rename_i h
  unfold gI at h
  simp only [gI, iW, ovl]
  simp only at h
  omega
 ·rename_i h
  unfold gI at h
  simp only [gI, ovl]
  simp only at h
  omega
structure Okb (b : Body) : Prop where
 r : 4096 ≤ b.radius ∧ b.radius ≤ 4194304
 a : -4194304 ≤ b.ax ∧ b.ax ≤ 4194304 ∧ -4194304 ≤ b.ay ∧ b.ay ≤ 4194304
 m : 0 ≤ b.mass ∧ b.mass ≤ 1048576
 c : 0 ≤ b.bounce ∧ b.bounce ≤ 65536
 p : -1073741824 ≤ b.px ∧ b.px ≤ 1073741824 ∧ -1073741824 ≤ b.py ∧ b.py ≤ 1073741824
 v : -16777216 ≤ b.vx ∧ b.vx ≤ 16777216 ∧ -16777216 ≤ b.vy ∧ b.vy ≤ 16777216
theorem aGs {b : Body} (h : check b = 0) : Okb b := by
 by_cases h1 : 4096 ≤ b.radius ∧ b.radius ≤ 4194304
 ·by_cases h2 : -4194304 ≤ b.ax ∧ b.ax ≤ 4194304 ∧ -4194304 ≤ b.ay ∧ b.ay ≤ 4194304
  ·by_cases h3 : 0 ≤ b.mass ∧ b.mass ≤ 1048576
   ·by_cases h4 : 0 ≤ b.bounce ∧ b.bounce ≤ 65536
    ·by_cases h5 : -1073741824 ≤ b.px ∧ b.px ≤ 1073741824 ∧ -1073741824 ≤ b.py ∧ b.py ≤ 1073741824
     ·by_cases h6 : -16777216 ≤ b.vx ∧ b.vx ≤ 16777216 ∧ -16777216 ≤ b.vy ∧ b.vy ≤ 16777216
      ·exact ⟨h1, h2, h3, h4, h5, h6⟩
      ·rw [aKr b h1 h2 h3 h4 h5 h6] at h; omega
     ·rw [aKp b h1 h2 h3 h4 h5] at h; omega
    ·rw [aLq b h1 h2 h3 h4] at h; omega
   ·rw [aKb b h1 h2 h3] at h; omega
  ·rw [aKj b h1 h2] at h; omega
 ·rw [aJz b h1] at h; omega
theorem aSs {b : Body} (h : Okb b) : 4096 ≤ aNz b ∧ aNz b ≤ 8388608 ∧ 4096 ≤ aMz b ∧ aMz b ≤ 8388608 := by
 have := h.r
 have := h.a
 unfold aNz aMz
 omega
structure Okx (a : Bx) : Prop where
 x0 : -2147483648 ≤ a.x0 ∧ a.x0 ≤ 2147483647
 y0 : -2147483648 ≤ a.y0 ∧ a.y0 ≤ 2147483647
 x1 : -2147483648 ≤ a.x1 ∧ a.x1 ≤ 2147483647
 y1 : -2147483648 ≤ a.y1 ∧ a.y1 ≤ 2147483647
theorem bCc {b : Body} (h : Okb b) : Okx (iG b) := by
 have h1 := aSs h
 have h2 := h.p
 constructor <;> simp only [iG] <;> omega
end Go.Bil

namespace Go.Bil
def cE (c : Int × Int) : List Value := [.int .i32 c.1, .int .i32 c.2]
def lL (x : Int) : Int := x.fdiv 4194304
theorem aYa (x : Int) : x.fdiv (2 ^ (min (22 : Int).toNat IntKind.i32.bits)) = lL x := rfl
theorem aDo (x : Int) : lL x = x / 4194304 := by unfold lL; exact Int.fdiv_eq_ediv_of_nonneg x (by decide)
theorem nL {x : Int} (h0 : -2147483648 ≤ x) (h1 : x ≤ 2147483647) : -512 ≤ lL x ∧ lL x ≤ 511 := by rw [aDo]; omega
theorem iY {x y : Int} (h : x ≤ y) : lL x ≤ lL y := by rw [aDo, aDo]; omega
def loC (a : Bx) : Int × Int := if gI a then (0, 0) else (lL a.x0, lL a.y0)
def hiC (a : Bx) : Int × Int := if gI a then (0, 0) else (lL a.x1, lL a.y1)
def nX (lo hi : Int × Int) : Nat := (hi.1 - lo.1 + 1).toNat
def nY (lo hi : Int × Int) : Nat := (hi.2 - lo.2 + 1).toNat
def yA (lo : Int × Int) (i j : Nat) : List (Int × Int) := (List.range i).map (fun (p : Nat) => (lo.1 + (p : Int), lo.2 + (j : Int)))
def lW (lo hi : Int × Int) (j : Nat) : List (Int × Int) := (List.range j).flatMap (fun q => yA lo (nX lo hi) q)
def tQ (ok : Bool) (lo hi : Int × Int) : List (Int × Int) := if ok then lW lo hi (nY lo hi) else []
def fV (a : Bx) : List (Int × Int) := tQ (decide (¬ gI a)) (loC a) (hiC a)
theorem aEi (lo : Int × Int) (i j : Nat) : (yA lo i j).length = i := by simp [yA]
theorem aNf (lo : Int × Int) (i j : Nat) : yA lo (i + 1) j = yA lo i j ++ [(lo.1 + (i : Int), lo.2 + (j : Int))] := by simp [yA, List.range_succ]
theorem yK (lo hi : Int × Int) (j : Nat) : lW lo hi (j + 1) = lW lo hi j ++ yA lo (nX lo hi) j := by simp [lW, List.range_succ]
theorem tW (lo hi : Int × Int) : ∀ j, (lW lo hi j).length = j * nX lo hi
 | 0 => by simp [lW]
 | j + 1 => by rw [yK, List.length_append, tW lo hi j, aEi, Nat.add_mul, Nat.one_mul]
theorem aQl {lo hi : Int × Int} {i j : Nat} (hx : nX lo hi ≤ 1024) (hj : j < 1024) (hi' : i < nX lo hi) : (lW lo hi j).length + i < 1048576 := by
 rw [tW]
 have : j * nX lo hi ≤ 1023 * 1024 := Nat.mul_le_mul (by omega) hx
 omega
theorem aRb {lo hi : Int × Int} {j : Nat} (hx : nX lo hi ≤ 1024) (hj : j ≤ 1024) : (lW lo hi j).length ≤ 1048576 := by
 rw [tW]
 exact Nat.mul_le_mul hj hx
theorem aNe {lo hi : Int × Int} {n : Nat} {c : Int × Int} : c ∈ lW lo hi n ↔ ∃ q p : Nat, q < n ∧ p < nX lo hi ∧ c = (lo.1 + (p : Int), lo.2 + (q : Int)) := by
 simp only [lW, yA, List.mem_flatMap, List.mem_range, List.mem_map]
 constructor
 ·rintro ⟨q, hq, p, hp, rfl⟩; exact ⟨q, p, hq, hp, rfl⟩
 ·rintro ⟨q, p, hq, hp, rfl⟩; exact ⟨q, hq, p, hp, rfl⟩
theorem xK {a : Bx} {c : Int × Int} : c ∈ fV a ↔ ¬ gI a ∧ lL a.x0 ≤ c.1 ∧ c.1 ≤ lL a.x1 ∧ lL a.y0 ≤ c.2 ∧ c.2 ≤ lL a.y1 := by
 unfold fV tQ
 by_cases h : gI a
 ·simp [h]
 ·rw [if_pos (by simpa using h), aNe]
  simp only [loC, hiC, if_neg h, nX, nY]
  constructor
  ·rintro ⟨q, p, hq, hp, rfl⟩
   refine ⟨h, ?_⟩
   simp only
   omega
  ·rintro ⟨_, h1, h2, h3, h4⟩
   refine ⟨(c.2 - lL a.y0).toNat, (c.1 - lL a.x0).toNat, by omega, by omega, ?_⟩
   apply Prod.ext <;> simp only <;> omega
structure Okc (c : Int × Int) : Prop where
 x : -512 ≤ c.1 ∧ c.1 ≤ 511
 y : -512 ≤ c.2 ∧ c.2 ≤ 511
theorem aIu {a : Bx} (h : Okx a) : Okc (loC a) := by
 unfold loC
 split
 ·exact ⟨by decide, by decide⟩
 ·exact ⟨nL h.x0.1 h.x0.2, nL h.y0.1 h.y0.2⟩
theorem aIv {a : Bx} (h : Okx a) : Okc (hiC a) := by
 unfold hiC
 split
 ·exact ⟨by decide, by decide⟩
 ·exact ⟨nL h.x1.1 h.x1.2, nL h.y1.1 h.y1.2⟩
theorem aYq {lo hi : Int × Int} (h1 : Okc lo) (h2 : Okc hi) : nX lo hi ≤ 1024 := by
 have := h1.x; have := h2.x
 unfold nX
 omega
theorem aYd {lo hi : Int × Int} (h1 : Okc lo) (h2 : Okc hi) : nY lo hi ≤ 1024 := by
 have := h1.y; have := h2.y
 unfold nY
 omega
theorem aJg {a : Bx} (h : Okx a) : (fV a).length ≤ 1048576 := by
 unfold fV tQ
 split
 ·exact aRb (aYq (aIu h) (aIv h)) (aYd (aIu h) (aIv h))
 ·simp
theorem aTj {a b : Bx} (h : ovl a b) : ∃ c, c ∈ fV a ∧ c ∈ fV b := by
 obtain ⟨⟨h1, h2⟩, ⟨h3, h4⟩, h5, h6, h7, h8⟩ := h
 refine ⟨(lL (max a.x0 b.x0), lL (max a.y0 b.y0)), xK.2 ⟨by unfold gI; omega, ?_⟩, xK.2 ⟨by unfold gI; omega, ?_⟩⟩
 ·exact ⟨iY (by omega), iY (by omega), iY (by omega), iY (by omega)⟩
 ·exact ⟨iY (by omega), iY (by omega), iY (by omega), iY (by omega)⟩
def pT (c : Int × Int) : Int :=
 IntKind.u32.wrap ((BitVec.ofInt 32 (IntKind.u32.wrap ((BitVec.ofInt 32 (IntKind.u32.wrap (IntKind.u32.wrap c.1 * 73856093)) ^^^ BitVec.ofInt 32 (IntKind.u32.wrap (IntKind.u32.wrap c.2 * 19349663))).toNat)) &&& BitVec.ofInt 32 1023).toNat)
def dH (c : Int × Int) : Nat := (pT c).toNat
theorem kA (c : Int × Int) : 0 ≤ pT c ∧ pT c < 1024 := by
 unfold pT
 generalize BitVec.ofInt 32 (IntKind.u32.wrap _) = a
 have h : (a &&& BitVec.ofInt 32 1023).toNat ≤ 1023 := by
  rw [BitVec.toNat_and]
  exact Nat.le_trans Nat.and_le_right (by decide)
 rw [aAs _ (by omega) (by omega)]
 omega
theorem jD (c : Int × Int) : dH c < 1024 := by have := kA c; unfold dH; omega
theorem aNp (c : Int × Int) : pT c = (dH c : Int) := by have := kA c; unfold dH; omega
end Go.Bil

namespace Go.Bil
def iH (n : Int) : List Int := [n / 16777216 % 256, n / 65536 % 256, n / 256 % 256, n % 256]
def aRo (b : Body) : List Int := [b.key, b.radius, b.ax, b.ay, b.mass, b.bounce, b.px, b.py, b.vx, b.vy]
def tN (b : Body) : List Int := (aRo b).flatMap iH
def jI : List Int := [66, 73, 76, 49]
def aEb (v : List Body) : List Int := jI ++ iH (v.length : Int) ++ v.flatMap tN
def eD (l : List Int) (a : Nat) : Int := ((l.getD a 0 * 256 + l.getD (a + 1) 0) * 256 + l.getD (a + 2) 0) * 256 + l.getD (a + 3) 0
def nC (n : Int) : Int := if 2147483648 ≤ n then n - 4294967296 else n
def oL (l : List Int) (a : Nat) : Body := ⟨eD l a, nC (eD l (a + 4)), nC (eD l (a + 8)), nC (eD l (a + 12)), nC (eD l (a + 16)), nC (eD l (a + 20)), nC (eD l (a + 24)), nC (eD l (a + 28)), nC (eD l (a + 32)), nC (eD l (a + 36))⟩
abbrev aBm (l : List Int) : Prop := 8 ≤ l.length ∧ l.take 4 = jI ∧ (l.length : Int) = 8 + 40 * eD l 4
def mQ (l : List Int) (n : Nat) : List Body := (List.range n).map (fun i => oL l (8 + 40 * i))
def lO (l : List Int) : List Body × Int := if ¬ aBm l then ([], 13) else if fM (mQ l (eD l 4).toNat) ≠ 0 then ([], fM (mQ l (eD l 4).toNat)) else (mQ l (eD l 4).toNat, 0)
abbrev lK (l : List Int) : Prop := ∀ x ∈ l, 0 ≤ x ∧ x ≤ 255
theorem aNc (n : Int) : (iH n).length = 4 := rfl
theorem aSi (b : Body) : (tN b).length = 40 := rfl
theorem aPp (v : List Body) : (v.flatMap tN).length = 40 * v.length := by
 induction v with
 | nil => rfl
 | cons b v ih => rw [List.flatMap_cons, List.length_append, ih, aSi, List.length_cons]; omega
theorem aSf (v : List Body) : (aEb v).length = 8 + 40 * v.length := by
 unfold aEb
 rw [List.length_append, List.length_append, aPp, aNc]
 rfl
theorem tJ (n : Int) : iH (n % 4294967296) = iH n := by
 unfold iH
 have h1 : n % 4294967296 / 16777216 % 256 = n / 16777216 % 256 := by omega
 have h2 : n % 4294967296 / 65536 % 256 = n / 65536 % 256 := by omega
 have h3 : n % 4294967296 / 256 % 256 = n / 256 % 256 := by omega
 have h4 : n % 4294967296 % 256 = n % 256 := by omega
 rw [h1, h2, h3, h4]
theorem aOb (n : Int) : iH (nC n) = iH n := by
 unfold nC
 split
 ·rw [← tJ (n - 4294967296), ← tJ n]
  congr 1
  omega
 ·rfl
theorem oX {l : List Int} (hl : lK l) {a : Nat} (h : a + 4 ≤ l.length) : 0 ≤ eD l a ∧ eD l a ≤ 4294967295 ∧ iH (eD l a) = (l.drop a).take 4 := by
 have g (j : Nat) (hj : j < l.length) : l[j]? = some (l.getD j 0) ∧ 0 ≤ l.getD j 0 ∧ l.getD j 0 ≤ 255 := by
  rw [List.getD_eq_getElem?_getD, List.getElem?_eq_getElem hj]
  have hb := hl _ (List.getElem_mem hj)
  exact ⟨rfl, hb.1, hb.2⟩
 obtain ⟨g0, g1, g2⟩ := g a (by omega)
 obtain ⟨g3, g4, g5⟩ := g (a + 1) (by omega)
 obtain ⟨g6, g7, g8⟩ := g (a + 2) (by omega)
 obtain ⟨g9, ga, gb⟩ := g (a + 3) (by omega)
 have e : (l.drop a).take 4 = [l.getD a 0, l.getD (a + 1) 0, l.getD (a + 2) 0, l.getD (a + 3) 0] := by
  have hlen : ((l.drop a).take 4).length = 4 := by rw [List.length_take, List.length_drop]; omega
  refine List.ext_getElem? fun j => ?_
  rcases (show j = 0 ∨ j = 1 ∨ j = 2 ∨ j = 3 ∨ 4 ≤ j by omega) with rfl | rfl | rfl | rfl | hj
  ·rw [List.getElem?_take_of_lt (by omega), List.getElem?_drop]; simpa using g0
  ·rw [List.getElem?_take_of_lt (by omega), List.getElem?_drop]; simpa using g3
  ·rw [List.getElem?_take_of_lt (by omega), List.getElem?_drop]; simpa using g6
  ·rw [List.getElem?_take_of_lt (by omega), List.getElem?_drop]; simpa using g9
  ·rw [List.getElem?_eq_none (by omega), List.getElem?_eq_none (by simpa using hj)]
 rw [e]
 unfold eD iH
 generalize l.getD a 0 = p at *
 generalize l.getD (a + 1) 0 = q at *
 generalize l.getD (a + 2) 0 = r at *
 generalize l.getD (a + 3) 0 = s at *
 refine ⟨by omega, by omega, ?_⟩
 have h1 : (((p * 256 + q) * 256 + r) * 256 + s) / 16777216 % 256 = p := by omega
 have h2 : (((p * 256 + q) * 256 + r) * 256 + s) / 65536 % 256 = q := by omega
 have h3 : (((p * 256 + q) * 256 + r) * 256 + s) / 256 % 256 = r := by omega
 have h4 : (((p * 256 + q) * 256 + r) * 256 + s) % 256 = s := by omega
 rw [h1, h2, h3, h4]
theorem aJd (l : List Int) (k : Nat) : ∀ n, (List.range n).flatMap (fun i => (l.drop (k * i)).take k) = l.take (k * n)
 | 0 => by simp
 | n + 1 => by
  rw [List.range_succ, List.flatMap_append, aJd l k n, List.flatMap_cons, List.flatMap_nil, List.append_nil, Nat.mul_succ, List.take_add]
theorem kR {n : Int} (h : 0 ≤ n ∧ n ≤ 4294967295) : -2147483648 ≤ nC n ∧ nC n ≤ 2147483647 := by unfold nC; split <;> omega
theorem aOs {l : List Int} (hl : lK l) {a : Nat} (h : a + 40 ≤ l.length) : InB (oL l a) := by
 have f (k : Nat) (hk : k ≤ 36) : 0 ≤ eD l (a + k) ∧ eD l (a + k) ≤ 4294967295 := by
  have := oX hl (a := a + k) (by omega)
  exact ⟨this.1, this.2.1⟩
 exact ⟨f 0 (by omega), kR (f 4 (by omega)), kR (f 8 (by omega)), kR (f 12 (by omega)), kR (f 16 (by omega)), kR (f 20 (by omega)), kR (f 24 (by omega)), kR (f 28 (by omega)), kR (f 32 (by omega)), kR (f 36 (by omega))⟩
theorem aVf {l : List Int} (hl : lK l) {a : Nat} (h : a + 40 ≤ l.length) : tN (oL l a) = (l.drop a).take 40 := by
 have f (k : Nat) (hk : k ≤ 36) : iH (eD l (a + k)) = ((l.drop a).drop k).take 4 := by rw [List.drop_drop]; exact (oX hl (a := a + k) (by omega)).2.2
 have e := aJd (l.drop a) 4 10
 rw [← e]
 unfold tN aRo oL
 simp only [List.flatMap_cons, List.flatMap_nil, aOb]
 have f0 := f 0 (by omega)
 rw [Nat.add_zero] at f0
 rw [f0, f 4 (by omega), f 8 (by omega), f 12 (by omega), f 16 (by omega), f 20 (by omega), f 24 (by omega), f 28 (by omega), f 32 (by omega), f 36 (by omega)]
 rfl
theorem wH (l : List Int) (n : Nat) : (mQ l n).length = n := by unfold mQ; rw [List.length_map, List.length_range]
theorem zK {α β : Type} {l : List α} {f g : α → List β} (h : ∀ x ∈ l, f x = g x) : l.flatMap f = l.flatMap g := by
 induction l with
 | nil => rfl
 | cons x l ih => rw [List.flatMap_cons, List.flatMap_cons, h x (by simp), ih fun y hy => h y (by simp [hy])]
theorem aSz {l : List Int} (hl : lK l) {n : Nat} (h : l.length = 8 + 40 * n) : (mQ l n).flatMap tN = l.drop 8 := by
 unfold mQ
 rw [List.flatMap_map, zK (g := fun i => ((l.drop 8).drop (40 * i)).take 40) (fun i hi => by
  have := List.mem_range.1 hi
  rw [List.drop_drop]
  exact aVf hl (by omega)), aJd, List.take_of_length_le (by rw [List.length_drop]; omega)]
structure DecOk (l : List Int) (v : List Body) : Prop where
 n : l.length = 8 + 40 * v.length
 e : aEb v = l
 inb : ∀ b ∈ v, InB b
 c : fM v = 0
theorem aVr {l : List Int} (hl : lK l) (h : (lO l).2 = 0) : DecOk l (lO l).1 := by
 unfold lO at h ⊢
 by_cases hf : aBm l
 ·rw [if_neg (Decidable.not_not.2 hf)] at h ⊢
  by_cases hc : fM (mQ l (eD l 4).toNat) = 0
  ·rw [if_neg (by omega)]
   obtain ⟨h8, hm, hn⟩ := hf
   have hr := oX hl (a := 4) (by omega)
   have hlen : l.length = 8 + 40 * (eD l 4).toNat := by omega
   show DecOk l (mQ l (eD l 4).toNat)
   refine ⟨by rw [wH]; exact hlen, ?_, ?_, hc⟩
   ·unfold aEb
    rw [aSz hl hlen, wH, show (((eD l 4).toNat : Nat) : Int) = eD l 4 by omega, hr.2.2, ← hm, ← List.take_add, List.take_append_drop]
   ·intro b hb
    unfold mQ at hb
    obtain ⟨i, hi, rfl⟩ := List.mem_map.1 hb
    have := List.mem_range.1 hi
    exact aOs hl (by omega)
  ·rw [if_pos hc] at h
   exact absurd h hc
 ·rw [if_pos hf] at h
  cases h
def uQ (b : Body) : List Int := [b.key, b.radius % 4294967296, b.ax % 4294967296, b.ay % 4294967296, b.mass % 4294967296, b.bounce % 4294967296, b.px % 4294967296, b.py % 4294967296, b.vx % 4294967296, b.vy % 4294967296]
theorem aOn (b : Body) : (uQ b).flatMap iH = tN b := by
 unfold uQ tN aRo
 simp only [List.flatMap_cons, List.flatMap_nil, tJ]
theorem aMn {b : Body} (h : InB b) : ∀ x ∈ uQ b, 0 ≤ x ∧ x ≤ 4294967295 := by
 obtain ⟨h0, _⟩ := h
 intro x hx
 simp only [uQ, List.mem_cons, List.not_mem_nil, or_false] at hx
 rcases hx with rfl | rfl | rfl | rfl | rfl | rfl | rfl | rfl | rfl | rfl <;> omega
theorem aMy {L : List Int} {j : Nat} {x : Int} (h : L[j]? = some x) : (L.take (j + 1)).flatMap iH = (L.take j).flatMap iH ++ iH x := by
 rw [cW h, List.flatMap_append, List.flatMap_cons, List.flatMap_nil, List.append_nil]
theorem aOo {v : List Body} {j : Nat} {x : Body} (h : v[j]? = some x) : (v.take (j + 1)).flatMap tN = (v.take j).flatMap tN ++ tN x := by
 rw [cW h, List.flatMap_append, List.flatMap_cons, List.flatMap_nil, List.append_nil]
theorem gV {l : List Int} {a m : Nat} (h : 4 ≤ m) : eD ((l.drop a).take m) 0 = eD l a := by
 have g (j : Nat) (hj : j < m) : ((l.drop a).take m).getD j 0 = l.getD (a + j) 0 := by
  rw [List.getD_eq_getElem?_getD, List.getD_eq_getElem?_getD, List.getElem?_take_of_lt hj, List.getElem?_drop]
 unfold eD
 rw [g 0 (by omega), g (0 + 1) (by omega), g (0 + 2) (by omega), g (0 + 3) (by omega)]
 rfl
theorem aNo (l : List Int) (k : Nat) : mQ l (k + 1) = mQ l k ++ [oL l (8 + 40 * k)] := by unfold mQ; rw [List.range_succ, List.map_append]; rfl
theorem lK.sub {l : List Int} (h : lK l) (a m : Nat) : lK ((l.drop a).take m) := fun x hx => h x (List.mem_of_mem_drop (List.mem_of_mem_take hx))
end Go.Bil
namespace Go.Bil
theorem wB {l : List Int} (h : ¬ aBm l) : lO l = ([], 13) := by unfold lO; rw [if_pos h]
theorem aUh {l : List Int} {N : Nat} (h : aBm l) (hN : eD l 4 = (N : Int)) (hc : fM (mQ l N) ≠ 0) : lO l = ([], fM (mQ l N)) := by
 unfold lO; rw [if_neg (Decidable.not_not.2 h), hN, Int.toNat_natCast, if_pos hc]
theorem aPw {l : List Int} {N : Nat} (h : aBm l) (hN : eD l 4 = (N : Int)) (hc : fM (mQ l N) = 0) : lO l = (mQ l N, 0) := by
 unfold lO; rw [if_neg (Decidable.not_not.2 h), hN, Int.toNat_natCast, if_neg (by omega)]
theorem bDu {l : List Int} (hl : lK l) {a : Nat} (h : a + 40 ≤ l.length) : ∀ x ∈ ([eD l a, eD l (a + 4), eD l (a + 8), eD l (a + 12), eD l (a + 16), eD l (a + 20), eD l (a + 24), eD l (a + 28), eD l (a + 32), eD l (a + 36)] : List Int), 0 ≤ x ∧ x ≤ 4294967295 := by
 have f (k : Nat) (hk : k ≤ 36) : 0 ≤ eD l (a + k) ∧ eD l (a + k) ≤ 4294967295 := by
  have := oX hl (a := a + k) (by omega)
  exact ⟨this.1, this.2.1⟩
 intro x hx
 simp only [List.mem_cons, List.not_mem_nil, or_false] at hx
 rcases hx with rfl | rfl | rfl | rfl | rfl | rfl | rfl | rfl | rfl | rfl
 ·exact f 0 (by omega)
 ·exact f 4 (by omega)
 ·exact f 8 (by omega)
 ·exact f 12 (by omega)
 ·exact f 16 (by omega)
 ·exact f 20 (by omega)
 ·exact f 24 (by omega)
 ·exact f 28 (by omega)
 ·exact f 32 (by omega)
 ·exact f 36 (by omega)
theorem uG : jI = ([66, 73, 76, 49] : List UInt8).map (fun y => (y.toNat : Int)) := by decide
end Go.Bil
