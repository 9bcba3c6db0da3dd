/- Part of the proof of the laws of this seat: Md4, Md5, Md7, Md8, MdB, MdC, Mf1. No conditions. -/
import Derived.Test.YtlmcphcgiclanaaGreatDoorK4
import Derived.Test.YtlmcphcgiclanaaGreatDoorK3
set_option linter.unusedVariables false
set_option linter.unusedSimpArgs false
set_option linter.unnecessarySimpa false
namespace Go.Bil
def bW (s : List Body) : Prop := s.Pairwise (fun a b => a.key < b.key)
def mJ (k : Int) (s : List Body) : List Body := s.filter (fun x => decide (x.key ≠ k))
def oH (b : Body) : Bool → List Body → List Body
 | true, s => mJ b.key s
 | false, [] => [b]
 | false, x :: l => if b.key ≤ x.key then b :: mJ b.key (x :: l) else x :: oH b false l
def bDg (b : Body) (r : List Body × Bool) : List Body := if r.2 then r.1 else r.1 ++ [b]
theorem nP (b : Body) : ∀ (s acc : List Body) (d : Bool), bDg b (s.foldl (lX b) (acc, d)) = acc ++ oH b d s
 | [], acc, true => by simp [oH, mJ, bDg]
 | [], acc, false => by simp [oH, bDg]
 | x :: l, acc, true => by
  have ih := nP b l (if x.key ≠ b.key then acc ++ [x] else acc) true
  rw [List.foldl_cons]
  have e : lX b (acc, true) x = (if x.key ≠ b.key then acc ++ [x] else acc, true) := by unfold lX; by_cases h : x.key = b.key <;> simp [h]
  rw [e, ih]
  by_cases h : x.key = b.key <;> simp [oH, mJ, h]
 | x :: l, acc, false => by
  rw [List.foldl_cons]
  by_cases hb : b.key ≤ x.key
  ·have ih := nP b l (if x.key ≠ b.key then acc ++ [b] ++ [x] else acc ++ [b]) true
   have e : lX b (acc, false) x = (if x.key ≠ b.key then acc ++ [b] ++ [x] else acc ++ [b], true) := by unfold lX; by_cases h : x.key = b.key <;> simp [h, hb]
   rw [e, ih]
   by_cases h : x.key = b.key <;> simp [oH, mJ, h, hb]
  ·have hne : x.key ≠ b.key := by omega
   have ih := nP b l (acc ++ [x]) false
   have e : lX b (acc, false) x = (acc ++ [x], false) := by unfold lX; simp [hb, hne]
   rw [e, ih]
   simp [oH, hb]
theorem aEn (s : List Body) (b : Body) (g : Bool) : aAl s b g = oH b g s := by
 have := nP b s [] g
 rw [List.nil_append] at this
 exact this
theorem qH (b : Body) : ∀ s : List Body, (oH b false s).Perm (b :: mJ b.key s)
 | [] => by simp [oH, mJ]
 | x :: l => by
  unfold oH
  split
  ·exact List.Perm.refl _
  ·rename_i h
   have hne : x.key ≠ b.key := by omega
   have e : mJ b.key (x :: l) = x :: mJ b.key l := by simp [mJ, hne]
   rw [e]
   exact ((qH b l).cons x).trans (List.Perm.swap b x _)
theorem yS {k : Int} {s : List Body} {x : Body} : x ∈ mJ k s ↔ x ∈ s ∧ x.key ≠ k := by simp [mJ]
theorem bW.cut {s : List Body} (h : bW s) (k : Int) : bW (mJ k s) := List.Pairwise.sublist List.filter_sublist h
theorem bW.put {b : Body} : ∀ {s : List Body}, bW s → bW (oH b false s)
 | [], _ => by simp [oH, bW]
 | x :: l, h => by
  unfold oH
  have hx : ∀ y ∈ l, x.key < y.key := (List.pairwise_cons.1 h).1
  have hl : bW l := (List.pairwise_cons.1 h).2
  split
  ·rename_i hb
   refine List.pairwise_cons.2 ⟨fun y hy => ?_, h.cut _⟩
   obtain ⟨h1, h2⟩ := yS.1 hy
   rcases List.mem_cons.1 h1 with rfl | h1
   ·omega
   ·have := hx y h1; omega
  ·rename_i hb
   refine List.pairwise_cons.2 ⟨fun y hy => ?_, bW.put hl⟩
   have := (qH b l).mem_iff.1 hy
   rcases List.mem_cons.1 this with rfl | h1
   ·omega
   ·exact hx y (yS.1 h1).1
theorem aQy (s : List Body) (b : Body) (g : Bool) : (aAl s b g).length ≤ s.length + 1 := by
 rw [aEn]
 cases g with
 | true => have := List.length_filter_le (fun x : Body => decide (x.key ≠ b.key)) s; simp only [oH, mJ]; omega
 | false =>
  rw [(qH b s).length_eq]
  have := List.length_filter_le (fun x : Body => decide (x.key ≠ b.key)) s
  simp only [mJ, List.length_cons]; omega
def oJ (s : List Body) (b : Body) : List Body × Int :=
 if check b ≠ 0 then (s, check b) else if 0 ≤ cH b.key s then (s, 10) else if 4096 ≤ s.length then (s, 12) else (aAl s b false, 0)
def pT (k : Int) : Body := ⟨k, 0, 0, 0, 0, 0, 0, 0, 0, 0⟩
def jT (s : List Body) (k : Int) : List Body × Int := if cH k s < 0 then (s, 11) else (aAl s (pT k) true, 0)
def aRc (s : List Body) (b : Body) : List Body × Int :=
 if check b ≠ 0 then (s, check b) else if cH b.key s < 0 then (s, 11) else (aAl s b false, 0)
def vP (l : List Body) : List Body := l.foldl (fun s b => (oJ s b).1) []
theorem aSi (s : List Body) (b : Body) : (oJ s b).1.length ≤ s.length + 1 := by
 unfold oJ
 (repeat' split) <;> first | exact Nat.le_succ _ | exact aQy s b false
theorem aCk {l : List Body} {k : Nat} {x : Body} (h : l[k]? = some x) : vP (l.take (k + 1)) = (oJ (vP (l.take k)) x).1 := by
 unfold vP
 rw [cV h, List.foldl_append]
 rfl
theorem aQf (l : List Body) : (vP l).length ≤ l.length := by
 have key : ∀ (l s : List Body), (l.foldl (fun s b => (oJ s b).1) s).length ≤ s.length + l.length := by
  intro l
  induction l with
  | nil => intro s; simp
  | cons b l ih =>
   intro s
   have h1 := ih (oJ s b).1
   have h2 := aSi s b
   simp only [List.foldl_cons, List.length_cons]
   omega
 have := key l []
 rw [List.length_nil, Nat.zero_add] at this
 exact this
structure Rel (m s : List Body) : Prop where
 perm : s.Perm m
 sorted : bW s
theorem Rel.nil : Rel [] [] := ⟨List.Perm.refl _, by simp [bW]⟩
theorem bW.unique {s t : List Body} (h : bW s) (h' : bW t) (p : s.Perm t) : s = t :=
 List.Perm.eq_of_pairwise (le := fun (a b : Body) => a.key < b.key) (fun a b _ _ h1 h2 => by omega) h h' p
theorem bW.keys {s : List Body} (h : bW s) : gQ s := by
 unfold gQ List.Nodup
 rw [List.pairwise_map]
 exact h.imp (fun h => by omega)
theorem Rel.keys {m s : List Body} (R : Rel m s) : gQ m := R.sorted.keys.perm R.perm.symm
theorem Rel.find {m s : List Body} (R : Rel m s) (k : Int) : cH k s < 0 ↔ cH k m < 0 := by
 rw [jK, jK]
 exact ⟨fun h b hb => h b (R.perm.mem_iff.2 hb), fun h b hb => h b (R.perm.mem_iff.1 hb)⟩
theorem aCa {k : Int} {s : List Body} (h : cH k s < 0) : mJ k s = s := List.filter_eq_self.2 fun x hx => by simpa using jK.1 h x hx
theorem Rel.put {m s : List Body} (R : Rel m s) (b : Body) {m' : List Body} (h : m'.Perm (b :: mJ b.key m)) : Rel m' (aAl s b false) := by
 rw [aEn]
 exact ⟨((qH b s).trans ((R.perm.filter _).cons b)).trans h.symm, R.sorted.put⟩
theorem Rel.add {m s : List Body} (R : Rel m s) (b : Body) : Rel (kM m b).1 (oJ s b).1 ∧ (oJ s b).2 = (kM m b).2 := by
 unfold kM oJ
 have hf := R.find b.key
 have hl := R.perm.length_eq
 by_cases h1 : check b ≠ 0
 ·rw [if_pos h1, if_pos h1]; exact ⟨R, rfl⟩
 ·rw [if_neg h1, if_neg h1]
  by_cases h2 : 0 ≤ cH b.key m
  ·have h2' : 0 ≤ cH b.key s := by omega
   rw [if_pos h2, if_pos h2']; exact ⟨R, rfl⟩
  ·have h2' : ¬ 0 ≤ cH b.key s := by omega
   rw [if_neg h2, if_neg h2', hl]
   by_cases h3 : 4096 ≤ m.length
   ·rw [if_pos h3, if_pos h3]; exact ⟨R, rfl⟩
   ·rw [if_neg h3, if_neg h3]
    refine ⟨R.put b ?_, rfl⟩
    rw [aCa (by omega)]
    exact List.perm_append_singleton b m
theorem rE {m : List Body} (h : gQ m) {i : Nat} {b : Body} (hi : m[i]? = some b) : m.eraseIdx i = mJ b.key m := by
 have e : m = m.take i ++ b :: m.drop (i + 1) := by
  have hlt := (List.getElem?_eq_some_iff.1 hi).1
  have hb : m[i] = b := (List.getElem?_eq_some_iff.1 hi).2
  rw [← hb, ← List.drop_eq_getElem_cons hlt, List.take_append_drop]
 have hne := aBd h hi
 rw [List.eraseIdx_eq_take_drop_succ] at hne ⊢
 conv => rhs; rw [e]
 unfold mJ
 rw [List.filter_append, List.filter_cons]
 simp only [ne_eq, not_true_eq_false, decide_false, Bool.false_eq_true, if_false]
 rw [List.filter_eq_self.2 (fun x hx => by simpa using hne x (List.mem_append_left _ hx)), List.filter_eq_self.2 (fun x hx => by simpa using hne x (List.mem_append_right _ hx))]
theorem Rel.remove {m s : List Body} (R : Rel m s) (k : Int) : Rel (iS m k).1 (jT s k).1 ∧ (jT s k).2 = (iS m k).2 := by
 unfold iS jT
 have hf := R.find k
 by_cases h : cH k m < 0
 ·rw [if_pos h, if_pos (hf.2 h)]; exact ⟨R, rfl⟩
 ·rw [if_neg h, if_neg (fun h' => h (hf.1 h'))]
  refine ⟨?_, rfl⟩
  rcases dG k m with ⟨h1, _⟩ | ⟨i, b, h1, h2, h3⟩
  ·omega
  ·rw [h3, Int.toNat_natCast, aEn]
   have hlt := (List.getElem?_eq_some_iff.1 h1).1
   have hk : (pT k).key = b.key := h2.symm
   have he : oH (pT k) true s = mJ b.key s := by unfold oH; rw [hk]
   refine ⟨?_, by rw [he]; exact R.sorted.cut _⟩
   show (oH (pT k) true s).Perm _
   rw [he]
   exact (R.perm.filter _).trans ((List.Perm.of_eq (rE R.keys h1).symm).trans (mQ hlt).symm)
theorem aRi {m : List Body} {i : Nat} {x : Body} (hi : i < m.length) : (m.set i x).Perm (x :: m.eraseIdx i) := by
 rw [List.set_eq_take_append_cons_drop, if_pos hi, List.eraseIdx_eq_take_drop_succ]
 exact List.perm_middle
theorem Rel.set {m s : List Body} (R : Rel m s) (b : Body) : Rel (rC m b).1 (aRc s b).1 ∧ (aRc s b).2 = (rC m b).2 := by
 unfold rC aRc
 have hf := R.find b.key
 by_cases h1 : check b ≠ 0
 ·rw [if_pos h1, if_pos h1]; exact ⟨R, rfl⟩
 ·rw [if_neg h1, if_neg h1]
  by_cases h : cH b.key m < 0
  ·rw [if_pos h, if_pos (hf.2 h)]; exact ⟨R, rfl⟩
  ·rw [if_neg h, if_neg (fun h' => h (hf.1 h'))]
   refine ⟨?_, rfl⟩
   rcases dG b.key m with ⟨h1, _⟩ | ⟨i, c, h1, h2, h3⟩
   ·omega
   ·rw [h3, Int.toNat_natCast]
    have hlt := (List.getElem?_eq_some_iff.1 h1).1
    refine R.put b ((aRi hlt).trans ?_)
    rw [rE R.keys h1, h2]
theorem Rel.get {m s : List Body} (R : Rel m s) (k : Int) : (cH k s < 0 ∧ zQ m k = (pT 0, 11)) ∨ ∃ (i : Nat) (b : Body), cH k s = (i : Int) ∧ s[i]? = some b ∧ zQ m k = (b, 0) := by
 rcases dG k s with ⟨h1, h2⟩ | ⟨i, b, h1, h2, h3⟩
 ·have hm : cH k m < 0 := (R.find k).1 (by omega)
  refine .inl ⟨by omega, ?_⟩
  unfold zQ
  rw [if_pos hm]
  rfl
 ·refine .inr ⟨i, b, h3, h1, ?_⟩
  have hb : b ∈ m := R.perm.mem_iff.1 (List.mem_of_getElem? h1)
  obtain ⟨j, hj⟩ := List.getElem?_of_mem hb
  have := oZ R.keys hj
  rw [h2] at this
  exact tM this hj
theorem sY {a b : Int} : lA a b < 0 ↔ a < b := by unfold lA; (repeat' split) <;> omega
def aKy (b : Body) : List Body → List Body
 | [] => [b]
 | x :: l => if b.key ≤ x.key then b :: x :: l else x :: aKy b l
def vI (m : List Body) : List Body := m.foldr aKy []
theorem uD (b : Body) : ∀ l : List Body, (aKy b l).Perm (b :: l)
 | [] => List.Perm.refl _
 | x :: l => by
  unfold aKy
  split
  ·exact List.Perm.refl _
  ·exact ((uD b l).cons x).trans (List.Perm.swap b x l)
theorem lC : ∀ m : List Body, (vI m).Perm m
 | [] => List.Perm.refl _
 | b :: m => (uD b (vI m)).trans ((lC m).cons b)
def Up (s : List Body) : Prop := s.Pairwise (fun a b => a.key ≤ b.key)
theorem aLk (b : Body) : ∀ {l : List Body}, Up l → Up (aKy b l)
 | [], _ => by simp [aKy, Up]
 | x :: l, h => by
  unfold aKy
  have hx : ∀ y ∈ l, x.key ≤ y.key := (List.pairwise_cons.1 h).1
  split
  ·rename_i hb
   refine List.pairwise_cons.2 ⟨fun y hy => ?_, h⟩
   rcases List.mem_cons.1 hy with rfl | hy
   ·exact hb
   ·have := hx y hy; omega
  ·refine List.pairwise_cons.2 ⟨fun y hy => ?_, aLk b (List.pairwise_cons.1 h).2⟩
   have := (uD b l).mem_iff.1 hy
   rcases List.mem_cons.1 this with rfl | h1
   ·omega
   ·exact hx y h1
theorem zE : ∀ m : List Body, Up (vI m)
 | [] => by simp [vI, Up]
 | b :: m => aLk b (zE m)
theorem tS {s : List Body} (h : Up s) (hk : gQ s) : bW s := by
 unfold Up at h
 unfold gQ List.Nodup at hk
 rw [List.pairwise_map] at hk
 exact (List.Pairwise.and h hk).imp (fun ⟨h1, h2⟩ => by omega)
theorem aOo {s t : List Body} (h : Up s) (h' : Up t) (p : s.Perm t) (hk : gQ s) : s = t := (tS h hk).unique (tS h' (hk.perm p.symm)) p
theorem aPn {m : List Body} (hk : gQ m) : Rel m (vI m) := ⟨lC m, tS (zE m) (hk.perm (lC m))⟩
theorem Rel.eq {m s : List Body} (R : Rel m s) : vI m = s := (aPn R.keys).sorted.unique R.sorted ((lC m).trans R.perm.symm)
end Go.Bil
namespace Go.Bil
structure InB (b : Body) : Prop where
 key : 0 ≤ b.key ∧ b.key ≤ 4294967295
 radius : -2147483648 ≤ b.radius ∧ b.radius ≤ 2147483647
 ax : -2147483648 ≤ b.ax ∧ b.ax ≤ 2147483647
 ay : -2147483648 ≤ b.ay ∧ b.ay ≤ 2147483647
 mass : -2147483648 ≤ b.mass ∧ b.mass ≤ 2147483647
 bounce : -2147483648 ≤ b.bounce ∧ b.bounce ≤ 2147483647
 px : -2147483648 ≤ b.px ∧ b.px ≤ 2147483647
 py : -2147483648 ≤ b.py ∧ b.py ≤ 2147483647
 vx : -2147483648 ≤ b.vx ∧ b.vx ≤ 2147483647
 vy : -2147483648 ≤ b.vy ∧ b.vy ≤ 2147483647
theorem aKe (l : List Value) (h : kB [.u32, .i32, .i32, .i32, .i32, .i32, .i32, .i32, .i32, .i32] l) : ∃ b, l = aF b ∧ InB b := by
 obtain ⟨z0, l0, rfl, w0, h0⟩ := eJ h
 obtain ⟨z1, l1, rfl, w1, h1⟩ := eJ h0
 obtain ⟨z2, l2, rfl, w2, h2⟩ := eJ h1
 obtain ⟨z3, l3, rfl, w3, h3⟩ := eJ h2
 obtain ⟨z4, l4, rfl, w4, h4⟩ := eJ h3
 obtain ⟨z5, l5, rfl, w5, h5⟩ := eJ h4
 obtain ⟨z6, l6, rfl, w6, h6⟩ := eJ h5
 obtain ⟨z7, l7, rfl, w7, h7⟩ := eJ h6
 obtain ⟨z8, l8, rfl, w8, h8⟩ := eJ h7
 obtain ⟨z9, l9, rfl, w9, h9⟩ := eJ h8
 obtain rfl := pA h9
 exact ⟨⟨z0, z1, z2, z3, z4, z5, z6, z7, z8, z9⟩, rfl, ⟨w0, w1, w2, w3, w4, w5, w6, w7, w8, w9⟩⟩
end Go.Bil

namespace Go.Bil
structure StV where
 A : Option Addr
 n : Nat
 c : Nat
 p : Option Nat
 er : dR
 em : dR
def aBa (l : List Body) : List Body := l.foldl (fun m b => (kM m b).1) []
theorem wO {l : List Body} {k : Nat} {x : Body} (h : l[k]? = some x) : aBa (l.take (k + 1)) = (kM (aBa (l.take k)) x).1 := by
 unfold aBa
 rw [cV h, List.foldl_append]
 rfl
def vF (l : List Body) : List Body := l.filter (fun b => decide (check b = 0))
theorem aRm {m : List Body} {x : Body} (hf : ∀ b ∈ m, b.key ≠ x.key) (hl : m.length < 4096) : kM (vF m) x = (vF (m ++ [x]), check x) := by
 have hle : (vF m).length ≤ m.length := List.length_filter_le _ _
 unfold kM
 by_cases h : check x = 0
 ·rw [if_neg (by omega), if_neg (by
   have : cH x.key (vF m) < 0 := jK.2 fun b hb => hf b (List.mem_filter.1 hb).1
   omega), if_neg (by omega), h]
  simp [vF, List.filter_append, h]
 ·rw [if_pos h]
  simp [vF, List.filter_append, h]
theorem aEy {l : List Body} (h : gQ l) {k : Nat} {x : Body} (hx : l[k]? = some x) : ∀ b ∈ l.take k, b.key ≠ x.key := by
 intro b hb e
 obtain ⟨j, hj⟩ := List.getElem?_of_mem hb
 rw [List.getElem?_take] at hj
 split at hj
 ·rename_i hlt
  have := h.inj hj hx e
  omega
 ·cases hj
theorem xB {l : List Body} (h : gQ l) (hl : l.length ≤ 4096) : ∀ k, k ≤ l.length → aBa (l.take k) = vF (l.take k)
 | 0, _ => by simp [aBa, vF]
 | k + 1, hk => by
  obtain ⟨x, hx⟩ := cI (xs := l) (k := k) rfl (by omega)
  rw [wO hx, xB h hl k (by omega), aRm (aEy h hx) (by rw [List.length_take]; omega), cV hx]
theorem aGx {m : List Body} (hk : gQ m) (k : Int) : (iS m k).1.Perm (mJ k m) := by
 unfold iS
 by_cases h : cH k m < 0
 ·rw [if_pos h, aCa h]
 ·rw [if_neg h]
  rcases dG k m with ⟨h1, _⟩ | ⟨i, b, h1, h2, h3⟩
  ·omega
  ·rw [h3, Int.toNat_natCast]
   have hlt := (List.getElem?_eq_some_iff.1 h1).1
   have := (mQ hlt).trans (List.Perm.of_eq (rE hk h1))
   rwa [h2] at this
end Go.Bil
namespace Go.Bil
structure StepI where
 kind : Int
 body : Body
instance : Inhabited StepI := ⟨⟨0, pT 0⟩⟩
end Go.Bil

namespace Go.Bil
def jE : List Body → Int
 | [] => 0
 | b :: l => if check b ≠ 0 then check b else jE l
def oF (xs : List Body) : Int := if 4096 < xs.length then 12 else jE xs
theorem mN : ∀ {xs : List Body}, (∀ (j : Nat) (c : Body), xs[j]? = some c → check c = 0) → jE xs = 0
 | [], _ => rfl
 | b :: l, h => by
  unfold jE
  rw [if_neg (by have := h 0 b (by simp); omega)]
  exact mN fun j c hj => h (j + 1) c (by simpa using hj)
theorem vK : ∀ {xs : List Body} {k : Nat} {b : Body}, xs[k]? = some b → check b ≠ 0 → (∀ (j : Nat) (c : Body), j < k → xs[j]? = some c → check c = 0) → jE xs = check b
 | [], _, _, h, _, _ => by simp at h
 | a :: l, 0, b, h, hb, _ => by
  simp only [List.getElem?_cons_zero, Option.some.injEq] at h
  subst h
  unfold jE
  rw [if_pos hb]
 | a :: l, k + 1, b, h, hb, hn => by
  unfold jE
  rw [if_neg (by have := hn 0 a (by omega) (by simp); omega)]
  exact vK (by simpa using h) hb fun j c hj hc => hn (j + 1) c (by omega) (by simpa using hc)
theorem sF : ∀ {xs : List Body}, jE xs = 0 → ∀ b ∈ xs, check b = 0
 | [], _, b, hb => by simp at hb
 | a :: l, h, b, hb => by
  unfold jE at h
  by_cases ha : check a = 0
  ·rw [if_neg (by omega)] at h
   rcases List.mem_cons.1 hb with rfl | hb
   ·exact ha
   ·exact sF h b hb
  ·rw [if_pos ha] at h; exact absurd h ha
theorem aUn {xs : List Body} (h : oF xs = 0) : xs.length ≤ 4096 ∧ ∀ b ∈ xs, check b = 0 := by
 unfold oF at h
 split at h
 ·omega
 ·exact ⟨by omega, sF h⟩
theorem aRz {xs : List Body} (hl : xs.length ≤ 4096) (h : ∀ b ∈ xs, check b = 0) : oF xs = 0 := by
 unfold oF
 rw [if_neg (by omega)]
 exact mN fun j c hj => h c (List.mem_of_getElem? hj)
def aAb : List Body → Bool
 | x :: y :: l => decide (x.key < y.key) && aAb (y :: l)
 | _ => true
theorem tJ : ∀ {xs : List Body}, (∀ (i : Nat) (x y : Body), xs[i]? = some x → xs[i + 1]? = some y → x.key < y.key) → aAb xs = true
 | [], _ => rfl
 | [_], _ => rfl
 | x :: y :: l, h => by
  unfold aAb
  rw [Bool.and_eq_true]
  exact ⟨decide_eq_true (h 0 x y (by simp) (by simp)), tJ fun i a b ha hb => h (i + 1) a b (by simpa using ha) (by simpa using hb)⟩
theorem pE : ∀ {xs : List Body}, aAb xs = true → bW xs
 | [], _ => by simp [bW]
 | [_], _ => by simp [bW]
 | x :: y :: l, h => by
  unfold aAb at h
  rw [Bool.and_eq_true, decide_eq_true_eq] at h
  have ih := pE h.2
  refine List.pairwise_cons.2 ⟨fun z hz => ?_, ih⟩
  rcases List.mem_cons.1 hz with rfl | hz
  ·exact h.1
  ·have := (List.pairwise_cons.1 ih).1 z hz; have := h.1; omega
theorem aGg {xs : List Body} (h : bW xs) : aAb xs = true := tJ fun i x y hx hy => by
 have hi := List.getElem?_eq_some_iff.1 hx
 have hj := List.getElem?_eq_some_iff.1 hy
 have := List.pairwise_iff_getElem.1 h i (i + 1) hi.1 hj.1 (by omega)
 rwa [hi.2, hj.2] at this
theorem aIf {xs : List Body} {i : Nat} {x y : Body} (hx : xs[i]? = some x) (hy : xs[i + 1]? = some y) (h : ¬ x.key < y.key) : aAb xs = false := by
 cases e : aAb xs with
 | false => rfl
 | true =>
  exfalso
  have hi := List.getElem?_eq_some_iff.1 hx
  have hj := List.getElem?_eq_some_iff.1 hy
  have := List.pairwise_iff_getElem.1 (pE e) i (i + 1) hi.1 hj.1 (by omega)
  rw [hi.2, hj.2] at this
  exact h this
def gO (xs : List Body) : Int := if oF xs ≠ 0 then oF xs else if aAb xs = true then 0 else 10
instance (m : List Body) : Decidable (gQ m) := by unfold gQ; infer_instance
def uH (key : Int) : List Body → Nat
 | [] => 0
 | b :: l => (if b.key < key then 1 else 0) + uH key l
theorem rT {key : Int} : ∀ {xs : List Body} {k : Nat}, k ≤ xs.length → (∀ (j : Nat) (c : Body), j < k → xs[j]? = some c → c.key < key) → (∀ (j : Nat) (c : Body), k ≤ j → xs[j]? = some c → ¬ c.key < key) → uH key xs = k
 | [], k, hk, _, _ => by simp at hk; simp [uH, hk]
 | b :: l, 0, _, _, h2 => by
  unfold uH
  rw [if_neg (h2 0 b (Nat.le_refl _) (by simp)), rT (k := 0) (by omega) (fun j c hj => by omega) (fun j c _ hc => h2 (j + 1) c (by omega) (by simpa using hc))]
 | b :: l, k + 1, hk, h1, h2 => by
  unfold uH
  rw [if_pos (h1 0 b (by omega) (by simp)), rT (k := k) (by simpa using hk) (fun j c hj hc => h1 (j + 1) c (by omega) (by simpa using hc)) (fun j c hj hc => h2 (j + 1) c (by omega) (by simpa using hc))]
  omega
def fA (k : Int) : List Value := [.int .u32 k]
end Go.Bil
namespace Go.Bil
theorem uV {xs : List Body} (h : bW xs) {p q : Nat} {a b : Body} (hpq : p ≤ q) (ha : xs[p]? = some a) (hb : xs[q]? = some b) : a.key ≤ b.key := by
 by_cases e : p = q
 ·subst e
  rw [ha] at hb
  injection hb with hb
  rw [hb]; exact Int.le_refl _
 ·have hi := List.getElem?_eq_some_iff.1 ha
  have hj := List.getElem?_eq_some_iff.1 hb
  have := List.pairwise_iff_getElem.1 h p q hi.1 hj.1 (by omega)
  rw [hi.2, hj.2] at this
  omega
theorem bGd (i j : Nat) : ((i : Int) + (j : Int)).fdiv (2 ^ (min (1 : Int).toNat IntKind.u64.bits)) = (((i + j) / 2 : Nat) : Int) := by
 have e : (2 : Int) ^ (min (1 : Int).toNat IntKind.u64.bits) = 2 := by decide
 rw [e, Int.fdiv_eq_ediv_of_nonneg _ (by omega)]
 omega
theorem aAi {a b a' b' : Value} (h1 : a = a') (h2 : b = b') : Value.tuple #[a, b] = Value.tuple #[a', b'] := by rw [h1, h2]
theorem aNd {a b : Int} : lA a b = 0 ↔ a = b := by unfold lA; (repeat' split) <;> omega
theorem aNj {key : Int} {xs : List Body} (hs : bW xs) {i : Nat} {b : Body} (hb : xs[i]? = some b) (h1 : ∀ (j : Nat) (c : Body), j < i → xs[j]? = some c → c.key < key) (h2 : ∀ (j : Nat) (c : Body), i ≤ j → xs[j]? = some c → ¬ c.key < key) : lA b.key key = 0 ↔ 0 ≤ cH key xs := by
 rw [aNd]
 constructor
 ·intro e
  rcases dG key xs with ⟨_, h⟩ | ⟨_, _, _, _, h⟩
  ·exact absurd e (h b (List.mem_of_getElem? hb))
  ·omega
 ·intro h
  rcases dG key xs with ⟨h', _⟩ | ⟨j, c, hc, hk, _⟩
  ·omega
  ·have hij : i ≤ j := by
    rcases Nat.lt_or_ge j i with hlt | hge
    ·have := h1 j c hlt hc; omega
    ·exact hge
   have := uV hs hij hb hc
   have := h2 i b (Nat.le_refl _) hb
   omega
theorem aIe {key : Int} {xs : List Body} (h1 : ∀ (j : Nat) (c : Body), j < xs.length → xs[j]? = some c → c.key < key) : ¬ 0 ≤ cH key xs := by
 intro h
 rcases dG key xs with ⟨h', _⟩ | ⟨j, c, hc, hk, _⟩
 ·omega
 ·have := h1 j c (List.getElem?_eq_some_iff.1 hc).1 hc
  omega
end Go.Bil
namespace Go.Bil
theorem aUm {α : Type} {xs ys : List α} {n m : Nat} (h1 : xs.length = n) (h2 : ys.length = m) (hnm : n = m) (h : ∀ (j : Nat) (x : α), j < n → xs[j]? = some x → ys[j]? = some x) : xs = ys := by
 apply List.ext_getElem?
 intro j
 by_cases hj : j < xs.length
 ·obtain ⟨x, hx⟩ := cI (k := j) rfl hj
  rw [hx, h j x (by omega) hx]
 ·rw [List.getElem?_eq_none (by omega), List.getElem?_eq_none (by omega)]
end Go.Bil
namespace Go.Bil
end Go.Bil
namespace Go.Bil
theorem aIm (k : Int) : ∀ y ∈ [fA k], y.length = 1 ∧ ∀ u ∈ y, one u = true := by
 intro y hy
 simp only [List.mem_singleton] at hy
 subst hy
 exact ⟨rfl, aQ rfl⟩
end Go.Bil
namespace Go.Bil
structure Mg (xs ys : List Body) (i k : Nat) : Prop where
 sx : bW xs
 sy : bW ys
 yx : ∀ (p : Nat) (a b : Body), p < k → ys[p]? = some a → xs[i]? = some b → a.key < b.key
 xy : ∀ (p : Nat) (a b : Body), p < i → xs[p]? = some a → ys[k]? = some b → a.key < b.key
theorem Mg.swap {xs ys : List Body} {i k : Nat} (h : Mg xs ys i k) : Mg ys xs k i := ⟨h.sy, h.sx, h.xy, h.yx⟩
theorem dS {xs : List Body} (h : bW xs) {p q : Nat} {a b : Body} (hpq : p < q) (ha : xs[p]? = some a) (hb : xs[q]? = some b) : a.key < b.key := by
 have hi := List.getElem?_eq_some_iff.1 ha
 have hj := List.getElem?_eq_some_iff.1 hb
 have := List.pairwise_iff_getElem.1 h p q hi.1 hj.1 hpq
 rwa [hi.2, hj.2] at this
theorem Mg.x {xs ys : List Body} {i k : Nat} {a : Body} (h : Mg xs ys i k) (ha : xs[i]? = some a) (hb : ∀ b, ys[k]? = some b → a.key < b.key) : Mg xs ys (i + 1) k ∧ cH a.key ys < 0 := by
 refine ⟨⟨h.sx, h.sy, fun p y x hp hy hx => ?_, fun p x y hp hx hy => ?_⟩, jK.2 fun y hy => ?_⟩
 ·have := h.yx p y a hp hy ha
  have := dS h.sx (Nat.lt_succ_self i) ha hx
  omega
 ·by_cases e : p = i
  ·subst e
   rw [ha] at hx
   injection hx with hx
   subst hx
   exact hb y hy
  ·exact h.xy p x y (by omega) hx hy
 ·obtain ⟨q, hq⟩ := List.getElem?_of_mem hy
  rcases Nat.lt_or_ge q k with hlt | hge
  ·have := h.yx q y a hlt hq ha; omega
  ·obtain ⟨b, hbk⟩ := cI (xs := ys) (k := k) rfl (by have := (List.getElem?_eq_some_iff.1 hq).1; omega)
   have h1 := hb b hbk
   have h2 := uV h.sy hge hbk hq
   omega
theorem Mg.y {xs ys : List Body} {i k : Nat} {b : Body} (h : Mg xs ys i k) (hb : ys[k]? = some b) (ha : ∀ a, xs[i]? = some a → b.key < a.key) : Mg xs ys i (k + 1) ∧ cH b.key xs < 0 := by
 obtain ⟨h1, h2⟩ := h.swap.x hb ha
 exact ⟨h1.swap, h2⟩
theorem Mg.both {xs ys : List Body} {i k : Nat} {a b : Body} (h : Mg xs ys i k) (ha : xs[i]? = some a) (hb : ys[k]? = some b) (hk : a.key = b.key) : Mg xs ys (i + 1) (k + 1) ∧ cH a.key ys = (k : Int) ∧ cH b.key xs = (i : Int) := by
 refine ⟨⟨h.sx, h.sy, fun p y x hp hy hx => ?_, fun p x y hp hx hy => ?_⟩, ?_, ?_⟩
 ·have h1 := dS h.sx (Nat.lt_succ_self i) ha hx
  have h2 := uV h.sy (show p ≤ k by omega) hy hb
  omega
 ·have h1 := dS h.sy (Nat.lt_succ_self k) hb hy
  have h2 := uV h.sx (show p ≤ i by omega) hx ha
  omega
 ·exact zN hb hk.symm fun j c hj hc => by have := dS h.sy hj hc hb; omega
 ·exact zN ha hk fun j c hj hc => by have := dS h.sx hj hc ha; omega
end Go.Bil
namespace Go.Bil
end Go.Bil
namespace Go.Bil
end Go.Bil
namespace Go.Bil
end Go.Bil
namespace Go.Bil
end Go.Bil
namespace Go.Bil
end Go.Bil
namespace Go.Bil
end Go.Bil

namespace Go.Bil
theorem aMw {v : List Body} (he : oF v = 0) (hs : bW v) : gO v = 0 := by
 unfold gO
 rw [if_neg (by omega), if_pos (aGg hs)]
end Go.Bil

namespace Go.Bil
structure Bx where
 x0 : Int
 y0 : Int
 x1 : Int
 y1 : Int
 deriving DecidableEq, Inhabited
def dF (a : Bx) : List Value := [.int .i32 a.x0, .int .i32 a.y0, .int .i32 a.x1, .int .i32 a.y1]
def aPq (b : Body) : Int := max b.ax (-b.ax) + b.radius
def aPc (b : Body) : Int := max b.ay (-b.ay) + b.radius
def iI (b : Body) : Bx := ⟨b.px - aPq b, b.py - aPc b, b.px + aPq b, b.py + aPc b⟩
abbrev gM (a : Bx) : Prop := a.x1 < a.x0 ∨ a.y1 < a.y0
def iY : Bx := ⟨1, 0, 0, 0⟩
def aAv (a b : Bx) : Bx := if gM ⟨max a.x0 b.x0, max a.y0 b.y0, min a.x1 b.x1, min a.y1 b.y1⟩ then iY else ⟨max a.x0 b.x0, max a.y0 b.y0, min a.x1 b.x1, min a.y1 b.y1⟩
abbrev ovl (a b : Bx) : Prop := (a.x0 ≤ a.x1 ∧ a.y0 ≤ a.y1) ∧ (b.x0 ≤ b.x1 ∧ b.y0 ≤ b.y1) ∧ (a.x0 ≤ b.x1 ∧ b.x0 ≤ a.x1 ∧ a.y0 ≤ b.y1 ∧ b.y0 ≤ a.y1)
theorem aTq (a b : Bx) : ¬ gM (aAv a b) ↔ ovl a b := by
 unfold aAv
 split
 ·rename_i h
  unfold gM at h
  simp only [gM, iY, ovl]
  simp only at h
  omega
 ·rename_i h
  unfold gM at h
  simp only [gM, ovl]
  simp only at h
  omega
structure Okb (b : Body) : Prop where
 r : 4096 ≤ b.radius ∧ b.radius ≤ 4194304
 a : -4194304 ≤ b.ax ∧ b.ax ≤ 4194304 ∧ -4194304 ≤ b.ay ∧ b.ay ≤ 4194304
 m : 0 ≤ b.mass ∧ b.mass ≤ 1048576
 c : 0 ≤ b.bounce ∧ b.bounce ≤ 65536
 p : -1073741824 ≤ b.px ∧ b.px ≤ 1073741824 ∧ -1073741824 ≤ b.py ∧ b.py ≤ 1073741824
 v : -16777216 ≤ b.vx ∧ b.vx ≤ 16777216 ∧ -16777216 ≤ b.vy ∧ b.vy ≤ 16777216
theorem aHt {b : Body} (h : check b = 0) : Okb b := by
 by_cases h1 : 4096 ≤ b.radius ∧ b.radius ≤ 4194304
 ·by_cases h2 : -4194304 ≤ b.ax ∧ b.ax ≤ 4194304 ∧ -4194304 ≤ b.ay ∧ b.ay ≤ 4194304
  ·by_cases h3 : 0 ≤ b.mass ∧ b.mass ≤ 1048576
   ·by_cases h4 : 0 ≤ b.bounce ∧ b.bounce ≤ 65536
    ·by_cases h5 : -1073741824 ≤ b.px ∧ b.px ≤ 1073741824 ∧ -1073741824 ≤ b.py ∧ b.py ≤ 1073741824
     ·by_cases h6 : -16777216 ≤ b.vx ∧ b.vx ≤ 16777216 ∧ -16777216 ≤ b.vy ∧ b.vy ≤ 16777216
      ·exact ⟨h1, h2, h3, h4, h5, h6⟩
      ·rw [aLh b h1 h2 h3 h4 h5 h6] at h; omega
     ·rw [aLj b h1 h2 h3 h4 h5] at h; omega
    ·rw [aMl b h1 h2 h3 h4] at h; omega
   ·rw [aMs b h1 h2 h3] at h; omega
  ·rw [aMn b h1 h2] at h; omega
 ·rw [aLb b h1] at h; omega
theorem aSc {b : Body} (h : Okb b) : 4096 ≤ aPq b ∧ aPq b ≤ 8388608 ∧ 4096 ≤ aPc b ∧ aPc b ≤ 8388608 := by
 have := h.r
 have := h.a
 unfold aPq aPc
 omega
structure Okx (a : Bx) : Prop where
 x0 : -2147483648 ≤ a.x0 ∧ a.x0 ≤ 2147483647
 y0 : -2147483648 ≤ a.y0 ∧ a.y0 ≤ 2147483647
 x1 : -2147483648 ≤ a.x1 ∧ a.x1 ≤ 2147483647
 y1 : -2147483648 ≤ a.y1 ∧ a.y1 ≤ 2147483647
theorem bAn {b : Body} (h : Okb b) : Okx (iI b) := by
 have h1 := aSc h
 have h2 := h.p
 constructor <;> simp only [iI] <;> omega
end Go.Bil

namespace Go.Bil
def cG (c : Int × Int) : List Value := [.int .i32 c.1, .int .i32 c.2]
def lM (x : Int) : Int := x.fdiv 4194304
theorem aZk (x : Int) : x.fdiv (2 ^ (min (22 : Int).toNat IntKind.i32.bits)) = lM x := rfl
theorem aEq (x : Int) : lM x = x / 4194304 := by unfold lM; exact Int.fdiv_eq_ediv_of_nonneg x (by decide)
theorem nW {x : Int} (h0 : -2147483648 ≤ x) (h1 : x ≤ 2147483647) : -512 ≤ lM x ∧ lM x ≤ 511 := by rw [aEq]; omega
theorem iV {x y : Int} (h : x ≤ y) : lM x ≤ lM y := by rw [aEq, aEq]; omega
def loC (a : Bx) : Int × Int := if gM a then (0, 0) else (lM a.x0, lM a.y0)
def hiC (a : Bx) : Int × Int := if gM a then (0, 0) else (lM a.x1, lM a.y1)
def nX (lo hi : Int × Int) : Nat := (hi.1 - lo.1 + 1).toNat
def nY (lo hi : Int × Int) : Nat := (hi.2 - lo.2 + 1).toNat
def zF (lo : Int × Int) (i j : Nat) : List (Int × Int) := (List.range i).map (fun (p : Nat) => (lo.1 + (p : Int), lo.2 + (j : Int)))
def lY (lo hi : Int × Int) (j : Nat) : List (Int × Int) := (List.range j).flatMap (fun q => zF lo (nX lo hi) q)
def tR (ok : Bool) (lo hi : Int × Int) : List (Int × Int) := if ok then lY lo hi (nY lo hi) else []
def fV (a : Bx) : List (Int × Int) := tR (decide (¬ gM a)) (loC a) (hiC a)
theorem aGt (lo : Int × Int) (i j : Nat) : (zF lo i j).length = i := by simp [zF]
theorem aPk (lo : Int × Int) (i j : Nat) : zF lo (i + 1) j = zF lo i j ++ [(lo.1 + (i : Int), lo.2 + (j : Int))] := by simp [zF, List.range_succ]
theorem zR (lo hi : Int × Int) (j : Nat) : lY lo hi (j + 1) = lY lo hi j ++ zF lo (nX lo hi) j := by simp [lY, List.range_succ]
theorem tX (lo hi : Int × Int) : ∀ j, (lY lo hi j).length = j * nX lo hi
 | 0 => by simp [lY]
 | j + 1 => by rw [zR, List.length_append, tX lo hi j, aGt, Nat.add_mul, Nat.one_mul]
theorem aUi {lo hi : Int × Int} {i j : Nat} (hx : nX lo hi ≤ 1024) (hj : j < 1024) (hi' : i < nX lo hi) : (lY lo hi j).length + i < 1048576 := by
 rw [tX]
 have : j * nX lo hi ≤ 1023 * 1024 := Nat.mul_le_mul (by omega) hx
 omega
theorem aQi {lo hi : Int × Int} {j : Nat} (hx : nX lo hi ≤ 1024) (hj : j ≤ 1024) : (lY lo hi j).length ≤ 1048576 := by
 rw [tX]
 exact Nat.mul_le_mul hj hx
theorem aOy {lo hi : Int × Int} {n : Nat} {c : Int × Int} : c ∈ lY lo hi n ↔ ∃ q p : Nat, q < n ∧ p < nX lo hi ∧ c = (lo.1 + (p : Int), lo.2 + (q : Int)) := by
 simp only [lY, zF, List.mem_flatMap, List.mem_range, List.mem_map]
 constructor
 ·rintro ⟨q, hq, p, hp, rfl⟩; exact ⟨q, p, hq, hp, rfl⟩
 ·rintro ⟨q, p, hq, hp, rfl⟩; exact ⟨q, hq, p, hp, rfl⟩
theorem xS {a : Bx} {c : Int × Int} : c ∈ fV a ↔ ¬ gM a ∧ lM a.x0 ≤ c.1 ∧ c.1 ≤ lM a.x1 ∧ lM a.y0 ≤ c.2 ∧ c.2 ≤ lM a.y1 := by
 unfold fV tR
 by_cases h : gM a
 ·simp [h]
 ·rw [if_pos (by simpa using h), aOy]
  simp only [loC, hiC, if_neg h, nX, nY]
  constructor
  ·rintro ⟨q, p, hq, hp, rfl⟩
   refine ⟨h, ?_⟩
   simp only
   omega
  ·rintro ⟨_, h1, h2, h3, h4⟩
   refine ⟨(c.2 - lM a.y0).toNat, (c.1 - lM a.x0).toNat, by omega, by omega, ?_⟩
   apply Prod.ext <;> simp only <;> omega
structure Okc (c : Int × Int) : Prop where
 x : -512 ≤ c.1 ∧ c.1 ≤ 511
 y : -512 ≤ c.2 ∧ c.2 ≤ 511
theorem aJj {a : Bx} (h : Okx a) : Okc (loC a) := by
 unfold loC
 split
 ·exact ⟨by decide, by decide⟩
 ·exact ⟨nW h.x0.1 h.x0.2, nW h.y0.1 h.y0.2⟩
theorem aKo {a : Bx} (h : Okx a) : Okc (hiC a) := by
 unfold hiC
 split
 ·exact ⟨by decide, by decide⟩
 ·exact ⟨nW h.x1.1 h.x1.2, nW h.y1.1 h.y1.2⟩
theorem aYw {lo hi : Int × Int} (h1 : Okc lo) (h2 : Okc hi) : nX lo hi ≤ 1024 := by
 have := h1.x; have := h2.x
 unfold nX
 omega
theorem aYv {lo hi : Int × Int} (h1 : Okc lo) (h2 : Okc hi) : nY lo hi ≤ 1024 := by
 have := h1.y; have := h2.y
 unfold nY
 omega
theorem aJv {a : Bx} (h : Okx a) : (fV a).length ≤ 1048576 := by
 unfold fV tR
 split
 ·exact aQi (aYw (aJj h) (aKo h)) (aYv (aJj h) (aKo h))
 ·simp
theorem aVf {a b : Bx} (h : ovl a b) : ∃ c, c ∈ fV a ∧ c ∈ fV b := by
 obtain ⟨⟨h1, h2⟩, ⟨h3, h4⟩, h5, h6, h7, h8⟩ := h
 refine ⟨(lM (max a.x0 b.x0), lM (max a.y0 b.y0)), xS.2 ⟨by unfold gM; omega, ?_⟩, xS.2 ⟨by unfold gM; omega, ?_⟩⟩
 ·exact ⟨iV (by omega), iV (by omega), iV (by omega), iV (by omega)⟩
 ·exact ⟨iV (by omega), iV (by omega), iV (by omega), iV (by omega)⟩
def qE (c : Int × Int) : Int :=
 IntKind.u32.wrap ((BitVec.ofInt 32 (IntKind.u32.wrap ((BitVec.ofInt 32 (IntKind.u32.wrap (IntKind.u32.wrap c.1 * 73856093)) ^^^ BitVec.ofInt 32 (IntKind.u32.wrap (IntKind.u32.wrap c.2 * 19349663))).toNat)) &&& BitVec.ofInt 32 1023).toNat)
def dK (c : Int × Int) : Nat := (qE c).toNat
theorem jX (c : Int × Int) : 0 ≤ qE c ∧ qE c < 1024 := by
 unfold qE
 generalize BitVec.ofInt 32 (IntKind.u32.wrap _) = a
 have h : (a &&& BitVec.ofInt 32 1023).toNat ≤ 1023 := by
  rw [BitVec.toNat_and]
  exact Nat.le_trans Nat.and_le_right (by decide)
 rw [aAs _ (by omega) (by omega)]
 omega
theorem iW (c : Int × Int) : dK c < 1024 := by have := jX c; unfold dK; omega
theorem aPs (c : Int × Int) : qE c = (dK c : Int) := by have := jX c; unfold dK; omega
end Go.Bil

namespace Go.Bil
def cB (n : Int) : List Int := [n / 16777216 % 256, n / 65536 % 256, n / 256 % 256, n % 256]
def aUz (b : Body) : List Int := [b.key, b.radius, b.ax, b.ay, b.mass, b.bounce, b.px, b.py, b.vx, b.vy]
def kD (b : Body) : List Int := (aUz b).flatMap cB
def gJ : List Int := [66, 73, 76, 49]
def jQ (v : List Body) : List Int := gJ ++ cB (v.length : Int) ++ v.flatMap kD
def dW (l : List Int) (a : Nat) : Int := ((l.getD a 0 * 256 + l.getD (a + 1) 0) * 256 + l.getD (a + 2) 0) * 256 + l.getD (a + 3) 0
def mO (n : Int) : Int := if 2147483648 ≤ n then n - 4294967296 else n
def kQ (l : List Int) (a : Nat) : Body := ⟨dW l a, mO (dW l (a + 4)), mO (dW l (a + 8)), mO (dW l (a + 12)), mO (dW l (a + 16)), mO (dW l (a + 20)), mO (dW l (a + 24)), mO (dW l (a + 28)), mO (dW l (a + 32)), mO (dW l (a + 36))⟩
abbrev yD (l : List Int) : Prop := 8 ≤ l.length ∧ l.take 4 = gJ ∧ (l.length : Int) = 8 + 40 * dW l 4
def lR (l : List Int) (n : Nat) : List Body := (List.range n).map (fun i => kQ l (8 + 40 * i))
def kH (l : List Int) : List Body × Int := if ¬ yD l then ([], 13) else if gO (lR l (dW l 4).toNat) ≠ 0 then ([], gO (lR l (dW l 4).toNat)) else (lR l (dW l 4).toNat, 0)
abbrev jH (l : List Int) : Prop := ∀ x ∈ l, 0 ≤ x ∧ x ≤ 255
theorem kY (n : Int) : (cB n).length = 4 := rfl
theorem aQu (b : Body) : (kD b).length = 40 := rfl
theorem aFp (v : List Body) : (v.flatMap kD).length = 40 * v.length := by
 induction v with
 | nil => rfl
 | cons b v ih => rw [List.flatMap_cons, List.length_append, ih, aQu, List.length_cons]; omega
theorem sZ (v : List Body) : (jQ v).length = 8 + 40 * v.length := by
 unfold jQ
 rw [List.length_append, List.length_append, aFp, kY]
 rfl
theorem yT (n : Int) : jH (cB n) := fun x hx => by
 simp only [cB, List.mem_cons, List.not_mem_nil, or_false] at hx
 rcases hx with rfl | rfl | rfl | rfl <;> omega
theorem aOr (b : Body) : jH (kD b) := fun x hx => by
 obtain ⟨n, _, h⟩ := List.mem_flatMap.1 hx
 exact yT n x h
theorem aBb (v : List Body) : jH (jQ v) := fun x hx => by
 unfold jQ at hx
 rcases List.mem_append.1 hx with h | h
 ·rcases List.mem_append.1 h with h | h
  ·simp only [gJ, List.mem_cons, List.not_mem_nil, or_false] at h
   rcases h with rfl | rfl | rfl | rfl <;> omega
  ·exact yT _ x h
 ·obtain ⟨b, _, h⟩ := List.mem_flatMap.1 h
  exact aOr b x h
theorem tZ (n : Int) : cB (n % 4294967296) = cB n := by
 unfold cB
 have h1 : n % 4294967296 / 16777216 % 256 = n / 16777216 % 256 := by omega
 have h2 : n % 4294967296 / 65536 % 256 = n / 65536 % 256 := by omega
 have h3 : n % 4294967296 / 256 % 256 = n / 256 % 256 := by omega
 have h4 : n % 4294967296 % 256 = n % 256 := by omega
 rw [h1, h2, h3, h4]
theorem aNp (n : Int) : cB (mO n) = cB n := by
 unfold mO
 split
 ·rw [← tZ (n - 4294967296), ← tZ n]
  congr 1
  omega
 ·rfl
theorem sS {A L B : List Int} {a : Nat} (ha : A.length = a) {j : Nat} (hj : j < L.length) : (A ++ (L ++ B)).getD (a + j) 0 = L.getD j 0 := by
 subst ha
 rw [List.getD_eq_getElem?_getD, List.getD_eq_getElem?_getD, List.getElem?_append_right (by omega), List.getElem?_append_left (by omega)]
 congr 2
 omega
theorem aCj {A B : List Int} {a : Nat} (ha : A.length = a) (n : Int) : dW (A ++ (cB n ++ B)) a = n % 4294967296 := by
 have h0 : (A ++ (cB n ++ B)).getD a 0 = n / 16777216 % 256 := sS (j := 0) ha (by rw [kY]; omega)
 have h1 : (A ++ (cB n ++ B)).getD (a + 1) 0 = n / 65536 % 256 := sS (j := 1) ha (by rw [kY]; omega)
 have h2 : (A ++ (cB n ++ B)).getD (a + 2) 0 = n / 256 % 256 := sS (j := 2) ha (by rw [kY]; omega)
 have h3 : (A ++ (cB n ++ B)).getD (a + 3) 0 = n % 256 := sS (j := 3) ha (by rw [kY]; omega)
 unfold dW
 rw [h0, h1, h2, h3]
 omega
theorem aYe {A B L : List Int} {a k : Nat} {n : Int} (ha : A.length = a) {P Q : List Int} (hL : L = P ++ (cB n ++ Q)) (hP : P.length = k) : dW (A ++ (L ++ B)) (a + k) = n % 4294967296 := by
 have e : A ++ (L ++ B) = (A ++ P) ++ (cB n ++ (Q ++ B)) := by rw [hL]; simp only [List.append_assoc]
 rw [e]
 exact aCj (by rw [List.length_append, ha, hP]) n
theorem kU {n : Int} (h : -2147483648 ≤ n ∧ n ≤ 2147483647) : mO (n % 4294967296) = n := by unfold mO; split <;> omega
theorem aKi {A B : List Int} {a : Nat} (ha : A.length = a) {b : Body} (h : InB b) : kQ (A ++ (kD b ++ B)) a = b := by
 have e : kD b = cB b.key ++ (cB b.radius ++ (cB b.ax ++ (cB b.ay ++ (cB b.mass ++ (cB b.bounce ++ (cB b.px ++ (cB b.py ++ (cB b.vx ++ (cB b.vy ++ []))))))))) := rfl
 have f (k : Nat) (n : Int) (P Q : List Int) (hL : kD b = P ++ (cB n ++ Q)) (hP : P.length = k) : dW (A ++ (kD b ++ B)) (a + k) = n % 4294967296 := aYe ha hL hP
 have f0 := f 0 b.key [] _ rfl rfl
 have f1 := f 4 b.radius (cB b.key) _ rfl rfl
 have f2 := f 8 b.ax (cB b.key ++ cB b.radius) _ rfl rfl
 have f3 := f 12 b.ay (cB b.key ++ cB b.radius ++ cB b.ax) _ rfl rfl
 have f4 := f 16 b.mass (cB b.key ++ cB b.radius ++ cB b.ax ++ cB b.ay) _ rfl rfl
 have f5 := f 20 b.bounce (cB b.key ++ cB b.radius ++ cB b.ax ++ cB b.ay ++ cB b.mass) _ rfl rfl
 have f6 := f 24 b.px (cB b.key ++ cB b.radius ++ cB b.ax ++ cB b.ay ++ cB b.mass ++ cB b.bounce) _ rfl rfl
 have f7 := f 28 b.py (cB b.key ++ cB b.radius ++ cB b.ax ++ cB b.ay ++ cB b.mass ++ cB b.bounce ++ cB b.px) _ rfl rfl
 have f8 := f 32 b.vx (cB b.key ++ cB b.radius ++ cB b.ax ++ cB b.ay ++ cB b.mass ++ cB b.bounce ++ cB b.px ++ cB b.py) _ rfl rfl
 have f9 := f 36 b.vy (cB b.key ++ cB b.radius ++ cB b.ax ++ cB b.ay ++ cB b.mass ++ cB b.bounce ++ cB b.px ++ cB b.py ++ cB b.vx) [] rfl rfl
 rw [Nat.add_zero] at f0
 obtain ⟨h0, h1, h2, h3, h4, h5, h6, h7, h8, h9⟩ := h
 unfold kQ
 rw [f0, f1, f2, f3, f4, f5, f6, f7, f8, f9, kU (by omega), kU (by omega), kU (by omega), kU (by omega), kU (by omega), kU (by omega), kU (by omega), kU (by omega), kU (by omega), Int.emod_eq_of_lt (by omega) (by omega)]
theorem aJa {v : List Body} {i : Nat} {b : Body} (h : v[i]? = some b) : jQ v = (gJ ++ cB (v.length : Int) ++ (v.take i).flatMap kD) ++ (kD b ++ (v.drop (i + 1)).flatMap kD) := by
 have hi := List.getElem?_eq_some_iff.1 h
 have e : v.flatMap kD = (v.take i).flatMap kD ++ (kD b ++ (v.drop (i + 1)).flatMap kD) := by
  conv => lhs; rw [← List.take_append_drop i v, List.drop_eq_getElem_cons hi.1, hi.2]
  rw [List.flatMap_append, List.flatMap_cons]
 unfold jQ
 rw [e]
 simp only [List.append_assoc]
theorem aFh {v : List Body} {i : Nat} {b : Body} (h : v[i]? = some b) (hb : InB b) : kQ (jQ v) (8 + 40 * i) = b := by
 rw [aJa h]
 refine aKi ?_ hb
 have hi := (List.getElem?_eq_some_iff.1 h).1
 rw [List.length_append, List.length_append, aFp, List.length_take, kY, Nat.min_eq_left (by omega)]
 rfl
theorem aCl (v : List Body) (h : v.length < 4294967296) : dW (jQ v) 4 = (v.length : Int) := by
 have e : jQ v = gJ ++ (cB (v.length : Int) ++ v.flatMap kD) := by unfold jQ; rw [List.append_assoc]
 rw [e, aCj (A := gJ) (a := 4) rfl]
 omega
theorem aRx {v : List Body} (hb : ∀ b ∈ v, InB b) : lR (jQ v) v.length = v := by
 refine List.ext_getElem? fun i => ?_
 unfold lR
 rw [List.getElem?_map]
 by_cases hi : i < v.length
 ·have hv := List.getElem?_eq_getElem hi
  rw [List.getElem?_range hi, hv]
  show some (kQ (jQ v) (8 + 40 * i)) = some v[i]
  rw [aFh hv (hb _ (List.getElem_mem hi))]
 ·rw [List.getElem?_eq_none (by omega : v.length ≤ i), List.getElem?_eq_none (by rw [List.length_range]; omega)]
  rfl
theorem aVb (v : List Body) (h : v.length ≤ 4096) : yD (jQ v) := by
 have hl := sZ v
 refine ⟨by omega, rfl, ?_⟩
 rw [aCl v (by omega), hl]
 omega
theorem aVe {v : List Body} (hb : ∀ b ∈ v, InB b) (hl : v.length ≤ 4096) (hc : gO v = 0) : kH (jQ v) = (v, 0) := by
 unfold kH
 rw [if_neg (Decidable.not_not.2 (aVb v hl)), aCl v (by omega), Int.toNat_natCast, aRx hb, if_neg (by omega)]
theorem oV {l : List Int} (hl : jH l) {a : Nat} (h : a + 4 ≤ l.length) : 0 ≤ dW l a ∧ dW l a ≤ 4294967295 ∧ cB (dW l a) = (l.drop a).take 4 := by
 have g (j : Nat) (hj : j < l.length) : l[j]? = some (l.getD j 0) ∧ 0 ≤ l.getD j 0 ∧ l.getD j 0 ≤ 255 := by
  rw [List.getD_eq_getElem?_getD, List.getElem?_eq_getElem hj]
  have hb := hl _ (List.getElem_mem hj)
  exact ⟨rfl, hb.1, hb.2⟩
 obtain ⟨g0, g1, g2⟩ := g a (by omega)
 obtain ⟨g3, g4, g5⟩ := g (a + 1) (by omega)
 obtain ⟨g6, g7, g8⟩ := g (a + 2) (by omega)
 obtain ⟨g9, ga, gb⟩ := g (a + 3) (by omega)
 have e : (l.drop a).take 4 = [l.getD a 0, l.getD (a + 1) 0, l.getD (a + 2) 0, l.getD (a + 3) 0] := by
  have hlen : ((l.drop a).take 4).length = 4 := by rw [List.length_take, List.length_drop]; omega
  refine List.ext_getElem? fun j => ?_
  rcases (show j = 0 ∨ j = 1 ∨ j = 2 ∨ j = 3 ∨ 4 ≤ j by omega) with rfl | rfl | rfl | rfl | hj
  ·rw [List.getElem?_take_of_lt (by omega), List.getElem?_drop]; simpa using g0
  ·rw [List.getElem?_take_of_lt (by omega), List.getElem?_drop]; simpa using g3
  ·rw [List.getElem?_take_of_lt (by omega), List.getElem?_drop]; simpa using g6
  ·rw [List.getElem?_take_of_lt (by omega), List.getElem?_drop]; simpa using g9
  ·rw [List.getElem?_eq_none (by omega), List.getElem?_eq_none (by simpa using hj)]
 rw [e]
 unfold dW cB
 generalize l.getD a 0 = p at *
 generalize l.getD (a + 1) 0 = q at *
 generalize l.getD (a + 2) 0 = r at *
 generalize l.getD (a + 3) 0 = s at *
 refine ⟨by omega, by omega, ?_⟩
 have h1 : (((p * 256 + q) * 256 + r) * 256 + s) / 16777216 % 256 = p := by omega
 have h2 : (((p * 256 + q) * 256 + r) * 256 + s) / 65536 % 256 = q := by omega
 have h3 : (((p * 256 + q) * 256 + r) * 256 + s) / 256 % 256 = r := by omega
 have h4 : (((p * 256 + q) * 256 + r) * 256 + s) % 256 = s := by omega
 rw [h1, h2, h3, h4]
theorem aJo (l : List Int) (k : Nat) : ∀ n, (List.range n).flatMap (fun i => (l.drop (k * i)).take k) = l.take (k * n)
 | 0 => by simp
 | n + 1 => by
  rw [List.range_succ, List.flatMap_append, aJo l k n, List.flatMap_cons, List.flatMap_nil, List.append_nil, Nat.mul_succ, List.take_add]
theorem kT {n : Int} (h : 0 ≤ n ∧ n ≤ 4294967295) : -2147483648 ≤ mO n ∧ mO n ≤ 2147483647 := by unfold mO; split <;> omega
theorem aOv {l : List Int} (hl : jH l) {a : Nat} (h : a + 40 ≤ l.length) : InB (kQ l a) := by
 have f (k : Nat) (hk : k ≤ 36) : 0 ≤ dW l (a + k) ∧ dW l (a + k) ≤ 4294967295 := by
  have := oV hl (a := a + k) (by omega)
  exact ⟨this.1, this.2.1⟩
 exact ⟨f 0 (by omega), kT (f 4 (by omega)), kT (f 8 (by omega)), kT (f 12 (by omega)), kT (f 16 (by omega)), kT (f 20 (by omega)), kT (f 24 (by omega)), kT (f 28 (by omega)), kT (f 32 (by omega)), kT (f 36 (by omega))⟩
theorem aWx {l : List Int} (hl : jH l) {a : Nat} (h : a + 40 ≤ l.length) : kD (kQ l a) = (l.drop a).take 40 := by
 have f (k : Nat) (hk : k ≤ 36) : cB (dW l (a + k)) = ((l.drop a).drop k).take 4 := by rw [List.drop_drop]; exact (oV hl (a := a + k) (by omega)).2.2
 have e := aJo (l.drop a) 4 10
 rw [← e]
 unfold kD aUz kQ
 simp only [List.flatMap_cons, List.flatMap_nil, aNp]
 have f0 := f 0 (by omega)
 rw [Nat.add_zero] at f0
 rw [f0, f 4 (by omega), f 8 (by omega), f 12 (by omega), f 16 (by omega), f 20 (by omega), f 24 (by omega), f 28 (by omega), f 32 (by omega), f 36 (by omega)]
 rfl
theorem xP (l : List Int) (n : Nat) : (lR l n).length = n := by unfold lR; rw [List.length_map, List.length_range]
theorem aAq {α β : Type} {l : List α} {f g : α → List β} (h : ∀ x ∈ l, f x = g x) : l.flatMap f = l.flatMap g := by
 induction l with
 | nil => rfl
 | cons x l ih => rw [List.flatMap_cons, List.flatMap_cons, h x (by simp), ih fun y hy => h y (by simp [hy])]
theorem aRu {l : List Int} (hl : jH l) {n : Nat} (h : l.length = 8 + 40 * n) : (lR l n).flatMap kD = l.drop 8 := by
 unfold lR
 rw [List.flatMap_map, aAq (g := fun i => ((l.drop 8).drop (40 * i)).take 40) (fun i hi => by
  have := List.mem_range.1 hi
  rw [List.drop_drop]
  exact aWx hl (by omega)), aJo, List.take_of_length_le (by rw [List.length_drop]; omega)]
structure DecOk (l : List Int) (v : List Body) : Prop where
 n : l.length = 8 + 40 * v.length
 e : jQ v = l
 inb : ∀ b ∈ v, InB b
 c : gO v = 0
theorem aLt {l : List Int} (hl : jH l) (h : (kH l).2 = 0) : DecOk l (kH l).1 := by
 unfold kH at h ⊢
 by_cases hf : yD l
 ·rw [if_neg (Decidable.not_not.2 hf)] at h ⊢
  by_cases hc : gO (lR l (dW l 4).toNat) = 0
  ·rw [if_neg (by omega)]
   obtain ⟨h8, hm, hn⟩ := hf
   have hr := oV hl (a := 4) (by omega)
   have hlen : l.length = 8 + 40 * (dW l 4).toNat := by omega
   show DecOk l (lR l (dW l 4).toNat)
   refine ⟨by rw [xP]; exact hlen, ?_, ?_, hc⟩
   ·unfold jQ
    rw [aRu hl hlen, xP, show (((dW l 4).toNat : Nat) : Int) = dW l 4 by omega, hr.2.2, ← hm, ← List.take_add, List.take_append_drop]
   ·intro b hb
    unfold lR at hb
    obtain ⟨i, hi, rfl⟩ := List.mem_map.1 hb
    have := List.mem_range.1 hi
    exact aOv hl (by omega)
  ·rw [if_pos hc] at h
   exact absurd h hc
 ·rw [if_pos hf] at h
  cases h
def vA (b : Body) : List Int := [b.key, b.radius % 4294967296, b.ax % 4294967296, b.ay % 4294967296, b.mass % 4294967296, b.bounce % 4294967296, b.px % 4294967296, b.py % 4294967296, b.vx % 4294967296, b.vy % 4294967296]
theorem aOh (b : Body) : (vA b).flatMap cB = kD b := by
 unfold vA kD aUz
 simp only [List.flatMap_cons, List.flatMap_nil, tZ]
theorem aNf {b : Body} (h : InB b) : ∀ x ∈ vA b, 0 ≤ x ∧ x ≤ 4294967295 := by
 obtain ⟨h0, _⟩ := h
 intro x hx
 simp only [vA, List.mem_cons, List.not_mem_nil, or_false] at hx
 rcases hx with rfl | rfl | rfl | rfl | rfl | rfl | rfl | rfl | rfl | rfl <;> omega
theorem aOi {L : List Int} {j : Nat} {x : Int} (h : L[j]? = some x) : (L.take (j + 1)).flatMap cB = (L.take j).flatMap cB ++ cB x := by
 rw [cV h, List.flatMap_append, List.flatMap_cons, List.flatMap_nil, List.append_nil]
theorem aNw {v : List Body} {j : Nat} {x : Body} (h : v[j]? = some x) : (v.take (j + 1)).flatMap kD = (v.take j).flatMap kD ++ kD x := by
 rw [cV h, List.flatMap_append, List.flatMap_cons, List.flatMap_nil, List.append_nil]
theorem gV {l : List Int} {a m : Nat} (h : 4 ≤ m) : dW ((l.drop a).take m) 0 = dW l a := by
 have g (j : Nat) (hj : j < m) : ((l.drop a).take m).getD j 0 = l.getD (a + j) 0 := by
  rw [List.getD_eq_getElem?_getD, List.getD_eq_getElem?_getD, List.getElem?_take_of_lt hj, List.getElem?_drop]
 unfold dW
 rw [g 0 (by omega), g (0 + 1) (by omega), g (0 + 2) (by omega), g (0 + 3) (by omega)]
 rfl
theorem aNy (l : List Int) (k : Nat) : lR l (k + 1) = lR l k ++ [kQ l (8 + 40 * k)] := by unfold lR; rw [List.range_succ, List.map_append]; rfl
theorem jH.sub {l : List Int} (h : jH l) (a m : Nat) : jH ((l.drop a).take m) := fun x hx => h x (List.mem_of_mem_drop (List.mem_of_mem_take hx))
end Go.Bil
namespace Go.Bil
theorem vW {l : List Int} (h : ¬ yD l) : kH l = ([], 13) := by unfold kH; rw [if_pos h]
theorem aWl {l : List Int} {N : Nat} (h : yD l) (hN : dW l 4 = (N : Int)) (hc : gO (lR l N) ≠ 0) : kH l = ([], gO (lR l N)) := by
 unfold kH; rw [if_neg (Decidable.not_not.2 h), hN, Int.toNat_natCast, if_pos hc]
theorem aTl {l : List Int} {N : Nat} (h : yD l) (hN : dW l 4 = (N : Int)) (hc : gO (lR l N) = 0) : kH l = (lR l N, 0) := by
 unfold kH; rw [if_neg (Decidable.not_not.2 h), hN, Int.toNat_natCast, if_neg (by omega)]
theorem bFf {l : List Int} (hl : jH l) {a : Nat} (h : a + 40 ≤ l.length) : ∀ x ∈ ([dW l a, dW l (a + 4), dW l (a + 8), dW l (a + 12), dW l (a + 16), dW l (a + 20), dW l (a + 24), dW l (a + 28), dW l (a + 32), dW l (a + 36)] : List Int), 0 ≤ x ∧ x ≤ 4294967295 := by
 have f (k : Nat) (hk : k ≤ 36) : 0 ≤ dW l (a + k) ∧ dW l (a + k) ≤ 4294967295 := by
  have := oV hl (a := a + k) (by omega)
  exact ⟨this.1, this.2.1⟩
 intro x hx
 simp only [List.mem_cons, List.not_mem_nil, or_false] at hx
 rcases hx with rfl | rfl | rfl | rfl | rfl | rfl | rfl | rfl | rfl | rfl
 ·exact f 0 (by omega)
 ·exact f 4 (by omega)
 ·exact f 8 (by omega)
 ·exact f 12 (by omega)
 ·exact f 16 (by omega)
 ·exact f 20 (by omega)
 ·exact f 24 (by omega)
 ·exact f 28 (by omega)
 ·exact f 32 (by omega)
 ·exact f 36 (by omega)
theorem uM : gJ = ([66, 73, 76, 49] : List UInt8).map (fun y => (y.toNat : Int)) := by decide
end Go.Bil
