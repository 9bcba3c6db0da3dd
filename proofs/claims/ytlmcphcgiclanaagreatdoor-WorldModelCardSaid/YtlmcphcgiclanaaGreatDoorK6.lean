/- Part of the proof of the laws of this seat: Md4, Md5, Md7, Md8, MdB, MdC, Mf1. No conditions. -/
import Derived.Test.YtlmcphcgiclanaaGreatDoorK4
import Derived.Test.YtlmcphcgiclanaaGreatDoorK3
set_option linter.unusedVariables false
set_option linter.unusedSimpArgs false
set_option linter.unnecessarySimpa false
namespace Go.Bil
def cS (s : List Body) : Prop := s.Pairwise (fun a b => a.key < b.key)
def qD (k : Int) (s : List Body) : List Body := s.filter (fun x => decide (x.key ≠ k))
def sB (b : Body) : Bool → List Body → List Body
 | true, s => qD b.key s
 | false, [] => [b]
 | false, x :: l => if b.key ≤ x.key then b :: qD b.key (x :: l) else x :: sB b false l
def bJp (b : Body) (r : List Body × Bool) : List Body := if r.2 then r.1 else r.1 ++ [b]
theorem qF (b : Body) : ∀ (s acc : List Body) (d : Bool), bJp b (s.foldl (fL b) (acc, d)) = acc ++ sB b d s
 | [], acc, true => by simp [sB, qD, bJp]
 | [], acc, false => by simp [sB, bJp]
 | x :: l, acc, true => by
  have ih := qF b l (if x.key ≠ b.key then acc ++ [x] else acc) true
  rw [List.foldl_cons]
  have e : fL b (acc, true) x = (if x.key ≠ b.key then acc ++ [x] else acc, true) := by unfold fL; by_cases h : x.key = b.key <;> simp [h]
  rw [e, ih]
  by_cases h : x.key = b.key <;> simp [sB, qD, h]
 | x :: l, acc, false => by
  rw [List.foldl_cons]
  by_cases hb : b.key ≤ x.key
  ·have ih := qF b l (if x.key ≠ b.key then acc ++ [b] ++ [x] else acc ++ [b]) true
   have e : fL b (acc, false) x = (if x.key ≠ b.key then acc ++ [b] ++ [x] else acc ++ [b], true) := by unfold fL; by_cases h : x.key = b.key <;> simp [h, hb]
   rw [e, ih]
   by_cases h : x.key = b.key <;> simp [sB, qD, h, hb]
  ·have hne : x.key ≠ b.key := by omega
   have ih := qF b l (acc ++ [x]) false
   have e : fL b (acc, false) x = (acc ++ [x], false) := by unfold fL; simp [hb, hne]
   rw [e, ih]
   simp [sB, hb]
theorem aRn (s : List Body) (b : Body) (g : Bool) : uL s b g = sB b g s := by
 have := qF b s [] g
 rw [List.nil_append] at this
 exact this
theorem xI (b : Body) : ∀ s : List Body, (sB b false s).Perm (b :: qD b.key s)
 | [] => by simp [sB, qD]
 | x :: l => by
  unfold sB
  split
  ·exact List.Perm.refl _
  ·rename_i h
   have hne : x.key ≠ b.key := by omega
   have e : qD b.key (x :: l) = x :: qD b.key l := by simp [qD, hne]
   rw [e]
   exact ((xI b l).cons x).trans (List.Perm.swap b x _)
theorem aBj {k : Int} {s : List Body} {x : Body} : x ∈ qD k s ↔ x ∈ s ∧ x.key ≠ k := by simp [qD]
theorem cS.cut {s : List Body} (h : cS s) (k : Int) : cS (qD k s) := List.Pairwise.sublist List.filter_sublist h
theorem cS.put {b : Body} : ∀ {s : List Body}, cS s → cS (sB b false s)
 | [], _ => by simp [sB, cS]
 | x :: l, h => by
  unfold sB
  have hx : ∀ y ∈ l, x.key < y.key := (List.pairwise_cons.1 h).1
  have hl : cS l := (List.pairwise_cons.1 h).2
  split
  ·rename_i hb
   refine List.pairwise_cons.2 ⟨fun y hy => ?_, h.cut _⟩
   obtain ⟨h1, h2⟩ := aBj.1 hy
   rcases List.mem_cons.1 h1 with rfl | h1
   ·omega
   ·have := hx y h1; omega
  ·rename_i hb
   refine List.pairwise_cons.2 ⟨fun y hy => ?_, cS.put hl⟩
   have := (xI b l).mem_iff.1 hy
   rcases List.mem_cons.1 this with rfl | h1
   ·omega
   ·exact hx y (aBj.1 h1).1
def pH (s : List Body) (b : Body) : List Body × Int :=
 if check b ≠ 0 then (s, check b) else if 0 ≤ dG b.key s then (s, 10) else if 4096 ≤ s.length then (s, 12) else (uL s b false, 0)
def oP (k : Int) : Body := ⟨k, 0, 0, 0, 0, 0, 0, 0, 0, 0⟩
def iV (s : List Body) (k : Int) : List Body × Int := if dG k s < 0 then (s, 11) else (uL s (oP k) true, 0)
def aYg (s : List Body) (b : Body) : List Body × Int :=
 if check b ≠ 0 then (s, check b) else if dG b.key s < 0 then (s, 11) else (uL s b false, 0)
structure Rel (m s : List Body) : Prop where
 perm : s.Perm m
 sorted : cS s
theorem Rel.nil : Rel [] [] := ⟨List.Perm.refl _, by simp [cS]⟩
theorem cS.unique {s t : List Body} (h : cS s) (h' : cS t) (p : s.Perm t) : s = t :=
 List.Perm.eq_of_pairwise (le := fun (a b : Body) => a.key < b.key) (fun a b _ _ h1 h2 => by omega) h h' p
theorem cS.keys {s : List Body} (h : cS s) : jO s := by
 unfold jO List.Nodup
 rw [List.pairwise_map]
 exact h.imp (fun h => by omega)
theorem Rel.keys {m s : List Body} (R : Rel m s) : jO m := R.sorted.keys.perm R.perm.symm
theorem Rel.find {m s : List Body} (R : Rel m s) (k : Int) : dG k s < 0 ↔ dG k m < 0 := by
 rw [mE, mE]
 exact ⟨fun h b hb => h b (R.perm.mem_iff.2 hb), fun h b hb => h b (R.perm.mem_iff.1 hb)⟩
theorem aGr {k : Int} {s : List Body} (h : dG k s < 0) : qD k s = s := List.filter_eq_self.2 fun x hx => by simpa using mE.1 h x hx
theorem Rel.put {m s : List Body} (R : Rel m s) (b : Body) {m' : List Body} (h : m'.Perm (b :: qD b.key m)) : Rel m' (uL s b false) := by
 rw [aRn]
 exact ⟨((xI b s).trans ((R.perm.filter _).cons b)).trans h.symm, R.sorted.put⟩
theorem Rel.add {m s : List Body} (R : Rel m s) (b : Body) : Rel (mY m b).1 (pH s b).1 ∧ (pH s b).2 = (mY m b).2 := by
 unfold mY pH
 have hf := R.find b.key
 have hl := R.perm.length_eq
 by_cases h1 : check b ≠ 0
 ·rw [if_pos h1, if_pos h1]; exact ⟨R, rfl⟩
 ·rw [if_neg h1, if_neg h1]
  by_cases h2 : 0 ≤ dG b.key m
  ·have h2' : 0 ≤ dG b.key s := by omega
   rw [if_pos h2, if_pos h2']; exact ⟨R, rfl⟩
  ·have h2' : ¬ 0 ≤ dG b.key s := by omega
   rw [if_neg h2, if_neg h2', hl]
   by_cases h3 : 4096 ≤ m.length
   ·rw [if_pos h3, if_pos h3]; exact ⟨R, rfl⟩
   ·rw [if_neg h3, if_neg h3]
    refine ⟨R.put b ?_, rfl⟩
    rw [aGr (by omega)]
    exact List.perm_append_singleton b m
theorem uU {m : List Body} (h : jO m) {i : Nat} {b : Body} (hi : m[i]? = some b) : m.eraseIdx i = qD b.key m := by
 have e : m = m.take i ++ b :: m.drop (i + 1) := by
  have hlt := (List.getElem?_eq_some_iff.1 hi).1
  have hb : m[i] = b := (List.getElem?_eq_some_iff.1 hi).2
  rw [← hb, ← List.drop_eq_getElem_cons hlt, List.take_append_drop]
 have hne := aFw h hi
 rw [List.eraseIdx_eq_take_drop_succ] at hne ⊢
 conv => rhs; rw [e]
 unfold qD
 rw [List.filter_append, List.filter_cons]
 simp only [ne_eq, not_true_eq_false, decide_false, Bool.false_eq_true, if_false]
 rw [List.filter_eq_self.2 (fun x hx => by simpa using hne x (List.mem_append_left _ hx)), List.filter_eq_self.2 (fun x hx => by simpa using hne x (List.mem_append_right _ hx))]
theorem Rel.remove {m s : List Body} (R : Rel m s) (k : Int) : Rel (kU m k).1 (iV s k).1 ∧ (iV s k).2 = (kU m k).2 := by
 unfold kU iV
 have hf := R.find k
 by_cases h : dG k m < 0
 ·rw [if_pos h, if_pos (hf.2 h)]; exact ⟨R, rfl⟩
 ·rw [if_neg h, if_neg (fun h' => h (hf.1 h'))]
  refine ⟨?_, rfl⟩
  rcases eI k m with ⟨h1, _⟩ | ⟨i, b, h1, h2, h3⟩
  ·omega
  ·rw [h3, Int.toNat_natCast, aRn]
   have hlt := (List.getElem?_eq_some_iff.1 h1).1
   have hk : (oP k).key = b.key := h2.symm
   have he : sB (oP k) true s = qD b.key s := by unfold sB; rw [hk]
   refine ⟨?_, by rw [he]; exact R.sorted.cut _⟩
   show (sB (oP k) true s).Perm _
   rw [he]
   exact (R.perm.filter _).trans ((List.Perm.of_eq (uU R.keys h1).symm).trans (pM hlt).symm)
theorem aXx {m : List Body} {i : Nat} {x : Body} (hi : i < m.length) : (m.set i x).Perm (x :: m.eraseIdx i) := by
 rw [List.set_eq_take_append_cons_drop, if_pos hi, List.eraseIdx_eq_take_drop_succ]
 exact List.perm_middle
theorem Rel.set {m s : List Body} (R : Rel m s) (b : Body) : Rel (uY m b).1 (aYg s b).1 ∧ (aYg s b).2 = (uY m b).2 := by
 unfold uY aYg
 have hf := R.find b.key
 by_cases h1 : check b ≠ 0
 ·rw [if_pos h1, if_pos h1]; exact ⟨R, rfl⟩
 ·rw [if_neg h1, if_neg h1]
  by_cases h : dG b.key m < 0
  ·rw [if_pos h, if_pos (hf.2 h)]; exact ⟨R, rfl⟩
  ·rw [if_neg h, if_neg (fun h' => h (hf.1 h'))]
   refine ⟨?_, rfl⟩
   rcases eI b.key m with ⟨h1, _⟩ | ⟨i, c, h1, h2, h3⟩
   ·omega
   ·rw [h3, Int.toNat_natCast]
    have hlt := (List.getElem?_eq_some_iff.1 h1).1
    refine R.put b ((aXx hlt).trans ?_)
    rw [uU R.keys h1, h2]
theorem Rel.get {m s : List Body} (R : Rel m s) (k : Int) : (dG k s < 0 ∧ aCy m k = (oP 0, 11)) ∨ ∃ (i : Nat) (b : Body), dG k s = (i : Int) ∧ s[i]? = some b ∧ aCy m k = (b, 0) := by
 rcases eI k s with ⟨h1, h2⟩ | ⟨i, b, h1, h2, h3⟩
 ·have hm : dG k m < 0 := (R.find k).1 (by omega)
  refine .inl ⟨by omega, ?_⟩
  unfold aCy
  rw [if_pos hm]
  rfl
 ·refine .inr ⟨i, b, h3, h1, ?_⟩
  have hb : b ∈ m := R.perm.mem_iff.1 (List.mem_of_getElem? h1)
  obtain ⟨j, hj⟩ := List.getElem?_of_mem hb
  have := rO R.keys hj
  rw [h2] at this
  exact xP this hj
theorem wI {a b : Int} : oJ a b < 0 ↔ a < b := by unfold oJ; (repeat' split) <;> omega
def aNn (b : Body) : List Body → List Body
 | [] => [b]
 | x :: l => if b.key ≤ x.key then b :: x :: l else x :: aNn b l
def zE (m : List Body) : List Body := m.foldr aNn []
theorem yE (b : Body) : ∀ l : List Body, (aNn b l).Perm (b :: l)
 | [] => List.Perm.refl _
 | x :: l => by
  unfold aNn
  split
  ·exact List.Perm.refl _
  ·exact ((yE b l).cons x).trans (List.Perm.swap b x l)
theorem nZ : ∀ m : List Body, (zE m).Perm m
 | [] => List.Perm.refl _
 | b :: m => (yE b (zE m)).trans ((nZ m).cons b)
def Up (s : List Body) : Prop := s.Pairwise (fun a b => a.key ≤ b.key)
theorem aRp (b : Body) : ∀ {l : List Body}, Up l → Up (aNn b l)
 | [], _ => by simp [aNn, Up]
 | x :: l, h => by
  unfold aNn
  have hx : ∀ y ∈ l, x.key ≤ y.key := (List.pairwise_cons.1 h).1
  split
  ·rename_i hb
   refine List.pairwise_cons.2 ⟨fun y hy => ?_, h⟩
   rcases List.mem_cons.1 hy with rfl | hy
   ·exact hb
   ·have := hx y hy; omega
  ·refine List.pairwise_cons.2 ⟨fun y hy => ?_, aRp b (List.pairwise_cons.1 h).2⟩
   have := (yE b l).mem_iff.1 hy
   rcases List.mem_cons.1 this with rfl | h1
   ·omega
   ·exact hx y h1
theorem aDe : ∀ m : List Body, Up (zE m)
 | [] => by simp [zE, Up]
 | b :: m => aRp b (aDe m)
theorem wZ {s : List Body} (h : Up s) (hk : jO s) : cS s := by
 unfold Up at h
 unfold jO List.Nodup at hk
 rw [List.pairwise_map] at hk
 exact (List.Pairwise.and h hk).imp (fun ⟨h1, h2⟩ => by omega)
theorem aUy {s t : List Body} (h : Up s) (h' : Up t) (p : s.Perm t) (hk : jO s) : s = t := (wZ h hk).unique (wZ h' (hk.perm p.symm)) p
theorem aTh {m : List Body} (hk : jO m) : Rel m (zE m) := ⟨nZ m, wZ (aDe m) (hk.perm (nZ m))⟩
theorem Rel.eq {m s : List Body} (R : Rel m s) : zE m = s := (aTh R.keys).sorted.unique R.sorted ((nZ m).trans R.perm.symm)
end Go.Bil
namespace Go.Bil
structure InB (b : Body) : Prop where
 key : 0 ≤ b.key ∧ b.key ≤ 4294967295
 radius : -2147483648 ≤ b.radius ∧ b.radius ≤ 2147483647
 ax : -2147483648 ≤ b.ax ∧ b.ax ≤ 2147483647
 ay : -2147483648 ≤ b.ay ∧ b.ay ≤ 2147483647
 mass : -2147483648 ≤ b.mass ∧ b.mass ≤ 2147483647
 bounce : -2147483648 ≤ b.bounce ∧ b.bounce ≤ 2147483647
 px : -2147483648 ≤ b.px ∧ b.px ≤ 2147483647
 py : -2147483648 ≤ b.py ∧ b.py ≤ 2147483647
 vx : -2147483648 ≤ b.vx ∧ b.vx ≤ 2147483647
 vy : -2147483648 ≤ b.vy ∧ b.vy ≤ 2147483647
theorem bId (l : List Value) (h : mT [.u32, .i32, .i32, .i32, .i32, .i32, .i32, .i32, .i32, .i32] l) : ∃ b, l = aF b ∧ InB b := by
 obtain ⟨z0, l0, rfl, w0, h0⟩ := gC h
 obtain ⟨z1, l1, rfl, w1, h1⟩ := gC h0
 obtain ⟨z2, l2, rfl, w2, h2⟩ := gC h1
 obtain ⟨z3, l3, rfl, w3, h3⟩ := gC h2
 obtain ⟨z4, l4, rfl, w4, h4⟩ := gC h3
 obtain ⟨z5, l5, rfl, w5, h5⟩ := gC h4
 obtain ⟨z6, l6, rfl, w6, h6⟩ := gC h5
 obtain ⟨z7, l7, rfl, w7, h7⟩ := gC h6
 obtain ⟨z8, l8, rfl, w8, h8⟩ := gC h7
 obtain ⟨z9, l9, rfl, w9, h9⟩ := gC h8
 obtain rfl := rG h9
 exact ⟨⟨z0, z1, z2, z3, z4, z5, z6, z7, z8, z9⟩, rfl, ⟨w0, w1, w2, w3, w4, w5, w6, w7, w8, w9⟩⟩
end Go.Bil

namespace Go.Bil
structure StV where
 A : Option Addr
 n : Nat
 c : Nat
 p : Option Nat
 er : fF
 em : fF
def aGm (l : List Body) : List Body := l.foldl (fun m b => (mY m b).1) []
theorem aBw {l : List Body} {k : Nat} {x : Body} (h : l[k]? = some x) : aGm (l.take (k + 1)) = (mY (aGm (l.take k)) x).1 := by
 unfold aGm
 rw [cR h, List.foldl_append]
 rfl
def yS (l : List Body) : List Body := l.filter (fun b => decide (check b = 0))
theorem aZd {m : List Body} {x : Body} (hf : ∀ b ∈ m, b.key ≠ x.key) (hl : m.length < 4096) : mY (yS m) x = (yS (m ++ [x]), check x) := by
 have hle : (yS m).length ≤ m.length := List.length_filter_le _ _
 unfold mY
 by_cases h : check x = 0
 ·rw [if_neg (by omega), if_neg (by
   have : dG x.key (yS m) < 0 := mE.2 fun b hb => hf b (List.mem_filter.1 hb).1
   omega), if_neg (by omega), h]
  simp [yS, List.filter_append, h]
 ·rw [if_pos h]
  simp [yS, List.filter_append, h]
theorem aJs {l : List Body} (h : jO l) {k : Nat} {x : Body} (hx : l[k]? = some x) : ∀ b ∈ l.take k, b.key ≠ x.key := by
 intro b hb e
 obtain ⟨j, hj⟩ := List.getElem?_of_mem hb
 rw [List.getElem?_take] at hj
 split at hj
 ·rename_i hlt
  have := h.inj hj hx e
  omega
 ·cases hj
theorem aAx {l : List Body} (h : jO l) (hl : l.length ≤ 4096) : ∀ k, k ≤ l.length → aGm (l.take k) = yS (l.take k)
 | 0, _ => by simp [aGm, yS]
 | k + 1, hk => by
  obtain ⟨x, hx⟩ := cT (xs := l) (k := k) rfl (by omega)
  rw [aBw hx, aAx h hl k (by omega), aZd (aJs h hx) (by rw [List.length_take]; omega), cR hx]
theorem aMq {m : List Body} (hk : jO m) (k : Int) : (kU m k).1.Perm (qD k m) := by
 unfold kU
 by_cases h : dG k m < 0
 ·rw [if_pos h, aGr h]
 ·rw [if_neg h]
  rcases eI k m with ⟨h1, _⟩ | ⟨i, b, h1, h2, h3⟩
  ·omega
  ·rw [h3, Int.toNat_natCast]
   have hlt := (List.getElem?_eq_some_iff.1 h1).1
   have := (pM hlt).trans (List.Perm.of_eq (uU hk h1))
   rwa [h2] at this
end Go.Bil
namespace Go.Bil
structure StepI where
 kind : Int
 body : Body
instance : Inhabited StepI := ⟨⟨0, oP 0⟩⟩
end Go.Bil

namespace Go.Bil
def lQ : List Body → Int
 | [] => 0
 | b :: l => if check b ≠ 0 then check b else lQ l
def nF (xs : List Body) : Int := if 4096 < xs.length then 12 else lQ xs
theorem mO : ∀ {xs : List Body}, (∀ (j : Nat) (c : Body), xs[j]? = some c → check c = 0) → lQ xs = 0
 | [], _ => rfl
 | b :: l, h => by
  unfold lQ
  rw [if_neg (by have := h 0 b (by simp); omega)]
  exact mO fun j c hj => h (j + 1) c (by simpa using hj)
theorem sG : ∀ {xs : List Body} {k : Nat} {b : Body}, xs[k]? = some b → check b ≠ 0 → (∀ (j : Nat) (c : Body), j < k → xs[j]? = some c → check c = 0) → lQ xs = check b
 | [], _, _, h, _, _ => by simp at h
 | a :: l, 0, b, h, hb, _ => by
  simp only [List.getElem?_cons_zero, Option.some.injEq] at h
  subst h
  unfold lQ
  rw [if_pos hb]
 | a :: l, k + 1, b, h, hb, hn => by
  unfold lQ
  rw [if_neg (by have := hn 0 a (by omega) (by simp); omega)]
  exact sG (by simpa using h) hb fun j c hj hc => hn (j + 1) c (by omega) (by simpa using hc)
theorem vM : ∀ {xs : List Body}, lQ xs = 0 → ∀ b ∈ xs, check b = 0
 | [], _, b, hb => by simp at hb
 | a :: l, h, b, hb => by
  unfold lQ at h
  by_cases ha : check a = 0
  ·rw [if_neg (by omega)] at h
   rcases List.mem_cons.1 hb with rfl | hb
   ·exact ha
   ·exact vM h b hb
  ·rw [if_pos ha] at h; exact absurd h ha
theorem aZa {xs : List Body} (h : nF xs = 0) : xs.length ≤ 4096 ∧ ∀ b ∈ xs, check b = 0 := by
 unfold nF at h
 split at h
 ·omega
 ·exact ⟨by omega, vM h⟩
theorem aWu {xs : List Body} (hl : xs.length ≤ 4096) (h : ∀ b ∈ xs, check b = 0) : nF xs = 0 := by
 unfold nF
 rw [if_neg (by omega)]
 exact mO fun j c hj => h c (List.mem_of_getElem? hj)
def aEw : List Body → Bool
 | x :: y :: l => decide (x.key < y.key) && aEw (y :: l)
 | _ => true
theorem sS : ∀ {xs : List Body}, (∀ (i : Nat) (x y : Body), xs[i]? = some x → xs[i + 1]? = some y → x.key < y.key) → aEw xs = true
 | [], _ => rfl
 | [_], _ => rfl
 | x :: y :: l, h => by
  unfold aEw
  rw [Bool.and_eq_true]
  exact ⟨decide_eq_true (h 0 x y (by simp) (by simp)), sS fun i a b ha hb => h (i + 1) a b (by simpa using ha) (by simpa using hb)⟩
theorem rY : ∀ {xs : List Body}, aEw xs = true → cS xs
 | [], _ => by simp [cS]
 | [_], _ => by simp [cS]
 | x :: y :: l, h => by
  unfold aEw at h
  rw [Bool.and_eq_true, decide_eq_true_eq] at h
  have ih := rY h.2
  refine List.pairwise_cons.2 ⟨fun z hz => ?_, ih⟩
  rcases List.mem_cons.1 hz with rfl | hz
  ·exact h.1
  ·have := (List.pairwise_cons.1 ih).1 z hz; have := h.1; omega
theorem aLq {xs : List Body} (h : cS xs) : aEw xs = true := sS fun i x y hx hy => by
 have hi := List.getElem?_eq_some_iff.1 hx
 have hj := List.getElem?_eq_some_iff.1 hy
 have := List.pairwise_iff_getElem.1 h i (i + 1) hi.1 hj.1 (by omega)
 rwa [hi.2, hj.2] at this
theorem aBy {xs : List Body} {i : Nat} {x y : Body} (hx : xs[i]? = some x) (hy : xs[i + 1]? = some y) (h : ¬ x.key < y.key) : aEw xs = false := by
 cases e : aEw xs with
 | false => rfl
 | true =>
  exfalso
  have hi := List.getElem?_eq_some_iff.1 hx
  have hj := List.getElem?_eq_some_iff.1 hy
  have := List.pairwise_iff_getElem.1 (rY e) i (i + 1) hi.1 hj.1 (by omega)
  rw [hi.2, hj.2] at this
  exact h this
def iT (xs : List Body) : Int := if nF xs ≠ 0 then nF xs else if aEw xs = true then 0 else 10
instance (m : List Body) : Decidable (jO m) := by unfold jO; infer_instance
def zD (key : Int) : List Body → Nat
 | [] => 0
 | b :: l => (if b.key < key then 1 else 0) + zD key l
theorem vP {key : Int} : ∀ {xs : List Body} {k : Nat}, k ≤ xs.length → (∀ (j : Nat) (c : Body), j < k → xs[j]? = some c → c.key < key) → (∀ (j : Nat) (c : Body), k ≤ j → xs[j]? = some c → ¬ c.key < key) → zD key xs = k
 | [], k, hk, _, _ => by simp at hk; simp [zD, hk]
 | b :: l, 0, _, _, h2 => by
  unfold zD
  rw [if_neg (h2 0 b (Nat.le_refl _) (by simp)), vP (k := 0) (by omega) (fun j c hj => by omega) (fun j c _ hc => h2 (j + 1) c (by omega) (by simpa using hc))]
 | b :: l, k + 1, hk, h1, h2 => by
  unfold zD
  rw [if_pos (h1 0 b (by omega) (by simp)), vP (k := k) (by simpa using hk) (fun j c hj hc => h1 (j + 1) c (by omega) (by simpa using hc)) (fun j c hj hc => h2 (j + 1) c (by omega) (by simpa using hc))]
  omega
def gS (k : Int) : List Value := [.int .u32 k]
end Go.Bil
namespace Go.Bil
theorem yO {xs : List Body} (h : cS xs) {p q : Nat} {a b : Body} (hpq : p ≤ q) (ha : xs[p]? = some a) (hb : xs[q]? = some b) : a.key ≤ b.key := by
 by_cases e : p = q
 ·subst e
  rw [ha] at hb
  injection hb with hb
  rw [hb]; exact Int.le_refl _
 ·have hi := List.getElem?_eq_some_iff.1 ha
  have hj := List.getElem?_eq_some_iff.1 hb
  have := List.pairwise_iff_getElem.1 h p q hi.1 hj.1 (by omega)
  rw [hi.2, hj.2] at this
  omega
theorem bMr (i j : Nat) : ((i : Int) + (j : Int)).fdiv (2 ^ (min (1 : Int).toNat IntKind.u64.bits)) = (((i + j) / 2 : Nat) : Int) := by
 have e : (2 : Int) ^ (min (1 : Int).toNat IntKind.u64.bits) = 2 := by decide
 rw [e, Int.fdiv_eq_ediv_of_nonneg _ (by omega)]
 omega
theorem rN {a b a' b' : Value} (h1 : a = a') (h2 : b = b') : Value.tuple #[a, b] = Value.tuple #[a', b'] := by rw [h1, h2]
theorem aSg {a b : Int} : oJ a b = 0 ↔ a = b := by unfold oJ; (repeat' split) <;> omega
theorem aTp {key : Int} {xs : List Body} (hs : cS xs) {i : Nat} {b : Body} (hb : xs[i]? = some b) (h1 : ∀ (j : Nat) (c : Body), j < i → xs[j]? = some c → c.key < key) (h2 : ∀ (j : Nat) (c : Body), i ≤ j → xs[j]? = some c → ¬ c.key < key) : oJ b.key key = 0 ↔ 0 ≤ dG key xs := by
 rw [aSg]
 constructor
 ·intro e
  rcases eI key xs with ⟨_, h⟩ | ⟨_, _, _, _, h⟩
  ·exact absurd e (h b (List.mem_of_getElem? hb))
  ·omega
 ·intro h
  rcases eI key xs with ⟨h', _⟩ | ⟨j, c, hc, hk, _⟩
  ·omega
  ·have hij : i ≤ j := by
    rcases Nat.lt_or_ge j i with hlt | hge
    ·have := h1 j c hlt hc; omega
    ·exact hge
   have := yO hs hij hb hc
   have := h2 i b (Nat.le_refl _) hb
   omega
theorem aOi {key : Int} {xs : List Body} (h1 : ∀ (j : Nat) (c : Body), j < xs.length → xs[j]? = some c → c.key < key) : ¬ 0 ≤ dG key xs := by
 intro h
 rcases eI key xs with ⟨h', _⟩ | ⟨j, c, hc, hk, _⟩
 ·omega
 ·have := h1 j c (List.getElem?_eq_some_iff.1 hc).1 hc
  omega
end Go.Bil
namespace Go.Bil
theorem aVx {α : Type} {xs ys : List α} {n m : Nat} (h1 : xs.length = n) (h2 : ys.length = m) (hnm : n = m) (h : ∀ (j : Nat) (x : α), j < n → xs[j]? = some x → ys[j]? = some x) : xs = ys := by
 apply List.ext_getElem?
 intro j
 by_cases hj : j < xs.length
 ·obtain ⟨x, hx⟩ := cT (k := j) rfl hj
  rw [hx, h j x (by omega) hx]
 ·rw [List.getElem?_eq_none (by omega), List.getElem?_eq_none (by omega)]
end Go.Bil
namespace Go.Bil
end Go.Bil
namespace Go.Bil
theorem aNo (k : Int) : ∀ y ∈ [gS k], y.length = 1 ∧ ∀ u ∈ y, one u = true := by
 intro y hy
 simp only [List.mem_singleton] at hy
 subst hy
 exact ⟨rfl, aT rfl⟩
end Go.Bil
namespace Go.Bil
structure Mg (xs ys : List Body) (i k : Nat) : Prop where
 sx : cS xs
 sy : cS ys
 yx : ∀ (p : Nat) (a b : Body), p < k → ys[p]? = some a → xs[i]? = some b → a.key < b.key
 xy : ∀ (p : Nat) (a b : Body), p < i → xs[p]? = some a → ys[k]? = some b → a.key < b.key
theorem Mg.swap {xs ys : List Body} {i k : Nat} (h : Mg xs ys i k) : Mg ys xs k i := ⟨h.sy, h.sx, h.xy, h.yx⟩
theorem fB {xs : List Body} (h : cS xs) {p q : Nat} {a b : Body} (hpq : p < q) (ha : xs[p]? = some a) (hb : xs[q]? = some b) : a.key < b.key := by
 have hi := List.getElem?_eq_some_iff.1 ha
 have hj := List.getElem?_eq_some_iff.1 hb
 have := List.pairwise_iff_getElem.1 h p q hi.1 hj.1 hpq
 rwa [hi.2, hj.2] at this
theorem Mg.x {xs ys : List Body} {i k : Nat} {a : Body} (h : Mg xs ys i k) (ha : xs[i]? = some a) (hb : ∀ b, ys[k]? = some b → a.key < b.key) : Mg xs ys (i + 1) k ∧ dG a.key ys < 0 := by
 refine ⟨⟨h.sx, h.sy, fun p y x hp hy hx => ?_, fun p x y hp hx hy => ?_⟩, mE.2 fun y hy => ?_⟩
 ·have := h.yx p y a hp hy ha
  have := fB h.sx (Nat.lt_succ_self i) ha hx
  omega
 ·by_cases e : p = i
  ·subst e
   rw [ha] at hx
   injection hx with hx
   subst hx
   exact hb y hy
  ·exact h.xy p x y (by omega) hx hy
 ·obtain ⟨q, hq⟩ := List.getElem?_of_mem hy
  rcases Nat.lt_or_ge q k with hlt | hge
  ·have := h.yx q y a hlt hq ha; omega
  ·obtain ⟨b, hbk⟩ := cT (xs := ys) (k := k) rfl (by have := (List.getElem?_eq_some_iff.1 hq).1; omega)
   have h1 := hb b hbk
   have h2 := yO h.sy hge hbk hq
   omega
theorem Mg.y {xs ys : List Body} {i k : Nat} {b : Body} (h : Mg xs ys i k) (hb : ys[k]? = some b) (ha : ∀ a, xs[i]? = some a → b.key < a.key) : Mg xs ys i (k + 1) ∧ dG b.key xs < 0 := by
 obtain ⟨h1, h2⟩ := h.swap.x hb ha
 exact ⟨h1.swap, h2⟩
theorem Mg.both {xs ys : List Body} {i k : Nat} {a b : Body} (h : Mg xs ys i k) (ha : xs[i]? = some a) (hb : ys[k]? = some b) (hk : a.key = b.key) : Mg xs ys (i + 1) (k + 1) ∧ dG a.key ys = (k : Int) ∧ dG b.key xs = (i : Int) := by
 refine ⟨⟨h.sx, h.sy, fun p y x hp hy hx => ?_, fun p x y hp hx hy => ?_⟩, ?_, ?_⟩
 ·have h1 := fB h.sx (Nat.lt_succ_self i) ha hx
  have h2 := yO h.sy (show p ≤ k by omega) hy hb
  omega
 ·have h1 := fB h.sy (Nat.lt_succ_self k) hb hy
  have h2 := yO h.sx (show p ≤ i by omega) hx ha
  omega
 ·exact wG hb hk.symm fun j c hj hc => by have := fB h.sy hj hc hb; omega
 ·exact wG ha hk fun j c hj hc => by have := fB h.sx hj hc ha; omega
end Go.Bil
namespace Go.Bil
end Go.Bil
namespace Go.Bil
end Go.Bil
namespace Go.Bil
end Go.Bil
namespace Go.Bil
end Go.Bil
namespace Go.Bil
end Go.Bil
namespace Go.Bil
end Go.Bil

namespace Go.Bil
theorem aSu {v : List Body} (he : nF v = 0) (hs : cS v) : iT v = 0 := by
 unfold iT
 rw [if_neg (by omega), if_pos (aLq hs)]
end Go.Bil

namespace Go.Bil
structure Bx where
 x0 : Int
 y0 : Int
 x1 : Int
 y1 : Int
 deriving DecidableEq, Inhabited
def eQ (a : Bx) : List Value := [.int .i32 a.x0, .int .i32 a.y0, .int .i32 a.x1, .int .i32 a.y1]
def aMz (b : Body) : Int := max b.ax (-b.ax) + b.radius
def aNv (b : Body) : Int := max b.ay (-b.ay) + b.radius
def gG (b : Body) : Bx := ⟨b.px - aMz b, b.py - aNv b, b.px + aMz b, b.py + aNv b⟩
abbrev jC (a : Bx) : Prop := a.x1 < a.x0 ∨ a.y1 < a.y0
def lG : Bx := ⟨1, 0, 0, 0⟩
def aGt (a b : Bx) : Bx := if jC ⟨max a.x0 b.x0, max a.y0 b.y0, min a.x1 b.x1, min a.y1 b.y1⟩ then lG else ⟨max a.x0 b.x0, max a.y0 b.y0, min a.x1 b.x1, min a.y1 b.y1⟩
abbrev ovl (a b : Bx) : Prop := (a.x0 ≤ a.x1 ∧ a.y0 ≤ a.y1) ∧ (b.x0 ≤ b.x1 ∧ b.y0 ≤ b.y1) ∧ (a.x0 ≤ b.x1 ∧ b.x0 ≤ a.x1 ∧ a.y0 ≤ b.y1 ∧ b.y0 ≤ a.y1)
theorem aZj (a b : Bx) : ¬ jC (aGt a b) ↔ ovl a b := by
 unfold aGt
 split
 ·rename_i h
  unfold jC at h
  simp only [jC, lG, ovl]
  simp only at h
  omega
 ·rename_i h
  unfold jC at h
  simp only [jC, ovl]
  simp only at h
  omega
structure Okb (b : Body) : Prop where
 r : 4096 ≤ b.radius ∧ b.radius ≤ 4194304
 a : -4194304 ≤ b.ax ∧ b.ax ≤ 4194304 ∧ -4194304 ≤ b.ay ∧ b.ay ≤ 4194304
 m : 0 ≤ b.mass ∧ b.mass ≤ 1048576
 c : 0 ≤ b.bounce ∧ b.bounce ≤ 65536
 p : -1073741824 ≤ b.px ∧ b.px ≤ 1073741824 ∧ -1073741824 ≤ b.py ∧ b.py ≤ 1073741824
 v : -16777216 ≤ b.vx ∧ b.vx ≤ 16777216 ∧ -16777216 ≤ b.vy ∧ b.vy ≤ 16777216
theorem aJl {b : Body} (h : check b = 0) : Okb b := by
 by_cases h1 : 4096 ≤ b.radius ∧ b.radius ≤ 4194304
 ·by_cases h2 : -4194304 ≤ b.ax ∧ b.ax ≤ 4194304 ∧ -4194304 ≤ b.ay ∧ b.ay ≤ 4194304
  ·by_cases h3 : 0 ≤ b.mass ∧ b.mass ≤ 1048576
   ·by_cases h4 : 0 ≤ b.bounce ∧ b.bounce ≤ 65536
    ·by_cases h5 : -1073741824 ≤ b.px ∧ b.px ≤ 1073741824 ∧ -1073741824 ≤ b.py ∧ b.py ≤ 1073741824
     ·by_cases h6 : -16777216 ≤ b.vx ∧ b.vx ≤ 16777216 ∧ -16777216 ≤ b.vy ∧ b.vy ≤ 16777216
      ·exact ⟨h1, h2, h3, h4, h5, h6⟩
      ·rw [aRs b h1 h2 h3 h4 h5 h6] at h; omega
     ·rw [aQo b h1 h2 h3 h4 h5] at h; omega
    ·rw [aRk b h1 h2 h3 h4] at h; omega
   ·rw [aPx b h1 h2 h3] at h; omega
  ·rw [aQi b h1 h2] at h; omega
 ·rw [aQd b h1] at h; omega
theorem aXt {b : Body} (h : Okb b) : 4096 ≤ aMz b ∧ aMz b ≤ 8388608 ∧ 4096 ≤ aNv b ∧ aNv b ≤ 8388608 := by
 have := h.r
 have := h.a
 unfold aMz aNv
 omega
structure Okx (a : Bx) : Prop where
 x0 : -2147483648 ≤ a.x0 ∧ a.x0 ≤ 2147483647
 y0 : -2147483648 ≤ a.y0 ∧ a.y0 ≤ 2147483647
 x1 : -2147483648 ≤ a.x1 ∧ a.x1 ≤ 2147483647
 y1 : -2147483648 ≤ a.y1 ∧ a.y1 ≤ 2147483647
theorem bIs {b : Body} (h : Okb b) : Okx (gG b) := by
 have h1 := aXt h
 have h2 := h.p
 constructor <;> simp only [gG] <;> omega
end Go.Bil

namespace Go.Bil
def dM (c : Int × Int) : List Value := [.int .i32 c.1, .int .i32 c.2]
def oA (x : Int) : Int := x.fdiv 4194304
theorem bEn (x : Int) : x.fdiv (2 ^ (min (22 : Int).toNat IntKind.i32.bits)) = oA x := rfl
theorem aIl (x : Int) : oA x = x / 4194304 := by unfold oA; exact Int.fdiv_eq_ediv_of_nonneg x (by decide)
theorem qJ {x : Int} (h0 : -2147483648 ≤ x) (h1 : x ≤ 2147483647) : -512 ≤ oA x ∧ oA x ≤ 511 := by rw [aIl]; omega
theorem lE {x y : Int} (h : x ≤ y) : oA x ≤ oA y := by rw [aIl, aIl]; omega
def loC (a : Bx) : Int × Int := if jC a then (0, 0) else (oA a.x0, oA a.y0)
def hiC (a : Bx) : Int × Int := if jC a then (0, 0) else (oA a.x1, oA a.y1)
def nX (lo hi : Int × Int) : Nat := (hi.1 - lo.1 + 1).toNat
def nY (lo hi : Int × Int) : Nat := (hi.2 - lo.2 + 1).toNat
def aBh (lo : Int × Int) (i j : Nat) : List (Int × Int) := (List.range i).map (fun (p : Nat) => (lo.1 + (p : Int), lo.2 + (j : Int)))
def oU (lo hi : Int × Int) (j : Nat) : List (Int × Int) := (List.range j).flatMap (fun q => aBh lo (nX lo hi) q)
def xX (ok : Bool) (lo hi : Int × Int) : List (Int × Int) := if ok then oU lo hi (nY lo hi) else []
def iY (a : Bx) : List (Int × Int) := xX (decide (¬ jC a)) (loC a) (hiC a)
theorem aLr (lo : Int × Int) (i j : Nat) : (aBh lo i j).length = i := by simp [aBh]
theorem aUk (lo : Int × Int) (i j : Nat) : aBh lo (i + 1) j = aBh lo i j ++ [(lo.1 + (i : Int), lo.2 + (j : Int))] := by simp [aBh, List.range_succ]
theorem aBn (lo hi : Int × Int) (j : Nat) : oU lo hi (j + 1) = oU lo hi j ++ aBh lo (nX lo hi) j := by simp [oU, List.range_succ]
theorem xS (lo hi : Int × Int) : ∀ j, (oU lo hi j).length = j * nX lo hi
 | 0 => by simp [oU]
 | j + 1 => by rw [aBn, List.length_append, xS lo hi j, aLr, Nat.add_mul, Nat.one_mul]
theorem aZo {lo hi : Int × Int} {i j : Nat} (hx : nX lo hi ≤ 1024) (hj : j < 1024) (hi' : i < nX lo hi) : (oU lo hi j).length + i < 1048576 := by
 rw [xS]
 have : j * nX lo hi ≤ 1023 * 1024 := Nat.mul_le_mul (by omega) hx
 omega
theorem aXj {lo hi : Int × Int} {j : Nat} (hx : nX lo hi ≤ 1024) (hj : j ≤ 1024) : (oU lo hi j).length ≤ 1048576 := by
 rw [xS]
 exact Nat.mul_le_mul hj hx
theorem aUc {lo hi : Int × Int} {n : Nat} {c : Int × Int} : c ∈ oU lo hi n ↔ ∃ q p : Nat, q < n ∧ p < nX lo hi ∧ c = (lo.1 + (p : Int), lo.2 + (q : Int)) := by
 simp only [oU, aBh, List.mem_flatMap, List.mem_range, List.mem_map]
 constructor
 ·rintro ⟨q, hq, p, hp, rfl⟩; exact ⟨q, p, hq, hp, rfl⟩
 ·rintro ⟨q, p, hq, hp, rfl⟩; exact ⟨q, hq, p, hp, rfl⟩
theorem aDf {a : Bx} {c : Int × Int} : c ∈ iY a ↔ ¬ jC a ∧ oA a.x0 ≤ c.1 ∧ c.1 ≤ oA a.x1 ∧ oA a.y0 ≤ c.2 ∧ c.2 ≤ oA a.y1 := by
 unfold iY xX
 by_cases h : jC a
 ·simp [h]
 ·rw [if_pos (by simpa using h), aUc]
  simp only [loC, hiC, if_neg h, nX, nY]
  constructor
  ·rintro ⟨q, p, hq, hp, rfl⟩
   refine ⟨h, ?_⟩
   simp only
   omega
  ·rintro ⟨_, h1, h2, h3, h4⟩
   refine ⟨(c.2 - oA a.y0).toNat, (c.1 - oA a.x0).toNat, by omega, by omega, ?_⟩
   apply Prod.ext <;> simp only <;> omega
structure Okc (c : Int × Int) : Prop where
 x : -512 ≤ c.1 ∧ c.1 ≤ 511
 y : -512 ≤ c.2 ∧ c.2 ≤ 511
theorem aPp {a : Bx} (h : Okx a) : Okc (loC a) := by
 unfold loC
 split
 ·exact ⟨by decide, by decide⟩
 ·exact ⟨qJ h.x0.1 h.x0.2, qJ h.y0.1 h.y0.2⟩
theorem aPk {a : Bx} (h : Okx a) : Okc (hiC a) := by
 unfold hiC
 split
 ·exact ⟨by decide, by decide⟩
 ·exact ⟨qJ h.x1.1 h.x1.2, qJ h.y1.1 h.y1.2⟩
theorem bFt {lo hi : Int × Int} (h1 : Okc lo) (h2 : Okc hi) : nX lo hi ≤ 1024 := by
 have := h1.x; have := h2.x
 unfold nX
 omega
theorem bEv {lo hi : Int × Int} (h1 : Okc lo) (h2 : Okc hi) : nY lo hi ≤ 1024 := by
 have := h1.y; have := h2.y
 unfold nY
 omega
theorem aOq {a : Bx} (h : Okx a) : (iY a).length ≤ 1048576 := by
 unfold iY xX
 split
 ·exact aXj (bFt (aPp h) (aPk h)) (bEv (aPp h) (aPk h))
 ·simp
theorem aXc {a b : Bx} (h : ovl a b) : ∃ c, c ∈ iY a ∧ c ∈ iY b := by
 obtain ⟨⟨h1, h2⟩, ⟨h3, h4⟩, h5, h6, h7, h8⟩ := h
 refine ⟨(oA (max a.x0 b.x0), oA (max a.y0 b.y0)), aDf.2 ⟨by unfold jC; omega, ?_⟩, aDf.2 ⟨by unfold jC; omega, ?_⟩⟩
 ·exact ⟨lE (by omega), lE (by omega), lE (by omega), lE (by omega)⟩
 ·exact ⟨lE (by omega), lE (by omega), lE (by omega), lE (by omega)⟩
def sY (c : Int × Int) : Int :=
 IntKind.u32.wrap ((BitVec.ofInt 32 (IntKind.u32.wrap ((BitVec.ofInt 32 (IntKind.u32.wrap (IntKind.u32.wrap c.1 * 73856093)) ^^^ BitVec.ofInt 32 (IntKind.u32.wrap (IntKind.u32.wrap c.2 * 19349663))).toNat)) &&& BitVec.ofInt 32 1023).toNat)
def eZ (c : Int × Int) : Nat := (sY c).toNat
theorem mL (c : Int × Int) : 0 ≤ sY c ∧ sY c < 1024 := by
 unfold sY
 generalize BitVec.ofInt 32 (IntKind.u32.wrap _) = a
 have h : (a &&& BitVec.ofInt 32 1023).toNat ≤ 1023 := by
  rw [BitVec.toNat_and]
  exact Nat.le_trans Nat.and_le_right (by decide)
 rw [aCv _ (by omega) (by omega)]
 omega
theorem lD (c : Int × Int) : eZ c < 1024 := by have := mL c; unfold eZ; omega
theorem aVe (c : Int × Int) : sY c = (eZ c : Int) := by have := mL c; unfold eZ; omega
end Go.Bil

namespace Go.Bil
def fO (n : Int) : List Int := [n / 16777216 % 256, n / 65536 % 256, n / 256 % 256, n % 256]
def aRc (b : Body) : List Int := [b.key, b.radius, b.ax, b.ay, b.mass, b.bounce, b.px, b.py, b.vx, b.vy]
def uZ (b : Body) : List Int := (aRc b).flatMap fO
def jQ : List Int := [66, 73, 76, 49]
def aJe (v : List Body) : List Int := jQ ++ fO (v.length : Int) ++ v.flatMap uZ
def eH (l : List Int) (a : Nat) : Int := ((l.getD a 0 * 256 + l.getD (a + 1) 0) * 256 + l.getD (a + 2) 0) * 256 + l.getD (a + 3) 0
def kF (n : Int) : Int := if 2147483648 ≤ n then n - 4294967296 else n
def nS (l : List Int) (a : Nat) : Body := ⟨eH l a, kF (eH l (a + 4)), kF (eH l (a + 8)), kF (eH l (a + 12)), kF (eH l (a + 16)), kF (eH l (a + 20)), kF (eH l (a + 24)), kF (eH l (a + 28)), kF (eH l (a + 32)), kF (eH l (a + 36))⟩
abbrev aDa (l : List Int) : Prop := 8 ≤ l.length ∧ l.take 4 = jQ ∧ (l.length : Int) = 8 + 40 * eH l 4
def oI (l : List Int) (n : Nat) : List Body := (List.range n).map (fun i => nS l (8 + 40 * i))
def nM (l : List Int) : List Body × Int := if ¬ aDa l then ([], 13) else if iT (oI l (eH l 4).toNat) ≠ 0 then ([], iT (oI l (eH l 4).toNat)) else (oI l (eH l 4).toNat, 0)
abbrev lW (l : List Int) : Prop := ∀ x ∈ l, 0 ≤ x ∧ x ≤ 255
theorem aTw (n : Int) : (fO n).length = 4 := rfl
theorem bAf (b : Body) : (uZ b).length = 40 := rfl
theorem bAt (v : List Body) : (v.flatMap uZ).length = 40 * v.length := by
 induction v with
 | nil => rfl
 | cons b v ih => rw [List.flatMap_cons, List.length_append, ih, bAf, List.length_cons]; omega
theorem aVt (v : List Body) : (aJe v).length = 8 + 40 * v.length := by
 unfold aJe
 rw [List.length_append, List.length_append, bAt, aTw]
 rfl
theorem tB (n : Int) : fO (n % 4294967296) = fO n := by
 unfold fO
 have h1 : n % 4294967296 / 16777216 % 256 = n / 16777216 % 256 := by omega
 have h2 : n % 4294967296 / 65536 % 256 = n / 65536 % 256 := by omega
 have h3 : n % 4294967296 / 256 % 256 = n / 256 % 256 := by omega
 have h4 : n % 4294967296 % 256 = n % 256 := by omega
 rw [h1, h2, h3, h4]
theorem aTz (n : Int) : fO (kF n) = fO n := by
 unfold kF
 split
 ·rw [← tB (n - 4294967296), ← tB n]
  congr 1
  omega
 ·rfl
theorem lR {l : List Int} (hl : lW l) {a : Nat} (h : a + 4 ≤ l.length) : 0 ≤ eH l a ∧ eH l a ≤ 4294967295 ∧ fO (eH l a) = (l.drop a).take 4 := by
 have g (j : Nat) (hj : j < l.length) : l[j]? = some (l.getD j 0) ∧ 0 ≤ l.getD j 0 ∧ l.getD j 0 ≤ 255 := by
  rw [List.getD_eq_getElem?_getD, List.getElem?_eq_getElem hj]
  have hb := hl _ (List.getElem_mem hj)
  exact ⟨rfl, hb.1, hb.2⟩
 obtain ⟨g0, g1, g2⟩ := g a (by omega)
 obtain ⟨g3, g4, g5⟩ := g (a + 1) (by omega)
 obtain ⟨g6, g7, g8⟩ := g (a + 2) (by omega)
 obtain ⟨g9, ga, gb⟩ := g (a + 3) (by omega)
 have e : (l.drop a).take 4 = [l.getD a 0, l.getD (a + 1) 0, l.getD (a + 2) 0, l.getD (a + 3) 0] := by
  have hlen : ((l.drop a).take 4).length = 4 := by rw [List.length_take, List.length_drop]; omega
  refine List.ext_getElem? fun j => ?_
  rcases (show j = 0 ∨ j = 1 ∨ j = 2 ∨ j = 3 ∨ 4 ≤ j by omega) with rfl | rfl | rfl | rfl | hj
  ·rw [List.getElem?_take_of_lt (by omega), List.getElem?_drop]; simpa using g0
  ·rw [List.getElem?_take_of_lt (by omega), List.getElem?_drop]; simpa using g3
  ·rw [List.getElem?_take_of_lt (by omega), List.getElem?_drop]; simpa using g6
  ·rw [List.getElem?_take_of_lt (by omega), List.getElem?_drop]; simpa using g9
  ·rw [List.getElem?_eq_none (by omega), List.getElem?_eq_none (by simpa using hj)]
 rw [e]
 unfold eH fO
 generalize l.getD a 0 = p at *
 generalize l.getD (a + 1) 0 = q at *
 generalize l.getD (a + 2) 0 = r at *
 generalize l.getD (a + 3) 0 = s at *
 refine ⟨by omega, by omega, ?_⟩
 have h1 : (((p * 256 + q) * 256 + r) * 256 + s) / 16777216 % 256 = p := by omega
 have h2 : (((p * 256 + q) * 256 + r) * 256 + s) / 65536 % 256 = q := by omega
 have h3 : (((p * 256 + q) * 256 + r) * 256 + s) / 256 % 256 = r := by omega
 have h4 : (((p * 256 + q) * 256 + r) * 256 + s) % 256 = s := by omega
 rw [h1, h2, h3, h4]
theorem aOy (l : List Int) (k : Nat) : ∀ n, (List.range n).flatMap (fun i => (l.drop (k * i)).take k) = l.take (k * n)
 | 0 => by simp
 | n + 1 => by
  rw [List.range_succ, List.flatMap_append, aOy l k n, List.flatMap_cons, List.flatMap_nil, List.append_nil, Nat.mul_succ, List.take_add]
theorem mG {n : Int} (h : 0 ≤ n ∧ n ≤ 4294967295) : -2147483648 ≤ kF n ∧ kF n ≤ 2147483647 := by unfold kF; split <;> omega
theorem aSy {l : List Int} (hl : lW l) {a : Nat} (h : a + 40 ≤ l.length) : InB (nS l a) := by
 have f (k : Nat) (hk : k ≤ 36) : 0 ≤ eH l (a + k) ∧ eH l (a + k) ≤ 4294967295 := by
  have := lR hl (a := a + k) (by omega)
  exact ⟨this.1, this.2.1⟩
 exact ⟨f 0 (by omega), mG (f 4 (by omega)), mG (f 8 (by omega)), mG (f 12 (by omega)), mG (f 16 (by omega)), mG (f 20 (by omega)), mG (f 24 (by omega)), mG (f 28 (by omega)), mG (f 32 (by omega)), mG (f 36 (by omega))⟩
theorem bCo {l : List Int} (hl : lW l) {a : Nat} (h : a + 40 ≤ l.length) : uZ (nS l a) = (l.drop a).take 40 := by
 have f (k : Nat) (hk : k ≤ 36) : fO (eH l (a + k)) = ((l.drop a).drop k).take 4 := by rw [List.drop_drop]; exact (lR hl (a := a + k) (by omega)).2.2
 have e := aOy (l.drop a) 4 10
 rw [← e]
 unfold uZ aRc nS
 simp only [List.flatMap_cons, List.flatMap_nil, aTz]
 have f0 := f 0 (by omega)
 rw [Nat.add_zero] at f0
 rw [f0, f 4 (by omega), f 8 (by omega), f 12 (by omega), f 16 (by omega), f 20 (by omega), f 24 (by omega), f 28 (by omega), f 32 (by omega), f 36 (by omega)]
 rfl
theorem vY (l : List Int) (n : Nat) : (oI l n).length = n := by unfold oI; rw [List.length_map, List.length_range]
theorem aEo {α β : Type} {l : List α} {f g : α → List β} (h : ∀ x ∈ l, f x = g x) : l.flatMap f = l.flatMap g := by
 induction l with
 | nil => rfl
 | cons x l ih => rw [List.flatMap_cons, List.flatMap_cons, h x (by simp), ih fun y hy => h y (by simp [hy])]
theorem aYl {l : List Int} (hl : lW l) {n : Nat} (h : l.length = 8 + 40 * n) : (oI l n).flatMap uZ = l.drop 8 := by
 unfold oI
 rw [List.flatMap_map, aEo (g := fun i => ((l.drop 8).drop (40 * i)).take 40) (fun i hi => by
  have := List.mem_range.1 hi
  rw [List.drop_drop]
  exact bCo hl (by omega)), aOy, List.take_of_length_le (by rw [List.length_drop]; omega)]
structure DecOk (l : List Int) (v : List Body) : Prop where
 n : l.length = 8 + 40 * v.length
 e : aJe v = l
 inb : ∀ b ∈ v, InB b
 c : iT v = 0
theorem bBs {l : List Int} (hl : lW l) (h : (nM l).2 = 0) : DecOk l (nM l).1 := by
 unfold nM at h ⊢
 by_cases hf : aDa l
 ·rw [if_neg (Decidable.not_not.2 hf)] at h ⊢
  by_cases hc : iT (oI l (eH l 4).toNat) = 0
  ·rw [if_neg (by omega)]
   obtain ⟨h8, hm, hn⟩ := hf
   have hr := lR hl (a := 4) (by omega)
   have hlen : l.length = 8 + 40 * (eH l 4).toNat := by omega
   show DecOk l (oI l (eH l 4).toNat)
   refine ⟨by rw [vY]; exact hlen, ?_, ?_, hc⟩
   ·unfold aJe
    rw [aYl hl hlen, vY, show (((eH l 4).toNat : Nat) : Int) = eH l 4 by omega, hr.2.2, ← hm, ← List.take_add, List.take_append_drop]
   ·intro b hb
    unfold oI at hb
    obtain ⟨i, hi, rfl⟩ := List.mem_map.1 hb
    have := List.mem_range.1 hi
    exact aSy hl (by omega)
  ·rw [if_pos hc] at h
   exact absurd h hc
 ·rw [if_pos hf] at h
  cases h
def zB (b : Body) : List Int := [b.key, b.radius % 4294967296, b.ax % 4294967296, b.ay % 4294967296, b.mass % 4294967296, b.bounce % 4294967296, b.px % 4294967296, b.py % 4294967296, b.vx % 4294967296, b.vy % 4294967296]
theorem aSs (b : Body) : (zB b).flatMap fO = uZ b := by
 unfold zB uZ aRc
 simp only [List.flatMap_cons, List.flatMap_nil, tB]
theorem aTu {b : Body} (h : InB b) : ∀ x ∈ zB b, 0 ≤ x ∧ x ≤ 4294967295 := by
 obtain ⟨h0, _⟩ := h
 intro x hx
 simp only [zB, List.mem_cons, List.not_mem_nil, or_false] at hx
 rcases hx with rfl | rfl | rfl | rfl | rfl | rfl | rfl | rfl | rfl | rfl <;> omega
theorem aTl {L : List Int} {j : Nat} {x : Int} (h : L[j]? = some x) : (L.take (j + 1)).flatMap fO = (L.take j).flatMap fO ++ fO x := by
 rw [cR h, List.flatMap_append, List.flatMap_cons, List.flatMap_nil, List.append_nil]
theorem aFr {v : List Body} {j : Nat} {x : Body} (h : v[j]? = some x) : (v.take (j + 1)).flatMap uZ = (v.take j).flatMap uZ ++ uZ x := by
 rw [cR h, List.flatMap_append, List.flatMap_cons, List.flatMap_nil, List.append_nil]
theorem fH {l : List Int} {a m : Nat} (h : 4 ≤ m) : eH ((l.drop a).take m) 0 = eH l a := by
 have g (j : Nat) (hj : j < m) : ((l.drop a).take m).getD j 0 = l.getD (a + j) 0 := by
  rw [List.getD_eq_getElem?_getD, List.getD_eq_getElem?_getD, List.getElem?_take_of_lt hj, List.getElem?_drop]
 unfold eH
 rw [g 0 (by omega), g (0 + 1) (by omega), g (0 + 2) (by omega), g (0 + 3) (by omega)]
 rfl
theorem aGe (l : List Int) (k : Nat) : oI l (k + 1) = oI l k ++ [nS l (8 + 40 * k)] := by unfold oI; rw [List.range_succ, List.map_append]; rfl
theorem lW.sub {l : List Int} (h : lW l) (a m : Nat) : lW ((l.drop a).take m) := fun x hx => h x (List.mem_of_mem_drop (List.mem_of_mem_take hx))
end Go.Bil
namespace Go.Bil
theorem qV {l : List Int} (h : ¬ aDa l) : nM l = ([], 13) := by unfold nM; rw [if_pos h]
theorem aQc {l : List Int} {N : Nat} (h : aDa l) (hN : eH l 4 = (N : Int)) (hc : iT (oI l N) ≠ 0) : nM l = ([], iT (oI l N)) := by
 unfold nM; rw [if_neg (Decidable.not_not.2 h), hN, Int.toNat_natCast, if_pos hc]
theorem aMg {l : List Int} {N : Nat} (h : aDa l) (hN : eH l 4 = (N : Int)) (hc : iT (oI l N) = 0) : nM l = (oI l N, 0) := by
 unfold nM; rw [if_neg (Decidable.not_not.2 h), hN, Int.toNat_natCast, if_neg (by omega)]
theorem bKk {l : List Int} (hl : lW l) {a : Nat} (h : a + 40 ≤ l.length) : ∀ x ∈ ([eH l a, eH l (a + 4), eH l (a + 8), eH l (a + 12), eH l (a + 16), eH l (a + 20), eH l (a + 24), eH l (a + 28), eH l (a + 32), eH l (a + 36)] : List Int), 0 ≤ x ∧ x ≤ 4294967295 := by
 have f (k : Nat) (hk : k ≤ 36) : 0 ≤ eH l (a + k) ∧ eH l (a + k) ≤ 4294967295 := by
  have := lR hl (a := a + k) (by omega)
  exact ⟨this.1, this.2.1⟩
 intro x hx
 simp only [List.mem_cons, List.not_mem_nil, or_false] at hx
 rcases hx with rfl | rfl | rfl | rfl | rfl | rfl | rfl | rfl | rfl | rfl
 ·exact f 0 (by omega)
 ·exact f 4 (by omega)
 ·exact f 8 (by omega)
 ·exact f 12 (by omega)
 ·exact f 16 (by omega)
 ·exact f 20 (by omega)
 ·exact f 24 (by omega)
 ·exact f 28 (by omega)
 ·exact f 32 (by omega)
 ·exact f 36 (by omega)
theorem oZ : jQ = ([66, 73, 76, 49] : List UInt8).map (fun y => (y.toNat : Int)) := by decide
end Go.Bil
