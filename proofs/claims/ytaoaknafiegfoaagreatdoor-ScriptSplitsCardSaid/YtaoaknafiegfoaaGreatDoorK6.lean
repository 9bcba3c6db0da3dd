/- Part of the proof of the laws of this seat: Md4, Md5, Md7, Md8, MdB, MdC, Mf1. No conditions. -/
import Derived.Test.YtaoaknafiegfoaaGreatDoorK4
import Derived.Test.YtaoaknafiegfoaaGreatDoorK3
set_option linter.unusedVariables false
set_option linter.unusedSimpArgs false
set_option linter.unnecessarySimpa false
namespace Go.Bil
def cU (s : List Body) : Prop := s.Pairwise (fun a b => a.key < b.key)
def rH (k : Int) (s : List Body) : List Body := s.filter (fun x => decide (x.key ≠ k))
def tB (b : Body) : Bool → List Body → List Body
 | true, s => rH b.key s
 | false, [] => [b]
 | false, x :: l => if b.key ≤ x.key then b :: rH b.key (x :: l) else x :: tB b false l
def bNm (b : Body) (r : List Body × Bool) : List Body := if r.2 then r.1 else r.1 ++ [b]
theorem rM (b : Body) : ∀ (s acc : List Body) (d : Bool), bNm b (s.foldl (fQ b) (acc, d)) = acc ++ tB b d s
 | [], acc, true => by simp [tB, rH, bNm]
 | [], acc, false => by simp [tB, bNm]
 | x :: l, acc, true => by
  have ih := rM b l (if x.key ≠ b.key then acc ++ [x] else acc) true
  rw [List.foldl_cons]
  have e : fQ b (acc, true) x = (if x.key ≠ b.key then acc ++ [x] else acc, true) := by unfold fQ; by_cases h : x.key = b.key <;> simp [h]
  rw [e, ih]
  by_cases h : x.key = b.key <;> simp [tB, rH, h]
 | x :: l, acc, false => by
  rw [List.foldl_cons]
  by_cases hb : b.key ≤ x.key
  ·have ih := rM b l (if x.key ≠ b.key then acc ++ [b] ++ [x] else acc ++ [b]) true
   have e : fQ b (acc, false) x = (if x.key ≠ b.key then acc ++ [b] ++ [x] else acc ++ [b], true) := by unfold fQ; by_cases h : x.key = b.key <;> simp [h, hb]
   rw [e, ih]
   by_cases h : x.key = b.key <;> simp [tB, rH, h, hb]
  ·have hne : x.key ≠ b.key := by omega
   have ih := rM b l (acc ++ [x]) false
   have e : fQ b (acc, false) x = (acc ++ [x], false) := by unfold fQ; simp [hb, hne]
   rw [e, ih]
   simp [tB, hb]
theorem aTo (s : List Body) (b : Body) (g : Bool) : wE s b g = tB b g s := by
 have := rM b s [] g
 rw [List.nil_append] at this
 exact this
theorem zA (b : Body) : ∀ s : List Body, (tB b false s).Perm (b :: rH b.key s)
 | [] => by simp [tB, rH]
 | x :: l => by
  unfold tB
  split
  ·exact List.Perm.refl _
  ·rename_i h
   have hne : x.key ≠ b.key := by omega
   have e : rH b.key (x :: l) = x :: rH b.key l := by simp [rH, hne]
   rw [e]
   exact ((zA b l).cons x).trans (List.Perm.swap b x _)
theorem yG {k : Int} {s : List Body} {x : Body} : x ∈ rH k s ↔ x ∈ s ∧ x.key ≠ k := by simp [rH]
theorem cU.cut {s : List Body} (h : cU s) (k : Int) : cU (rH k s) := List.Pairwise.sublist List.filter_sublist h
theorem cU.put {b : Body} : ∀ {s : List Body}, cU s → cU (tB b false s)
 | [], _ => by simp [tB, cU]
 | x :: l, h => by
  unfold tB
  have hx : ∀ y ∈ l, x.key < y.key := (List.pairwise_cons.1 h).1
  have hl : cU l := (List.pairwise_cons.1 h).2
  split
  ·rename_i hb
   refine List.pairwise_cons.2 ⟨fun y hy => ?_, h.cut _⟩
   obtain ⟨h1, h2⟩ := yG.1 hy
   rcases List.mem_cons.1 h1 with rfl | h1
   ·omega
   ·have := hx y h1; omega
  ·rename_i hb
   refine List.pairwise_cons.2 ⟨fun y hy => ?_, cU.put hl⟩
   have := (zA b l).mem_iff.1 hy
   rcases List.mem_cons.1 this with rfl | h1
   ·omega
   ·exact hx y (yG.1 h1).1
def nV (s : List Body) (b : Body) : List Body × Int :=
 if check b ≠ 0 then (s, check b) else if 0 ≤ dJ b.key s then (s, 10) else if 4096 ≤ s.length then (s, 12) else (wE s b false, 0)
def pR (k : Int) : Body := ⟨k, 0, 0, 0, 0, 0, 0, 0, 0, 0⟩
def gK (s : List Body) (k : Int) : List Body × Int := if dJ k s < 0 then (s, 11) else (wE s (pR k) true, 0)
def bDw (s : List Body) (b : Body) : List Body × Int :=
 if check b ≠ 0 then (s, check b) else if dJ b.key s < 0 then (s, 11) else (wE s b false, 0)
structure Rel (m s : List Body) : Prop where
 perm : s.Perm m
 sorted : cU s
theorem Rel.nil : Rel [] [] := ⟨List.Perm.refl _, by simp [cU]⟩
theorem cU.unique {s t : List Body} (h : cU s) (h' : cU t) (p : s.Perm t) : s = t :=
 List.Perm.eq_of_pairwise (le := fun (a b : Body) => a.key < b.key) (fun a b _ _ h1 h2 => by omega) h h' p
theorem cU.keys {s : List Body} (h : cU s) : jZ s := by
 unfold jZ List.Nodup
 rw [List.pairwise_map]
 exact h.imp (fun h => by omega)
theorem Rel.keys {m s : List Body} (R : Rel m s) : jZ m := R.sorted.keys.perm R.perm.symm
theorem Rel.find {m s : List Body} (R : Rel m s) (k : Int) : dJ k s < 0 ↔ dJ k m < 0 := by
 rw [mK, mK]
 exact ⟨fun h b hb => h b (R.perm.mem_iff.2 hb), fun h b hb => h b (R.perm.mem_iff.1 hb)⟩
theorem aHj {k : Int} {s : List Body} (h : dJ k s < 0) : rH k s = s := List.filter_eq_self.2 fun x hx => by simpa using mK.1 h x hx
theorem Rel.put {m s : List Body} (R : Rel m s) (b : Body) {m' : List Body} (h : m'.Perm (b :: rH b.key m)) : Rel m' (wE s b false) := by
 rw [aTo]
 exact ⟨((zA b s).trans ((R.perm.filter _).cons b)).trans h.symm, R.sorted.put⟩
theorem Rel.add {m s : List Body} (R : Rel m s) (b : Body) : Rel (nP m b).1 (nV s b).1 ∧ (nV s b).2 = (nP m b).2 := by
 unfold nP nV
 have hf := R.find b.key
 have hl := R.perm.length_eq
 by_cases h1 : check b ≠ 0
 ·rw [if_pos h1, if_pos h1]; exact ⟨R, rfl⟩
 ·rw [if_neg h1, if_neg h1]
  by_cases h2 : 0 ≤ dJ b.key m
  ·have h2' : 0 ≤ dJ b.key s := by omega
   rw [if_pos h2, if_pos h2']; exact ⟨R, rfl⟩
  ·have h2' : ¬ 0 ≤ dJ b.key s := by omega
   rw [if_neg h2, if_neg h2', hl]
   by_cases h3 : 4096 ≤ m.length
   ·rw [if_pos h3, if_pos h3]; exact ⟨R, rfl⟩
   ·rw [if_neg h3, if_neg h3]
    refine ⟨R.put b ?_, rfl⟩
    rw [aHj (by omega)]
    exact List.perm_append_singleton b m
theorem vY {m : List Body} (h : jZ m) {i : Nat} {b : Body} (hi : m[i]? = some b) : m.eraseIdx i = rH b.key m := by
 have e : m = m.take i ++ b :: m.drop (i + 1) := by
  have hlt := (List.getElem?_eq_some_iff.1 hi).1
  have hb : m[i] = b := (List.getElem?_eq_some_iff.1 hi).2
  rw [← hb, ← List.drop_eq_getElem_cons hlt, List.take_append_drop]
 have hne := aHd h hi
 rw [List.eraseIdx_eq_take_drop_succ] at hne ⊢
 conv => rhs; rw [e]
 unfold rH
 rw [List.filter_append, List.filter_cons]
 simp only [ne_eq, not_true_eq_false, decide_false, Bool.false_eq_true, if_false]
 rw [List.filter_eq_self.2 (fun x hx => by simpa using hne x (List.mem_append_left _ hx)), List.filter_eq_self.2 (fun x hx => by simpa using hne x (List.mem_append_right _ hx))]
theorem Rel.remove {m s : List Body} (R : Rel m s) (k : Int) : Rel (lI m k).1 (gK s k).1 ∧ (gK s k).2 = (lI m k).2 := by
 unfold lI gK
 have hf := R.find k
 by_cases h : dJ k m < 0
 ·rw [if_pos h, if_pos (hf.2 h)]; exact ⟨R, rfl⟩
 ·rw [if_neg h, if_neg (fun h' => h (hf.1 h'))]
  refine ⟨?_, rfl⟩
  rcases eH k m with ⟨h1, _⟩ | ⟨i, b, h1, h2, h3⟩
  ·omega
  ·rw [h3, Int.toNat_natCast, aTo]
   have hlt := (List.getElem?_eq_some_iff.1 h1).1
   have hk : (pR k).key = b.key := h2.symm
   have he : tB (pR k) true s = rH b.key s := by unfold tB; rw [hk]
   refine ⟨?_, by rw [he]; exact R.sorted.cut _⟩
   show (tB (pR k) true s).Perm _
   rw [he]
   exact (R.perm.filter _).trans ((List.Perm.of_eq (vY R.keys h1).symm).trans (qW hlt).symm)
theorem bAk {m : List Body} {i : Nat} {x : Body} (hi : i < m.length) : (m.set i x).Perm (x :: m.eraseIdx i) := by
 rw [List.set_eq_take_append_cons_drop, if_pos hi, List.eraseIdx_eq_take_drop_succ]
 exact List.perm_middle
theorem Rel.set {m s : List Body} (R : Rel m s) (b : Body) : Rel (sJ m b).1 (bDw s b).1 ∧ (bDw s b).2 = (sJ m b).2 := by
 unfold sJ bDw
 have hf := R.find b.key
 by_cases h1 : check b ≠ 0
 ·rw [if_pos h1, if_pos h1]; exact ⟨R, rfl⟩
 ·rw [if_neg h1, if_neg h1]
  by_cases h : dJ b.key m < 0
  ·rw [if_pos h, if_pos (hf.2 h)]; exact ⟨R, rfl⟩
  ·rw [if_neg h, if_neg (fun h' => h (hf.1 h'))]
   refine ⟨?_, rfl⟩
   rcases eH b.key m with ⟨h1, _⟩ | ⟨i, c, h1, h2, h3⟩
   ·omega
   ·rw [h3, Int.toNat_natCast]
    have hlt := (List.getElem?_eq_some_iff.1 h1).1
    refine R.put b ((bAk hlt).trans ?_)
    rw [vY R.keys h1, h2]
theorem Rel.get {m s : List Body} (R : Rel m s) (k : Int) : (dJ k s < 0 ∧ aDg m k = (pR 0, 11)) ∨ ∃ (i : Nat) (b : Body), dJ k s = (i : Int) ∧ s[i]? = some b ∧ aDg m k = (b, 0) := by
 rcases eH k s with ⟨h1, h2⟩ | ⟨i, b, h1, h2, h3⟩
 ·have hm : dJ k m < 0 := (R.find k).1 (by omega)
  refine .inl ⟨by omega, ?_⟩
  unfold aDg
  rw [if_pos hm]
  rfl
 ·refine .inr ⟨i, b, h3, h1, ?_⟩
  have hb : b ∈ m := R.perm.mem_iff.1 (List.mem_of_getElem? h1)
  obtain ⟨j, hj⟩ := List.getElem?_of_mem hb
  have := sO R.keys hj
  rw [h2] at this
  exact yQ this hj
theorem xC {a b : Int} : pD a b < 0 ↔ a < b := by unfold pD; (repeat' split) <;> omega
def aQj (b : Body) : List Body → List Body
 | [] => [b]
 | x :: l => if b.key ≤ x.key then b :: x :: l else x :: aQj b l
def aAd (m : List Body) : List Body := m.foldr aQj []
theorem yM (b : Body) : ∀ l : List Body, (aQj b l).Perm (b :: l)
 | [] => List.Perm.refl _
 | x :: l => by
  unfold aQj
  split
  ·exact List.Perm.refl _
  ·exact ((yM b l).cons x).trans (List.Perm.swap b x l)
theorem oS : ∀ m : List Body, (aAd m).Perm m
 | [] => List.Perm.refl _
 | b :: m => (yM b (aAd m)).trans ((oS m).cons b)
def Up (s : List Body) : Prop := s.Pairwise (fun a b => a.key ≤ b.key)
theorem aTp (b : Body) : ∀ {l : List Body}, Up l → Up (aQj b l)
 | [], _ => by simp [aQj, Up]
 | x :: l, h => by
  unfold aQj
  have hx : ∀ y ∈ l, x.key ≤ y.key := (List.pairwise_cons.1 h).1
  split
  ·rename_i hb
   refine List.pairwise_cons.2 ⟨fun y hy => ?_, h⟩
   rcases List.mem_cons.1 hy with rfl | hy
   ·exact hb
   ·have := hx y hy; omega
  ·refine List.pairwise_cons.2 ⟨fun y hy => ?_, aTp b (List.pairwise_cons.1 h).2⟩
   have := (yM b l).mem_iff.1 hy
   rcases List.mem_cons.1 this with rfl | h1
   ·omega
   ·exact hx y h1
theorem aFi : ∀ m : List Body, Up (aAd m)
 | [] => by simp [aAd, Up]
 | b :: m => aTp b (aFi m)
theorem zK {s : List Body} (h : Up s) (hk : jZ s) : cU s := by
 unfold Up at h
 unfold jZ List.Nodup at hk
 rw [List.pairwise_map] at hk
 exact (List.Pairwise.and h hk).imp (fun ⟨h1, h2⟩ => by omega)
theorem aVi {s t : List Body} (h : Up s) (h' : Up t) (p : s.Perm t) (hk : jZ s) : s = t := (zK h hk).unique (zK h' (hk.perm p.symm)) p
theorem aXm {m : List Body} (hk : jZ m) : Rel m (aAd m) := ⟨oS m, zK (aFi m) (hk.perm (oS m))⟩
theorem Rel.eq {m s : List Body} (R : Rel m s) : aAd m = s := (aXm R.keys).sorted.unique R.sorted ((oS m).trans R.perm.symm)
end Go.Bil
namespace Go.Bil
structure InB (b : Body) : Prop where
 key : 0 ≤ b.key ∧ b.key ≤ 4294967295
 radius : -2147483648 ≤ b.radius ∧ b.radius ≤ 2147483647
 ax : -2147483648 ≤ b.ax ∧ b.ax ≤ 2147483647
 ay : -2147483648 ≤ b.ay ∧ b.ay ≤ 2147483647
 mass : -2147483648 ≤ b.mass ∧ b.mass ≤ 2147483647
 bounce : -2147483648 ≤ b.bounce ∧ b.bounce ≤ 2147483647
 px : -2147483648 ≤ b.px ∧ b.px ≤ 2147483647
 py : -2147483648 ≤ b.py ∧ b.py ≤ 2147483647
 vx : -2147483648 ≤ b.vx ∧ b.vx ≤ 2147483647
 vy : -2147483648 ≤ b.vy ∧ b.vy ≤ 2147483647
theorem bMg (l : List Value) (h : nG [.u32, .i32, .i32, .i32, .i32, .i32, .i32, .i32, .i32, .i32] l) : ∃ b, l = aF b ∧ InB b := by
 obtain ⟨z0, l0, rfl, w0, h0⟩ := gG h
 obtain ⟨z1, l1, rfl, w1, h1⟩ := gG h0
 obtain ⟨z2, l2, rfl, w2, h2⟩ := gG h1
 obtain ⟨z3, l3, rfl, w3, h3⟩ := gG h2
 obtain ⟨z4, l4, rfl, w4, h4⟩ := gG h3
 obtain ⟨z5, l5, rfl, w5, h5⟩ := gG h4
 obtain ⟨z6, l6, rfl, w6, h6⟩ := gG h5
 obtain ⟨z7, l7, rfl, w7, h7⟩ := gG h6
 obtain ⟨z8, l8, rfl, w8, h8⟩ := gG h7
 obtain ⟨z9, l9, rfl, w9, h9⟩ := gG h8
 obtain rfl := tF h9
 exact ⟨⟨z0, z1, z2, z3, z4, z5, z6, z7, z8, z9⟩, rfl, ⟨w0, w1, w2, w3, w4, w5, w6, w7, w8, w9⟩⟩
end Go.Bil

namespace Go.Bil
structure StV where
 A : Option Addr
 n : Nat
 c : Nat
 p : Option Nat
 er : eX
 em : eX
def aIa (l : List Body) : List Body := l.foldl (fun m b => (nP m b).1) []
theorem aDo {l : List Body} {k : Nat} {x : Body} (h : l[k]? = some x) : aIa (l.take (k + 1)) = (nP (aIa (l.take k)) x).1 := by
 unfold aIa
 rw [cP h, List.foldl_append]
 rfl
def zX (l : List Body) : List Body := l.filter (fun b => decide (check b = 0))
theorem bAe {m : List Body} {x : Body} (hf : ∀ b ∈ m, b.key ≠ x.key) (hl : m.length < 4096) : nP (zX m) x = (zX (m ++ [x]), check x) := by
 have hle : (zX m).length ≤ m.length := List.length_filter_le _ _
 unfold nP
 by_cases h : check x = 0
 ·rw [if_neg (by omega), if_neg (by
   have : dJ x.key (zX m) < 0 := mK.2 fun b hb => hf b (List.mem_filter.1 hb).1
   omega), if_neg (by omega), h]
  simp [zX, List.filter_append, h]
 ·rw [if_pos h]
  simp [zX, List.filter_append, h]
theorem aMa {l : List Body} (h : jZ l) {k : Nat} {x : Body} (hx : l[k]? = some x) : ∀ b ∈ l.take k, b.key ≠ x.key := by
 intro b hb e
 obtain ⟨j, hj⟩ := List.getElem?_of_mem hb
 rw [List.getElem?_take] at hj
 split at hj
 ·rename_i hlt
  have := h.inj hj hx e
  omega
 ·cases hj
theorem aCk {l : List Body} (h : jZ l) (hl : l.length ≤ 4096) : ∀ k, k ≤ l.length → aIa (l.take k) = zX (l.take k)
 | 0, _ => by simp [aIa, zX]
 | k + 1, hk => by
  obtain ⟨x, hx⟩ := cV (xs := l) (k := k) rfl (by omega)
  rw [aDo hx, aCk h hl k (by omega), bAe (aMa h hx) (by rw [List.length_take]; omega), cP hx]
theorem aAu {m : List Body} (hk : jZ m) (k : Int) : (lI m k).1.Perm (rH k m) := by
 unfold lI
 by_cases h : dJ k m < 0
 ·rw [if_pos h, aHj h]
 ·rw [if_neg h]
  rcases eH k m with ⟨h1, _⟩ | ⟨i, b, h1, h2, h3⟩
  ·omega
  ·rw [h3, Int.toNat_natCast]
   have hlt := (List.getElem?_eq_some_iff.1 h1).1
   have := (qW hlt).trans (List.Perm.of_eq (vY hk h1))
   rwa [h2] at this
end Go.Bil
namespace Go.Bil
structure StepI where
 kind : Int
 body : Body
instance : Inhabited StepI := ⟨⟨0, pR 0⟩⟩
end Go.Bil

namespace Go.Bil
def mF : List Body → Int
 | [] => 0
 | b :: l => if check b ≠ 0 then check b else mF l
def nZ (xs : List Body) : Int := if 4096 < xs.length then 12 else mF xs
theorem mV : ∀ {xs : List Body}, (∀ (j : Nat) (c : Body), xs[j]? = some c → check c = 0) → mF xs = 0
 | [], _ => rfl
 | b :: l, h => by
  unfold mF
  rw [if_neg (by have := h 0 b (by simp); omega)]
  exact mV fun j c hj => h (j + 1) c (by simpa using hj)
theorem tG : ∀ {xs : List Body} {k : Nat} {b : Body}, xs[k]? = some b → check b ≠ 0 → (∀ (j : Nat) (c : Body), j < k → xs[j]? = some c → check c = 0) → mF xs = check b
 | [], _, _, h, _, _ => by simp at h
 | a :: l, 0, b, h, hb, _ => by
  simp only [List.getElem?_cons_zero, Option.some.injEq] at h
  subst h
  unfold mF
  rw [if_pos hb]
 | a :: l, k + 1, b, h, hb, hn => by
  unfold mF
  rw [if_neg (by have := hn 0 a (by omega) (by simp); omega)]
  exact tG (by simpa using h) hb fun j c hj hc => hn (j + 1) c (by omega) (by simpa using hc)
theorem xR : ∀ {xs : List Body}, mF xs = 0 → ∀ b ∈ xs, check b = 0
 | [], _, b, hb => by simp at hb
 | a :: l, h, b, hb => by
  unfold mF at h
  by_cases ha : check a = 0
  ·rw [if_neg (by omega)] at h
   rcases List.mem_cons.1 hb with rfl | hb
   ·exact ha
   ·exact xR h b hb
  ·rw [if_pos ha] at h; exact absurd h ha
theorem aYv {xs : List Body} (h : nZ xs = 0) : xs.length ≤ 4096 ∧ ∀ b ∈ xs, check b = 0 := by
 unfold nZ at h
 split at h
 ·omega
 ·exact ⟨by omega, xR h⟩
theorem bEd {xs : List Body} (hl : xs.length ≤ 4096) (h : ∀ b ∈ xs, check b = 0) : nZ xs = 0 := by
 unfold nZ
 rw [if_neg (by omega)]
 exact mV fun j c hj => h c (List.mem_of_getElem? hj)
def aGm : List Body → Bool
 | x :: y :: l => decide (x.key < y.key) && aGm (y :: l)
 | _ => true
theorem uA : ∀ {xs : List Body}, (∀ (i : Nat) (x y : Body), xs[i]? = some x → xs[i + 1]? = some y → x.key < y.key) → aGm xs = true
 | [], _ => rfl
 | [_], _ => rfl
 | x :: y :: l, h => by
  unfold aGm
  rw [Bool.and_eq_true]
  exact ⟨decide_eq_true (h 0 x y (by simp) (by simp)), uA fun i a b ha hb => h (i + 1) a b (by simpa using ha) (by simpa using hb)⟩
theorem sW : ∀ {xs : List Body}, aGm xs = true → cU xs
 | [], _ => by simp [cU]
 | [_], _ => by simp [cU]
 | x :: y :: l, h => by
  unfold aGm at h
  rw [Bool.and_eq_true, decide_eq_true_eq] at h
  have ih := sW h.2
  refine List.pairwise_cons.2 ⟨fun z hz => ?_, ih⟩
  rcases List.mem_cons.1 hz with rfl | hz
  ·exact h.1
  ·have := (List.pairwise_cons.1 ih).1 z hz; have := h.1; omega
theorem aLx {xs : List Body} (h : cU xs) : aGm xs = true := uA fun i x y hx hy => by
 have hi := List.getElem?_eq_some_iff.1 hx
 have hj := List.getElem?_eq_some_iff.1 hy
 have := List.pairwise_iff_getElem.1 h i (i + 1) hi.1 hj.1 (by omega)
 rwa [hi.2, hj.2] at this
theorem aDi {xs : List Body} {i : Nat} {x y : Body} (hx : xs[i]? = some x) (hy : xs[i + 1]? = some y) (h : ¬ x.key < y.key) : aGm xs = false := by
 cases e : aGm xs with
 | false => rfl
 | true =>
  exfalso
  have hi := List.getElem?_eq_some_iff.1 hx
  have hj := List.getElem?_eq_some_iff.1 hy
  have := List.pairwise_iff_getElem.1 (sW e) i (i + 1) hi.1 hj.1 (by omega)
  rw [hi.2, hj.2] at this
  exact h this
def jB (xs : List Body) : Int := if nZ xs ≠ 0 then nZ xs else if aGm xs = true then 0 else 10
instance (m : List Body) : Decidable (jZ m) := by unfold jZ; infer_instance
def aAb (key : Int) : List Body → Nat
 | [] => 0
 | b :: l => (if b.key < key then 1 else 0) + aAb key l
theorem yH {key : Int} : ∀ {xs : List Body} {k : Nat}, k ≤ xs.length → (∀ (j : Nat) (c : Body), j < k → xs[j]? = some c → c.key < key) → (∀ (j : Nat) (c : Body), k ≤ j → xs[j]? = some c → ¬ c.key < key) → aAb key xs = k
 | [], k, hk, _, _ => by simp at hk; simp [aAb, hk]
 | b :: l, 0, _, _, h2 => by
  unfold aAb
  rw [if_neg (h2 0 b (Nat.le_refl _) (by simp)), yH (k := 0) (by omega) (fun j c hj => by omega) (fun j c _ hc => h2 (j + 1) c (by omega) (by simpa using hc))]
 | b :: l, k + 1, hk, h1, h2 => by
  unfold aAb
  rw [if_pos (h1 0 b (by omega) (by simp)), yH (k := k) (by simpa using hk) (fun j c hj hc => h1 (j + 1) c (by omega) (by simpa using hc)) (fun j c hj hc => h2 (j + 1) c (by omega) (by simpa using hc))]
  omega
def iA (k : Int) : List Value := [.int .u32 k]
end Go.Bil
namespace Go.Bil
theorem aAn {xs : List Body} (h : cU xs) {p q : Nat} {a b : Body} (hpq : p ≤ q) (ha : xs[p]? = some a) (hb : xs[q]? = some b) : a.key ≤ b.key := by
 by_cases e : p = q
 ·subst e
  rw [ha] at hb
  injection hb with hb
  rw [hb]; exact Int.le_refl _
 ·have hi := List.getElem?_eq_some_iff.1 ha
  have hj := List.getElem?_eq_some_iff.1 hb
  have := List.pairwise_iff_getElem.1 h p q hi.1 hj.1 (by omega)
  rw [hi.2, hj.2] at this
  omega
theorem bRs (i j : Nat) : ((i : Int) + (j : Int)).fdiv (2 ^ (min (1 : Int).toNat IntKind.u64.bits)) = (((i + j) / 2 : Nat) : Int) := by
 have e : (2 : Int) ^ (min (1 : Int).toNat IntKind.u64.bits) = 2 := by decide
 rw [e, Int.fdiv_eq_ediv_of_nonneg _ (by omega)]
 omega
theorem sL {a b a' b' : Value} (h1 : a = a') (h2 : b = b') : Value.tuple #[a, b] = Value.tuple #[a', b'] := by rw [h1, h2]
theorem aVf {a b : Int} : pD a b = 0 ↔ a = b := by unfold pD; (repeat' split) <;> omega
theorem aXo {key : Int} {xs : List Body} (hs : cU xs) {i : Nat} {b : Body} (hb : xs[i]? = some b) (h1 : ∀ (j : Nat) (c : Body), j < i → xs[j]? = some c → c.key < key) (h2 : ∀ (j : Nat) (c : Body), i ≤ j → xs[j]? = some c → ¬ c.key < key) : pD b.key key = 0 ↔ 0 ≤ dJ key xs := by
 rw [aVf]
 constructor
 ·intro e
  rcases eH key xs with ⟨_, h⟩ | ⟨_, _, _, _, h⟩
  ·exact absurd e (h b (List.mem_of_getElem? hb))
  ·omega
 ·intro h
  rcases eH key xs with ⟨h', _⟩ | ⟨j, c, hc, hk, _⟩
  ·omega
  ·have hij : i ≤ j := by
    rcases Nat.lt_or_ge j i with hlt | hge
    ·have := h1 j c hlt hc; omega
    ·exact hge
   have := aAn hs hij hb hc
   have := h2 i b (Nat.le_refl _) hb
   omega
theorem aPy {key : Int} {xs : List Body} (h1 : ∀ (j : Nat) (c : Body), j < xs.length → xs[j]? = some c → c.key < key) : ¬ 0 ≤ dJ key xs := by
 intro h
 rcases eH key xs with ⟨h', _⟩ | ⟨j, c, hc, hk, _⟩
 ·omega
 ·have := h1 j c (List.getElem?_eq_some_iff.1 hc).1 hc
  omega
end Go.Bil
namespace Go.Bil
theorem aZk {α : Type} {xs ys : List α} {n m : Nat} (h1 : xs.length = n) (h2 : ys.length = m) (hnm : n = m) (h : ∀ (j : Nat) (x : α), j < n → xs[j]? = some x → ys[j]? = some x) : xs = ys := by
 apply List.ext_getElem?
 intro j
 by_cases hj : j < xs.length
 ·obtain ⟨x, hx⟩ := cV (k := j) rfl hj
  rw [hx, h j x (by omega) hx]
 ·rw [List.getElem?_eq_none (by omega), List.getElem?_eq_none (by omega)]
end Go.Bil
namespace Go.Bil
end Go.Bil
namespace Go.Bil
theorem aOx (k : Int) : ∀ y ∈ [iA k], y.length = 1 ∧ ∀ u ∈ y, one u = true := by
 intro y hy
 simp only [List.mem_singleton] at hy
 subst hy
 exact ⟨rfl, aR rfl⟩
end Go.Bil
namespace Go.Bil
structure Mg (xs ys : List Body) (i k : Nat) : Prop where
 sx : cU xs
 sy : cU ys
 yx : ∀ (p : Nat) (a b : Body), p < k → ys[p]? = some a → xs[i]? = some b → a.key < b.key
 xy : ∀ (p : Nat) (a b : Body), p < i → xs[p]? = some a → ys[k]? = some b → a.key < b.key
theorem Mg.swap {xs ys : List Body} {i k : Nat} (h : Mg xs ys i k) : Mg ys xs k i := ⟨h.sy, h.sx, h.xy, h.yx⟩
theorem fF {xs : List Body} (h : cU xs) {p q : Nat} {a b : Body} (hpq : p < q) (ha : xs[p]? = some a) (hb : xs[q]? = some b) : a.key < b.key := by
 have hi := List.getElem?_eq_some_iff.1 ha
 have hj := List.getElem?_eq_some_iff.1 hb
 have := List.pairwise_iff_getElem.1 h p q hi.1 hj.1 hpq
 rwa [hi.2, hj.2] at this
theorem Mg.x {xs ys : List Body} {i k : Nat} {a : Body} (h : Mg xs ys i k) (ha : xs[i]? = some a) (hb : ∀ b, ys[k]? = some b → a.key < b.key) : Mg xs ys (i + 1) k ∧ dJ a.key ys < 0 := by
 refine ⟨⟨h.sx, h.sy, fun p y x hp hy hx => ?_, fun p x y hp hx hy => ?_⟩, mK.2 fun y hy => ?_⟩
 ·have := h.yx p y a hp hy ha
  have := fF h.sx (Nat.lt_succ_self i) ha hx
  omega
 ·by_cases e : p = i
  ·subst e
   rw [ha] at hx
   injection hx with hx
   subst hx
   exact hb y hy
  ·exact h.xy p x y (by omega) hx hy
 ·obtain ⟨q, hq⟩ := List.getElem?_of_mem hy
  rcases Nat.lt_or_ge q k with hlt | hge
  ·have := h.yx q y a hlt hq ha; omega
  ·obtain ⟨b, hbk⟩ := cV (xs := ys) (k := k) rfl (by have := (List.getElem?_eq_some_iff.1 hq).1; omega)
   have h1 := hb b hbk
   have h2 := aAn h.sy hge hbk hq
   omega
theorem Mg.y {xs ys : List Body} {i k : Nat} {b : Body} (h : Mg xs ys i k) (hb : ys[k]? = some b) (ha : ∀ a, xs[i]? = some a → b.key < a.key) : Mg xs ys i (k + 1) ∧ dJ b.key xs < 0 := by
 obtain ⟨h1, h2⟩ := h.swap.x hb ha
 exact ⟨h1.swap, h2⟩
theorem Mg.both {xs ys : List Body} {i k : Nat} {a b : Body} (h : Mg xs ys i k) (ha : xs[i]? = some a) (hb : ys[k]? = some b) (hk : a.key = b.key) : Mg xs ys (i + 1) (k + 1) ∧ dJ a.key ys = (k : Int) ∧ dJ b.key xs = (i : Int) := by
 refine ⟨⟨h.sx, h.sy, fun p y x hp hy hx => ?_, fun p x y hp hx hy => ?_⟩, ?_, ?_⟩
 ·have h1 := fF h.sx (Nat.lt_succ_self i) ha hx
  have h2 := aAn h.sy (show p ≤ k by omega) hy hb
  omega
 ·have h1 := fF h.sy (Nat.lt_succ_self k) hb hy
  have h2 := aAn h.sx (show p ≤ i by omega) hx ha
  omega
 ·exact yJ hb hk.symm fun j c hj hc => by have := fF h.sy hj hc hb; omega
 ·exact yJ ha hk fun j c hj hc => by have := fF h.sx hj hc ha; omega
end Go.Bil
namespace Go.Bil
end Go.Bil
namespace Go.Bil
end Go.Bil
namespace Go.Bil
end Go.Bil
namespace Go.Bil
end Go.Bil
namespace Go.Bil
end Go.Bil
namespace Go.Bil
end Go.Bil

namespace Go.Bil
theorem aXq {v : List Body} (he : nZ v = 0) (hs : cU v) : jB v = 0 := by
 unfold jB
 rw [if_neg (by omega), if_pos (aLx hs)]
end Go.Bil

namespace Go.Bil
structure Bx where
 x0 : Int
 y0 : Int
 x1 : Int
 y1 : Int
 deriving DecidableEq, Inhabited
def eK (a : Bx) : List Value := [.int .i32 a.x0, .int .i32 a.y0, .int .i32 a.x1, .int .i32 a.y1]
def aOo (b : Body) : Int := max b.ax (-b.ax) + b.radius
def aOy (b : Body) : Int := max b.ay (-b.ay) + b.radius
def gM (b : Body) : Bx := ⟨b.px - aOo b, b.py - aOy b, b.px + aOo b, b.py + aOy b⟩
abbrev jO (a : Bx) : Prop := a.x1 < a.x0 ∨ a.y1 < a.y0
def jY : Bx := ⟨1, 0, 0, 0⟩
def aHq (a b : Bx) : Bx := if jO ⟨max a.x0 b.x0, max a.y0 b.y0, min a.x1 b.x1, min a.y1 b.y1⟩ then jY else ⟨max a.x0 b.x0, max a.y0 b.y0, min a.x1 b.x1, min a.y1 b.y1⟩
abbrev ovl (a b : Bx) : Prop := (a.x0 ≤ a.x1 ∧ a.y0 ≤ a.y1) ∧ (b.x0 ≤ b.x1 ∧ b.y0 ≤ b.y1) ∧ (a.x0 ≤ b.x1 ∧ b.x0 ≤ a.x1 ∧ a.y0 ≤ b.y1 ∧ b.y0 ≤ a.y1)
theorem bDj (a b : Bx) : ¬ jO (aHq a b) ↔ ovl a b := by
 unfold aHq
 split
 ·rename_i h
  unfold jO at h
  simp only [jO, jY, ovl]
  simp only at h
  omega
 ·rename_i h
  unfold jO at h
  simp only [jO, ovl]
  simp only at h
  omega
structure Okb (b : Body) : Prop where
 r : 4096 ≤ b.radius ∧ b.radius ≤ 4194304
 a : -4194304 ≤ b.ax ∧ b.ax ≤ 4194304 ∧ -4194304 ≤ b.ay ∧ b.ay ≤ 4194304
 m : 0 ≤ b.mass ∧ b.mass ≤ 1048576
 c : 0 ≤ b.bounce ∧ b.bounce ≤ 65536
 p : -1073741824 ≤ b.px ∧ b.px ≤ 1073741824 ∧ -1073741824 ≤ b.py ∧ b.py ≤ 1073741824
 v : -16777216 ≤ b.vx ∧ b.vx ≤ 16777216 ∧ -16777216 ≤ b.vy ∧ b.vy ≤ 16777216
theorem aLq {b : Body} (h : check b = 0) : Okb b := by
 by_cases h1 : 4096 ≤ b.radius ∧ b.radius ≤ 4194304
 ·by_cases h2 : -4194304 ≤ b.ax ∧ b.ax ≤ 4194304 ∧ -4194304 ≤ b.ay ∧ b.ay ≤ 4194304
  ·by_cases h3 : 0 ≤ b.mass ∧ b.mass ≤ 1048576
   ·by_cases h4 : 0 ≤ b.bounce ∧ b.bounce ≤ 65536
    ·by_cases h5 : -1073741824 ≤ b.px ∧ b.px ≤ 1073741824 ∧ -1073741824 ≤ b.py ∧ b.py ≤ 1073741824
     ·by_cases h6 : -16777216 ≤ b.vx ∧ b.vx ≤ 16777216 ∧ -16777216 ≤ b.vy ∧ b.vy ≤ 16777216
      ·exact ⟨h1, h2, h3, h4, h5, h6⟩
      ·rw [aTl b h1 h2 h3 h4 h5 h6] at h; omega
     ·rw [aSj b h1 h2 h3 h4 h5] at h; omega
    ·rw [aSf b h1 h2 h3 h4] at h; omega
   ·rw [aUp b h1 h2 h3] at h; omega
  ·rw [aTu b h1 h2] at h; omega
 ·rw [aUf b h1] at h; omega
theorem bCp {b : Body} (h : Okb b) : 4096 ≤ aOo b ∧ aOo b ≤ 8388608 ∧ 4096 ≤ aOy b ∧ aOy b ≤ 8388608 := by
 have := h.r
 have := h.a
 unfold aOo aOy
 omega
structure Okx (a : Bx) : Prop where
 x0 : -2147483648 ≤ a.x0 ∧ a.x0 ≤ 2147483647
 y0 : -2147483648 ≤ a.y0 ∧ a.y0 ≤ 2147483647
 x1 : -2147483648 ≤ a.x1 ∧ a.x1 ≤ 2147483647
 y1 : -2147483648 ≤ a.y1 ∧ a.y1 ≤ 2147483647
theorem bMv {b : Body} (h : Okb b) : Okx (gM b) := by
 have h1 := bCp h
 have h2 := h.p
 constructor <;> simp only [gM] <;> omega
end Go.Bil

namespace Go.Bil
def dO (c : Int × Int) : List Value := [.int .i32 c.1, .int .i32 c.2]
def oU (x : Int) : Int := x.fdiv 4194304
theorem bJl (x : Int) : x.fdiv (2 ^ (min (22 : Int).toNat IntKind.i32.bits)) = oU x := rfl
theorem aKi (x : Int) : oU x = x / 4194304 := by unfold oU; exact Int.fdiv_eq_ediv_of_nonneg x (by decide)
theorem rV {x : Int} (h0 : -2147483648 ≤ x) (h1 : x ≤ 2147483647) : -512 ≤ oU x ∧ oU x ≤ 511 := by rw [aKi]; omega
theorem lT {x y : Int} (h : x ≤ y) : oU x ≤ oU y := by rw [aKi, aKi]; omega
def loC (a : Bx) : Int × Int := if jO a then (0, 0) else (oU a.x0, oU a.y0)
def hiC (a : Bx) : Int × Int := if jO a then (0, 0) else (oU a.x1, oU a.y1)
def nX (lo hi : Int × Int) : Nat := (hi.1 - lo.1 + 1).toNat
def nY (lo hi : Int × Int) : Nat := (hi.2 - lo.2 + 1).toNat
def aFg (lo : Int × Int) (i j : Nat) : List (Int × Int) := (List.range i).map (fun (p : Nat) => (lo.1 + (p : Int), lo.2 + (j : Int)))
def pU (lo hi : Int × Int) (j : Nat) : List (Int × Int) := (List.range j).flatMap (fun q => aFg lo (nX lo hi) q)
def yY (ok : Bool) (lo hi : Int × Int) : List (Int × Int) := if ok then pU lo hi (nY lo hi) else []
def jK (a : Bx) : List (Int × Int) := yY (decide (¬ jO a)) (loC a) (hiC a)
theorem aMw (lo : Int × Int) (i j : Nat) : (aFg lo i j).length = i := by simp [aFg]
theorem aUs (lo : Int × Int) (i j : Nat) : aFg lo (i + 1) j = aFg lo i j ++ [(lo.1 + (i : Int), lo.2 + (j : Int))] := by simp [aFg, List.range_succ]
theorem aEq (lo hi : Int × Int) (j : Nat) : pU lo hi (j + 1) = pU lo hi j ++ aFg lo (nX lo hi) j := by simp [pU, List.range_succ]
theorem yR (lo hi : Int × Int) : ∀ j, (pU lo hi j).length = j * nX lo hi
 | 0 => by simp [pU]
 | j + 1 => by rw [aEq, List.length_append, yR lo hi j, aMw, Nat.add_mul, Nat.one_mul]
theorem bDm {lo hi : Int × Int} {i j : Nat} (hx : nX lo hi ≤ 1024) (hj : j < 1024) (hi' : i < nX lo hi) : (pU lo hi j).length + i < 1048576 := by
 rw [yR]
 have : j * nX lo hi ≤ 1023 * 1024 := Nat.mul_le_mul (by omega) hx
 omega
theorem bBs {lo hi : Int × Int} {j : Nat} (hx : nX lo hi ≤ 1024) (hj : j ≤ 1024) : (pU lo hi j).length ≤ 1048576 := by
 rw [yR]
 exact Nat.mul_le_mul hj hx
theorem aVw {lo hi : Int × Int} {n : Nat} {c : Int × Int} : c ∈ pU lo hi n ↔ ∃ q p : Nat, q < n ∧ p < nX lo hi ∧ c = (lo.1 + (p : Int), lo.2 + (q : Int)) := by
 simp only [pU, aFg, List.mem_flatMap, List.mem_range, List.mem_map]
 constructor
 ·rintro ⟨q, hq, p, hp, rfl⟩; exact ⟨q, p, hq, hp, rfl⟩
 ·rintro ⟨q, p, hq, hp, rfl⟩; exact ⟨q, hq, p, hp, rfl⟩
theorem aEf {a : Bx} {c : Int × Int} : c ∈ jK a ↔ ¬ jO a ∧ oU a.x0 ≤ c.1 ∧ c.1 ≤ oU a.x1 ∧ oU a.y0 ≤ c.2 ∧ c.2 ≤ oU a.y1 := by
 unfold jK yY
 by_cases h : jO a
 ·simp [h]
 ·rw [if_pos (by simpa using h), aVw]
  simp only [loC, hiC, if_neg h, nX, nY]
  constructor
  ·rintro ⟨q, p, hq, hp, rfl⟩
   refine ⟨h, ?_⟩
   simp only
   omega
  ·rintro ⟨_, h1, h2, h3, h4⟩
   refine ⟨(c.2 - oU a.y0).toNat, (c.1 - oU a.x0).toNat, by omega, by omega, ?_⟩
   apply Prod.ext <;> simp only <;> omega
structure Okc (c : Int × Int) : Prop where
 x : -512 ≤ c.1 ∧ c.1 ≤ 511
 y : -512 ≤ c.2 ∧ c.2 ≤ 511
theorem aQq {a : Bx} (h : Okx a) : Okc (loC a) := by
 unfold loC
 split
 ·exact ⟨by decide, by decide⟩
 ·exact ⟨rV h.x0.1 h.x0.2, rV h.y0.1 h.y0.2⟩
theorem aRo {a : Bx} (h : Okx a) : Okc (hiC a) := by
 unfold hiC
 split
 ·exact ⟨by decide, by decide⟩
 ·exact ⟨rV h.x1.1 h.x1.2, rV h.y1.1 h.y1.2⟩
theorem bJw {lo hi : Int × Int} (h1 : Okc lo) (h2 : Okc hi) : nX lo hi ≤ 1024 := by
 have := h1.x; have := h2.x
 unfold nX
 omega
theorem bJk {lo hi : Int × Int} (h1 : Okc lo) (h2 : Okc hi) : nY lo hi ≤ 1024 := by
 have := h1.y; have := h2.y
 unfold nY
 omega
theorem aPg {a : Bx} (h : Okx a) : (jK a).length ≤ 1048576 := by
 unfold jK yY
 split
 ·exact bBs (bJw (aQq h) (aRo h)) (bJk (aQq h) (aRo h))
 ·simp
theorem aZf {a b : Bx} (h : ovl a b) : ∃ c, c ∈ jK a ∧ c ∈ jK b := by
 obtain ⟨⟨h1, h2⟩, ⟨h3, h4⟩, h5, h6, h7, h8⟩ := h
 refine ⟨(oU (max a.x0 b.x0), oU (max a.y0 b.y0)), aEf.2 ⟨by unfold jO; omega, ?_⟩, aEf.2 ⟨by unfold jO; omega, ?_⟩⟩
 ·exact ⟨lT (by omega), lT (by omega), lT (by omega), lT (by omega)⟩
 ·exact ⟨lT (by omega), lT (by omega), lT (by omega), lT (by omega)⟩
def uJ (c : Int × Int) : Int :=
 IntKind.u32.wrap ((BitVec.ofInt 32 (IntKind.u32.wrap ((BitVec.ofInt 32 (IntKind.u32.wrap (IntKind.u32.wrap c.1 * 73856093)) ^^^ BitVec.ofInt 32 (IntKind.u32.wrap (IntKind.u32.wrap c.2 * 19349663))).toNat)) &&& BitVec.ofInt 32 1023).toNat)
def fE (c : Int × Int) : Nat := (uJ c).toNat
theorem nA (c : Int × Int) : 0 ≤ uJ c ∧ uJ c < 1024 := by
 unfold uJ
 generalize BitVec.ofInt 32 (IntKind.u32.wrap _) = a
 have h : (a &&& BitVec.ofInt 32 1023).toNat ≤ 1023 := by
  rw [BitVec.toNat_and]
  exact Nat.le_trans Nat.and_le_right (by decide)
 rw [aEn _ (by omega) (by omega)]
 omega
theorem lQ (c : Int × Int) : fE c < 1024 := by have := nA c; unfold fE; omega
theorem aWc (c : Int × Int) : uJ c = (fE c : Int) := by have := nA c; unfold fE; omega
end Go.Bil

namespace Go.Bil
def fT (n : Int) : List Int := [n / 16777216 % 256, n / 65536 % 256, n / 256 % 256, n % 256]
def aTf (b : Body) : List Int := [b.key, b.radius, b.ax, b.ay, b.mass, b.bounce, b.px, b.py, b.vx, b.vy]
def wH (b : Body) : List Int := (aTf b).flatMap fT
def pB : List Int := [66, 73, 76, 49]
def zJ (v : List Body) : List Int := pB ++ fT (v.length : Int) ++ v.flatMap wH
def eJ (l : List Int) (a : Nat) : Int := ((l.getD a 0 * 256 + l.getD (a + 1) 0) * 256 + l.getD (a + 2) 0) * 256 + l.getD (a + 3) 0
def kP (n : Int) : Int := if 2147483648 ≤ n then n - 4294967296 else n
def oZ (l : List Int) (a : Nat) : Body := ⟨eJ l a, kP (eJ l (a + 4)), kP (eJ l (a + 8)), kP (eJ l (a + 12)), kP (eJ l (a + 16)), kP (eJ l (a + 20)), kP (eJ l (a + 24)), kP (eJ l (a + 28)), kP (eJ l (a + 32)), kP (eJ l (a + 36))⟩
abbrev aDr (l : List Int) : Prop := 8 ≤ l.length ∧ l.take 4 = pB ∧ (l.length : Int) = 8 + 40 * eJ l 4
def pC (l : List Int) (n : Nat) : List Body := (List.range n).map (fun i => oZ l (8 + 40 * i))
def nR (l : List Int) : List Body × Int := if ¬ aDr l then ([], 13) else if jB (pC l (eJ l 4).toNat) ≠ 0 then ([], jB (pC l (eJ l 4).toNat)) else (pC l (eJ l 4).toNat, 0)
abbrev lS (l : List Int) : Prop := ∀ x ∈ l, 0 ≤ x ∧ x ≤ 255
theorem aVr (n : Int) : (fT n).length = 4 := rfl
theorem bEc (b : Body) : (wH b).length = 40 := rfl
theorem bAw (v : List Body) : (v.flatMap wH).length = 40 * v.length := by
 induction v with
 | nil => rfl
 | cons b v ih => rw [List.flatMap_cons, List.length_append, ih, bEc, List.length_cons]; omega
theorem bCm (v : List Body) : (zJ v).length = 8 + 40 * v.length := by
 unfold zJ
 rw [List.length_append, List.length_append, bAw, aVr]
 rfl
theorem uK (n : Int) : fT (n % 4294967296) = fT n := by
 unfold fT
 have h1 : n % 4294967296 / 16777216 % 256 = n / 16777216 % 256 := by omega
 have h2 : n % 4294967296 / 65536 % 256 = n / 65536 % 256 := by omega
 have h3 : n % 4294967296 / 256 % 256 = n / 256 % 256 := by omega
 have h4 : n % 4294967296 % 256 = n % 256 := by omega
 rw [h1, h2, h3, h4]
theorem aYc (n : Int) : fT (kP n) = fT n := by
 unfold kP
 split
 ·rw [← uK (n - 4294967296), ← uK n]
  congr 1
  omega
 ·rfl
theorem lY {l : List Int} (hl : lS l) {a : Nat} (h : a + 4 ≤ l.length) : 0 ≤ eJ l a ∧ eJ l a ≤ 4294967295 ∧ fT (eJ l a) = (l.drop a).take 4 := by
 have g (j : Nat) (hj : j < l.length) : l[j]? = some (l.getD j 0) ∧ 0 ≤ l.getD j 0 ∧ l.getD j 0 ≤ 255 := by
  rw [List.getD_eq_getElem?_getD, List.getElem?_eq_getElem hj]
  have hb := hl _ (List.getElem_mem hj)
  exact ⟨rfl, hb.1, hb.2⟩
 obtain ⟨g0, g1, g2⟩ := g a (by omega)
 obtain ⟨g3, g4, g5⟩ := g (a + 1) (by omega)
 obtain ⟨g6, g7, g8⟩ := g (a + 2) (by omega)
 obtain ⟨g9, ga, gb⟩ := g (a + 3) (by omega)
 have e : (l.drop a).take 4 = [l.getD a 0, l.getD (a + 1) 0, l.getD (a + 2) 0, l.getD (a + 3) 0] := by
  have hlen : ((l.drop a).take 4).length = 4 := by rw [List.length_take, List.length_drop]; omega
  refine List.ext_getElem? fun j => ?_
  rcases (show j = 0 ∨ j = 1 ∨ j = 2 ∨ j = 3 ∨ 4 ≤ j by omega) with rfl | rfl | rfl | rfl | hj
  ·rw [List.getElem?_take_of_lt (by omega), List.getElem?_drop]; simpa using g0
  ·rw [List.getElem?_take_of_lt (by omega), List.getElem?_drop]; simpa using g3
  ·rw [List.getElem?_take_of_lt (by omega), List.getElem?_drop]; simpa using g6
  ·rw [List.getElem?_take_of_lt (by omega), List.getElem?_drop]; simpa using g9
  ·rw [List.getElem?_eq_none (by omega), List.getElem?_eq_none (by simpa using hj)]
 rw [e]
 unfold eJ fT
 generalize l.getD a 0 = p at *
 generalize l.getD (a + 1) 0 = q at *
 generalize l.getD (a + 2) 0 = r at *
 generalize l.getD (a + 3) 0 = s at *
 refine ⟨by omega, by omega, ?_⟩
 have h1 : (((p * 256 + q) * 256 + r) * 256 + s) / 16777216 % 256 = p := by omega
 have h2 : (((p * 256 + q) * 256 + r) * 256 + s) / 65536 % 256 = q := by omega
 have h3 : (((p * 256 + q) * 256 + r) * 256 + s) / 256 % 256 = r := by omega
 have h4 : (((p * 256 + q) * 256 + r) * 256 + s) % 256 = s := by omega
 rw [h1, h2, h3, h4]
theorem aQn (l : List Int) (k : Nat) : ∀ n, (List.range n).flatMap (fun i => (l.drop (k * i)).take k) = l.take (k * n)
 | 0 => by simp
 | n + 1 => by
  rw [List.range_succ, List.flatMap_append, aQn l k n, List.flatMap_cons, List.flatMap_nil, List.append_nil, Nat.mul_succ, List.take_add]
theorem mW {n : Int} (h : 0 ≤ n ∧ n ≤ 4294967295) : -2147483648 ≤ kP n ∧ kP n ≤ 2147483647 := by unfold kP; split <;> omega
theorem aYe {l : List Int} (hl : lS l) {a : Nat} (h : a + 40 ≤ l.length) : InB (oZ l a) := by
 have f (k : Nat) (hk : k ≤ 36) : 0 ≤ eJ l (a + k) ∧ eJ l (a + k) ≤ 4294967295 := by
  have := lY hl (a := a + k) (by omega)
  exact ⟨this.1, this.2.1⟩
 exact ⟨f 0 (by omega), mW (f 4 (by omega)), mW (f 8 (by omega)), mW (f 12 (by omega)), mW (f 16 (by omega)), mW (f 20 (by omega)), mW (f 24 (by omega)), mW (f 28 (by omega)), mW (f 32 (by omega)), mW (f 36 (by omega))⟩
theorem bHf {l : List Int} (hl : lS l) {a : Nat} (h : a + 40 ≤ l.length) : wH (oZ l a) = (l.drop a).take 40 := by
 have f (k : Nat) (hk : k ≤ 36) : fT (eJ l (a + k)) = ((l.drop a).drop k).take 4 := by rw [List.drop_drop]; exact (lY hl (a := a + k) (by omega)).2.2
 have e := aQn (l.drop a) 4 10
 rw [← e]
 unfold wH aTf oZ
 simp only [List.flatMap_cons, List.flatMap_nil, aYc]
 have f0 := f 0 (by omega)
 rw [Nat.add_zero] at f0
 rw [f0, f 4 (by omega), f 8 (by omega), f 12 (by omega), f 16 (by omega), f 20 (by omega), f 24 (by omega), f 28 (by omega), f 32 (by omega), f 36 (by omega)]
 rfl
theorem xW (l : List Int) (n : Nat) : (pC l n).length = n := by unfold pC; rw [List.length_map, List.length_range]
theorem aGn {α β : Type} {l : List α} {f g : α → List β} (h : ∀ x ∈ l, f x = g x) : l.flatMap f = l.flatMap g := by
 induction l with
 | nil => rfl
 | cons x l ih => rw [List.flatMap_cons, List.flatMap_cons, h x (by simp), ih fun y hy => h y (by simp [hy])]
theorem bDt {l : List Int} (hl : lS l) {n : Nat} (h : l.length = 8 + 40 * n) : (pC l n).flatMap wH = l.drop 8 := by
 unfold pC
 rw [List.flatMap_map, aGn (g := fun i => ((l.drop 8).drop (40 * i)).take 40) (fun i hi => by
  have := List.mem_range.1 hi
  rw [List.drop_drop]
  exact bHf hl (by omega)), aQn, List.take_of_length_le (by rw [List.length_drop]; omega)]
structure DecOk (l : List Int) (v : List Body) : Prop where
 n : l.length = 8 + 40 * v.length
 e : zJ v = l
 inb : ∀ b ∈ v, InB b
 c : jB v = 0
theorem bIk {l : List Int} (hl : lS l) (h : (nR l).2 = 0) : DecOk l (nR l).1 := by
 unfold nR at h ⊢
 by_cases hf : aDr l
 ·rw [if_neg (Decidable.not_not.2 hf)] at h ⊢
  by_cases hc : jB (pC l (eJ l 4).toNat) = 0
  ·rw [if_neg (by omega)]
   obtain ⟨h8, hm, hn⟩ := hf
   have hr := lY hl (a := 4) (by omega)
   have hlen : l.length = 8 + 40 * (eJ l 4).toNat := by omega
   show DecOk l (pC l (eJ l 4).toNat)
   refine ⟨by rw [xW]; exact hlen, ?_, ?_, hc⟩
   ·unfold zJ
    rw [bDt hl hlen, xW, show (((eJ l 4).toNat : Nat) : Int) = eJ l 4 by omega, hr.2.2, ← hm, ← List.take_add, List.take_append_drop]
   ·intro b hb
    unfold pC at hb
    obtain ⟨i, hi, rfl⟩ := List.mem_map.1 hb
    have := List.mem_range.1 hi
    exact aYe hl (by omega)
  ·rw [if_pos hc] at h
   exact absurd h hc
 ·rw [if_pos hf] at h
  cases h
def aBb (b : Body) : List Int := [b.key, b.radius % 4294967296, b.ax % 4294967296, b.ay % 4294967296, b.mass % 4294967296, b.bounce % 4294967296, b.px % 4294967296, b.py % 4294967296, b.vx % 4294967296, b.vy % 4294967296]
theorem aXl (b : Body) : (aBb b).flatMap fT = wH b := by
 unfold aBb wH aTf
 simp only [List.flatMap_cons, List.flatMap_nil, uK]
theorem aWl {b : Body} (h : InB b) : ∀ x ∈ aBb b, 0 ≤ x ∧ x ≤ 4294967295 := by
 obtain ⟨h0, _⟩ := h
 intro x hx
 simp only [aBb, List.mem_cons, List.not_mem_nil, or_false] at hx
 rcases hx with rfl | rfl | rfl | rfl | rfl | rfl | rfl | rfl | rfl | rfl <;> omega
theorem aXk {L : List Int} {j : Nat} {x : Int} (h : L[j]? = some x) : (L.take (j + 1)).flatMap fT = (L.take j).flatMap fT ++ fT x := by
 rw [cP h, List.flatMap_append, List.flatMap_cons, List.flatMap_nil, List.append_nil]
theorem aHb {v : List Body} {j : Nat} {x : Body} (h : v[j]? = some x) : (v.take (j + 1)).flatMap wH = (v.take j).flatMap wH ++ wH x := by
 rw [cP h, List.flatMap_append, List.flatMap_cons, List.flatMap_nil, List.append_nil]
theorem fM {l : List Int} {a m : Nat} (h : 4 ≤ m) : eJ ((l.drop a).take m) 0 = eJ l a := by
 have g (j : Nat) (hj : j < m) : ((l.drop a).take m).getD j 0 = l.getD (a + j) 0 := by
  rw [List.getD_eq_getElem?_getD, List.getD_eq_getElem?_getD, List.getElem?_take_of_lt hj, List.getElem?_drop]
 unfold eJ
 rw [g 0 (by omega), g (0 + 1) (by omega), g (0 + 2) (by omega), g (0 + 3) (by omega)]
 rfl
theorem aHa (l : List Int) (k : Nat) : pC l (k + 1) = pC l k ++ [oZ l (8 + 40 * k)] := by unfold pC; rw [List.range_succ, List.map_append]; rfl
theorem lS.sub {l : List Int} (h : lS l) (a m : Nat) : lS ((l.drop a).take m) := fun x hx => h x (List.mem_of_mem_drop (List.mem_of_mem_take hx))
end Go.Bil
namespace Go.Bil
theorem uM {l : List Int} (h : ¬ aDr l) : nR l = ([], 13) := by unfold nR; rw [if_pos h]
theorem aSy {l : List Int} {N : Nat} (h : aDr l) (hN : eJ l 4 = (N : Int)) (hc : jB (pC l N) ≠ 0) : nR l = ([], jB (pC l N)) := by
 unfold nR; rw [if_neg (Decidable.not_not.2 h), hN, Int.toNat_natCast, if_pos hc]
theorem aMf {l : List Int} {N : Nat} (h : aDr l) (hN : eJ l 4 = (N : Int)) (hc : jB (pC l N) = 0) : nR l = (pC l N, 0) := by
 unfold nR; rw [if_neg (Decidable.not_not.2 h), hN, Int.toNat_natCast, if_neg (by omega)]
theorem bPg {l : List Int} (hl : lS l) {a : Nat} (h : a + 40 ≤ l.length) : ∀ x ∈ ([eJ l a, eJ l (a + 4), eJ l (a + 8), eJ l (a + 12), eJ l (a + 16), eJ l (a + 20), eJ l (a + 24), eJ l (a + 28), eJ l (a + 32), eJ l (a + 36)] : List Int), 0 ≤ x ∧ x ≤ 4294967295 := by
 have f (k : Nat) (hk : k ≤ 36) : 0 ≤ eJ l (a + k) ∧ eJ l (a + k) ≤ 4294967295 := by
  have := lY hl (a := a + k) (by omega)
  exact ⟨this.1, this.2.1⟩
 intro x hx
 simp only [List.mem_cons, List.not_mem_nil, or_false] at hx
 rcases hx with rfl | rfl | rfl | rfl | rfl | rfl | rfl | rfl | rfl | rfl
 ·exact f 0 (by omega)
 ·exact f 4 (by omega)
 ·exact f 8 (by omega)
 ·exact f 12 (by omega)
 ·exact f 16 (by omega)
 ·exact f 20 (by omega)
 ·exact f 24 (by omega)
 ·exact f 28 (by omega)
 ·exact f 32 (by omega)
 ·exact f 36 (by omega)
theorem pL : pB = ([66, 73, 76, 49] : List UInt8).map (fun y => (y.toNat : Int)) := by decide
end Go.Bil
