/- Part of the proof of the laws of this seat: Md4, Md5, Md7, Md8, MdB, MdC, Mf1. No conditions. -/
import Derived.Test.YtlmcphcgiclanaaGreatDoorK4
import Derived.Test.YtlmcphcgiclanaaGreatDoorK3
set_option linter.unusedVariables false
set_option linter.unusedSimpArgs false
set_option linter.unnecessarySimpa false
namespace Go.Bil
def bV (s : List Body) : Prop := s.Pairwise (fun a b => a.key < b.key)
def nP (k : Int) (s : List Body) : List Body := s.filter (fun x => decide (x.key ≠ k))
def oI (b : Body) : Bool → List Body → List Body
 | true, s => nP b.key s
 | false, [] => [b]
 | false, x :: l => if b.key ≤ x.key then b :: nP b.key (x :: l) else x :: oI b false l
def bBu (b : Body) (r : List Body × Bool) : List Body := if r.2 then r.1 else r.1 ++ [b]
theorem nN (b : Body) : ∀ (s acc : List Body) (d : Bool), bBu b (s.foldl (lQ b) (acc, d)) = acc ++ oI b d s
 | [], acc, true => by simp [oI, nP, bBu]
 | [], acc, false => by simp [oI, bBu]
 | x :: l, acc, true => by
  have ih := nN b l (if x.key ≠ b.key then acc ++ [x] else acc) true
  rw [List.foldl_cons]
  have e : lQ b (acc, true) x = (if x.key ≠ b.key then acc ++ [x] else acc, true) := by unfold lQ; by_cases h : x.key = b.key <;> simp [h]
  rw [e, ih]
  by_cases h : x.key = b.key <;> simp [oI, nP, h]
 | x :: l, acc, false => by
  rw [List.foldl_cons]
  by_cases hb : b.key ≤ x.key
  ·have ih := nN b l (if x.key ≠ b.key then acc ++ [b] ++ [x] else acc ++ [b]) true
   have e : lQ b (acc, false) x = (if x.key ≠ b.key then acc ++ [b] ++ [x] else acc ++ [b], true) := by unfold lQ; by_cases h : x.key = b.key <;> simp [h, hb]
   rw [e, ih]
   by_cases h : x.key = b.key <;> simp [oI, nP, h, hb]
  ·have hne : x.key ≠ b.key := by omega
   have ih := nN b l (acc ++ [x]) false
   have e : lQ b (acc, false) x = (acc ++ [x], false) := by unfold lQ; simp [hb, hne]
   rw [e, ih]
   simp [oI, hb]
theorem aKw (s : List Body) (b : Body) (g : Bool) : aCk s b g = oI b g s := by
 have := nN b s [] g
 rw [List.nil_append] at this
 exact this
theorem tO (b : Body) : ∀ s : List Body, (oI b false s).Perm (b :: nP b.key s)
 | [] => by simp [oI, nP]
 | x :: l => by
  unfold oI
  split
  ·exact List.Perm.refl _
  ·rename_i h
   have hne : x.key ≠ b.key := by omega
   have e : nP b.key (x :: l) = x :: nP b.key l := by simp [nP, hne]
   rw [e]
   exact ((tO b l).cons x).trans (List.Perm.swap b x _)
theorem xE {k : Int} {s : List Body} {x : Body} : x ∈ nP k s ↔ x ∈ s ∧ x.key ≠ k := by simp [nP]
theorem bV.cut {s : List Body} (h : bV s) (k : Int) : bV (nP k s) := List.Pairwise.sublist List.filter_sublist h
theorem bV.put {b : Body} : ∀ {s : List Body}, bV s → bV (oI b false s)
 | [], _ => by simp [oI, bV]
 | x :: l, h => by
  unfold oI
  have hx : ∀ y ∈ l, x.key < y.key := (List.pairwise_cons.1 h).1
  have hl : bV l := (List.pairwise_cons.1 h).2
  split
  ·rename_i hb
   refine List.pairwise_cons.2 ⟨fun y hy => ?_, h.cut _⟩
   obtain ⟨h1, h2⟩ := xE.1 hy
   rcases List.mem_cons.1 h1 with rfl | h1
   ·omega
   ·have := hx y h1; omega
  ·rename_i hb
   refine List.pairwise_cons.2 ⟨fun y hy => ?_, bV.put hl⟩
   have := (tO b l).mem_iff.1 hy
   rcases List.mem_cons.1 this with rfl | h1
   ·omega
   ·exact hx y (xE.1 h1).1
def rK (s : List Body) (b : Body) : List Body × Int :=
 if check b ≠ 0 then (s, check b) else if 0 ≤ cH b.key s then (s, 10) else if 4096 ≤ s.length then (s, 12) else (aCk s b false, 0)
def pJ (k : Int) : Body := ⟨k, 0, 0, 0, 0, 0, 0, 0, 0, 0⟩
def jQ (s : List Body) (k : Int) : List Body × Int := if cH k s < 0 then (s, 11) else (aCk s (pJ k) true, 0)
def aUv (s : List Body) (b : Body) : List Body × Int :=
 if check b ≠ 0 then (s, check b) else if cH b.key s < 0 then (s, 11) else (aCk s b false, 0)
def aCe (l : List Body) : List Body := l.foldl (fun s b => (rK s b).1) []
theorem aAj {l : List Body} {k : Nat} {x : Body} (h : l[k]? = some x) : aCe (l.take (k + 1)) = (rK (aCe (l.take k)) x).1 := by
 unfold aCe
 rw [cT h, List.foldl_append]
 rfl
structure Rel (m s : List Body) : Prop where
 perm : s.Perm m
 sorted : bV s
theorem Rel.nil : Rel [] [] := ⟨List.Perm.refl _, by simp [bV]⟩
theorem bV.unique {s t : List Body} (h : bV s) (h' : bV t) (p : s.Perm t) : s = t :=
 List.Perm.eq_of_pairwise (le := fun (a b : Body) => a.key < b.key) (fun a b _ _ h1 h2 => by omega) h h' p
theorem bV.keys {s : List Body} (h : bV s) : fJ s := by
 unfold fJ List.Nodup
 rw [List.pairwise_map]
 exact h.imp (fun h => by omega)
theorem Rel.keys {m s : List Body} (R : Rel m s) : fJ m := R.sorted.keys.perm R.perm.symm
theorem Rel.find {m s : List Body} (R : Rel m s) (k : Int) : cH k s < 0 ↔ cH k m < 0 := by
 rw [jP, jP]
 exact ⟨fun h b hb => h b (R.perm.mem_iff.2 hb), fun h b hb => h b (R.perm.mem_iff.1 hb)⟩
theorem aBz {k : Int} {s : List Body} (h : cH k s < 0) : nP k s = s := List.filter_eq_self.2 fun x hx => by simpa using jP.1 h x hx
theorem Rel.put {m s : List Body} (R : Rel m s) (b : Body) {m' : List Body} (h : m'.Perm (b :: nP b.key m)) : Rel m' (aCk s b false) := by
 rw [aKw]
 exact ⟨((tO b s).trans ((R.perm.filter _).cons b)).trans h.symm, R.sorted.put⟩
theorem Rel.add {m s : List Body} (R : Rel m s) (b : Body) : Rel (jY m b).1 (rK s b).1 ∧ (rK s b).2 = (jY m b).2 := by
 unfold jY rK
 have hf := R.find b.key
 have hl := R.perm.length_eq
 by_cases h1 : check b ≠ 0
 ·rw [if_pos h1, if_pos h1]; exact ⟨R, rfl⟩
 ·rw [if_neg h1, if_neg h1]
  by_cases h2 : 0 ≤ cH b.key m
  ·have h2' : 0 ≤ cH b.key s := by omega
   rw [if_pos h2, if_pos h2']; exact ⟨R, rfl⟩
  ·have h2' : ¬ 0 ≤ cH b.key s := by omega
   rw [if_neg h2, if_neg h2', hl]
   by_cases h3 : 4096 ≤ m.length
   ·rw [if_pos h3, if_pos h3]; exact ⟨R, rfl⟩
   ·rw [if_neg h3, if_neg h3]
    refine ⟨R.put b ?_, rfl⟩
    rw [aBz (by omega)]
    exact List.perm_append_singleton b m
theorem rE {m : List Body} (h : fJ m) {i : Nat} {b : Body} (hi : m[i]? = some b) : m.eraseIdx i = nP b.key m := by
 have e : m = m.take i ++ b :: m.drop (i + 1) := by
  have hlt := (List.getElem?_eq_some_iff.1 hi).1
  have hb : m[i] = b := (List.getElem?_eq_some_iff.1 hi).2
  rw [← hb, ← List.drop_eq_getElem_cons hlt, List.take_append_drop]
 have hne := aAm h hi
 rw [List.eraseIdx_eq_take_drop_succ] at hne ⊢
 conv => rhs; rw [e]
 unfold nP
 rw [List.filter_append, List.filter_cons]
 simp only [ne_eq, not_true_eq_false, decide_false, Bool.false_eq_true, if_false]
 rw [List.filter_eq_self.2 (fun x hx => by simpa using hne x (List.mem_append_left _ hx)), List.filter_eq_self.2 (fun x hx => by simpa using hne x (List.mem_append_right _ hx))]
theorem Rel.remove {m s : List Body} (R : Rel m s) (k : Int) : Rel (iQ m k).1 (jQ s k).1 ∧ (jQ s k).2 = (iQ m k).2 := by
 unfold iQ jQ
 have hf := R.find k
 by_cases h : cH k m < 0
 ·rw [if_pos h, if_pos (hf.2 h)]; exact ⟨R, rfl⟩
 ·rw [if_neg h, if_neg (fun h' => h (hf.1 h'))]
  refine ⟨?_, rfl⟩
  rcases dF k m with ⟨h1, _⟩ | ⟨i, b, h1, h2, h3⟩
  ·omega
  ·rw [h3, Int.toNat_natCast, aKw]
   have hlt := (List.getElem?_eq_some_iff.1 h1).1
   have hk : (pJ k).key = b.key := h2.symm
   have he : oI (pJ k) true s = nP b.key s := by unfold oI; rw [hk]
   refine ⟨?_, by rw [he]; exact R.sorted.cut _⟩
   show (oI (pJ k) true s).Perm _
   rw [he]
   exact (R.perm.filter _).trans ((List.Perm.of_eq (rE R.keys h1).symm).trans (mR hlt).symm)
theorem aTw {m : List Body} {i : Nat} {x : Body} (hi : i < m.length) : (m.set i x).Perm (x :: m.eraseIdx i) := by
 rw [List.set_eq_take_append_cons_drop, if_pos hi, List.eraseIdx_eq_take_drop_succ]
 exact List.perm_middle
theorem Rel.set {m s : List Body} (R : Rel m s) (b : Body) : Rel (rF m b).1 (aUv s b).1 ∧ (aUv s b).2 = (rF m b).2 := by
 unfold rF aUv
 have hf := R.find b.key
 by_cases h1 : check b ≠ 0
 ·rw [if_pos h1, if_pos h1]; exact ⟨R, rfl⟩
 ·rw [if_neg h1, if_neg h1]
  by_cases h : cH b.key m < 0
  ·rw [if_pos h, if_pos (hf.2 h)]; exact ⟨R, rfl⟩
  ·rw [if_neg h, if_neg (fun h' => h (hf.1 h'))]
   refine ⟨?_, rfl⟩
   rcases dF b.key m with ⟨h1, _⟩ | ⟨i, c, h1, h2, h3⟩
   ·omega
   ·rw [h3, Int.toNat_natCast]
    have hlt := (List.getElem?_eq_some_iff.1 h1).1
    refine R.put b ((aTw hlt).trans ?_)
    rw [rE R.keys h1, h2]
theorem Rel.get {m s : List Body} (R : Rel m s) (k : Int) : (cH k s < 0 ∧ wG m k = (pJ 0, 11)) ∨ ∃ (i : Nat) (b : Body), cH k s = (i : Int) ∧ s[i]? = some b ∧ wG m k = (b, 0) := by
 rcases dF k s with ⟨h1, h2⟩ | ⟨i, b, h1, h2, h3⟩
 ·have hm : cH k m < 0 := (R.find k).1 (by omega)
  refine .inl ⟨by omega, ?_⟩
  unfold wG
  rw [if_pos hm]
  rfl
 ·refine .inr ⟨i, b, h3, h1, ?_⟩
  have hb : b ∈ m := R.perm.mem_iff.1 (List.mem_of_getElem? h1)
  obtain ⟨j, hj⟩ := List.getElem?_of_mem hb
  have := pD R.keys hj
  rw [h2] at this
  exact tU this hj
theorem rP {a b : Int} : lD a b < 0 ↔ a < b := by unfold lD; (repeat' split) <;> omega
def aHz (b : Body) : List Body → List Body
 | [] => [b]
 | x :: l => if b.key ≤ x.key then b :: x :: l else x :: aHz b l
def qL (m : List Body) : List Body := m.foldr aHz []
theorem tJ (b : Body) : ∀ l : List Body, (aHz b l).Perm (b :: l)
 | [] => List.Perm.refl _
 | x :: l => by
  unfold aHz
  split
  ·exact List.Perm.refl _
  ·exact ((tJ b l).cons x).trans (List.Perm.swap b x l)
theorem gW : ∀ m : List Body, (qL m).Perm m
 | [] => List.Perm.refl _
 | b :: m => (tJ b (qL m)).trans ((gW m).cons b)
def Up (s : List Body) : Prop := s.Pairwise (fun a b => a.key ≤ b.key)
theorem aKx (b : Body) : ∀ {l : List Body}, Up l → Up (aHz b l)
 | [], _ => by simp [aHz, Up]
 | x :: l, h => by
  unfold aHz
  have hx : ∀ y ∈ l, x.key ≤ y.key := (List.pairwise_cons.1 h).1
  split
  ·rename_i hb
   refine List.pairwise_cons.2 ⟨fun y hy => ?_, h⟩
   rcases List.mem_cons.1 hy with rfl | hy
   ·exact hb
   ·have := hx y hy; omega
  ·refine List.pairwise_cons.2 ⟨fun y hy => ?_, aKx b (List.pairwise_cons.1 h).2⟩
   have := (tJ b l).mem_iff.1 hy
   rcases List.mem_cons.1 this with rfl | h1
   ·omega
   ·exact hx y h1
theorem oO : ∀ m : List Body, Up (qL m)
 | [] => by simp [qL, Up]
 | b :: m => aKx b (oO m)
theorem tK {s : List Body} (h : Up s) (hk : fJ s) : bV s := by
 unfold Up at h
 unfold fJ List.Nodup at hk
 rw [List.pairwise_map] at hk
 exact (List.Pairwise.and h hk).imp (fun ⟨h1, h2⟩ => by omega)
theorem aBp {s t : List Body} (h : Up s) (h' : Up t) (p : s.Perm t) (hk : fJ s) : s = t := (tK h hk).unique (tK h' (hk.perm p.symm)) p
theorem aOt {m : List Body} (hk : fJ m) : Rel m (qL m) := ⟨gW m, tK (oO m) (hk.perm (gW m))⟩
theorem Rel.eq {m s : List Body} (R : Rel m s) : qL m = s := (aOt R.keys).sorted.unique R.sorted ((gW m).trans R.perm.symm)
end Go.Bil
namespace Go.Bil
structure InB (b : Body) : Prop where
 key : 0 ≤ b.key ∧ b.key ≤ 4294967295
 radius : -2147483648 ≤ b.radius ∧ b.radius ≤ 2147483647
 ax : -2147483648 ≤ b.ax ∧ b.ax ≤ 2147483647
 ay : -2147483648 ≤ b.ay ∧ b.ay ≤ 2147483647
 mass : -2147483648 ≤ b.mass ∧ b.mass ≤ 2147483647
 bounce : -2147483648 ≤ b.bounce ∧ b.bounce ≤ 2147483647
 px : -2147483648 ≤ b.px ∧ b.px ≤ 2147483647
 py : -2147483648 ≤ b.py ∧ b.py ≤ 2147483647
 vx : -2147483648 ≤ b.vx ∧ b.vx ≤ 2147483647
 vy : -2147483648 ≤ b.vy ∧ b.vy ≤ 2147483647
theorem aRo (l : List Value) (h : jZ [.u32, .i32, .i32, .i32, .i32, .i32, .i32, .i32, .i32, .i32] l) : ∃ b, l = aF b ∧ InB b := by
 obtain ⟨z0, l0, rfl, w0, h0⟩ := eH h
 obtain ⟨z1, l1, rfl, w1, h1⟩ := eH h0
 obtain ⟨z2, l2, rfl, w2, h2⟩ := eH h1
 obtain ⟨z3, l3, rfl, w3, h3⟩ := eH h2
 obtain ⟨z4, l4, rfl, w4, h4⟩ := eH h3
 obtain ⟨z5, l5, rfl, w5, h5⟩ := eH h4
 obtain ⟨z6, l6, rfl, w6, h6⟩ := eH h5
 obtain ⟨z7, l7, rfl, w7, h7⟩ := eH h6
 obtain ⟨z8, l8, rfl, w8, h8⟩ := eH h7
 obtain ⟨z9, l9, rfl, w9, h9⟩ := eH h8
 obtain rfl := pE h9
 exact ⟨⟨z0, z1, z2, z3, z4, z5, z6, z7, z8, z9⟩, rfl, ⟨w0, w1, w2, w3, w4, w5, w6, w7, w8, w9⟩⟩
end Go.Bil

namespace Go.Bil
structure StV where
 A : Option Addr
 n : Nat
 c : Nat
 p : Option Nat
 er : dP
 em : dP
def oF (l : List Body) : List Body := l.foldl (fun m b => (jY m b).1) []
theorem xC {l : List Body} {k : Nat} {x : Body} (h : l[k]? = some x) : oF (l.take (k + 1)) = (jY (oF (l.take k)) x).1 := by
 unfold oF
 rw [cT h, List.foldl_append]
 rfl
theorem aBq : ∀ l : List Body, Rel (oF l) (aCe l) := by
 have key : ∀ (l m s : List Body), Rel m s → Rel (l.foldl (fun m b => (jY m b).1) m) (l.foldl (fun s b => (rK s b).1) s) := by
  intro l
  induction l with
  | nil => intro m s h; exact h
  | cons b l ih => intro m s h; exact ih _ _ (h.add b).1
 exact fun l => key l [] [] Rel.nil
def nZ (l : List Body) : List Body := l.filter (fun b => decide (check b = 0))
theorem aUg {m : List Body} {x : Body} (hf : ∀ b ∈ m, b.key ≠ x.key) (hl : m.length < 4096) : jY (nZ m) x = (nZ (m ++ [x]), check x) := by
 have hle : (nZ m).length ≤ m.length := List.length_filter_le _ _
 unfold jY
 by_cases h : check x = 0
 ·rw [if_neg (by omega), if_neg (by
   have : cH x.key (nZ m) < 0 := jP.2 fun b hb => hf b (List.mem_filter.1 hb).1
   omega), if_neg (by omega), h]
  simp [nZ, List.filter_append, h]
 ·rw [if_pos h]
  simp [nZ, List.filter_append, h]
theorem aHm {l : List Body} (h : fJ l) {k : Nat} {x : Body} (hx : l[k]? = some x) : ∀ b ∈ l.take k, b.key ≠ x.key := by
 intro b hb e
 obtain ⟨j, hj⟩ := List.getElem?_of_mem hb
 rw [List.getElem?_take] at hj
 split at hj
 ·rename_i hlt
  have := h.inj hj hx e
  omega
 ·cases hj
theorem nO {l : List Body} (h : fJ l) (hl : l.length ≤ 4096) : ∀ k, k ≤ l.length → oF (l.take k) = nZ (l.take k)
 | 0, _ => by simp [oF, nZ]
 | k + 1, hk => by
  obtain ⟨x, hx⟩ := cE (xs := l) (k := k) rfl (by omega)
  rw [xC hx, nO h hl k (by omega), aUg (aHm h hx) (by rw [List.length_take]; omega), cT hx]
theorem aIx {l l' : List Body} (p : l'.Perm l) (h : fJ l) (hl : l.length < 4096) : qL (oF l) = qL (oF l') := by
 have h' : fJ l' := h.perm p
 have e1 : oF l = nZ l := by have := nO h (by omega) l.length (Nat.le_refl _); rwa [List.take_length] at this
 have e2 : oF l' = nZ l' := by have := nO h' (by rw [p.length_eq]; omega) l'.length (Nat.le_refl _); rwa [List.take_length] at this
 rw [e1, e2]
 have hv : fJ (nZ l) := by
  unfold fJ nZ
  exact List.Sublist.nodup ((List.filter_sublist).map _) h
 refine aBp (oO _) (oO _) ?_ (hv.perm (gW _))
 exact (gW _).trans ((p.symm.filter _).trans (gW _).symm)
theorem zL {l : List Body} (h : ∀ (p q : Nat) (x y : Body), p < q → q < l.length → l[p]? = some x → l[q]? = some y → x.key ≠ y.key) : fJ l := by
 unfold fJ List.Nodup
 rw [List.pairwise_map]
 refine List.pairwise_iff_getElem.2 fun i j hi hj hij => ?_
 exact h i j _ _ hij hj (List.getElem?_eq_getElem hi) (List.getElem?_eq_getElem hj)
def oV (l : List Body) (k : Nat) : List Body := (l.drop k ++ l.take k).reverse
theorem aIa (l : List Body) (k : Nat) : (oV l k).length = l.length := by
 unfold oV
 simp only [List.length_reverse, List.length_append, List.length_drop, List.length_take]
 omega
theorem aHa (l : List Body) (k : Nat) : (oV l k).Perm l := by
 unfold oV
 refine (List.reverse_perm _).trans (List.perm_append_comm.trans ?_)
 rw [List.take_append_drop]
theorem aPf {l : List Body} {k i : Nat} (hk : k < l.length) (hi : i < l.length) : (oV l k)[i]? = l[(l.length - 1 - i + k) % l.length]? := by
 have hlen : (l.drop k ++ l.take k).length = l.length := by simp; omega
 unfold oV
 rw [List.getElem?_reverse (by rw [hlen]; exact hi), hlen, List.getElem?_append]
 simp only [List.length_drop]
 by_cases h : l.length - 1 - i < l.length - k
 ·rw [if_pos h, List.getElem?_drop, Nat.mod_eq_of_lt (by omega)]
  congr 1
  omega
 ·rw [if_neg h, List.getElem?_take_of_lt (by omega)]
  have : (l.length - 1 - i + k) % l.length = l.length - 1 - i + k - l.length := by
   rw [Nat.mod_eq_sub_mod (by omega), Nat.mod_eq_of_lt (by omega)]
  rw [this]
  congr 1
  omega
theorem aNa {xs : List Body} {i : Nat} {xi : Body} (hne : ∀ (p q : Nat) (x y : Body), p < q → q < i → xs[p]? = some x → xs[q]? = some y → x.key ≠ y.key) (hxi : xs[i]? = some xi) (hin : ∀ (p : Nat) (x : Body), p < i → xs[p]? = some x → x.key ≠ xi.key) :
  ∀ (p q : Nat) (x y : Body), p < q → q < i + 1 → xs[p]? = some x → xs[q]? = some y → x.key ≠ y.key := by
 intro p q x y hpq hq hx hy
 by_cases hqi : q < i
 ·exact hne p q x y hpq hqi hx hy
 ·have hq' : q = i := by omega
  subst hq'
  rw [hxi] at hy
  injection hy with hy
  subst hy
  exact hin p x (by omega) hx
theorem aHk {m : List Body} (hk : fJ m) (k : Int) : (iQ m k).1.Perm (nP k m) := by
 unfold iQ
 by_cases h : cH k m < 0
 ·rw [if_pos h, aBz h]
 ·rw [if_neg h]
  rcases dF k m with ⟨h1, _⟩ | ⟨i, b, h1, h2, h3⟩
  ·omega
  ·rw [h3, Int.toNat_natCast]
   have hlt := (List.getElem?_eq_some_iff.1 h1).1
   have := (mR hlt).trans (List.Perm.of_eq (rE hk h1))
   rwa [h2] at this
end Go.Bil
namespace Go.Bil
structure StepI where
 kind : Int
 body : Body
instance : Inhabited StepI := ⟨⟨0, pJ 0⟩⟩
end Go.Bil

namespace Go.Bil
def jA : List Body → Int
 | [] => 0
 | b :: l => if check b ≠ 0 then check b else jA l
def nV (xs : List Body) : Int := if 4096 < xs.length then 12 else jA xs
theorem mD : ∀ {xs : List Body}, (∀ (j : Nat) (c : Body), xs[j]? = some c → check c = 0) → jA xs = 0
 | [], _ => rfl
 | b :: l, h => by
  unfold jA
  rw [if_neg (by have := h 0 b (by simp); omega)]
  exact mD fun j c hj => h (j + 1) c (by simpa using hj)
theorem uL : ∀ {xs : List Body} {k : Nat} {b : Body}, xs[k]? = some b → check b ≠ 0 → (∀ (j : Nat) (c : Body), j < k → xs[j]? = some c → check c = 0) → jA xs = check b
 | [], _, _, h, _, _ => by simp at h
 | a :: l, 0, b, h, hb, _ => by
  simp only [List.getElem?_cons_zero, Option.some.injEq] at h
  subst h
  unfold jA
  rw [if_pos hb]
 | a :: l, k + 1, b, h, hb, hn => by
  unfold jA
  rw [if_neg (by have := hn 0 a (by omega) (by simp); omega)]
  exact uL (by simpa using h) hb fun j c hj hc => hn (j + 1) c (by omega) (by simpa using hc)
theorem rW : ∀ {xs : List Body}, jA xs = 0 → ∀ b ∈ xs, check b = 0
 | [], _, b, hb => by simp at hb
 | a :: l, h, b, hb => by
  unfold jA at h
  by_cases ha : check a = 0
  ·rw [if_neg (by omega)] at h
   rcases List.mem_cons.1 hb with rfl | hb
   ·exact ha
   ·exact rW h b hb
  ·rw [if_pos ha] at h; exact absurd h ha
theorem aTa {xs : List Body} (h : nV xs = 0) : xs.length ≤ 4096 ∧ ∀ b ∈ xs, check b = 0 := by
 unfold nV at h
 split at h
 ·omega
 ·exact ⟨by omega, rW h⟩
theorem aQn {xs : List Body} (hl : xs.length ≤ 4096) (h : ∀ b ∈ xs, check b = 0) : nV xs = 0 := by
 unfold nV
 rw [if_neg (by omega)]
 exact mD fun j c hj => h c (List.mem_of_getElem? hj)
def zW : List Body → Bool
 | x :: y :: l => decide (x.key < y.key) && zW (y :: l)
 | _ => true
theorem tT : ∀ {xs : List Body}, (∀ (i : Nat) (x y : Body), xs[i]? = some x → xs[i + 1]? = some y → x.key < y.key) → zW xs = true
 | [], _ => rfl
 | [_], _ => rfl
 | x :: y :: l, h => by
  unfold zW
  rw [Bool.and_eq_true]
  exact ⟨decide_eq_true (h 0 x y (by simp) (by simp)), tT fun i a b ha hb => h (i + 1) a b (by simpa using ha) (by simpa using hb)⟩
theorem pG : ∀ {xs : List Body}, zW xs = true → bV xs
 | [], _ => by simp [bV]
 | [_], _ => by simp [bV]
 | x :: y :: l, h => by
  unfold zW at h
  rw [Bool.and_eq_true, decide_eq_true_eq] at h
  have ih := pG h.2
  refine List.pairwise_cons.2 ⟨fun z hz => ?_, ih⟩
  rcases List.mem_cons.1 hz with rfl | hz
  ·exact h.1
  ·have := (List.pairwise_cons.1 ih).1 z hz; have := h.1; omega
theorem aEl {xs : List Body} (h : bV xs) : zW xs = true := tT fun i x y hx hy => by
 have hi := List.getElem?_eq_some_iff.1 hx
 have hj := List.getElem?_eq_some_iff.1 hy
 have := List.pairwise_iff_getElem.1 h i (i + 1) hi.1 hj.1 (by omega)
 rwa [hi.2, hj.2] at this
theorem aIl {xs : List Body} {i : Nat} {x y : Body} (hx : xs[i]? = some x) (hy : xs[i + 1]? = some y) (h : ¬ x.key < y.key) : zW xs = false := by
 cases e : zW xs with
 | false => rfl
 | true =>
  exfalso
  have hi := List.getElem?_eq_some_iff.1 hx
  have hj := List.getElem?_eq_some_iff.1 hy
  have := List.pairwise_iff_getElem.1 (pG e) i (i + 1) hi.1 hj.1 (by omega)
  rw [hi.2, hj.2] at this
  exact h this
def gQ (xs : List Body) : Int := if nV xs ≠ 0 then nV xs else if zW xs = true then 0 else 10
instance (m : List Body) : Decidable (fJ m) := by unfold fJ; infer_instance
def uK (key : Int) : List Body → Nat
 | [] => 0
 | b :: l => (if b.key < key then 1 else 0) + uK key l
theorem rL {key : Int} : ∀ {xs : List Body} {k : Nat}, k ≤ xs.length → (∀ (j : Nat) (c : Body), j < k → xs[j]? = some c → c.key < key) → (∀ (j : Nat) (c : Body), k ≤ j → xs[j]? = some c → ¬ c.key < key) → uK key xs = k
 | [], k, hk, _, _ => by simp at hk; simp [uK, hk]
 | b :: l, 0, _, _, h2 => by
  unfold uK
  rw [if_neg (h2 0 b (Nat.le_refl _) (by simp)), rL (k := 0) (by omega) (fun j c hj => by omega) (fun j c _ hc => h2 (j + 1) c (by omega) (by simpa using hc))]
 | b :: l, k + 1, hk, h1, h2 => by
  unfold uK
  rw [if_pos (h1 0 b (by omega) (by simp)), rL (k := k) (by simpa using hk) (fun j c hj hc => h1 (j + 1) c (by omega) (by simpa using hc)) (fun j c hj hc => h2 (j + 1) c (by omega) (by simpa using hc))]
  omega
def eZ (k : Int) : List Value := [.int .u32 k]
end Go.Bil
namespace Go.Bil
theorem uX {xs : List Body} (h : bV xs) {p q : Nat} {a b : Body} (hpq : p ≤ q) (ha : xs[p]? = some a) (hb : xs[q]? = some b) : a.key ≤ b.key := by
 by_cases e : p = q
 ·subst e
  rw [ha] at hb
  injection hb with hb
  rw [hb]; exact Int.le_refl _
 ·have hi := List.getElem?_eq_some_iff.1 ha
  have hj := List.getElem?_eq_some_iff.1 hb
  have := List.pairwise_iff_getElem.1 h p q hi.1 hj.1 (by omega)
  rw [hi.2, hj.2] at this
  omega
theorem bFp (i j : Nat) : ((i : Int) + (j : Int)).fdiv (2 ^ (min (1 : Int).toNat IntKind.u64.bits)) = (((i + j) / 2 : Nat) : Int) := by
 have e : (2 : Int) ^ (min (1 : Int).toNat IntKind.u64.bits) = 2 := by decide
 rw [e, Int.fdiv_eq_ediv_of_nonneg _ (by omega)]
 omega
theorem zR {a b a' b' : Value} (h1 : a = a') (h2 : b = b') : Value.tuple #[a, b] = Value.tuple #[a', b'] := by rw [h1, h2]
theorem aOf {a b : Int} : lD a b = 0 ↔ a = b := by unfold lD; (repeat' split) <;> omega
theorem aMs {key : Int} {xs : List Body} (hs : bV xs) {i : Nat} {b : Body} (hb : xs[i]? = some b) (h1 : ∀ (j : Nat) (c : Body), j < i → xs[j]? = some c → c.key < key) (h2 : ∀ (j : Nat) (c : Body), i ≤ j → xs[j]? = some c → ¬ c.key < key) : lD b.key key = 0 ↔ 0 ≤ cH key xs := by
 rw [aOf]
 constructor
 ·intro e
  rcases dF key xs with ⟨_, h⟩ | ⟨_, _, _, _, h⟩
  ·exact absurd e (h b (List.mem_of_getElem? hb))
  ·omega
 ·intro h
  rcases dF key xs with ⟨h', _⟩ | ⟨j, c, hc, hk, _⟩
  ·omega
  ·have hij : i ≤ j := by
    rcases Nat.lt_or_ge j i with hlt | hge
    ·have := h1 j c hlt hc; omega
    ·exact hge
   have := uX hs hij hb hc
   have := h2 i b (Nat.le_refl _) hb
   omega
theorem aIv {key : Int} {xs : List Body} (h1 : ∀ (j : Nat) (c : Body), j < xs.length → xs[j]? = some c → c.key < key) : ¬ 0 ≤ cH key xs := by
 intro h
 rcases dF key xs with ⟨h', _⟩ | ⟨j, c, hc, hk, _⟩
 ·omega
 ·have := h1 j c (List.getElem?_eq_some_iff.1 hc).1 hc
  omega
end Go.Bil
namespace Go.Bil
theorem aUh {α : Type} {xs ys : List α} {n m : Nat} (h1 : xs.length = n) (h2 : ys.length = m) (hnm : n = m) (h : ∀ (j : Nat) (x : α), j < n → xs[j]? = some x → ys[j]? = some x) : xs = ys := by
 apply List.ext_getElem?
 intro j
 by_cases hj : j < xs.length
 ·obtain ⟨x, hx⟩ := cE (k := j) rfl hj
  rw [hx, h j x (by omega) hx]
 ·rw [List.getElem?_eq_none (by omega), List.getElem?_eq_none (by omega)]
end Go.Bil
namespace Go.Bil
end Go.Bil
namespace Go.Bil
theorem aKi (k : Int) : ∀ y ∈ [eZ k], y.length = 1 ∧ ∀ u ∈ y, one u = true := by
 intro y hy
 simp only [List.mem_singleton] at hy
 subst hy
 exact ⟨rfl, aQ rfl⟩
end Go.Bil
namespace Go.Bil
structure Mg (xs ys : List Body) (i k : Nat) : Prop where
 sx : bV xs
 sy : bV ys
 yx : ∀ (p : Nat) (a b : Body), p < k → ys[p]? = some a → xs[i]? = some b → a.key < b.key
 xy : ∀ (p : Nat) (a b : Body), p < i → xs[p]? = some a → ys[k]? = some b → a.key < b.key
theorem Mg.swap {xs ys : List Body} {i k : Nat} (h : Mg xs ys i k) : Mg ys xs k i := ⟨h.sy, h.sx, h.xy, h.yx⟩
theorem dQ {xs : List Body} (h : bV xs) {p q : Nat} {a b : Body} (hpq : p < q) (ha : xs[p]? = some a) (hb : xs[q]? = some b) : a.key < b.key := by
 have hi := List.getElem?_eq_some_iff.1 ha
 have hj := List.getElem?_eq_some_iff.1 hb
 have := List.pairwise_iff_getElem.1 h p q hi.1 hj.1 hpq
 rwa [hi.2, hj.2] at this
theorem Mg.x {xs ys : List Body} {i k : Nat} {a : Body} (h : Mg xs ys i k) (ha : xs[i]? = some a) (hb : ∀ b, ys[k]? = some b → a.key < b.key) : Mg xs ys (i + 1) k ∧ cH a.key ys < 0 := by
 refine ⟨⟨h.sx, h.sy, fun p y x hp hy hx => ?_, fun p x y hp hx hy => ?_⟩, jP.2 fun y hy => ?_⟩
 ·have := h.yx p y a hp hy ha
  have := dQ h.sx (Nat.lt_succ_self i) ha hx
  omega
 ·by_cases e : p = i
  ·subst e
   rw [ha] at hx
   injection hx with hx
   subst hx
   exact hb y hy
  ·exact h.xy p x y (by omega) hx hy
 ·obtain ⟨q, hq⟩ := List.getElem?_of_mem hy
  rcases Nat.lt_or_ge q k with hlt | hge
  ·have := h.yx q y a hlt hq ha; omega
  ·obtain ⟨b, hbk⟩ := cE (xs := ys) (k := k) rfl (by have := (List.getElem?_eq_some_iff.1 hq).1; omega)
   have h1 := hb b hbk
   have h2 := uX h.sy hge hbk hq
   omega
theorem Mg.y {xs ys : List Body} {i k : Nat} {b : Body} (h : Mg xs ys i k) (hb : ys[k]? = some b) (ha : ∀ a, xs[i]? = some a → b.key < a.key) : Mg xs ys i (k + 1) ∧ cH b.key xs < 0 := by
 obtain ⟨h1, h2⟩ := h.swap.x hb ha
 exact ⟨h1.swap, h2⟩
theorem Mg.both {xs ys : List Body} {i k : Nat} {a b : Body} (h : Mg xs ys i k) (ha : xs[i]? = some a) (hb : ys[k]? = some b) (hk : a.key = b.key) : Mg xs ys (i + 1) (k + 1) ∧ cH a.key ys = (k : Int) ∧ cH b.key xs = (i : Int) := by
 refine ⟨⟨h.sx, h.sy, fun p y x hp hy hx => ?_, fun p x y hp hx hy => ?_⟩, ?_, ?_⟩
 ·have h1 := dQ h.sx (Nat.lt_succ_self i) ha hx
  have h2 := uX h.sy (show p ≤ k by omega) hy hb
  omega
 ·have h1 := dQ h.sy (Nat.lt_succ_self k) hb hy
  have h2 := uX h.sx (show p ≤ i by omega) hx ha
  omega
 ·exact yE hb hk.symm fun j c hj hc => by have := dQ h.sy hj hc hb; omega
 ·exact yE ha hk fun j c hj hc => by have := dQ h.sx hj hc ha; omega
end Go.Bil
namespace Go.Bil
end Go.Bil
namespace Go.Bil
end Go.Bil
namespace Go.Bil
end Go.Bil
namespace Go.Bil
end Go.Bil
namespace Go.Bil
end Go.Bil
namespace Go.Bil
end Go.Bil

namespace Go.Bil
theorem aMx {v : List Body} (he : nV v = 0) (hs : bV v) : gQ v = 0 := by
 unfold gQ
 rw [if_neg (by omega), if_pos (aEl hs)]
end Go.Bil

namespace Go.Bil
structure Bx where
 x0 : Int
 y0 : Int
 x1 : Int
 y1 : Int
 deriving DecidableEq, Inhabited
def dD (a : Bx) : List Value := [.int .i32 a.x0, .int .i32 a.y0, .int .i32 a.x1, .int .i32 a.y1]
def aNk (b : Body) : Int := max b.ax (-b.ax) + b.radius
def aOn (b : Body) : Int := max b.ay (-b.ay) + b.radius
def iH (b : Body) : Bx := ⟨b.px - aNk b, b.py - aOn b, b.px + aNk b, b.py + aOn b⟩
abbrev gH (a : Bx) : Prop := a.x1 < a.x0 ∨ a.y1 < a.y0
def iX : Bx := ⟨1, 0, 0, 0⟩
def aAc (a b : Bx) : Bx := if gH ⟨max a.x0 b.x0, max a.y0 b.y0, min a.x1 b.x1, min a.y1 b.y1⟩ then iX else ⟨max a.x0 b.x0, max a.y0 b.y0, min a.x1 b.x1, min a.y1 b.y1⟩
abbrev ovl (a b : Bx) : Prop := (a.x0 ≤ a.x1 ∧ a.y0 ≤ a.y1) ∧ (b.x0 ≤ b.x1 ∧ b.y0 ≤ b.y1) ∧ (a.x0 ≤ b.x1 ∧ b.x0 ≤ a.x1 ∧ a.y0 ≤ b.y1 ∧ b.y0 ≤ a.y1)
theorem aQz (a b : Bx) : ¬ gH (aAc a b) ↔ ovl a b := by
 unfold aAc
 split
 ·rename_i h
  unfold gH at h
  simp only [gH, iX, ovl]
  simp only at h
  omega
 ·rename_i h
  unfold gH at h
  simp only [gH, ovl]
  simp only at h
  omega
structure Okb (b : Body) : Prop where
 r : 4096 ≤ b.radius ∧ b.radius ≤ 4194304
 a : -4194304 ≤ b.ax ∧ b.ax ≤ 4194304 ∧ -4194304 ≤ b.ay ∧ b.ay ≤ 4194304
 m : 0 ≤ b.mass ∧ b.mass ≤ 1048576
 c : 0 ≤ b.bounce ∧ b.bounce ≤ 65536
 p : -1073741824 ≤ b.px ∧ b.px ≤ 1073741824 ∧ -1073741824 ≤ b.py ∧ b.py ≤ 1073741824
 v : -16777216 ≤ b.vx ∧ b.vx ≤ 16777216 ∧ -16777216 ≤ b.vy ∧ b.vy ≤ 16777216
theorem aGe {b : Body} (h : check b = 0) : Okb b := by
 by_cases h1 : 4096 ≤ b.radius ∧ b.radius ≤ 4194304
 ·by_cases h2 : -4194304 ≤ b.ax ∧ b.ax ≤ 4194304 ∧ -4194304 ≤ b.ay ∧ b.ay ≤ 4194304
  ·by_cases h3 : 0 ≤ b.mass ∧ b.mass ≤ 1048576
   ·by_cases h4 : 0 ≤ b.bounce ∧ b.bounce ≤ 65536
    ·by_cases h5 : -1073741824 ≤ b.px ∧ b.px ≤ 1073741824 ∧ -1073741824 ≤ b.py ∧ b.py ≤ 1073741824
     ·by_cases h6 : -16777216 ≤ b.vx ∧ b.vx ≤ 16777216 ∧ -16777216 ≤ b.vy ∧ b.vy ≤ 16777216
      ·exact ⟨h1, h2, h3, h4, h5, h6⟩
      ·rw [aLc b h1 h2 h3 h4 h5 h6] at h; omega
     ·rw [aKq b h1 h2 h3 h4 h5] at h; omega
    ·rw [aMh b h1 h2 h3 h4] at h; omega
   ·rw [aMi b h1 h2 h3] at h; omega
  ·rw [aLj b h1 h2] at h; omega
 ·rw [aKv b h1] at h; omega
theorem aSf {b : Body} (h : Okb b) : 4096 ≤ aNk b ∧ aNk b ≤ 8388608 ∧ 4096 ≤ aOn b ∧ aOn b ≤ 8388608 := by
 have := h.r
 have := h.a
 unfold aNk aOn
 omega
structure Okx (a : Bx) : Prop where
 x0 : -2147483648 ≤ a.x0 ∧ a.x0 ≤ 2147483647
 y0 : -2147483648 ≤ a.y0 ∧ a.y0 ≤ 2147483647
 x1 : -2147483648 ≤ a.x1 ∧ a.x1 ≤ 2147483647
 y1 : -2147483648 ≤ a.y1 ∧ a.y1 ≤ 2147483647
theorem bAl {b : Body} (h : Okb b) : Okx (iH b) := by
 have h1 := aSf h
 have h2 := h.p
 constructor <;> simp only [iH] <;> omega
end Go.Bil

namespace Go.Bil
def cG (c : Int × Int) : List Value := [.int .i32 c.1, .int .i32 c.2]
def kX (x : Int) : Int := x.fdiv 4194304
theorem aZl (x : Int) : x.fdiv (2 ^ (min (22 : Int).toNat IntKind.i32.bits)) = kX x := rfl
theorem aCy (x : Int) : kX x = x / 4194304 := by unfold kX; exact Int.fdiv_eq_ediv_of_nonneg x (by decide)
theorem mZ {x : Int} (h0 : -2147483648 ≤ x) (h1 : x ≤ 2147483647) : -512 ≤ kX x ∧ kX x ≤ 511 := by rw [aCy]; omega
theorem iV {x y : Int} (h : x ≤ y) : kX x ≤ kX y := by rw [aCy, aCy]; omega
def loC (a : Bx) : Int × Int := if gH a then (0, 0) else (kX a.x0, kX a.y0)
def hiC (a : Bx) : Int × Int := if gH a then (0, 0) else (kX a.x1, kX a.y1)
def nX (lo hi : Int × Int) : Nat := (hi.1 - lo.1 + 1).toNat
def nY (lo hi : Int × Int) : Nat := (hi.2 - lo.2 + 1).toNat
def wY (lo : Int × Int) (i j : Nat) : List (Int × Int) := (List.range i).map (fun (p : Nat) => (lo.1 + (p : Int), lo.2 + (j : Int)))
def lR (lo hi : Int × Int) (j : Nat) : List (Int × Int) := (List.range j).flatMap (fun q => wY lo (nX lo hi) q)
def tM (ok : Bool) (lo hi : Int × Int) : List (Int × Int) := if ok then lR lo hi (nY lo hi) else []
def fV (a : Bx) : List (Int × Int) := tM (decide (¬ gH a)) (loC a) (hiC a)
theorem aGk (lo : Int × Int) (i j : Nat) : (wY lo i j).length = i := by simp [wY]
theorem aPo (lo : Int × Int) (i j : Nat) : wY lo (i + 1) j = wY lo i j ++ [(lo.1 + (i : Int), lo.2 + (j : Int))] := by simp [wY, List.range_succ]
theorem wQ (lo hi : Int × Int) (j : Nat) : lR lo hi (j + 1) = lR lo hi j ++ wY lo (nX lo hi) j := by simp [lR, List.range_succ]
theorem sW (lo hi : Int × Int) : ∀ j, (lR lo hi j).length = j * nX lo hi
 | 0 => by simp [lR]
 | j + 1 => by rw [wQ, List.length_append, sW lo hi j, aGk, Nat.add_mul, Nat.one_mul]
theorem aRw {lo hi : Int × Int} {i j : Nat} (hx : nX lo hi ≤ 1024) (hj : j < 1024) (hi' : i < nX lo hi) : (lR lo hi j).length + i < 1048576 := by
 rw [sW]
 have : j * nX lo hi ≤ 1023 * 1024 := Nat.mul_le_mul (by omega) hx
 omega
theorem aRj {lo hi : Int × Int} {j : Nat} (hx : nX lo hi ≤ 1024) (hj : j ≤ 1024) : (lR lo hi j).length ≤ 1048576 := by
 rw [sW]
 exact Nat.mul_le_mul hj hx
theorem aMu {lo hi : Int × Int} {n : Nat} {c : Int × Int} : c ∈ lR lo hi n ↔ ∃ q p : Nat, q < n ∧ p < nX lo hi ∧ c = (lo.1 + (p : Int), lo.2 + (q : Int)) := by
 simp only [lR, wY, List.mem_flatMap, List.mem_range, List.mem_map]
 constructor
 ·rintro ⟨q, hq, p, hp, rfl⟩; exact ⟨q, p, hq, hp, rfl⟩
 ·rintro ⟨q, p, hq, hp, rfl⟩; exact ⟨q, hq, p, hp, rfl⟩
theorem yT {a : Bx} {c : Int × Int} : c ∈ fV a ↔ ¬ gH a ∧ kX a.x0 ≤ c.1 ∧ c.1 ≤ kX a.x1 ∧ kX a.y0 ≤ c.2 ∧ c.2 ≤ kX a.y1 := by
 unfold fV tM
 by_cases h : gH a
 ·simp [h]
 ·rw [if_pos (by simpa using h), aMu]
  simp only [loC, hiC, if_neg h, nX, nY]
  constructor
  ·rintro ⟨q, p, hq, hp, rfl⟩
   refine ⟨h, ?_⟩
   simp only
   omega
  ·rintro ⟨_, h1, h2, h3, h4⟩
   refine ⟨(c.2 - kX a.y0).toNat, (c.1 - kX a.x0).toNat, by omega, by omega, ?_⟩
   apply Prod.ext <;> simp only <;> omega
structure Okc (c : Int × Int) : Prop where
 x : -512 ≤ c.1 ∧ c.1 ≤ 511
 y : -512 ≤ c.2 ∧ c.2 ≤ 511
theorem aKl {a : Bx} (h : Okx a) : Okc (loC a) := by
 unfold loC
 split
 ·exact ⟨by decide, by decide⟩
 ·exact ⟨mZ h.x0.1 h.x0.2, mZ h.y0.1 h.y0.2⟩
theorem aKj {a : Bx} (h : Okx a) : Okc (hiC a) := by
 unfold hiC
 split
 ·exact ⟨by decide, by decide⟩
 ·exact ⟨mZ h.x1.1 h.x1.2, mZ h.y1.1 h.y1.2⟩
theorem aYp {lo hi : Int × Int} (h1 : Okc lo) (h2 : Okc hi) : nX lo hi ≤ 1024 := by
 have := h1.x; have := h2.x
 unfold nX
 omega
theorem aYq {lo hi : Int × Int} (h1 : Okc lo) (h2 : Okc hi) : nY lo hi ≤ 1024 := by
 have := h1.y; have := h2.y
 unfold nY
 omega
theorem aIg {a : Bx} (h : Okx a) : (fV a).length ≤ 1048576 := by
 unfold fV tM
 split
 ·exact aRj (aYp (aKl h) (aKj h)) (aYq (aKl h) (aKj h))
 ·simp
theorem aUb {a b : Bx} (h : ovl a b) : ∃ c, c ∈ fV a ∧ c ∈ fV b := by
 obtain ⟨⟨h1, h2⟩, ⟨h3, h4⟩, h5, h6, h7, h8⟩ := h
 refine ⟨(kX (max a.x0 b.x0), kX (max a.y0 b.y0)), yT.2 ⟨by unfold gH; omega, ?_⟩, yT.2 ⟨by unfold gH; omega, ?_⟩⟩
 ·exact ⟨iV (by omega), iV (by omega), iV (by omega), iV (by omega)⟩
 ·exact ⟨iV (by omega), iV (by omega), iV (by omega), iV (by omega)⟩
def pO (c : Int × Int) : Int :=
 IntKind.u32.wrap ((BitVec.ofInt 32 (IntKind.u32.wrap ((BitVec.ofInt 32 (IntKind.u32.wrap (IntKind.u32.wrap c.1 * 73856093)) ^^^ BitVec.ofInt 32 (IntKind.u32.wrap (IntKind.u32.wrap c.2 * 19349663))).toNat)) &&& BitVec.ofInt 32 1023).toNat)
def dG (c : Int × Int) : Nat := (pO c).toNat
theorem jU (c : Int × Int) : 0 ≤ pO c ∧ pO c < 1024 := by
 unfold pO
 generalize BitVec.ofInt 32 (IntKind.u32.wrap _) = a
 have h : (a &&& BitVec.ofInt 32 1023).toNat ≤ 1023 := by
  rw [BitVec.toNat_and]
  exact Nat.le_trans Nat.and_le_right (by decide)
 rw [aBg _ (by omega) (by omega)]
 omega
theorem iY (c : Int × Int) : dG c < 1024 := by have := jU c; unfold dG; omega
theorem aPd (c : Int × Int) : pO c = (dG c : Int) := by have := jU c; unfold dG; omega
end Go.Bil

namespace Go.Bil
def iI (n : Int) : List Int := [n / 16777216 % 256, n / 65536 % 256, n / 256 % 256, n % 256]
def aQa (b : Body) : List Int := [b.key, b.radius, b.ax, b.ay, b.mass, b.bounce, b.px, b.py, b.vx, b.vy]
def sX (b : Body) : List Int := (aQa b).flatMap iI
def jE : List Int := [66, 73, 76, 49]
def aFm (v : List Body) : List Int := jE ++ iI (v.length : Int) ++ v.flatMap sX
def dZ (l : List Int) (a : Nat) : Int := ((l.getD a 0 * 256 + l.getD (a + 1) 0) * 256 + l.getD (a + 2) 0) * 256 + l.getD (a + 3) 0
def mY (n : Int) : Int := if 2147483648 ≤ n then n - 4294967296 else n
def oW (l : List Int) (a : Nat) : Body := ⟨dZ l a, mY (dZ l (a + 4)), mY (dZ l (a + 8)), mY (dZ l (a + 12)), mY (dZ l (a + 16)), mY (dZ l (a + 20)), mY (dZ l (a + 24)), mY (dZ l (a + 28)), mY (dZ l (a + 32)), mY (dZ l (a + 36))⟩
abbrev aBj (l : List Int) : Prop := 8 ≤ l.length ∧ l.take 4 = jE ∧ (l.length : Int) = 8 + 40 * dZ l 4
def mH (l : List Int) (n : Nat) : List Body := (List.range n).map (fun i => oW l (8 + 40 * i))
def lN (l : List Int) : List Body × Int := if ¬ aBj l then ([], 13) else if gQ (mH l (dZ l 4).toNat) ≠ 0 then ([], gQ (mH l (dZ l 4).toNat)) else (mH l (dZ l 4).toNat, 0)
abbrev kP (l : List Int) : Prop := ∀ x ∈ l, 0 ≤ x ∧ x ≤ 255
theorem aPl (n : Int) : (iI n).length = 4 := rfl
theorem aUo (b : Body) : (sX b).length = 40 := rfl
theorem aSw (v : List Body) : (v.flatMap sX).length = 40 * v.length := by
 induction v with
 | nil => rfl
 | cons b v ih => rw [List.flatMap_cons, List.length_append, ih, aUo, List.length_cons]; omega
theorem aSs (v : List Body) : (aFm v).length = 8 + 40 * v.length := by
 unfold aFm
 rw [List.length_append, List.length_append, aSw, aPl]
 rfl
theorem tD (n : Int) : iI (n % 4294967296) = iI n := by
 unfold iI
 have h1 : n % 4294967296 / 16777216 % 256 = n / 16777216 % 256 := by omega
 have h2 : n % 4294967296 / 65536 % 256 = n / 65536 % 256 := by omega
 have h3 : n % 4294967296 / 256 % 256 = n / 256 % 256 := by omega
 have h4 : n % 4294967296 % 256 = n % 256 := by omega
 rw [h1, h2, h3, h4]
theorem aOd (n : Int) : iI (mY n) = iI n := by
 unfold mY
 split
 ·rw [← tD (n - 4294967296), ← tD n]
  congr 1
  omega
 ·rfl
theorem oX {l : List Int} (hl : kP l) {a : Nat} (h : a + 4 ≤ l.length) : 0 ≤ dZ l a ∧ dZ l a ≤ 4294967295 ∧ iI (dZ l a) = (l.drop a).take 4 := by
 have g (j : Nat) (hj : j < l.length) : l[j]? = some (l.getD j 0) ∧ 0 ≤ l.getD j 0 ∧ l.getD j 0 ≤ 255 := by
  rw [List.getD_eq_getElem?_getD, List.getElem?_eq_getElem hj]
  have hb := hl _ (List.getElem_mem hj)
  exact ⟨rfl, hb.1, hb.2⟩
 obtain ⟨g0, g1, g2⟩ := g a (by omega)
 obtain ⟨g3, g4, g5⟩ := g (a + 1) (by omega)
 obtain ⟨g6, g7, g8⟩ := g (a + 2) (by omega)
 obtain ⟨g9, ga, gb⟩ := g (a + 3) (by omega)
 have e : (l.drop a).take 4 = [l.getD a 0, l.getD (a + 1) 0, l.getD (a + 2) 0, l.getD (a + 3) 0] := by
  have hlen : ((l.drop a).take 4).length = 4 := by rw [List.length_take, List.length_drop]; omega
  refine List.ext_getElem? fun j => ?_
  rcases (show j = 0 ∨ j = 1 ∨ j = 2 ∨ j = 3 ∨ 4 ≤ j by omega) with rfl | rfl | rfl | rfl | hj
  ·rw [List.getElem?_take_of_lt (by omega), List.getElem?_drop]; simpa using g0
  ·rw [List.getElem?_take_of_lt (by omega), List.getElem?_drop]; simpa using g3
  ·rw [List.getElem?_take_of_lt (by omega), List.getElem?_drop]; simpa using g6
  ·rw [List.getElem?_take_of_lt (by omega), List.getElem?_drop]; simpa using g9
  ·rw [List.getElem?_eq_none (by omega), List.getElem?_eq_none (by simpa using hj)]
 rw [e]
 unfold dZ iI
 generalize l.getD a 0 = p at *
 generalize l.getD (a + 1) 0 = q at *
 generalize l.getD (a + 2) 0 = r at *
 generalize l.getD (a + 3) 0 = s at *
 refine ⟨by omega, by omega, ?_⟩
 have h1 : (((p * 256 + q) * 256 + r) * 256 + s) / 16777216 % 256 = p := by omega
 have h2 : (((p * 256 + q) * 256 + r) * 256 + s) / 65536 % 256 = q := by omega
 have h3 : (((p * 256 + q) * 256 + r) * 256 + s) / 256 % 256 = r := by omega
 have h4 : (((p * 256 + q) * 256 + r) * 256 + s) % 256 = s := by omega
 rw [h1, h2, h3, h4]
theorem aIq (l : List Int) (k : Nat) : ∀ n, (List.range n).flatMap (fun i => (l.drop (k * i)).take k) = l.take (k * n)
 | 0 => by simp
 | n + 1 => by
  rw [List.range_succ, List.flatMap_append, aIq l k n, List.flatMap_cons, List.flatMap_nil, List.append_nil, Nat.mul_succ, List.take_add]
theorem kL {n : Int} (h : 0 ≤ n ∧ n ≤ 4294967295) : -2147483648 ≤ mY n ∧ mY n ≤ 2147483647 := by unfold mY; split <;> omega
theorem aMz {l : List Int} (hl : kP l) {a : Nat} (h : a + 40 ≤ l.length) : InB (oW l a) := by
 have f (k : Nat) (hk : k ≤ 36) : 0 ≤ dZ l (a + k) ∧ dZ l (a + k) ≤ 4294967295 := by
  have := oX hl (a := a + k) (by omega)
  exact ⟨this.1, this.2.1⟩
 exact ⟨f 0 (by omega), kL (f 4 (by omega)), kL (f 8 (by omega)), kL (f 12 (by omega)), kL (f 16 (by omega)), kL (f 20 (by omega)), kL (f 24 (by omega)), kL (f 28 (by omega)), kL (f 32 (by omega)), kL (f 36 (by omega))⟩
theorem aYa {l : List Int} (hl : kP l) {a : Nat} (h : a + 40 ≤ l.length) : sX (oW l a) = (l.drop a).take 40 := by
 have f (k : Nat) (hk : k ≤ 36) : iI (dZ l (a + k)) = ((l.drop a).drop k).take 4 := by rw [List.drop_drop]; exact (oX hl (a := a + k) (by omega)).2.2
 have e := aIq (l.drop a) 4 10
 rw [← e]
 unfold sX aQa oW
 simp only [List.flatMap_cons, List.flatMap_nil, aOd]
 have f0 := f 0 (by omega)
 rw [Nat.add_zero] at f0
 rw [f0, f 4 (by omega), f 8 (by omega), f 12 (by omega), f 16 (by omega), f 20 (by omega), f 24 (by omega), f 28 (by omega), f 32 (by omega), f 36 (by omega)]
 rfl
theorem xW (l : List Int) (n : Nat) : (mH l n).length = n := by unfold mH; rw [List.length_map, List.length_range]
theorem zM {α β : Type} {l : List α} {f g : α → List β} (h : ∀ x ∈ l, f x = g x) : l.flatMap f = l.flatMap g := by
 induction l with
 | nil => rfl
 | cons x l ih => rw [List.flatMap_cons, List.flatMap_cons, h x (by simp), ih fun y hy => h y (by simp [hy])]
theorem aQg {l : List Int} (hl : kP l) {n : Nat} (h : l.length = 8 + 40 * n) : (mH l n).flatMap sX = l.drop 8 := by
 unfold mH
 rw [List.flatMap_map, zM (g := fun i => ((l.drop 8).drop (40 * i)).take 40) (fun i hi => by
  have := List.mem_range.1 hi
  rw [List.drop_drop]
  exact aYa hl (by omega)), aIq, List.take_of_length_le (by rw [List.length_drop]; omega)]
structure DecOk (l : List Int) (v : List Body) : Prop where
 n : l.length = 8 + 40 * v.length
 e : aFm v = l
 inb : ∀ b ∈ v, InB b
 c : gQ v = 0
theorem aWn {l : List Int} (hl : kP l) (h : (lN l).2 = 0) : DecOk l (lN l).1 := by
 unfold lN at h ⊢
 by_cases hf : aBj l
 ·rw [if_neg (Decidable.not_not.2 hf)] at h ⊢
  by_cases hc : gQ (mH l (dZ l 4).toNat) = 0
  ·rw [if_neg (by omega)]
   obtain ⟨h8, hm, hn⟩ := hf
   have hr := oX hl (a := 4) (by omega)
   have hlen : l.length = 8 + 40 * (dZ l 4).toNat := by omega
   show DecOk l (mH l (dZ l 4).toNat)
   refine ⟨by rw [xW]; exact hlen, ?_, ?_, hc⟩
   ·unfold aFm
    rw [aQg hl hlen, xW, show (((dZ l 4).toNat : Nat) : Int) = dZ l 4 by omega, hr.2.2, ← hm, ← List.take_add, List.take_append_drop]
   ·intro b hb
    unfold mH at hb
    obtain ⟨i, hi, rfl⟩ := List.mem_map.1 hb
    have := List.mem_range.1 hi
    exact aMz hl (by omega)
  ·rw [if_pos hc] at h
   exact absurd h hc
 ·rw [if_pos hf] at h
  cases h
def uR (b : Body) : List Int := [b.key, b.radius % 4294967296, b.ax % 4294967296, b.ay % 4294967296, b.mass % 4294967296, b.bounce % 4294967296, b.px % 4294967296, b.py % 4294967296, b.vx % 4294967296, b.vy % 4294967296]
theorem aNc (b : Body) : (uR b).flatMap iI = sX b := by
 unfold uR sX aQa
 simp only [List.flatMap_cons, List.flatMap_nil, tD]
theorem aNb {b : Body} (h : InB b) : ∀ x ∈ uR b, 0 ≤ x ∧ x ≤ 4294967295 := by
 obtain ⟨h0, _⟩ := h
 intro x hx
 simp only [uR, List.mem_cons, List.not_mem_nil, or_false] at hx
 rcases hx with rfl | rfl | rfl | rfl | rfl | rfl | rfl | rfl | rfl | rfl <;> omega
theorem aOs {L : List Int} {j : Nat} {x : Int} (h : L[j]? = some x) : (L.take (j + 1)).flatMap iI = (L.take j).flatMap iI ++ iI x := by
 rw [cT h, List.flatMap_append, List.flatMap_cons, List.flatMap_nil, List.append_nil]
theorem aPp {v : List Body} {j : Nat} {x : Body} (h : v[j]? = some x) : (v.take (j + 1)).flatMap sX = (v.take j).flatMap sX ++ sX x := by
 rw [cT h, List.flatMap_append, List.flatMap_cons, List.flatMap_nil, List.append_nil]
theorem gM {l : List Int} {a m : Nat} (h : 4 ≤ m) : dZ ((l.drop a).take m) 0 = dZ l a := by
 have g (j : Nat) (hj : j < m) : ((l.drop a).take m).getD j 0 = l.getD (a + j) 0 := by
  rw [List.getD_eq_getElem?_getD, List.getD_eq_getElem?_getD, List.getElem?_take_of_lt hj, List.getElem?_drop]
 unfold dZ
 rw [g 0 (by omega), g (0 + 1) (by omega), g (0 + 2) (by omega), g (0 + 3) (by omega)]
 rfl
theorem aMk (l : List Int) (k : Nat) : mH l (k + 1) = mH l k ++ [oW l (8 + 40 * k)] := by unfold mH; rw [List.range_succ, List.map_append]; rfl
theorem kP.sub {l : List Int} (h : kP l) (a m : Nat) : kP ((l.drop a).take m) := fun x hx => h x (List.mem_of_mem_drop (List.mem_of_mem_take hx))
end Go.Bil
namespace Go.Bil
theorem vZ {l : List Int} (h : ¬ aBj l) : lN l = ([], 13) := by unfold lN; rw [if_pos h]
theorem aWy {l : List Int} {N : Nat} (h : aBj l) (hN : dZ l 4 = (N : Int)) (hc : gQ (mH l N) ≠ 0) : lN l = ([], gQ (mH l N)) := by
 unfold lN; rw [if_neg (Decidable.not_not.2 h), hN, Int.toNat_natCast, if_pos hc]
theorem aRf {l : List Int} {N : Nat} (h : aBj l) (hN : dZ l 4 = (N : Int)) (hc : gQ (mH l N) = 0) : lN l = (mH l N, 0) := by
 unfold lN; rw [if_neg (Decidable.not_not.2 h), hN, Int.toNat_natCast, if_neg (by omega)]
theorem bDv {l : List Int} (hl : kP l) {a : Nat} (h : a + 40 ≤ l.length) : ∀ x ∈ ([dZ l a, dZ l (a + 4), dZ l (a + 8), dZ l (a + 12), dZ l (a + 16), dZ l (a + 20), dZ l (a + 24), dZ l (a + 28), dZ l (a + 32), dZ l (a + 36)] : List Int), 0 ≤ x ∧ x ≤ 4294967295 := by
 have f (k : Nat) (hk : k ≤ 36) : 0 ≤ dZ l (a + k) ∧ dZ l (a + k) ≤ 4294967295 := by
  have := oX hl (a := a + k) (by omega)
  exact ⟨this.1, this.2.1⟩
 intro x hx
 simp only [List.mem_cons, List.not_mem_nil, or_false] at hx
 rcases hx with rfl | rfl | rfl | rfl | rfl | rfl | rfl | rfl | rfl | rfl
 ·exact f 0 (by omega)
 ·exact f 4 (by omega)
 ·exact f 8 (by omega)
 ·exact f 12 (by omega)
 ·exact f 16 (by omega)
 ·exact f 20 (by omega)
 ·exact f 24 (by omega)
 ·exact f 28 (by omega)
 ·exact f 32 (by omega)
 ·exact f 36 (by omega)
theorem uA : jE = ([66, 73, 76, 49] : List UInt8).map (fun y => (y.toNat : Int)) := by decide
end Go.Bil
