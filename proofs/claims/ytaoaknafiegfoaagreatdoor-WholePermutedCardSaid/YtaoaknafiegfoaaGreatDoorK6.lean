/- Part of the proof of the laws of this seat: Md4, Md5, Md7, Md8, MdB, MdC, Mf1. No conditions. -/
import Derived.Test.YtaoaknafiegfoaaGreatDoorK4
import Derived.Test.YtaoaknafiegfoaaGreatDoorK3
set_option linter.unusedVariables false
set_option linter.unusedSimpArgs false
set_option linter.unnecessarySimpa false
namespace Go.Bil
def cA (s : List Body) : Prop := s.Pairwise (fun a b => a.key < b.key)
def oG (k : Int) (s : List Body) : List Body := s.filter (fun x => decide (x.key ≠ k))
def qF (b : Body) : Bool → List Body → List Body
 | true, s => oG b.key s
 | false, [] => [b]
 | false, x :: l => if b.key ≤ x.key then b :: oG b.key (x :: l) else x :: qF b false l
def bFc (b : Body) (r : List Body × Bool) : List Body := if r.2 then r.1 else r.1 ++ [b]
theorem oW (b : Body) : ∀ (s acc : List Body) (d : Bool), bFc b (s.foldl (mN b) (acc, d)) = acc ++ qF b d s
 | [], acc, true => by simp [qF, oG, bFc]
 | [], acc, false => by simp [qF, bFc]
 | x :: l, acc, true => by
  have ih := oW b l (if x.key ≠ b.key then acc ++ [x] else acc) true
  rw [List.foldl_cons]
  have e : mN b (acc, true) x = (if x.key ≠ b.key then acc ++ [x] else acc, true) := by unfold mN; by_cases h : x.key = b.key <;> simp [h]
  rw [e, ih]
  by_cases h : x.key = b.key <;> simp [qF, oG, h]
 | x :: l, acc, false => by
  rw [List.foldl_cons]
  by_cases hb : b.key ≤ x.key
  ·have ih := oW b l (if x.key ≠ b.key then acc ++ [b] ++ [x] else acc ++ [b]) true
   have e : mN b (acc, false) x = (if x.key ≠ b.key then acc ++ [b] ++ [x] else acc ++ [b], true) := by unfold mN; by_cases h : x.key = b.key <;> simp [h, hb]
   rw [e, ih]
   by_cases h : x.key = b.key <;> simp [qF, oG, h, hb]
  ·have hne : x.key ≠ b.key := by omega
   have ih := oW b l (acc ++ [x]) false
   have e : mN b (acc, false) x = (acc ++ [x], false) := by unfold mN; simp [hb, hne]
   rw [e, ih]
   simp [qF, hb]
theorem aMw (s : List Body) (b : Body) (g : Bool) : aFg s b g = qF b g s := by
 have := oW b s [] g
 rw [List.nil_append] at this
 exact this
theorem uJ (b : Body) : ∀ s : List Body, (qF b false s).Perm (b :: oG b.key s)
 | [] => by simp [qF, oG]
 | x :: l => by
  unfold qF
  split
  ·exact List.Perm.refl _
  ·rename_i h
   have hne : x.key ≠ b.key := by omega
   have e : oG b.key (x :: l) = x :: oG b.key l := by simp [oG, hne]
   rw [e]
   exact ((uJ b l).cons x).trans (List.Perm.swap b x _)
theorem yN {k : Int} {s : List Body} {x : Body} : x ∈ oG k s ↔ x ∈ s ∧ x.key ≠ k := by simp [oG]
theorem cA.cut {s : List Body} (h : cA s) (k : Int) : cA (oG k s) := List.Pairwise.sublist List.filter_sublist h
theorem cA.put {b : Body} : ∀ {s : List Body}, cA s → cA (qF b false s)
 | [], _ => by simp [qF, cA]
 | x :: l, h => by
  unfold qF
  have hx : ∀ y ∈ l, x.key < y.key := (List.pairwise_cons.1 h).1
  have hl : cA l := (List.pairwise_cons.1 h).2
  split
  ·rename_i hb
   refine List.pairwise_cons.2 ⟨fun y hy => ?_, h.cut _⟩
   obtain ⟨h1, h2⟩ := yN.1 hy
   rcases List.mem_cons.1 h1 with rfl | h1
   ·omega
   ·have := hx y h1; omega
  ·rename_i hb
   refine List.pairwise_cons.2 ⟨fun y hy => ?_, cA.put hl⟩
   have := (uJ b l).mem_iff.1 hy
   rcases List.mem_cons.1 this with rfl | h1
   ·omega
   ·exact hx y (yN.1 h1).1
def nR (s : List Body) (b : Body) : List Body × Int :=
 if check b ≠ 0 then (s, check b) else if 0 ≤ cK b.key s then (s, 10) else if 4096 ≤ s.length then (s, 12) else (aFg s b false, 0)
def qR (k : Int) : Body := ⟨k, 0, 0, 0, 0, 0, 0, 0, 0, 0⟩
def iI (s : List Body) (k : Int) : List Body × Int := if cK k s < 0 then (s, 11) else (aFg s (qR k) true, 0)
def aUu (s : List Body) (b : Body) : List Body × Int :=
 if check b ≠ 0 then (s, check b) else if cK b.key s < 0 then (s, 11) else (aFg s b false, 0)
def wY (l : List Body) : List Body := l.foldl (fun s b => (nR s b).1) []
theorem uU {l : List Body} {k : Nat} {x : Body} (h : l[k]? = some x) : wY (l.take (k + 1)) = (nR (wY (l.take k)) x).1 := by
 unfold wY
 rw [cT h, List.foldl_append]
 rfl
structure Rel (m s : List Body) : Prop where
 perm : s.Perm m
 sorted : cA s
theorem Rel.nil : Rel [] [] := ⟨List.Perm.refl _, by simp [cA]⟩
theorem cA.unique {s t : List Body} (h : cA s) (h' : cA t) (p : s.Perm t) : s = t :=
 List.Perm.eq_of_pairwise (le := fun (a b : Body) => a.key < b.key) (fun a b _ _ h1 h2 => by omega) h h' p
theorem cA.keys {s : List Body} (h : cA s) : fL s := by
 unfold fL List.Nodup
 rw [List.pairwise_map]
 exact h.imp (fun h => by omega)
theorem Rel.keys {m s : List Body} (R : Rel m s) : fL m := R.sorted.keys.perm R.perm.symm
theorem Rel.find {m s : List Body} (R : Rel m s) (k : Int) : cK k s < 0 ↔ cK k m < 0 := by
 rw [jX, jX]
 exact ⟨fun h b hb => h b (R.perm.mem_iff.2 hb), fun h b hb => h b (R.perm.mem_iff.1 hb)⟩
theorem aCm {k : Int} {s : List Body} (h : cK k s < 0) : oG k s = s := List.filter_eq_self.2 fun x hx => by simpa using jX.1 h x hx
theorem Rel.put {m s : List Body} (R : Rel m s) (b : Body) {m' : List Body} (h : m'.Perm (b :: oG b.key m)) : Rel m' (aFg s b false) := by
 rw [aMw]
 exact ⟨((uJ b s).trans ((R.perm.filter _).cons b)).trans h.symm, R.sorted.put⟩
theorem Rel.add {m s : List Body} (R : Rel m s) (b : Body) : Rel (jZ m b).1 (nR s b).1 ∧ (nR s b).2 = (jZ m b).2 := by
 unfold jZ nR
 have hf := R.find b.key
 have hl := R.perm.length_eq
 by_cases h1 : check b ≠ 0
 ·rw [if_pos h1, if_pos h1]; exact ⟨R, rfl⟩
 ·rw [if_neg h1, if_neg h1]
  by_cases h2 : 0 ≤ cK b.key m
  ·have h2' : 0 ≤ cK b.key s := by omega
   rw [if_pos h2, if_pos h2']; exact ⟨R, rfl⟩
  ·have h2' : ¬ 0 ≤ cK b.key s := by omega
   rw [if_neg h2, if_neg h2', hl]
   by_cases h3 : 4096 ≤ m.length
   ·rw [if_pos h3, if_pos h3]; exact ⟨R, rfl⟩
   ·rw [if_neg h3, if_neg h3]
    refine ⟨R.put b ?_, rfl⟩
    rw [aCm (by omega)]
    exact List.perm_append_singleton b m
theorem sK {m : List Body} (h : fL m) {i : Nat} {b : Body} (hi : m[i]? = some b) : m.eraseIdx i = oG b.key m := by
 have e : m = m.take i ++ b :: m.drop (i + 1) := by
  have hlt := (List.getElem?_eq_some_iff.1 hi).1
  have hb : m[i] = b := (List.getElem?_eq_some_iff.1 hi).2
  rw [← hb, ← List.drop_eq_getElem_cons hlt, List.take_append_drop]
 have hne := aCg h hi
 rw [List.eraseIdx_eq_take_drop_succ] at hne ⊢
 conv => rhs; rw [e]
 unfold oG
 rw [List.filter_append, List.filter_cons]
 simp only [ne_eq, not_true_eq_false, decide_false, Bool.false_eq_true, if_false]
 rw [List.filter_eq_self.2 (fun x hx => by simpa using hne x (List.mem_append_left _ hx)), List.filter_eq_self.2 (fun x hx => by simpa using hne x (List.mem_append_right _ hx))]
theorem Rel.remove {m s : List Body} (R : Rel m s) (k : Int) : Rel (jA m k).1 (iI s k).1 ∧ (iI s k).2 = (jA m k).2 := by
 unfold jA iI
 have hf := R.find k
 by_cases h : cK k m < 0
 ·rw [if_pos h, if_pos (hf.2 h)]; exact ⟨R, rfl⟩
 ·rw [if_neg h, if_neg (fun h' => h (hf.1 h'))]
  refine ⟨?_, rfl⟩
  rcases dM k m with ⟨h1, _⟩ | ⟨i, b, h1, h2, h3⟩
  ·omega
  ·rw [h3, Int.toNat_natCast, aMw]
   have hlt := (List.getElem?_eq_some_iff.1 h1).1
   have hk : (qR k).key = b.key := h2.symm
   have he : qF (qR k) true s = oG b.key s := by unfold qF; rw [hk]
   refine ⟨?_, by rw [he]; exact R.sorted.cut _⟩
   show (qF (qR k) true s).Perm _
   rw [he]
   exact (R.perm.filter _).trans ((List.Perm.of_eq (sK R.keys h1).symm).trans (oA hlt).symm)
theorem aXo {m : List Body} {i : Nat} {x : Body} (hi : i < m.length) : (m.set i x).Perm (x :: m.eraseIdx i) := by
 rw [List.set_eq_take_append_cons_drop, if_pos hi, List.eraseIdx_eq_take_drop_succ]
 exact List.perm_middle
theorem Rel.set {m s : List Body} (R : Rel m s) (b : Body) : Rel (sM m b).1 (aUu s b).1 ∧ (aUu s b).2 = (sM m b).2 := by
 unfold sM aUu
 have hf := R.find b.key
 by_cases h1 : check b ≠ 0
 ·rw [if_pos h1, if_pos h1]; exact ⟨R, rfl⟩
 ·rw [if_neg h1, if_neg h1]
  by_cases h : cK b.key m < 0
  ·rw [if_pos h, if_pos (hf.2 h)]; exact ⟨R, rfl⟩
  ·rw [if_neg h, if_neg (fun h' => h (hf.1 h'))]
   refine ⟨?_, rfl⟩
   rcases dM b.key m with ⟨h1, _⟩ | ⟨i, c, h1, h2, h3⟩
   ·omega
   ·rw [h3, Int.toNat_natCast]
    have hlt := (List.getElem?_eq_some_iff.1 h1).1
    refine R.put b ((aXo hlt).trans ?_)
    rw [sK R.keys h1, h2]
theorem Rel.get {m s : List Body} (R : Rel m s) (k : Int) : (cK k s < 0 ∧ xR m k = (qR 0, 11)) ∨ ∃ (i : Nat) (b : Body), cK k s = (i : Int) ∧ s[i]? = some b ∧ xR m k = (b, 0) := by
 rcases dM k s with ⟨h1, h2⟩ | ⟨i, b, h1, h2, h3⟩
 ·have hm : cK k m < 0 := (R.find k).1 (by omega)
  refine .inl ⟨by omega, ?_⟩
  unfold xR
  rw [if_pos hm]
  rfl
 ·refine .inr ⟨i, b, h3, h1, ?_⟩
  have hb : b ∈ m := R.perm.mem_iff.1 (List.mem_of_getElem? h1)
  obtain ⟨j, hj⟩ := List.getElem?_of_mem hb
  have := qE R.keys hj
  rw [h2] at this
  exact uH this hj
theorem tJ {a b : Int} : lX a b < 0 ↔ a < b := by unfold lX; (repeat' split) <;> omega
def aKc (b : Body) : List Body → List Body
 | [] => [b]
 | x :: l => if b.key ≤ x.key then b :: x :: l else x :: aKc b l
def rM (m : List Body) : List Body := m.foldr aKc []
theorem uS (b : Body) : ∀ l : List Body, (aKc b l).Perm (b :: l)
 | [] => List.Perm.refl _
 | x :: l => by
  unfold aKc
  split
  ·exact List.Perm.refl _
  ·exact ((uS b l).cons x).trans (List.Perm.swap b x l)
theorem hJ : ∀ m : List Body, (rM m).Perm m
 | [] => List.Perm.refl _
 | b :: m => (uS b (rM m)).trans ((hJ m).cons b)
def Up (s : List Body) : Prop := s.Pairwise (fun a b => a.key ≤ b.key)
theorem aOq (b : Body) : ∀ {l : List Body}, Up l → Up (aKc b l)
 | [], _ => by simp [aKc, Up]
 | x :: l, h => by
  unfold aKc
  have hx : ∀ y ∈ l, x.key ≤ y.key := (List.pairwise_cons.1 h).1
  split
  ·rename_i hb
   refine List.pairwise_cons.2 ⟨fun y hy => ?_, h⟩
   rcases List.mem_cons.1 hy with rfl | hy
   ·exact hb
   ·have := hx y hy; omega
  ·refine List.pairwise_cons.2 ⟨fun y hy => ?_, aOq b (List.pairwise_cons.1 h).2⟩
   have := (uS b l).mem_iff.1 hy
   rcases List.mem_cons.1 this with rfl | h1
   ·omega
   ·exact hx y h1
theorem qJ : ∀ m : List Body, Up (rM m)
 | [] => by simp [rM, Up]
 | b :: m => aOq b (qJ m)
theorem vK {s : List Body} (h : Up s) (hk : fL s) : cA s := by
 unfold Up at h
 unfold fL List.Nodup at hk
 rw [List.pairwise_map] at hk
 exact (List.Pairwise.and h hk).imp (fun ⟨h1, h2⟩ => by omega)
theorem aCv {s t : List Body} (h : Up s) (h' : Up t) (p : s.Perm t) (hk : fL s) : s = t := (vK h hk).unique (vK h' (hk.perm p.symm)) p
theorem aOw {m : List Body} (hk : fL m) : Rel m (rM m) := ⟨hJ m, vK (qJ m) (hk.perm (hJ m))⟩
theorem Rel.eq {m s : List Body} (R : Rel m s) : rM m = s := (aOw R.keys).sorted.unique R.sorted ((hJ m).trans R.perm.symm)
end Go.Bil
namespace Go.Bil
structure InB (b : Body) : Prop where
 key : 0 ≤ b.key ∧ b.key ≤ 4294967295
 radius : -2147483648 ≤ b.radius ∧ b.radius ≤ 2147483647
 ax : -2147483648 ≤ b.ax ∧ b.ax ≤ 2147483647
 ay : -2147483648 ≤ b.ay ∧ b.ay ≤ 2147483647
 mass : -2147483648 ≤ b.mass ∧ b.mass ≤ 2147483647
 bounce : -2147483648 ≤ b.bounce ∧ b.bounce ≤ 2147483647
 px : -2147483648 ≤ b.px ∧ b.px ≤ 2147483647
 py : -2147483648 ≤ b.py ∧ b.py ≤ 2147483647
 vx : -2147483648 ≤ b.vx ∧ b.vx ≤ 2147483647
 vy : -2147483648 ≤ b.vy ∧ b.vy ≤ 2147483647
theorem aWk (l : List Value) (h : kL [.u32, .i32, .i32, .i32, .i32, .i32, .i32, .i32, .i32, .i32] l) : ∃ b, l = aF b ∧ InB b := by
 obtain ⟨z0, l0, rfl, w0, h0⟩ := eO h
 obtain ⟨z1, l1, rfl, w1, h1⟩ := eO h0
 obtain ⟨z2, l2, rfl, w2, h2⟩ := eO h1
 obtain ⟨z3, l3, rfl, w3, h3⟩ := eO h2
 obtain ⟨z4, l4, rfl, w4, h4⟩ := eO h3
 obtain ⟨z5, l5, rfl, w5, h5⟩ := eO h4
 obtain ⟨z6, l6, rfl, w6, h6⟩ := eO h5
 obtain ⟨z7, l7, rfl, w7, h7⟩ := eO h6
 obtain ⟨z8, l8, rfl, w8, h8⟩ := eO h7
 obtain ⟨z9, l9, rfl, w9, h9⟩ := eO h8
 obtain rfl := qK h9
 exact ⟨⟨z0, z1, z2, z3, z4, z5, z6, z7, z8, z9⟩, rfl, ⟨w0, w1, w2, w3, w4, w5, w6, w7, w8, w9⟩⟩
end Go.Bil

namespace Go.Bil
structure StV where
 A : Option Addr
 n : Nat
 c : Nat
 p : Option Nat
 er : dN
 em : dN
def nG (l : List Body) : List Body := l.foldl (fun m b => (jZ m b).1) []
theorem aAh {l : List Body} {k : Nat} {x : Body} (h : l[k]? = some x) : nG (l.take (k + 1)) = (jZ (nG (l.take k)) x).1 := by
 unfold nG
 rw [cT h, List.foldl_append]
 rfl
theorem uO : ∀ l : List Body, Rel (nG l) (wY l) := by
 have key : ∀ (l m s : List Body), Rel m s → Rel (l.foldl (fun m b => (jZ m b).1) m) (l.foldl (fun s b => (nR s b).1) s) := by
  intro l
  induction l with
  | nil => intro m s h; exact h
  | cons b l ih => intro m s h; exact ih _ _ (h.add b).1
 exact fun l => key l [] [] Rel.nil
def pA (l : List Body) : List Body := l.filter (fun b => decide (check b = 0))
theorem aFx {m : List Body} {x : Body} (hf : ∀ b ∈ m, b.key ≠ x.key) (hl : m.length < 4096) : jZ (pA m) x = (pA (m ++ [x]), check x) := by
 have hle : (pA m).length ≤ m.length := List.length_filter_le _ _
 unfold jZ
 by_cases h : check x = 0
 ·rw [if_neg (by omega), if_neg (by
   have : cK x.key (pA m) < 0 := jX.2 fun b hb => hf b (List.mem_filter.1 hb).1
   omega), if_neg (by omega), h]
  simp [pA, List.filter_append, h]
 ·rw [if_pos h]
  simp [pA, List.filter_append, h]
theorem vS {l : List Body} (h : fL l) {k : Nat} {x : Body} (hx : l[k]? = some x) : ∀ b ∈ l.take k, b.key ≠ x.key := by
 intro b hb e
 obtain ⟨j, hj⟩ := List.getElem?_of_mem hb
 rw [List.getElem?_take] at hj
 split at hj
 ·rename_i hlt
  have := h.inj hj hx e
  omega
 ·cases hj
theorem lW {l : List Body} (h : fL l) (hl : l.length ≤ 4096) : ∀ k, k ≤ l.length → nG (l.take k) = pA (l.take k)
 | 0, _ => by simp [nG, pA]
 | k + 1, hk => by
  obtain ⟨x, hx⟩ := cI (xs := l) (k := k) rfl (by omega)
  rw [aAh hx, lW h hl k (by omega), aFx (vS h hx) (by rw [List.length_take]; omega), cT hx]
theorem aQn {l : List Body} (h : fL l) (hl : l.length ≤ 4096) {k : Nat} {x : Body} (hx : l[k]? = some x) : (jZ (nG (l.take k)) x).2 = check x := by
 have hk := (List.getElem?_eq_some_iff.1 hx).1
 rw [lW h hl k (by omega), aFx (vS h hx) (by rw [List.length_take]; omega)]
theorem aMj {l l' : List Body} (p : l'.Perm l) (h : fL l) (hl : l.length < 4096) : rM (nG l) = rM (nG l') := by
 have h' : fL l' := h.perm p
 have e1 : nG l = pA l := by have := lW h (by omega) l.length (Nat.le_refl _); rwa [List.take_length] at this
 have e2 : nG l' = pA l' := by have := lW h' (by rw [p.length_eq]; omega) l'.length (Nat.le_refl _); rwa [List.take_length] at this
 rw [e1, e2]
 have hv : fL (pA l) := by
  unfold fL pA
  exact List.Sublist.nodup ((List.filter_sublist).map _) h
 refine aCv (qJ _) (qJ _) ?_ (hv.perm (hJ _))
 exact (hJ _).trans ((p.symm.filter _).trans (hJ _).symm)
theorem aBo {l : List Body} (h : ∀ (p q : Nat) (x y : Body), p < q → q < l.length → l[p]? = some x → l[q]? = some y → x.key ≠ y.key) : fL l := by
 unfold fL List.Nodup
 rw [List.pairwise_map]
 refine List.pairwise_iff_getElem.2 fun i j hi hj hij => ?_
 exact h i j _ _ hij hj (List.getElem?_eq_getElem hi) (List.getElem?_eq_getElem hj)
def turned (l : List Body) (k : Nat) : List Body := (l.drop k ++ l.take k).reverse
theorem aSh {xs : List Body} {i : Nat} {xi : Body} (hne : ∀ (p q : Nat) (x y : Body), p < q → q < i → xs[p]? = some x → xs[q]? = some y → x.key ≠ y.key) (hxi : xs[i]? = some xi) (hin : ∀ (p : Nat) (x : Body), p < i → xs[p]? = some x → x.key ≠ xi.key) :
  ∀ (p q : Nat) (x y : Body), p < q → q < i + 1 → xs[p]? = some x → xs[q]? = some y → x.key ≠ y.key := by
 intro p q x y hpq hq hx hy
 by_cases hqi : q < i
 ·exact hne p q x y hpq hqi hx hy
 ·have hq' : q = i := by omega
  subst hq'
  rw [hxi] at hy
  injection hy with hy
  subst hy
  exact hin p x (by omega) hx
theorem aHn {m : List Body} (hk : fL m) (k : Int) : (jA m k).1.Perm (oG k m) := by
 unfold jA
 by_cases h : cK k m < 0
 ·rw [if_pos h, aCm h]
 ·rw [if_neg h]
  rcases dM k m with ⟨h1, _⟩ | ⟨i, b, h1, h2, h3⟩
  ·omega
  ·rw [h3, Int.toNat_natCast]
   have hlt := (List.getElem?_eq_some_iff.1 h1).1
   have := (oA hlt).trans (List.Perm.of_eq (sK hk h1))
   rwa [h2] at this
end Go.Bil
namespace Go.Bil
structure StepI where
 kind : Int
 body : Body
instance : Inhabited StepI := ⟨⟨0, qR 0⟩⟩
end Go.Bil

namespace Go.Bil
def jO : List Body → Int
 | [] => 0
 | b :: l => if check b ≠ 0 then check b else jO l
def pC (xs : List Body) : Int := if 4096 < xs.length then 12 else jO xs
theorem mW : ∀ {xs : List Body}, (∀ (j : Nat) (c : Body), xs[j]? = some c → check c = 0) → jO xs = 0
 | [], _ => rfl
 | b :: l, h => by
  unfold jO
  rw [if_neg (by have := h 0 b (by simp); omega)]
  exact mW fun j c hj => h (j + 1) c (by simpa using hj)
theorem vY : ∀ {xs : List Body} {k : Nat} {b : Body}, xs[k]? = some b → check b ≠ 0 → (∀ (j : Nat) (c : Body), j < k → xs[j]? = some c → check c = 0) → jO xs = check b
 | [], _, _, h, _, _ => by simp at h
 | a :: l, 0, b, h, hb, _ => by
  simp only [List.getElem?_cons_zero, Option.some.injEq] at h
  subst h
  unfold jO
  rw [if_pos hb]
 | a :: l, k + 1, b, h, hb, hn => by
  unfold jO
  rw [if_neg (by have := hn 0 a (by omega) (by simp); omega)]
  exact vY (by simpa using h) hb fun j c hj hc => hn (j + 1) c (by omega) (by simpa using hc)
theorem tM : ∀ {xs : List Body}, jO xs = 0 → ∀ b ∈ xs, check b = 0
 | [], _, b, hb => by simp at hb
 | a :: l, h, b, hb => by
  unfold jO at h
  by_cases ha : check a = 0
  ·rw [if_neg (by omega)] at h
   rcases List.mem_cons.1 hb with rfl | hb
   ·exact ha
   ·exact tM h b hb
  ·rw [if_pos ha] at h; exact absurd h ha
theorem aXg {xs : List Body} (h : pC xs = 0) : xs.length ≤ 4096 ∧ ∀ b ∈ xs, check b = 0 := by
 unfold pC at h
 split at h
 ·omega
 ·exact ⟨by omega, tM h⟩
theorem aYa {xs : List Body} (hl : xs.length ≤ 4096) (h : ∀ b ∈ xs, check b = 0) : pC xs = 0 := by
 unfold pC
 rw [if_neg (by omega)]
 exact mW fun j c hj => h c (List.mem_of_getElem? hj)
def aAx : List Body → Bool
 | x :: y :: l => decide (x.key < y.key) && aAx (y :: l)
 | _ => true
theorem vL : ∀ {xs : List Body}, (∀ (i : Nat) (x y : Body), xs[i]? = some x → xs[i + 1]? = some y → x.key < y.key) → aAx xs = true
 | [], _ => rfl
 | [_], _ => rfl
 | x :: y :: l, h => by
  unfold aAx
  rw [Bool.and_eq_true]
  exact ⟨decide_eq_true (h 0 x y (by simp) (by simp)), vL fun i a b ha hb => h (i + 1) a b (by simpa using ha) (by simpa using hb)⟩
theorem pJ : ∀ {xs : List Body}, aAx xs = true → cA xs
 | [], _ => by simp [cA]
 | [_], _ => by simp [cA]
 | x :: y :: l, h => by
  unfold aAx at h
  rw [Bool.and_eq_true, decide_eq_true_eq] at h
  have ih := pJ h.2
  refine List.pairwise_cons.2 ⟨fun z hz => ?_, ih⟩
  rcases List.mem_cons.1 hz with rfl | hz
  ·exact h.1
  ·have := (List.pairwise_cons.1 ih).1 z hz; have := h.1; omega
theorem aFy {xs : List Body} (h : cA xs) : aAx xs = true := vL fun i x y hx hy => by
 have hi := List.getElem?_eq_some_iff.1 hx
 have hj := List.getElem?_eq_some_iff.1 hy
 have := List.pairwise_iff_getElem.1 h i (i + 1) hi.1 hj.1 (by omega)
 rwa [hi.2, hj.2] at this
theorem aJg {xs : List Body} {i : Nat} {x y : Body} (hx : xs[i]? = some x) (hy : xs[i + 1]? = some y) (h : ¬ x.key < y.key) : aAx xs = false := by
 cases e : aAx xs with
 | false => rfl
 | true =>
  exfalso
  have hi := List.getElem?_eq_some_iff.1 hx
  have hj := List.getElem?_eq_some_iff.1 hy
  have := List.pairwise_iff_getElem.1 (pJ e) i (i + 1) hi.1 hj.1 (by omega)
  rw [hi.2, hj.2] at this
  exact h this
def gQ (xs : List Body) : Int := if pC xs ≠ 0 then pC xs else if aAx xs = true then 0 else 10
instance (m : List Body) : Decidable (fL m) := by unfold fL; infer_instance
def vO (key : Int) : List Body → Nat
 | [] => 0
 | b :: l => (if b.key < key then 1 else 0) + vO key l
theorem tQ {key : Int} : ∀ {xs : List Body} {k : Nat}, k ≤ xs.length → (∀ (j : Nat) (c : Body), j < k → xs[j]? = some c → c.key < key) → (∀ (j : Nat) (c : Body), k ≤ j → xs[j]? = some c → ¬ c.key < key) → vO key xs = k
 | [], k, hk, _, _ => by simp at hk; simp [vO, hk]
 | b :: l, 0, _, _, h2 => by
  unfold vO
  rw [if_neg (h2 0 b (Nat.le_refl _) (by simp)), tQ (k := 0) (by omega) (fun j c hj => by omega) (fun j c _ hc => h2 (j + 1) c (by omega) (by simpa using hc))]
 | b :: l, k + 1, hk, h1, h2 => by
  unfold vO
  rw [if_pos (h1 0 b (by omega) (by simp)), tQ (k := k) (by simpa using hk) (fun j c hj hc => h1 (j + 1) c (by omega) (by simpa using hc)) (fun j c hj hc => h2 (j + 1) c (by omega) (by simpa using hc))]
  omega
def fG (k : Int) : List Value := [.int .u32 k]
end Go.Bil
namespace Go.Bil
theorem wK {xs : List Body} (h : cA xs) {p q : Nat} {a b : Body} (hpq : p ≤ q) (ha : xs[p]? = some a) (hb : xs[q]? = some b) : a.key ≤ b.key := by
 by_cases e : p = q
 ·subst e
  rw [ha] at hb
  injection hb with hb
  rw [hb]; exact Int.le_refl _
 ·have hi := List.getElem?_eq_some_iff.1 ha
  have hj := List.getElem?_eq_some_iff.1 hb
  have := List.pairwise_iff_getElem.1 h p q hi.1 hj.1 (by omega)
  rw [hi.2, hj.2] at this
  omega
theorem bKc (i j : Nat) : ((i : Int) + (j : Int)).fdiv (2 ^ (min (1 : Int).toNat IntKind.u64.bits)) = (((i + j) / 2 : Nat) : Int) := by
 have e : (2 : Int) ^ (min (1 : Int).toNat IntKind.u64.bits) = 2 := by decide
 rw [e, Int.fdiv_eq_ediv_of_nonneg _ (by omega)]
 omega
theorem aAu {a b a' b' : Value} (h1 : a = a') (h2 : b = b') : Value.tuple #[a, b] = Value.tuple #[a', b'] := by rw [h1, h2]
theorem aRd {a b : Int} : lX a b = 0 ↔ a = b := by unfold lX; (repeat' split) <;> omega
theorem aRe {key : Int} {xs : List Body} (hs : cA xs) {i : Nat} {b : Body} (hb : xs[i]? = some b) (h1 : ∀ (j : Nat) (c : Body), j < i → xs[j]? = some c → c.key < key) (h2 : ∀ (j : Nat) (c : Body), i ≤ j → xs[j]? = some c → ¬ c.key < key) : lX b.key key = 0 ↔ 0 ≤ cK key xs := by
 rw [aRd]
 constructor
 ·intro e
  rcases dM key xs with ⟨_, h⟩ | ⟨_, _, _, _, h⟩
  ·exact absurd e (h b (List.mem_of_getElem? hb))
  ·omega
 ·intro h
  rcases dM key xs with ⟨h', _⟩ | ⟨j, c, hc, hk, _⟩
  ·omega
  ·have hij : i ≤ j := by
    rcases Nat.lt_or_ge j i with hlt | hge
    ·have := h1 j c hlt hc; omega
    ·exact hge
   have := wK hs hij hb hc
   have := h2 i b (Nat.le_refl _) hb
   omega
theorem aJi {key : Int} {xs : List Body} (h1 : ∀ (j : Nat) (c : Body), j < xs.length → xs[j]? = some c → c.key < key) : ¬ 0 ≤ cK key xs := by
 intro h
 rcases dM key xs with ⟨h', _⟩ | ⟨j, c, hc, hk, _⟩
 ·omega
 ·have := h1 j c (List.getElem?_eq_some_iff.1 hc).1 hc
  omega
end Go.Bil
namespace Go.Bil
theorem aWm {α : Type} {xs ys : List α} {n m : Nat} (h1 : xs.length = n) (h2 : ys.length = m) (hnm : n = m) (h : ∀ (j : Nat) (x : α), j < n → xs[j]? = some x → ys[j]? = some x) : xs = ys := by
 apply List.ext_getElem?
 intro j
 by_cases hj : j < xs.length
 ·obtain ⟨x, hx⟩ := cI (k := j) rfl hj
  rw [hx, h j x (by omega) hx]
 ·rw [List.getElem?_eq_none (by omega), List.getElem?_eq_none (by omega)]
end Go.Bil
namespace Go.Bil
end Go.Bil
namespace Go.Bil
theorem aJh (k : Int) : ∀ y ∈ [fG k], y.length = 1 ∧ ∀ u ∈ y, one u = true := by
 intro y hy
 simp only [List.mem_singleton] at hy
 subst hy
 exact ⟨rfl, aR rfl⟩
end Go.Bil
namespace Go.Bil
structure Mg (xs ys : List Body) (i k : Nat) : Prop where
 sx : cA xs
 sy : cA ys
 yx : ∀ (p : Nat) (a b : Body), p < k → ys[p]? = some a → xs[i]? = some b → a.key < b.key
 xy : ∀ (p : Nat) (a b : Body), p < i → xs[p]? = some a → ys[k]? = some b → a.key < b.key
theorem Mg.swap {xs ys : List Body} {i k : Nat} (h : Mg xs ys i k) : Mg ys xs k i := ⟨h.sy, h.sx, h.xy, h.yx⟩
theorem dT {xs : List Body} (h : cA xs) {p q : Nat} {a b : Body} (hpq : p < q) (ha : xs[p]? = some a) (hb : xs[q]? = some b) : a.key < b.key := by
 have hi := List.getElem?_eq_some_iff.1 ha
 have hj := List.getElem?_eq_some_iff.1 hb
 have := List.pairwise_iff_getElem.1 h p q hi.1 hj.1 hpq
 rwa [hi.2, hj.2] at this
theorem Mg.x {xs ys : List Body} {i k : Nat} {a : Body} (h : Mg xs ys i k) (ha : xs[i]? = some a) (hb : ∀ b, ys[k]? = some b → a.key < b.key) : Mg xs ys (i + 1) k ∧ cK a.key ys < 0 := by
 refine ⟨⟨h.sx, h.sy, fun p y x hp hy hx => ?_, fun p x y hp hx hy => ?_⟩, jX.2 fun y hy => ?_⟩
 ·have := h.yx p y a hp hy ha
  have := dT h.sx (Nat.lt_succ_self i) ha hx
  omega
 ·by_cases e : p = i
  ·subst e
   rw [ha] at hx
   injection hx with hx
   subst hx
   exact hb y hy
  ·exact h.xy p x y (by omega) hx hy
 ·obtain ⟨q, hq⟩ := List.getElem?_of_mem hy
  rcases Nat.lt_or_ge q k with hlt | hge
  ·have := h.yx q y a hlt hq ha; omega
  ·obtain ⟨b, hbk⟩ := cI (xs := ys) (k := k) rfl (by have := (List.getElem?_eq_some_iff.1 hq).1; omega)
   have h1 := hb b hbk
   have h2 := wK h.sy hge hbk hq
   omega
theorem Mg.y {xs ys : List Body} {i k : Nat} {b : Body} (h : Mg xs ys i k) (hb : ys[k]? = some b) (ha : ∀ a, xs[i]? = some a → b.key < a.key) : Mg xs ys i (k + 1) ∧ cK b.key xs < 0 := by
 obtain ⟨h1, h2⟩ := h.swap.x hb ha
 exact ⟨h1.swap, h2⟩
theorem Mg.both {xs ys : List Body} {i k : Nat} {a b : Body} (h : Mg xs ys i k) (ha : xs[i]? = some a) (hb : ys[k]? = some b) (hk : a.key = b.key) : Mg xs ys (i + 1) (k + 1) ∧ cK a.key ys = (k : Int) ∧ cK b.key xs = (i : Int) := by
 refine ⟨⟨h.sx, h.sy, fun p y x hp hy hx => ?_, fun p x y hp hx hy => ?_⟩, ?_, ?_⟩
 ·have h1 := dT h.sx (Nat.lt_succ_self i) ha hx
  have h2 := wK h.sy (show p ≤ k by omega) hy hb
  omega
 ·have h1 := dT h.sy (Nat.lt_succ_self k) hb hy
  have h2 := wK h.sx (show p ≤ i by omega) hx ha
  omega
 ·exact yD hb hk.symm fun j c hj hc => by have := dT h.sy hj hc hb; omega
 ·exact yD ha hk fun j c hj hc => by have := dT h.sx hj hc ha; omega
end Go.Bil
namespace Go.Bil
end Go.Bil
namespace Go.Bil
end Go.Bil
namespace Go.Bil
end Go.Bil
namespace Go.Bil
end Go.Bil
namespace Go.Bil
end Go.Bil
namespace Go.Bil
end Go.Bil

namespace Go.Bil
theorem aPz {v : List Body} (he : pC v = 0) (hs : cA v) : gQ v = 0 := by
 unfold gQ
 rw [if_neg (by omega), if_pos (aFy hs)]
end Go.Bil

namespace Go.Bil
structure Bx where
 x0 : Int
 y0 : Int
 x1 : Int
 y1 : Int
 deriving DecidableEq, Inhabited
def cY (a : Bx) : List Value := [.int .i32 a.x0, .int .i32 a.y0, .int .i32 a.x1, .int .i32 a.y1]
def aRi (b : Body) : Int := max b.ax (-b.ax) + b.radius
def aPj (b : Body) : Int := max b.ay (-b.ay) + b.radius
def iQ (b : Body) : Bx := ⟨b.px - aRi b, b.py - aPj b, b.px + aRi b, b.py + aPj b⟩
abbrev gU (a : Bx) : Prop := a.x1 < a.x0 ∨ a.y1 < a.y0
def gO : Bx := ⟨1, 0, 0, 0⟩
def aCx (a b : Bx) : Bx := if gU ⟨max a.x0 b.x0, max a.y0 b.y0, min a.x1 b.x1, min a.y1 b.y1⟩ then gO else ⟨max a.x0 b.x0, max a.y0 b.y0, min a.x1 b.x1, min a.y1 b.y1⟩
abbrev ovl (a b : Bx) : Prop := (a.x0 ≤ a.x1 ∧ a.y0 ≤ a.y1) ∧ (b.x0 ≤ b.x1 ∧ b.y0 ≤ b.y1) ∧ (a.x0 ≤ b.x1 ∧ b.x0 ≤ a.x1 ∧ a.y0 ≤ b.y1 ∧ b.y0 ≤ a.y1)
theorem aXj (a b : Bx) : ¬ gU (aCx a b) ↔ ovl a b := by
 unfold aCx
 split
 ·rename_i h
  unfold gU at h
  simp only [gU, gO, ovl]
  simp only at h
  omega
 ·rename_i h
  unfold gU at h
  simp only [gU, ovl]
  simp only at h
  omega
structure Okb (b : Body) : Prop where
 r : 4096 ≤ b.radius ∧ b.radius ≤ 4194304
 a : -4194304 ≤ b.ax ∧ b.ax ≤ 4194304 ∧ -4194304 ≤ b.ay ∧ b.ay ≤ 4194304
 m : 0 ≤ b.mass ∧ b.mass ≤ 1048576
 c : 0 ≤ b.bounce ∧ b.bounce ≤ 65536
 p : -1073741824 ≤ b.px ∧ b.px ≤ 1073741824 ∧ -1073741824 ≤ b.py ∧ b.py ≤ 1073741824
 v : -16777216 ≤ b.vx ∧ b.vx ≤ 16777216 ∧ -16777216 ≤ b.vy ∧ b.vy ≤ 16777216
theorem aIh {b : Body} (h : check b = 0) : Okb b := by
 by_cases h1 : 4096 ≤ b.radius ∧ b.radius ≤ 4194304
 ·by_cases h2 : -4194304 ≤ b.ax ∧ b.ax ≤ 4194304 ∧ -4194304 ≤ b.ay ∧ b.ay ≤ 4194304
  ·by_cases h3 : 0 ≤ b.mass ∧ b.mass ≤ 1048576
   ·by_cases h4 : 0 ≤ b.bounce ∧ b.bounce ≤ 65536
    ·by_cases h5 : -1073741824 ≤ b.px ∧ b.px ≤ 1073741824 ∧ -1073741824 ≤ b.py ∧ b.py ≤ 1073741824
     ·by_cases h6 : -16777216 ≤ b.vx ∧ b.vx ≤ 16777216 ∧ -16777216 ≤ b.vy ∧ b.vy ≤ 16777216
      ·exact ⟨h1, h2, h3, h4, h5, h6⟩
      ·rw [aNq b h1 h2 h3 h4 h5 h6] at h; omega
     ·rw [aNh b h1 h2 h3 h4 h5] at h; omega
    ·rw [aNe b h1 h2 h3 h4] at h; omega
   ·rw [aMs b h1 h2 h3] at h; omega
  ·rw [aMq b h1 h2] at h; omega
 ·rw [aOm b h1] at h; omega
theorem aXp {b : Body} (h : Okb b) : 4096 ≤ aRi b ∧ aRi b ≤ 8388608 ∧ 4096 ≤ aPj b ∧ aPj b ≤ 8388608 := by
 have := h.r
 have := h.a
 unfold aRi aPj
 omega
structure Okx (a : Bx) : Prop where
 x0 : -2147483648 ≤ a.x0 ∧ a.x0 ≤ 2147483647
 y0 : -2147483648 ≤ a.y0 ∧ a.y0 ≤ 2147483647
 x1 : -2147483648 ≤ a.x1 ∧ a.x1 ≤ 2147483647
 y1 : -2147483648 ≤ a.y1 ∧ a.y1 ≤ 2147483647
theorem bGi {b : Body} (h : Okb b) : Okx (iQ b) := by
 have h1 := aXp h
 have h2 := h.p
 constructor <;> simp only [iQ] <;> omega
end Go.Bil

namespace Go.Bil
def cJ (c : Int × Int) : List Value := [.int .i32 c.1, .int .i32 c.2]
def lY (x : Int) : Int := x.fdiv 4194304
theorem bCa (x : Int) : x.fdiv (2 ^ (min (22 : Int).toNat IntKind.i32.bits)) = lY x := rfl
theorem aFo (x : Int) : lY x = x / 4194304 := by unfold lY; exact Int.fdiv_eq_ediv_of_nonneg x (by decide)
theorem oO {x : Int} (h0 : -2147483648 ≤ x) (h1 : x ≤ 2147483647) : -512 ≤ lY x ∧ lY x ≤ 511 := by rw [aFo]; omega
theorem jI {x y : Int} (h : x ≤ y) : lY x ≤ lY y := by rw [aFo, aFo]; omega
def loC (a : Bx) : Int × Int := if gU a then (0, 0) else (lY a.x0, lY a.y0)
def hiC (a : Bx) : Int × Int := if gU a then (0, 0) else (lY a.x1, lY a.y1)
def nX (lo hi : Int × Int) : Nat := (hi.1 - lo.1 + 1).toNat
def nY (lo hi : Int × Int) : Nat := (hi.2 - lo.2 + 1).toNat
def yG (lo : Int × Int) (i j : Nat) : List (Int × Int) := (List.range i).map (fun (p : Nat) => (lo.1 + (p : Int), lo.2 + (j : Int)))
def mP (lo hi : Int × Int) (j : Nat) : List (Int × Int) := (List.range j).flatMap (fun q => yG lo (nX lo hi) q)
def vH (ok : Bool) (lo hi : Int × Int) : List (Int × Int) := if ok then mP lo hi (nY lo hi) else []
def gB (a : Bx) : List (Int × Int) := vH (decide (¬ gU a)) (loC a) (hiC a)
theorem aIk (lo : Int × Int) (i j : Nat) : (yG lo i j).length = i := by simp [yG]
theorem aRx (lo : Int × Int) (i j : Nat) : yG lo (i + 1) j = yG lo i j ++ [(lo.1 + (i : Int), lo.2 + (j : Int))] := by simp [yG, List.range_succ]
theorem yK (lo hi : Int × Int) (j : Nat) : mP lo hi (j + 1) = mP lo hi j ++ yG lo (nX lo hi) j := by simp [mP, List.range_succ]
theorem vN (lo hi : Int × Int) : ∀ j, (mP lo hi j).length = j * nX lo hi
 | 0 => by simp [mP]
 | j + 1 => by rw [yK, List.length_append, vN lo hi j, aIk, Nat.add_mul, Nat.one_mul]
theorem aVa {lo hi : Int × Int} {i j : Nat} (hx : nX lo hi ≤ 1024) (hj : j < 1024) (hi' : i < nX lo hi) : (mP lo hi j).length + i < 1048576 := by
 rw [vN]
 have : j * nX lo hi ≤ 1023 * 1024 := Nat.mul_le_mul (by omega) hx
 omega
theorem aWn {lo hi : Int × Int} {j : Nat} (hx : nX lo hi ≤ 1024) (hj : j ≤ 1024) : (mP lo hi j).length ≤ 1048576 := by
 rw [vN]
 exact Nat.mul_le_mul hj hx
theorem aQp {lo hi : Int × Int} {n : Nat} {c : Int × Int} : c ∈ mP lo hi n ↔ ∃ q p : Nat, q < n ∧ p < nX lo hi ∧ c = (lo.1 + (p : Int), lo.2 + (q : Int)) := by
 simp only [mP, yG, List.mem_flatMap, List.mem_range, List.mem_map]
 constructor
 ·rintro ⟨q, hq, p, hp, rfl⟩; exact ⟨q, p, hq, hp, rfl⟩
 ·rintro ⟨q, p, hq, hp, rfl⟩; exact ⟨q, hq, p, hp, rfl⟩
theorem zQ {a : Bx} {c : Int × Int} : c ∈ gB a ↔ ¬ gU a ∧ lY a.x0 ≤ c.1 ∧ c.1 ≤ lY a.x1 ∧ lY a.y0 ≤ c.2 ∧ c.2 ≤ lY a.y1 := by
 unfold gB vH
 by_cases h : gU a
 ·simp [h]
 ·rw [if_pos (by simpa using h), aQp]
  simp only [loC, hiC, if_neg h, nX, nY]
  constructor
  ·rintro ⟨q, p, hq, hp, rfl⟩
   refine ⟨h, ?_⟩
   simp only
   omega
  ·rintro ⟨_, h1, h2, h3, h4⟩
   refine ⟨(c.2 - lY a.y0).toNat, (c.1 - lY a.x0).toNat, by omega, by omega, ?_⟩
   apply Prod.ext <;> simp only <;> omega
structure Okc (c : Int × Int) : Prop where
 x : -512 ≤ c.1 ∧ c.1 ≤ 511
 y : -512 ≤ c.2 ∧ c.2 ≤ 511
theorem aKr {a : Bx} (h : Okx a) : Okc (loC a) := by
 unfold loC
 split
 ·exact ⟨by decide, by decide⟩
 ·exact ⟨oO h.x0.1 h.x0.2, oO h.y0.1 h.y0.2⟩
theorem aJx {a : Bx} (h : Okx a) : Okc (hiC a) := by
 unfold hiC
 split
 ·exact ⟨by decide, by decide⟩
 ·exact ⟨oO h.x1.1 h.x1.2, oO h.y1.1 h.y1.2⟩
theorem bCh {lo hi : Int × Int} (h1 : Okc lo) (h2 : Okc hi) : nX lo hi ≤ 1024 := by
 have := h1.x; have := h2.x
 unfold nX
 omega
theorem bCf {lo hi : Int × Int} (h1 : Okc lo) (h2 : Okc hi) : nY lo hi ≤ 1024 := by
 have := h1.y; have := h2.y
 unfold nY
 omega
theorem aLq {a : Bx} (h : Okx a) : (gB a).length ≤ 1048576 := by
 unfold gB vH
 split
 ·exact aWn (bCh (aKr h) (aJx h)) (bCf (aKr h) (aJx h))
 ·simp
theorem aSn {a b : Bx} (h : ovl a b) : ∃ c, c ∈ gB a ∧ c ∈ gB b := by
 obtain ⟨⟨h1, h2⟩, ⟨h3, h4⟩, h5, h6, h7, h8⟩ := h
 refine ⟨(lY (max a.x0 b.x0), lY (max a.y0 b.y0)), zQ.2 ⟨by unfold gU; omega, ?_⟩, zQ.2 ⟨by unfold gU; omega, ?_⟩⟩
 ·exact ⟨jI (by omega), jI (by omega), jI (by omega), jI (by omega)⟩
 ·exact ⟨jI (by omega), jI (by omega), jI (by omega), jI (by omega)⟩
def rB (c : Int × Int) : Int :=
 IntKind.u32.wrap ((BitVec.ofInt 32 (IntKind.u32.wrap ((BitVec.ofInt 32 (IntKind.u32.wrap (IntKind.u32.wrap c.1 * 73856093)) ^^^ BitVec.ofInt 32 (IntKind.u32.wrap (IntKind.u32.wrap c.2 * 19349663))).toNat)) &&& BitVec.ofInt 32 1023).toNat)
def dP (c : Int × Int) : Nat := (rB c).toNat
theorem kH (c : Int × Int) : 0 ≤ rB c ∧ rB c < 1024 := by
 unfold rB
 generalize BitVec.ofInt 32 (IntKind.u32.wrap _) = a
 have h : (a &&& BitVec.ofInt 32 1023).toNat ≤ 1023 := by
  rw [BitVec.toNat_and]
  exact Nat.le_trans Nat.and_le_right (by decide)
 rw [aDg _ (by omega) (by omega)]
 omega
theorem jE (c : Int × Int) : dP c < 1024 := by have := kH c; unfold dP; omega
theorem aRg (c : Int × Int) : rB c = (dP c : Int) := by have := kH c; unfold dP; omega
end Go.Bil

namespace Go.Bil
def cG (n : Int) : List Int := [n / 16777216 % 256, n / 65536 % 256, n / 256 % 256, n % 256]
def aUd (b : Body) : List Int := [b.key, b.radius, b.ax, b.ay, b.mass, b.bounce, b.px, b.py, b.vx, b.vy]
def kO (b : Body) : List Int := (aUd b).flatMap cG
def kY : List Int := [66, 73, 76, 49]
def lO (v : List Body) : List Int := kY ++ cG (v.length : Int) ++ v.flatMap kO
def dZ (l : List Int) (a : Nat) : Int := ((l.getD a 0 * 256 + l.getD (a + 1) 0) * 256 + l.getD (a + 2) 0) * 256 + l.getD (a + 3) 0
def nE (n : Int) : Int := if 2147483648 ≤ n then n - 4294967296 else n
def kT (l : List Int) (a : Nat) : Body := ⟨dZ l a, nE (dZ l (a + 4)), nE (dZ l (a + 8)), nE (dZ l (a + 12)), nE (dZ l (a + 16)), nE (dZ l (a + 20)), nE (dZ l (a + 24)), nE (dZ l (a + 28)), nE (dZ l (a + 32)), nE (dZ l (a + 36))⟩
abbrev zF (l : List Int) : Prop := 8 ≤ l.length ∧ l.take 4 = kY ∧ (l.length : Int) = 8 + 40 * dZ l 4
def mK (l : List Int) (n : Nat) : List Body := (List.range n).map (fun i => kT l (8 + 40 * i))
def kI (l : List Int) : List Body × Int := if ¬ zF l then ([], 13) else if gQ (mK l (dZ l 4).toNat) ≠ 0 then ([], gQ (mK l (dZ l 4).toNat)) else (mK l (dZ l 4).toNat, 0)
abbrev iR (l : List Int) : Prop := ∀ x ∈ l, 0 ≤ x ∧ x ≤ 255
theorem lK (n : Int) : (cG n).length = 4 := rfl
theorem aXf (b : Body) : (kO b).length = 40 := rfl
theorem aHi (v : List Body) : (v.flatMap kO).length = 40 * v.length := by
 induction v with
 | nil => rfl
 | cons b v ih => rw [List.flatMap_cons, List.length_append, ih, aXf, List.length_cons]; omega
theorem aGa (v : List Body) : (lO v).length = 8 + 40 * v.length := by
 unfold lO
 rw [List.length_append, List.length_append, aHi, lK]
 rfl
theorem yX (n : Int) : iR (cG n) := fun x hx => by
 simp only [cG, List.mem_cons, List.not_mem_nil, or_false] at hx
 rcases hx with rfl | rfl | rfl | rfl <;> omega
theorem aSg (b : Body) : iR (kO b) := fun x hx => by
 obtain ⟨n, _, h⟩ := List.mem_flatMap.1 hx
 exact yX n x h
theorem aPr (v : List Body) : iR (lO v) := fun x hx => by
 unfold lO at hx
 rcases List.mem_append.1 hx with h | h
 ·rcases List.mem_append.1 h with h | h
  ·simp only [kY, List.mem_cons, List.not_mem_nil, or_false] at h
   rcases h with rfl | rfl | rfl | rfl <;> omega
  ·exact yX _ x h
 ·obtain ⟨b, _, h⟩ := List.mem_flatMap.1 h
  exact aSg b x h
theorem uK (n : Int) : cG (n % 4294967296) = cG n := by
 unfold cG
 have h1 : n % 4294967296 / 16777216 % 256 = n / 16777216 % 256 := by omega
 have h2 : n % 4294967296 / 65536 % 256 = n / 65536 % 256 := by omega
 have h3 : n % 4294967296 / 256 % 256 = n / 256 % 256 := by omega
 have h4 : n % 4294967296 % 256 = n % 256 := by omega
 rw [h1, h2, h3, h4]
theorem aPh (n : Int) : cG (nE n) = cG n := by
 unfold nE
 split
 ·rw [← uK (n - 4294967296), ← uK n]
  congr 1
  omega
 ·rfl
theorem tN {A L B : List Int} {a : Nat} (ha : A.length = a) {j : Nat} (hj : j < L.length) : (A ++ (L ++ B)).getD (a + j) 0 = L.getD j 0 := by
 subst ha
 rw [List.getD_eq_getElem?_getD, List.getD_eq_getElem?_getD, List.getElem?_append_right (by omega), List.getElem?_append_left (by omega)]
 congr 2
 omega
theorem aCp {A B : List Int} {a : Nat} (ha : A.length = a) (n : Int) : dZ (A ++ (cG n ++ B)) a = n % 4294967296 := by
 have h0 : (A ++ (cG n ++ B)).getD a 0 = n / 16777216 % 256 := tN (j := 0) ha (by rw [lK]; omega)
 have h1 : (A ++ (cG n ++ B)).getD (a + 1) 0 = n / 65536 % 256 := tN (j := 1) ha (by rw [lK]; omega)
 have h2 : (A ++ (cG n ++ B)).getD (a + 2) 0 = n / 256 % 256 := tN (j := 2) ha (by rw [lK]; omega)
 have h3 : (A ++ (cG n ++ B)).getD (a + 3) 0 = n % 256 := tN (j := 3) ha (by rw [lK]; omega)
 unfold dZ
 rw [h0, h1, h2, h3]
 omega
theorem bBw {A B L : List Int} {a k : Nat} {n : Int} (ha : A.length = a) {P Q : List Int} (hL : L = P ++ (cG n ++ Q)) (hP : P.length = k) : dZ (A ++ (L ++ B)) (a + k) = n % 4294967296 := by
 have e : A ++ (L ++ B) = (A ++ P) ++ (cG n ++ (Q ++ B)) := by rw [hL]; simp only [List.append_assoc]
 rw [e]
 exact aCp (by rw [List.length_append, ha, hP]) n
theorem lF {n : Int} (h : -2147483648 ≤ n ∧ n ≤ 2147483647) : nE (n % 4294967296) = n := by unfold nE; split <;> omega
theorem aLa {A B : List Int} {a : Nat} (ha : A.length = a) {b : Body} (h : InB b) : kT (A ++ (kO b ++ B)) a = b := by
 have e : kO b = cG b.key ++ (cG b.radius ++ (cG b.ax ++ (cG b.ay ++ (cG b.mass ++ (cG b.bounce ++ (cG b.px ++ (cG b.py ++ (cG b.vx ++ (cG b.vy ++ []))))))))) := rfl
 have f (k : Nat) (n : Int) (P Q : List Int) (hL : kO b = P ++ (cG n ++ Q)) (hP : P.length = k) : dZ (A ++ (kO b ++ B)) (a + k) = n % 4294967296 := bBw ha hL hP
 have f0 := f 0 b.key [] _ rfl rfl
 have f1 := f 4 b.radius (cG b.key) _ rfl rfl
 have f2 := f 8 b.ax (cG b.key ++ cG b.radius) _ rfl rfl
 have f3 := f 12 b.ay (cG b.key ++ cG b.radius ++ cG b.ax) _ rfl rfl
 have f4 := f 16 b.mass (cG b.key ++ cG b.radius ++ cG b.ax ++ cG b.ay) _ rfl rfl
 have f5 := f 20 b.bounce (cG b.key ++ cG b.radius ++ cG b.ax ++ cG b.ay ++ cG b.mass) _ rfl rfl
 have f6 := f 24 b.px (cG b.key ++ cG b.radius ++ cG b.ax ++ cG b.ay ++ cG b.mass ++ cG b.bounce) _ rfl rfl
 have f7 := f 28 b.py (cG b.key ++ cG b.radius ++ cG b.ax ++ cG b.ay ++ cG b.mass ++ cG b.bounce ++ cG b.px) _ rfl rfl
 have f8 := f 32 b.vx (cG b.key ++ cG b.radius ++ cG b.ax ++ cG b.ay ++ cG b.mass ++ cG b.bounce ++ cG b.px ++ cG b.py) _ rfl rfl
 have f9 := f 36 b.vy (cG b.key ++ cG b.radius ++ cG b.ax ++ cG b.ay ++ cG b.mass ++ cG b.bounce ++ cG b.px ++ cG b.py ++ cG b.vx) [] rfl rfl
 rw [Nat.add_zero] at f0
 obtain ⟨h0, h1, h2, h3, h4, h5, h6, h7, h8, h9⟩ := h
 unfold kT
 rw [f0, f1, f2, f3, f4, f5, f6, f7, f8, f9, lF (by omega), lF (by omega), lF (by omega), lF (by omega), lF (by omega), lF (by omega), lF (by omega), lF (by omega), lF (by omega), Int.emod_eq_of_lt (by omega) (by omega)]
theorem aKa {v : List Body} {i : Nat} {b : Body} (h : v[i]? = some b) : lO v = (kY ++ cG (v.length : Int) ++ (v.take i).flatMap kO) ++ (kO b ++ (v.drop (i + 1)).flatMap kO) := by
 have hi := List.getElem?_eq_some_iff.1 h
 have e : v.flatMap kO = (v.take i).flatMap kO ++ (kO b ++ (v.drop (i + 1)).flatMap kO) := by
  conv => lhs; rw [← List.take_append_drop i v, List.drop_eq_getElem_cons hi.1, hi.2]
  rw [List.flatMap_append, List.flatMap_cons]
 unfold lO
 rw [e]
 simp only [List.append_assoc]
theorem aGz {v : List Body} {i : Nat} {b : Body} (h : v[i]? = some b) (hb : InB b) : kT (lO v) (8 + 40 * i) = b := by
 rw [aKa h]
 refine aLa ?_ hb
 have hi := (List.getElem?_eq_some_iff.1 h).1
 rw [List.length_append, List.length_append, aHi, List.length_take, lK, Nat.min_eq_left (by omega)]
 rfl
theorem aBu (v : List Body) (h : v.length < 4294967296) : dZ (lO v) 4 = (v.length : Int) := by
 have e : lO v = kY ++ (cG (v.length : Int) ++ v.flatMap kO) := by unfold lO; rw [List.append_assoc]
 rw [e, aCp (A := kY) (a := 4) rfl]
 omega
theorem aTb {v : List Body} (hb : ∀ b ∈ v, InB b) : mK (lO v) v.length = v := by
 refine List.ext_getElem? fun i => ?_
 unfold mK
 rw [List.getElem?_map]
 by_cases hi : i < v.length
 ·have hv := List.getElem?_eq_getElem hi
  rw [List.getElem?_range hi, hv]
  show some (kT (lO v) (8 + 40 * i)) = some v[i]
  rw [aGz hv (hb _ (List.getElem_mem hi))]
 ·rw [List.getElem?_eq_none (by omega : v.length ≤ i), List.getElem?_eq_none (by rw [List.length_range]; omega)]
  rfl
theorem aTd (v : List Body) (h : v.length ≤ 4096) : zF (lO v) := by
 have hl := aGa v
 refine ⟨by omega, rfl, ?_⟩
 rw [aBu v (by omega), hl]
 omega
theorem aUh {v : List Body} (hb : ∀ b ∈ v, InB b) (hl : v.length ≤ 4096) (hc : gQ v = 0) : kI (lO v) = (v, 0) := by
 unfold kI
 rw [if_neg (Decidable.not_not.2 (aTd v hl)), aBu v (by omega), Int.toNat_natCast, aTb hb, if_neg (by omega)]
theorem pO {l : List Int} (hl : iR l) {a : Nat} (h : a + 4 ≤ l.length) : 0 ≤ dZ l a ∧ dZ l a ≤ 4294967295 ∧ cG (dZ l a) = (l.drop a).take 4 := by
 have g (j : Nat) (hj : j < l.length) : l[j]? = some (l.getD j 0) ∧ 0 ≤ l.getD j 0 ∧ l.getD j 0 ≤ 255 := by
  rw [List.getD_eq_getElem?_getD, List.getElem?_eq_getElem hj]
  have hb := hl _ (List.getElem_mem hj)
  exact ⟨rfl, hb.1, hb.2⟩
 obtain ⟨g0, g1, g2⟩ := g a (by omega)
 obtain ⟨g3, g4, g5⟩ := g (a + 1) (by omega)
 obtain ⟨g6, g7, g8⟩ := g (a + 2) (by omega)
 obtain ⟨g9, ga, gb⟩ := g (a + 3) (by omega)
 have e : (l.drop a).take 4 = [l.getD a 0, l.getD (a + 1) 0, l.getD (a + 2) 0, l.getD (a + 3) 0] := by
  have hlen : ((l.drop a).take 4).length = 4 := by rw [List.length_take, List.length_drop]; omega
  refine List.ext_getElem? fun j => ?_
  rcases (show j = 0 ∨ j = 1 ∨ j = 2 ∨ j = 3 ∨ 4 ≤ j by omega) with rfl | rfl | rfl | rfl | hj
  ·rw [List.getElem?_take_of_lt (by omega), List.getElem?_drop]; simpa using g0
  ·rw [List.getElem?_take_of_lt (by omega), List.getElem?_drop]; simpa using g3
  ·rw [List.getElem?_take_of_lt (by omega), List.getElem?_drop]; simpa using g6
  ·rw [List.getElem?_take_of_lt (by omega), List.getElem?_drop]; simpa using g9
  ·rw [List.getElem?_eq_none (by omega), List.getElem?_eq_none (by simpa using hj)]
 rw [e]
 unfold dZ cG
 generalize l.getD a 0 = p at *
 generalize l.getD (a + 1) 0 = q at *
 generalize l.getD (a + 2) 0 = r at *
 generalize l.getD (a + 3) 0 = s at *
 refine ⟨by omega, by omega, ?_⟩
 have h1 : (((p * 256 + q) * 256 + r) * 256 + s) / 16777216 % 256 = p := by omega
 have h2 : (((p * 256 + q) * 256 + r) * 256 + s) / 65536 % 256 = q := by omega
 have h3 : (((p * 256 + q) * 256 + r) * 256 + s) / 256 % 256 = r := by omega
 have h4 : (((p * 256 + q) * 256 + r) * 256 + s) % 256 = s := by omega
 rw [h1, h2, h3, h4]
theorem aJl (l : List Int) (k : Nat) : ∀ n, (List.range n).flatMap (fun i => (l.drop (k * i)).take k) = l.take (k * n)
 | 0 => by simp
 | n + 1 => by
  rw [List.range_succ, List.flatMap_append, aJl l k n, List.flatMap_cons, List.flatMap_nil, List.append_nil, Nat.mul_succ, List.take_add]
theorem lC {n : Int} (h : 0 ≤ n ∧ n ≤ 4294967295) : -2147483648 ≤ nE n ∧ nE n ≤ 2147483647 := by unfold nE; split <;> omega
theorem aQe {l : List Int} (hl : iR l) {a : Nat} (h : a + 40 ≤ l.length) : InB (kT l a) := by
 have f (k : Nat) (hk : k ≤ 36) : 0 ≤ dZ l (a + k) ∧ dZ l (a + k) ≤ 4294967295 := by
  have := pO hl (a := a + k) (by omega)
  exact ⟨this.1, this.2.1⟩
 exact ⟨f 0 (by omega), lC (f 4 (by omega)), lC (f 8 (by omega)), lC (f 12 (by omega)), lC (f 16 (by omega)), lC (f 20 (by omega)), lC (f 24 (by omega)), lC (f 28 (by omega)), lC (f 32 (by omega)), lC (f 36 (by omega))⟩
theorem aZq {l : List Int} (hl : iR l) {a : Nat} (h : a + 40 ≤ l.length) : kO (kT l a) = (l.drop a).take 40 := by
 have f (k : Nat) (hk : k ≤ 36) : cG (dZ l (a + k)) = ((l.drop a).drop k).take 4 := by rw [List.drop_drop]; exact (pO hl (a := a + k) (by omega)).2.2
 have e := aJl (l.drop a) 4 10
 rw [← e]
 unfold kO aUd kT
 simp only [List.flatMap_cons, List.flatMap_nil, aPh]
 have f0 := f 0 (by omega)
 rw [Nat.add_zero] at f0
 rw [f0, f 4 (by omega), f 8 (by omega), f 12 (by omega), f 16 (by omega), f 20 (by omega), f 24 (by omega), f 28 (by omega), f 32 (by omega), f 36 (by omega)]
 rfl
theorem zK (l : List Int) (n : Nat) : (mK l n).length = n := by unfold mK; rw [List.length_map, List.length_range]
theorem aBa {α β : Type} {l : List α} {f g : α → List β} (h : ∀ x ∈ l, f x = g x) : l.flatMap f = l.flatMap g := by
 induction l with
 | nil => rfl
 | cons x l ih => rw [List.flatMap_cons, List.flatMap_cons, h x (by simp), ih fun y hy => h y (by simp [hy])]
theorem aVy {l : List Int} (hl : iR l) {n : Nat} (h : l.length = 8 + 40 * n) : (mK l n).flatMap kO = l.drop 8 := by
 unfold mK
 rw [List.flatMap_map, aBa (g := fun i => ((l.drop 8).drop (40 * i)).take 40) (fun i hi => by
  have := List.mem_range.1 hi
  rw [List.drop_drop]
  exact aZq hl (by omega)), aJl, List.take_of_length_le (by rw [List.length_drop]; omega)]
structure DecOk (l : List Int) (v : List Body) : Prop where
 n : l.length = 8 + 40 * v.length
 e : lO v = l
 inb : ∀ b ∈ v, InB b
 c : gQ v = 0
theorem bAf {l : List Int} (hl : iR l) (h : (kI l).2 = 0) : DecOk l (kI l).1 := by
 unfold kI at h ⊢
 by_cases hf : zF l
 ·rw [if_neg (Decidable.not_not.2 hf)] at h ⊢
  by_cases hc : gQ (mK l (dZ l 4).toNat) = 0
  ·rw [if_neg (by omega)]
   obtain ⟨h8, hm, hn⟩ := hf
   have hr := pO hl (a := 4) (by omega)
   have hlen : l.length = 8 + 40 * (dZ l 4).toNat := by omega
   show DecOk l (mK l (dZ l 4).toNat)
   refine ⟨by rw [zK]; exact hlen, ?_, ?_, hc⟩
   ·unfold lO
    rw [aVy hl hlen, zK, show (((dZ l 4).toNat : Nat) : Int) = dZ l 4 by omega, hr.2.2, ← hm, ← List.take_add, List.take_append_drop]
   ·intro b hb
    unfold mK at hb
    obtain ⟨i, hi, rfl⟩ := List.mem_map.1 hb
    have := List.mem_range.1 hi
    exact aQe hl (by omega)
  ·rw [if_pos hc] at h
   exact absurd h hc
 ·rw [if_pos hf] at h
  cases h
def vV (b : Body) : List Int := [b.key, b.radius % 4294967296, b.ax % 4294967296, b.ay % 4294967296, b.mass % 4294967296, b.bounce % 4294967296, b.px % 4294967296, b.py % 4294967296, b.vx % 4294967296, b.vy % 4294967296]
theorem aOz (b : Body) : (vV b).flatMap cG = kO b := by
 unfold vV kO aUd
 simp only [List.flatMap_cons, List.flatMap_nil, uK]
theorem aRr {b : Body} (h : InB b) : ∀ x ∈ vV b, 0 ≤ x ∧ x ≤ 4294967295 := by
 obtain ⟨h0, _⟩ := h
 intro x hx
 simp only [vV, List.mem_cons, List.not_mem_nil, or_false] at hx
 rcases hx with rfl | rfl | rfl | rfl | rfl | rfl | rfl | rfl | rfl | rfl <;> omega
theorem aQs {L : List Int} {j : Nat} {x : Int} (h : L[j]? = some x) : (L.take (j + 1)).flatMap cG = (L.take j).flatMap cG ++ cG x := by
 rw [cT h, List.flatMap_append, List.flatMap_cons, List.flatMap_nil, List.append_nil]
theorem aQf {v : List Body} {j : Nat} {x : Body} (h : v[j]? = some x) : (v.take (j + 1)).flatMap kO = (v.take j).flatMap kO ++ kO x := by
 rw [cT h, List.flatMap_append, List.flatMap_cons, List.flatMap_nil, List.append_nil]
theorem gW {l : List Int} {a m : Nat} (h : 4 ≤ m) : dZ ((l.drop a).take m) 0 = dZ l a := by
 have g (j : Nat) (hj : j < m) : ((l.drop a).take m).getD j 0 = l.getD (a + j) 0 := by
  rw [List.getD_eq_getElem?_getD, List.getD_eq_getElem?_getD, List.getElem?_take_of_lt hj, List.getElem?_drop]
 unfold dZ
 rw [g 0 (by omega), g (0 + 1) (by omega), g (0 + 2) (by omega), g (0 + 3) (by omega)]
 rfl
theorem aQv (l : List Int) (k : Nat) : mK l (k + 1) = mK l k ++ [kT l (8 + 40 * k)] := by unfold mK; rw [List.range_succ, List.map_append]; rfl
theorem iR.sub {l : List Int} (h : iR l) (a m : Nat) : iR ((l.drop a).take m) := fun x hx => h x (List.mem_of_mem_drop (List.mem_of_mem_take hx))
end Go.Bil
namespace Go.Bil
theorem aEb {l : List Int} (h : ¬ zF l) : kI l = ([], 13) := by unfold kI; rw [if_pos h]
theorem bBv {l : List Int} {N : Nat} (h : zF l) (hN : dZ l 4 = (N : Int)) (hc : gQ (mK l N) ≠ 0) : kI l = ([], gQ (mK l N)) := by
 unfold kI; rw [if_neg (Decidable.not_not.2 h), hN, Int.toNat_natCast, if_pos hc]
theorem aSp {l : List Int} {N : Nat} (h : zF l) (hN : dZ l 4 = (N : Int)) (hc : gQ (mK l N) = 0) : kI l = (mK l N, 0) := by
 unfold kI; rw [if_neg (Decidable.not_not.2 h), hN, Int.toNat_natCast, if_neg (by omega)]
theorem bIg {l : List Int} (hl : iR l) {a : Nat} (h : a + 40 ≤ l.length) : ∀ x ∈ ([dZ l a, dZ l (a + 4), dZ l (a + 8), dZ l (a + 12), dZ l (a + 16), dZ l (a + 20), dZ l (a + 24), dZ l (a + 28), dZ l (a + 32), dZ l (a + 36)] : List Int), 0 ≤ x ∧ x ≤ 4294967295 := by
 have f (k : Nat) (hk : k ≤ 36) : 0 ≤ dZ l (a + k) ∧ dZ l (a + k) ≤ 4294967295 := by
  have := pO hl (a := a + k) (by omega)
  exact ⟨this.1, this.2.1⟩
 intro x hx
 simp only [List.mem_cons, List.not_mem_nil, or_false] at hx
 rcases hx with rfl | rfl | rfl | rfl | rfl | rfl | rfl | rfl | rfl | rfl
 ·exact f 0 (by omega)
 ·exact f 4 (by omega)
 ·exact f 8 (by omega)
 ·exact f 12 (by omega)
 ·exact f 16 (by omega)
 ·exact f 20 (by omega)
 ·exact f 24 (by omega)
 ·exact f 28 (by omega)
 ·exact f 32 (by omega)
 ·exact f 36 (by omega)
theorem wO : kY = ([66, 73, 76, 49] : List UInt8).map (fun y => (y.toNat : Int)) := by decide
end Go.Bil
