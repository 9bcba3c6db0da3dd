/- Part of the proof of the laws of this seat: Md4, Md5, Md7, Md8, MdB, MdC, Mf1. No conditions. -/
import Derived.Test.YtaoaknafiegfoaaGreatDoorK4
import Derived.Test.YtaoaknafiegfoaaGreatDoorK3
set_option linter.unusedVariables false
set_option linter.unusedSimpArgs false
set_option linter.unnecessarySimpa false
namespace Go.Bil
def bV (s : List Body) : Prop := s.Pairwise (fun a b => a.key < b.key)
def nL (k : Int) (s : List Body) : List Body := s.filter (fun x => decide (x.key ≠ k))
def pN (b : Body) : Bool → List Body → List Body
 | true, s => nL b.key s
 | false, [] => [b]
 | false, x :: l => if b.key ≤ x.key then b :: nL b.key (x :: l) else x :: pN b false l
def bEr (b : Body) (r : List Body × Bool) : List Body := if r.2 then r.1 else r.1 ++ [b]
theorem pD (b : Body) : ∀ (s acc : List Body) (d : Bool), bEr b (s.foldl (eB b) (acc, d)) = acc ++ pN b d s
 | [], acc, true => by simp [pN, nL, bEr]
 | [], acc, false => by simp [pN, bEr]
 | x :: l, acc, true => by
  have ih := pD b l (if x.key ≠ b.key then acc ++ [x] else acc) true
  rw [List.foldl_cons]
  have e : eB b (acc, true) x = (if x.key ≠ b.key then acc ++ [x] else acc, true) := by unfold eB; by_cases h : x.key = b.key <;> simp [h]
  rw [e, ih]
  by_cases h : x.key = b.key <;> simp [pN, nL, h]
 | x :: l, acc, false => by
  rw [List.foldl_cons]
  by_cases hb : b.key ≤ x.key
  ·have ih := pD b l (if x.key ≠ b.key then acc ++ [b] ++ [x] else acc ++ [b]) true
   have e : eB b (acc, false) x = (if x.key ≠ b.key then acc ++ [b] ++ [x] else acc ++ [b], true) := by unfold eB; by_cases h : x.key = b.key <;> simp [h, hb]
   rw [e, ih]
   by_cases h : x.key = b.key <;> simp [pN, nL, h, hb]
  ·have hne : x.key ≠ b.key := by omega
   have ih := pD b l (acc ++ [x]) false
   have e : eB b (acc, false) x = (acc ++ [x], false) := by unfold eB; simp [hb, hne]
   rw [e, ih]
   simp [pN, hb]
theorem aFd (s : List Body) (b : Body) (g : Bool) : uB s b g = pN b g s := by
 have := pD b s [] g
 rw [List.nil_append] at this
 exact this
theorem qP (b : Body) : ∀ s : List Body, (pN b false s).Perm (b :: nL b.key s)
 | [] => by simp [pN, nL]
 | x :: l => by
  unfold pN
  split
  ·exact List.Perm.refl _
  ·rename_i h
   have hne : x.key ≠ b.key := by omega
   have e : nL b.key (x :: l) = x :: nL b.key l := by simp [nL, hne]
   rw [e]
   exact ((qP b l).cons x).trans (List.Perm.swap b x _)
theorem zN {k : Int} {s : List Body} {x : Body} : x ∈ nL k s ↔ x ∈ s ∧ x.key ≠ k := by simp [nL]
theorem bV.cut {s : List Body} (h : bV s) (k : Int) : bV (nL k s) := List.Pairwise.sublist List.filter_sublist h
theorem bV.put {b : Body} : ∀ {s : List Body}, bV s → bV (pN b false s)
 | [], _ => by simp [pN, bV]
 | x :: l, h => by
  unfold pN
  have hx : ∀ y ∈ l, x.key < y.key := (List.pairwise_cons.1 h).1
  have hl : bV l := (List.pairwise_cons.1 h).2
  split
  ·rename_i hb
   refine List.pairwise_cons.2 ⟨fun y hy => ?_, h.cut _⟩
   obtain ⟨h1, h2⟩ := zN.1 hy
   rcases List.mem_cons.1 h1 with rfl | h1
   ·omega
   ·have := hx y h1; omega
  ·rename_i hb
   refine List.pairwise_cons.2 ⟨fun y hy => ?_, bV.put hl⟩
   have := (qP b l).mem_iff.1 hy
   rcases List.mem_cons.1 this with rfl | h1
   ·omega
   ·exact hx y (zN.1 h1).1
theorem aVx (s : List Body) (b : Body) (g : Bool) : (uB s b g).length ≤ s.length + 1 := by
 rw [aFd]
 cases g with
 | true => have := List.length_filter_le (fun x : Body => decide (x.key ≠ b.key)) s; simp only [pN, nL]; omega
 | false =>
  rw [(qP b s).length_eq]
  have := List.length_filter_le (fun x : Body => decide (x.key ≠ b.key)) s
  simp only [nL, List.length_cons]; omega
def iX (s : List Body) (b : Body) : List Body × Int :=
 if check b ≠ 0 then (s, check b) else if 0 ≤ cI b.key s then (s, 10) else if 4096 ≤ s.length then (s, 12) else (uB s b false, 0)
def qV (k : Int) : Body := ⟨k, 0, 0, 0, 0, 0, 0, 0, 0, 0⟩
def iR (s : List Body) (k : Int) : List Body × Int := if cI k s < 0 then (s, 11) else (uB s (qV k) true, 0)
def aUu (s : List Body) (b : Body) : List Body × Int :=
 if check b ≠ 0 then (s, check b) else if cI b.key s < 0 then (s, 11) else (uB s b false, 0)
def aBj (l : List Body) : List Body := l.foldl (fun s b => (iX s b).1) []
theorem aVt (s : List Body) (b : Body) : (iX s b).1.length ≤ s.length + 1 := by
 unfold iX
 (repeat' split) <;> first | exact Nat.le_succ _ | exact aVx s b false
theorem aQn {l : List Body} {k : Nat} {x : Body} (h : l[k]? = some x) : aBj (l.take (k + 1)) = (iX (aBj (l.take k)) x).1 := by
 unfold aBj
 rw [cV h, List.foldl_append]
 rfl
theorem aXc (l : List Body) : (aBj l).length ≤ l.length := by
 have key : ∀ (l s : List Body), (l.foldl (fun s b => (iX s b).1) s).length ≤ s.length + l.length := by
  intro l
  induction l with
  | nil => intro s; simp
  | cons b l ih =>
   intro s
   have h1 := ih (iX s b).1
   have h2 := aVt s b
   simp only [List.foldl_cons, List.length_cons]
   omega
 have := key l []
 rw [List.length_nil, Nat.zero_add] at this
 exact this
structure Rel (m s : List Body) : Prop where
 perm : s.Perm m
 sorted : bV s
theorem Rel.nil : Rel [] [] := ⟨List.Perm.refl _, by simp [bV]⟩
theorem bV.unique {s t : List Body} (h : bV s) (h' : bV t) (p : s.Perm t) : s = t :=
 List.Perm.eq_of_pairwise (le := fun (a b : Body) => a.key < b.key) (fun a b _ _ h1 h2 => by omega) h h' p
theorem bV.keys {s : List Body} (h : bV s) : fQ s := by
 unfold fQ List.Nodup
 rw [List.pairwise_map]
 exact h.imp (fun h => by omega)
theorem Rel.keys {m s : List Body} (R : Rel m s) : fQ m := R.sorted.keys.perm R.perm.symm
theorem Rel.find {m s : List Body} (R : Rel m s) (k : Int) : cI k s < 0 ↔ cI k m < 0 := by
 rw [kK, kK]
 exact ⟨fun h b hb => h b (R.perm.mem_iff.2 hb), fun h b hb => h b (R.perm.mem_iff.1 hb)⟩
theorem aCy {k : Int} {s : List Body} (h : cI k s < 0) : nL k s = s := List.filter_eq_self.2 fun x hx => by simpa using kK.1 h x hx
theorem Rel.put {m s : List Body} (R : Rel m s) (b : Body) {m' : List Body} (h : m'.Perm (b :: nL b.key m)) : Rel m' (uB s b false) := by
 rw [aFd]
 exact ⟨((qP b s).trans ((R.perm.filter _).cons b)).trans h.symm, R.sorted.put⟩
theorem Rel.add {m s : List Body} (R : Rel m s) (b : Body) : Rel (jL m b).1 (iX s b).1 ∧ (iX s b).2 = (jL m b).2 := by
 unfold jL iX
 have hf := R.find b.key
 have hl := R.perm.length_eq
 by_cases h1 : check b ≠ 0
 ·rw [if_pos h1, if_pos h1]; exact ⟨R, rfl⟩
 ·rw [if_neg h1, if_neg h1]
  by_cases h2 : 0 ≤ cI b.key m
  ·have h2' : 0 ≤ cI b.key s := by omega
   rw [if_pos h2, if_pos h2']; exact ⟨R, rfl⟩
  ·have h2' : ¬ 0 ≤ cI b.key s := by omega
   rw [if_neg h2, if_neg h2', hl]
   by_cases h3 : 4096 ≤ m.length
   ·rw [if_pos h3, if_pos h3]; exact ⟨R, rfl⟩
   ·rw [if_neg h3, if_neg h3]
    refine ⟨R.put b ?_, rfl⟩
    rw [aCy (by omega)]
    exact List.perm_append_singleton b m
theorem sG {m : List Body} (h : fQ m) {i : Nat} {b : Body} (hi : m[i]? = some b) : m.eraseIdx i = nL b.key m := by
 have e : m = m.take i ++ b :: m.drop (i + 1) := by
  have hlt := (List.getElem?_eq_some_iff.1 hi).1
  have hb : m[i] = b := (List.getElem?_eq_some_iff.1 hi).2
  rw [← hb, ← List.drop_eq_getElem_cons hlt, List.take_append_drop]
 have hne := aDi h hi
 rw [List.eraseIdx_eq_take_drop_succ] at hne ⊢
 conv => rhs; rw [e]
 unfold nL
 rw [List.filter_append, List.filter_cons]
 simp only [ne_eq, not_true_eq_false, decide_false, Bool.false_eq_true, if_false]
 rw [List.filter_eq_self.2 (fun x hx => by simpa using hne x (List.mem_append_left _ hx)), List.filter_eq_self.2 (fun x hx => by simpa using hne x (List.mem_append_right _ hx))]
theorem Rel.remove {m s : List Body} (R : Rel m s) (k : Int) : Rel (jF m k).1 (iR s k).1 ∧ (iR s k).2 = (jF m k).2 := by
 unfold jF iR
 have hf := R.find k
 by_cases h : cI k m < 0
 ·rw [if_pos h, if_pos (hf.2 h)]; exact ⟨R, rfl⟩
 ·rw [if_neg h, if_neg (fun h' => h (hf.1 h'))]
  refine ⟨?_, rfl⟩
  rcases dM k m with ⟨h1, _⟩ | ⟨i, b, h1, h2, h3⟩
  ·omega
  ·rw [h3, Int.toNat_natCast, aFd]
   have hlt := (List.getElem?_eq_some_iff.1 h1).1
   have hk : (qV k).key = b.key := h2.symm
   have he : pN (qV k) true s = nL b.key s := by unfold pN; rw [hk]
   refine ⟨?_, by rw [he]; exact R.sorted.cut _⟩
   show (pN (qV k) true s).Perm _
   rw [he]
   exact (R.perm.filter _).trans ((List.Perm.of_eq (sG R.keys h1).symm).trans (nV hlt).symm)
theorem aXf {m : List Body} {i : Nat} {x : Body} (hi : i < m.length) : (m.set i x).Perm (x :: m.eraseIdx i) := by
 rw [List.set_eq_take_append_cons_drop, if_pos hi, List.eraseIdx_eq_take_drop_succ]
 exact List.perm_middle
theorem Rel.set {m s : List Body} (R : Rel m s) (b : Body) : Rel (sN m b).1 (aUu s b).1 ∧ (aUu s b).2 = (sN m b).2 := by
 unfold sN aUu
 have hf := R.find b.key
 by_cases h1 : check b ≠ 0
 ·rw [if_pos h1, if_pos h1]; exact ⟨R, rfl⟩
 ·rw [if_neg h1, if_neg h1]
  by_cases h : cI b.key m < 0
  ·rw [if_pos h, if_pos (hf.2 h)]; exact ⟨R, rfl⟩
  ·rw [if_neg h, if_neg (fun h' => h (hf.1 h'))]
   refine ⟨?_, rfl⟩
   rcases dM b.key m with ⟨h1, _⟩ | ⟨i, c, h1, h2, h3⟩
   ·omega
   ·rw [h3, Int.toNat_natCast]
    have hlt := (List.getElem?_eq_some_iff.1 h1).1
    refine R.put b ((aXf hlt).trans ?_)
    rw [sG R.keys h1, h2]
theorem Rel.get {m s : List Body} (R : Rel m s) (k : Int) : (cI k s < 0 ∧ zD m k = (qV 0, 11)) ∨ ∃ (i : Nat) (b : Body), cI k s = (i : Int) ∧ s[i]? = some b ∧ zD m k = (b, 0) := by
 rcases dM k s with ⟨h1, h2⟩ | ⟨i, b, h1, h2, h3⟩
 ·have hm : cI k m < 0 := (R.find k).1 (by omega)
  refine .inl ⟨by omega, ?_⟩
  unfold zD
  rw [if_pos hm]
  rfl
 ·refine .inr ⟨i, b, h3, h1, ?_⟩
  have hb : b ∈ m := R.perm.mem_iff.1 (List.mem_of_getElem? h1)
  obtain ⟨j, hj⟩ := List.getElem?_of_mem hb
  have := qH R.keys hj
  rw [h2] at this
  exact uT this hj
theorem tM {a b : Int} : mB a b < 0 ↔ a < b := by unfold mB; (repeat' split) <;> omega
def aLw (b : Body) : List Body → List Body
 | [] => [b]
 | x :: l => if b.key ≤ x.key then b :: x :: l else x :: aLw b l
def lN (m : List Body) : List Body := m.foldr aLw []
theorem vM (b : Body) : ∀ l : List Body, (aLw b l).Perm (b :: l)
 | [] => List.Perm.refl _
 | x :: l => by
  unfold aLw
  split
  ·exact List.Perm.refl _
  ·exact ((vM b l).cons x).trans (List.Perm.swap b x l)
theorem iG : ∀ m : List Body, (lN m).Perm m
 | [] => List.Perm.refl _
 | b :: m => (vM b (lN m)).trans ((iG m).cons b)
def Up (s : List Body) : Prop := s.Pairwise (fun a b => a.key ≤ b.key)
theorem aNg (b : Body) : ∀ {l : List Body}, Up l → Up (aLw b l)
 | [], _ => by simp [aLw, Up]
 | x :: l, h => by
  unfold aLw
  have hx : ∀ y ∈ l, x.key ≤ y.key := (List.pairwise_cons.1 h).1
  split
  ·rename_i hb
   refine List.pairwise_cons.2 ⟨fun y hy => ?_, h⟩
   rcases List.mem_cons.1 hy with rfl | hy
   ·exact hb
   ·have := hx y hy; omega
  ·refine List.pairwise_cons.2 ⟨fun y hy => ?_, aNg b (List.pairwise_cons.1 h).2⟩
   have := (vM b l).mem_iff.1 hy
   rcases List.mem_cons.1 this with rfl | h1
   ·omega
   ·exact hx y h1
theorem aAq : ∀ m : List Body, Up (lN m)
 | [] => by simp [lN, Up]
 | b :: m => aNg b (aAq m)
theorem vN {s : List Body} (h : Up s) (hk : fQ s) : bV s := by
 unfold Up at h
 unfold fQ List.Nodup at hk
 rw [List.pairwise_map] at hk
 exact (List.Pairwise.and h hk).imp (fun ⟨h1, h2⟩ => by omega)
theorem aRz {s t : List Body} (h : Up s) (h' : Up t) (p : s.Perm t) (hk : fQ s) : s = t := (vN h hk).unique (vN h' (hk.perm p.symm)) p
theorem aCx {m : List Body} (hk : fQ m) : Rel m (lN m) := ⟨iG m, vN (aAq m) (hk.perm (iG m))⟩
theorem Rel.eq {m s : List Body} (R : Rel m s) : lN m = s := (aCx R.keys).sorted.unique R.sorted ((iG m).trans R.perm.symm)
theorem aMm (m : List Body) : ∀ y ∈ m.map aF, y.length = 10 := by
 intro y hy
 obtain ⟨b, _, rfl⟩ := List.mem_map.1 hy
 rfl
end Go.Bil
namespace Go.Bil
structure InB (b : Body) : Prop where
 key : 0 ≤ b.key ∧ b.key ≤ 4294967295
 radius : -2147483648 ≤ b.radius ∧ b.radius ≤ 2147483647
 ax : -2147483648 ≤ b.ax ∧ b.ax ≤ 2147483647
 ay : -2147483648 ≤ b.ay ∧ b.ay ≤ 2147483647
 mass : -2147483648 ≤ b.mass ∧ b.mass ≤ 2147483647
 bounce : -2147483648 ≤ b.bounce ∧ b.bounce ≤ 2147483647
 px : -2147483648 ≤ b.px ∧ b.px ≤ 2147483647
 py : -2147483648 ≤ b.py ∧ b.py ≤ 2147483647
 vx : -2147483648 ≤ b.vx ∧ b.vx ≤ 2147483647
 vy : -2147483648 ≤ b.vy ∧ b.vy ≤ 2147483647
theorem bDr (l : List Value) (h : lE [.u32, .i32, .i32, .i32, .i32, .i32, .i32, .i32, .i32, .i32] l) : ∃ b, l = aF b ∧ InB b := by
 obtain ⟨z0, l0, rfl, w0, h0⟩ := gW h
 obtain ⟨z1, l1, rfl, w1, h1⟩ := gW h0
 obtain ⟨z2, l2, rfl, w2, h2⟩ := gW h1
 obtain ⟨z3, l3, rfl, w3, h3⟩ := gW h2
 obtain ⟨z4, l4, rfl, w4, h4⟩ := gW h3
 obtain ⟨z5, l5, rfl, w5, h5⟩ := gW h4
 obtain ⟨z6, l6, rfl, w6, h6⟩ := gW h5
 obtain ⟨z7, l7, rfl, w7, h7⟩ := gW h6
 obtain ⟨z8, l8, rfl, w8, h8⟩ := gW h7
 obtain ⟨z9, l9, rfl, w9, h9⟩ := gW h8
 obtain rfl := aWe h9
 exact ⟨⟨z0, z1, z2, z3, z4, z5, z6, z7, z8, z9⟩, rfl, ⟨w0, w1, w2, w3, w4, w5, w6, w7, w8, w9⟩⟩
end Go.Bil

namespace Go.Bil
structure StV where
 A : Option Addr
 n : Nat
 c : Nat
 p : Option Nat
 er : dK
 em : dK
def rN (l : List Body) : List Body := l.foldl (fun m b => (jL m b).1) []
theorem aAu {l : List Body} {k : Nat} {x : Body} (h : l[k]? = some x) : rN (l.take (k + 1)) = (jL (rN (l.take k)) x).1 := by
 unfold rN
 rw [cV h, List.foldl_append]
 rfl
theorem aPl : ∀ l : List Body, Rel (rN l) (aBj l) := by
 have key : ∀ (l m s : List Body), Rel m s → Rel (l.foldl (fun m b => (jL m b).1) m) (l.foldl (fun s b => (iX s b).1) s) := by
  intro l
  induction l with
  | nil => intro m s h; exact h
  | cons b l ih => intro m s h; exact ih _ _ (h.add b).1
 exact fun l => key l [] [] Rel.nil
def wU (l : List Body) : List Body := l.filter (fun b => decide (check b = 0))
theorem aWf {m : List Body} {x : Body} (hf : ∀ b ∈ m, b.key ≠ x.key) (hl : m.length < 4096) : jL (wU m) x = (wU (m ++ [x]), check x) := by
 have hle : (wU m).length ≤ m.length := List.length_filter_le _ _
 unfold jL
 by_cases h : check x = 0
 ·rw [if_neg (by omega), if_neg (by
   have : cI x.key (wU m) < 0 := kK.2 fun b hb => hf b (List.mem_filter.1 hb).1
   omega), if_neg (by omega), h]
  simp [wU, List.filter_append, h]
 ·rw [if_pos h]
  simp [wU, List.filter_append, h]
theorem aHv {l : List Body} (h : fQ l) {k : Nat} {x : Body} (hx : l[k]? = some x) : ∀ b ∈ l.take k, b.key ≠ x.key := by
 intro b hb e
 obtain ⟨j, hj⟩ := List.getElem?_of_mem hb
 rw [List.getElem?_take] at hj
 split at hj
 ·rename_i hlt
  have := h.inj hj hx e
  omega
 ·cases hj
theorem sC {l : List Body} (h : fQ l) (hl : l.length ≤ 4096) : ∀ k, k ≤ l.length → rN (l.take k) = wU (l.take k)
 | 0, _ => by simp [rN, wU]
 | k + 1, hk => by
  obtain ⟨x, hx⟩ := cM (xs := l) (k := k) rfl (by omega)
  rw [aAu hx, sC h hl k (by omega), aWf (aHv h hx) (by rw [List.length_take]; omega), cV hx]
theorem aHk {m : List Body} (hk : fQ m) (k : Int) : (jF m k).1.Perm (nL k m) := by
 unfold jF
 by_cases h : cI k m < 0
 ·rw [if_pos h, aCy h]
 ·rw [if_neg h]
  rcases dM k m with ⟨h1, _⟩ | ⟨i, b, h1, h2, h3⟩
  ·omega
  ·rw [h3, Int.toNat_natCast]
   have hlt := (List.getElem?_eq_some_iff.1 h1).1
   have := (nV hlt).trans (List.Perm.of_eq (sG hk h1))
   rwa [h2] at this
end Go.Bil
namespace Go.Bil
structure StepI where
 kind : Int
 body : Body
instance : Inhabited StepI := ⟨⟨0, qV 0⟩⟩
end Go.Bil

namespace Go.Bil
def jU : List Body → Int
 | [] => 0
 | b :: l => if check b ≠ 0 then check b else jU l
def gU (xs : List Body) : Int := if 4096 < xs.length then 12 else jU xs
theorem kN : ∀ {xs : List Body}, (∀ (j : Nat) (c : Body), xs[j]? = some c → check c = 0) → jU xs = 0
 | [], _ => rfl
 | b :: l, h => by
  unfold jU
  rw [if_neg (by have := h 0 b (by simp); omega)]
  exact kN fun j c hj => h (j + 1) c (by simpa using hj)
theorem qI : ∀ {xs : List Body} {k : Nat} {b : Body}, xs[k]? = some b → check b ≠ 0 → (∀ (j : Nat) (c : Body), j < k → xs[j]? = some c → check c = 0) → jU xs = check b
 | [], _, _, h, _, _ => by simp at h
 | a :: l, 0, b, h, hb, _ => by
  simp only [List.getElem?_cons_zero, Option.some.injEq] at h
  subst h
  unfold jU
  rw [if_pos hb]
 | a :: l, k + 1, b, h, hb, hn => by
  unfold jU
  rw [if_neg (by have := hn 0 a (by omega) (by simp); omega)]
  exact qI (by simpa using h) hb fun j c hj hc => hn (j + 1) c (by omega) (by simpa using hc)
theorem tR : ∀ {xs : List Body}, jU xs = 0 → ∀ b ∈ xs, check b = 0
 | [], _, b, hb => by simp at hb
 | a :: l, h, b, hb => by
  unfold jU at h
  by_cases ha : check a = 0
  ·rw [if_neg (by omega)] at h
   rcases List.mem_cons.1 hb with rfl | hb
   ·exact ha
   ·exact tR h b hb
  ·rw [if_pos ha] at h; exact absurd h ha
theorem uA {xs : List Body} (h : gU xs = 0) : xs.length ≤ 4096 ∧ ∀ b ∈ xs, check b = 0 := by
 unfold gU at h
 split at h
 ·omega
 ·exact ⟨by omega, tR h⟩
theorem aJc {xs : List Body} (hl : xs.length ≤ 4096) (h : ∀ b ∈ xs, check b = 0) : gU xs = 0 := by
 unfold gU
 rw [if_neg (by omega)]
 exact kN fun j c hj => h c (List.mem_of_getElem? hj)
def aBy : List Body → Bool
 | x :: y :: l => decide (x.key < y.key) && aBy (y :: l)
 | _ => true
theorem vL : ∀ {xs : List Body}, (∀ (i : Nat) (x y : Body), xs[i]? = some x → xs[i + 1]? = some y → x.key < y.key) → aBy xs = true
 | [], _ => rfl
 | [_], _ => rfl
 | x :: y :: l, h => by
  unfold aBy
  rw [Bool.and_eq_true]
  exact ⟨decide_eq_true (h 0 x y (by simp) (by simp)), vL fun i a b ha hb => h (i + 1) a b (by simpa using ha) (by simpa using hb)⟩
theorem qC : ∀ {xs : List Body}, aBy xs = true → bV xs
 | [], _ => by simp [bV]
 | [_], _ => by simp [bV]
 | x :: y :: l, h => by
  unfold aBy at h
  rw [Bool.and_eq_true, decide_eq_true_eq] at h
  have ih := qC h.2
  refine List.pairwise_cons.2 ⟨fun z hz => ?_, ih⟩
  rcases List.mem_cons.1 hz with rfl | hz
  ·exact h.1
  ·have := (List.pairwise_cons.1 ih).1 z hz; have := h.1; omega
theorem aHp {xs : List Body} (h : bV xs) : aBy xs = true := vL fun i x y hx hy => by
 have hi := List.getElem?_eq_some_iff.1 hx
 have hj := List.getElem?_eq_some_iff.1 hy
 have := List.pairwise_iff_getElem.1 h i (i + 1) hi.1 hj.1 (by omega)
 rwa [hi.2, hj.2] at this
theorem aNb {xs : List Body} {i : Nat} {x y : Body} (hx : xs[i]? = some x) (hy : xs[i + 1]? = some y) (h : ¬ x.key < y.key) : aBy xs = false := by
 cases e : aBy xs with
 | false => rfl
 | true =>
  exfalso
  have hi := List.getElem?_eq_some_iff.1 hx
  have hj := List.getElem?_eq_some_iff.1 hy
  have := List.pairwise_iff_getElem.1 (qC e) i (i + 1) hi.1 hj.1 (by omega)
  rw [hi.2, hj.2] at this
  exact h this
def gX (xs : List Body) : Int := if gU xs ≠ 0 then gU xs else if aBy xs = true then 0 else 10
instance (m : List Body) : Decidable (fQ m) := by unfold fQ; infer_instance
def mF (xs : List Body) : List Body × Int := if gU xs ≠ 0 then ([], gU xs) else if fQ xs then (lN xs, 0) else ([], 10)
theorem aHz : ∀ (l m : List Body), ∃ t, List.Sublist t l ∧ l.foldl (fun m b => (jL m b).1) m = m ++ t
 | [], m => ⟨[], by simp, by simp⟩
 | b :: l, m => by
  simp only [List.foldl_cons]
  obtain ⟨t, h1, h2⟩ := aHz l (jL m b).1
  have hb : (jL m b).1 = m ∨ (jL m b).1 = m ++ [b] := by
   unfold jL
   (repeat' split) <;> simp
  rcases hb with hb | hb
  ·exact ⟨t, h1.cons b, by rw [h2, hb]⟩
  ·exact ⟨b :: t, h1.cons_cons b, by rw [h2, hb]; simp⟩
theorem aRp {xs : List Body} (he : gU xs = 0) : (fQ xs → aBj xs = lN xs) ∧ ((aBj xs).length < xs.length ↔ ¬ fQ xs) := by
 obtain ⟨h1, h2⟩ := uA he
 have hrel := aPl xs
 have hlen := hrel.perm.length_eq
 obtain ⟨t, ht1, ht2⟩ := aHz xs []
 have ht : rN xs = t := by simpa [rN] using ht2
 have hkeys : fQ xs → rN xs = xs := fun hk => by
  have := sC hk h1 xs.length (Nat.le_refl _)
  rw [List.take_length] at this
  rw [this]
  exact List.filter_eq_self.2 fun b hb => by simpa using h2 b hb
 refine ⟨fun hk => ?_, ?_, ?_⟩
 ·have := hrel.eq
  rw [hkeys hk] at this
  exact this.symm
 ·intro hl hk
  rw [hlen, hkeys hk] at hl
  omega
 ·intro hk
  rw [hlen, ht]
  rcases Nat.lt_or_ge t.length xs.length with h | h
  ·exact h
  ·exfalso
   have : t = xs := ht1.eq_of_length_le h
   exact hk (by rw [← this, ← ht]; exact hrel.keys)
def wG (key : Int) : List Body → Nat
 | [] => 0
 | b :: l => (if b.key < key then 1 else 0) + wG key l
theorem tL {key : Int} : ∀ {xs : List Body} {k : Nat}, k ≤ xs.length → (∀ (j : Nat) (c : Body), j < k → xs[j]? = some c → c.key < key) → (∀ (j : Nat) (c : Body), k ≤ j → xs[j]? = some c → ¬ c.key < key) → wG key xs = k
 | [], k, hk, _, _ => by simp at hk; simp [wG, hk]
 | b :: l, 0, _, _, h2 => by
  unfold wG
  rw [if_neg (h2 0 b (Nat.le_refl _) (by simp)), tL (k := 0) (by omega) (fun j c hj => by omega) (fun j c _ hc => h2 (j + 1) c (by omega) (by simpa using hc))]
 | b :: l, k + 1, hk, h1, h2 => by
  unfold wG
  rw [if_pos (h1 0 b (by omega) (by simp)), tL (k := k) (by simpa using hk) (fun j c hj hc => h1 (j + 1) c (by omega) (by simpa using hc)) (fun j c hj hc => h2 (j + 1) c (by omega) (by simpa using hc))]
  omega
def fF (k : Int) : List Value := [.int .u32 k]
end Go.Bil
namespace Go.Bil
theorem wL {xs : List Body} (h : bV xs) {p q : Nat} {a b : Body} (hpq : p ≤ q) (ha : xs[p]? = some a) (hb : xs[q]? = some b) : a.key ≤ b.key := by
 by_cases e : p = q
 ·subst e
  rw [ha] at hb
  injection hb with hb
  rw [hb]; exact Int.le_refl _
 ·have hi := List.getElem?_eq_some_iff.1 ha
  have hj := List.getElem?_eq_some_iff.1 hb
  have := List.pairwise_iff_getElem.1 h p q hi.1 hj.1 (by omega)
  rw [hi.2, hj.2] at this
  omega
theorem bKy (i j : Nat) : ((i : Int) + (j : Int)).fdiv (2 ^ (min (1 : Int).toNat IntKind.u64.bits)) = (((i + j) / 2 : Nat) : Int) := by
 have e : (2 : Int) ^ (min (1 : Int).toNat IntKind.u64.bits) = 2 := by decide
 rw [e, Int.fdiv_eq_ediv_of_nonneg _ (by omega)]
 omega
theorem xE {a b a' b' : Value} (h1 : a = a') (h2 : b = b') : Value.tuple #[a, b] = Value.tuple #[a', b'] := by rw [h1, h2]
theorem aQw {a b : Int} : mB a b = 0 ↔ a = b := by unfold mB; (repeat' split) <;> omega
theorem aPj {key : Int} {xs : List Body} (hs : bV xs) {i : Nat} {b : Body} (hb : xs[i]? = some b) (h1 : ∀ (j : Nat) (c : Body), j < i → xs[j]? = some c → c.key < key) (h2 : ∀ (j : Nat) (c : Body), i ≤ j → xs[j]? = some c → ¬ c.key < key) : mB b.key key = 0 ↔ 0 ≤ cI key xs := by
 rw [aQw]
 constructor
 ·intro e
  rcases dM key xs with ⟨_, h⟩ | ⟨_, _, _, _, h⟩
  ·exact absurd e (h b (List.mem_of_getElem? hb))
  ·omega
 ·intro h
  rcases dM key xs with ⟨h', _⟩ | ⟨j, c, hc, hk, _⟩
  ·omega
  ·have hij : i ≤ j := by
    rcases Nat.lt_or_ge j i with hlt | hge
    ·have := h1 j c hlt hc; omega
    ·exact hge
   have := wL hs hij hb hc
   have := h2 i b (Nat.le_refl _) hb
   omega
theorem aNa {key : Int} {xs : List Body} (h1 : ∀ (j : Nat) (c : Body), j < xs.length → xs[j]? = some c → c.key < key) : ¬ 0 ≤ cI key xs := by
 intro h
 rcases dM key xs with ⟨h', _⟩ | ⟨j, c, hc, hk, _⟩
 ·omega
 ·have := h1 j c (List.getElem?_eq_some_iff.1 hc).1 hc
  omega
end Go.Bil
namespace Go.Bil
end Go.Bil
namespace Go.Bil
end Go.Bil
namespace Go.Bil
theorem aMn (k : Int) : ∀ y ∈ [fF k], y.length = 1 ∧ ∀ u ∈ y, one u = true := by
 intro y hy
 simp only [List.mem_singleton] at hy
 subst hy
 exact ⟨rfl, aQ rfl⟩
end Go.Bil
namespace Go.Bil
structure Mg (xs ys : List Body) (i k : Nat) : Prop where
 sx : bV xs
 sy : bV ys
 yx : ∀ (p : Nat) (a b : Body), p < k → ys[p]? = some a → xs[i]? = some b → a.key < b.key
 xy : ∀ (p : Nat) (a b : Body), p < i → xs[p]? = some a → ys[k]? = some b → a.key < b.key
theorem Mg.swap {xs ys : List Body} {i k : Nat} (h : Mg xs ys i k) : Mg ys xs k i := ⟨h.sy, h.sx, h.xy, h.yx⟩
theorem dY {xs : List Body} (h : bV xs) {p q : Nat} {a b : Body} (hpq : p < q) (ha : xs[p]? = some a) (hb : xs[q]? = some b) : a.key < b.key := by
 have hi := List.getElem?_eq_some_iff.1 ha
 have hj := List.getElem?_eq_some_iff.1 hb
 have := List.pairwise_iff_getElem.1 h p q hi.1 hj.1 hpq
 rwa [hi.2, hj.2] at this
theorem Mg.x {xs ys : List Body} {i k : Nat} {a : Body} (h : Mg xs ys i k) (ha : xs[i]? = some a) (hb : ∀ b, ys[k]? = some b → a.key < b.key) : Mg xs ys (i + 1) k ∧ cI a.key ys < 0 := by
 refine ⟨⟨h.sx, h.sy, fun p y x hp hy hx => ?_, fun p x y hp hx hy => ?_⟩, kK.2 fun y hy => ?_⟩
 ·have := h.yx p y a hp hy ha
  have := dY h.sx (Nat.lt_succ_self i) ha hx
  omega
 ·by_cases e : p = i
  ·subst e
   rw [ha] at hx
   injection hx with hx
   subst hx
   exact hb y hy
  ·exact h.xy p x y (by omega) hx hy
 ·obtain ⟨q, hq⟩ := List.getElem?_of_mem hy
  rcases Nat.lt_or_ge q k with hlt | hge
  ·have := h.yx q y a hlt hq ha; omega
  ·obtain ⟨b, hbk⟩ := cM (xs := ys) (k := k) rfl (by have := (List.getElem?_eq_some_iff.1 hq).1; omega)
   have h1 := hb b hbk
   have h2 := wL h.sy hge hbk hq
   omega
theorem Mg.y {xs ys : List Body} {i k : Nat} {b : Body} (h : Mg xs ys i k) (hb : ys[k]? = some b) (ha : ∀ a, xs[i]? = some a → b.key < a.key) : Mg xs ys i (k + 1) ∧ cI b.key xs < 0 := by
 obtain ⟨h1, h2⟩ := h.swap.x hb ha
 exact ⟨h1.swap, h2⟩
theorem Mg.both {xs ys : List Body} {i k : Nat} {a b : Body} (h : Mg xs ys i k) (ha : xs[i]? = some a) (hb : ys[k]? = some b) (hk : a.key = b.key) : Mg xs ys (i + 1) (k + 1) ∧ cI a.key ys = (k : Int) ∧ cI b.key xs = (i : Int) := by
 refine ⟨⟨h.sx, h.sy, fun p y x hp hy hx => ?_, fun p x y hp hx hy => ?_⟩, ?_, ?_⟩
 ·have h1 := dY h.sx (Nat.lt_succ_self i) ha hx
  have h2 := wL h.sy (show p ≤ k by omega) hy hb
  omega
 ·have h1 := dY h.sy (Nat.lt_succ_self k) hb hy
  have h2 := wL h.sx (show p ≤ i by omega) hx ha
  omega
 ·exact tY hb hk.symm fun j c hj hc => by have := dY h.sy hj hc hb; omega
 ·exact tY ha hk fun j c hj hc => by have := dY h.sx hj hc ha; omega
end Go.Bil
namespace Go.Bil
end Go.Bil
namespace Go.Bil
end Go.Bil
namespace Go.Bil
end Go.Bil
namespace Go.Bil
theorem aXl {xs : List Body} (h : (mF xs).2 = 0) : fQ xs ∧ gU xs = 0 ∧ (mF xs).1 = lN xs := by
 unfold mF at *
 by_cases h1 : gU xs = 0
 ·rw [if_neg (by omega)] at h ⊢
  by_cases h2 : fQ xs
  ·rw [if_pos h2]; exact ⟨h2, h1, rfl⟩
  ·rw [if_neg h2] at h; simp at h
 ·rw [if_pos h1] at h; exact absurd h h1
theorem aVr {xs : List Body} (hk : fQ xs) : bV (lN xs) := (aCx hk).sorted
end Go.Bil
namespace Go.Bil
end Go.Bil
namespace Go.Bil
end Go.Bil

namespace Go.Bil
theorem aQd {v : List Body} (he : gU v = 0) (hs : bV v) : gX v = 0 := by
 unfold gX
 rw [if_neg (by omega), if_pos (aHp hs)]
theorem aQf {xs : List Body} (he : gU xs = 0) : gU (lN xs) = 0 := by
 obtain ⟨h1, h2⟩ := uA he
 exact aJc (by rw [(iG xs).length_eq]; exact h1) fun b hb => h2 b ((iG xs).mem_iff.1 hb)
theorem aSh (xs : List Body) : (mF xs).1.length ≤ xs.length := by
 unfold mF
 split
 ·simp
 ·split
  ·simpa using Nat.le_of_eq (iG xs).length_eq
  ·simp
end Go.Bil

namespace Go.Bil
structure Bx where
 x0 : Int
 y0 : Int
 x1 : Int
 y1 : Int
 deriving DecidableEq, Inhabited
def cX (a : Bx) : List Value := [.int .i32 a.x0, .int .i32 a.y0, .int .i32 a.x1, .int .i32 a.y1]
def aRi (b : Body) : Int := max b.ax (-b.ax) + b.radius
def aQi (b : Body) : Int := max b.ay (-b.ay) + b.radius
def iU (b : Body) : Bx := ⟨b.px - aRi b, b.py - aQi b, b.px + aRi b, b.py + aQi b⟩
abbrev hJ (a : Bx) : Prop := a.x1 < a.x0 ∨ a.y1 < a.y0
def gL : Bx := ⟨1, 0, 0, 0⟩
def aCn (a b : Bx) : Bx := if hJ ⟨max a.x0 b.x0, max a.y0 b.y0, min a.x1 b.x1, min a.y1 b.y1⟩ then gL else ⟨max a.x0 b.x0, max a.y0 b.y0, min a.x1 b.x1, min a.y1 b.y1⟩
abbrev ovl (a b : Bx) : Prop := (a.x0 ≤ a.x1 ∧ a.y0 ≤ a.y1) ∧ (b.x0 ≤ b.x1 ∧ b.y0 ≤ b.y1) ∧ (a.x0 ≤ b.x1 ∧ b.x0 ≤ a.x1 ∧ a.y0 ≤ b.y1 ∧ b.y0 ≤ a.y1)
theorem aXx (a b : Bx) : ¬ hJ (aCn a b) ↔ ovl a b := by
 unfold aCn
 split
 ·rename_i h
  unfold hJ at h
  simp only [hJ, gL, ovl]
  simp only at h
  omega
 ·rename_i h
  unfold hJ at h
  simp only [hJ, ovl]
  simp only at h
  omega
structure Okb (b : Body) : Prop where
 r : 4096 ≤ b.radius ∧ b.radius ≤ 4194304
 a : -4194304 ≤ b.ax ∧ b.ax ≤ 4194304 ∧ -4194304 ≤ b.ay ∧ b.ay ≤ 4194304
 m : 0 ≤ b.mass ∧ b.mass ≤ 1048576
 c : 0 ≤ b.bounce ∧ b.bounce ≤ 65536
 p : -1073741824 ≤ b.px ∧ b.px ≤ 1073741824 ∧ -1073741824 ≤ b.py ∧ b.py ≤ 1073741824
 v : -16777216 ≤ b.vx ∧ b.vx ≤ 16777216 ∧ -16777216 ≤ b.vy ∧ b.vy ≤ 16777216
theorem aGf {b : Body} (h : check b = 0) : Okb b := by
 by_cases h1 : 4096 ≤ b.radius ∧ b.radius ≤ 4194304
 ·by_cases h2 : -4194304 ≤ b.ax ∧ b.ax ≤ 4194304 ∧ -4194304 ≤ b.ay ∧ b.ay ≤ 4194304
  ·by_cases h3 : 0 ≤ b.mass ∧ b.mass ≤ 1048576
   ·by_cases h4 : 0 ≤ b.bounce ∧ b.bounce ≤ 65536
    ·by_cases h5 : -1073741824 ≤ b.px ∧ b.px ≤ 1073741824 ∧ -1073741824 ≤ b.py ∧ b.py ≤ 1073741824
     ·by_cases h6 : -16777216 ≤ b.vx ∧ b.vx ≤ 16777216 ∧ -16777216 ≤ b.vy ∧ b.vy ≤ 16777216
      ·exact ⟨h1, h2, h3, h4, h5, h6⟩
      ·rw [aNm b h1 h2 h3 h4 h5 h6] at h; omega
     ·rw [aOa b h1 h2 h3 h4 h5] at h; omega
    ·rw [aNy b h1 h2 h3 h4] at h; omega
   ·rw [aNt b h1 h2 h3] at h; omega
  ·rw [aOd b h1 h2] at h; omega
 ·rw [aOt b h1] at h; omega
theorem aXr {b : Body} (h : Okb b) : 4096 ≤ aRi b ∧ aRi b ≤ 8388608 ∧ 4096 ≤ aQi b ∧ aQi b ≤ 8388608 := by
 have := h.r
 have := h.a
 unfold aRi aQi
 omega
structure Okx (a : Bx) : Prop where
 x0 : -2147483648 ≤ a.x0 ∧ a.x0 ≤ 2147483647
 y0 : -2147483648 ≤ a.y0 ∧ a.y0 ≤ 2147483647
 x1 : -2147483648 ≤ a.x1 ∧ a.x1 ≤ 2147483647
 y1 : -2147483648 ≤ a.y1 ∧ a.y1 ≤ 2147483647
theorem bGc {b : Body} (h : Okb b) : Okx (iU b) := by
 have h1 := aXr h
 have h2 := h.p
 constructor <;> simp only [iU] <;> omega
end Go.Bil

namespace Go.Bil
def cK (c : Int × Int) : List Value := [.int .i32 c.1, .int .i32 c.2]
def mO (x : Int) : Int := x.fdiv 4194304
theorem bCs (x : Int) : x.fdiv (2 ^ (min (22 : Int).toNat IntKind.i32.bits)) = mO x := rfl
theorem aFm (x : Int) : mO x = x / 4194304 := by unfold mO; exact Int.fdiv_eq_ediv_of_nonneg x (by decide)
theorem oV {x : Int} (h0 : -2147483648 ≤ x) (h1 : x ≤ 2147483647) : -512 ≤ mO x ∧ mO x ≤ 511 := by rw [aFm]; omega
theorem jS {x y : Int} (h : x ≤ y) : mO x ≤ mO y := by rw [aFm, aFm]; omega
def loC (a : Bx) : Int × Int := if hJ a then (0, 0) else (mO a.x0, mO a.y0)
def hiC (a : Bx) : Int × Int := if hJ a then (0, 0) else (mO a.x1, mO a.y1)
def nX (lo hi : Int × Int) : Nat := (hi.1 - lo.1 + 1).toNat
def nY (lo hi : Int × Int) : Nat := (hi.2 - lo.2 + 1).toNat
def aAf (lo : Int × Int) (i j : Nat) : List (Int × Int) := (List.range i).map (fun (p : Nat) => (lo.1 + (p : Int), lo.2 + (j : Int)))
def nH (lo hi : Int × Int) (j : Nat) : List (Int × Int) := (List.range j).flatMap (fun q => aAf lo (nX lo hi) q)
def vB (ok : Bool) (lo hi : Int × Int) : List (Int × Int) := if ok then nH lo hi (nY lo hi) else []
def gI (a : Bx) : List (Int × Int) := vB (decide (¬ hJ a)) (loC a) (hiC a)
theorem aGv (lo : Int × Int) (i j : Nat) : (aAf lo i j).length = i := by simp [aAf]
theorem aPo (lo : Int × Int) (i j : Nat) : aAf lo (i + 1) j = aAf lo i j ++ [(lo.1 + (i : Int), lo.2 + (j : Int))] := by simp [aAf, List.range_succ]
theorem zE (lo hi : Int × Int) (j : Nat) : nH lo hi (j + 1) = nH lo hi j ++ aAf lo (nX lo hi) j := by simp [nH, List.range_succ]
theorem vR (lo hi : Int × Int) : ∀ j, (nH lo hi j).length = j * nX lo hi
 | 0 => by simp [nH]
 | j + 1 => by rw [zE, List.length_append, vR lo hi j, aGv, Nat.add_mul, Nat.one_mul]
theorem aVv {lo hi : Int × Int} {i j : Nat} (hx : nX lo hi ≤ 1024) (hj : j < 1024) (hi' : i < nX lo hi) : (nH lo hi j).length + i < 1048576 := by
 rw [vR]
 have : j * nX lo hi ≤ 1023 * 1024 := Nat.mul_le_mul (by omega) hx
 omega
theorem aTt {lo hi : Int × Int} {j : Nat} (hx : nX lo hi ≤ 1024) (hj : j ≤ 1024) : (nH lo hi j).length ≤ 1048576 := by
 rw [vR]
 exact Nat.mul_le_mul hj hx
theorem aPe {lo hi : Int × Int} {n : Nat} {c : Int × Int} : c ∈ nH lo hi n ↔ ∃ q p : Nat, q < n ∧ p < nX lo hi ∧ c = (lo.1 + (p : Int), lo.2 + (q : Int)) := by
 simp only [nH, aAf, List.mem_flatMap, List.mem_range, List.mem_map]
 constructor
 ·rintro ⟨q, hq, p, hp, rfl⟩; exact ⟨q, p, hq, hp, rfl⟩
 ·rintro ⟨q, p, hq, hp, rfl⟩; exact ⟨q, hq, p, hp, rfl⟩
theorem yG {a : Bx} {c : Int × Int} : c ∈ gI a ↔ ¬ hJ a ∧ mO a.x0 ≤ c.1 ∧ c.1 ≤ mO a.x1 ∧ mO a.y0 ≤ c.2 ∧ c.2 ≤ mO a.y1 := by
 unfold gI vB
 by_cases h : hJ a
 ·simp [h]
 ·rw [if_pos (by simpa using h), aPe]
  simp only [loC, hiC, if_neg h, nX, nY]
  constructor
  ·rintro ⟨q, p, hq, hp, rfl⟩
   refine ⟨h, ?_⟩
   simp only
   omega
  ·rintro ⟨_, h1, h2, h3, h4⟩
   refine ⟨(c.2 - mO a.y0).toNat, (c.1 - mO a.x0).toNat, by omega, by omega, ?_⟩
   apply Prod.ext <;> simp only <;> omega
structure Okc (c : Int × Int) : Prop where
 x : -512 ≤ c.1 ∧ c.1 ≤ 511
 y : -512 ≤ c.2 ∧ c.2 ≤ 511
theorem aKx {a : Bx} (h : Okx a) : Okc (loC a) := by
 unfold loC
 split
 ·exact ⟨by decide, by decide⟩
 ·exact ⟨oV h.x0.1 h.x0.2, oV h.y0.1 h.y0.2⟩
theorem aMh {a : Bx} (h : Okx a) : Okc (hiC a) := by
 unfold hiC
 split
 ·exact ⟨by decide, by decide⟩
 ·exact ⟨oV h.x1.1 h.x1.2, oV h.y1.1 h.y1.2⟩
theorem bCo {lo hi : Int × Int} (h1 : Okc lo) (h2 : Okc hi) : nX lo hi ≤ 1024 := by
 have := h1.x; have := h2.x
 unfold nX
 omega
theorem bCm {lo hi : Int × Int} (h1 : Okc lo) (h2 : Okc hi) : nY lo hi ≤ 1024 := by
 have := h1.y; have := h2.y
 unfold nY
 omega
theorem aMi {a : Bx} (h : Okx a) : (gI a).length ≤ 1048576 := by
 unfold gI vB
 split
 ·exact aTt (bCo (aKx h) (aMh h)) (bCm (aKx h) (aMh h))
 ·simp
theorem aYk {a b : Bx} (h : ovl a b) : ∃ c, c ∈ gI a ∧ c ∈ gI b := by
 obtain ⟨⟨h1, h2⟩, ⟨h3, h4⟩, h5, h6, h7, h8⟩ := h
 refine ⟨(mO (max a.x0 b.x0), mO (max a.y0 b.y0)), yG.2 ⟨by unfold hJ; omega, ?_⟩, yG.2 ⟨by unfold hJ; omega, ?_⟩⟩
 ·exact ⟨jS (by omega), jS (by omega), jS (by omega), jS (by omega)⟩
 ·exact ⟨jS (by omega), jS (by omega), jS (by omega), jS (by omega)⟩
def qX (c : Int × Int) : Int :=
 IntKind.u32.wrap ((BitVec.ofInt 32 (IntKind.u32.wrap ((BitVec.ofInt 32 (IntKind.u32.wrap (IntKind.u32.wrap c.1 * 73856093)) ^^^ BitVec.ofInt 32 (IntKind.u32.wrap (IntKind.u32.wrap c.2 * 19349663))).toNat)) &&& BitVec.ofInt 32 1023).toNat)
def dP (c : Int × Int) : Nat := (qX c).toNat
theorem kQ (c : Int × Int) : 0 ≤ qX c ∧ qX c < 1024 := by
 unfold qX
 generalize BitVec.ofInt 32 (IntKind.u32.wrap _) = a
 have h : (a &&& BitVec.ofInt 32 1023).toNat ≤ 1023 := by
  rw [BitVec.toNat_and]
  exact Nat.le_trans Nat.and_le_right (by decide)
 rw [aCo _ (by omega) (by omega)]
 omega
theorem jO (c : Int × Int) : dP c < 1024 := by have := kQ c; unfold dP; omega
theorem aPc (c : Int × Int) : qX c = (dP c : Int) := by have := kQ c; unfold dP; omega
end Go.Bil

namespace Go.Bil
def cG (n : Int) : List Int := [n / 16777216 % 256, n / 65536 % 256, n / 256 % 256, n % 256]
def aTe (b : Body) : List Int := [b.key, b.radius, b.ax, b.ay, b.mass, b.bounce, b.px, b.py, b.vx, b.vy]
def kY (b : Body) : List Int := (aTe b).flatMap cG
def lG : List Int := [66, 73, 76, 49]
def mS (v : List Body) : List Int := lG ++ cG (v.length : Int) ++ v.flatMap kY
def eD (l : List Int) (a : Nat) : Int := ((l.getD a 0 * 256 + l.getD (a + 1) 0) * 256 + l.getD (a + 2) 0) * 256 + l.getD (a + 3) 0
def nQ (n : Int) : Int := if 2147483648 ≤ n then n - 4294967296 else n
def lB (l : List Int) (a : Nat) : Body := ⟨eD l a, nQ (eD l (a + 4)), nQ (eD l (a + 8)), nQ (eD l (a + 12)), nQ (eD l (a + 16)), nQ (eD l (a + 20)), nQ (eD l (a + 24)), nQ (eD l (a + 28)), nQ (eD l (a + 32)), nQ (eD l (a + 36))⟩
abbrev aAn (l : List Int) : Prop := 8 ≤ l.length ∧ l.take 4 = lG ∧ (l.length : Int) = 8 + 40 * eD l 4
def mX (l : List Int) (n : Nat) : List Body := (List.range n).map (fun i => lB l (8 + 40 * i))
def kS (l : List Int) : List Body × Int := if ¬ aAn l then ([], 13) else if gX (mX l (eD l 4).toNat) ≠ 0 then ([], gX (mX l (eD l 4).toNat)) else (mX l (eD l 4).toNat, 0)
abbrev iW (l : List Int) : Prop := ∀ x ∈ l, 0 ≤ x ∧ x ≤ 255
theorem lU (n : Int) : (cG n).length = 4 := rfl
theorem aXt (b : Body) : (kY b).length = 40 := rfl
theorem aGs (v : List Body) : (v.flatMap kY).length = 40 * v.length := by
 induction v with
 | nil => rfl
 | cons b v ih => rw [List.flatMap_cons, List.length_append, ih, aXt, List.length_cons]; omega
theorem aId (v : List Body) : (mS v).length = 8 + 40 * v.length := by
 unfold mS
 rw [List.length_append, List.length_append, aGs, lU]
 rfl
theorem aAt (n : Int) : iW (cG n) := fun x hx => by
 simp only [cG, List.mem_cons, List.not_mem_nil, or_false] at hx
 rcases hx with rfl | rfl | rfl | rfl <;> omega
theorem aPp (b : Body) : iW (kY b) := fun x hx => by
 obtain ⟨n, _, h⟩ := List.mem_flatMap.1 hx
 exact aAt n x h
theorem aSd (v : List Body) : iW (mS v) := fun x hx => by
 unfold mS at hx
 rcases List.mem_append.1 hx with h | h
 ·rcases List.mem_append.1 h with h | h
  ·simp only [lG, List.mem_cons, List.not_mem_nil, or_false] at h
   rcases h with rfl | rfl | rfl | rfl <;> omega
  ·exact aAt _ x h
 ·obtain ⟨b, _, h⟩ := List.mem_flatMap.1 h
  exact aPp b x h
theorem uP (n : Int) : cG (n % 4294967296) = cG n := by
 unfold cG
 have h1 : n % 4294967296 / 16777216 % 256 = n / 16777216 % 256 := by omega
 have h2 : n % 4294967296 / 65536 % 256 = n / 65536 % 256 := by omega
 have h3 : n % 4294967296 / 256 % 256 = n / 256 % 256 := by omega
 have h4 : n % 4294967296 % 256 = n % 256 := by omega
 rw [h1, h2, h3, h4]
theorem aPu (n : Int) : cG (nQ n) = cG n := by
 unfold nQ
 split
 ·rw [← uP (n - 4294967296), ← uP n]
  congr 1
  omega
 ·rfl
theorem sZ {A L B : List Int} {a : Nat} (ha : A.length = a) {j : Nat} (hj : j < L.length) : (A ++ (L ++ B)).getD (a + j) 0 = L.getD j 0 := by
 subst ha
 rw [List.getD_eq_getElem?_getD, List.getD_eq_getElem?_getD, List.getElem?_append_right (by omega), List.getElem?_append_left (by omega)]
 congr 2
 omega
theorem aCw {A B : List Int} {a : Nat} (ha : A.length = a) (n : Int) : eD (A ++ (cG n ++ B)) a = n % 4294967296 := by
 have h0 : (A ++ (cG n ++ B)).getD a 0 = n / 16777216 % 256 := sZ (j := 0) ha (by rw [lU]; omega)
 have h1 : (A ++ (cG n ++ B)).getD (a + 1) 0 = n / 65536 % 256 := sZ (j := 1) ha (by rw [lU]; omega)
 have h2 : (A ++ (cG n ++ B)).getD (a + 2) 0 = n / 256 % 256 := sZ (j := 2) ha (by rw [lU]; omega)
 have h3 : (A ++ (cG n ++ B)).getD (a + 3) 0 = n % 256 := sZ (j := 3) ha (by rw [lU]; omega)
 unfold eD
 rw [h0, h1, h2, h3]
 omega
theorem bCf {A B L : List Int} {a k : Nat} {n : Int} (ha : A.length = a) {P Q : List Int} (hL : L = P ++ (cG n ++ Q)) (hP : P.length = k) : eD (A ++ (L ++ B)) (a + k) = n % 4294967296 := by
 have e : A ++ (L ++ B) = (A ++ P) ++ (cG n ++ (Q ++ B)) := by rw [hL]; simp only [List.append_assoc]
 rw [e]
 exact aCw (by rw [List.length_append, ha, hP]) n
theorem lR {n : Int} (h : -2147483648 ≤ n ∧ n ≤ 2147483647) : nQ (n % 4294967296) = n := by unfold nQ; split <;> omega
theorem aJw {A B : List Int} {a : Nat} (ha : A.length = a) {b : Body} (h : InB b) : lB (A ++ (kY b ++ B)) a = b := by
 have e : kY b = cG b.key ++ (cG b.radius ++ (cG b.ax ++ (cG b.ay ++ (cG b.mass ++ (cG b.bounce ++ (cG b.px ++ (cG b.py ++ (cG b.vx ++ (cG b.vy ++ []))))))))) := rfl
 have f (k : Nat) (n : Int) (P Q : List Int) (hL : kY b = P ++ (cG n ++ Q)) (hP : P.length = k) : eD (A ++ (kY b ++ B)) (a + k) = n % 4294967296 := bCf ha hL hP
 have f0 := f 0 b.key [] _ rfl rfl
 have f1 := f 4 b.radius (cG b.key) _ rfl rfl
 have f2 := f 8 b.ax (cG b.key ++ cG b.radius) _ rfl rfl
 have f3 := f 12 b.ay (cG b.key ++ cG b.radius ++ cG b.ax) _ rfl rfl
 have f4 := f 16 b.mass (cG b.key ++ cG b.radius ++ cG b.ax ++ cG b.ay) _ rfl rfl
 have f5 := f 20 b.bounce (cG b.key ++ cG b.radius ++ cG b.ax ++ cG b.ay ++ cG b.mass) _ rfl rfl
 have f6 := f 24 b.px (cG b.key ++ cG b.radius ++ cG b.ax ++ cG b.ay ++ cG b.mass ++ cG b.bounce) _ rfl rfl
 have f7 := f 28 b.py (cG b.key ++ cG b.radius ++ cG b.ax ++ cG b.ay ++ cG b.mass ++ cG b.bounce ++ cG b.px) _ rfl rfl
 have f8 := f 32 b.vx (cG b.key ++ cG b.radius ++ cG b.ax ++ cG b.ay ++ cG b.mass ++ cG b.bounce ++ cG b.px ++ cG b.py) _ rfl rfl
 have f9 := f 36 b.vy (cG b.key ++ cG b.radius ++ cG b.ax ++ cG b.ay ++ cG b.mass ++ cG b.bounce ++ cG b.px ++ cG b.py ++ cG b.vx) [] rfl rfl
 rw [Nat.add_zero] at f0
 obtain ⟨h0, h1, h2, h3, h4, h5, h6, h7, h8, h9⟩ := h
 unfold lB
 rw [f0, f1, f2, f3, f4, f5, f6, f7, f8, f9, lR (by omega), lR (by omega), lR (by omega), lR (by omega), lR (by omega), lR (by omega), lR (by omega), lR (by omega), lR (by omega), Int.emod_eq_of_lt (by omega) (by omega)]
theorem aLg {v : List Body} {i : Nat} {b : Body} (h : v[i]? = some b) : mS v = (lG ++ cG (v.length : Int) ++ (v.take i).flatMap kY) ++ (kY b ++ (v.drop (i + 1)).flatMap kY) := by
 have hi := List.getElem?_eq_some_iff.1 h
 have e : v.flatMap kY = (v.take i).flatMap kY ++ (kY b ++ (v.drop (i + 1)).flatMap kY) := by
  conv => lhs; rw [← List.take_append_drop i v, List.drop_eq_getElem_cons hi.1, hi.2]
  rw [List.flatMap_append, List.flatMap_cons]
 unfold mS
 rw [e]
 simp only [List.append_assoc]
theorem aJm {v : List Body} {i : Nat} {b : Body} (h : v[i]? = some b) (hb : InB b) : lB (mS v) (8 + 40 * i) = b := by
 rw [aLg h]
 refine aJw ?_ hb
 have hi := (List.getElem?_eq_some_iff.1 h).1
 rw [List.length_append, List.length_append, aGs, List.length_take, lU, Nat.min_eq_left (by omega)]
 rfl
theorem aCl (v : List Body) (h : v.length < 4294967296) : eD (mS v) 4 = (v.length : Int) := by
 have e : mS v = lG ++ (cG (v.length : Int) ++ v.flatMap kY) := by unfold mS; rw [List.append_assoc]
 rw [e, aCw (A := lG) (a := 4) rfl]
 omega
theorem aUn {v : List Body} (hb : ∀ b ∈ v, InB b) : mX (mS v) v.length = v := by
 refine List.ext_getElem? fun i => ?_
 unfold mX
 rw [List.getElem?_map]
 by_cases hi : i < v.length
 ·have hv := List.getElem?_eq_getElem hi
  rw [List.getElem?_range hi, hv]
  show some (lB (mS v) (8 + 40 * i)) = some v[i]
  rw [aJm hv (hb _ (List.getElem_mem hi))]
 ·rw [List.getElem?_eq_none (by omega : v.length ≤ i), List.getElem?_eq_none (by rw [List.length_range]; omega)]
  rfl
theorem aVn (v : List Body) (h : v.length ≤ 4096) : aAn (mS v) := by
 have hl := aId v
 refine ⟨by omega, rfl, ?_⟩
 rw [aCl v (by omega), hl]
 omega
theorem aWi {v : List Body} (hb : ∀ b ∈ v, InB b) (hl : v.length ≤ 4096) (hc : gX v = 0) : kS (mS v) = (v, 0) := by
 unfold kS
 rw [if_neg (Decidable.not_not.2 (aVn v hl)), aCl v (by omega), Int.toNat_natCast, aUn hb, if_neg (by omega)]
theorem pY {l : List Int} (hl : iW l) {a : Nat} (h : a + 4 ≤ l.length) : 0 ≤ eD l a ∧ eD l a ≤ 4294967295 ∧ cG (eD l a) = (l.drop a).take 4 := by
 have g (j : Nat) (hj : j < l.length) : l[j]? = some (l.getD j 0) ∧ 0 ≤ l.getD j 0 ∧ l.getD j 0 ≤ 255 := by
  rw [List.getD_eq_getElem?_getD, List.getElem?_eq_getElem hj]
  have hb := hl _ (List.getElem_mem hj)
  exact ⟨rfl, hb.1, hb.2⟩
 obtain ⟨g0, g1, g2⟩ := g a (by omega)
 obtain ⟨g3, g4, g5⟩ := g (a + 1) (by omega)
 obtain ⟨g6, g7, g8⟩ := g (a + 2) (by omega)
 obtain ⟨g9, ga, gb⟩ := g (a + 3) (by omega)
 have e : (l.drop a).take 4 = [l.getD a 0, l.getD (a + 1) 0, l.getD (a + 2) 0, l.getD (a + 3) 0] := by
  have hlen : ((l.drop a).take 4).length = 4 := by rw [List.length_take, List.length_drop]; omega
  refine List.ext_getElem? fun j => ?_
  rcases (show j = 0 ∨ j = 1 ∨ j = 2 ∨ j = 3 ∨ 4 ≤ j by omega) with rfl | rfl | rfl | rfl | hj
  ·rw [List.getElem?_take_of_lt (by omega), List.getElem?_drop]; simpa using g0
  ·rw [List.getElem?_take_of_lt (by omega), List.getElem?_drop]; simpa using g3
  ·rw [List.getElem?_take_of_lt (by omega), List.getElem?_drop]; simpa using g6
  ·rw [List.getElem?_take_of_lt (by omega), List.getElem?_drop]; simpa using g9
  ·rw [List.getElem?_eq_none (by omega), List.getElem?_eq_none (by simpa using hj)]
 rw [e]
 unfold eD cG
 generalize l.getD a 0 = p at *
 generalize l.getD (a + 1) 0 = q at *
 generalize l.getD (a + 2) 0 = r at *
 generalize l.getD (a + 3) 0 = s at *
 refine ⟨by omega, by omega, ?_⟩
 have h1 : (((p * 256 + q) * 256 + r) * 256 + s) / 16777216 % 256 = p := by omega
 have h2 : (((p * 256 + q) * 256 + r) * 256 + s) / 65536 % 256 = q := by omega
 have h3 : (((p * 256 + q) * 256 + r) * 256 + s) / 256 % 256 = r := by omega
 have h4 : (((p * 256 + q) * 256 + r) * 256 + s) % 256 = s := by omega
 rw [h1, h2, h3, h4]
theorem aLp (l : List Int) (k : Nat) : ∀ n, (List.range n).flatMap (fun i => (l.drop (k * i)).take k) = l.take (k * n)
 | 0 => by simp
 | n + 1 => by
  rw [List.range_succ, List.flatMap_append, aLp l k n, List.flatMap_cons, List.flatMap_nil, List.append_nil, Nat.mul_succ, List.take_add]
theorem lT {n : Int} (h : 0 ≤ n ∧ n ≤ 4294967295) : -2147483648 ≤ nQ n ∧ nQ n ≤ 2147483647 := by unfold nQ; split <;> omega
theorem aQp {l : List Int} (hl : iW l) {a : Nat} (h : a + 40 ≤ l.length) : InB (lB l a) := by
 have f (k : Nat) (hk : k ≤ 36) : 0 ≤ eD l (a + k) ∧ eD l (a + k) ≤ 4294967295 := by
  have := pY hl (a := a + k) (by omega)
  exact ⟨this.1, this.2.1⟩
 exact ⟨f 0 (by omega), lT (f 4 (by omega)), lT (f 8 (by omega)), lT (f 12 (by omega)), lT (f 16 (by omega)), lT (f 20 (by omega)), lT (f 24 (by omega)), lT (f 28 (by omega)), lT (f 32 (by omega)), lT (f 36 (by omega))⟩
theorem aZj {l : List Int} (hl : iW l) {a : Nat} (h : a + 40 ≤ l.length) : kY (lB l a) = (l.drop a).take 40 := by
 have f (k : Nat) (hk : k ≤ 36) : cG (eD l (a + k)) = ((l.drop a).drop k).take 4 := by rw [List.drop_drop]; exact (pY hl (a := a + k) (by omega)).2.2
 have e := aLp (l.drop a) 4 10
 rw [← e]
 unfold kY aTe lB
 simp only [List.flatMap_cons, List.flatMap_nil, aPu]
 have f0 := f 0 (by omega)
 rw [Nat.add_zero] at f0
 rw [f0, f 4 (by omega), f 8 (by omega), f 12 (by omega), f 16 (by omega), f 20 (by omega), f 24 (by omega), f 28 (by omega), f 32 (by omega), f 36 (by omega)]
 rfl
theorem yE (l : List Int) (n : Nat) : (mX l n).length = n := by unfold mX; rw [List.length_map, List.length_range]
theorem aBz {α β : Type} {l : List α} {f g : α → List β} (h : ∀ x ∈ l, f x = g x) : l.flatMap f = l.flatMap g := by
 induction l with
 | nil => rfl
 | cons x l ih => rw [List.flatMap_cons, List.flatMap_cons, h x (by simp), ih fun y hy => h y (by simp [hy])]
theorem aTb {l : List Int} (hl : iW l) {n : Nat} (h : l.length = 8 + 40 * n) : (mX l n).flatMap kY = l.drop 8 := by
 unfold mX
 rw [List.flatMap_map, aBz (g := fun i => ((l.drop 8).drop (40 * i)).take 40) (fun i hi => by
  have := List.mem_range.1 hi
  rw [List.drop_drop]
  exact aZj hl (by omega)), aLp, List.take_of_length_le (by rw [List.length_drop]; omega)]
structure DecOk (l : List Int) (v : List Body) : Prop where
 n : l.length = 8 + 40 * v.length
 e : mS v = l
 inb : ∀ b ∈ v, InB b
 c : gX v = 0
theorem aZz {l : List Int} (hl : iW l) (h : (kS l).2 = 0) : DecOk l (kS l).1 := by
 unfold kS at h ⊢
 by_cases hf : aAn l
 ·rw [if_neg (Decidable.not_not.2 hf)] at h ⊢
  by_cases hc : gX (mX l (eD l 4).toNat) = 0
  ·rw [if_neg (by omega)]
   obtain ⟨h8, hm, hn⟩ := hf
   have hr := pY hl (a := 4) (by omega)
   have hlen : l.length = 8 + 40 * (eD l 4).toNat := by omega
   show DecOk l (mX l (eD l 4).toNat)
   refine ⟨by rw [yE]; exact hlen, ?_, ?_, hc⟩
   ·unfold mS
    rw [aTb hl hlen, yE, show (((eD l 4).toNat : Nat) : Int) = eD l 4 by omega, hr.2.2, ← hm, ← List.take_add, List.take_append_drop]
   ·intro b hb
    unfold mX at hb
    obtain ⟨i, hi, rfl⟩ := List.mem_map.1 hb
    have := List.mem_range.1 hi
    exact aQp hl (by omega)
  ·rw [if_pos hc] at h
   exact absurd h hc
 ·rw [if_pos hf] at h
  cases h
def wQ (b : Body) : List Int := [b.key, b.radius % 4294967296, b.ax % 4294967296, b.ay % 4294967296, b.mass % 4294967296, b.bounce % 4294967296, b.px % 4294967296, b.py % 4294967296, b.vx % 4294967296, b.vy % 4294967296]
theorem aQt (b : Body) : (wQ b).flatMap cG = kY b := by
 unfold wQ kY aTe
 simp only [List.flatMap_cons, List.flatMap_nil, uP]
theorem aQe {b : Body} (h : InB b) : ∀ x ∈ wQ b, 0 ≤ x ∧ x ≤ 4294967295 := by
 obtain ⟨h0, _⟩ := h
 intro x hx
 simp only [wQ, List.mem_cons, List.not_mem_nil, or_false] at hx
 rcases hx with rfl | rfl | rfl | rfl | rfl | rfl | rfl | rfl | rfl | rfl <;> omega
theorem aRy {L : List Int} {j : Nat} {x : Int} (h : L[j]? = some x) : (L.take (j + 1)).flatMap cG = (L.take j).flatMap cG ++ cG x := by
 rw [cV h, List.flatMap_append, List.flatMap_cons, List.flatMap_nil, List.append_nil]
theorem aQj {v : List Body} {j : Nat} {x : Body} (h : v[j]? = some x) : (v.take (j + 1)).flatMap kY = (v.take j).flatMap kY ++ kY x := by
 rw [cV h, List.flatMap_append, List.flatMap_cons, List.flatMap_nil, List.append_nil]
theorem iF {l : List Int} {a m : Nat} (h : 4 ≤ m) : eD ((l.drop a).take m) 0 = eD l a := by
 have g (j : Nat) (hj : j < m) : ((l.drop a).take m).getD j 0 = l.getD (a + j) 0 := by
  rw [List.getD_eq_getElem?_getD, List.getD_eq_getElem?_getD, List.getElem?_take_of_lt hj, List.getElem?_drop]
 unfold eD
 rw [g 0 (by omega), g (0 + 1) (by omega), g (0 + 2) (by omega), g (0 + 3) (by omega)]
 rfl
theorem aQq (l : List Int) (k : Nat) : mX l (k + 1) = mX l k ++ [lB l (8 + 40 * k)] := by unfold mX; rw [List.range_succ, List.map_append]; rfl
theorem iW.sub {l : List Int} (h : iW l) (a m : Nat) : iW ((l.drop a).take m) := fun x hx => h x (List.mem_of_mem_drop (List.mem_of_mem_take hx))
end Go.Bil
namespace Go.Bil
theorem aEu {l : List Int} (h : ¬ aAn l) : kS l = ([], 13) := by unfold kS; rw [if_pos h]
theorem aYv {l : List Int} {N : Nat} (h : aAn l) (hN : eD l 4 = (N : Int)) (hc : gX (mX l N) ≠ 0) : kS l = ([], gX (mX l N)) := by
 unfold kS; rw [if_neg (Decidable.not_not.2 h), hN, Int.toNat_natCast, if_pos hc]
theorem aVe {l : List Int} {N : Nat} (h : aAn l) (hN : eD l 4 = (N : Int)) (hc : gX (mX l N) = 0) : kS l = (mX l N, 0) := by
 unfold kS; rw [if_neg (Decidable.not_not.2 h), hN, Int.toNat_natCast, if_neg (by omega)]
theorem bKa {l : List Int} (hl : iW l) {a : Nat} (h : a + 40 ≤ l.length) : ∀ x ∈ ([eD l a, eD l (a + 4), eD l (a + 8), eD l (a + 12), eD l (a + 16), eD l (a + 20), eD l (a + 24), eD l (a + 28), eD l (a + 32), eD l (a + 36)] : List Int), 0 ≤ x ∧ x ≤ 4294967295 := by
 have f (k : Nat) (hk : k ≤ 36) : 0 ≤ eD l (a + k) ∧ eD l (a + k) ≤ 4294967295 := by
  have := pY hl (a := a + k) (by omega)
  exact ⟨this.1, this.2.1⟩
 intro x hx
 simp only [List.mem_cons, List.not_mem_nil, or_false] at hx
 rcases hx with rfl | rfl | rfl | rfl | rfl | rfl | rfl | rfl | rfl | rfl
 ·exact f 0 (by omega)
 ·exact f 4 (by omega)
 ·exact f 8 (by omega)
 ·exact f 12 (by omega)
 ·exact f 16 (by omega)
 ·exact f 20 (by omega)
 ·exact f 24 (by omega)
 ·exact f 28 (by omega)
 ·exact f 32 (by omega)
 ·exact f 36 (by omega)
theorem vV : lG = ([66, 73, 76, 49] : List UInt8).map (fun y => (y.toNat : Int)) := by decide
end Go.Bil
